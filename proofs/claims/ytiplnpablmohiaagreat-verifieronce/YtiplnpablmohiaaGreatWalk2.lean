/- What the functions of this seat compute. -/
import Derived.Test.YtiplnpablmohiaaGreatTab
import Derived.Test.YtiplnpablmohiaaGreatKerbPlain
import Derived.Test.YtiplnpablmohiaaGreatAbsStep
import Derived.Test.YtiplnpablmohiaaGreatKerbCli3
import Derived.Test.YtiplnpablmohiaaGreatKerbCli4
import Derived.Test.YtiplnpablmohiaaGreatKerbKac4
import Derived.Test.YtiplnpablmohiaaGreatKerbVerL
open Go.Abs.AV renaming int→Zz,str→Zx,bool→Zv,u8→Zq,bs→Zk,tup→Zg,agg→Yv,sl→Yq,ownB→Xm,onAgg→Wx,onInt→Wg,onBool→Vw
open List renaming length→Zy,length_map→Yu,append→Yf,map→Xh,getD→Wf,all→Vu
open Option renaming bind→Zw
open Go.IntKind renaming i64→Zu,wrap→Zj,u16→Wz,u32→Qq
open Kerb renaming putPrin_len→Zp,putN_len→Zd,keyBytes_len→Zf,u8i→Yz,openTicket→Yy,within→Yw,putN→Yd,decodeTicket→Yg,get→Xv,prin→Xk,putText→Xp,decodeAp→Xd,openReq→Xb,text→Ww,decodeAuth→Wv,openAuth→Wu,spoil→Wq,openBox→Wj,map_toMark→Wp,encodeAuth→Wd,encodeTicket→Wb,encodeMutual→Wn,readAp→Wm,putText_len→Vz,wrap_u8i→Vq,map_toSKey→Vk,u8i_bd→Vb,toMark→Vn,validInst→Vh,readBox→Uz,marks_all→Uy,makeBox→Ux,keyRead→Uw,marks_of→Uk,encodeAp→Up,toSKey→Ub,isMark→Un,user→Qz,validName→Qy,skeys_all→Qx,serviceAnswer→Qw,text_len→Qf,skeys_of→Qg,marksErr→Qb
open Kerb.Dec renaming val→Zb,err→Um
open Kerb.Prin renaming mk→Zn,valid→Yx,realm→Yn,name→Xu,inst→Xq
open Int renaming toNat→Zm,tmod→Yb,tmod_eq_emod_of_nonneg→Xx,tdiv→Uj,tdiv_eq_ediv_of_nonneg→Qj,toNat_natCast→Qh
open Bool renaming and_eq_true→Zh,not_true→Yp,and_self→Xw
open UInt8 renaming toNat→Yj,ofNat→Vd
open Prod renaming snd→Yk,fst→Yh
open Kerb.Mark renaming av→Ym,err→Uv
open Kerb.Enc renaming val→Xz,err→Xy
open Kerb.Ticket renaming client→Xj,mk→Wk
open Kerb.Auth renaming client→Xf,mk→Wy
open Kerb.ApRequest renaming mk→Xg,mutual_→Uh,ticket→Qv,little→Qu,realm→Qp,kvno→Qn,auth→Qm
open Kerb.RCache renaming mk→Xn,err→Qk
open Kerb.SKey renaming err→Wh,av→Uf
open Kerb.Got renaming next→Vy,val→Vf,err→Vg
open Sum renaming inr→Vx
open Kerb.Client renaming av→Vv
open Kerb.GotAp renaming val→Vj
open Kerb.Case renaming mk→Vp
open Kerb.Cache renaming av→Vm
open Kerb.GotP renaming val→Uu
open Nat renaming le_trans→Uq
open Kerb.Server renaming mk→Ud
open Kerb.Cred renaming av→Ug
open Kerb.Accepted renaming client→Qd
namespace Go.Proofs.YtiplnpablmohiaaGreat
open Go Go.Abs Go.Proofs
set_option linter.unusedVariables false
set_option linter.unusedSimpArgs false
set_option maxRecDepth 100000
theorem w126:Walked Tryz.prog G 126 5 sp126:=by
 refine ⟨Tryz.f126,Tryz.func126,by decide +kernel,rfl,fun xs bl r h=> ?_⟩
 unfold sp126 at h
 split at h
 ·rename_i s
  obtain ⟨hpre,h2⟩:=chk_inv h;cases h2
  refine Eq.trans (b:=(sel (!s==[]) (sel (decide ((↑(Zy s):Int)≤39)) (Zw (chk (decide (Zy s≤9223372036854775807)) (some (Zv (Kerb.printable s [(46:UInt8),(64:UInt8)]),[]))) fun (r:AV×Blocks)=>onNilB (Yk r) (Vw (Yh r) fun b=>some (Zv b,[]))) (some (Zv false,[]))) (some (Zv false,[])):Option (AV×Blocks))) (by kernel_rfl) ?_
  simp only [A0]
  rw [chk_of hpre,decide_eq_decide.2 (show ((s.length:Int)≤39)↔s.length≤39 from by omega)]
  simp only [Qy]
  cases s with
  | nil=>rfl
  | cons x r=>cases decide ((x::r).length≤39)<;>rfl
 ·cases h
theorem w127:Walked Tryz.prog G 127 5 sp127:=by
 refine ⟨Tryz.f127,Tryz.func127,by decide +kernel,rfl,fun xs bl r h=> ?_⟩
 unfold sp127 at h
 split at h
 ·rename_i s
  obtain ⟨hpre,h2⟩:=chk_inv h;cases h2
  refine Eq.trans (b:=(sel (decide ((↑(Zy s):Int)≤39)) (Zw (chk (decide (Zy s≤9223372036854775807)) (some (Zv (Kerb.printable s [(64:UInt8)]),[]))) fun (r:AV×Blocks)=>onNilB (Yk r) (Vw (Yh r) fun b=>some (Zv b,[]))) (some (Zv false,[])):Option (AV×Blocks))) (by kernel_rfl) ?_
  simp only [A0]
  rw [chk_of hpre,decide_eq_decide.2 (show ((s.length:Int)≤39)↔s.length≤39 from by omega)]
  simp only [Vh]
  cases decide (s.length≤39)<;>rfl
 ·cases h
theorem w174:Walked Tryz.prog G 174 5 sp174:=by
 refine ⟨Tryz.f174,Tryz.func174,by decide +kernel,rfl,fun xs bl r h=> ?_⟩
 unfold sp174 at h
 split at h
 ·rename_i b
  obtain ⟨hpre,h2⟩:=chk_inv h;cases h2
  refine Eq.trans (b:=(let t1:Int:=Zj .i64 (↑(BitVec.toNat (BitVec.ofInt (IntKind.bits .i64) (Zj .i64 (Zj .i64 (↑(Yj (Wf b (Zm 10) (0:UInt8))):Int)*2 ^ min (Zm 8) (IntKind.bits .i64))) ||| BitVec.ofInt (IntKind.bits .i64) (Zj .i64 (↑(Yj (Wf b (Zm 11) (0:UInt8))):Int)))):Int);let t2:Option (AV×Blocks):=some (Zg [Yv [Zz .i64 0,Zz .u64 0,Zk []],Zz .i64 0,Zz .i64 100],[]);let t3:Option (AV×Blocks):=some (Zg [Yv [Zz .i64 0,Zz .u64 0,Zk []],Zz .i64 0,Zz .i64 101],[]);let t0:Int:=Zj .i64 (12+t1);sel (decide ((↑(Zy b):Int)<12)) t3 (chk (decide (1<(↑(Zy b):Int))) (chk (decide (10≤(↑(Zy b):Int))) (Zw (chk (decide (Zy (List.drop (Zm 2) (List.take (Zm 10) b))≤4611686018427387904)) (some (Zg [Zz .u64 (Yh (Uw (List.drop (Zm 2) (List.take (Zm 10) b)))),Zv (Yk (Uw (List.drop (Zm 2) (List.take (Zm 10) b))))],[]))) (kT fun vs=>cInt .u64 vs fun n r=>cBool r fun b_1 r=>onNil r (chk (decide (10<(↑(Zy b):Int))) (chk (decide (11<(↑(Zy b):Int))) (chk (decide (0<(↑(Zy b):Int))) (sel (!Wf b (Zm 0) (0:UInt8)==(66:UInt8)) t2 (sel (!Kerb.isKind (Zj .i64 (↑(Yj (Wf b (Zm 1) (0:UInt8))):Int))) t2 (sel (!b_1) t2 (sel (decide (t1>1000)) t2 (sel (decide ((↑(Zy b):Int)<t0)) t3 (chk (decide (12≤t0)&&decide (t0≤t0)&&decide (t0≤(↑(Zy b):Int))) (Zw (chk (decide (Zy (List.drop (Zm 12) (List.take (Zm t0) b))≤140737488355328)) (some (Zk (List.drop (Zm 12) (List.take (Zm t0) b)),[]))) (kB fun b_2=>some (Zg [Yv [Zz .i64 (Zj .i64 (↑(Yj (Wf b (Zm 1) (0:UInt8))):Int)),Zz .u64 n,Zk b_2],Zz .i64 t0,Zz .i64 0],[])))))))))))))))):Option (AV×Blocks))) (by kernel_rfl) ?_
  delta kT kB
  try dsimp only [cStr,cBs,cBool,cU8,cInt,cSl,l63]
  simp only [decide_eq_true_eq] at hpre
  unfold Uz
  by_cases h0:b.length<12
  ·rw [sel_pos (by simp;omega),if_pos h0];rfl
  rw [sel_neg (by simp;omega),if_neg h0]
  have hc:=Kerb.cut_len b 2 8
  have hs:(b.getD 10 0).toNat*256+(b.getD 11 0).toNat=Kerb.boxSize b:=rfl
  simp only [Kerb.cut_28,Kerb.size_or]
  simp only [show Zm 0=0 from rfl,show Zm 1=1 from rfl,show Zm 10=10 from rfl,show Zm 11=11 from rfl,Kerb.wrap_byte,hs]
  rw [chk_of (by simp;omega),chk_of (by simp;omega),chk_of (by simp;omega)]
  simp only [↓A0]
  rw [chk_of (by simp;omega),chk_of (by simp;omega),chk_of (by simp;omega)]
  by_cases h1:b.getD 0 0=66
  case neg=>rw [sel_pos (by simpa using h1),if_pos (.inl h1)];rfl
  rw [sel_neg (by simpa using h1)]
  cases h2:Kerb.isKind ((b.getD 1 0).toNat:Int)
  ·rw [if_pos (.inr (.inl rfl))];rfl
  rw [Yp,sel_false]
  cases h3:(Uw (Kerb.cut b 2 8)).2
  ·rw [if_pos (.inr (.inr (.inl rfl)))];rfl
  rw [Yp,sel_false]
  by_cases h4:1000<Kerb.boxSize b
  ·rw [sel_pos (by simp;omega),if_pos (.inr (.inr (.inr h4)))];rfl
  rw [sel_neg (by simp;omega),if_neg (by rintro (h | h | h | h)<;>first | exact h h1 | cases h | omega),wrap_i64 (by omega) (by omega)]
  by_cases h5:b.length<12+Kerb.boxSize b
  ·rw [sel_pos (by simp;omega),if_pos h5];rfl
  have hc2:=Kerb.cut_len b 12 (Kerb.boxSize b)
  rw [sel_neg (by simp;omega),if_neg h5,Kerb.cut_12,chk_of (by simp;omega)]
  simp only [↓A0]
  rw [chk_of (by simp;omega)]
  simp
 ·cases h
theorem w23:Walked Tryz.prog G 23 6 sp23:=by
 refine ⟨Tryz.f23,Tryz.func23,by decide +kernel,rfl,fun xs bl r h=> ?_⟩
 unfold sp23 at h
 split at h
 ·rename_i x y z k ad ck tm tc iss lf tk au li
  obtain ⟨hpre,h2⟩:=chk_inv h;cases h2
  refine Eq.trans (b:=(sel (!Xy (Wn (Kerb.Mutual.mk (Zj .i64 (Zj .u32 (Zj .i64 (ck+1)))) tc tm) li)==0) (some (Zg [Zk [],Zz .i64 (Xy (Wn (Kerb.Mutual.mk (Zj .i64 (Zj .u32 (Zj .i64 (ck+1)))) tc tm) li))],[])) (Zw (chk (decide (0≤k)&&decide (k<18446744073709551616)) (some (Zg [Zk (Xz (Ux 4 k (Xz (Wn (Kerb.Mutual.mk (Zj .i64 (Zj .u32 (Zj .i64 (ck+1)))) tc tm) li)))),Zz .i64 (Xy (Ux 4 k (Xz (Wn (Kerb.Mutual.mk (Zj .i64 (Zj .u32 (Zj .i64 (ck+1)))) tc tm) li))))],[]))) fun (r:AV×Blocks)=>onNilB (Yk r) (AV.onTup (Yh r) fun vs=>onCons vs fun x r=>AV.onBs x fun b=>onCons r fun x r=>Wg .i64 x fun n=>onNil r (sel (!n==0) (some (Zg [Zk [],Zz .i64 n],[])) (some (Zg [Zk (Xz (Kerb.encodeAns b li)),Zz .i64 (Xy (Kerb.encodeAns b li))],[]))))):Option (AV×Blocks))) (by kernel_rfl) ?_
  simp only [Zh,decide_eq_true_eq] at hpre
  have hs:Zj .i64 (Zj .u32 (Zj .i64 (ck+1)))=Kerb.nextSum ck:=Kerb.nextSum_in ck
  rw [hs]
  unfold Qw
  simp only [hpre,decide_true,Xw,↓A0,A0]
  by_cases h1:(Wn ⟨Kerb.nextSum ck,tc,tm⟩ li).err=0
  case neg=>rw [sel_pos (by simpa using h1),if_pos h1]
  rw [sel_neg (by simpa using h1),if_neg (by simpa using h1)]
  by_cases h2:(Ux 4 k (Wn ⟨Kerb.nextSum ck,tc,tm⟩ li).val).err=0
  case neg=>rw [sel_pos (by simpa using h2),if_pos h2]
  rw [sel_neg (by simpa using h2),if_neg (by simpa using h2)]
 ·cases h
theorem w43:Walked Tryz.prog G 43 6 sp43:=by
 refine ⟨Tryz.f43,Tryz.func43,by decide +kernel,rfl,fun xs bl r h=> ?_⟩
 unfold sp43 at h
 split at h
 ·rename_i li x y z ad k lf iss sv ins key
  obtain ⟨hpre,h2⟩:=chk_inv h;cases h2
  refine Eq.trans (b:=(Zw (chk (decide (Zy x≤9223372036854775807)&&decide (Zy y≤9223372036854775807)&&decide (Zy z≤9223372036854775807)&&decide (Zy sv≤9223372036854775807)&&decide (Zy ins≤9223372036854775807)&&decide (0≤k)&&decide (k<18446744073709551616)) (some (Zg [Zk (Xz (Wb (Wk li (Zn x y z) ad k lf iss sv ins))),Zz .i64 (Xy (Wb (Wk li (Zn x y z) ad k lf iss sv ins)))],[]))) fun (r:AV×Blocks)=>onNilB (Yk r) (AV.onTup (Yh r) fun vs=>onCons vs fun x r=>AV.onBs x fun b=>onCons r fun x r=>Wg .i64 x fun n=>onNil r (sel (!n==0) (some (Zg [Zk [],Zz .i64 n],[])) (Zw (chk (decide (0≤key)&&decide (key<18446744073709551616)) (some (Zg [Zk (Xz (Ux 1 key b)),Zz .i64 (Xy (Ux 1 key b))],[]))) fun (r:AV×Blocks)=>onNilB (Yk r) (AV.onTup (Yh r) fun vs=>onCons vs fun x r=>AV.onBs x fun b=>onCons r fun x r=>Wg .i64 x fun n=>onNil r (some (Zg [Zk b,Zz .i64 n],[])))))):Option (AV×Blocks))) (by kernel_rfl) ?_
  simp only [Zh,decide_eq_true_eq] at hpre
  obtain ⟨⟨⟨⟨⟨⟨⟨⟨h1,h2⟩,h3⟩,h4⟩,h5⟩,h6⟩,h7⟩,h8⟩,h9⟩:=hpre
  simp only [h1,h2,h3,h4,h5,h6,h7,h8,h9,decide_true,Xw,↓A0,A0]
  unfold Kerb.sealTicket
  generalize Wb _=E
  by_cases he:E.err=0
  ·rw [sel_neg (by simpa using he),if_neg (by simpa using he)]
  ·rw [sel_pos (by simpa using he),if_pos he]
 ·cases h
theorem w44:Walked Tryz.prog G 44 6 sp44:=by
 refine ⟨Tryz.f44,Tryz.func44,by decide +kernel,rfl,fun xs bl r h=> ?_⟩
 unfold sp44 at h
 split at h
 ·rename_i x y z ck tc tm li k
  obtain ⟨hpre,h2⟩:=chk_inv h;cases h2
  refine Eq.trans (b:=(Zw (chk (decide (Zy x≤9223372036854775807)&&decide (Zy y≤9223372036854775807)&&decide (Zy z≤9223372036854775807)) (some (Zg [Zk (Xz (Wd (Wy (Zn x y z) ck tc tm) li)),Zz .i64 (Xy (Wd (Wy (Zn x y z) ck tc tm) li))],[]))) fun (r:AV×Blocks)=>onNilB (Yk r) (AV.onTup (Yh r) fun vs=>onCons vs fun x r=>AV.onBs x fun b=>onCons r fun x r=>Wg .i64 x fun n=>onNil r (sel (!n==0) (some (Zg [Zk [],Zz .i64 n],[])) (Zw (chk (decide (0≤k)&&decide (k<18446744073709551616)) (some (Zg [Zk (Xz (Ux 2 k b)),Zz .i64 (Xy (Ux 2 k b))],[]))) fun (r:AV×Blocks)=>onNilB (Yk r) (AV.onTup (Yh r) fun vs=>onCons vs fun x r=>AV.onBs x fun b=>onCons r fun x r=>Wg .i64 x fun n=>onNil r (some (Zg [Zk b,Zz .i64 n],[])))))):Option (AV×Blocks))) (by kernel_rfl) ?_
  have hpre':=hpre
  simp only [Zh,decide_eq_true_eq] at hpre
  have c1:(decide (x.length≤9223372036854775807)&&decide (y.length≤9223372036854775807)&&decide (z.length≤9223372036854775807))=true:=by simp;omega
  have c2:(decide (0≤k)&&decide (k<18446744073709551616))=true:=by simp;omega
  simp only [A0,Vv,Vm,Ug,c1,c2]
  unfold Kerb.sealAuth
  by_cases h:(Wd (Wy ⟨x,y,z⟩ ck tc tm) li).err=0
  ·rw [sel_neg (by simp [h]),if_neg (by simpa using h)]
  ·rw [sel_pos (by simpa using h),if_pos h]
 ·cases h
theorem w128:Walked Tryz.prog G 128 6 sp128:=by
 refine ⟨Tryz.f128,Tryz.func128,by decide +kernel,rfl,fun xs bl r h=> ?_⟩
 unfold sp128 at h
 split at h
 ·rename_i s
  obtain ⟨hpre,h2⟩:=chk_inv h;cases h2
  refine Eq.trans (b:=(sel (!s==[]) (Zw (chk (decide (Zy s≤9223372036854775807)) (some (Zv (Vh s),[]))) fun (r:AV×Blocks)=>onNilB (Yk r) (Vw (Yh r) fun b=>some (Zv b,[]))) (some (Zv false,[])):Option (AV×Blocks))) (by kernel_rfl) ?_
  simp only [A0]
  rw [chk_of hpre]
  simp only [Kerb.validRealm]
  cases s<;>rfl
 ·cases h
theorem w153:Walked Tryz.prog G 153 6 sp153:=by
 refine ⟨Tryz.f153,Tryz.func153,by decide +kernel,rfl,fun xs bl r h=> ?_⟩
 unfold sp153 at h
 split at h
 ·rename_i b kd k
  obtain ⟨hpre,h2⟩:=chk_inv h;cases h2
  refine Eq.trans (b:=(Zw (chk (decide (Zy b≤140737488355328)) (some (Zg [Yv [Zz .i64 (Kerb.Box.kind (Kerb.GotBox.box (Uz b))),Zz .u64 (Kerb.Box.key (Kerb.GotBox.box (Uz b))),Zk (Kerb.Box.body (Kerb.GotBox.box (Uz b)))],Zz .i64 (Kerb.GotBox.n (Uz b)),Zz .i64 (Kerb.GotBox.err (Uz b))],[]))) fun (r:AV×Blocks)=>onNilB (Yk r) (AV.onTup (Yh r) fun vs=>onCons vs fun x r=>Wx x fun cs=>onCons cs fun x r_1=>Wg .i64 x fun n=>onCons r_1 fun x r_2=>Wg .u64 x fun n_1=>onCons r_2 fun x r_3=>AV.onBs x fun b_1=>onNil r_3 (onCons r fun x r=>Wg .i64 x fun n_2=>onCons r fun x r=>Wg .i64 x fun n_3=>onNil r (sel (!n_3==0) (some (Zg [Zk [],Zv false],[])) (sel (!n_2==(↑(Zy b):Int)) (some (Zg [Zk [],Zv false],[])) (sel (!n==kd) (some (Zg [Zk [],Zv false],[])) (sel (!n_1==k) (some (Zg [Zk [],Zv false],[])) (some (Zg [Zk b_1,Zv true],[])))))))):Option (AV×Blocks))) (by kernel_rfl) ?_
  simp only [↓A0,hpre]
  unfold Wj
  generalize Uz b=r
  by_cases h1:r.err=0
  case neg=>rw [sel_pos (by simpa using h1),if_pos (.inl h1)]
  rw [sel_neg (by simpa using h1)]
  by_cases h2:r.n=b.length
  case neg=>rw [sel_pos (by simpa using h2),if_pos (.inr (.inl h2))]
  rw [sel_neg (by simpa using h2)]
  by_cases h3:r.box.kind=kd
  case neg=>rw [sel_pos (by simpa using h3),if_pos (.inr (.inr (.inl h3)))]
  rw [sel_neg (by simpa using h3)]
  by_cases h4:r.box.key=k
  case neg=>rw [sel_pos (by simpa using h4),if_pos (.inr (.inr (.inr h4)))]
  rw [sel_neg (by simpa using h4),if_neg (by simp [h1,h2,h3,h4])]
 ·cases h
set_option maxHeartbeats 4000000 in
theorem w19:Walked Tryz.prog G 19 7 sp19:=by
 refine ⟨Tryz.f19,Tryz.func19,by decide +kernel,rfl,fun xs bl r h=> ?_⟩
 unfold sp19 at h
 split at h
 ·rename_i cu co cv cr lt tn mt cad cfr cis ctm ctk clf ccs cky ckv css ctt cau x y z k v
  obtain ⟨hpre,h2⟩:=chk_inv h;cases h2
  refine Eq.trans (b:=(let t0:Int:=Yb (Zj .i64 (↑(Yj cu):Int)) 6;let t1:Int:=Yb (Zj .i64 (↑(Yj css):Int)) 4;let t2:AV:=Zz .i64 (Zj .i64 (1000+Zj .i64 (Zj .i64 (↑(Yj cis):Int)*8)));Zw (chk (decide (0≤t0)&&decide (t0≤4611686018427387904)) (some (Yv [Zx (Xu (Qz t0)),Zx (Xq (Qz t0)),Zx (Yn (Qz t0))],[]))) (kA fun cs=>onCons cs fun x_1 r=>AV.onStr x_1 fun b=>onCons r fun x_2 r=>AV.onStr x_2 fun b_1=>onCons r fun x_3 r=>AV.onStr x_3 fun b_2=>onNil r (Zw (chk (decide (0≤t1)&&decide (t1≤1000)) (some (Zz .u64 (Kerb.session t1),[]))) (kI .u64 fun n=>Zw (sel (Vd (Zm (Yb (↑(Yj cv):Int) (↑(Yj (7:UInt8)):Int)))==(6:UInt8)) (some [Zz .u64 k,Zz .i64 v,Zq cu,Zq co,Zq cv,Zq cr,Zv lt,Zv tn,Zv mt,Zq cad,Zq cfr,Zq cis,Zq ctm,Zq ctk,Zq clf,Zz .u32 ccs,Zq cky,Zq ckv,Zq css,Zz .u16 ctt,Zz .u16 cau,Zx x,Zx y,Zx z,Zv false,Zv false,Zz .i64 0,Zx [],Zk [],Zk [],Zv tn,Zx b,Zx b_1,Zx b_2,Zz .i64 (Yb (Zj .i64 (↑(Yj cad):Int)) 3),Zz .u64 n,Zz .i64 (Zj .i64 (Uj (Zj .i64 (↑(Yj clf):Int)) 4)),t2,Zx x,Zx [(111:UInt8),(116:UInt8),(104:UInt8),(101:UInt8),(114:UInt8)]]) (some [Zz .u64 k,Zz .i64 v,Zq cu,Zq co,Zq cv,Zq cr,Zv lt,Zv tn,Zv mt,Zq cad,Zq cfr,Zq cis,Zq ctm,Zq ctk,Zq clf,Zz .u32 ccs,Zq cky,Zq ckv,Zq css,Zz .u16 ctt,Zz .u16 cau,Zx x,Zx y,Zx z,Zv false,Zv false,Zz .i64 0,Zx [],Zk [],Zk [],Zv tn,Zx b,Zx b_1,Zx b_2,Zz .i64 (Yb (Zj .i64 (↑(Yj cad):Int)) 3),Zz .u64 n,Zz .i64 (Zj .i64 (Uj (Zj .i64 (↑(Yj clf):Int)) 4)),t2,Zx x,Zx y])) fun l=>cInt .u64 l fun n r=>cInt .i64 r fun n_1 r=>cU8 r fun b r=>cU8 r fun b_3 r=>let t3:Int:=Yb (Zj .i64 (↑(Yj b_3):Int)) 6;cU8 r fun b_4 r=>cU8 r fun b_5 r=>cBool r fun b_6 r=>cBool r fun b_7 r=>cBool r fun b_8 r=>cU8 r fun b_9 r=>cU8 r fun b_10 r=>cU8 r fun b_11 r=>cU8 r fun b_12 r=>let t4:List AV:=[Zz .i64 (Zj .i64 (1000+Zj .i64 (Zj .i64 (↑(Yj b_12):Int)*8)))];cU8 r fun b_13 r=>cU8 r fun b_14 r=>cInt .u32 r fun n_2 r=>let t5:List AV:=Zz .i64 (Zj .i64 n_2)::Zz .i64 (Yb (Zj .i64 (↑(Yj b_13):Int)) 3)::t4;cU8 r fun b_15 r=>cU8 r fun b_16 r=>cU8 r fun b_17 r=>cInt .u16 r fun n_3 r=>cInt .u16 r fun n_4 r=>cStr r fun b_18 r=>cStr r fun b_19 r=>cStr r fun b_20 r=>cBool r fun b_21 r=>cBool r fun b_22 r=>cInt .i64 r fun n_5 r=>cStr r fun b_23 r=>cBs r fun b_24 r=>cBs r fun b_25 r=>cBool r fun b_26 r=>cStr r fun b_27 r=>cStr r fun b_28 r=>cStr r fun b_29 r=>cInt .i64 r fun n_6 r=>cInt .u64 r fun n_7 r=>cInt .i64 r fun n_8 r=>cInt .i64 r fun n_9 r=>cStr r fun b_30 r=>cStr r fun b_31 r=>onNil r (Zw (sel (Vd (Zm (Yb (↑(Yj b_3):Int) (↑(Yj (8:UInt8)):Int)))==(7:UInt8)) (Zw (chk (decide (0≤t3)&&decide (t3≤4611686018427387904)) (some (Yv [Zx (Xu (Qz t3)),Zx (Xq (Qz t3)),Zx (Yn (Qz t3))],[]))) (kA fun cs=>cStr cs fun b_32 r=>cStr r fun b_33 r=>cStr r fun b_34 r=>onNil r (some (Zz .u64 n::Zz .i64 n_1::Zq b::Zq b_3::Zq b_4::Zq b_5::Zv b_6::Zv b_7::Zv b_8::Zq b_9::Zq b_10::Zq b_11::Zq b_12::Zq b_13::Zq b_14::Zz .u32 n_2::Zq b_15::Zq b_16::Zq b_17::Zz .u16 n_3::Zz .u16 n_4::Zx b_18::Zx b_19::Zx b_20::Zv b_21::Zv b_22::Zz .i64 n_5::Zx b_23::Zk b_24::Zk b_25::Zv b_26::Zx b_27::Zx b_28::Zx b_29::Zz .i64 n_6::Zz .u64 n_7::Zz .i64 n_8::Zz .i64 n_9::Zx b_30::Zx b_31::Zx b_32::Zx b_33::Zx b_34::t5)))) (some (Zz .u64 n::Zz .i64 n_1::Zq b::Zq b_3::Zq b_4::Zq b_5::Zv b_6::Zv b_7::Zv b_8::Zq b_9::Zq b_10::Zq b_11::Zq b_12::Zq b_13::Zq b_14::Zz .u32 n_2::Zq b_15::Zq b_16::Zq b_17::Zz .u16 n_3::Zz .u16 n_4::Zx b_18::Zx b_19::Zx b_20::Zv b_21::Zv b_22::Zz .i64 n_5::Zx b_23::Zk b_24::Zk b_25::Zv b_26::Zx b_27::Zx b_28::Zx b_29::Zz .i64 n_6::Zz .u64 n_7::Zz .i64 n_8::Zz .i64 n_9::Zx b_30::Zx b_31::Zx b_27::Zx b_28::Zx b_29::t5))) fun l=>cInt .u64 l fun n r=>cInt .i64 r fun n_10 r=>cU8 r fun b r=>cU8 r fun b_32 r=>cU8 r fun b_33 r=>cU8 r fun b_34 r=>cBool r fun b_35 r=>cBool r fun b_36 r=>cBool r fun b_37 r=>cU8 r fun b_38 r=>cU8 r fun b_39 r=>cU8 r fun b_40 r=>cU8 r fun b_41 r=>cU8 r fun b_42 r=>cU8 r fun b_43 r=>cInt .u32 r fun n_11 r=>cU8 r fun b_44 r=>cU8 r fun b_45 r=>cU8 r fun b_46 r=>cInt .u16 r fun n_12 r=>cInt .u16 r fun n_13 r=>cStr r fun b_47 r=>cStr r fun b_48 r=>cStr r fun b_49 r=>cBool r fun b_50 r=>cBool r fun b_51 r=>cInt .i64 r fun n_14 r=>cStr r fun b_52 r=>cBs r fun b_53 r=>cBs r fun b_54 r=>cBool r fun b_55 r=>cStr r fun b_56 r=>cStr r fun b_57 r=>cStr r fun b_58 r=>cInt .i64 r fun n_15 r=>cInt .u64 r fun n_16 r=>cInt .i64 r fun n_17 r=>cInt .i64 r fun n_18 r=>cStr r fun b_59 r=>cStr r fun b_60 r=>cStr r fun b_61 r=>cStr r fun b_62 r=>cStr r fun b_63 r=>cInt .i64 r fun n_19 r=>cInt .i64 r fun n_20 r=>cInt .i64 r fun n_21 r=>onNil r (Zw (chk (l63 b_56&&l63 b_57&&l63 b_58&&l63 b_59&&l63 b_60&&decide (0≤n_16)&&decide (n_16<18446744073709551616)&&decide (0≤n)&&decide (n<18446744073709551616)) (some (Zg [Zk (Xz (Kerb.sealTicket (Wk b_55 (Zn b_56 b_57 b_58) n_15 n_16 n_17 n_18 b_59 b_60) n)),Zz .i64 (Xy (Kerb.sealTicket (Wk b_55 (Zn b_56 b_57 b_58) n_15 n_16 n_17 n_18 b_59 b_60) n))],[]))) (kT fun vs=>cBs vs fun b_64 r=>cInt .i64 r fun n r=>onNil r (Zw (chk (l63 b_61&&l63 b_62&&l63 b_63&&decide (0≤n_16)&&decide (n_16<18446744073709551616)) (some (Zg [Zk (Xz (Kerb.sealAuth (Wy (Zn b_61 b_62 b_63) n_19 n_20 n_21) b_35 n_16)),Zz .i64 (Xy (Kerb.sealAuth (Wy (Zn b_61 b_62 b_63) n_19 n_20 n_21) b_35 n_16))],[]))) (kT fun vs=>cBs vs fun b_65 r=>cInt .i64 r fun n r=>onNil r (Zw (sel (Yb n_12 16==15) (Zw (chk (decide (Zy b_64≤1000000)&&decide (0≤Zj .u16 (Uj n_12 16))&&decide (Zj .u16 (Uj n_12 16)≤65535)) (some (Zk (Wq b_64 (Zj .u16 (Uj n_12 16))),[]))) (kB fun b_66=>some [Zq b,Zq b_32,Zq b_33,Zq b_34,Zv b_35,Zv b_36,Zv b_37,Zq b_38,Zq b_39,Zq b_40,Zq b_41,Zq b_42,Zq b_43,Zz .u32 n_11,Zq b_44,Zq b_45,Zq b_46,Zz .u16 n_12,Zz .u16 n_13,Zv b_50,Zv b_51,Zz .i64 n_14,Zx b_52,Zk b_53,Zk b_54,Zk b_65,Zv b_35,Zv b_37,Zz .i64 n_10,Zx b_49,Zk b_66,Zk b_65])) (some [Zq b,Zq b_32,Zq b_33,Zq b_34,Zv b_35,Zv b_36,Zv b_37,Zq b_38,Zq b_39,Zq b_40,Zq b_41,Zq b_42,Zq b_43,Zz .u32 n_11,Zq b_44,Zq b_45,Zq b_46,Zz .u16 n_12,Zz .u16 n_13,Zv b_50,Zv b_51,Zz .i64 n_14,Zx b_52,Zk b_53,Zk b_54,Zk b_65,Zv b_35,Zv b_37,Zz .i64 n_10,Zx b_49,Zk b_64,Zk b_65])) fun l=>cU8 l fun b r=>cU8 r fun b_66 r=>cU8 r fun b_67 r=>cU8 r fun b_68 r=>cBool r fun b_69 r=>cBool r fun b_70 r=>cBool r fun b_71 r=>cU8 r fun b_72 r=>cU8 r fun b_73 r=>cU8 r fun b_74 r=>cU8 r fun b_75 r=>cU8 r fun b_76 r=>cU8 r fun b_77 r=>cInt .u32 r fun n r=>cU8 r fun b_78 r=>cU8 r fun b_79 r=>cU8 r fun b_80 r=>cInt .u16 r fun n_22 r=>cInt .u16 r fun n_23 r=>cBool r fun b_81 r=>cBool r fun b_82 r=>cInt .i64 r fun n_24 r=>cStr r fun b_83 r=>cBs r fun b_84 r=>cBs r fun b_85 r=>cBs r fun b_86 r=>cBool r fun b_87 r=>cBool r fun b_88 r=>cInt .i64 r fun n_25 r=>cStr r fun b_89 r=>cBs r fun b_90 r=>cBs r fun b_91 r=>onNil r (Zw (sel (Yb n_23 16==15) (Zw (chk (decide (Zy b_86≤1000000)&&decide (0≤Zj .u16 (Uj n_23 16))&&decide (Zj .u16 (Uj n_23 16)≤65535)) (some (Zk (Wq b_86 (Zj .u16 (Uj n_23 16))),[]))) (kB fun b_92=>some [Zq b,Zq b_66,Zq b_67,Zq b_68,Zv b_69,Zv b_70,Zv b_71,Zq b_72,Zq b_73,Zq b_74,Zq b_75,Zq b_76,Zq b_77,Zz .u32 n,Zq b_78,Zq b_79,Zq b_80,Zz .u16 n_22,Zz .u16 n_23,Zv b_81,Zv b_82,Zz .i64 n_24,Zx b_83,Zk b_84,Zk b_85,Zv b_87,Zv b_88,Zz .i64 n_25,Zx b_89,Zk b_90,Zk b_92])) (some [Zq b,Zq b_66,Zq b_67,Zq b_68,Zv b_69,Zv b_70,Zv b_71,Zq b_72,Zq b_73,Zq b_74,Zq b_75,Zq b_76,Zq b_77,Zz .u32 n,Zq b_78,Zq b_79,Zq b_80,Zz .u16 n_22,Zz .u16 n_23,Zv b_81,Zv b_82,Zz .i64 n_24,Zx b_83,Zk b_84,Zk b_85,Zv b_87,Zv b_88,Zz .i64 n_25,Zx b_89,Zk b_90,Zk b_91])) fun l=>cU8 l fun b r=>cU8 r fun b_92 r=>cU8 r fun b_93 r=>cU8 r fun b_94 r=>cBool r fun b_95 r=>cBool r fun b_96 r=>cBool r fun b_97 r=>cU8 r fun b_98 r=>cU8 r fun b_99 r=>cU8 r fun b_100 r=>cU8 r fun b_101 r=>cU8 r fun b_102 r=>cU8 r fun b_103 r=>cInt .u32 r fun n r=>cU8 r fun b_104 r=>cU8 r fun b_105 r=>cU8 r fun b_106 r=>cInt .u16 r fun n_26 r=>cInt .u16 r fun n_27 r=>cBool r fun b_107 r=>cBool r fun b_108 r=>cInt .i64 r fun n_28 r=>cStr r fun b_109 r=>cBs r fun b_110 r=>cBs r fun b_111 r=>cBool r fun b_112 r=>cBool r fun b_113 r=>cInt .i64 r fun n_29 r=>cStr r fun b_114 r=>cBs r fun b_115 r=>cBs r fun b_116 r=>let t6:List AV:=[Zv b_113,Zz .i64 n_29,Zx b_114,Zk b_115,Zk b_116];onNil r (Zw (sel (Yb n_27 16==14) (some (Zq b::Zq b_92::Zq b_93::Zq b_94::Zv b_95::Zv b_96::Zv b_97::Zq b_98::Zq b_99::Zq b_100::Zq b_101::Zq b_102::Zq b_103::Zz .u32 n::Zq b_104::Zq b_105::Zq b_106::Zz .u16 n_26::Zz .u16 n_27::Zv b_107::Zv b_108::Zz .i64 n_28::Zx b_109::Zk b_110::Zk b_111::(Zv !b_112)::t6)) (some (Zq b::Zq b_92::Zq b_93::Zq b_94::Zv b_95::Zv b_96::Zv b_97::Zq b_98::Zq b_99::Zq b_100::Zq b_101::Zq b_102::Zq b_103::Zz .u32 n::Zq b_104::Zq b_105::Zq b_106::Zz .u16 n_26::Zz .u16 n_27::Zv b_107::Zv b_108::Zz .i64 n_28::Zx b_109::Zk b_110::Zk b_111::Zv b_112::t6))) fun l=>cU8 l fun b r=>cU8 r fun b_117 r=>cU8 r fun b_118 r=>cU8 r fun b_119 r=>cBool r fun b_120 r=>cBool r fun b_121 r=>cBool r fun b_122 r=>cU8 r fun b_123 r=>cU8 r fun b_124 r=>cU8 r fun b_125 r=>cU8 r fun b_126 r=>cU8 r fun b_127 r=>cU8 r fun b_128 r=>cInt .u32 r fun n r=>cU8 r fun b_129 r=>cU8 r fun b_130 r=>cU8 r fun b_131 r=>cInt .u16 r fun n_30 r=>cInt .u16 r fun n_31 r=>cBool r fun b_132 r=>cBool r fun b_133 r=>cInt .i64 r fun n_32 r=>cStr r fun b_134 r=>cBs r fun b_135 r=>cBs r fun b_136 r=>cBool r fun b_137 r=>cBool r fun b_138 r=>cInt .i64 r fun n_33 r=>cStr r fun b_139 r=>cBs r fun b_140 r=>cBs r fun b_141 r=>onNil r (Zw (sel (Vd (Zm (Yb (↑(Yj b_130):Int) (↑(Yj (16:UInt8)):Int)))==(15:UInt8)) (some [Zq b,Zq b_117,Zq b_118,Zq b_119,Zv b_120,Zv b_121,Zv b_122,Zq b_123,Zq b_124,Zq b_125,Zq b_126,Zq b_127,Zq b_128,Zz .u32 n,Zq b_129,Zq b_130,Zq b_131,Zz .u16 n_30,Zz .u16 n_31,Zv b_132,Zv b_133,Zz .i64 n_32,Zx b_134,Zk b_135,Zk b_136,Zv b_137,Zv b_138,Zz .i64 (Zj .i64 (n_33+1)),Zx b_139,Zk b_140,Zk b_141]) (some [Zq b,Zq b_117,Zq b_118,Zq b_119,Zv b_120,Zv b_121,Zv b_122,Zq b_123,Zq b_124,Zq b_125,Zq b_126,Zq b_127,Zq b_128,Zz .u32 n,Zq b_129,Zq b_130,Zq b_131,Zz .u16 n_30,Zz .u16 n_31,Zv b_132,Zv b_133,Zz .i64 n_32,Zx b_134,Zk b_135,Zk b_136,Zv b_137,Zv b_138,Zz .i64 n_33,Zx b_139,Zk b_140,Zk b_141])) fun l=>cU8 l fun b r=>cU8 r fun b r=>cU8 r fun b r=>cU8 r fun b r=>cBool r fun b_142 r=>cBool r fun b_143 r=>cBool r fun b_144 r=>cU8 r fun b_145 r=>cU8 r fun b_146 r=>cU8 r fun b_147 r=>cU8 r fun b_148 r=>cU8 r fun b_149 r=>cU8 r fun b_150 r=>cInt .u32 r fun n r=>cU8 r fun b_151 r=>cU8 r fun b_152 r=>cU8 r fun b_153 r=>cInt .u16 r fun n r=>cInt .u16 r fun n r=>cBool r fun b_154 r=>cBool r fun b_155 r=>cInt .i64 r fun n r=>cStr r fun b_156 r=>cBs r fun b_157 r=>cBs r fun b_158 r=>cBool r fun b_159 r=>cBool r fun b_160 r=>cInt .i64 r fun n_34 r=>cStr r fun b_161 r=>cBs r fun b_162 r=>cBs r fun b_163 r=>onNil r (Zw (sel (Vd (Zm (Yb (↑(Yj b):Int) (↑(Yj (16:UInt8)):Int)))==(15:UInt8)) (some [Zv b_154,Zv b_155,Zz .i64 n,Zx b_156,Zk b_157,Zk b_158,Zv b_159,Zv b_160,Zz .i64 n_34,Zx [(67:UInt8),(65:UInt8),(77:UInt8)],Zk b_162,Zk b_163]) (some [Zv b_154,Zv b_155,Zz .i64 n,Zx b_156,Zk b_157,Zk b_158,Zv b_159,Zv b_160,Zz .i64 n_34,Zx b_161,Zk b_162,Zk b_163])) fun l=>cBool l fun b r=>cBool r fun b r=>cInt .i64 r fun n r=>cStr r fun b r=>cBs r fun b r=>cBs r fun b r=>cBool r fun b r=>cBool r fun b_164 r=>cInt .i64 r fun n r=>cStr r fun b_165 r=>cBs r fun b_166 r=>cBs r fun b_167 r=>onNil r (some (Yv [Zv b,Zv b_164,Zz .i64 n,Zx b_165,Zk b_166,Zk b_167],[]))))))))))))))):Option (AV×Blocks))) (by kernel_rfl) ?_
  delta kT kA kB kI
  try dsimp only [cStr,cBs,cBool,cU8,cInt,cSl,l63]
  simp only [Zh,decide_eq_true_eq] at hpre
  obtain ⟨⟨⟨⟨⟨⟨⟨⟨⟨⟨⟨l1,l2⟩,l3⟩,hk⟩,v0⟩,v1⟩,c0⟩,c1⟩,t0⟩,t1⟩,a0⟩,a1⟩:=hpre
  have hk:=Kerb.isU64_iff.1 hk
  have bcu:=Vb cu
  have bco:=Vb co
  have bcs:=Vb css
  have bca:=Vb cad
  have bci:=Vb cis
  have bct:=Vb ctm
  have bck:=Vb ctk
  have bcl:=Vb clf
  have f1:Yb (Yz cu) 6=Yz cu % 6:=Xx bcu.1
  have f2:Yb (Yz co) 6=Yz co % 6:=Xx bco.1
  have f3:Yb (Yz css) 4=Yz css % 4:=Xx bcs.1
  have f4:Yb (Yz cad) 3=Yz cad % 3:=Xx bca.1
  have f5:Zj .i64 (1000+Zj .i64 (Yz cis*8))=1000+Yz cis*8:=by rw [wrap_i64 (n:=Yz cis*8) (by omega) (by omega)];exact wrap_i64 (by omega) (by omega)
  have f6:Zj .i64 (1000+Zj .i64 (Yz ctm*8))=1000+Yz ctm*8:=by rw [wrap_i64 (n:=Yz ctm*8) (by omega) (by omega)];exact wrap_i64 (by omega) (by omega)
  have f7:Yb (Yz ctk) 3=Yz ctk % 3:=Xx bck.1
  have f8:Zj .i64 (Uj (Yz clf) 4)=Yz clf / 4:=by rw [Qj bcl.1];exact wrap_i64 (by omega) (by omega)
  have f9:Zj .i64 ccs=ccs:=wrap_i64 (by omega) (by omega)
  have fa:Zj .i64 (v+1)=v+1:=wrap_i64 (by omega) (by omega)
  have fb:Yb ctt 16=ctt % 16:=Xx (by omega)
  have fc:Yb cau 16=cau % 16:=Xx (by omega)
  have fd:Zj .u16 (Uj ctt 16)=ctt / 16:=by rw [Qj (by omega)];rw [Kerb.wrap_u16];omega
  have fe:Zj .u16 (Uj cau 16)=cau / 16:=by rw [Qj (by omega)];rw [Kerb.wrap_u16];omega
  have g1:(decide ((0:Int)≤Yz cu % 6)&&decide (Yz cu % 6≤4611686018427387904))=true:=by simp;omega
  have g2:(decide ((0:Int)≤Yz co % 6)&&decide (Yz co % 6≤4611686018427387904))=true:=by simp;omega
  have g3:(decide ((0:Int)≤Yz css % 4)&&decide (Yz css % 4≤1000))=true:=by simp;omega
  have g4:(decide ((0:Int)≤ctt / 16)&&decide (ctt / 16≤65535))=true:=by simp;omega
  have g5:(decide ((0:Int)≤cau / 16)&&decide (cau / 16≤65535))=true:=by simp;omega
  have u1:(Vd (Zm (Yb (cv.toNat:Int) ((7:UInt8).toNat:Int)))==(6:UInt8))=decide (cv.toNat % 7=6):=by
   have h7:Zm (Yb (cv.toNat:Int) ((7:UInt8).toNat:Int))=cv.toNat % 7:=Kerb.tmod_u8 cv 7 (by omega)
   rw [h7];exact Kerb.u8_beq (k:=6) (by omega) (by decide)
  have u2:(Vd (Zm (Yb (co.toNat:Int) ((8:UInt8).toNat:Int)))==(7:UInt8))=decide (co.toNat % 8=7):=by
   have h7:Zm (Yb (co.toNat:Int) ((8:UInt8).toNat:Int))=co.toNat % 8:=Kerb.tmod_u8 co 8 (by omega)
   rw [h7];exact Kerb.u8_beq (k:=7) (by omega) (by decide)
  have u3:(Vd (Zm (Yb (ckv.toNat:Int) ((16:UInt8).toNat:Int)))==(15:UInt8))=decide (ckv.toNat % 16=15):=by
   have h7:Zm (Yb (ckv.toNat:Int) ((16:UInt8).toNat:Int))=ckv.toNat % 16:=Kerb.tmod_u8 ckv 16 (by omega)
   rw [h7];exact Kerb.u8_beq (k:=15) (by omega) (by decide)
  have u4:(Vd (Zm (Yb (cr.toNat:Int) ((16:UInt8).toNat:Int)))==(15:UInt8))=decide (cr.toNat % 16=15):=by
   have h7:Zm (Yb (cr.toNat:Int) ((16:UInt8).toNat:Int))=cr.toNat % 16:=Kerb.tmod_u8 cr 16 (by omega)
   rw [h7];exact Kerb.u8_beq (k:=15) (by omega) (by decide)
  obtain ⟨W,hW⟩:∃ x,Qz (Yz cu % 6)=x:=⟨_,rfl⟩
  obtain ⟨E,hE⟩:∃ x,Kerb.session (Yz css % 4)=x:=⟨_,rfl⟩
  obtain ⟨IN,hIN⟩:∃ q,(if cv.toNat % 7=6 then ([111,116,104,101,114]:List UInt8) else y)=q:=⟨_,rfl⟩
  obtain ⟨V,hV⟩:∃ q,(if co.toNat % 8=7 then Qz (Yz co % 6) else W)=q:=⟨_,rfl⟩
  have hT:Kerb.Case.x (Vp cu co cv cr lt tn mt cad cfr cis ctm ctk clf ccs cky ckv css ctt cau) ⟨x,y,z⟩ k=(Kerb.sealTicket ⟨tn,W,Yz cad % 3,E,Yz clf / 4,1000+Yz cis*8,x,IN⟩ k).val:=by rw [← hW,← hE,← hIN];rfl
  have hA:Kerb.Case.y (Vp cu co cv cr lt tn mt cad cfr cis ctm ctk clf ccs cky ckv css ctt cau)=(Kerb.sealAuth ⟨V,ccs,Yz ctk % 3,1000+Yz ctm*8⟩ lt E).val:=by rw [← hV,← hW,← hE];rfl
  obtain ⟨X,hX⟩:∃ q,Kerb.Case.x (Vp cu co cv cr lt tn mt cad cfr cis ctm ctk clf ccs cky ckv css ctt cau) ⟨x,y,z⟩ k=q:=⟨_,rfl⟩
  obtain ⟨Y,hY⟩:∃ q,Kerb.Case.y (Vp cu co cv cr lt tn mt cad cfr cis ctm ctk clf ccs cky ckv css ctt cau)=q:=⟨_,rfl⟩
  have hR:Kerb.Case.req (Vp cu co cv cr lt tn mt cad cfr cis ctm ctk clf ccs cky ckv css ctt cau) ⟨x,y,z⟩ k v=⟨if cau % 16=14 then !lt else lt,mt,if ckv.toNat % 16=15 then v+1 else v,if cr.toNat % 16=15 then [67,65,77] else z,if ctt % 16=15 then Wq X (ctt / 16) else X,if cau % 16=15 then Wq Y (cau / 16) else Y⟩:=by rw [← hX,← hY];rfl
  rw [hX] at hT
  rw [hY] at hA
  have lW:W.name.length≤9223372036854775807∧W.inst.length≤9223372036854775807∧W.realm.length≤9223372036854775807:=by rw [← hW];exact Kerb.user_dec _
  have lV:V.name.length≤9223372036854775807∧V.inst.length≤9223372036854775807∧V.realm.length≤9223372036854775807:=by
   rw [← hV]
   split
   ·exact Kerb.user_dec _
   ·exact lW
  have lE:0≤E∧E<18446744073709551616:=by rw [← hE];exact Kerb.session_bd2 _
  have lI:IN.length≤9223372036854775807:=by
   rw [← hIN]
   split
   ·simp
   ·exact l2
  have lX:X.length≤1000000:=by rw [hT];have:=Kerb.sealTicket_len ⟨tn,W,Yz cad % 3,E,Yz clf / 4,1000+Yz cis*8,x,IN⟩ k;omega
  have lY:Y.length≤1000000:=by rw [hA];have:=Kerb.sealAuth_len ⟨V,ccs,Yz ctk % 3,1000+Yz ctm*8⟩ lt E;omega
  rw [hR]
  simp (config:={maxSteps:=10000000}) only [Vq,f1,f2,f3,f4,f5,f6,f7,f8,f9,fa,fb,fc,fd,fe,g1,g2,g3,g4,g5,u1,u2,u3,u4,hW,hE,↓sInt,↓sU8,↓sBool,↓sStr,↓sBs,↓sSl,↓sAgg,↓sTup,↓sCons,↓sNil,↓sNilB,↓sChk,↓sChkBind,↓sSome]
  refine bind_via (fun ls=>ls=[Zz IntKind.u64 k,Zz Zu v,Zq cu,Zq co,Zq cv,Zq cr,Zv lt,Zv tn,Zv mt,Zq cad,Zq cfr,Zq cis,Zq ctm,Zq ctk,Zq clf,Zz Qq ccs,Zq cky,Zq ckv,Zq css,Zz Wz ctt,Zz Wz cau,Zx x,Zx y,Zx z,Zv false,Zv false,Zz Zu 0,Zx [],Zk [],Zk [],Zv tn,Zx W.name,Zx W.inst,Zx W.realm,Zz Zu (Yz cad % 3),Zz IntKind.u64 E,Zz Zu (Yz clf / 4),Zz Zu (1000+Yz cis*8),Zx x,Zx IN]) ⟨_,?_,rfl⟩ ?_
  ·rw [← hIN]
   by_cases h:cv.toNat % 7=6
   ·rw [if_pos h,decide_eq_true h];rfl
   ·rw [if_neg h,decide_eq_false h];rfl
  rintro _ rfl
  simp (config:={maxSteps:=10000000}) only [Vq,f1,f2,f3,f4,f5,f6,f7,f8,f9,fa,fb,fc,fd,fe,g1,g2,g3,g4,g5,u1,u2,u3,u4,↓sInt,↓sU8,↓sBool,↓sStr,↓sBs,↓sSl,↓sAgg,↓sTup,↓sCons,↓sNil,↓sNilB,↓sChk,↓sChkBind,↓sSome]
  refine bind_via (fun ls=>ls=[Zz IntKind.u64 k,Zz Zu v,Zq cu,Zq co,Zq cv,Zq cr,Zv lt,Zv tn,Zv mt,Zq cad,Zq cfr,Zq cis,Zq ctm,Zq ctk,Zq clf,Zz Qq ccs,Zq cky,Zq ckv,Zq css,Zz Wz ctt,Zz Wz cau,Zx x,Zx y,Zx z,Zv false,Zv false,Zz Zu 0,Zx [],Zk [],Zk [],Zv tn,Zx W.name,Zx W.inst,Zx W.realm,Zz Zu (Yz cad % 3),Zz IntKind.u64 E,Zz Zu (Yz clf / 4),Zz Zu (1000+Yz cis*8),Zx x,Zx IN,Zx V.name,Zx V.inst,Zx V.realm,Zz Zu ccs,Zz Zu (Yz ctk % 3),Zz Zu (1000+Yz ctm*8)]) ⟨_,?_,rfl⟩ ?_
  ·rw [← hV]
   by_cases h:co.toNat % 8=7
   ·rw [if_pos h,decide_eq_true h];rfl
   ·rw [if_neg h,decide_eq_false h];rfl
  rintro _ rfl
  simp (config:={maxSteps:=10000000}) only [l1,lW,lV,lE,lI,hk,decide_true,Xw,← hT,← hA,Vq,f1,f2,f3,f4,f5,f6,f7,f8,f9,fa,fb,fc,fd,fe,g1,g2,g3,g4,g5,u1,u2,u3,u4,↓sInt,↓sU8,↓sBool,↓sStr,↓sBs,↓sSl,↓sAgg,↓sTup,↓sCons,↓sNil,↓sNilB,↓sChk,↓sChkBind,↓sSome]
  refine bind_via (fun ls=>ls=[Zq cu,Zq co,Zq cv,Zq cr,Zv lt,Zv tn,Zv mt,Zq cad,Zq cfr,Zq cis,Zq ctm,Zq ctk,Zq clf,Zz Qq ccs,Zq cky,Zq ckv,Zq css,Zz Wz ctt,Zz Wz cau,Zv false,Zv false,Zz Zu 0,Zx [],Zk [],Zk [],Zk Y,Zv lt,Zv mt,Zz Zu v,Zx z,Zk (if ctt % 16=15 then Wq X (ctt / 16) else X),Zk Y]) ⟨_,?_,rfl⟩ ?_
  ·by_cases h:ctt % 16=15
   ·rw [if_pos h,sel_pos (by simpa using h),chk_of (by simp only [lX,g4,decide_true,Bool.true_and])]
   ·rw [if_neg h,sel_neg (by simpa using h)]
  rintro _ rfl
  simp (config:={maxSteps:=10000000}) only [Vq,f1,f2,f3,f4,f5,f6,f7,f8,f9,fa,fb,fc,fd,fe,g1,g2,g3,g4,g5,u1,u2,u3,u4,↓sInt,↓sU8,↓sBool,↓sStr,↓sBs,↓sSl,↓sAgg,↓sTup,↓sCons,↓sNil,↓sNilB,↓sChk,↓sChkBind,↓sSome]
  refine bind_via (fun ls=>ls=[Zq cu,Zq co,Zq cv,Zq cr,Zv lt,Zv tn,Zv mt,Zq cad,Zq cfr,Zq cis,Zq ctm,Zq ctk,Zq clf,Zz Qq ccs,Zq cky,Zq ckv,Zq css,Zz Wz ctt,Zz Wz cau,Zv false,Zv false,Zz Zu 0,Zx [],Zk [],Zk [],Zv lt,Zv mt,Zz Zu v,Zx z,Zk (if ctt % 16=15 then Wq X (ctt / 16) else X),Zk (if cau % 16=15 then Wq Y (cau / 16) else Y)]) ⟨_,?_,rfl⟩ ?_
  ·by_cases h:cau % 16=15
   ·rw [if_pos h,sel_pos (by simpa using h),chk_of (by simp only [lY,g5,decide_true,Bool.true_and])]
   ·rw [if_neg h,sel_neg (by simpa using h)]
  rintro _ rfl
  simp (config:={maxSteps:=10000000}) only [Vq,f1,f2,f3,f4,f5,f6,f7,f8,f9,fa,fb,fc,fd,fe,g1,g2,g3,g4,g5,u1,u2,u3,u4,↓sInt,↓sU8,↓sBool,↓sStr,↓sBs,↓sSl,↓sAgg,↓sTup,↓sCons,↓sNil,↓sNilB,↓sChk,↓sChkBind,↓sSome]
  refine bind_via (fun ls=>ls=[Zq cu,Zq co,Zq cv,Zq cr,Zv lt,Zv tn,Zv mt,Zq cad,Zq cfr,Zq cis,Zq ctm,Zq ctk,Zq clf,Zz Qq ccs,Zq cky,Zq ckv,Zq css,Zz Wz ctt,Zz Wz cau,Zv false,Zv false,Zz Zu 0,Zx [],Zk [],Zk [],Zv (if cau % 16=14 then !lt else lt),Zv mt,Zz Zu v,Zx z,Zk (if ctt % 16=15 then Wq X (ctt / 16) else X),Zk (if cau % 16=15 then Wq Y (cau / 16) else Y)]) ⟨_,?_,rfl⟩ ?_
  ·by_cases h:cau % 16=14
   ·rw [if_pos h,sel_pos (by simpa using h)]
   ·rw [if_neg h,sel_neg (by simpa using h)]
  rintro _ rfl
  simp (config:={maxSteps:=10000000}) only [Vq,f1,f2,f3,f4,f5,f6,f7,f8,f9,fa,fb,fc,fd,fe,g1,g2,g3,g4,g5,u1,u2,u3,u4,↓sInt,↓sU8,↓sBool,↓sStr,↓sBs,↓sSl,↓sAgg,↓sTup,↓sCons,↓sNil,↓sNilB,↓sChk,↓sChkBind,↓sSome]
  refine bind_via (fun ls=>ls=[Zq cu,Zq co,Zq cv,Zq cr,Zv lt,Zv tn,Zv mt,Zq cad,Zq cfr,Zq cis,Zq ctm,Zq ctk,Zq clf,Zz Qq ccs,Zq cky,Zq ckv,Zq css,Zz Wz ctt,Zz Wz cau,Zv false,Zv false,Zz Zu 0,Zx [],Zk [],Zk [],Zv (if cau % 16=14 then !lt else lt),Zv mt,Zz Zu (if ckv.toNat % 16=15 then v+1 else v),Zx z,Zk (if ctt % 16=15 then Wq X (ctt / 16) else X),Zk (if cau % 16=15 then Wq Y (cau / 16) else Y)]) ⟨_,?_,rfl⟩ ?_
  ·by_cases h:ckv.toNat % 16=15
   ·rw [if_pos h,decide_eq_true h];rfl
   ·rw [if_neg h,decide_eq_false h];rfl
  rintro _ rfl
  simp (config:={maxSteps:=10000000}) only [Vq,f1,f2,f3,f4,f5,f6,f7,f8,f9,fa,fb,fc,fd,fe,g1,g2,g3,g4,g5,u1,u2,u3,u4,↓sInt,↓sU8,↓sBool,↓sStr,↓sBs,↓sSl,↓sAgg,↓sTup,↓sCons,↓sNil,↓sNilB,↓sChk,↓sChkBind,↓sSome]
  by_cases h:cr.toNat % 16=15
  ·rw [if_pos h,decide_eq_true h];rfl
  ·rw [if_neg h,decide_eq_false h];rfl
 ·cases h
theorem w62:Walked Tryz.prog G 62 7 sp62:=by
 refine ⟨Tryz.f62,Tryz.func62,by decide +kernel,rfl,fun xs bl r h=> ?_⟩
 unfold sp62 at h
 split at h
 ·rename_i a b c
  obtain ⟨hpre,h2⟩:=chk_inv h;cases h2
  refine Eq.trans (b:=(Zw (chk (decide (Zy a≤9223372036854775807)) (some (Zv (Qy a),[]))) fun (r:AV×Blocks)=>onNilB (Yk r) (Vw (Yh r) fun b_1=>sel b_1 (Zw (chk (decide (Zy b≤9223372036854775807)) (some (Zv (Vh b),[]))) fun (r:AV×Blocks)=>onNilB (Yk r) (Vw (Yh r) fun b=>sel b (Zw (chk (decide (Zy c≤9223372036854775807)) (some (Zv (Kerb.validRealm c),[]))) fun (r:AV×Blocks)=>onNilB (Yk r) (Vw (Yh r) fun b=>some (Zv b,[]))) (some (Zv false,[])))) (some (Zv false,[]))):Option (AV×Blocks))) (by kernel_rfl) ?_
  simp only [Zh,decide_eq_true_eq] at hpre
  simp only [A0]
  rw [chk_of (by simp;omega),chk_of (by simp;omega),chk_of (by simp;omega)]
  simp only [Yx]
  cases Qy a<;>cases Vh b<;>rfl
 ·cases h
theorem w88:Walked Tryz.prog G 88 7 sp88:=by
 refine ⟨Tryz.f88,Tryz.func88,by decide +kernel,rfl,fun xs bl r h=> ?_⟩
 unfold sp88 at h
 split at h
 ·rename_i li mu kv rl tk au
  obtain ⟨hpre,h2⟩:=chk_inv h;cases h2
  refine Eq.trans (b:=(Zw (chk (l63 rl) (some (Zv (Kerb.validRealm rl),[]))) (kL fun b=>sel (!b) (some (Zg [Zk [],Zz .i64 103],[])) (sel (!Yw kv 255) (some (Zg [Zk [],Zz .i64 104],[])) (sel (decide ((↑(Zy tk):Int)>255)) (some (Zg [Zk [],Zz .i64 105],[])) (sel (decide ((↑(Zy au):Int)>255)) (some (Zg [Zk [],Zz .i64 105],[])) (sel mu (Zw (chk (decide (Zy (Kerb.header 4 li)≤70368744177664)) (some (Xm (Kerb.header 4 li++Yd kv 1 false),[]))) (kO fun l=>Zw (chk (decide (Zy l+Zy rl≤70368744177664)) (some (Zk (Xp l rl),[]))) (kB fun b=>Zw (chk (decide (Zy b≤70368744177664)) (some (Xm (b++Yd (↑(Zy tk):Int) 1 false),[]))) (kO fun l=>Zw (chk (decide (Zy l≤70368744177664)) (some (Xm (l++Yd (↑(Zy au):Int) 1 false),[]))) (kO fun l=>Zw (chk (decide (Zy (Yf l (Yf tk (Yf au [])))≤140737488355328)&&decide (Zy [Zk l,Zk tk,Zk au]≤1000)) (some (Xm (Yf l (Yf tk (Yf au []))),[]))) (kO fun l=>some (Zg [Zk l,Zz .i64 0],[]))))))) (Zw (chk (decide (Zy (Kerb.header 3 li)≤70368744177664)) (some (Xm (Kerb.header 3 li++Yd kv 1 false),[]))) (kO fun l=>Zw (chk (decide (Zy l+Zy rl≤70368744177664)) (some (Zk (Xp l rl),[]))) (kB fun b=>Zw (chk (decide (Zy b≤70368744177664)) (some (Xm (b++Yd (↑(Zy tk):Int) 1 false),[]))) (kO fun l=>Zw (chk (decide (Zy l≤70368744177664)) (some (Xm (l++Yd (↑(Zy au):Int) 1 false),[]))) (kO fun l=>Zw (chk (decide (Zy (Yf l (Yf tk (Yf au [])))≤140737488355328)&&decide (Zy [Zk l,Zk tk,Zk au]≤1000)) (some (Xm (Yf l (Yf tk (Yf au []))),[]))) (kO fun l=>some (Zg [Zk l,Zz .i64 0],[])))))))))))):Option (AV×Blocks))) (by kernel_rfl) ?_
  delta kB kO kL
  try dsimp only [cStr,cBs,cBool,cU8,cInt,cSl,l63]
  simp only [A0,Vv,Vm,Ug,hpre]
  unfold Up
  simp only
  cases h1:Kerb.validRealm rl
  ·rfl
  rw [Yp,sel_false,if_neg (by simp)]
  cases h2:Yw kv 255
  ·rfl
  rw [Yp,sel_false,if_neg (by simp)]
  by_cases h3:255<tk.length
  ·rw [sel_pos (by simp;omega),if_pos (.inl h3)]
  rw [sel_neg (by simp;omega)]
  by_cases h4:255<au.length
  ·rw [sel_pos (by simp;omega),if_pos (.inr h4)]
  rw [sel_neg (by simp;omega),if_neg (by omega)]
  have l1:=Kerb.validRealm_len h1
  have g3:=Kerb.header_len 3 li
  have g4:=Kerb.header_len 4 li
  cases mu
  ·rw [sel_false,chk_of (by simp;omega),chk_of (by simp [Zd];omega),chk_of (by simp [Zd,Vz];omega),chk_of (by simp [Zd,Vz];omega),chk_of (by simp [Zd,Vz];omega)]
   simp
  ·rw [sel_true,chk_of (by simp;omega),chk_of (by simp [Zd];omega),chk_of (by simp [Zd,Vz];omega),chk_of (by simp [Zd,Vz];omega),chk_of (by simp [Zd,Vz];omega)]
   simp
 ·cases h
theorem w11:Walked Tryz.prog G 11 8 sp11:=by
 refine ⟨Tryz.f11,Tryz.func11,by decide +kernel,rfl,fun xs bl r h=> ?_⟩
 unfold sp11 at h
 split at h
 ·rename_i cu co cv cr lt tn mt cad cfr cis ctm ctk clf ccs cky ckv css ctt cau x y z k v
  obtain ⟨hpre,h2⟩:=chk_inv h;cases h2
  refine Eq.trans (b:=(let t0:Kerb.ApRequest:=Kerb.Case.req (Vp cu co cv cr lt tn mt cad cfr cis ctm ctk clf ccs cky ckv css ctt cau) (Zn x y z) k v;Zw (chk (l63 x&&l63 y&&l63 z&&Kerb.isU64 k&&decide (0≤v)&&decide (v≤1000)&&decide (0≤ccs)&&decide (ccs≤4294967295)&&decide (0≤ctt)&&decide (ctt≤65535)&&decide (0≤cau)&&decide (cau≤65535)) (some (Yv [Zv (Qu t0),Zv (Uh t0),Zz .i64 (Qn t0),Zx (Qp t0),Zk (Qv t0),Zk (Qm t0)],[]))) (kA fun cs=>cBool cs fun b r=>cBool r fun b_1 r=>cInt .i64 r fun n r=>cStr r fun b_2 r=>cBs r fun b_3 r=>cBs r fun b_4 r=>onNil r (Zw (chk (l63 b_2) (some (Zg [Zk (Xz (Up (Xg b b_1 n b_2 b_3 b_4))),Zz .i64 (Xy (Up (Xg b b_1 n b_2 b_3 b_4)))],[]))) (kT fun vs=>cBs vs fun b r=>cInt .i64 r fun n r=>onNil r (some (Zk b,[]))))):Option (AV×Blocks))) (by kernel_rfl) ?_
  delta kT kA
  try dsimp only [cStr,cBs,cBool,cU8,cInt,cSl,l63]
  have hp:=hpre
  simp only [Zh,decide_eq_true_eq] at hp
  have lr:(Kerb.Case.req (Vp cu co cv cr lt tn mt cad cfr cis ctm ctk clf ccs cky ckv css ctt cau) ⟨x,y,z⟩ k v).realm.length≤9223372036854775807:=by
   show (if cr.toNat % 16=15 then ([67,65,77]:List UInt8) else z).length≤_
   split
   ·simp
   ·exact hp.1.1.1.1.1.1.1.1.1.2
  simp only [hpre,lr,decide_true,↓A0,A0]
  rfl
 ·cases h
theorem w37:Walked Tryz.prog G 37 8 sp37:=by
 refine ⟨Tryz.f37,Tryz.func37,by decide +kernel,rfl,fun xs bl r h=> ?_⟩
 unfold sp37 at h
 split at h
 ·rename_i b
  obtain ⟨hpre,h2⟩:=chk_inv h;cases h2
  refine Eq.trans (b:=(let t1:AV:=Yv [Zv false,Zv false,Zz .i64 0,Zx [],Zk [],Zk []];let t0:Option (AV×Blocks):=some (Zg [t1,Zz .i64 100],[]);sel (!Yk (Kerb.headIs b [3,4])==0) (some (Zg [t1,Zz .i64 (Yk (Kerb.headIs b [3,4]))],[])) (Zw (chk (decide (Zy b≤140737488355328)) (some (Zg [Yv [Zv (Qu (Vj (Wm b))),Zv (Uh (Vj (Wm b))),Zz .i64 (Qn (Vj (Wm b))),Zx (Qp (Vj (Wm b))),Zk (Qv (Vj (Wm b))),Zk (Qm (Vj (Wm b)))],Zz .i64 (Kerb.GotAp.next (Wm b))],[]))) (kT fun vs=>onCons vs fun x r=>Wx x fun cs=>cBool cs fun b_1 r_1=>cBool r_1 fun b_2 r_2=>cInt .i64 r_2 fun n r_3=>cStr r_3 fun b_3 r_4=>cBs r_4 fun b_4 r_5=>cBs r_5 fun b_5 r_6=>onNil r_6 (cInt .i64 r fun n_1 r=>onNil r (Zw (chk (l63 b_3) (some (Zg [Zk (Xz (Up (Xg b_1 b_2 n b_3 b_4 b_5))),Zz .i64 (Xy (Up (Xg b_1 b_2 n b_3 b_4 b_5)))],[]))) (kT fun vs=>cBs vs fun b_6 r=>cInt .i64 r fun n_2 r=>onNil r (sel (!n_2==0) t0 (sel (!b_6==b) t0 (some (Zg [Yv [Zv b_1,Zv b_2,Zz .i64 n,Zx b_3,Zk b_4,Zk b_5],Zz .i64 0],[]))))))))):Option (AV×Blocks))) (by kernel_rfl) ?_
  delta kT
  try dsimp only [cStr,cBs,cBool,cU8,cInt,cSl,l63]
  have hb:=of_decide_eq_true hpre
  have hpre2:decide (b.length≤4611686018427387904)=true:=by simp;omega
  have hr:=Qf b (Xv b 2 1 false).next
  have g1:(Wm b).val.realm.length≤9223372036854775807:=by show (Ww b (Xv b 2 1 false).next).val.length≤_;omega
  unfold Xd
  by_cases h:(Kerb.headIs b [3,4]).2=0
  case neg=>rw [sel_pos (by simpa using h),if_pos h];rfl
  rw [sel_neg (by simpa using h),if_neg (by simpa using h)]
  simp only [hpre,g1,decide_true,↓A0,A0]
  exact Kerb.decBy_fin (no:=Kerb.noAp) (enc:=Up) (rd:=fun b=>((Wm b).val,false)) _ false rfl (fun x e=>(Zg [.agg [.bool (x).little,.bool (x).mutual_,.int .i64 (x).kvno,.str (x).realm,.bs (x).ticket,.bs (x).auth],Zz Zu e],([]:Blocks)))
 ·cases h
theorem w63:Walked Tryz.prog G 63 8 sp63:=by
 refine ⟨Tryz.f63,Tryz.func63,by decide +kernel,rfl,fun xs bl r h=> ?_⟩
 unfold sp63 at h
 split at h
 ·rename_i kls
  obtain ⟨hpre,h2⟩:=chk_inv h;cases h2
  refine Eq.trans (b:=(sel (decide ((↑(Zy kls):Int)>60)) (some (Zz .i64 106,[])) (Zw (loopM (fun (st:List AV)=>cSl 5 st fun b r=>cInt .i64 r fun n r=>cSl 5 r fun b_1 r=>cInt .i64 r fun n_1 r=>cInt .i64 r fun n_2 r=>let t0:List AV:=[Yq 5 b_1,Zz .i64 n_1,Zz .i64 n_2];onNil r (sel (decide (n_2<n_1)) (chk (decide (0≤n_2)&&decide (n_2<(↑(Zy b_1):Int))&&true) (Wx (Wf b_1 (Zm n_2) AV.undef) fun cs=>cStr cs fun b_2 r=>cStr r fun b_3 r=>cStr r fun b_4 r=>cInt .i64 r fun n_3 r=>cInt .u64 r fun n_4 r=>onNil r (Zw (chk (l63 b_2&&l63 b_3&&l63 b_4) (some (Zv (Yx (Zn b_2 b_3 b_4)),[]))) (kL fun b_5=>sel (!b_5) (some (Vx (Ex.ret,Yq 5 b::Zz .i64 103::t0))) (sel (decide (n_3<0)) (some (Vx (Ex.ret,Yq 5 b::Zz .i64 104::t0))) (sel (decide (n_3>255)) (some (Vx (Ex.ret,Yq 5 b::Zz .i64 104::t0))) (Zw (chk (decide (0≤n_4)&&decide (n_4<18446744073709551616)) (some (Zv (Kerb.keyValid n_4),[]))) (kL fun b_6=>sel (!b_6) (some (Vx (Ex.ret,Yq 5 b::Zz .i64 10::t0))) (Zw (chk (Vu b Kerb.isSKey&&decide (Zy b≤1000000)) (some (Zz .i64 (↑(Kerb.skAt (Xh Ub b) (Zn b_2 b_3 b_4) n_3):Int),[]))) (kI .i64 fun n_5=>sel (decide (n_5<n_2)) (some (Vx (Ex.ret,Yq 5 b::Zz .i64 107::t0))) (some (Sum.inl [Yq 5 b,Zz .i64 n,Yq 5 b_1,Zz .i64 n_1,Zz .i64 (Zj .i64 (n_2+1))])))))))))))) (some (Vx (Ex.exit 0,Yq 5 b::Zz .i64 n::t0))))) [Yq 5 kls,Zz .i64 0,Yq 5 kls,Zz .i64 (↑(Zy kls):Int),Zz .i64 0]) fun (r:Ex×List AV)=>cSl 5 (Yk r) fun b r_1=>cInt .i64 r_1 fun n r_2=>cSl 5 r_2 fun b r_3=>cInt .i64 r_3 fun n_1 r_4=>cInt .i64 r_4 fun n_2 r_5=>onNil r_5 (exK r.1 (some (Zz .i64 n,[])) fun (j:Nat)=>sel (Nat.beq j 0) (some (Zz .i64 0,[])) none)):Option (AV×Blocks))) (by kernel_rfl) ?_
  delta kL kI
  try dsimp only [cStr,cBs,cBool,cU8,cInt,cSl,l63]
  simp only [Zh,decide_eq_true_eq] at hpre
  obtain ⟨hall,hlen⟩:=hpre
  obtain ⟨cs,rfl,hok⟩:=Qg hall
  unfold Kerb.skErr
  rw [Vk]
  simp only [Yu] at hlen ⊢
  by_cases h60:60<cs.length
  ·rw [sel_pos (by simp;omega),if_pos h60]
  rw [sel_neg (by simp;omega),if_neg h60]
  refine loop_rounds (fun i:Nat=>[Yq 5 (cs.map Uf),Zz Zu 0,Yq 5 (cs.map Uf),Zz Zu (cs.length:Int),Zz Zu (i:Int)]) (fun i=>i≤cs.length∧Kerb.skErrs [] cs=Kerb.skErrs (cs.take i) (cs.drop i)) (fun i=>cs.length-i)
   (fun r=>∃ (i:Nat) (n:Int),r.2=[Yq 5 (cs.map Uf),Zz Zu n,Yq 5 (cs.map Uf),Zz Zu (cs.length:Int),Zz Zu (i:Int)]∧((r.1 = .ret∧n=Kerb.skErrs [] cs)∨(r.1 = .exit 0∧Kerb.skErrs [] cs=0))) 0 ⟨Nat.zero_le _,by simp⟩ rfl ?_ ?_
  ·rintro i ⟨hi,hp⟩
   simp only [↓A0,A0,Yu]
   by_cases hlt:i<cs.length
   ·rw [sel_pos (by simp;omega),chk_of (by simp;omega),Qh,Kerb.getD_row (d:=Kerb.noSKey) hlt]
    obtain ⟨c,hc⟩:∃ c,cs.getD i Kerb.noSKey=c:=⟨_,rfl⟩
    have hst:=Kerb.skErrs_step hlt hc hp
    have hcm:c∈cs:=hc ▸ Kerb.mem_row hlt
    have ho:=hok c hcm
    rw [hc]
    obtain ⟨⟨s1,s2,s3⟩,kv,ky⟩:=c
    obtain ⟨o1,o2,o3,o4,o5⟩:=ho
    have o4:=Kerb.isI64_iff.1 o4
    have o5:=Kerb.isU64_iff.1 o5
    dsimp only at o1 o2 o3 o4 o5 hst
    simp only [Uf,o1,o2,o3,o5,decide_true,Xw,↓A0,A0]
    have k1:∀ code:Int,code≠0→Wh ⟨⟨s1,s2,s3⟩,kv,ky⟩=code→code=Kerb.skErrs [] cs:=fun code h0 he=>by
     rw [he,if_pos h0] at hst;exact hst.symm
    cases h1:Yx ⟨s1,s2,s3⟩
    ·exact ⟨_,rfl,i,_,rfl,.inl ⟨rfl,k1 103 (by decide) (by simp [Wh,h1])⟩⟩
    rw [Yp,sel_false]
    by_cases h2:kv<0
    ·rw [sel_pos (by simpa using h2)]
     exact ⟨_,rfl,i,_,rfl,.inl ⟨rfl,k1 104 (by decide) (by simp [Wh,h1,Yw];omega)⟩⟩
    rw [sel_neg (by simpa using h2)]
    by_cases h3:kv>255
    ·rw [sel_pos (by simpa using h3)]
     exact ⟨_,rfl,i,_,rfl,.inl ⟨rfl,k1 104 (by decide) (by simp [Wh,h1,Yw];omega)⟩⟩
    rw [sel_neg (by simpa using h3)]
    have hw:Yw kv 255=true:=Kerb.within_iff.2 ⟨by omega,by omega⟩
    cases h4:Kerb.keyValid ky
    ·exact ⟨_,rfl,i,_,rfl,.inl ⟨rfl,k1 10 (by decide) (by simp [Wh,h1,hw,h4])⟩⟩
    rw [Yp,sel_false]
    have hz:Wh ⟨⟨s1,s2,s3⟩,kv,ky⟩=0:=by simp [Wh,h1,hw,h4]
    rw [hz,if_neg (by simp)] at hst
    rw [chk_of (by rw [Qx hok];simp;omega),Vk]
    have hq:=Kerb.skAt_lt cs ⟨s1,s2,s3⟩ kv i hi
    have e:decide (((Kerb.skAt cs ⟨s1,s2,s3⟩ kv:Nat):Int)<(i:Int))=decide (Kerb.skAt cs ⟨s1,s2,s3⟩ kv<i):=decide_eq_decide.2 (by omega)
    rw [e,hq]
    cases hd:(cs.take i).any (Kerb.SKey.is ⟨s1,s2,s3⟩ kv)
    ·rw [hd,if_neg (by simp)] at hst
     rw [sel_false,wrap_i64 (by omega) (by omega)]
     exact ⟨_,rfl,i+1,rfl,⟨by omega,hst⟩,by dsimp only;omega⟩
    ·rw [hd,if_pos rfl] at hst
     rw [sel_true]
     exact ⟨_,rfl,i,_,rfl,.inl ⟨rfl,hst.symm⟩⟩
   ·rw [sel_neg (by simp;omega)]
    refine ⟨_,rfl,i,_,rfl,.inr ⟨rfl,?_⟩⟩
    rw [hp,List.drop_eq_nil_of_le (by omega)]
    rfl
  ·rintro ⟨e,l⟩ ⟨i,n,rfl,⟨rfl,h⟩ | ⟨rfl,h⟩⟩
   ·simp only [↓A0,A0,h]
   ·simp only [↓A0,A0,h]
    rw [sel_pos (Nat.beq_refl _)]
 ·cases h
theorem w64:Walked Tryz.prog G 64 8 sp64:=by
 refine ⟨Tryz.f64,Tryz.func64,by decide +kernel,rfl,fun xs bl r h=> ?_⟩
 unfold sp64 at h
 split at h
 ·rename_i sz fl mls
  obtain ⟨hpre,h2⟩:=chk_inv h;cases h2
  refine Eq.trans (b:=(sel (!(decide (1≤sz)&&decide (sz≤40))) (some (Zz .i64 104,[])) (sel (!(decide (0≤fl)&&decide (fl≤4294967295))) (some (Zz .i64 104,[])) (sel (decide ((↑(Zy mls):Int)>sz)) (some (Zz .i64 106,[])) (Zw (loopM (fun (st:List AV)=>cInt .i64 st fun n r=>cInt .i64 r fun n_1 r=>cSl 5 r fun b r=>cInt .i64 r fun n_2 r=>cSl 5 r fun b_1 r=>cInt .i64 r fun n_3 r=>cInt .i64 r fun n_4 r=>let t0:List AV:=[Yq 5 b_1,Zz .i64 n_3,Zz .i64 n_4];let t2:List AV:=List.drop (Zm (↑(0:Nat):Int)) (List.take (Zm n_4) b);let t1:Option (List AV ⊕ Ex×List AV):=some (Vx (Ex.ret,Zz .i64 n::Zz .i64 n_1::Yq 5 b::Zz .i64 104::t0));onNil r (sel (decide (n_4<n_3)) (chk (decide (0≤n_4)&&decide (n_4<(↑(Zy b_1):Int))&&true) (Wx (Wf b_1 (Zm n_4) AV.undef) fun cs=>cStr cs fun b_2 r=>cStr r fun b_3 r=>cStr r fun b_4 r=>cInt .i64 r fun n_5 r=>cInt .i64 r fun n_6 r=>onNil r (Zw (chk (l63 b_2&&l63 b_3&&l63 b_4) (some (Zv (Yx (Zn b_2 b_3 b_4)),[]))) (kL fun b_5=>sel (!b_5) (some (Vx (Ex.ret,Zz .i64 n::Zz .i64 n_1::Yq 5 b::Zz .i64 103::t0))) (sel (!(decide (n_1≤n_5)&&decide (n_5≤4294967295))) t1 (sel (!(decide (0≤n_6)&&decide (n_6≤199))) t1 (chk (decide ((↑(0:Nat):Int)≤n_4)&&decide (n_4≤(↑(Zy b):Int))) (Zw (chk (Vu t2 Un&&decide (Zy t2≤1000000)) (some (Zv (Kerb.hasMark (Xh Vn t2) (Kerb.Mark.mk (Zn b_2 b_3 b_4) n_5 n_6)),[]))) (kL fun b_6=>sel b_6 (some (Vx (Ex.ret,Zz .i64 n::Zz .i64 n_1::Yq 5 b::Zz .i64 107::t0))) (some (Sum.inl [Zz .i64 n,Zz .i64 n_1,Yq 5 b,Zz .i64 n_2,Yq 5 b_1,Zz .i64 n_3,Zz .i64 (Zj .i64 (n_4+1))]))))))))))) (some (Vx (Ex.exit 0,Zz .i64 n::Zz .i64 n_1::Yq 5 b::Zz .i64 n_2::t0))))) [Zz .i64 sz,Zz .i64 fl,Yq 5 mls,Zz .i64 0,Yq 5 mls,Zz .i64 (↑(Zy mls):Int),Zz .i64 0]) fun (r:Ex×List AV)=>cInt .i64 (Yk r) fun n r_1=>cInt .i64 r_1 fun n r_2=>cSl 5 r_2 fun b r_3=>cInt .i64 r_3 fun n r_4=>cSl 5 r_4 fun b r_5=>cInt .i64 r_5 fun n_1 r_6=>cInt .i64 r_6 fun n_2 r_7=>onNil r_7 (exK r.1 (some (Zz .i64 n,[])) fun (j:Nat)=>sel (Nat.beq j 0) (some (Zz .i64 0,[])) none)))):Option (AV×Blocks))) (by kernel_rfl) ?_
  delta kL
  try dsimp only [cStr,cBs,cBool,cU8,cInt,cSl,l63]
  simp only [Zh,decide_eq_true_eq] at hpre
  obtain ⟨hall,hlen⟩:=hpre
  obtain ⟨cs,rfl,hok⟩:=Uk hall
  unfold Qk
  rw [Wp]
  simp only [Yu] at hlen ⊢
  cases e1:(decide ((1:Int)≤sz)&&decide (sz≤40))
  ·rw [if_pos (by simp)];rfl
  cases e2:(decide ((0:Int)≤fl)&&decide (fl≤4294967295))
  ·rw [if_pos (by unfold Yw;rw [e2];rfl)];rfl
  rw [Yp,sel_false,sel_false,if_neg (by unfold Yw;rw [e2];simp)]
  simp only [Zh,decide_eq_true_eq] at e1 e2
  by_cases hsz:sz<cs.length
  ·rw [sel_pos (by simp;omega),if_pos hsz]
  rw [sel_neg (by simp;omega),if_neg hsz]
  refine loop_rounds (fun i:Nat=>[Zz Zu sz,Zz Zu fl,Yq 5 (cs.map Ym),Zz Zu 0,Yq 5 (cs.map Ym),Zz Zu (cs.length:Int),Zz Zu (i:Int)]) (fun i=>i≤cs.length∧Qb fl [] cs=Qb fl (cs.take i) (cs.drop i)) (fun i=>cs.length-i)
   (fun r=>∃ (i:Nat) (n:Int),r.2=[Zz Zu sz,Zz Zu fl,Yq 5 (cs.map Ym),Zz Zu n,Yq 5 (cs.map Ym),Zz Zu (cs.length:Int),Zz Zu (i:Int)]∧((r.1 = .ret∧n=Qb fl [] cs)∨(r.1 = .exit 0∧Qb fl [] cs=0))) 0 ⟨Nat.zero_le _,by simp⟩ rfl ?_ ?_
  ·rintro i ⟨hi,hp⟩
   simp only [↓A0,A0,Yu]
   by_cases hlt:i<cs.length
   ·rw [sel_pos (by simp;omega),chk_of (by simp;omega),Qh,Kerb.getD_row (d:=Kerb.noMark) hlt]
    obtain ⟨c,hc⟩:∃ c,cs.getD i Kerb.noMark=c:=⟨_,rfl⟩
    have hst:=Kerb.marksErr_step hlt hc hp
    have hcm:c∈cs:=hc ▸ Kerb.mem_row hlt
    have ho:=hok c hcm
    rw [hc]
    obtain ⟨⟨s1,s2,s3⟩,mt,mk⟩:=c
    obtain ⟨o1,o2,o3,o4,o5⟩:=ho
    dsimp only at o1 o2 o3 o4 o5 hst
    simp only [Ym,o1,o2,o3,decide_true,Xw,↓A0,A0]
    have k1:∀ code:Int,code≠0→Uv fl ⟨⟨s1,s2,s3⟩,mt,mk⟩=code→code=Qb fl [] cs:=fun code h0 he=>by
     rw [he,if_pos h0] at hst;exact hst.symm
    cases h1:Yx ⟨s1,s2,s3⟩
    ·exact ⟨_,rfl,i,_,rfl,.inl ⟨rfl,k1 103 (by decide) (by simp [Uv,h1])⟩⟩
    rw [Yp,sel_false]
    by_cases h2:fl≤mt∧mt≤4294967295
    case neg =>
     rw [sel_pos (by simp;omega)]
     exact ⟨_,rfl,i,_,rfl,.inl ⟨rfl,k1 104 (by decide) (by unfold Uv;rw [if_neg (by simp [h1]),if_pos (by simp [Yw];omega)])⟩⟩
    rw [sel_neg (by simp;omega)]
    by_cases h3:0≤mk∧mk≤199
    case neg =>
     rw [sel_pos (by simp;omega)]
     exact ⟨_,rfl,i,_,rfl,.inl ⟨rfl,k1 104 (by decide) (by unfold Uv;rw [if_neg (by simp [h1]),if_pos (by simp [Yw];omega)])⟩⟩
    rw [sel_neg (by simp;omega)]
    have hw2:(decide (fl≤mt)&&decide (mt≤4294967295)&&Yw mk 199)=true:=by
     rw [Zh,Zh,decide_eq_true_eq,decide_eq_true_eq]
     exact ⟨⟨by omega,by omega⟩,Kerb.within_iff.2 ⟨by omega,by omega⟩⟩
    have hz:Uv fl ⟨⟨s1,s2,s3⟩,mt,mk⟩=0:=by
     unfold Uv
     rw [if_neg (by simp [h1])]
     dsimp only
     rw [hw2]
     rfl
    rw [hz,if_neg (by simp)] at hst
    rw [chk_of (by simp;omega)]
    simp only [Qh,List.drop_zero,← List.map_take]
    rw [chk_of (by rw [Uy (fun c hc=>hok c (List.mem_of_mem_take hc))];simp;omega),Wp]
    cases hd:Kerb.hasMark (cs.take i) ⟨⟨s1,s2,s3⟩,mt,mk⟩
    ·rw [hd,if_neg (by simp)] at hst
     rw [sel_false,wrap_i64 (by omega) (by omega)]
     exact ⟨_,rfl,i+1,rfl,⟨by omega,hst⟩,by dsimp only;omega⟩
    ·rw [hd,if_pos rfl] at hst
     rw [sel_true]
     exact ⟨_,rfl,i,_,rfl,.inl ⟨rfl,hst.symm⟩⟩
   ·rw [sel_neg (by simp;omega)]
    refine ⟨_,rfl,i,_,rfl,.inr ⟨rfl,?_⟩⟩
    rw [hp,List.drop_eq_nil_of_le (by omega)]
    rfl
  ·rintro ⟨e,l⟩ ⟨i,n,rfl,⟨rfl,h⟩ | ⟨rfl,h⟩⟩
   ·simp only [↓A0,A0,h]
   ·simp only [↓A0,A0,h]
    rw [sel_pos (Nat.beq_refl _)]
 ·cases h
theorem w175:Walked Tryz.prog G 175 8 sp175:=by
 refine ⟨Tryz.f175,Tryz.func175,by decide +kernel,rfl,fun xs bl r h=> ?_⟩
 unfold sp175 at h
 split at h
 ·rename_i b pos
  obtain ⟨hpre,h2⟩:=chk_inv h;cases h2
  refine Eq.trans (b:=(Zw (loopM (fun (st:List AV)=>cBs st fun b r=>cInt .i64 r fun n r=>let t0:Option (AV×Blocks):=chk (decide (Zy b≤4611686018427387904)) (some (Zg [Zx (Kerb.GotB.val (Ww b n)),Zz .i64 (Kerb.GotB.next (Ww b n)),Zz .i64 (Kerb.GotB.err (Ww b n))],[]));cStr r fun b_1 r=>cStr r fun b_2 r=>cStr r fun b_3 r=>cInt .i64 r fun n_1 r=>cInt .i64 r fun n_2 r=>cStr r fun b_4 r=>cStr r fun b_5 r=>cStr r fun b_6 r=>cInt .i64 r fun n_3 r=>cInt .i64 r fun n_4 r=>let t1:List AV:=[Zx b_6,Zz .i64 n_3,Zz .i64 (Zj .i64 (n_4+1))];onNil r (sel (decide (n_4<n_3)) (chk (decide (0≤n_4)&&decide (n_4<(↑(Zy [0,1,2]):Int))&&true) (sel (Nat.beq (Zm n_4) 0) (Zw t0 (kT fun vs=>cStr vs fun b_7 r=>cInt .i64 r fun n r=>cInt .i64 r fun n_5 r=>onNil r (sel (!n_5==0) (some (Vx (Ex.ret,[Zk b,Zz .i64 n,Zx [],Zx [],Zx [],Zz .i64 0,Zz .i64 n_5,Zx b_7,Zx b_5,Zx b_6,Zz .i64 n_3,Zz .i64 n_4]))) (some (Sum.inl (Zk b::Zz .i64 n::Zx b_1::Zx b_2::Zx b_3::Zz .i64 n_1::Zz .i64 n_2::Zx b_7::Zx b_5::t1)))))) (sel (Nat.beq (Zm n_4-1) 0) (Zw t0 (kT fun vs=>cStr vs fun b_7 r=>cInt .i64 r fun n r=>cInt .i64 r fun n_5 r=>onNil r (sel (!n_5==0) (some (Vx (Ex.ret,[Zk b,Zz .i64 n,Zx [],Zx [],Zx [],Zz .i64 0,Zz .i64 n_5,Zx b_4,Zx b_7,Zx b_6,Zz .i64 n_3,Zz .i64 n_4]))) (some (Sum.inl (Zk b::Zz .i64 n::Zx b_1::Zx b_2::Zx b_3::Zz .i64 n_1::Zz .i64 n_2::Zx b_4::Zx b_7::t1)))))) (sel (Nat.beq (Zm n_4-1-1) 0) (Zw t0 (kT fun vs=>cStr vs fun b_7 r=>cInt .i64 r fun n r=>cInt .i64 r fun n_5 r=>onNil r (sel (!n_5==0) (some (Vx (Ex.ret,[Zk b,Zz .i64 n,Zx [],Zx [],Zx [],Zz .i64 0,Zz .i64 n_5,Zx b_4,Zx b_5,Zx b_7,Zz .i64 n_3,Zz .i64 n_4]))) (some (Sum.inl [Zk b,Zz .i64 n,Zx b_1,Zx b_2,Zx b_3,Zz .i64 n_1,Zz .i64 n_2,Zx b_4,Zx b_5,Zx b_7,Zz .i64 n_3,Zz .i64 (Zj .i64 (n_4+1))]))))) none)))) (some (Vx (Ex.exit 0,[Zk b,Zz .i64 n,Zx b_1,Zx b_2,Zx b_3,Zz .i64 n_1,Zz .i64 n_2,Zx b_4,Zx b_5,Zx b_6,Zz .i64 n_3,Zz .i64 n_4]))))) [Zk b,Zz .i64 pos,Zx [],Zx [],Zx [],Zz .i64 0,Zz .i64 0,Zx [],Zx [],Zx [],Zz .i64 (↑(Zy [0+0,0+1,0+2]):Int),Zz .i64 0]) fun (r:Ex×List AV)=>cBs (Yk r) fun b r_1=>cInt .i64 r_1 fun n r_2=>cStr r_2 fun b r_3=>cStr r_3 fun b_1 r_4=>cStr r_4 fun b_2 r_5=>cInt .i64 r_5 fun n_1 r_6=>cInt .i64 r_6 fun n_2 r_7=>cStr r_7 fun b_3 r_8=>cStr r_8 fun b_4 r_9=>cStr r_9 fun b_5 r_10=>cInt .i64 r_10 fun n_3 r_11=>cInt .i64 r_11 fun n_4 r_12=>onNil r_12 (exK r.1 (some (Zg [Yv [Zx b,Zx b_1,Zx b_2],Zz .i64 n_1,Zz .i64 n_2],[])) fun (j:Nat)=>sel (Nat.beq j 0) (Zw (chk (l63 b_3&&l63 b_4&&l63 b_5) (some (Zv (Yx (Zn b_3 b_4 b_5)),[]))) (kL fun b=>sel (!b) (some (Zg [Yv [Zx [],Zx [],Zx []],Zz .i64 0,Zz .i64 103],[])) (some (Zg [Yv [Zx b_3,Zx b_4,Zx b_5],Zz .i64 n,Zz .i64 0],[])))) none):Option (AV×Blocks))) (by kernel_rfl) ?_
  delta kT kL
  try dsimp only [cStr,cBs,cBool,cU8,cInt,cSl,l63]
  have hb:=of_decide_eq_true hpre
  obtain ⟨T0,hT0⟩:∃ T,T=Ww b pos:=⟨_,rfl⟩
  obtain ⟨T1,hT1⟩:∃ T,T=Ww b T0.next:=⟨_,rfl⟩
  obtain ⟨T2,hT2⟩:∃ T,T=Ww b T1.next:=⟨_,rfl⟩
  have hp:Xk b pos=if T0.err≠0 then ⟨Kerb.noPrin,0,T0.err⟩ else if T1.err≠0 then ⟨Kerb.noPrin,0,T1.err⟩ else if T2.err≠0 then ⟨Kerb.noPrin,0,T2.err⟩
    else if Yx ⟨T0.val,T1.val,T2.val⟩ then ⟨⟨T0.val,T1.val,T2.val⟩,T2.next,0⟩ else ⟨Kerb.noPrin,0,103⟩:=by
   rw [hT2,hT1,hT0];rfl
  have k0:=Qf b pos
  rw [← hT0] at k0
  have k1:=Qf b T0.next
  rw [← hT1] at k1
  have k2:=Qf b T1.next
  rw [← hT2] at k2
  refine loop_rounds (fun i:Nat=>match i with
    | 0=>[Zk b,Zz Zu pos,Zx [],Zx [],Zx [],Zz Zu 0,Zz Zu 0,Zx [],Zx [],Zx [],Zz Zu 3,Zz Zu 0]
    | 1=>[Zk b,Zz Zu T0.next,Zx [],Zx [],Zx [],Zz Zu 0,Zz Zu 0,Zx T0.val,Zx [],Zx [],Zz Zu 3,Zz Zu 1]
    | 2=>[Zk b,Zz Zu T1.next,Zx [],Zx [],Zx [],Zz Zu 0,Zz Zu 0,Zx T0.val,Zx T1.val,Zx [],Zz Zu 3,Zz Zu 2]
    | _=>[Zk b,Zz Zu T2.next,Zx [],Zx [],Zx [],Zz Zu 0,Zz Zu 0,Zx T0.val,Zx T1.val,Zx T2.val,Zz Zu 3,Zz Zu 3])
   (fun i=>i≤3∧(1≤i→T0.err=0)∧(2≤i→T1.err=0)∧(3≤i→T2.err=0)) (fun i=>3-i)
   (fun r=>(T0.err=0∧T1.err=0∧T2.err=0∧r=(Ex.exit 0,[Zk b,Zz Zu T2.next,Zx [],Zx [],Zx [],Zz Zu 0,Zz Zu 0,Zx T0.val,Zx T1.val,Zx T2.val,Zz Zu 3,Zz Zu 3])) ∨
    ∃ n x y z i,Xk b pos=⟨Kerb.noPrin,0,(Xk b pos).err⟩∧r=(Ex.ret,[Zk b,Zz Zu n,Zx [],Zx [],Zx [],Zz Zu 0,Zz Zu (Xk b pos).err,Zx x,Zx y,Zx z,Zz Zu 3,Zz Zu i])) 0 ⟨by omega,by omega,by omega,by omega⟩ rfl ?_ ?_
  ·rintro i ⟨hi,g0,g1,g2⟩
   have hc:i=0∨i=1∨i=2∨i=3:=by omega
   rcases hc with rfl | rfl | rfl | rfl
   ·simp only [A0]
    rw [sel_pos (by decide),chk_of (by decide),sel_pos (by decide),chk_of hpre,← hT0]
    by_cases h:T0.err=0
    ·rw [sel_neg (by simp [h])]
     exact ⟨_,rfl,1,rfl,⟨by omega,fun _=>h,by omega,by omega⟩,by dsimp only;omega⟩
    ·rw [sel_pos (by simpa using h)]
     exact ⟨_,rfl,.inr ⟨_,_,_,_,_,by rw [hp,if_pos h],by rw [hp,if_pos h]⟩⟩
   ·simp only [A0]
    have e0:=g0 (by omega)
    rw [sel_pos (by decide),chk_of (by decide),sel_neg (by decide),sel_pos (by decide),chk_of hpre,← hT1]
    by_cases h:T1.err=0
    ·rw [sel_neg (by simp [h])]
     exact ⟨_,rfl,2,rfl,⟨by omega,fun _=>e0,fun _=>h,by omega⟩,by dsimp only;omega⟩
    ·rw [sel_pos (by simpa using h)]
     exact ⟨_,rfl,.inr ⟨_,_,_,_,_,by rw [hp,if_neg (by simp [e0]),if_pos h],by rw [hp,if_neg (by simp [e0]),if_pos h]⟩⟩
   ·simp only [A0]
    have e0:=g0 (by omega)
    have e1:=g1 (by omega)
    rw [sel_pos (by decide),chk_of (by decide),sel_neg (by decide),sel_neg (by decide),sel_pos (by decide),chk_of hpre,← hT2]
    by_cases h:T2.err=0
    ·rw [sel_neg (by simp [h])]
     exact ⟨_,rfl,3,rfl,⟨by omega,fun _=>e0,fun _=>e1,fun _=>h⟩,by dsimp only;omega⟩
    ·rw [sel_pos (by simpa using h)]
     exact ⟨_,rfl,.inr ⟨_,_,_,_,_,by rw [hp,if_neg (by simp [e0]),if_neg (by simp [e1]),if_pos h],by rw [hp,if_neg (by simp [e0]),if_neg (by simp [e1]),if_pos h]⟩⟩
   ·simp only [A0]
    rw [sel_neg (by decide)]
    exact ⟨_,rfl,.inl ⟨g0 (by omega),g1 (by omega),g2 (by omega),rfl⟩⟩
  ·rintro r (⟨e0,e1,e2,rfl⟩ | ⟨n,x,y,z,i,h,rfl⟩)
   ·simp only [A0]
    rw [sel_pos (Nat.beq_refl _),chk_of (by simp;omega),hp,if_neg (by simp [e0]),if_neg (by simp [e1]),if_neg (by simp [e2])]
    cases hv:Yx ⟨T0.val,T1.val,T2.val⟩
    ·rfl
    ·rfl
   ·simp only [A0]
    rw [h]
    rfl
 ·cases h
theorem w184:Walked Tryz.prog G 184 8 sp184:=by
 refine ⟨Tryz.f184,Tryz.func184,by decide +kernel,rfl,fun xs bl r h=> ?_⟩
 unfold sp184 at h
 split at h
 ·rename_i li x y z ad k lf iss sv ins
  obtain ⟨hpre,h2⟩:=chk_inv h;cases h2
  refine Eq.trans (b:=(Zw (chk (decide (Zy x≤9223372036854775807)&&decide (Zy y≤9223372036854775807)&&decide (Zy z≤9223372036854775807)) (some (Zv (Yx (Zn x y z)),[]))) fun (r:AV×Blocks)=>onNilB (Yk r) (Vw (Yh r) fun b=>sel (!b) (some (Zz .i64 103,[])) (Zw (chk (decide (Zy sv≤9223372036854775807)) (some (Zv (Qy sv),[]))) fun (r:AV×Blocks)=>onNilB (Yk r) (Vw (Yh r) fun b=>sel (!b) (some (Zz .i64 103,[])) (Zw (chk (decide (Zy ins≤9223372036854775807)) (some (Zv (Vh ins),[]))) fun (r:AV×Blocks)=>onNilB (Yk r) (Vw (Yh r) fun b=>sel (!b) (some (Zz .i64 103,[])) (Zw (chk (decide (0≤k)&&decide (k<18446744073709551616)) (some (Zz .i64 (Kerb.classOf k),[]))) fun (r:AV×Blocks)=>onNilB (Yk r) (Wg .i64 (Yh r) fun n=>sel (!n==2) (some (Zz .i64 10,[])) (sel (!Yw ad 4294967295) (some (Zz .i64 104,[])) (sel (!Yw lf 255) (some (Zz .i64 104,[])) (sel (!Yw iss 4294967295) (some (Zz .i64 104,[])) (some (Zz .i64 0,[])))))))))))):Option (AV×Blocks))) (by kernel_rfl) ?_
  simp only [Zh,decide_eq_true_eq] at hpre
  obtain ⟨⟨⟨⟨⟨⟨h1,h2⟩,h3⟩,h4⟩,h5⟩,h6⟩,h7⟩:=hpre
  simp only [h1,h2,h3,h4,h5,h6,h7,decide_true,Xw,↓A0,A0]
  unfold Kerb.Ticket.err
  dsimp only
  cases Yx ⟨x,y,z⟩
  ·rfl
  cases Qy sv
  ·rfl
  cases Vh ins
  ·rfl
  simp only [Yp,Xw,sel_false]
  by_cases hc:Kerb.classOf k=2
  case neg=>rw [sel_pos (by simpa using hc),if_neg (by simp),if_pos hc]
  rw [sel_neg (by simp [hc]),if_neg (by simp),if_neg (by simp [hc])]
  cases Yw ad 4294967295
  ·rfl
  cases Yw lf 255
  ·rfl
  cases Yw iss 4294967295
  ·rfl
  rfl
 ·cases h
theorem w186:Walked Tryz.prog G 186 8 sp186:=by
 refine ⟨Tryz.f186,Tryz.func186,by decide +kernel,rfl,fun xs bl r h=> ?_⟩
 unfold sp186 at h
 split at h
 ·rename_i x y z ck tc tm
  obtain ⟨hpre,h2⟩:=chk_inv h;cases h2
  refine Eq.trans (b:=(Zw (chk (decide (Zy x≤9223372036854775807)&&decide (Zy y≤9223372036854775807)&&decide (Zy z≤9223372036854775807)) (some (Zv (Yx (Zn x y z)),[]))) fun (r:AV×Blocks)=>onNilB (Yk r) (Vw (Yh r) fun b=>sel (!b) (some (Zz .i64 103,[])) (sel (!Yw ck 4294967295) (some (Zz .i64 104,[])) (sel (!Yw tc 199) (some (Zz .i64 104,[])) (sel (!Yw tm 4294967295) (some (Zz .i64 104,[])) (some (Zz .i64 0,[])))))):Option (AV×Blocks))) (by kernel_rfl) ?_
  simp only [A0,Vv,Vm,Ug,hpre]
  unfold Kerb.Auth.check
  simp only
  cases Yx ⟨x,y,z⟩
  ·rfl
  cases Yw ck 4294967295
  ·rfl
  cases Yw tc 199
  ·rfl
  cases Yw tm 4294967295<;>rfl
 ·cases h
theorem w26:Walked Tryz.prog G 26 9 sp26:=by
 refine ⟨Tryz.f26,Tryz.func26,by decide +kernel,rfl,fun xs bl r h=> ?_⟩
 unfold sp26 at h
 split at h
 ·rename_i m1 m2 m3 kls sz fl mls sk
  obtain ⟨hpre,h2⟩:=chk_inv h;cases h2
  refine Eq.trans (b:=(Zw (chk (decide (Zy m1≤9223372036854775807)&&decide (Zy m2≤9223372036854775807)&&decide (Zy m3≤9223372036854775807)) (some (Zv (Yx (Zn m1 m2 m3)),[]))) fun (r:AV×Blocks)=>onNilB (Yk r) (Vw (Yh r) fun b=>sel (!b) (some (Zz .i64 103,[])) (Zw (chk (Vu kls Kerb.isSKey&&decide (Zy kls≤1000000)) (some (Zz .i64 (Kerb.skErr (Xh Ub kls)),[]))) fun (r:AV×Blocks)=>onNilB (Yk r) (Wg .i64 (Yh r) fun n=>sel (!n==0) (some (Zz .i64 n,[])) (Zw (chk (Vu mls Un&&decide (Zy mls≤1000000)) (some (Zz .i64 (Qk (Xn sz fl (Xh Vn mls))),[]))) fun (r:AV×Blocks)=>onNilB (Yk r) (Wg .i64 (Yh r) fun n=>sel (!n==0) (some (Zz .i64 n,[])) (sel (!Yw sk 4294967295) (some (Zz .i64 104,[])) (some (Zz .i64 0,[])))))))):Option (AV×Blocks))) (by kernel_rfl) ?_
  simp only [Zh,decide_eq_true_eq] at hpre
  obtain ⟨⟨⟨⟨⟨⟨l1,l2⟩,l3⟩,ka⟩,kl⟩,ma⟩,ml⟩:=hpre
  obtain ⟨ks,rfl,hks⟩:=Qg ka
  obtain ⟨ms,rfl,hms⟩:=Uk ma
  have hkT:=Qx hks
  have hmT:=Uy hms
  simp only [Yu] at kl ml
  simp only [Vk,Wp,Yu,hkT,hmT,kl,ml,l1,l2,l3,decide_true,Xw,↓A0,A0]
  unfold Kerb.Server.err
  dsimp only
  cases g1:Yx ⟨m1,m2,m3⟩
  ·rfl
  rw [Yp,sel_false,if_neg (by simp)]
  by_cases g2:Kerb.skErr ks=0
  case neg=>rw [sel_pos (by simpa using g2),if_pos g2]
  rw [sel_neg (by simpa using g2),if_neg (by simpa using g2)]
  by_cases g3:Qk ⟨sz,fl,ms⟩=0
  case neg=>rw [sel_pos (by simpa using g3),if_pos g3]
  rw [sel_neg (by simpa using g3),if_neg (by simpa using g3)]
  cases Yw sk 4294967295<;>rfl
 ·cases h
theorem w47:Walked Tryz.prog G 47 9 sp47:=by
 refine ⟨Tryz.f47,Tryz.func47,by decide +kernel,rfl,fun xs bl r h=> ?_⟩
 unfold sp47 at h
 split at h
 ·rename_i sz fl mls a1 a2 a3 at_ atk now skw
  obtain ⟨hpre,h2⟩:=chk_inv h;cases h2
  refine Eq.trans (b:=(let t0:AV:=Yv [Zz .i64 0,Zz .i64 0,Yq 5 []];Zw (chk (Vu mls Un&&decide (Zy mls≤1000000)) (some (Zz .i64 (Qk (Xn sz fl (Xh Vn mls))),[]))) (kI .i64 fun n=>sel (!n==0) (some (Zg [t0,Zz .i64 108],[])) (Zw (chk (l63 a1&&l63 a2&&l63 a3) (some (Zv (Yx (Zn a1 a2 a3)),[]))) (kL fun b=>sel (!b) (some (Zg [t0,Zz .i64 103],[])) (sel (!(decide (0≤atk)&&decide (atk≤199))) (some (Zg [t0,Zz .i64 104],[])) (sel (!Kerb.near at_ now skw) (some (Zg [t0,Zz .i64 37],[])) (sel (decide (at_<fl)) (some (Zg [t0,Zz .i64 37],[])) (Zw (chk (Vu mls Un&&decide (Zy mls≤1000000)) (some (Zv (Kerb.hasMark (Xh Vn mls) (Kerb.Mark.mk (Zn a1 a2 a3) at_ atk)),[]))) (kL fun b=>sel b (some (Zg [t0,Zz .i64 34],[])) (Zw (loopM (fun (st:List AV)=>cInt .i64 st fun n r=>cInt .i64 r fun n_1 r=>cSl 5 r fun b r=>cStr r fun b_1 r=>cStr r fun b_2 r=>cStr r fun b_3 r=>cInt .i64 r fun n_2 r=>cInt .i64 r fun n_3 r=>cInt .i64 r fun n_4 r=>cInt .i64 r fun n_5 r=>cSl 5 r fun b_4 r=>cInt .i64 r fun n_6 r=>cInt .i64 r fun n_7 r=>onCons r fun x r=>AV.onOwnL x fun y=>cSl 5 r fun b_5 r=>cInt .i64 r fun n_8 r=>cInt .i64 r fun n_9 r=>let t1:List AV:=[Yq 5 b_5,Zz .i64 n_8,Zz .i64 (Zj .i64 (n_9+1))];onNil r (sel (decide (n_9<n_8)) (chk (decide (0≤n_9)&&decide (n_9<(↑(Zy b_5):Int))&&true) (Wx (Wf b_5 (Zm n_9) AV.undef) fun cs=>cStr cs fun b_6 r=>cStr r fun b_7 r=>cStr r fun b_8 r=>cInt .i64 r fun n_10 r=>cInt .i64 r fun n_11 r=>let t2:List AV:=[Yv [Zx b_6,Zx b_7,Zx b_8,Zz .i64 n_10,Zz .i64 n_11]];onNil r (sel (decide (n_10≥n_7)) (chk (room (Zy y+Zy t2) (nat_lit 64)) (some (Sum.inl (Zz .i64 n::Zz .i64 n_1::Yq 5 b::Zx b_1::Zx b_2::Zx b_3::Zz .i64 n_2::Zz .i64 n_3::Zz .i64 n_4::Zz .i64 n_5::Yq 5 b_4::Zz .i64 n_6::Zz .i64 n_7::AV.ownL (y++t2)::t1)))) (some (Sum.inl (Zz .i64 n::Zz .i64 n_1::Yq 5 b::Zx b_1::Zx b_2::Zx b_3::Zz .i64 n_2::Zz .i64 n_3::Zz .i64 n_4::Zz .i64 n_5::Yq 5 b_4::Zz .i64 n_6::Zz .i64 n_7::AV.ownL y::t1)))))) (some (Vx (Ex.exit 1,[Zz .i64 n,Zz .i64 n_1,Yq 5 b,Zx b_1,Zx b_2,Zx b_3,Zz .i64 n_2,Zz .i64 n_3,Zz .i64 n_4,Zz .i64 n_5,Yq 5 b_4,Zz .i64 n_6,Zz .i64 n_7,AV.ownL y,Yq 5 b_5,Zz .i64 n_8,Zz .i64 n_9]))))) [Zz .i64 sz,Zz .i64 fl,Yq 5 mls,Zx a1,Zx a2,Zx a3,Zz .i64 at_,Zz .i64 atk,Zz .i64 0,Zz .i64 0,Yq 5 [],Zz .i64 sz,Zz .i64 (Kerb.imax fl (Zj .i64 (now-skw))),AV.ownL [],Yq 5 mls,Zz .i64 (↑(Zy mls):Int),Zz .i64 0]) fun (r:Ex×List AV)=>cInt .i64 (Yk r) fun n r_1=>cInt .i64 r_1 fun n_1 r_2=>cSl 5 r_2 fun b r_3=>cStr r_3 fun b r_4=>cStr r_4 fun b_1 r_5=>cStr r_5 fun b_2 r_6=>cInt .i64 r_6 fun n_2 r_7=>cInt .i64 r_7 fun n_3 r_8=>let t3:List AV:=[Yv [Zx b,Zx b_1,Zx b_2,Zz .i64 n_2,Zz .i64 n_3]];cInt .i64 r_8 fun n_4 r_9=>cInt .i64 r_9 fun n_5 r_10=>cSl 5 r_10 fun b r_11=>cInt .i64 r_11 fun n_6 r_12=>cInt .i64 r_12 fun n_7 r_13=>onCons r_13 fun x r_14=>AV.onOwnL x fun y=>cSl 5 r_14 fun b r_15=>cInt .i64 r_15 fun n_8 r_16=>cInt .i64 r_16 fun n_9 r_17=>onNil r_17 (exK r.1 none fun (j:Nat)=>sel (Nat.beq j 1) (sel (decide ((↑(Zy y):Int)≥n)) (some (Zg [t0,Zz .i64 82],[])) (chk (room (Zy y+Zy t3) (nat_lit 64)) (some (Zg [Yv [Zz .i64 n_6,Zz .i64 n_7,Yq 5 (y++t3)],Zz .i64 0],[])))) none)))))))))):Option (AV×Blocks))) (by kernel_rfl) ?_
  delta kL kI
  try dsimp only [cStr,cBs,cBool,cU8,cInt,cSl,l63]
  simp only [Zh,decide_eq_true_eq] at hpre
  obtain ⟨⟨⟨⟨hall,hlen⟩,l1⟩,l2⟩,l3⟩:=hpre
  obtain ⟨cs,rfl,hok⟩:=Uk hall
  have hma:=Uy hok
  simp only [Yu] at hlen
  have hlT:decide (cs.length≤1000000)=true:=decide_eq_true hlen
  simp only [Wp,Yu,hma,hlT,l1,l2,l3,decide_true,Xw,↓A0,A0]
  obtain ⟨R,hR⟩:∃ R,Xn sz fl cs=R:=⟨_,rfl⟩
  unfold Kerb.addMark
  by_cases h1:(Xn sz fl cs).err=0
  case neg=>rw [sel_pos (by simpa using h1),if_pos h1];rfl
  rw [sel_neg (by simpa using h1),if_neg (by simpa using h1)]
  cases h2:Yx ⟨a1,a2,a3⟩
  ·rfl
  rw [Yp,sel_false,if_neg (by simp)]
  cases h3:(decide ((0:Int)≤atk)&&decide (atk≤199))
  ·rw [if_pos (by unfold Yw;rw [h3];rfl)];rfl
  rw [Yp,sel_false,if_neg (by unfold Yw;rw [h3];simp)]
  cases h4:Kerb.near at_ now skw
  ·rw [if_pos (.inl rfl)];rfl
  rw [Yp,sel_false]
  by_cases h5:at_<fl
  ·rw [sel_pos (by simpa using h5),if_pos (.inr h5)];rfl
  rw [sel_neg (by simpa using h5),if_neg (by simp;omega)]
  cases h6:Kerb.hasMark cs ⟨⟨a1,a2,a3⟩,at_,atk⟩
  case true=>rfl
  rw [sel_false,if_neg (by simp)]
  have hn:(0≤now∧now≤4294967295)∧(0≤skw∧skw≤4294967295):=by
   simp only [Kerb.near,Zh,Kerb.within_iff] at h4
   omega
  rw [wrap_i64 (n:=now-skw) (by omega) (by omega)]
  obtain ⟨FL,hFL⟩:∃ FL,Kerb.imax fl (now-skw)=FL:=⟨_,rfl⟩
  have hfr:Kerb.freshMarks ⟨sz,fl,cs⟩ now skw=cs.filter (fun x=>decide (FL≤x.time)):=by rw [← hFL];rfl
  rw [hfr,hFL]
  have r64:∀ {m:Nat},m≤1000001→Go.Abs.room m 64=true:=fun h=>by simp [Go.Abs.room];omega
  have hfl:∀ i,((cs.take i).filter (fun x=>decide (FL≤x.time))).length≤1000000:=fun i=>by
   refine Uq (List.length_filter_le _ _) ?_
   rw [List.length_take];omega
  refine loop_rounds (fun i:Nat=>[Zz Zu sz,Zz Zu fl,Yq 5 (cs.map Ym),Zx a1,Zx a2,Zx a3,Zz Zu at_,Zz Zu atk,Zz Zu 0,Zz Zu 0,Yq 5 [],Zz Zu sz,Zz Zu FL,AV.ownL (((cs.take i).filter (fun x=>decide (FL≤x.time))).map Ym),Yq 5 (cs.map Ym),Zz Zu (cs.length:Int),Zz Zu (i:Int)]) (fun i=>i≤cs.length) (fun i=>cs.length-i)
   (fun r=>∃ i:Nat,r=(Ex.exit 1,[Zz Zu sz,Zz Zu fl,Yq 5 (cs.map Ym),Zx a1,Zx a2,Zx a3,Zz Zu at_,Zz Zu atk,Zz Zu 0,Zz Zu 0,Yq 5 [],Zz Zu sz,Zz Zu FL,AV.ownL (((cs.take i).filter (fun x=>decide (FL≤x.time))).map Ym),Yq 5 (cs.map Ym),Zz Zu (cs.length:Int),Zz Zu (i:Int)])∧i=cs.length) 0 (Nat.zero_le _) rfl ?_ ?_
  ·intro i hi
   simp only [↓A0,A0,Yu,List.length_cons,List.length_nil]
   by_cases hlt:i<cs.length
   ·have hk1:(decide ((0:Int)≤(i:Int))&&decide ((i:Int)<(cs.length:Int))&&true)=true:=by simp;omega
    have hg:(cs.map Ym).getD i AV.undef=(cs.getD i Kerb.noMark).av:=Kerb.getD_row hlt
    obtain ⟨c,hc⟩:∃ c,cs.getD i Kerb.noMark=c:=⟨_,rfl⟩
    have hs:(cs.take (i+1)).filter (fun x=>decide (FL≤x.time))=(cs.take i).filter (fun x=>decide (FL≤x.time))++(if FL≤c.time then [c] else []):=by
     rw [Kerb.take_row (d:=Kerb.noMark) hlt,hc,List.filter_append]
     congr 1
     by_cases q:FL≤c.time<;>simp [q]
    rw [hc] at hg
    rw [sel_pos (by simp;omega)]
    simp only [hk1,Qh,hg,Ym,↓A0,A0]
    rw [wrap_i64 (by omega) (by omega)]
    by_cases hq:FL≤c.time
    ·rw [if_pos hq] at hs
     rw [sel_pos (by simpa using hq),chk_of (r64 (by have:=hfl i;omega))]
     refine ⟨_,rfl,i+1,?_,by omega,by dsimp only;omega⟩
     dsimp only
     rw [hs,List.map_append]
     rfl
    ·rw [if_neg hq,List.append_nil] at hs
     rw [sel_neg (by simpa using hq)]
     exact ⟨_,rfl,i+1,by dsimp only;rw [hs];rfl,by omega,by dsimp only;omega⟩
   ·rw [sel_neg (by simp;omega)]
    exact ⟨_,rfl,i,rfl,by omega⟩
  ·rintro _ ⟨i,rfl,rfl⟩
   simp only [↓A0,A0,Yu,List.length_cons,List.length_nil]
   rw [sel_pos (Nat.beq_refl _),List.take_length]
   have hF:=hfl cs.length
   rw [List.take_length] at hF
   by_cases h7:sz≤((cs.filter (fun x=>decide (FL≤x.time))).length:Int)
   ·rw [sel_pos (by simp;omega),if_pos h7];rfl
   ·rw [sel_neg (by simp;omega),if_neg h7,chk_of (r64 (by omega)),List.map_append]
    rfl
 ·cases h
theorem w178:Walked Tryz.prog G 178 9 sp178:=by
 refine ⟨Tryz.f178,Tryz.func178,by decide +kernel,rfl,fun xs bl r h=> ?_⟩
 unfold sp178 at h
 split at h
 ·rename_i li x y z ad k lf iss sv ins
  obtain ⟨hpre,h2⟩:=chk_inv h;cases h2
  refine Eq.trans (b:=(let t0:Nat:=Zy ([]++Yd 1 1 false)+Zy x+Zy y+Zy z;let t1:Nat:=Zy ([]++Yd 0 1 false)+Zy x+Zy y+Zy z;let t2:Option (AV×Blocks):=chk (decide (0≤k)&&decide (k<18446744073709551616)) (some (Zk (Kerb.keyBytes k),[]));Zw (chk (l63 x&&l63 y&&l63 z&&l63 sv&&l63 ins&&decide (0≤k)&&decide (k<18446744073709551616)) (some (Zz .i64 (Kerb.Ticket.err (Wk li (Zn x y z) ad k lf iss sv ins)),[]))) (kI .i64 fun n=>sel (!n==0) (some (Zg [Zk [],Zz .i64 n],[])) (sel li (Zw (chk (decide (t0≤70368744170000)) (some (Zk (Kerb.putPrin ([]++Yd 1 1 false) (Zn x y z)),[]))) (kB fun b=>Zw (chk (decide (Zy b≤70368744177664)) (some (Xm (b++Yd ad 4 li),[]))) (kO fun l=>Zw t2 (kB fun b=>Zw (chk (decide (Zy (Yf l (Yf b []))≤140737488355328)&&decide (Zy [Zk l,Zk b]≤1000)) (some (Xm (Yf l (Yf b [])),[]))) (kO fun l=>Zw (chk (decide (Zy l≤70368744177664)) (some (Xm (l++Yd lf 1 false),[]))) (kO fun l=>Zw (chk (decide (Zy l≤70368744177664)) (some (Xm (l++Yd iss 4 li),[]))) (kO fun l=>Zw (chk (decide (Zy l+Zy sv≤70368744177664)) (some (Zk (Xp l sv),[]))) (kB fun b=>Zw (chk (decide (Zy b+Zy ins≤70368744177664)) (some (Zk (Xp b ins),[]))) (kB fun b=>Zw (chk (decide (Zy b≤70368744177664)) (some (Zk (Kerb.pad b),[]))) (kB fun b=>some (Zg [Zk b,Zz .i64 0],[]))))))))))) (Zw (chk (decide (t1≤70368744170000)) (some (Zk (Kerb.putPrin ([]++Yd 0 1 false) (Zn x y z)),[]))) (kB fun b=>Zw (chk (decide (Zy b≤70368744177664)) (some (Xm (b++Yd ad 4 li),[]))) (kO fun l=>Zw t2 (kB fun b=>Zw (chk (decide (Zy (Yf l (Yf b []))≤140737488355328)&&decide (Zy [Zk l,Zk b]≤1000)) (some (Xm (Yf l (Yf b [])),[]))) (kO fun l=>Zw (chk (decide (Zy l≤70368744177664)) (some (Xm (l++Yd lf 1 false),[]))) (kO fun l=>Zw (chk (decide (Zy l≤70368744177664)) (some (Xm (l++Yd iss 4 li),[]))) (kO fun l=>Zw (chk (decide (Zy l+Zy sv≤70368744177664)) (some (Zk (Xp l sv),[]))) (kB fun b=>Zw (chk (decide (Zy b+Zy ins≤70368744177664)) (some (Zk (Xp b ins),[]))) (kB fun b=>Zw (chk (decide (Zy b≤70368744177664)) (some (Zk (Kerb.pad b),[]))) (kB fun b=>some (Zg [Zk b,Zz .i64 0],[]))))))))))))):Option (AV×Blocks))) (by kernel_rfl) ?_
  delta kB kO kI
  try dsimp only [cStr,cBs,cBool,cU8,cInt,cSl,l63]
  simp only [Zh,decide_eq_true_eq] at hpre
  obtain ⟨⟨⟨⟨⟨⟨h1,h2⟩,h3⟩,h4⟩,h5⟩,h6⟩,h7⟩:=hpre
  simp only [h1,h2,h3,h4,h5,h6,h7,decide_true,Xw,↓A0,A0]
  have hb := @Kerb.encTicket_inv ⟨li,⟨x,y,z⟩,ad,k,lf,iss,sv,ins⟩
  unfold Wb at hb ⊢
  dsimp only at hb ⊢
  generalize hE:Kerb.Ticket.err _=e at hb ⊢
  by_cases he:e=0
  case neg=>rw [sel_pos (by simpa using he),if_pos he]
  rw [if_neg (by simpa using he)] at hb
  obtain ⟨v1,v2,v3,_⟩:=hb rfl
  have l1:=Kerb.valid_len v1
  have l2:=(Kerb.name_ok v2).1
  have l3:=(Kerb.inst_ok v3).1
  dsimp only at l1
  rw [sel_neg (by simpa using he),if_neg (by simpa using he)]
  cases li
  ·rw [sel_false,chk_of (by first | (simp [Zp,Zd,Zf];done) | (simp [Zp,Zd,Zf];omega)),chk_of (by first | (simp [Zp,Zd,Zf];done) | (simp [Zp,Zd,Zf];omega)),chk_of (by first | (simp [Zp,Zd,Zf];done) | (simp [Zp,Zd,Zf];omega)),chk_of (by first | (simp [Zp,Zd,Zf];done) | (simp [Zp,Zd,Zf];omega)),chk_of (by first | (simp [Zp,Zd,Zf];done) | (simp [Zp,Zd,Zf];omega)),chk_of (by first | (simp [Zp,Zd,Zf];done) | (simp [Zp,Zd,Zf];omega)),chk_of (by first | (simp [Xp,Zp,Zd,Zf];done) | (simp [Xp,Zp,Zd,Zf];omega)),chk_of (by first | (simp [Xp,Zp,Zd,Zf];done) | (simp [Xp,Zp,Zd,Zf];omega))]
   simp
  ·rw [sel_true,chk_of (by first | (simp [Zp,Zd,Zf];done) | (simp [Zp,Zd,Zf];omega)),chk_of (by first | (simp [Zp,Zd,Zf];done) | (simp [Zp,Zd,Zf];omega)),chk_of (by first | (simp [Zp,Zd,Zf];done) | (simp [Zp,Zd,Zf];omega)),chk_of (by first | (simp [Zp,Zd,Zf];done) | (simp [Zp,Zd,Zf];omega)),chk_of (by first | (simp [Zp,Zd,Zf];done) | (simp [Zp,Zd,Zf];omega)),chk_of (by first | (simp [Zp,Zd,Zf];done) | (simp [Zp,Zd,Zf];omega)),chk_of (by first | (simp [Xp,Zp,Zd,Zf];done) | (simp [Xp,Zp,Zd,Zf];omega)),chk_of (by first | (simp [Xp,Zp,Zd,Zf];done) | (simp [Xp,Zp,Zd,Zf];omega))]
   simp
 ·cases h
theorem w179:Walked Tryz.prog G 179 9 sp179:=by
 refine ⟨Tryz.f179,Tryz.func179,by decide +kernel,rfl,fun xs bl r h=> ?_⟩
 unfold sp179 at h
 split at h
 ·rename_i x y z ck tc tm li
  obtain ⟨hpre,h2⟩:=chk_inv h;cases h2
  refine Eq.trans (b:=(let t0:Nat:=Zy ([]++Yd 0 1 false)+Zy x+Zy y+Zy z;let t1:Nat:=Zy ([]++Yd 1 1 false)+Zy x+Zy y+Zy z;Zw (chk (l63 x&&l63 y&&l63 z) (some (Zz .i64 (Kerb.Auth.check (Wy (Zn x y z) ck tc tm)),[]))) (kI .i64 fun n=>sel (!n==0) (some (Zg [Zk [],Zz .i64 n],[])) (sel li (Zw (chk (decide (t1≤70368744170000)) (some (Zk (Kerb.putPrin ([]++Yd 1 1 false) (Zn x y z)),[]))) (kB fun b=>Zw (chk (decide (Zy b≤70368744177664)) (some (Xm (b++Yd ck 4 li),[]))) (kO fun l=>Zw (chk (decide (Zy l≤70368744177664)) (some (Xm (l++Yd tc 1 false),[]))) (kO fun l=>Zw (chk (decide (Zy l≤70368744177664)) (some (Xm (l++Yd tm 4 li),[]))) (kO fun l=>Zw (chk (decide (Zy l≤70368744177664)) (some (Zk (Kerb.pad l),[]))) (kB fun b=>some (Zg [Zk b,Zz .i64 0],[]))))))) (Zw (chk (decide (t0≤70368744170000)) (some (Zk (Kerb.putPrin ([]++Yd 0 1 false) (Zn x y z)),[]))) (kB fun b=>Zw (chk (decide (Zy b≤70368744177664)) (some (Xm (b++Yd ck 4 li),[]))) (kO fun l=>Zw (chk (decide (Zy l≤70368744177664)) (some (Xm (l++Yd tc 1 false),[]))) (kO fun l=>Zw (chk (decide (Zy l≤70368744177664)) (some (Xm (l++Yd tm 4 li),[]))) (kO fun l=>Zw (chk (decide (Zy l≤70368744177664)) (some (Zk (Kerb.pad l),[]))) (kB fun b=>some (Zg [Zk b,Zz .i64 0],[]))))))))):Option (AV×Blocks))) (by kernel_rfl) ?_
  delta kB kO kI
  try dsimp only [cStr,cBs,cBool,cU8,cInt,cSl,l63]
  simp only [A0,Vv,Vm,Ug,hpre]
  unfold Wd
  by_cases h:(Wy ⟨x,y,z⟩ ck tc tm).check=0
  case neg =>
   rw [sel_pos (by simpa using h),if_pos h]
  have hv:Yx ⟨x,y,z⟩=true:=by
   unfold Kerb.Auth.check at h
   cases hv:Yx ⟨x,y,z⟩
   ·simp [hv] at h
   ·rfl
  have l1:=Kerb.valid_len hv
  simp only at l1
  rw [sel_neg (by simp [h]),if_neg (by simpa using h)]
  cases li
  ·simp only [A0,Vv,Vm,Ug,List.nil_append,cond_false,cond_true]
   rw [chk_of (by simp [Zd];omega),chk_of (by simp [Zd,Zp];omega),chk_of (by simp [Zd,Zp];omega),chk_of (by simp [Zd,Zp];omega),chk_of (by simp [Zd,Zp];omega)]
  ·simp only [A0,Vv,Vm,Ug,List.nil_append,cond_false,cond_true]
   rw [chk_of (by simp [Zd];omega),chk_of (by simp [Zd,Zp];omega),chk_of (by simp [Zd,Zp];omega),chk_of (by simp [Zd,Zp];omega),chk_of (by simp [Zd,Zp];omega)]
 ·cases h
theorem w154:Walked Tryz.prog G 154 10 sp154:=by
 refine ⟨Tryz.f154,Tryz.func154,by decide +kernel,rfl,fun xs bl r h=> ?_⟩
 unfold sp154 at h
 split at h
 ·rename_i b
  obtain ⟨hpre,h2⟩:=chk_inv h;cases h2
  refine Eq.trans (b:=(let t1:AV:=Yv [Zv false,Zx [],Zx [],Zx [],Zz .i64 0,Zz .u64 0,Zz .i64 0,Zz .i64 0,Zx [],Zx []];let t0:Option (AV×Blocks):=some (Zg [t1,Zz .i64 100],[]);Zw (chk (decide (Zy b≤4611686018427387904)) (some (Zg [Zz .i64 (Vf (Xv b 0 1 false)),Zz .i64 (Vy (Xv b 0 1 false)),Zz .i64 (Vg (Xv b 0 1 false))],[]))) (kT fun vs=>cInt .i64 vs fun n r=>cInt .i64 r fun n_1 r=>cInt .i64 r fun n_2 r=>onNil r (sel (decide (n>1)) (some (Zg [t1,Zz .i64 7],[])) (Zw (chk (decide (Zy b≤4611686018427387904)) (some (Zg [Yv [Zx (Xu (Uu (Xk b n_1))),Zx (Xq (Uu (Xk b n_1))),Zx (Yn (Uu (Xk b n_1)))],Zz .i64 (Kerb.GotP.next (Xk b n_1)),Zz .i64 (Kerb.GotP.err (Xk b n_1))],[]))) (kT fun vs=>onCons vs fun x r=>Wx x fun cs=>cStr cs fun b_1 r_1=>cStr r_1 fun b_2 r_2=>cStr r_2 fun b_3 r_3=>onNil r_3 (cInt .i64 r fun n_3 r=>cInt .i64 r fun n_4 r=>onNil r (Zw (chk (decide (Zy b≤4611686018427387904)) (some (Zg [Zz .i64 (Vf (Xv b n_3 4 (n==1))),Zz .i64 (Vy (Xv b n_3 4 (n==1))),Zz .i64 (Vg (Xv b n_3 4 (n==1)))],[]))) (kT fun vs=>cInt .i64 vs fun n_5 r=>cInt .i64 r fun n_6 r=>cInt .i64 r fun n_7 r=>onNil r (Zw (chk (decide (Zy b≤140737488355328)) (some (Zg [Zk (Kerb.GotB.val (Kerb.bytes b n_6 8)),Zz .i64 (Kerb.GotB.next (Kerb.bytes b n_6 8)),Zz .i64 (Kerb.GotB.err (Kerb.bytes b n_6 8))],[]))) (kT fun vs=>cBs vs fun b_4 r=>cInt .i64 r fun n_8 r=>cInt .i64 r fun n_9 r=>onNil r (Zw (chk (decide (Zy b_4≤4611686018427387904)) (some (Zg [Zz .u64 (Yh (Uw b_4)),Zv (Yk (Uw b_4))],[]))) (kT fun vs=>cInt .u64 vs fun n_10 r=>cBool r fun b_5 r=>onNil r (Zw (chk (decide (Zy b≤4611686018427387904)) (some (Zg [Zz .i64 (Vf (Xv b n_8 1 false)),Zz .i64 (Vy (Xv b n_8 1 false)),Zz .i64 (Vg (Xv b n_8 1 false))],[]))) (kT fun vs=>cInt .i64 vs fun n_11 r=>cInt .i64 r fun n_12 r=>cInt .i64 r fun n_13 r=>onNil r (Zw (chk (decide (Zy b≤4611686018427387904)) (some (Zg [Zz .i64 (Vf (Xv b n_12 4 (n==1))),Zz .i64 (Vy (Xv b n_12 4 (n==1))),Zz .i64 (Vg (Xv b n_12 4 (n==1)))],[]))) (kT fun vs=>cInt .i64 vs fun n_14 r=>cInt .i64 r fun n_15 r=>cInt .i64 r fun n_16 r=>onNil r (Zw (chk (decide (Zy b≤4611686018427387904)) (some (Zg [Zx (Kerb.GotB.val (Ww b n_15)),Zz .i64 (Kerb.GotB.next (Ww b n_15)),Zz .i64 (Kerb.GotB.err (Ww b n_15))],[]))) (kT fun vs=>cStr vs fun b_6 r=>cInt .i64 r fun n_17 r=>cInt .i64 r fun n_18 r=>onNil r (Zw (chk (decide (Zy b≤4611686018427387904)) (some (Zg [Zx (Kerb.GotB.val (Ww b n_17)),Zz .i64 (Kerb.GotB.next (Ww b n_17)),Zz .i64 (Kerb.GotB.err (Ww b n_17))],[]))) (kT fun vs=>cStr vs fun b_7 r=>let t2:Kerb.Enc:=Wb (Wk (n==1) (Zn b_1 b_2 b_3) n_5 n_10 n_11 n_14 b_6 b_7);cInt .i64 r fun n_19 r=>cInt .i64 r fun n_20 r=>onNil r (Zw (chk (l63 b_1&&l63 b_2&&l63 b_3&&l63 b_6&&l63 b_7&&decide (0≤n_10)&&decide (n_10<18446744073709551616)) (some (Zg [Zk (Xz t2),Zz .i64 (Xy t2)],[]))) (kT fun vs=>cBs vs fun b_8 r=>cInt .i64 r fun n_21 r=>onNil r (sel (!n_21==0) t0 (sel (!b_8==b) t0 (some (Zg [Yv [Zv (n==1),Zx b_1,Zx b_2,Zx b_3,Zz .i64 n_5,Zz .u64 n_10,Zz .i64 n_11,Zz .i64 n_14,Zx b_6,Zx b_7],Zz .i64 0],[]))))))))))))))))))))))))):Option (AV×Blocks))) (by kernel_rfl) ?_
  delta kT
  try dsimp only [cStr,cBs,cBool,cU8,cInt,cSl,l63]
  have hb:=of_decide_eq_true hpre
  have hpre2:decide (b.length≤4611686018427387904)=true:=by simp;omega
  simp only [hpre,hpre2,↓A0,A0]
  unfold Yg
  by_cases h7:1<(Xv b 0 1 false).val
  ·rw [sel_pos (by simpa using h7),if_pos h7];try rfl
  rw [sel_neg (by simpa using h7),if_neg h7]
  have hl:∀ p n,(Kerb.bytes b p n).val.length≤4611686018427387904:=fun p n=>Uq (Kerb.bytes_len b p n) (by omega)
  have hk:∀ q,0≤(Uw q).1∧(Uw q).1<18446744073709551616:=Kerb.keyRead_bd
  have hx:∀ q,(Ww b q).val.length≤40:=Qf b
  have lp:∀ q (_:Unit),(Xk b q).val.name.length≤40∧(Xk b q).val.inst.length≤40∧(Xk b q).val.realm.length≤40:=fun q _=>Kerb.prin_len b q
  rw [chk_of (by simp only [decide_eq_true_eq];exact hl _ _),chk_of (by simp only [Zh,decide_eq_true_eq];exact ⟨⟨⟨⟨⟨⟨Uq (lp _ ()).1 (by decide),Uq (lp _ ()).2.1 (by decide)⟩,Uq (lp _ ()).2.2 (by decide)⟩,Uq (hx _) (by decide)⟩,Uq (hx _) (by decide)⟩,(hk _).1⟩,(hk _).2⟩)]
  exact Kerb.decBy_fin (no:=Kerb.noTicket) (enc:=Wb) (rd:=fun b=>(Kerb.readTicket b,false)) _ false rfl (fun x e=>(Zg [Yv [Zv (x).little,Zx (x).client.name,Zx (x).client.inst,Zx (x).client.realm,Zz Zu (x).address,Zz IntKind.u64 (x).session,Zz Zu (x).life,Zz Zu (x).issued,Zx (x).service,Zx (x).inst],Zz Zu e],([]:Blocks)))
 ·cases h
theorem w155:Walked Tryz.prog G 155 10 sp155:=by
 refine ⟨Tryz.f155,Tryz.func155,by decide +kernel,rfl,fun xs bl r h=> ?_⟩
 unfold sp155 at h
 split at h
 ·rename_i b li
  obtain ⟨hpre,h2⟩:=chk_inv h;cases h2
  refine Eq.trans (b:=(let t0:Option (AV×Blocks):=some (Zg [Yv [Zx [],Zx [],Zx [],Zz .i64 0,Zz .i64 0,Zz .i64 0],Zz .i64 100],[]);Zw (chk (decide (Zy b≤4611686018427387904)) (some (Zg [Yv [Zx (Xu (Uu (Xk b 1))),Zx (Xq (Uu (Xk b 1))),Zx (Yn (Uu (Xk b 1)))],Zz .i64 (Kerb.GotP.next (Xk b 1)),Zz .i64 (Kerb.GotP.err (Xk b 1))],[]))) (kT fun vs=>onCons vs fun x r=>Wx x fun cs=>cStr cs fun b_1 r_1=>cStr r_1 fun b_2 r_2=>cStr r_2 fun b_3 r_3=>onNil r_3 (cInt .i64 r fun n r=>cInt .i64 r fun n_1 r=>onNil r (Zw (chk (decide (Zy b≤4611686018427387904)) (some (Zg [Zz .i64 (Vf (Xv b n 4 li)),Zz .i64 (Vy (Xv b n 4 li)),Zz .i64 (Vg (Xv b n 4 li))],[]))) (kT fun vs=>cInt .i64 vs fun n r=>cInt .i64 r fun n_2 r=>cInt .i64 r fun n_3 r=>onNil r (Zw (chk (decide (Zy b≤4611686018427387904)) (some (Zg [Zz .i64 (Vf (Xv b n_2 1 false)),Zz .i64 (Vy (Xv b n_2 1 false)),Zz .i64 (Vg (Xv b n_2 1 false))],[]))) (kT fun vs=>cInt .i64 vs fun n_4 r=>cInt .i64 r fun n_5 r=>cInt .i64 r fun n_6 r=>onNil r (Zw (chk (decide (Zy b≤4611686018427387904)) (some (Zg [Zz .i64 (Vf (Xv b n_5 4 li)),Zz .i64 (Vy (Xv b n_5 4 li)),Zz .i64 (Vg (Xv b n_5 4 li))],[]))) (kT fun vs=>cInt .i64 vs fun n_7 r=>cInt .i64 r fun n_8 r=>cInt .i64 r fun n_9 r=>onNil r (Zw (chk (l63 b_1&&l63 b_2&&l63 b_3) (some (Zg [Zk (Xz (Wd (Wy (Zn b_1 b_2 b_3) n n_4 n_7) li)),Zz .i64 (Xy (Wd (Wy (Zn b_1 b_2 b_3) n n_4 n_7) li))],[]))) (kT fun vs=>cBs vs fun b_4 r=>cInt .i64 r fun n_10 r=>onNil r (sel (!n_10==0) t0 (sel (!b_4==b) t0 (some (Zg [Yv [Zx b_1,Zx b_2,Zx b_3,Zz .i64 n,Zz .i64 n_4,Zz .i64 n_7],Zz .i64 0],[])))))))))))))):Option (AV×Blocks))) (by kernel_rfl) ?_
  delta kT
  try dsimp only [cStr,cBs,cBool,cU8,cInt,cSl,l63]
  have hb:=of_decide_eq_true hpre
  have hpre2:decide (b.length≤4611686018427387904)=true:=by simp;omega
  obtain ⟨n1,n2,n3⟩:=Kerb.prin_len b 1
  have g1:(Xk b 1).val.name.length≤9223372036854775807:=by omega
  have g2:(Xk b 1).val.inst.length≤9223372036854775807:=by omega
  have g3:(Xk b 1).val.realm.length≤9223372036854775807:=by omega
  simp only [hpre2,g1,g2,g3,decide_true,Xw,↓A0,A0]
  exact Kerb.decBy_fin (no:=Kerb.noAuth) (enc:=fun a=>Wd a li) (rd:=fun b=>(Kerb.readAuth b li,false)) _ false rfl (fun x e=>(Zg [.agg [.str (x).client.name,.str (x).client.inst,.str (x).client.realm,.int .i64 (x).checksum,.int .i64 (x).tick,.int .i64 (x).time],Zz Zu e],([]:Blocks)))
 ·cases h
theorem w97:Walked Tryz.prog G 97 11 sp97:=by
 refine ⟨Tryz.f97,Tryz.func97,by decide +kernel,rfl,fun xs bl r h=> ?_⟩
 unfold sp97 at h
 split at h
 ·rename_i b k
  obtain ⟨hpre,h2⟩:=chk_inv h;cases h2
  refine Eq.trans (b:=(Zw (chk (decide (Zy b≤140737488355328)) (some (Zg [Zk (Yh (Wj b 1 k)),Zv (Yk (Wj b 1 k))],[]))) (kT fun vs=>cBs vs fun b r=>cBool r fun b_1 r=>onNil r (sel (!b_1) (some (Zg [Yv [Zv false,Zx [],Zx [],Zx [],Zz .i64 0,Zz .u64 0,Zz .i64 0,Zz .i64 0,Zx [],Zx []],Zz .i64 31],[])) (Zw (chk (decide (Zy b≤140737488355328)) (some (Zg [Yv [Zv (Kerb.Ticket.little (Zb (Yg b))),Zx (Xu (Xj (Zb (Yg b)))),Zx (Xq (Xj (Zb (Yg b)))),Zx (Yn (Xj (Zb (Yg b)))),Zz .i64 (Kerb.Ticket.address (Zb (Yg b))),Zz .u64 (Kerb.Ticket.session (Zb (Yg b))),Zz .i64 (Kerb.Ticket.life (Zb (Yg b))),Zz .i64 (Kerb.Ticket.issued (Zb (Yg b))),Zx (Kerb.Ticket.service (Zb (Yg b))),Zx (Kerb.Ticket.inst (Zb (Yg b)))],Zz .i64 (Um (Yg b))],[]))) (kT fun vs=>onCons vs fun x r=>Wx x fun cs=>cBool cs fun b r_1=>cStr r_1 fun b_2 r_2=>cStr r_2 fun b_3 r_3=>cStr r_3 fun b_4 r_4=>cInt .i64 r_4 fun n r_5=>cInt .u64 r_5 fun n_1 r_6=>cInt .i64 r_6 fun n_2 r_7=>cInt .i64 r_7 fun n_3 r_8=>cStr r_8 fun b_5 r_9=>cStr r_9 fun b_6 r_10=>onNil r_10 (cInt .i64 r fun n_4 r=>onNil r (some (Zg [Yv [Zv b,Zx b_2,Zx b_3,Zx b_4,Zz .i64 n,Zz .u64 n_1,Zz .i64 n_2,Zz .i64 n_3,Zx b_5,Zx b_6],Zz .i64 n_4],[]))))))):Option (AV×Blocks))) (by kernel_rfl) ?_
  delta kT
  try dsimp only [cStr,cBs,cBool,cU8,cInt,cSl,l63]
  have hb:=of_decide_eq_true hpre
  have hl:=Kerb.openBox_len b 1 k
  simp only [hpre,↓A0,A0]
  unfold Yy
  cases h:(Wj b 1 k).2
  ·rfl
  ·rw [sel_neg (by simp),chk_of (by simp;omega)]
   rfl
 ·cases h
theorem w99:Walked Tryz.prog G 99 11 sp99:=by
 refine ⟨Tryz.f99,Tryz.func99,by decide +kernel,rfl,fun xs bl r h=> ?_⟩
 unfold sp99 at h
 split at h
 ·rename_i b li k
  obtain ⟨hpre,h2⟩:=chk_inv h;cases h2
  refine Eq.trans (b:=(let t0:Option (AV×Blocks):=some (Zg [Yv [Zx [],Zx [],Zx [],Zz .i64 0,Zz .i64 0,Zz .i64 0],Zz .i64 31],[]);Zw (chk (decide (Zy b≤140737488355328)) (some (Zg [Zk (Yh (Wj b 2 k)),Zv (Yk (Wj b 2 k))],[]))) (kT fun vs=>cBs vs fun b r=>cBool r fun b_1 r=>onNil r (sel (!b_1) t0 (Zw (chk (decide (Zy b≤140737488355328)) (some (Zg [Yv [Zx (Xu (Xf (Zb (Wv b li)))),Zx (Xq (Xf (Zb (Wv b li)))),Zx (Yn (Xf (Zb (Wv b li)))),Zz .i64 (Kerb.Auth.checksum (Zb (Wv b li))),Zz .i64 (Kerb.Auth.tick (Zb (Wv b li))),Zz .i64 (Kerb.Auth.time (Zb (Wv b li)))],Zz .i64 (Um (Wv b li))],[]))) (kT fun vs=>onCons vs fun x r=>Wx x fun cs=>cStr cs fun b r_1=>cStr r_1 fun b_2 r_2=>cStr r_2 fun b_3 r_3=>cInt .i64 r_3 fun n r_4=>cInt .i64 r_4 fun n_1 r_5=>cInt .i64 r_5 fun n_2 r_6=>onNil r_6 (cInt .i64 r fun n_3 r=>onNil r (sel (!n_3==0) t0 (some (Zg [Yv [Zx b,Zx b_2,Zx b_3,Zz .i64 n,Zz .i64 n_1,Zz .i64 n_2],Zz .i64 0],[])))))))):Option (AV×Blocks))) (by kernel_rfl) ?_
  delta kT
  try dsimp only [cStr,cBs,cBool,cU8,cInt,cSl,l63]
  have hb:=of_decide_eq_true hpre
  have hpre2:decide (b.length≤4611686018427387904)=true:=by simp;omega
  have hl:=Kerb.openBox_len b 2 k
  have hl2:decide ((Wj b 2 k).1.length≤140737488355328)=true:=by simp;omega
  simp only [hpre,hl2,↓A0,A0]
  unfold Wu
  cases h1:(Wj b 2 k).2
  ·rfl
  rw [Yp,sel_false,if_neg (by simp)]
  by_cases h2:(Wv (Wj b 2 k).1 li).err=0
  case neg=>rw [sel_pos (by simpa using h2),if_pos h2];rfl
  rw [sel_neg (by simpa using h2),if_neg (by simpa using h2)]
 ·cases h
theorem w45:Walked Tryz.prog G 45 12 sp45:=by
 refine ⟨Tryz.f45,Tryz.func45,by decide +kernel,rfl,fun xs bl r h=> ?_⟩
 unfold sp45 at h
 split at h
 ·rename_i m1 m2 m3 kls sz fl mls sk rli rmu rkv rrl rtk rau
  obtain ⟨hpre,h2⟩:=chk_inv h;cases h2
  refine Eq.trans (b:=(let t1:AV:=Yv [Zv false,Zx [],Zx [],Zx [],Zz .i64 0,Zz .u64 0,Zz .i64 0,Zz .i64 0,Zx [],Zx []];let t2:AV:=Yv [Zx [],Zx [],Zx [],Zz .i64 0,Zz .i64 0,Zz .i64 0];let t0:Option (AV×Blocks):=some (Zg [t1,t2,Zz .i64 35],[]);sel (!rrl==m3) t0 (Zw (chk (Vu kls Kerb.isSKey&&decide (Zy kls≤1000000)) (some (Zg [Zz .u64 (Yh (Kerb.skFind (Xh Ub kls) (Zn m1 m2 m3) rkv)),Zv (Yk (Kerb.skFind (Xh Ub kls) (Zn m1 m2 m3) rkv))],[]))) (kT fun vs=>cInt .u64 vs fun n r=>cBool r fun b r=>onNil r (sel (!b) t0 (Zw (chk (decide (Zy rtk≤140737488355328)) (some (Zg [Yv [Zv (Kerb.Ticket.little (Zb (Yy rtk n))),Zx (Xu (Xj (Zb (Yy rtk n)))),Zx (Xq (Xj (Zb (Yy rtk n)))),Zx (Yn (Xj (Zb (Yy rtk n)))),Zz .i64 (Kerb.Ticket.address (Zb (Yy rtk n))),Zz .u64 (Kerb.Ticket.session (Zb (Yy rtk n))),Zz .i64 (Kerb.Ticket.life (Zb (Yy rtk n))),Zz .i64 (Kerb.Ticket.issued (Zb (Yy rtk n))),Zx (Kerb.Ticket.service (Zb (Yy rtk n))),Zx (Kerb.Ticket.inst (Zb (Yy rtk n)))],Zz .i64 (Um (Yy rtk n))],[]))) (kT fun vs=>onCons vs fun x r=>Wx x fun cs=>cBool cs fun b r_1=>cStr r_1 fun b_1 r_2=>cStr r_2 fun b_2 r_3=>cStr r_3 fun b_3 r_4=>cInt .i64 r_4 fun n r_5=>cInt .u64 r_5 fun n_1 r_6=>cInt .i64 r_6 fun n_2 r_7=>cInt .i64 r_7 fun n_3 r_8=>cStr r_8 fun b_4 r_9=>cStr r_9 fun b_5 r_10=>onNil r_10 (cInt .i64 r fun n_4 r=>onNil r (sel (n_4==7) (some (Zg [t1,t2,Zz .i64 7],[])) (sel (!n_4==0) (some (Zg [t1,t2,Zz .i64 31],[])) (sel (!(b_4==m1&&(b_5==m2&&m3==m3))) t0 (Zw (chk (decide (Zy rau≤140737488355328)) (some (Zg [Yv [Zx (Xu (Xf (Zb (Wu rau rli n_1)))),Zx (Xq (Xf (Zb (Wu rau rli n_1)))),Zx (Yn (Xf (Zb (Wu rau rli n_1)))),Zz .i64 (Kerb.Auth.checksum (Zb (Wu rau rli n_1))),Zz .i64 (Kerb.Auth.tick (Zb (Wu rau rli n_1))),Zz .i64 (Kerb.Auth.time (Zb (Wu rau rli n_1)))],Zz .i64 (Um (Wu rau rli n_1))],[]))) (kT fun vs=>onCons vs fun x r=>Wx x fun cs=>cStr cs fun b_6 r_11=>cStr r_11 fun b_7 r_12=>cStr r_12 fun b_8 r_13=>cInt .i64 r_13 fun n_5 r_14=>cInt .i64 r_14 fun n_6 r_15=>cInt .i64 r_15 fun n_7 r_16=>onNil r_16 (cInt .i64 r fun n_8 r=>onNil r (sel (!n_8==0) (some (Zg [t1,t2,Zz .i64 31],[])) (some (Zg [Yv [Zv b,Zx b_1,Zx b_2,Zx b_3,Zz .i64 n,Zz .u64 n_1,Zz .i64 n_2,Zz .i64 n_3,Zx b_4,Zx b_5],Yv [Zx b_6,Zx b_7,Zx b_8,Zz .i64 n_5,Zz .i64 n_6,Zz .i64 n_7],Zz .i64 0],[]))))))))))))))):Option (AV×Blocks))) (by kernel_rfl) ?_
  delta kT
  try dsimp only [cStr,cBs,cBool,cU8,cInt,cSl,l63]
  simp only [Zh,decide_eq_true_eq] at hpre
  obtain ⟨⟨⟨⟨⟨⟨⟨⟨l1,l2⟩,l3⟩,ka⟩,kl⟩,ma⟩,ml⟩,t1⟩,u1⟩:=hpre
  obtain ⟨ks,rfl,hks⟩:=Qg ka
  obtain ⟨ms,rfl,hms⟩:=Uk ma
  have hkT:=Qx hks
  have hmT:=Uy hms
  simp only [Yu] at kl ml
  have t2:rtk.length≤140737488355328:=by omega
  have u2:rau.length≤140737488355328:=by omega
  simp only [Vk,Wp,Yu,hkT,kl,t2,u2,decide_true,Xw,↓A0,A0]
  unfold Xb
  by_cases g1:rrl=m3
  case neg=>rw [sel_pos (by simpa using g1),if_pos (by simpa using g1)];rfl
  rw [sel_neg (by simpa using g1),if_neg (by simpa using g1)]
  dsimp only
  cases g2:(Kerb.skFind ks ⟨m1,m2,m3⟩ rkv).2
  ·rfl
  rw [Yp,sel_false,if_neg (by simp)]
  generalize (Kerb.skFind ks ⟨m1,m2,m3⟩ rkv).1=K
  by_cases g3:(Yy rtk K).err=7
  ·rw [sel_pos (by simpa using g3),if_pos g3];rfl
  rw [sel_neg (by simpa using g3),if_neg g3]
  by_cases g4:(Yy rtk K).err=0
  case neg=>rw [sel_pos (by simpa using g4),if_pos g4];rfl
  rw [sel_neg (by simpa using g4),if_neg (by simpa using g4)]
  have g5:((Yy rtk K).val.service==m1&&((Yy rtk K).val.inst==m2&&m3==m3))=(Kerb.ticketFor (Yy rtk K).val m3).eqb ⟨m1,m2,m3⟩:=rfl
  rw [g5]
  cases g6:(Kerb.ticketFor (Yy rtk K).val m3).eqb ⟨m1,m2,m3⟩
  ·rfl
  rw [Yp,sel_false,if_neg (by simp)]
  by_cases g7:(Wu rau rli (Yy rtk K).val.session).err=0
  case neg=>rw [sel_pos (by simpa using g7),if_pos g7];rfl
  rw [sel_neg (by simpa using g7),if_neg (by simpa using g7)]
 ·cases h
theorem w20:Walked Tryz.prog G 20 13 sp20:=by
 refine ⟨Tryz.f20,Tryz.func20,by decide +kernel,rfl,fun xs bl r h=> ?_⟩
 unfold sp20 at h
 split at h
 ·rename_i m1 m2 m3 kls sz fl mls sk rli rmu rkv rrl rtk rau src now
  obtain ⟨hpre,h2⟩:=chk_inv h;cases h2
  refine Eq.trans (b:=(let t0:AV:=Yv [Zx [],Zx [],Zx [],Zz .u64 0,Zz .i64 0,Zz .i64 0,Zz .i64 0,Zz .i64 0,Zz .i64 0,Zz .i64 0,Zk [],Zk []];Zw (chk (decide (Zy kls≤1000000)&&decide (Zy mls≤1000000)) (some (Yv [Zx m1,Zx m2,Zx m3,Yq 5 kls,Zz .i64 sz,Zz .i64 fl,Yq 5 mls,Zz .i64 sk],[]))) (kA fun cs=>cStr cs fun b r=>cStr r fun b_1 r=>cStr r fun b_2 r=>let t1:Bool:=l63 b&&l63 b_1&&l63 b_2;cSl 5 r fun b_3 r=>cInt .i64 r fun n r=>cInt .i64 r fun n_1 r=>cSl 5 r fun b_4 r=>let t2:Bool:=t1&&Vu b_3 Kerb.isSKey&&decide (Zy b_3≤1000000)&&Vu b_4 Un&&decide (Zy b_4≤1000000);cInt .i64 r fun n_2 r=>let t4:AV:=Yv [Zx b,Zx b_1,Zx b_2,Yq 5 b_3,Zz .i64 n,Zz .i64 n_1,Yq 5 b_4,Zz .i64 n_2];let t6:Kerb.Opened:=Xb (Ud (Zn b b_1 b_2) (Xh Ub b_3) (Xn n n_1 (Xh Vn b_4)) n_2) (Xg rli rmu rkv rrl rtk rau);let t3:Kerb.Ticket:=Kerb.Opened.ticket t6;let t5:Kerb.Auth:=Kerb.Opened.auth t6;onNil r (Zw (chk t2 (some (Zz .i64 (Kerb.Server.err (Ud (Zn b b_1 b_2) (Xh Ub b_3) (Xn n n_1 (Xh Vn b_4)) n_2)),[]))) (kI .i64 fun n_3=>sel (!n_3==0) (some (Zg [t4,t0,Zz .i64 108],[])) (Zw (chk (t2&&decide (Zy rtk≤1000000)&&decide (Zy rau≤1000000)) (some (Zg [Yv [Zv (Kerb.Ticket.little t3),Zx (Xu (Xj t3)),Zx (Xq (Xj t3)),Zx (Yn (Xj t3)),Zz .i64 (Kerb.Ticket.address t3),Zz .u64 (Kerb.Ticket.session t3),Zz .i64 (Kerb.Ticket.life t3),Zz .i64 (Kerb.Ticket.issued t3),Zx (Kerb.Ticket.service t3),Zx (Kerb.Ticket.inst t3)],Yv [Zx (Xu (Xf t5)),Zx (Xq (Xf t5)),Zx (Yn (Xf t5)),Zz .i64 (Kerb.Auth.checksum t5),Zz .i64 (Kerb.Auth.tick t5),Zz .i64 (Kerb.Auth.time t5)],Zz .i64 (Kerb.Opened.err t6)],[]))) (kT fun vs=>onCons vs fun x r=>Wx x fun cs=>cBool cs fun b_5 r_1=>cStr r_1 fun b_6 r_2=>cStr r_2 fun b_7 r_3=>cStr r_3 fun b_8 r_4=>cInt .i64 r_4 fun n_4 r_5=>cInt .u64 r_5 fun n_5 r_6=>cInt .i64 r_6 fun n_6 r_7=>cInt .i64 r_7 fun n_7 r_8=>cStr r_8 fun b_9 r_9=>cStr r_9 fun b_10 r_10=>onNil r_10 (onCons r fun x r=>Wx x fun cs=>cStr cs fun b_11 r_11=>cStr r_11 fun b_12 r_12=>cStr r_12 fun b_13 r_13=>cInt .i64 r_13 fun n_8 r_14=>cInt .i64 r_14 fun n_9 r_15=>cInt .i64 r_15 fun n_10 r_16=>let t8:Int:=Kerb.judge (Wk b_5 (Zn b_6 b_7 b_8) n_4 n_5 n_6 n_7 b_9 b_10) (Wy (Zn b_11 b_12 b_13) n_8 n_9 n_10) src now n_2;let t9:Kerb.Dec Kerb.RCache:=Kerb.addMark (Xn n n_1 (Xh Vn b_4)) (Kerb.Mark.mk (Zn b_11 b_12 b_13) n_10 n_9) now n_2;let t7:Kerb.RCache:=Zb t9;onNil r_16 (cInt .i64 r fun n r=>onNil r (sel (!n==0) (some (Zg [t4,t0,Zz .i64 n],[])) (sel (!t8==0) (some (Zg [t4,t0,Zz .i64 t8],[])) (Zw (chk (Vu b_4 Un&&decide (Zy b_4≤1000000)&&l63 b_11&&l63 b_12&&l63 b_13) (some (Zg [Yv [Zz .i64 (Kerb.RCache.size t7),Zz .i64 (Kerb.RCache.floor t7),Yq 5 (Xh Ym (Kerb.RCache.marks t7))],Zz .i64 (Um t9)],[]))) (kT fun vs=>onCons vs fun x r=>Wx x fun cs=>cInt .i64 cs fun n r_17=>cInt .i64 r_17 fun n_11 r_18=>cSl 5 r_18 fun b_14 r_19=>onNil r_19 (cInt .i64 r fun n_12 r=>onNil r (sel (!n_12==0) (some (Zg [t4,t0,Zz .i64 n_12],[])) (Zw (chk (decide (Zy rtk≤140737488355328)) (some (Zk rtk,[]))) (kB fun b_15=>Zw (chk (decide (Zy rau≤140737488355328)) (some (Zk rau,[]))) (kB fun b_16=>some (Zg [Yv [Zx b,Zx b_1,Zx b_2,Yq 5 b_3,Zz .i64 n,Zz .i64 n_11,Yq 5 b_14,Zz .i64 n_2],Yv [Zx b_6,Zx b_7,Zx b_8,Zz .u64 n_5,Zz .i64 n_4,Zz .i64 n_8,Zz .i64 n_10,Zz .i64 n_9,Zz .i64 n_7,Zz .i64 n_6,Zk b_15,Zk b_16],Zz .i64 0],[]))))))))))))))))):Option (AV×Blocks))) (by kernel_rfl) ?_
  delta kT kA kB kI
  try dsimp only [cStr,cBs,cBool,cU8,cInt,cSl,l63]
  simp only [Zh,decide_eq_true_eq] at hpre
  obtain ⟨⟨⟨⟨⟨⟨⟨⟨l1,l2⟩,l3⟩,ka⟩,kl⟩,ma⟩,ml⟩,t1⟩,u1⟩:=hpre
  obtain ⟨ks,rfl,hks⟩:=Qg ka
  obtain ⟨ms,rfl,hms⟩:=Uk ma
  have hkT:=Qx hks
  have hmT:=Uy hms
  simp only [Yu] at kl ml
  have t2:rtk.length≤140737488355328:=by omega
  have u2:rau.length≤140737488355328:=by omega
  obtain ⟨S,hS⟩:∃ S,Ud ⟨m1,m2,m3⟩ ks ⟨sz,fl,ms⟩ sk=S:=⟨_,rfl⟩
  obtain ⟨R,hR⟩:∃ R,Xg rli rmu rkv rrl rtk rau=R:=⟨_,rfl⟩
  have hb:=(Kerb.openReq_bd S R).1
  have e1:=hb.1
  have e2:=hb.2.1
  have e3:=hb.2.2
  simp only [Vk,Wp,Yu,hkT,hmT,kl,ml,l1,l2,l3,t1,u1,t2,u2,decide_true,Xw,hS,hR,e1,e2,e3,↓sInt,↓sU8,↓sBool,↓sStr,↓sBs,↓sSl,↓sAgg,↓sTup,↓sCons,↓sNil,↓sNilB,↓sChk,↓sChkBind,↓sSome]
  unfold Kerb.verify
  by_cases g1:S.err=0
  case neg=>rw [sel_pos (by simpa using g1),if_pos g1,← hS];rfl
  rw [sel_neg (by simpa using g1),if_neg (by simpa using g1)]
  by_cases g2:(Xb S R).err=0
  case neg=>rw [sel_pos (by simpa using g2),if_pos g2,← hS];rfl
  rw [sel_neg (by simpa using g2),if_neg (by simpa using g2)]
  have h0:sk=S.skew:=by rw [← hS]
  have h1:Xn sz fl ms=S.replay:=by rw [← hS]
  rw [h0,h1]
  by_cases g3:Kerb.judge (Xb S R).ticket (Xb S R).auth src now S.skew=0
  case neg=>rw [sel_pos (by simpa using g3),if_pos g3,← hS];rfl
  rw [sel_neg (by simpa using g3),if_neg (by simpa using g3)]
  rw [show Kerb.Mark.mk ⟨(Xb S R).auth.client.name,(Xb S R).auth.client.inst,(Xb S R).auth.client.realm⟩ (Xb S R).auth.time (Xb S R).auth.tick=Kerb.markOf (Xb S R).auth from rfl]
  by_cases g4:(Kerb.addMark S.replay (Kerb.markOf (Xb S R).auth) now S.skew).err=0
  case neg=>rw [sel_pos (by simpa using g4),if_pos g4,← hS];rfl
  rw [sel_neg (by simpa using g4),if_neg (by simpa using g4),← hS,← hR]
 ·cases h
theorem w14:Walked Tryz.prog G 14 14 sp14:=by
 refine ⟨Tryz.f14,Tryz.func14,by decide +kernel,rfl,fun xs bl r h=> ?_⟩
 unfold sp14 at h
 split at h
 ·rename_i m1 m2 m3 kls sz fl mls sk msg src now
  obtain ⟨hpre,h2⟩:=chk_inv h;cases h2
  refine Eq.trans (b:=(let t0:Kerb.Server:=Ud (Zn m1 m2 m3) (Xh Ub kls) (Xn sz fl (Xh Vn mls)) sk;let t1:Option (AV×Blocks):=chk (decide (Zy kls≤1000000)&&decide (Zy mls≤1000000)) (some (Yv [Zx m1,Zx m2,Zx m3,Yq 5 kls,Zz .i64 sz,Zz .i64 fl,Yq 5 mls,Zz .i64 sk],[]));let t2:AV:=Yv [Zx [],Zx [],Zx [],Zz .u64 0,Zz .i64 0,Zz .i64 0,Zz .i64 0,Zz .i64 0,Zz .i64 0,Zz .i64 0,Zk [],Zk []];Zw (chk (decide (Zy msg≤140737488355328)) (some (Zg [Yv [Zv (Qu (Zb (Xd msg))),Zv (Uh (Zb (Xd msg))),Zz .i64 (Qn (Zb (Xd msg))),Zx (Qp (Zb (Xd msg))),Zk (Qv (Zb (Xd msg))),Zk (Qm (Zb (Xd msg)))],Zz .i64 (Um (Xd msg))],[]))) (kT fun vs=>onCons vs fun x r=>Wx x fun cs=>cBool cs fun b r_1=>cBool r_1 fun b_1 r_2=>cInt .i64 r_2 fun n r_3=>cStr r_3 fun b_2 r_4=>cBs r_4 fun b_3 r_5=>cBs r_5 fun b_4 r_6=>let t5:Kerb.Verified:=Kerb.verify t0 (Xg b b_1 n b_2 b_3 b_4) src now;let t3:Kerb.Accepted:=Kerb.Verified.a t5;let t4:Kerb.Server:=Kerb.Verified.s t5;onNil r_6 (cInt .i64 r fun n r=>let t6:Option (AV×Blocks):=Zw t1 (kA fun cs=>cStr cs fun b r=>cStr r fun b_5 r=>cStr r fun b_6 r=>cSl 5 r fun b_7 r=>cInt .i64 r fun n_1 r=>cInt .i64 r fun n_2 r=>cSl 5 r fun b_8 r=>cInt .i64 r fun n_3 r=>onNil r (some (Zg [Yv [Zx b,Zx b_5,Zx b_6,Yq 5 b_7,Zz .i64 n_1,Zz .i64 n_2,Yq 5 b_8,Zz .i64 n_3],t2,Zk [],Zz .i64 n],[])));onNil r (sel (!n==0) (Wg .i64 (Wf [Zz .i64 39,Zz .i64 40] (Zm 0) AV.undef) fun n_1=>sel (n==n_1) t6 (Wg .i64 (Wf [Zz .i64 39,Zz .i64 40] (Zm (Zj .i64 (0+1))) AV.undef) fun n_2=>sel (n==n_2) t6 (Zw t1 (kA fun cs=>cStr cs fun b r=>cStr r fun b_5 r=>cStr r fun b_6 r=>cSl 5 r fun b_7 r=>cInt .i64 r fun n r=>cInt .i64 r fun n_3 r=>cSl 5 r fun b_8 r=>cInt .i64 r fun n_4 r=>onNil r (some (Zg [Yv [Zx b,Zx b_5,Zx b_6,Yq 5 b_7,Zz .i64 n,Zz .i64 n_3,Yq 5 b_8,Zz .i64 n_4],t2,Zk [],Zz .i64 31],[])))))) (Zw (chk (l63 m1&&l63 m2&&l63 m3&&Vu kls Kerb.isSKey&&decide (Zy kls≤1000000)&&Vu mls Un&&decide (Zy mls≤1000000)&&decide (Zy b_3≤1000000)&&decide (Zy b_4≤1000000)) (some (Zg [Yv [Zx (Xu (Kerb.Server.me t4)),Zx (Xq (Kerb.Server.me t4)),Zx (Yn (Kerb.Server.me t4)),Yq 5 (Xh Uf (Kerb.Server.keys t4)),Zz .i64 (Kerb.RCache.size (Kerb.Server.replay t4)),Zz .i64 (Kerb.RCache.floor (Kerb.Server.replay t4)),Yq 5 (Xh Ym (Kerb.RCache.marks (Kerb.Server.replay t4))),Zz .i64 (Kerb.Server.skew t4)],Yv [Zx (Xu (Qd t3)),Zx (Xq (Qd t3)),Zx (Yn (Qd t3)),Zz .u64 (Kerb.Accepted.session t3),Zz .i64 (Kerb.Accepted.address t3),Zz .i64 (Kerb.Accepted.checksum t3),Zz .i64 (Kerb.Accepted.time t3),Zz .i64 (Kerb.Accepted.tick t3),Zz .i64 (Kerb.Accepted.issued t3),Zz .i64 (Kerb.Accepted.life t3),Zk (Kerb.Accepted.ticket t3),Zk (Kerb.Accepted.auth t3)],Zz .i64 (Kerb.Verified.err t5)],[]))) (kT fun vs=>onCons vs fun x r=>Wx x fun cs=>cStr cs fun b_5 r_7=>cStr r_7 fun b_6 r_8=>cStr r_8 fun b_7 r_9=>cSl 5 r_9 fun b_8 r_10=>cInt .i64 r_10 fun n r_11=>cInt .i64 r_11 fun n_1 r_12=>cSl 5 r_12 fun b_9 r_13=>cInt .i64 r_13 fun n_2 r_14=>let t7:AV:=Yv [Zx b_5,Zx b_6,Zx b_7,Yq 5 b_8,Zz .i64 n,Zz .i64 n_1,Yq 5 b_9,Zz .i64 n_2];onNil r_14 (onCons r fun x r=>Wx x fun cs=>cStr cs fun b_10 r_15=>cStr r_15 fun b_11 r_16=>cStr r_16 fun b_12 r_17=>cInt .u64 r_17 fun n r_18=>cInt .i64 r_18 fun n_3 r_19=>cInt .i64 r_19 fun n_4 r_20=>cInt .i64 r_20 fun n_5 r_21=>cInt .i64 r_21 fun n_6 r_22=>cInt .i64 r_22 fun n_7 r_23=>cInt .i64 r_23 fun n_8 r_24=>cBs r_24 fun b_13 r_25=>cBs r_25 fun b_14 r_26=>let t8:AV:=Yv [Zx b_10,Zx b_11,Zx b_12,Zz .u64 n,Zz .i64 n_3,Zz .i64 n_4,Zz .i64 n_5,Zz .i64 n_6,Zz .i64 n_7,Zz .i64 n_8,Zk b_13,Zk b_14];onNil r_26 (cInt .i64 r fun n_9 r=>let t9:Option (AV×Blocks):=some (Zg [t7,t8,Zk [],Zz .i64 n_9],[]);onNil r (sel (!n_9==0) t9 (sel (!b_1) t9 (Zw (chk (decide (0≤n)&&decide (n<18446744073709551616)) (some (Zg [Zk (Xz (Qw n n_4 n_5 n_6 b)),Zz .i64 (Xy (Qw n n_4 n_5 n_6 b))],[]))) (kT fun vs=>cBs vs fun b r=>cInt .i64 r fun n r=>onNil r (sel (!n==0) (Zw t1 (kA fun cs=>cStr cs fun b r=>cStr r fun b_15 r=>cStr r fun b_16 r=>cSl 5 r fun b_17 r=>cInt .i64 r fun n_10 r=>cInt .i64 r fun n_11 r=>cSl 5 r fun b_18 r=>cInt .i64 r fun n_12 r=>onNil r (some (Zg [Yv [Zx b,Zx b_15,Zx b_16,Yq 5 b_17,Zz .i64 n_10,Zz .i64 n_11,Yq 5 b_18,Zz .i64 n_12],t2,Zk [],Zz .i64 n],[])))) (some (Zg [t7,t8,Zk b,Zz .i64 0],[])))))))))))))):Option (AV×Blocks))) (by kernel_rfl) ?_
  delta kT kA
  try dsimp only [cStr,cBs,cBool,cU8,cInt,cSl,l63]
  simp only [Zh,decide_eq_true_eq] at hpre
  obtain ⟨⟨⟨⟨⟨⟨⟨l1,l2⟩,l3⟩,ka⟩,kl⟩,ma⟩,ml⟩,hm⟩:=hpre
  obtain ⟨ks,rfl,hks⟩:=Qg ka
  obtain ⟨ms,rfl,hms⟩:=Uk ma
  have hkT:=Qx hks
  have hmT:=Uy hms
  simp only [Yu] at kl ml
  have hm2:msg.length≤140737488355328:=by omega
  obtain ⟨S,hS⟩:∃ S,Ud ⟨m1,m2,m3⟩ ks ⟨sz,fl,ms⟩ sk=S:=⟨_,rfl⟩
  obtain ⟨R,hR⟩:∃ R,(Xd msg).val=R:=⟨_,rfl⟩
  have hb:=Kerb.decodeAp_bd msg
  rw [hR] at hb
  have d1:R.ticket.length≤1000000:=by omega
  have d2:R.auth.length≤1000000:=by omega
  have hRe:Xg R.little R.mutual_ R.kvno R.realm R.ticket R.auth=R:=rfl
  have hs:=Kerb.verify_bd S R src now
  simp only [Vk,Wp,Yu,hkT,hmT,kl,ml,l1,l2,l3,hm2,decide_true,Xw,hS,hR,hRe,d1,d2,hs,↓sInt,↓sU8,↓sBool,↓sStr,↓sBs,↓sSl,↓sAgg,↓sTup,↓sCons,↓sNil,↓sNilB,↓sChk,↓sChkBind,↓sSome]
  unfold Kerb.vRead
  rw [hR]
  by_cases g1:(Xd msg).err=0
  case neg =>
   rw [sel_pos (by simpa using g1),if_pos g1]
   have q0:Wf [Zz Zu 39,Zz Zu 40] (Zm 0) AV.undef=Zz Zu 39:=rfl
   have q1:Wf [Zz Zu 39,Zz Zu 40] (Zm (Zj .i64 (0+1))) AV.undef=Zz Zu 40:=rfl
   rw [q0,onInt_int,q1,onInt_int]
   by_cases g2:(Xd msg).err=39
   ·rw [sel_pos (by simpa using g2),if_pos (.inl g2),← hS];rfl
   rw [sel_neg (by simpa using g2)]
   by_cases g3:(Xd msg).err=40
   ·rw [sel_pos (by simpa using g3),if_pos (.inr g3),← hS];rfl
   rw [sel_neg (by simpa using g3),if_neg (by simp [g2,g3]),← hS];rfl
  rw [sel_neg (by simpa using g1),if_neg (by simpa using g1)]
  obtain ⟨V,hV⟩:∃ V,Kerb.verify S R src now=V:=⟨_,rfl⟩
  have hno := @Kerb.verify_no S R src now
  rw [hV] at hno ⊢
  by_cases g4:V.err=0
  case neg =>
   have hn:=hno g4
   rw [sel_pos (by simpa using g4),if_pos g4,hn]
  rw [sel_neg (by simpa using g4),if_neg (by simpa using g4)]
  cases g5:R.mutual_
  ·rw [if_pos rfl,g4];rfl
  rw [if_neg (by simp),Yp,sel_false]
  unfold Kerb.Accepted.reply
  by_cases g6:(Qw V.a.session V.a.checksum V.a.time V.a.tick R.little).err=0
  case neg=>rw [sel_pos (by simpa using g6),if_pos g6,← hS];rfl
  rw [sel_neg (by simpa using g6),if_neg (by simpa using g6)]
 ·cases h
theorem p9  : runFn (G.env 9 15) G.rts (G.own 9) Tryz.f9 [] []=some (.bool true,[]):=by kernel_rfl
theorem w9:Walked Tryz.prog G 9 15 sp9:=by
 refine ⟨Tryz.f9,Tryz.func9,by decide +kernel,rfl,fun xs bl r h=> ?_⟩
 unfold sp9 at h
 split at h
 ·cases h;exact p9
 ·cases h
end Go.Proofs.YtiplnpablmohiaaGreat
