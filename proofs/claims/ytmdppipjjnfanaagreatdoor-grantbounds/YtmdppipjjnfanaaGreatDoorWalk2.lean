/- What the functions of this seat compute. -/
import Derived.Test.YtmdppipjjnfanaaGreatDoorTab
import Derived.Test.YtmdppipjjnfanaaGreatDoorKerbPlain
import Derived.Test.YtmdppipjjnfanaaGreatDoorAbsStep
import Derived.Test.YtmdppipjjnfanaaGreatDoorKerbCli3
import Derived.Test.YtmdppipjjnfanaaGreatDoorKerbCli4
import Derived.Test.YtmdppipjjnfanaaGreatDoorKerbCli5
import Derived.Test.YtmdppipjjnfanaaGreatDoorKerbSrvL
import Derived.Test.YtmdppipjjnfanaaGreatDoorKerbKac2
import Derived.Test.YtmdppipjjnfanaaGreatDoorKerbKac4
import Derived.Test.YtmdppipjjnfanaaGreatDoorKerbSrvB
import Derived.Test.YtmdppipjjnfanaaGreatDoorKerbVerL
import Derived.Test.YtmdppipjjnfanaaGreatDoorKerbVerL
import Derived.Test.YtmdppipjjnfanaaGreatDoorKerbAuthL
import Derived.Test.YtmdppipjjnfanaaGreatDoorKerbGrtL
open Go.Abs.AV renaming int→Zz,str→Zv,agg→Zf,bool→Zn,tup→Zh,bs→Yw,onInt→Yd,sl→Yb,ownL→Yn,undef→Xy,ownB→Xu,onAgg→Wu,onBool→Wp,u8→Wm,onOwnL→Wh,onTup→Vd
open Go.IntKind renaming i64→Zy,wrap→Zq,u64→Yq,bits→Xq
open List renaming length→Zx,getD→Yp,length_map→Xx,append→Xd,take→Wx,drop→Wq,range_succ→Vq,length_cons→Vb,length_nil→Uz,replicate→Uw
open Kerb renaming service→Zw,user→Zu,simpleEnt→Zd,u8i→Zg,within→Zb,putN_len→Zm,putPrin_len→Yz,keyBytes_len→Yv,putN→Yk,get→Yf,indexOf→Yg,keyValid→Ym,long→Yh,room_ok→Xk,tEnd→Xg,putText_len→Xb,putText→Xn,noCross→Xm,imin→Wj,bfd→Wf,readHead→Wg,validName→Vz,validInst→Vy,isKind→Vx,crossKeys→Vw,findEnt→Vu,printable→Vf,crossStep→Vg,getD_row→Vn,crossKey→Vm,grantLife→Uv,header→Uq,byteAt→Uj,bfd_eq→Uk,encodeAp→Uf
open Option renaming bind→Zj
open Kerb.Entry renaming av→Zk
open Int renaming toNat→Zp,tmod→Xj,toNat_natCast→Xp,tmod_eq_emod_of_nonneg→Uu
open Prod renaming snd→Yy,fst→Yu
open Kerb.Cross renaming av→Yx
open Bool renaming not_true→Yj,and_eq_true→Xz,and_self→Xv
open UInt8 renaming toNat→Xw,ofNat→Vk
open Kerb.Got renaming next→Xf,val→Wz,err→Wy
open Kerb.Prin renaming valid→Xh,realm→Wk,name→Wb,inst→Wn,mk→Vj
open Go.Abs.Ex renaming exit→Ww
open Kerb.SKey renaming av→Wv
open Nat renaming beq_refl→Wd,zero_le→Vv,beq→Ux
open Sum renaming inl→Vp,inr→Ud
open Kerb.Client renaming av→Vh
open Kerb.Cache renaming av→Uy
open Kerb.Cred renaming av→Up
namespace Go.Proofs.YtmdppipjjnfanaaGreatDoor
open Go Go.Abs Go.Proofs
set_option linter.unusedVariables false
set_option linter.unusedSimpArgs false
set_option maxRecDepth 100000
theorem w52:Walked Tryz.prog G 52 3 sp52:=by
 refine ⟨Tryz.f52,Tryz.func52,by decide +kernel,rfl,fun xs bl r h=> ?_⟩
 unfold sp52 at h
 split at h
 ·rename_i b els
  obtain ⟨hpre,h2⟩:=chk_inv h;cases h2
  refine Eq.trans (b:=(sel (!Kerb.Head.err (Wg b)==0) (some (Zh [Zn false,Zz .i64 (Kerb.Head.err (Wg b))],[])) (Zj (chk (allInts els&&decide (Zx els≤1000)) (some (Zn (List.contains (intsIn els) (Kerb.Head.kind (Wg b))),[]))) fun (r:AV×Blocks)=>onNilB (Yy r) (Wp (Yu r) fun b_1=>sel (!b_1) (some (Zh [Zn false,Zz .i64 40],[])) (some (Zh [Zn (Kerb.Head.little (Wg b)),Zz .i64 0],[])))):Option (AV×Blocks))) (by kernel_rfl) ?_
  simp only [A0]
  unfold Kerb.headIs
  by_cases h:(Wg b).err=0
  ·rw [sel_neg (by simp [h]),chk_of hpre]
   cases hc:(intsIn els).contains (Wg b).kind<;>simp [sel,h,hc]
  ·rw [sel_pos (by simpa using h)]
   simp [h]
 ·cases h
theorem w54:Walked Tryz.prog G 54 3 sp54:=by
 refine ⟨Tryz.f54,Tryz.func54,by decide +kernel,rfl,fun xs bl r h=> ?_⟩
 unfold sp54 at h
 split at h
 ·rename_i b pos little
  obtain ⟨hpre,h2⟩:=chk_inv h;cases h2
  refine Eq.trans (b:=(Zj (chk (decide (Zx b≤4611686018427387904)&&true&&true) (some (Zh [Zz .i64 (Wz (Yf b pos 4 little)),Zz .i64 (Xf (Yf b pos 4 little)),Zz .i64 (Wy (Yf b pos 4 little))],[]))) fun (r:AV×Blocks)=>onNilB (Yy r) (Vd (Yu r) fun vs=>onCons vs fun x r=>Yd .i64 x fun n=>onCons r fun x r=>Yd .i64 x fun n_1=>onCons r fun x r=>Yd .i64 x fun n_2=>onNil r (some (Zh [Zz .i64 n,Zz .i64 n_1,Zz .i64 n_2],[]))):Option (AV×Blocks))) (by kernel_rfl) ?_
  simp only [A0]
  rw [chk_of (by rw [hpre];rfl)]
 ·cases h
theorem w55:Walked Tryz.prog G 55 3 sp55:=by
 refine ⟨Tryz.f55,Tryz.func55,by decide +kernel,rfl,fun xs bl r h=> ?_⟩
 unfold sp55 at h
 split at h
 ·rename_i b pos
  obtain ⟨hpre,h2⟩:=chk_inv h;cases h2
  refine Eq.trans (b:=(Zj (chk (decide (Zx b≤4611686018427387904)&&true&&true) (some (Zh [Zz .i64 (Wz (Yf b pos 1 false)),Zz .i64 (Xf (Yf b pos 1 false)),Zz .i64 (Wy (Yf b pos 1 false))],[]))) fun (r:AV×Blocks)=>onNilB (Yy r) (Vd (Yu r) fun vs=>onCons vs fun x r=>Yd .i64 x fun n=>onCons r fun x r=>Yd .i64 x fun n_1=>onCons r fun x r=>Yd .i64 x fun n_2=>onNil r (some (Zh [Zz .i64 n,Zz .i64 n_1,Zz .i64 n_2],[]))):Option (AV×Blocks))) (by kernel_rfl) ?_
  simp only [A0]
  rw [chk_of (by rw [hpre];rfl)]
 ·cases h
theorem w56:Walked Tryz.prog G 56 3 sp56:=by
 refine ⟨Tryz.f56,Tryz.func56,by decide +kernel,rfl,fun xs bl r h=> ?_⟩
 unfold sp56 at h
 split at h
 ·rename_i b pos
  obtain ⟨hpre,h2⟩:=chk_inv h;cases h2
  refine Eq.trans (b:=(let t5:List UInt8:=Wq (Zp pos) (Wx (Zp (↑(Zx b):Int)) b);let t6:Option (AV×Blocks):=some (Zh [Zv [],Zz .i64 0,Zz .i64 105],[]);let t7:Option (AV×Blocks):=some (Zh [Zv [],Zz .i64 0,Zz .i64 101],[]);let t1:Int:=Yg (0:UInt8) t5;let t2:Int:=(↑(Zx t5):Int);let t4:List UInt8:=Wq (Zp (↑(0:Nat):Int)) (Wx (Zp 40) t5);let t0:Int:=Yg (0:UInt8) t4;let t3:Int:=(↑(Zx t4):Int);Zj (chk (decide (Zx b≤4611686018427387904)) (some (Zz .i64 (Kerb.room b pos 0),[]))) (kI .i64 fun n=>sel (!n==0) (some (Zh [Zv [],Zz .i64 0,Zz .i64 n],[])) (chk (decide (0≤pos)&&decide (pos≤(↑(Zx b):Int))&&decide ((↑(Zx b):Int)≤(↑(Zx b):Int))) (sel (decide (t2>40)) (chk (decide (40≤t2)) (sel (decide (t0≥0)) (chk (decide ((↑(0:Nat):Int)≤t0)&&decide (t0≤t3)) (some (Zh [Zv (Wq (Zp (↑(0:Nat):Int)) (Wx (Zp t0) t4)),Zz .i64 (Zq .i64 (Zq .i64 (pos+t0)+1)),Zz .i64 0],[]))) (sel (t3==40) t6 t7))) (sel (decide (t1≥0)) (chk (decide ((↑(0:Nat):Int)≤t1)&&decide (t1≤t2)) (some (Zh [Zv (Wq (Zp (↑(0:Nat):Int)) (Wx (Zp t1) t5)),Zz .i64 (Zq .i64 (Zq .i64 (pos+t1)+1)),Zz .i64 0],[]))) (sel (t2==40) t6 t7))))):Option (AV×Blocks))) (by kernel_rfl) ?_
  delta kI
  try dsimp only [cStr,cBs,cBool,cU8,cInt,cSl,l63]
  simp only [decide_eq_true_eq] at hpre
  simp only [A0]
  rw [chk_of (by simpa using hpre)]
  have ht:(Wx (Zp (b.length:Int)) b)=b:=by simp
  rw [ht]
  unfold Kerb.text
  by_cases hr:Kerb.room b pos 0=0
  case neg =>
   have h104:Kerb.room b pos 0=104:=by
    unfold Kerb.room at hr ⊢
    split at hr
    ·rw [if_pos (by assumption)]
    ·split at hr<;>omega
   rw [sel_pos (by simpa using hr),if_neg hr,h104]
  obtain ⟨q1,q2,_,_⟩:=Kerb.room_zero.1 hr
  rw [sel_neg (by simp [hr]),if_pos hr,chk_of (by simp;omega)]
  obtain ⟨R,hR⟩:∃ R,R=b.drop pos.toNat:=⟨_,rfl⟩
  have hRl:R.length=b.length-pos.toNat:=by rw [hR];simp
  rw [← hR]
  obtain ⟨T,hT⟩:∃ T,T=R.take 40:=⟨_,rfl⟩
  have hix:=Kerb.indexOf_bd 0 T
  have key:(sel (decide (Yg (0:UInt8) T≥(0:Int)))
    (chk (decide (((0:Nat):Int)≤Yg (0:UInt8) T)&&decide (Yg (0:UInt8) T≤(T.length:Int)))
     (some (Zh [Zv (Wq (Zp ((0:Nat):Int)) (Wx (Zp (Yg (0:UInt8) T)) T)),Zz Zy (Zq Zy (Zq Zy (pos+Yg (0:UInt8) T)+(1:Int))),Zz Zy (0:Int)],([]:Blocks))))
    (sel (((T.length:Int))==(40:Int)) (some (Zh [Zv [],Zz Zy (0:Int),Zz Zy (105:Int)],[]))
     (some (Zh [Zv [],Zz Zy (0:Int),Zz Zy (101:Int)],[])))) =
    some (Zh [Zv (if 0≤Yg 0 T then (⟨T.take (Yg 0 T).toNat,pos+Yg 0 T+1,0⟩:Kerb.GotB) else if T.length=40 then ⟨[],0,105⟩ else ⟨[],0,101⟩).val,
     Zz Zy (if 0≤Yg 0 T then (⟨T.take (Yg 0 T).toNat,pos+Yg 0 T+1,0⟩:Kerb.GotB) else if T.length=40 then ⟨[],0,105⟩ else ⟨[],0,101⟩).next,
     Zz Zy (if 0≤Yg 0 T then (⟨T.take (Yg 0 T).toNat,pos+Yg 0 T+1,0⟩:Kerb.GotB) else if T.length=40 then ⟨[],0,105⟩ else ⟨[],0,101⟩).err],[]):=by
   have hTl:T.length≤b.length-pos.toNat:=by rw [hT];simp;omega
   by_cases hi:0≤Yg 0 T
   ·rw [sel_pos (by simpa using hi),chk_of (by simp;omega),if_pos hi,wrap_i64 (n:=pos+Yg 0 T) (by omega) (by omega),wrap_i64 (by omega) (by omega)]
    rfl
   ·rw [sel_neg (by simp;omega),if_neg hi]
    by_cases h40:T.length=40
    ·rw [sel_pos (by simp [h40]),if_pos h40]
    ·rw [sel_neg (by simp;omega),if_neg h40]
  by_cases hlong:40<R.length
  ·rw [sel_pos (by simp;omega),chk_of (by simp;omega)]
   have e1:Wq (Zp ((0:Nat):Int)) (Wx (Zp (40:Int)) R)=T:=by rw [hT];rfl
   rw [e1]
   rw [← hT]
   exact key
  ·rw [sel_neg (by simp;omega)]
   have e1:R=T:=by rw [hT,List.take_of_length_le (by omega)]
   rw [← hT,e1]
   exact key
 ·cases h
theorem w70:Walked Tryz.prog G 70 3 sp70:=by
 refine ⟨Tryz.f70,Tryz.func70,by decide +kernel,rfl,fun xs bl r h=> ?_⟩
 unfold sp70 at h
 split at h
 ·rename_i k
  obtain ⟨hpre,h2⟩:=chk_inv h;cases h2
  refine Eq.trans (b:=(Zj (chk (decide (0≤k)&&decide (k<18446744073709551616)) (some (Zh [Zz .i64 (bif Ym k then Kerb.keyClass k else 0),Zz .i64 (bif Ym k then Kerb.keySerial k else 0),Zn (Ym k)],[]))) fun (r:AV×Blocks)=>onNilB (Yy r) (Vd (Yu r) fun vs=>onCons vs fun x r=>Yd .i64 x fun n=>onCons r fun x r=>Yd .i64 x fun n_1=>onCons r fun x r=>Wp x fun b=>onNil r (some (Zz .i64 n,[]))):Option (AV×Blocks))) (by kernel_rfl) ?_
  simp only [hpre,↓A0,A0]
  rfl
 ·cases h
theorem w74:Walked Tryz.prog G 74 3 sp74:=by
 refine ⟨Tryz.f74,Tryz.func74,by decide +kernel,rfl,fun xs bl r h=> ?_⟩
 unfold sp74 at h
 split at h
 ·rename_i b pos little
  obtain ⟨hpre,h2⟩:=chk_inv h;cases h2
  refine Eq.trans (b:=(Zj (chk (decide (Zx b≤140737488355328)&&true&&true) (some (Zh [Zz .i64 (Wz (Yf b pos 4 little)),Zz .i64 (Xf (Yf b pos 4 little)),Zz .i64 (Wy (Yf b pos 4 little))],[]))) fun (r:AV×Blocks)=>onNilB (Yy r) (Vd (Yu r) fun vs=>onCons vs fun x r=>Yd .i64 x fun n=>onCons r fun x r=>Yd .i64 x fun n_1=>onCons r fun x r=>Yd .i64 x fun n_2=>onNil r (some (Zh [Zz .i64 n,Zz .i64 n_1,Zz .i64 n_2],[]))):Option (AV×Blocks))) (by kernel_rfl) ?_
  simp only [A0]
  rw [chk_of (by rw [hpre];rfl)]
 ·cases h
theorem w76:Walked Tryz.prog G 76 3 sp76:=by
 refine ⟨Tryz.f76,Tryz.func76,by decide +kernel,rfl,fun xs bl r h=> ?_⟩
 unfold sp76 at h
 split at h
 ·rename_i b pos
  obtain ⟨hpre,h2⟩:=chk_inv h;cases h2
  refine Eq.trans (b:=(Zj (chk (decide (Zx b≤140737488355328)&&true&&true) (some (Zh [Zz .i64 (Wz (Yf b pos 1 false)),Zz .i64 (Xf (Yf b pos 1 false)),Zz .i64 (Wy (Yf b pos 1 false))],[]))) fun (r:AV×Blocks)=>onNilB (Yy r) (Vd (Yu r) fun vs=>onCons vs fun x r=>Yd .i64 x fun n=>onCons r fun x r=>Yd .i64 x fun n_1=>onCons r fun x r=>Yd .i64 x fun n_2=>onNil r (some (Zh [Zz .i64 n,Zz .i64 n_1,Zz .i64 n_2],[]))):Option (AV×Blocks))) (by kernel_rfl) ?_
  simp only [A0]
  rw [chk_of (by rw [hpre];rfl)]
 ·cases h
theorem w77:Walked Tryz.prog G 77 3 sp77:=by
 refine ⟨Tryz.f77,Tryz.func77,by decide +kernel,rfl,fun xs bl r h=> ?_⟩
 unfold sp77 at h
 split at h
 ·rename_i b pos little
  obtain ⟨hpre,h2⟩:=chk_inv h;cases h2
  refine Eq.trans (b:=(Zj (chk (decide (Zx b≤140737488355328)&&true&&true) (some (Zh [Zz .i64 (Wz (Yf b pos 2 little)),Zz .i64 (Xf (Yf b pos 2 little)),Zz .i64 (Wy (Yf b pos 2 little))],[]))) fun (r:AV×Blocks)=>onNilB (Yy r) (Vd (Yu r) fun vs=>onCons vs fun x r=>Yd .i64 x fun n=>onCons r fun x r=>Yd .i64 x fun n_1=>onCons r fun x r=>Yd .i64 x fun n_2=>onNil r (some (Zh [Zz .i64 n,Zz .i64 n_1,Zz .i64 n_2],[]))):Option (AV×Blocks))) (by kernel_rfl) ?_
  simp only [A0]
  rw [chk_of (by rw [hpre];rfl)]
 ·cases h
theorem w79:Walked Tryz.prog G 79 3 sp79:=by
 refine ⟨Tryz.f79,Tryz.func79,by decide +kernel,rfl,fun xs bl r h=> ?_⟩
 unfold sp79 at h
 split at h
 ·rename_i a b c
  obtain ⟨hpre,h2⟩:=chk_inv h;cases h2
  refine Eq.trans (b:=(Zj (chk (decide (Zx a≤9223372036854775807)) (some (Zn (Vz a),[]))) fun (r:AV×Blocks)=>onNilB (Yy r) (Wp (Yu r) fun b_1=>sel b_1 (Zj (chk (decide (Zx b≤9223372036854775807)) (some (Zn (Vy b),[]))) fun (r:AV×Blocks)=>onNilB (Yy r) (Wp (Yu r) fun b=>sel b (Zj (chk (decide (Zx c≤9223372036854775807)) (some (Zn (Kerb.validRealm c),[]))) fun (r:AV×Blocks)=>onNilB (Yy r) (Wp (Yu r) fun b=>some (Zn b,[]))) (some (Zn false,[])))) (some (Zn false,[]))):Option (AV×Blocks))) (by kernel_rfl) ?_
  simp only [Xz,decide_eq_true_eq] at hpre
  simp only [A0]
  rw [chk_of (by simp;omega),chk_of (by simp;omega),chk_of (by simp;omega)]
  simp only [Xh]
  cases Vz a<;>cases Vy b<;>rfl
 ·cases h
theorem w87:Walked Tryz.prog G 87 3 sp87:=by
 refine ⟨Tryz.f87,Tryz.func87,by decide +kernel,rfl,fun xs bl r h=> ?_⟩
 unfold sp87 at h
 split at h
 ·rename_i b little
  obtain ⟨hpre,h2⟩:=chk_inv h;cases h2
  refine Eq.trans (b:=(sel little (Zj (chk (decide (Zx b≤70368744177664)) (some (Xu (b++Yk 1 1 false),[]))) fun (r:AV×Blocks)=>onNilB (Yy r) (AV.onOwnB (Yu r) fun l=>some (Xu l,[]))) (Zj (chk (decide (Zx b≤70368744177664)) (some (Xu (b++Yk 0 1 false),[]))) fun (r:AV×Blocks)=>onNilB (Yy r) (AV.onOwnB (Yu r) fun l=>some (Xu l,[]))):Option (AV×Blocks))) (by kernel_rfl) ?_
  simp only [A0]
  rw [chk_of hpre,chk_of hpre]
  cases little<;>rfl
 ·cases h
theorem w96:Walked Tryz.prog G 96 3 sp96:=by
 refine ⟨Tryz.f96,Tryz.func96,by decide +kernel,rfl,fun xs bl r h=> ?_⟩
 unfold sp96 at h
 split at h
 ·rename_i li mu kv rl tk au
  obtain ⟨hpre,h2⟩:=chk_inv h;cases h2
  refine Eq.trans (b:=(Zj (chk (l63 rl) (some (Zn (Kerb.validRealm rl),[]))) (kL fun b=>sel (!b) (some (Zh [Yw [],Zz .i64 103],[])) (sel (!Zb kv 255) (some (Zh [Yw [],Zz .i64 104],[])) (sel (decide ((↑(Zx tk):Int)>255)) (some (Zh [Yw [],Zz .i64 105],[])) (sel (decide ((↑(Zx au):Int)>255)) (some (Zh [Yw [],Zz .i64 105],[])) (sel mu (Zj (chk (decide (Zx (Uq 4 li)≤70368744177664)) (some (Xu (Uq 4 li++Yk kv 1 false),[]))) (kO fun l=>Zj (chk (decide (Zx l+Zx rl≤70368744177664)) (some (Yw (Xn l rl),[]))) (kB fun b=>Zj (chk (decide (Zx b≤70368744177664)) (some (Xu (b++Yk (↑(Zx tk):Int) 1 false),[]))) (kO fun l=>Zj (chk (decide (Zx l≤70368744177664)) (some (Xu (l++Yk (↑(Zx au):Int) 1 false),[]))) (kO fun l=>chk (room (Zx l+Zx tk) 1) (chk (room (Zx (l++tk)+Zx au) 1) (some (Zh [Yw (l++tk++au),Zz .i64 0],[])))))))) (Zj (chk (decide (Zx (Uq 3 li)≤70368744177664)) (some (Xu (Uq 3 li++Yk kv 1 false),[]))) (kO fun l=>Zj (chk (decide (Zx l+Zx rl≤70368744177664)) (some (Yw (Xn l rl),[]))) (kB fun b=>Zj (chk (decide (Zx b≤70368744177664)) (some (Xu (b++Yk (↑(Zx tk):Int) 1 false),[]))) (kO fun l=>Zj (chk (decide (Zx l≤70368744177664)) (some (Xu (l++Yk (↑(Zx au):Int) 1 false),[]))) (kO fun l=>chk (room (Zx l+Zx tk) 1) (chk (room (Zx (l++tk)+Zx au) 1) (some (Zh [Yw (l++tk++au),Zz .i64 0],[]))))))))))))):Option (AV×Blocks))) (by kernel_rfl) ?_
  delta kB kO kL
  try dsimp only [cStr,cBs,cBool,cU8,cInt,cSl,l63]
  simp only [A0,Vh,Uy,Up,hpre]
  unfold Uf
  simp only
  cases h1:Kerb.validRealm rl
  ·rfl
  rw [Yj,sel_false,if_neg (by simp)]
  cases h2:Zb kv 255
  ·rfl
  rw [Yj,sel_false,if_neg (by simp)]
  by_cases h3:255<tk.length
  ·rw [sel_pos (by simp;omega),if_pos (.inl h3)]
  rw [sel_neg (by simp;omega)]
  by_cases h4:255<au.length
  ·rw [sel_pos (by simp;omega),if_pos (.inr h4)]
  rw [sel_neg (by simp;omega),if_neg (by omega)]
  have l1:=Kerb.validRealm_len h1
  have g3:=Kerb.header_len 3 li
  have g4:=Kerb.header_len 4 li
  cases mu
  ·rw [sel_false,chk_of (by simp;omega),chk_of (by simp [Zm];omega),chk_of (by simp [Zm,Xb];omega),chk_of (by simp [Zm,Xb];omega),chk_of (Xk (by simp [Zm,Xb];omega)),chk_of (Xk (by simp [Zm,Xb];omega))]
   rfl
  ·rw [sel_true,chk_of (by simp;omega),chk_of (by simp [Zm];omega),chk_of (by simp [Zm,Xb];omega),chk_of (by simp [Zm,Xb];omega),chk_of (Xk (by simp [Zm,Xb];omega)),chk_of (Xk (by simp [Zm,Xb];omega))]
   rfl
 ·cases h
theorem w113:Walked Tryz.prog G 113 3 sp113:=by
 refine ⟨Tryz.f113,Tryz.func113,by decide +kernel,rfl,fun xs bl r h=> ?_⟩
 unfold sp113 at h
 split at h
 ·rename_i b s
  obtain ⟨hpre,h2⟩:=chk_inv h;cases h2
  refine Eq.trans (b:=(Zj (chk (decide (Zx (Xd b (Xd s ((0:UInt8)::Xd [] [])))≤140737488355328)&&decide (Zx [Yw b,Yw s,Yw [(0:UInt8)]]≤1000)) (some (Xu (Xd b (Xd s ((0:UInt8)::Xd [] []))),[]))) fun (r:AV×Blocks)=>onNilB (Yy r) (AV.onOwnB (Yu r) fun l=>some (Yw l,[])):Option (AV×Blocks))) (by kernel_rfl) ?_
  simp only [decide_eq_true_eq] at hpre
  simp only [A0]
  rw [chk_of (by simp;omega)]
  simp [Xn]
 ·cases h
theorem w118:Walked Tryz.prog G 118 3 sp118:=by
 refine ⟨Tryz.f118,Tryz.func118,by decide +kernel,rfl,fun xs bl r h=> ?_⟩
 unfold sp118 at h
 split at h
 ·rename_i kls x y z v
  obtain ⟨hpre,h2⟩:=chk_inv h;cases h2
  refine Eq.trans (b:=(Zj (chk (List.all kls Kerb.isSKey&&decide (Zx kls≤1000000)) (some (Zz .i64 (↑(Kerb.skAt (List.map Kerb.toSKey kls) (Vj x y z) v):Int),[]))) fun (r:AV×Blocks)=>onNilB (Yy r) (Yd .i64 (Yu r) fun n=>sel (n==(↑(Zx kls):Int)) (some (Zh [Zz .u64 0,Zn false],[])) (chk (decide (0≤n)&&decide (n<(↑(Zx kls):Int))&&true) (Wu (Yp kls (Zp n) Xy) fun cs=>onCons cs fun x r=>AV.onStr x fun b=>onCons r fun x r=>AV.onStr x fun b=>onCons r fun x r=>AV.onStr x fun b=>onCons r fun x r=>Yd .i64 x fun n=>onCons r fun x r=>Yd .u64 x fun n=>onNil r (some (Zh [Zz .u64 n,Zn true],[]))))):Option (AV×Blocks))) (by kernel_rfl) ?_
  simp only [Xz,decide_eq_true_eq] at hpre
  obtain ⟨hall,hlen⟩:=hpre
  obtain ⟨cs,rfl,hok⟩:=Kerb.skeys_of hall
  simp only [Kerb.map_toSKey,Xx,↓A0,A0] at hlen ⊢
  rw [chk_of (by rw [hall];simp;omega)]
  have hle:=Kerb.skAt_le cs ⟨x,y,z⟩ v
  unfold Kerb.skFind
  by_cases h:Kerb.skAt cs ⟨x,y,z⟩ v<cs.length
  ·rw [sel_neg (by simp;omega),chk_of (by simp;omega),Xp,Vn (d:=Kerb.noSKey) h,if_pos h]
   simp only [Wv,↓A0,A0]
  ·rw [sel_pos (by simp;omega),if_neg h]
 ·cases h
theorem w122:Walked Tryz.prog G 122 3 sp122:=by
 refine ⟨Tryz.f122,Tryz.func122,by decide +kernel,rfl,fun xs bl r h=> ?_⟩
 unfold sp122 at h
 split at h
 ·rename_i i l n s
  cases h
  refine Eq.trans (b:=(sel (!Zb i 4294967295) (some (Zz .i64 104,[])) (sel (!Zb n 4294967295) (some (Zz .i64 104,[])) (sel (!Zb l 255) (some (Zz .i64 104,[])) (sel (!Zb s 4294967295) (some (Zz .i64 104,[])) (sel (decide (i>Zq .i64 (n+s))) (some (Zz .i64 33,[])) (sel (decide (n>Zq .i64 (Xg i l+s))) (some (Zz .i64 32,[])) (some (Zz .i64 0,[]))))))):Option (AV×Blocks))) (by kernel_rfl) ?_
  unfold Kerb.stateErr
  cases h1:Zb i 4294967295
  ·rfl
  cases h2:Zb n 4294967295
  ·rfl
  cases h3:Zb l 255
  ·rfl
  cases h4:Zb s 4294967295
  ·rfl
  have b1:=Kerb.within_iff.1 h1
  have b2:=Kerb.within_iff.1 h2
  have b3:=Kerb.within_iff.1 h3
  have b4:=Kerb.within_iff.1 h4
  have he:Xg i l=i+300*(l+1):=by simp [Xg,h1,h3]
  simp only [Yj,sel_false,Xv,Bool.false_eq_true,if_false,he]
  rw [wrap_i64 (by omega) (by omega),wrap_i64 (by omega) (by omega)]
  by_cases h5:n+s<i
  ·rw [sel_pos (by simpa using h5),if_pos h5]
  rw [sel_neg (by simpa using h5),if_neg h5]
  by_cases h6:i+300*(l+1)+s<n
  ·rw [sel_pos (by simpa using h6),if_pos h6]
  rw [sel_neg (by simpa using h6),if_neg h6]
 ·cases h
theorem w133:Walked Tryz.prog G 133 3 sp133:=by
 refine ⟨Tryz.f133,Tryz.func133,by decide +kernel,rfl,fun xs bl r h=> ?_⟩
 unfold sp133 at h
 split at h
 ·rename_i n w els
  obtain ⟨hpre,h2⟩:=chk_inv h;cases h2
  refine Eq.trans (b:=(sel (!Zb n 4294967295) (some (Zh [Zz .i64 0,Zn false],[])) (sel (decide (Kerb.least w [255]<0)) (some (Zh [Zz .i64 0,Zn false],[])) (Zj (chk (allInts els&&decide (Zx els≤1000000)) (some (Zz .i64 (Kerb.least (Xg n (Kerb.least w [255])) (intsIn els)),[]))) fun (r:AV×Blocks)=>onNilB (Yy r) (Yd .i64 (Yu r) fun n_1=>sel (decide (n_1<n)) (some (Zh [Zz .i64 0,Zn false],[])) (Zj (chk (decide ((-9223372036854775808:Int)≤Zq .i64 (n_1-n))&&decide (Zq .i64 (n_1-n)≤9223372036854775807)) (some (Zh [Zz .i64 (bif decide (Zq .i64 (n_1-n)<300) then 0 else Kerb.fromSec (Zq .i64 (n_1-n))),Zn !decide (Zq .i64 (n_1-n)<300)],[]))) fun (r:AV×Blocks)=>onNilB (Yy r) (Vd (Yu r) fun vs=>onCons vs fun x r=>Yd .i64 x fun n=>onCons r fun x r=>Wp x fun b=>onNil r (some (Zh [Zz .i64 n,Zn b],[]))))))):Option (AV×Blocks))) (by kernel_rfl) ?_
  simp only [Xz,decide_eq_true_eq] at hpre
  obtain ⟨⟨ha,hl⟩,hi⟩:=hpre
  have hl0:Kerb.least w [255]=Wj w 255:=rfl
  simp only [hl0,ha,hl,decide_true,Xv,↓A0,A0]
  unfold Uv
  cases hn:Zb n 4294967295
  ·rfl
  rw [sel_neg (by rfl)]
  have n1:=Kerb.within_iff.1 hn
  by_cases hw:w<0
  ·have h5:Wj w 255<0:=by unfold Wj;split<;>omega
   rw [sel_pos (by simpa using h5),if_pos (by simp [hw])]
  have hm:0≤Wj w 255∧Wj w 255≤255:=by unfold Wj;split<;>omega
  rw [sel_neg (by simp;omega),if_neg (by simp [hw])]
  have ht:Xg n (Wj w 255)=n+300*(Wj w 255+1):=by
   unfold Xg
   rw [if_pos (by rw [hn,Kerb.within_iff.2 hm];rfl)]
  rw [ht]
  have hle:=Kerb.least_le (intsIn els) (n+300*(Wj w 255+1))
  generalize Kerb.least (n+300*(Wj w 255+1)) (intsIn els)=L at hle ⊢
  by_cases h1:L<n
  ·rw [sel_pos (by simpa using h1),if_pos (by omega)]
  rw [sel_neg (by simpa using h1),wrap_i64 (by omega) (by omega),chk_of (by simp;omega)]
  by_cases h2:L-n<300
  ·rw [if_pos h2,show decide (L-n<300)=true from by simpa using h2];rfl
  ·rw [if_neg h2,show decide (L-n<300)=false from by simpa using h2]
   unfold Kerb.fromSec
   rw [Int.tdiv_eq_ediv_of_nonneg (by omega)]
   rfl
 ·cases h
theorem w142:Walked Tryz.prog G 142 3 sp142:=by
 refine ⟨Tryz.f142,Tryz.func142,by decide +kernel,rfl,fun xs bl r h=> ?_⟩
 unfold sp142 at h
 split at h
 ·rename_i k
  obtain ⟨hpre,h2⟩:=chk_inv h;cases h2
  refine Eq.trans (b:=(Zj (chk (decide (0≤k)&&decide (k<18446744073709551616)) (some (Zn (Ym k),[]))) fun (r:AV×Blocks)=>onNilB (Yy r) (Wp (Yu r) fun b=>sel (!b) (some (Zz .i64 0,[])) (some (Zz .i64 (Zq .i64 (Int.fdiv k (2 ^ min (Zp 56) (Xq .u64)))),[]))):Option (AV×Blocks))) (by kernel_rfl) ?_
  simp only [hpre,↓A0,A0]
  unfold Kerb.classOf
  cases hk:Ym k
  ·rfl
  simp only [Yj,Bool.not_false,sel_true,sel_false]
  simp only [Xz,decide_eq_true_eq] at hpre
  have h7:(min (Zp 56) (Xq .u64))=56:=rfl
  rw [h7,Int.fdiv_eq_ediv_of_nonneg _ (by decide),wrap_i64 (by omega) (by omega)]
  rfl
 ·cases h
theorem w144:Walked Tryz.prog G 144 3 sp144:=by
 refine ⟨Tryz.f144,Tryz.func144,by decide +kernel,rfl,fun xs bl r h=> ?_⟩
 unfold sp144 at h
 split at h
 ·rename_i kd k bd
  obtain ⟨hpre,h2⟩:=chk_inv h;cases h2
  refine Eq.trans (b:=(let t0:List UInt8:=[Vk (Zp (Zq .u8 (Int.fdiv (↑(Zx bd):Int) (2 ^ min (Zp 8) (Xq .i64))))),Vk (Zp (Zq .u8 (↑(Zx bd):Int)))];let t1:List UInt8:=[(66:UInt8),Vk (Zp (Zq .u8 kd))];sel (decide (kd<1)) (some (Zh [Yw [],Zz .i64 104],[])) (sel (decide (kd>10)) (some (Zh [Yw [],Zz .i64 104],[])) (Zj (chk (decide (0≤k)&&decide (k<18446744073709551616)) (some (Zn (Ym k),[]))) (kL fun b=>sel (!b) (some (Zh [Yw [],Zz .i64 10],[])) (sel (decide ((↑(Zx bd):Int)>1000)) (some (Zh [Yw [],Zz .i64 105],[])) (Zj (chk (decide (0≤k)&&decide (k<18446744073709551616)) (some (Yw (Kerb.keyBytes k),[]))) (kB fun b=>chk (room (Zx t1+Zx b) 1) (chk (room (Zx (t1++b)+Zx t0) 1) (chk (room (Zx (t1++b++t0)+Zx bd) 1) (some (Zh [Yw (t1++b++t0++bd),Zz .i64 0],[])))))))))):Option (AV×Blocks))) (by kernel_rfl) ?_
  delta kB kL
  try dsimp only [cStr,cBs,cBool,cU8,cInt,cSl,l63]
  simp only [A0,Vh,Uy,Up,hpre]
  unfold Kerb.makeBox
  by_cases k1:1≤kd
  case neg =>
   rw [sel_pos (by simp;omega),if_pos (by simp [Vx];omega)]
  by_cases k2:kd≤10
  case neg =>
   rw [sel_neg (by simp;omega),sel_pos (by simp;omega),if_pos (by simp [Vx];omega)]
  rw [sel_neg (by simp;omega),sel_neg (by simp;omega),if_neg (by simp [Vx];omega)]
  cases h2:Ym k
  ·rfl
  rw [Yj,sel_false,if_neg (by simp)]
  by_cases h3:1000<bd.length
  ·rw [sel_pos (by simp;omega),if_pos h3]
  have lk:=Yv k
  rw [sel_neg (by simp;omega),if_neg h3,chk_of (Xk (by simp;omega)),chk_of (Xk (by simp;omega)),chk_of (Xk (by simp;omega)),Kerb.two_bytes,Kerb.wrap_u8,Int.emod_eq_of_lt (by omega) (by omega)]
 ·cases h
theorem w154:Walked Tryz.prog G 154 3 sp154:=by
 refine ⟨Tryz.f154,Tryz.func154,by decide +kernel,rfl,fun xs bl r h=> ?_⟩
 unfold sp154 at h
 split at h
 ·rename_i b n k little
  obtain ⟨hpre,h2⟩:=chk_inv h;cases h2
  refine Eq.trans (b:=(Zj (loopM (fun (st:List AV)=>cBs st fun b r=>cInt .i64 r fun n r=>cInt .i64 r fun n_1 r=>cBool r fun b_1 r=>cBs r fun c r=>cInt .i64 r fun n_2 r=>cInt .i64 r fun n_3 r=>let t0:Int:=Zq .i64 (Zq .i64 (n_1-1)-n_3);let t1:UInt8:=Vk (Zp (Zq .u8 (Int.fdiv n (2 ^ min (Zp (Zq .i64 (8*n_3))) (Xq .i64)))));onNil r (sel (decide (n_3<n_2)) (sel (!b_1) (chk (decide (0≤Zq .i64 (8*n_3))) (chk (decide (0≤t0)&&decide (t0<(↑(Zx c):Int))&&Ux (Zx c) 4&&true) (chk (Nat.blt (Zp t0) (Zx c)&&true&&true&&true&&true) (some (Vp [Yw b,Zz .i64 n,Zz .i64 n_1,Zn b_1,Yw (List.set c (Zp t0) t1),Zz .i64 n_2,Zz .i64 (Zq .i64 (n_3+1))]))))) (chk (decide (0≤Zq .i64 (8*n_3))) (chk (decide (0≤n_3)&&decide (n_3<(↑(Zx c):Int))&&Ux (Zx c) 4&&true) (chk (Nat.blt (Zp n_3) (Zx c)&&true&&true&&true&&true) (some (Vp [Yw b,Zz .i64 n,Zz .i64 n_1,Zn b_1,Yw (List.set c (Zp n_3) t1),Zz .i64 n_2,Zz .i64 (Zq .i64 (n_3+1))])))))) (some (Ud (Ww 0,[Yw b,Zz .i64 n,Zz .i64 n_1,Zn b_1,Yw c,Zz .i64 n_2,Zz .i64 n_3]))))) [Yw b,Zz .i64 n,Zz .i64 k,Zn little,Yw [(0:UInt8),(0:UInt8),(0:UInt8),(0:UInt8)],Zz .i64 k,Zz .i64 0]) fun (r:Ex×List AV)=>cBs (Yy r) fun b r_1=>cInt .i64 r_1 fun n r_2=>cInt .i64 r_2 fun n r_3=>cBool r_3 fun b_1 r_4=>cBs r_4 fun c r_5=>let t2:Nat:=Zx [Yw b,Yw (Wq (Zp (↑(0:Nat):Int)) (Wx (Zp n) c))];let t3:Nat:=Zx (Xd b (Xd (Wq (Zp (↑(0:Nat):Int)) (Wx (Zp n) c)) []));cInt .i64 r_5 fun n_1 r_6=>cInt .i64 r_6 fun n_2 r_7=>onNil r_7 (exK r.1 none fun (j:Nat)=>sel (Ux j 0) (chk (decide ((↑(0:Nat):Int)≤n)&&decide (n≤(↑(Zx c):Int))&&Ux (Zx c) 4) (Zj (chk (decide (t3≤140737488355328)&&decide (t2≤1000)) (some (Xu (Xd b (Xd (Wq (Zp (↑(0:Nat):Int)) (Wx (Zp n) c)) [])),[]))) (kO fun l=>some (Xu l,[])))) none):Option (AV×Blocks))) (by kernel_rfl) ?_
  delta kO
  try dsimp only [cStr,cBs,cBool,cU8,cInt,cSl,l63]
  simp only [Xz,decide_eq_true_eq] at hpre
  obtain ⟨hk,hb⟩:=hpre
  rcases hk with rfl | rfl | rfl<;>cases little
  ·refine loop_unroll 2 (Ww 0,[Yw b,Zz Zy n,Zz Zy 1,Zn false,Yw [Wf n 0,(0:UInt8),(0:UInt8),(0:UInt8)],Zz Zy 1,Zz Zy 1]) (by kernel_rfl) ?_
   simp only [A0]
   rw [sel_pos (Wd _),chk_of (by simp),chk_of (by simp;omega)]
   simp [Uk,Yk,Uj,Vq]
  ·refine loop_unroll 2 (Ww 0,[Yw b,Zz Zy n,Zz Zy 1,Zn true,Yw [Wf n 0,(0:UInt8),(0:UInt8),(0:UInt8)],Zz Zy 1,Zz Zy 1]) (by kernel_rfl) ?_
   simp only [A0]
   rw [sel_pos (Wd _),chk_of (by simp),chk_of (by simp;omega)]
   simp [Uk,Yk,Uj,Vq]
  ·refine loop_unroll 3 (Ww 0,[Yw b,Zz Zy n,Zz Zy 2,Zn false,Yw [Wf n 8,Wf n 0,(0:UInt8),(0:UInt8)],Zz Zy 2,Zz Zy 2]) (by kernel_rfl) ?_
   simp only [A0]
   rw [sel_pos (Wd _),chk_of (by simp),chk_of (by simp;omega)]
   simp [Uk,Yk,Uj,Vq]
  ·refine loop_unroll 3 (Ww 0,[Yw b,Zz Zy n,Zz Zy 2,Zn true,Yw [Wf n 0,Wf n 8,(0:UInt8),(0:UInt8)],Zz Zy 2,Zz Zy 2]) (by kernel_rfl) ?_
   simp only [A0]
   rw [sel_pos (Wd _),chk_of (by simp),chk_of (by simp;omega)]
   simp [Uk,Yk,Uj,Vq]
  ·refine loop_unroll 5 (Ww 0,[Yw b,Zz Zy n,Zz Zy 4,Zn false,Yw [Wf n 24,Wf n 16,Wf n 8,Wf n 0],Zz Zy 4,Zz Zy 4]) (by kernel_rfl) ?_
   simp only [A0]
   rw [sel_pos (Wd _),chk_of (by simp),chk_of (by simp;omega)]
   simp [Uk,Yk,Uj,Vq]
  ·refine loop_unroll 5 (Ww 0,[Yw b,Zz Zy n,Zz Zy 4,Zn true,Yw [Wf n 0,Wf n 8,Wf n 16,Wf n 24],Zz Zy 4,Zz Zy 4]) (by kernel_rfl) ?_
   simp only [A0]
   rw [sel_pos (Wd _),chk_of (by simp),chk_of (by simp;omega)]
   simp [Uk,Yk,Uj,Vq]
 ·cases h
theorem w162:Walked Tryz.prog G 162 3 sp162:=by
 refine ⟨Tryz.f162,Tryz.func162,by decide +kernel,rfl,fun xs bl r h=> ?_⟩
 unfold sp162 at h
 split at h
 ·rename_i s c
  cases h
  refine Eq.trans (b:=(some (Zz .i64 (Yg c s),[]):Option (AV×Blocks))) (by kernel_rfl) ?_
  rfl
 ·cases h
theorem w172:Walked Tryz.prog G 172 3 sp172:=by
 refine ⟨Tryz.f172,Tryz.func172,by decide +kernel,rfl,fun xs bl r h=> ?_⟩
 unfold sp172 at h
 split at h
 ·rename_i b
  obtain ⟨hpre,h2⟩:=chk_inv h;cases h2
  refine Eq.trans (b:=(chk (decide (0≤Xj (Zq .i64 (8-Xj (↑(Zx b):Int) 8)) 8)&&decide (Xj (Zq .i64 (8-Xj (↑(Zx b):Int) 8)) 8≤Xj (Zq .i64 (8-Xj (↑(Zx b):Int) 8)) 8)&&decide (Xj (Zq .i64 (8-Xj (↑(Zx b):Int) 8)) 8≤140737488355328)) (Zj (chk (decide (Zx (Xd b (Xd (Uw (Zp (Xj (Zq .i64 (8-Xj (↑(Zx b):Int) 8)) 8)) (0:UInt8)) []))≤140737488355328)&&decide (Zx [Yw b,Yw (Uw (Zp (Xj (Zq .i64 (8-Xj (↑(Zx b):Int) 8)) 8)) (0:UInt8))]≤1000)) (some (Xu (Xd b (Xd (Uw (Zp (Xj (Zq .i64 (8-Xj (↑(Zx b):Int) 8)) 8)) (0:UInt8)) [])),[]))) fun (r:AV×Blocks)=>onNilB (Yy r) (AV.onOwnB (Yu r) fun l=>some (Yw l,[]))):Option (AV×Blocks))) (by kernel_rfl) ?_
  have hb:=of_decide_eq_true hpre
  rw [Kerb.pad_eq hb]
  simp only [A0]
  rw [chk_of (by simp;omega),chk_of (by simp;omega)]
  simp [Kerb.pad]
  omega
 ·cases h
theorem w5:Walked Tryz.prog G 5 4 sp5:=by
 refine ⟨Tryz.f5,Tryz.func5,by decide +kernel,rfl,fun xs bl r h=> ?_⟩
 unfold sp5 at h
 split at h
 ·rename_i l
  obtain ⟨hpre,h2⟩:=chk_inv h;cases h2
  refine Eq.trans (b:=(Zj (chk (decide (Zx l≤100000)) (some (Yb 4 (List.map Yx (Kerb.dataCross l)),[]))) fun (r:AV×Blocks)=>onNilB (Yy r) (AV.onSl 4 (Yu r) fun b=>Zj (loopM (fun (st:List AV)=>cSl 4 st fun b r=>onCons r fun x r=>Wh x fun b_1=>cInt .i64 r fun n r=>let t0:Option (List AV ⊕ Ex×List AV):=some (Ud (Ww 0,[Yb 4 b,Yn b_1,Zz .i64 n]));onNil r (sel (decide (n<(↑(Zx b):Int))) (sel (decide ((↑(Zx b_1):Int)<20)) (chk (decide (0≤n)&&decide (n<(↑(Zx b):Int))&&true) (Wu (Yp b (Zp n) Xy) fun cs=>cStr cs fun b_2 r=>cStr r fun b_3 r=>cInt .i64 r fun n_1 r=>cInt .u64 r fun n_2 r=>onNil r (chk (decide (0≤n)&&decide (n<(↑(Zx b):Int))&&true) (Wu (Yp b (Zp n) Xy) fun cs=>cStr cs fun b_4 r=>cStr r fun b_5 r=>cInt .i64 r fun n_3 r=>cInt .u64 r fun n_4 r=>onNil r (Zj (loopM (fun (st:List AV)=>cSl 4 st fun b r=>onCons r fun x r=>Wh x fun b_6=>cInt .i64 r fun n r=>let t1:Bool:=decide (0≤n)&&decide (n<(↑(Zx b):Int))&&true;cBool r fun b_7 r=>cInt .i64 r fun n_5 r=>let t2:Bool:=decide (0≤n_5)&&decide (n_5<(↑(Zx b_6):Int))&&true;let t4:List AV:=[Zz .i64 (Zq .i64 (n_5+1))];let t3:Option (List AV ⊕ Ex×List AV):=some (Vp (Yb 4 b::Yn b_6::Zz .i64 n::Zn true::t4));onNil r (sel (decide (n_5<(↑(Zx b_6):Int))) (sel b_7 (chk t2 (chk (Nat.blt (Zp n_5) (Zx b_6)&&true) (Wu (Yp b_6 (Zp n_5) Xy) fun cs=>cStr cs fun b_8 r=>cStr r fun b_9 r=>cInt .i64 r fun n_6 r=>cInt .u64 r fun n_7 r=>onNil r (chk t1 (Wu (Yp b (Zp n) Xy) fun cs=>cStr cs fun b_10 r=>cStr r fun b_11 r=>cInt .i64 r fun n_8 r=>cInt .u64 r fun n_9 r=>onNil r (sel (!b_8==b_10) t3 (chk t2 (chk (Nat.blt (Zp n_5) (Zx b_6)&&true) (Wu (Yp b_6 (Zp n_5) Xy) fun cs=>cStr cs fun b_12 r=>cStr r fun b_13 r=>cInt .i64 r fun n_10 r=>cInt .u64 r fun n_11 r=>onNil r (chk t1 (Wu (Yp b (Zp n) Xy) fun cs=>cStr cs fun b_14 r=>cStr r fun b_15 r=>cInt .i64 r fun n_12 r=>cInt .u64 r fun n_13 r=>onNil r (sel (!b_13==b_15) t3 (chk t2 (chk (Nat.blt (Zp n_5) (Zx b_6)&&true) (Wu (Yp b_6 (Zp n_5) Xy) fun cs=>cStr cs fun b_16 r=>cStr r fun b_17 r=>cInt .i64 r fun n_14 r=>cInt .u64 r fun n_15 r=>onNil r (chk t1 (Wu (Yp b (Zp n) Xy) fun cs=>cStr cs fun b_18 r=>cStr r fun b_19 r=>cInt .i64 r fun n_16 r=>cInt .u64 r fun n_17 r=>onNil r (some (Vp (Yb 4 b::Yn b_6::Zz .i64 n::(Zn !n_14==n_16)::t4)))))))))))))))))))) (some (Vp (Yb 4 b::Yn b_6::Zz .i64 n::Zn false::t4)))) (some (Ud (Ww 2,[Yb 4 b,Yn b_6,Zz .i64 n,Zn b_7,Zz .i64 n_5]))))) [Yb 4 b,Yn b_1,Zz .i64 n,Zn !b_2==b_5,Zz .i64 0]) fun (r:Ex×List AV)=>cSl 4 (Yy r) fun b r_1=>onCons r_1 fun x r_2=>Wh x fun b_6=>cInt .i64 r_2 fun n r_3=>cBool r_3 fun b_7 r_4=>cInt .i64 r_4 fun n_5 r_5=>onNil r_5 (exK r.1 (some (Ud (Ex.ret,[Yb 4 b,Yn b_6,Zz .i64 n]))) fun (j:Nat)=>sel (Ux j 2) (sel b_7 (chk (decide (0≤n)&&decide (n<(↑(Zx b):Int))&&true) (Wu (Yp b (Zp n) Xy) fun cs=>cStr cs fun b_8 r=>cStr r fun b_9 r=>cInt .i64 r fun n_6 r=>cInt .u64 r fun n_7 r=>let t5:List AV:=[Zf [Zv b_8,Zv b_9,Zz .i64 n_6,Zz .u64 n_7]];onNil r (chk (room (Zx b_6+Zx t5) (nat_lit 48)) (some (Vp [Yb 4 b,Yn (b_6++t5),Zz .i64 (Zq .i64 (n+1))]))))) (some (Vp [Yb 4 b,Yn b_6,Zz .i64 (Zq .i64 (n+1))]))) none)))))) t0) t0)) [Yb 4 b,Yn [],Zz .i64 0]) fun (r:Ex×List AV)=>cSl 4 (Yy r) fun b r_1=>onCons r_1 fun x r_2=>Wh x fun b=>cInt .i64 r_2 fun n r_3=>onNil r_3 (exK r.1 none fun (j:Nat)=>sel (Ux j 0) (some (Yb 4 b,[])) none)):Option (AV×Blocks))) (by kernel_rfl) ?_
  try dsimp only [cStr,cBs,cBool,cU8,cInt,cSl,l63]
  have hl:=of_decide_eq_true hpre
  obtain ⟨al,has⟩:∃ a,Kerb.dataCross l=a:=⟨_,rfl⟩
  have hgood:Kerb.goodCross l=al.foldl Vg []:=by rw [← has];rfl
  have r48:∀ {m:Nat},m≤1000→Go.Abs.room m 48=true:=fun h=>by simp [Go.Abs.room];omega
  have hla:al.length≤25:=by rw [← has];exact (Kerb.dataCross_ok l).1
  simp (config:={maxSteps:=10000000}) only [hpre,has,hgood,↓A0,A0]
  refine loop_rounds (fun q:Nat×List Kerb.Cross=>[Yb 4 (al.map Yx),Yn (q.2.map Yx),Zz Zy (q.1:Int)]) (fun q=>q.1≤al.length∧q.2.length≤20∧al.foldl Vg []=(al.drop q.1).foldl Vg q.2) (fun q=>al.length-q.1)
   (fun r=>∃ i:Int,r=(Ww 0,[Yb 4 (al.map Yx),Yn ((al.foldl Vg []).map Yx),Zz Zy i])) (0,[]) ⟨Vv _,by simp,by simp⟩ rfl ?_ ?_
  ·rintro ⟨i,out⟩ ⟨hi,ho,he⟩
   dsimp only at hi ho he
   simp (config:={maxSteps:=10000000}) only [Xx,↓sInt,↓sU8,↓sBool,↓sStr,↓sBs,↓sSl,↓sAgg,↓sTup,↓sCons,↓sNil,↓sNilB,↓sChk,↓sChkBind,↓sSome,↓sOwnL,↓sConsB,↓sOwnB]
   by_cases h1:i<al.length
   case neg =>
    rw [sel_neg (by simp;omega)]
    rw [List.drop_eq_nil_of_le (by omega)] at he
    exact ⟨_,rfl,(i:Int),by rw [he];rfl⟩
   rw [sel_pos (by simp;omega)]
   by_cases h2:out.length<20
   case neg =>
    rw [sel_neg (by simp;omega)]
    rw [Kerb.crossStep_full (out:=out) (by omega)] at he
    exact ⟨_,rfl,(i:Int),by rw [he]⟩
   rw [sel_pos (by simp;omega)]
   obtain ⟨c,hc⟩:∃ c,al.getD i Xm=c:=⟨_,rfl⟩
   have hgi:(al.map Yx).getD i Xy=c.av:=by rw [Vn (d:=Xm) h1,hc]
   have hki:(decide ((0:Int)≤(i:Int))&&decide ((i:Int)<(al.length:Int))&&true)=true:=by simp;omega
   rw [Kerb.drop_row (d:=Xm) h1,hc,List.foldl_cons] at he
   simp (config:={maxSteps:=10000000}) only [hki,hgi,Xp,Yx,↓sInt,↓sU8,↓sBool,↓sStr,↓sBs,↓sSl,↓sAgg,↓sTup,↓sCons,↓sNil,↓sNilB,↓sChk,↓sChkBind,↓sSome,↓sOwnL,↓sConsB,↓sOwnB]
   refine loop_ex (fun k:Nat=>[Yb 4 (al.map Yx),Yn (out.map Yx),Zz Zy (i:Int),Zn (!(c.source==c.target) && !(out.take k).any c.alike),Zz Zy (k:Int)]) (fun k=>k≤out.length) (fun k=>out.length-k)
    (fun r=>r=(Ww 2,[Yb 4 (al.map Yx),Yn (out.map Yx),Zz Zy (i:Int),Zn (!(c.source==c.target) && !out.any c.alike),Zz Zy (out.length:Int)])) 0 (Vv _) (by simp) ?_ ?_
   ·intro k hk
    simp (config:={maxSteps:=10000000}) only [Xx,↓sInt,↓sU8,↓sBool,↓sStr,↓sBs,↓sSl,↓sAgg,↓sTup,↓sCons,↓sNil,↓sNilB,↓sChk,↓sChkBind,↓sSome,↓sOwnL,↓sConsB,↓sOwnB]
    by_cases h3:k<out.length
    case neg =>
     rw [sel_neg (by simp;omega)]
     have:k=out.length:=by omega
     subst this
     rw [List.take_length]
     exact ⟨_,rfl,rfl⟩
    rw [sel_pos (by simp;omega)]
    obtain ⟨d,hd⟩:∃ d,out.getD k Xm=d:=⟨_,rfl⟩
    have hgk:(out.map Yx).getD k Xy=d.av:=by rw [Vn (d:=Xm) h3,hd]
    have hkk:(decide ((0:Int)≤(k:Int))&&decide ((k:Int)<(out.length:Int))&&true)=true:=by simp;omega
    have hbk:(Nat.blt k out.length&&true)=true:=by simp [Nat.blt_eq];omega
    have htk:(out.take (k+1)).any c.alike=((out.take k).any c.alike||c.alike d):=by
     rw [Kerb.take_row (d:=Xm) h3,hd,List.any_append];simp
    rw [wrap_i64 (by omega) (by omega)]
    cases h4:(!(c.source==c.target) && !(out.take k).any c.alike)
    ·have h9:(!(c.source==c.target) && !(out.take (k+1)).any c.alike)=false:=by
      rw [htk,Bool.not_or,← Bool.and_assoc,h4];rfl
     exact ⟨_,rfl,k+1,by dsimp only;rw [h9];rfl,by omega,by dsimp only;omega⟩
    ·have h9:(!(c.source==c.target) && !(out.take (k+1)).any c.alike) = !(c.alike d):=by
      rw [htk,Bool.not_or,← Bool.and_assoc,h4,Bool.true_and]
     have he0:c.alike d=(d.source==c.source&&(d.target==c.target&&d.kvno==c.kvno)):=rfl
     simp (config:={maxSteps:=10000000}) only [↓sTrue,hkk,hki,hbk,hgk,hgi,Xp,Yx,↓sInt,↓sU8,↓sBool,↓sStr,↓sBs,↓sSl,↓sAgg,↓sTup,↓sCons,↓sNil,↓sNilB,↓sChk,↓sChkBind,↓sSome,↓sOwnL,↓sConsB,↓sOwnB]
     cases h5:(d.source==c.source)
     ·rw [h5,Bool.false_and] at he0
      exact ⟨_,rfl,k+1,by dsimp only;rw [h9,he0];rfl,by omega,by dsimp only;omega⟩
     rw [h5,Bool.true_and] at he0
     cases h6:(d.target==c.target)
     ·rw [h6,Bool.false_and] at he0
      exact ⟨_,rfl,k+1,by dsimp only;rw [h9,he0];rfl,by omega,by dsimp only;omega⟩
     rw [h6,Bool.true_and] at he0
     exact ⟨_,rfl,k+1,by dsimp only;rw [h9,he0];rfl,by omega,by dsimp only;omega⟩
   ·rintro _ rfl
    simp (config:={maxSteps:=10000000}) only [Xx,↓A0,A0]
    rw [sel_pos (Wd _),wrap_i64 (by omega) (by omega)]
    have hst:Vg out c=if (!(c.source==c.target) && !out.any c.alike)=true then out++[c] else out:=by
     unfold Vg
     by_cases q1:c.source=c.target
     ·rw [if_pos (.inr (.inl q1)),if_neg (by simp [q1])]
     by_cases q:out.any c.alike=true
     ·rw [if_pos (.inr (.inr q)),if_neg (by simp [q])]
     ·rw [if_neg (by rintro (h | h | h);omega;exact q1 h;exact q h),if_pos (by simp [q1];simpa using q)]
    cases h6:(!(c.source==c.target) && !out.any c.alike)
    case true =>
     rw [h6,if_pos rfl] at hst
     rw [hst] at he
     simp (config:={maxSteps:=10000000}) only [↓sTrue,hki,hgi,Xp,Yx,Vb,Uz,↓sInt,↓sU8,↓sBool,↓sStr,↓sBs,↓sSl,↓sAgg,↓sTup,↓sCons,↓sNil,↓sNilB,↓sChk,↓sChkBind,↓sSome,↓sOwnL,↓sConsB,↓sOwnB]
     rw [chk_of (r48 (by omega))]
     refine ⟨_,rfl,(i+1,out++[c]),?_,⟨by dsimp only;omega,by dsimp only;simp;omega,he⟩,by dsimp only;omega⟩
     dsimp only
     rw [List.map_append]
     rfl
    ·rw [h6,if_neg (by simp)] at hst
     rw [hst] at he
     exact ⟨_,rfl,(i+1,out),rfl,⟨by dsimp only;omega,ho,he⟩,by dsimp only;omega⟩
  ·rintro _ ⟨p,rfl⟩
   simp only [↓A0,A0]
   rw [sel_pos (Wd _)]
 ·cases h
theorem w6:Walked Tryz.prog G 6 4 sp6:=by
 refine ⟨Tryz.f6,Tryz.func6,by decide +kernel,rfl,fun xs bl r h=> ?_⟩
 unfold sp6 at h
 split at h
 ·rename_i lf xp bd
  cases h
  refine Eq.trans (b:=(Zj (loopM (fun (st:List AV)=>cU8 st fun b r=>cU8 r fun b_1 r=>cU8 r fun b_2 r=>cStr r fun b_3 r=>cSl 9 r fun b_4 r=>cStr r fun b_5 r=>onCons r fun x r=>Wh x fun y=>cSl 3 r fun b_6 r=>cInt .i64 r fun n r=>onNil r (sel (decide (n<(↑(Zx b_6):Int))) (chk (decide (0≤n)&&decide (n<(↑(Zx b_6):Int))&&true) (Wu (Yp b_6 (Zp n) Xy) fun cs=>cStr cs fun b_7 r=>cStr r fun b_8 r=>cStr r fun b_9 r=>onNil r (chk (decide (0≤n)&&decide (n<(↑(Zx b_6):Int))&&true) (Wu (Yp b_6 (Zp n) Xy) fun cs=>cStr cs fun b_10 r=>cStr r fun b_11 r=>cStr r fun b_12 r=>onNil r (Zj (chk (decide (0≤n)&&decide (n≤1000)) (some (Zz .u64 (Yh n),[]))) (kI .u64 fun n_1=>Zj (sel (Xj (Zq .i64 (↑(Xw b_2):Int)) 16==n) (some [Wm b,Wm b_1,Wm b_2,Zv b_3,Yb 9 b_4,Zv b_5,Yn y,Yb 3 b_6,Zz .i64 n,Zv b_7,Zv b_11,Zz .u64 n_1,Zz .i64 (Zq .i64 (3+n)),Zz .i64 0,Zz .i64 (Zq .i64 (↑(Xw b):Int)),Zz .i64 (Zq .i64 (1+Xj (Zq .i64 (Int.tdiv (Zq .i64 (↑(Xw b_2):Int)) 16)) 3)),Zz .i64 0,Zz .i64 0]) (some [Wm b,Wm b_1,Wm b_2,Zv b_3,Yb 9 b_4,Zv b_5,Yn y,Yb 3 b_6,Zz .i64 n,Zv b_7,Zv b_11,Zz .u64 n_1,Zz .i64 (Zq .i64 (3+n)),Zz .i64 0,Zz .i64 (Zq .i64 (↑(Xw b):Int)),Zz .i64 0,Zz .i64 0,Zz .i64 0])) fun l=>cU8 l fun b r=>cU8 r fun b_13 r=>cU8 r fun b_14 r=>cStr r fun b_15 r=>cSl 9 r fun b_16 r=>cStr r fun b_17 r=>onCons r fun x r=>Wh x fun y=>cSl 3 r fun b_18 r=>cInt .i64 r fun n r=>cStr r fun b_19 r=>cStr r fun b_20 r=>cInt .u64 r fun n_2 r=>cInt .i64 r fun n_3 r=>cInt .i64 r fun n_4 r=>cInt .i64 r fun n_5 r=>cInt .i64 r fun n_6 r=>cInt .i64 r fun n_7 r=>cInt .i64 r fun n_8 r=>let t0:List AV:=[Zz .i64 n_5,Zz .i64 n_6,Zz .i64 n_7,Zz .i64 n_8];onNil r (Zj (sel (Xj (Zq .i64 (↑(Xw b_14):Int)) 16==Zq .i64 (8+n)) (some (Wm b::Wm b_13::Wm b_14::Zv b_15::Yb 9 b_16::Zv b_17::Yn y::Yb 3 b_18::Zz .i64 n::Zv b_19::Zv b_20::Zz .u64 n_2::Zz .i64 n_3::Zz .i64 (Zq .i64 (1000+Zq .i64 (Zq .i64 (↑(Xw b_13):Int)*100)))::t0)) (some (Wm b::Wm b_13::Wm b_14::Zv b_15::Yb 9 b_16::Zv b_17::Yn y::Yb 3 b_18::Zz .i64 n::Zv b_19::Zv b_20::Zz .u64 n_2::Zz .i64 n_3::Zz .i64 n_4::t0))) fun l=>cU8 l fun b r=>cU8 r fun b_21 r=>cU8 r fun b_22 r=>cStr r fun b_23 r=>cSl 9 r fun b_24 r=>cStr r fun b_25 r=>onCons r fun x r=>Wh x fun y=>cSl 3 r fun b_26 r=>cInt .i64 r fun n r=>cStr r fun b_27 r=>cStr r fun b_28 r=>cInt .u64 r fun n_9 r=>cInt .i64 r fun n_10 r=>cInt .i64 r fun n_11 r=>cInt .i64 r fun n_12 r=>cInt .i64 r fun n_13 r=>cInt .i64 r fun n_14 r=>cInt .i64 r fun n_15 r=>let t1:List AV:=[Zf [Zv b_27,Zv b_28,Zz .u64 n_9,Zz .i64 n_10,Zz .i64 n_11,Zz .i64 n_12,Zz .i64 n_13,Zz .i64 n_14,Zz .i64 n_15]];onNil r (chk (room (Zx y+Zx t1) (nat_lit 88)) (some (Vp [Wm b,Wm b_21,Wm b_22,Zv b_23,Yb 9 b_24,Zv b_25,Yn (y++t1),Yb 3 b_26,Zz .i64 (Zq .i64 (n+1))])))))))))) (some (Ud (Ww 0,[Wm b,Wm b_1,Wm b_2,Zv b_3,Yb 9 b_4,Zv b_5,Yn y,Yb 3 b_6,Zz .i64 n]))))) [Wm lf,Wm xp,Wm bd,Zv [],Yb 9 [],Zv [(65:UInt8),(84:UInt8),(72:UInt8)],Yn [],Yb 3 [Zf [Zv (Wb (Zu 0)),Zv (Wn (Zu 0)),Zv (Wk (Zu 0))],Zf [Zv (Wb (Zu 1)),Zv (Wn (Zu 1)),Zv (Wk (Zu 1))],Zf [Zv (Wb (Zu 2)),Zv (Wn (Zu 2)),Zv (Wk (Zu 2))],Zf [Zv (Wb (Zw 2)),Zv (Wn (Zw 2)),Zv (Wk (Zw 2))],Zf [Zv (Wb (Zw 0)),Zv (Wn (Zw 0)),Zv (Wk (Zw 0))],Zf [Zv (Wb (Zw 1)),Zv (Wn (Zw 1)),Zv (Wk (Zw 1))]],Zz .i64 0]) fun (r:Ex×List AV)=>cU8 (Yy r) fun b r_1=>cU8 r_1 fun b r_2=>cU8 r_2 fun b r_3=>cStr r_3 fun b r_4=>cSl 9 r_4 fun b_1 r_5=>cStr r_5 fun b_2 r_6=>onCons r_6 fun x r_7=>Wh x fun y=>cSl 3 r_7 fun b_3 r_8=>cInt .i64 r_8 fun n r_9=>onNil r_9 (exK r.1 (some (Zf [Zv b,Yb 9 b_1],[])) fun (j:Nat)=>sel (Ux j 0) (some (Zf [Zv b_2,Yb 9 y],[])) none):Option (AV×Blocks))) (by kernel_rfl) ?_
  delta kI
  try dsimp only [cStr,cBs,cBool,cU8,cInt,cSl,l63]
  have b0:=Kerb.u8i_bd lf
  have b1:=Kerb.u8i_bd xp
  have b2:=Kerb.u8i_bd bd
  have e0:=Kerb.wrap_u8i
  have e1:Xj (Zg bd) 16=Zg bd % 16:=Uu b2.1
  have e2:Zq .i64 (1000+Zq .i64 (Zg xp*100))=1000+Zg xp*100:=by rw [wrap_i64 (n:=Zg xp*100) (by omega) (by omega),wrap_i64 (by omega) (by omega)]
  have e3:Zq .i64 (1+Xj (Zq .i64 (Int.tdiv (Zg bd) 16)) 3)=1+Zg bd / 16 % 3:=by
   rw [Int.tdiv_eq_ediv_of_nonneg b2.1,wrap_i64 (n:=Zg bd / 16) (by omega) (by omega),Uu (by omega),wrap_i64 (by omega) (by omega)]
  refine loop_rounds (fun i:Nat=>[Wm lf,Wm xp,Wm bd,Zv [],Yb 9 [],Zv [65,84,72],Yn (((Kerb.simpleDb lf xp bd).entries.take i).map Zk),Yb 3 [Zf [Zv (Zu 0).name,Zv (Zu 0).inst,Zv (Zu 0).realm],Zf [Zv (Zu 1).name,Zv (Zu 1).inst,Zv (Zu 1).realm],Zf [Zv (Zu 2).name,Zv (Zu 2).inst,Zv (Zu 2).realm],Zf [Zv (Zw 2).name,Zv (Zw 2).inst,Zv (Zw 2).realm],Zf [Zv (Zw 0).name,Zv (Zw 0).inst,Zv (Zw 0).realm],Zf [Zv (Zw 1).name,Zv (Zw 1).inst,Zv (Zw 1).realm]],Zz Zy (i:Int)]) (fun i=>i≤6) (fun i=>6-i)
   (fun r=>r=(Ww 0,[Wm lf,Wm xp,Wm bd,Zv [],Yb 9 [],Zv [65,84,72],Yn ((Kerb.simpleDb lf xp bd).entries.map Zk),Yb 3 [Zf [Zv (Zu 0).name,Zv (Zu 0).inst,Zv (Zu 0).realm],Zf [Zv (Zu 1).name,Zv (Zu 1).inst,Zv (Zu 1).realm],Zf [Zv (Zu 2).name,Zv (Zu 2).inst,Zv (Zu 2).realm],Zf [Zv (Zw 2).name,Zv (Zw 2).inst,Zv (Zw 2).realm],Zf [Zv (Zw 0).name,Zv (Zw 0).inst,Zv (Zw 0).realm],Zf [Zv (Zw 1).name,Zv (Zw 1).inst,Zv (Zw 1).realm]],Zz Zy 6])) 0 (by decide) rfl ?_ ?_
  ·intro i hi
   have hc:i=0∨i=1∨i=2∨i=3∨i=4∨i=5∨i=6:=by omega
   rcases hc with rfl | rfl | rfl | rfl | rfl | rfl | rfl
   ·have g:Yp [Zf [Zv (Zu 0).name,Zv (Zu 0).inst,Zv (Zu 0).realm],Zf [Zv (Zu 1).name,Zv (Zu 1).inst,Zv (Zu 1).realm],Zf [Zv (Zu 2).name,Zv (Zu 2).inst,Zv (Zu 2).realm],Zf [Zv (Zw 2).name,Zv (Zw 2).inst,Zv (Zw 2).realm],Zf [Zv (Zw 0).name,Zv (Zw 0).inst,Zv (Zw 0).realm],Zf [Zv (Zw 1).name,Zv (Zw 1).inst,Zv (Zw 1).realm]] (Zp ((0:Nat):Int)) Xy=Zf [Zv (Zu 0).name,Zv (Zu 0).inst,Zv (Zu 0).realm]:=rfl
    have k0:decide (((0:Nat):Int)<((Zx [Zf [Zv (Zu 0).name,Zv (Zu 0).inst,Zv (Zu 0).realm],Zf [Zv (Zu 1).name,Zv (Zu 1).inst,Zv (Zu 1).realm],Zf [Zv (Zu 2).name,Zv (Zu 2).inst,Zv (Zu 2).realm],Zf [Zv (Zw 2).name,Zv (Zw 2).inst,Zv (Zw 2).realm],Zf [Zv (Zw 0).name,Zv (Zw 0).inst,Zv (Zw 0).realm],Zf [Zv (Zw 1).name,Zv (Zw 1).inst,Zv (Zw 1).realm]]:Nat):Int))=true:=rfl
    have k1:decide ((0:Int)≤((0:Nat):Int))=true:=rfl
    have k2:decide (((0:Nat):Int)≤1000)=true:=rfl
    have k3:Zq .i64 (3+((0:Nat):Int))=3+((0:Nat):Int):=rfl
    have k4:Zq .i64 (8+((0:Nat):Int))=8+((0:Nat):Int):=rfl
    simp only [g,k0,k1,k2,k3,k4,e0,e1,e2,e3,Xv,↓A0,A0]
    by_cases h1:Zg bd % 16=((0:Nat):Int)
    all_goals by_cases h2:Zg bd % 16=8+((0:Nat):Int)
    ·have hE:Zk (Zd ((0:Nat):Int) (Zu 0) lf xp bd)=Zf [Zv (Zu 0).name,Zv (Zu 0).inst,Zz Yq (Yh ((0:Nat):Int)),Zz Zy (3+((0:Nat):Int)),Zz Zy (1000+Zg xp*100),Zz Zy (Zg lf),Zz Zy (1+Zg bd / 16 % 3),Zz Zy 0,Zz Zy 0]:=by
      unfold Zk Zd
      dsimp only
      rw [if_pos h2,if_pos h1]
     rw [sel_pos (by simpa using h1),sel_pos (by simpa using h2),chk_of (by rfl),← hE]
     exact ⟨_,rfl,1,rfl,by decide,by decide⟩
    ·have hE:Zk (Zd ((0:Nat):Int) (Zu 0) lf xp bd)=Zf [Zv (Zu 0).name,Zv (Zu 0).inst,Zz Yq (Yh ((0:Nat):Int)),Zz Zy (3+((0:Nat):Int)),Zz Zy (0),Zz Zy (Zg lf),Zz Zy (1+Zg bd / 16 % 3),Zz Zy 0,Zz Zy 0]:=by
      unfold Zk Zd
      dsimp only
      rw [if_neg h2,if_pos h1]
     rw [sel_pos (by simpa using h1),sel_neg (by simpa using h2),chk_of (by rfl),← hE]
     exact ⟨_,rfl,1,rfl,by decide,by decide⟩
    ·have hE:Zk (Zd ((0:Nat):Int) (Zu 0) lf xp bd)=Zf [Zv (Zu 0).name,Zv (Zu 0).inst,Zz Yq (Yh ((0:Nat):Int)),Zz Zy (3+((0:Nat):Int)),Zz Zy (1000+Zg xp*100),Zz Zy (Zg lf),Zz Zy (0),Zz Zy 0,Zz Zy 0]:=by
      unfold Zk Zd
      dsimp only
      rw [if_pos h2,if_neg h1]
     rw [sel_neg (by simpa using h1),sel_pos (by simpa using h2),chk_of (by rfl),← hE]
     exact ⟨_,rfl,1,rfl,by decide,by decide⟩
    ·have hE:Zk (Zd ((0:Nat):Int) (Zu 0) lf xp bd)=Zf [Zv (Zu 0).name,Zv (Zu 0).inst,Zz Yq (Yh ((0:Nat):Int)),Zz Zy (3+((0:Nat):Int)),Zz Zy (0),Zz Zy (Zg lf),Zz Zy (0),Zz Zy 0,Zz Zy 0]:=by
      unfold Zk Zd
      dsimp only
      rw [if_neg h2,if_neg h1]
     rw [sel_neg (by simpa using h1),sel_neg (by simpa using h2),chk_of (by rfl),← hE]
     exact ⟨_,rfl,1,rfl,by decide,by decide⟩
   ·have g:Yp [Zf [Zv (Zu 0).name,Zv (Zu 0).inst,Zv (Zu 0).realm],Zf [Zv (Zu 1).name,Zv (Zu 1).inst,Zv (Zu 1).realm],Zf [Zv (Zu 2).name,Zv (Zu 2).inst,Zv (Zu 2).realm],Zf [Zv (Zw 2).name,Zv (Zw 2).inst,Zv (Zw 2).realm],Zf [Zv (Zw 0).name,Zv (Zw 0).inst,Zv (Zw 0).realm],Zf [Zv (Zw 1).name,Zv (Zw 1).inst,Zv (Zw 1).realm]] (Zp ((1:Nat):Int)) Xy=Zf [Zv (Zu 1).name,Zv (Zu 1).inst,Zv (Zu 1).realm]:=rfl
    have k0:decide (((1:Nat):Int)<((Zx [Zf [Zv (Zu 0).name,Zv (Zu 0).inst,Zv (Zu 0).realm],Zf [Zv (Zu 1).name,Zv (Zu 1).inst,Zv (Zu 1).realm],Zf [Zv (Zu 2).name,Zv (Zu 2).inst,Zv (Zu 2).realm],Zf [Zv (Zw 2).name,Zv (Zw 2).inst,Zv (Zw 2).realm],Zf [Zv (Zw 0).name,Zv (Zw 0).inst,Zv (Zw 0).realm],Zf [Zv (Zw 1).name,Zv (Zw 1).inst,Zv (Zw 1).realm]]:Nat):Int))=true:=rfl
    have k1:decide ((0:Int)≤((1:Nat):Int))=true:=rfl
    have k2:decide (((1:Nat):Int)≤1000)=true:=rfl
    have k3:Zq .i64 (3+((1:Nat):Int))=3+((1:Nat):Int):=rfl
    have k4:Zq .i64 (8+((1:Nat):Int))=8+((1:Nat):Int):=rfl
    simp only [g,k0,k1,k2,k3,k4,e0,e1,e2,e3,Xv,↓A0,A0]
    by_cases h1:Zg bd % 16=((1:Nat):Int)
    all_goals by_cases h2:Zg bd % 16=8+((1:Nat):Int)
    ·have hE:Zk (Zd ((1:Nat):Int) (Zu 1) lf xp bd)=Zf [Zv (Zu 1).name,Zv (Zu 1).inst,Zz Yq (Yh ((1:Nat):Int)),Zz Zy (3+((1:Nat):Int)),Zz Zy (1000+Zg xp*100),Zz Zy (Zg lf),Zz Zy (1+Zg bd / 16 % 3),Zz Zy 0,Zz Zy 0]:=by
      unfold Zk Zd
      dsimp only
      rw [if_pos h2,if_pos h1]
     rw [sel_pos (by simpa using h1),sel_pos (by simpa using h2),chk_of (by rfl),← hE]
     exact ⟨_,rfl,2,rfl,by decide,by decide⟩
    ·have hE:Zk (Zd ((1:Nat):Int) (Zu 1) lf xp bd)=Zf [Zv (Zu 1).name,Zv (Zu 1).inst,Zz Yq (Yh ((1:Nat):Int)),Zz Zy (3+((1:Nat):Int)),Zz Zy (0),Zz Zy (Zg lf),Zz Zy (1+Zg bd / 16 % 3),Zz Zy 0,Zz Zy 0]:=by
      unfold Zk Zd
      dsimp only
      rw [if_neg h2,if_pos h1]
     rw [sel_pos (by simpa using h1),sel_neg (by simpa using h2),chk_of (by rfl),← hE]
     exact ⟨_,rfl,2,rfl,by decide,by decide⟩
    ·have hE:Zk (Zd ((1:Nat):Int) (Zu 1) lf xp bd)=Zf [Zv (Zu 1).name,Zv (Zu 1).inst,Zz Yq (Yh ((1:Nat):Int)),Zz Zy (3+((1:Nat):Int)),Zz Zy (1000+Zg xp*100),Zz Zy (Zg lf),Zz Zy (0),Zz Zy 0,Zz Zy 0]:=by
      unfold Zk Zd
      dsimp only
      rw [if_pos h2,if_neg h1]
     rw [sel_neg (by simpa using h1),sel_pos (by simpa using h2),chk_of (by rfl),← hE]
     exact ⟨_,rfl,2,rfl,by decide,by decide⟩
    ·have hE:Zk (Zd ((1:Nat):Int) (Zu 1) lf xp bd)=Zf [Zv (Zu 1).name,Zv (Zu 1).inst,Zz Yq (Yh ((1:Nat):Int)),Zz Zy (3+((1:Nat):Int)),Zz Zy (0),Zz Zy (Zg lf),Zz Zy (0),Zz Zy 0,Zz Zy 0]:=by
      unfold Zk Zd
      dsimp only
      rw [if_neg h2,if_neg h1]
     rw [sel_neg (by simpa using h1),sel_neg (by simpa using h2),chk_of (by rfl),← hE]
     exact ⟨_,rfl,2,rfl,by decide,by decide⟩
   ·have g:Yp [Zf [Zv (Zu 0).name,Zv (Zu 0).inst,Zv (Zu 0).realm],Zf [Zv (Zu 1).name,Zv (Zu 1).inst,Zv (Zu 1).realm],Zf [Zv (Zu 2).name,Zv (Zu 2).inst,Zv (Zu 2).realm],Zf [Zv (Zw 2).name,Zv (Zw 2).inst,Zv (Zw 2).realm],Zf [Zv (Zw 0).name,Zv (Zw 0).inst,Zv (Zw 0).realm],Zf [Zv (Zw 1).name,Zv (Zw 1).inst,Zv (Zw 1).realm]] (Zp ((2:Nat):Int)) Xy=Zf [Zv (Zu 2).name,Zv (Zu 2).inst,Zv (Zu 2).realm]:=rfl
    have k0:decide (((2:Nat):Int)<((Zx [Zf [Zv (Zu 0).name,Zv (Zu 0).inst,Zv (Zu 0).realm],Zf [Zv (Zu 1).name,Zv (Zu 1).inst,Zv (Zu 1).realm],Zf [Zv (Zu 2).name,Zv (Zu 2).inst,Zv (Zu 2).realm],Zf [Zv (Zw 2).name,Zv (Zw 2).inst,Zv (Zw 2).realm],Zf [Zv (Zw 0).name,Zv (Zw 0).inst,Zv (Zw 0).realm],Zf [Zv (Zw 1).name,Zv (Zw 1).inst,Zv (Zw 1).realm]]:Nat):Int))=true:=rfl
    have k1:decide ((0:Int)≤((2:Nat):Int))=true:=rfl
    have k2:decide (((2:Nat):Int)≤1000)=true:=rfl
    have k3:Zq .i64 (3+((2:Nat):Int))=3+((2:Nat):Int):=rfl
    have k4:Zq .i64 (8+((2:Nat):Int))=8+((2:Nat):Int):=rfl
    simp only [g,k0,k1,k2,k3,k4,e0,e1,e2,e3,Xv,↓A0,A0]
    by_cases h1:Zg bd % 16=((2:Nat):Int)
    all_goals by_cases h2:Zg bd % 16=8+((2:Nat):Int)
    ·have hE:Zk (Zd ((2:Nat):Int) (Zu 2) lf xp bd)=Zf [Zv (Zu 2).name,Zv (Zu 2).inst,Zz Yq (Yh ((2:Nat):Int)),Zz Zy (3+((2:Nat):Int)),Zz Zy (1000+Zg xp*100),Zz Zy (Zg lf),Zz Zy (1+Zg bd / 16 % 3),Zz Zy 0,Zz Zy 0]:=by
      unfold Zk Zd
      dsimp only
      rw [if_pos h2,if_pos h1]
     rw [sel_pos (by simpa using h1),sel_pos (by simpa using h2),chk_of (by rfl),← hE]
     exact ⟨_,rfl,3,rfl,by decide,by decide⟩
    ·have hE:Zk (Zd ((2:Nat):Int) (Zu 2) lf xp bd)=Zf [Zv (Zu 2).name,Zv (Zu 2).inst,Zz Yq (Yh ((2:Nat):Int)),Zz Zy (3+((2:Nat):Int)),Zz Zy (0),Zz Zy (Zg lf),Zz Zy (1+Zg bd / 16 % 3),Zz Zy 0,Zz Zy 0]:=by
      unfold Zk Zd
      dsimp only
      rw [if_neg h2,if_pos h1]
     rw [sel_pos (by simpa using h1),sel_neg (by simpa using h2),chk_of (by rfl),← hE]
     exact ⟨_,rfl,3,rfl,by decide,by decide⟩
    ·have hE:Zk (Zd ((2:Nat):Int) (Zu 2) lf xp bd)=Zf [Zv (Zu 2).name,Zv (Zu 2).inst,Zz Yq (Yh ((2:Nat):Int)),Zz Zy (3+((2:Nat):Int)),Zz Zy (1000+Zg xp*100),Zz Zy (Zg lf),Zz Zy (0),Zz Zy 0,Zz Zy 0]:=by
      unfold Zk Zd
      dsimp only
      rw [if_pos h2,if_neg h1]
     rw [sel_neg (by simpa using h1),sel_pos (by simpa using h2),chk_of (by rfl),← hE]
     exact ⟨_,rfl,3,rfl,by decide,by decide⟩
    ·have hE:Zk (Zd ((2:Nat):Int) (Zu 2) lf xp bd)=Zf [Zv (Zu 2).name,Zv (Zu 2).inst,Zz Yq (Yh ((2:Nat):Int)),Zz Zy (3+((2:Nat):Int)),Zz Zy (0),Zz Zy (Zg lf),Zz Zy (0),Zz Zy 0,Zz Zy 0]:=by
      unfold Zk Zd
      dsimp only
      rw [if_neg h2,if_neg h1]
     rw [sel_neg (by simpa using h1),sel_neg (by simpa using h2),chk_of (by rfl),← hE]
     exact ⟨_,rfl,3,rfl,by decide,by decide⟩
   ·have g:Yp [Zf [Zv (Zu 0).name,Zv (Zu 0).inst,Zv (Zu 0).realm],Zf [Zv (Zu 1).name,Zv (Zu 1).inst,Zv (Zu 1).realm],Zf [Zv (Zu 2).name,Zv (Zu 2).inst,Zv (Zu 2).realm],Zf [Zv (Zw 2).name,Zv (Zw 2).inst,Zv (Zw 2).realm],Zf [Zv (Zw 0).name,Zv (Zw 0).inst,Zv (Zw 0).realm],Zf [Zv (Zw 1).name,Zv (Zw 1).inst,Zv (Zw 1).realm]] (Zp ((3:Nat):Int)) Xy=Zf [Zv (Zw 2).name,Zv (Zw 2).inst,Zv (Zw 2).realm]:=rfl
    have k0:decide (((3:Nat):Int)<((Zx [Zf [Zv (Zu 0).name,Zv (Zu 0).inst,Zv (Zu 0).realm],Zf [Zv (Zu 1).name,Zv (Zu 1).inst,Zv (Zu 1).realm],Zf [Zv (Zu 2).name,Zv (Zu 2).inst,Zv (Zu 2).realm],Zf [Zv (Zw 2).name,Zv (Zw 2).inst,Zv (Zw 2).realm],Zf [Zv (Zw 0).name,Zv (Zw 0).inst,Zv (Zw 0).realm],Zf [Zv (Zw 1).name,Zv (Zw 1).inst,Zv (Zw 1).realm]]:Nat):Int))=true:=rfl
    have k1:decide ((0:Int)≤((3:Nat):Int))=true:=rfl
    have k2:decide (((3:Nat):Int)≤1000)=true:=rfl
    have k3:Zq .i64 (3+((3:Nat):Int))=3+((3:Nat):Int):=rfl
    have k4:Zq .i64 (8+((3:Nat):Int))=8+((3:Nat):Int):=rfl
    simp only [g,k0,k1,k2,k3,k4,e0,e1,e2,e3,Xv,↓A0,A0]
    by_cases h1:Zg bd % 16=((3:Nat):Int)
    all_goals by_cases h2:Zg bd % 16=8+((3:Nat):Int)
    ·have hE:Zk (Zd ((3:Nat):Int) (Zw 2) lf xp bd)=Zf [Zv (Zw 2).name,Zv (Zw 2).inst,Zz Yq (Yh ((3:Nat):Int)),Zz Zy (3+((3:Nat):Int)),Zz Zy (1000+Zg xp*100),Zz Zy (Zg lf),Zz Zy (1+Zg bd / 16 % 3),Zz Zy 0,Zz Zy 0]:=by
      unfold Zk Zd
      dsimp only
      rw [if_pos h2,if_pos h1]
     rw [sel_pos (by simpa using h1),sel_pos (by simpa using h2),chk_of (by rfl),← hE]
     exact ⟨_,rfl,4,rfl,by decide,by decide⟩
    ·have hE:Zk (Zd ((3:Nat):Int) (Zw 2) lf xp bd)=Zf [Zv (Zw 2).name,Zv (Zw 2).inst,Zz Yq (Yh ((3:Nat):Int)),Zz Zy (3+((3:Nat):Int)),Zz Zy (0),Zz Zy (Zg lf),Zz Zy (1+Zg bd / 16 % 3),Zz Zy 0,Zz Zy 0]:=by
      unfold Zk Zd
      dsimp only
      rw [if_neg h2,if_pos h1]
     rw [sel_pos (by simpa using h1),sel_neg (by simpa using h2),chk_of (by rfl),← hE]
     exact ⟨_,rfl,4,rfl,by decide,by decide⟩
    ·have hE:Zk (Zd ((3:Nat):Int) (Zw 2) lf xp bd)=Zf [Zv (Zw 2).name,Zv (Zw 2).inst,Zz Yq (Yh ((3:Nat):Int)),Zz Zy (3+((3:Nat):Int)),Zz Zy (1000+Zg xp*100),Zz Zy (Zg lf),Zz Zy (0),Zz Zy 0,Zz Zy 0]:=by
      unfold Zk Zd
      dsimp only
      rw [if_pos h2,if_neg h1]
     rw [sel_neg (by simpa using h1),sel_pos (by simpa using h2),chk_of (by rfl),← hE]
     exact ⟨_,rfl,4,rfl,by decide,by decide⟩
    ·have hE:Zk (Zd ((3:Nat):Int) (Zw 2) lf xp bd)=Zf [Zv (Zw 2).name,Zv (Zw 2).inst,Zz Yq (Yh ((3:Nat):Int)),Zz Zy (3+((3:Nat):Int)),Zz Zy (0),Zz Zy (Zg lf),Zz Zy (0),Zz Zy 0,Zz Zy 0]:=by
      unfold Zk Zd
      dsimp only
      rw [if_neg h2,if_neg h1]
     rw [sel_neg (by simpa using h1),sel_neg (by simpa using h2),chk_of (by rfl),← hE]
     exact ⟨_,rfl,4,rfl,by decide,by decide⟩
   ·have g:Yp [Zf [Zv (Zu 0).name,Zv (Zu 0).inst,Zv (Zu 0).realm],Zf [Zv (Zu 1).name,Zv (Zu 1).inst,Zv (Zu 1).realm],Zf [Zv (Zu 2).name,Zv (Zu 2).inst,Zv (Zu 2).realm],Zf [Zv (Zw 2).name,Zv (Zw 2).inst,Zv (Zw 2).realm],Zf [Zv (Zw 0).name,Zv (Zw 0).inst,Zv (Zw 0).realm],Zf [Zv (Zw 1).name,Zv (Zw 1).inst,Zv (Zw 1).realm]] (Zp ((4:Nat):Int)) Xy=Zf [Zv (Zw 0).name,Zv (Zw 0).inst,Zv (Zw 0).realm]:=rfl
    have k0:decide (((4:Nat):Int)<((Zx [Zf [Zv (Zu 0).name,Zv (Zu 0).inst,Zv (Zu 0).realm],Zf [Zv (Zu 1).name,Zv (Zu 1).inst,Zv (Zu 1).realm],Zf [Zv (Zu 2).name,Zv (Zu 2).inst,Zv (Zu 2).realm],Zf [Zv (Zw 2).name,Zv (Zw 2).inst,Zv (Zw 2).realm],Zf [Zv (Zw 0).name,Zv (Zw 0).inst,Zv (Zw 0).realm],Zf [Zv (Zw 1).name,Zv (Zw 1).inst,Zv (Zw 1).realm]]:Nat):Int))=true:=rfl
    have k1:decide ((0:Int)≤((4:Nat):Int))=true:=rfl
    have k2:decide (((4:Nat):Int)≤1000)=true:=rfl
    have k3:Zq .i64 (3+((4:Nat):Int))=3+((4:Nat):Int):=rfl
    have k4:Zq .i64 (8+((4:Nat):Int))=8+((4:Nat):Int):=rfl
    simp only [g,k0,k1,k2,k3,k4,e0,e1,e2,e3,Xv,↓A0,A0]
    by_cases h1:Zg bd % 16=((4:Nat):Int)
    all_goals by_cases h2:Zg bd % 16=8+((4:Nat):Int)
    ·have hE:Zk (Zd ((4:Nat):Int) (Zw 0) lf xp bd)=Zf [Zv (Zw 0).name,Zv (Zw 0).inst,Zz Yq (Yh ((4:Nat):Int)),Zz Zy (3+((4:Nat):Int)),Zz Zy (1000+Zg xp*100),Zz Zy (Zg lf),Zz Zy (1+Zg bd / 16 % 3),Zz Zy 0,Zz Zy 0]:=by
      unfold Zk Zd
      dsimp only
      rw [if_pos h2,if_pos h1]
     rw [sel_pos (by simpa using h1),sel_pos (by simpa using h2),chk_of (by rfl),← hE]
     exact ⟨_,rfl,5,rfl,by decide,by decide⟩
    ·have hE:Zk (Zd ((4:Nat):Int) (Zw 0) lf xp bd)=Zf [Zv (Zw 0).name,Zv (Zw 0).inst,Zz Yq (Yh ((4:Nat):Int)),Zz Zy (3+((4:Nat):Int)),Zz Zy (0),Zz Zy (Zg lf),Zz Zy (1+Zg bd / 16 % 3),Zz Zy 0,Zz Zy 0]:=by
      unfold Zk Zd
      dsimp only
      rw [if_neg h2,if_pos h1]
     rw [sel_pos (by simpa using h1),sel_neg (by simpa using h2),chk_of (by rfl),← hE]
     exact ⟨_,rfl,5,rfl,by decide,by decide⟩
    ·have hE:Zk (Zd ((4:Nat):Int) (Zw 0) lf xp bd)=Zf [Zv (Zw 0).name,Zv (Zw 0).inst,Zz Yq (Yh ((4:Nat):Int)),Zz Zy (3+((4:Nat):Int)),Zz Zy (1000+Zg xp*100),Zz Zy (Zg lf),Zz Zy (0),Zz Zy 0,Zz Zy 0]:=by
      unfold Zk Zd
      dsimp only
      rw [if_pos h2,if_neg h1]
     rw [sel_neg (by simpa using h1),sel_pos (by simpa using h2),chk_of (by rfl),← hE]
     exact ⟨_,rfl,5,rfl,by decide,by decide⟩
    ·have hE:Zk (Zd ((4:Nat):Int) (Zw 0) lf xp bd)=Zf [Zv (Zw 0).name,Zv (Zw 0).inst,Zz Yq (Yh ((4:Nat):Int)),Zz Zy (3+((4:Nat):Int)),Zz Zy (0),Zz Zy (Zg lf),Zz Zy (0),Zz Zy 0,Zz Zy 0]:=by
      unfold Zk Zd
      dsimp only
      rw [if_neg h2,if_neg h1]
     rw [sel_neg (by simpa using h1),sel_neg (by simpa using h2),chk_of (by rfl),← hE]
     exact ⟨_,rfl,5,rfl,by decide,by decide⟩
   ·have g:Yp [Zf [Zv (Zu 0).name,Zv (Zu 0).inst,Zv (Zu 0).realm],Zf [Zv (Zu 1).name,Zv (Zu 1).inst,Zv (Zu 1).realm],Zf [Zv (Zu 2).name,Zv (Zu 2).inst,Zv (Zu 2).realm],Zf [Zv (Zw 2).name,Zv (Zw 2).inst,Zv (Zw 2).realm],Zf [Zv (Zw 0).name,Zv (Zw 0).inst,Zv (Zw 0).realm],Zf [Zv (Zw 1).name,Zv (Zw 1).inst,Zv (Zw 1).realm]] (Zp ((5:Nat):Int)) Xy=Zf [Zv (Zw 1).name,Zv (Zw 1).inst,Zv (Zw 1).realm]:=rfl
    have k0:decide (((5:Nat):Int)<((Zx [Zf [Zv (Zu 0).name,Zv (Zu 0).inst,Zv (Zu 0).realm],Zf [Zv (Zu 1).name,Zv (Zu 1).inst,Zv (Zu 1).realm],Zf [Zv (Zu 2).name,Zv (Zu 2).inst,Zv (Zu 2).realm],Zf [Zv (Zw 2).name,Zv (Zw 2).inst,Zv (Zw 2).realm],Zf [Zv (Zw 0).name,Zv (Zw 0).inst,Zv (Zw 0).realm],Zf [Zv (Zw 1).name,Zv (Zw 1).inst,Zv (Zw 1).realm]]:Nat):Int))=true:=rfl
    have k1:decide ((0:Int)≤((5:Nat):Int))=true:=rfl
    have k2:decide (((5:Nat):Int)≤1000)=true:=rfl
    have k3:Zq .i64 (3+((5:Nat):Int))=3+((5:Nat):Int):=rfl
    have k4:Zq .i64 (8+((5:Nat):Int))=8+((5:Nat):Int):=rfl
    simp only [g,k0,k1,k2,k3,k4,e0,e1,e2,e3,Xv,↓A0,A0]
    by_cases h1:Zg bd % 16=((5:Nat):Int)
    all_goals by_cases h2:Zg bd % 16=8+((5:Nat):Int)
    ·have hE:Zk (Zd ((5:Nat):Int) (Zw 1) lf xp bd)=Zf [Zv (Zw 1).name,Zv (Zw 1).inst,Zz Yq (Yh ((5:Nat):Int)),Zz Zy (3+((5:Nat):Int)),Zz Zy (1000+Zg xp*100),Zz Zy (Zg lf),Zz Zy (1+Zg bd / 16 % 3),Zz Zy 0,Zz Zy 0]:=by
      unfold Zk Zd
      dsimp only
      rw [if_pos h2,if_pos h1]
     rw [sel_pos (by simpa using h1),sel_pos (by simpa using h2),chk_of (by rfl),← hE]
     exact ⟨_,rfl,6,rfl,by decide,by decide⟩
    ·have hE:Zk (Zd ((5:Nat):Int) (Zw 1) lf xp bd)=Zf [Zv (Zw 1).name,Zv (Zw 1).inst,Zz Yq (Yh ((5:Nat):Int)),Zz Zy (3+((5:Nat):Int)),Zz Zy (0),Zz Zy (Zg lf),Zz Zy (1+Zg bd / 16 % 3),Zz Zy 0,Zz Zy 0]:=by
      unfold Zk Zd
      dsimp only
      rw [if_neg h2,if_pos h1]
     rw [sel_pos (by simpa using h1),sel_neg (by simpa using h2),chk_of (by rfl),← hE]
     exact ⟨_,rfl,6,rfl,by decide,by decide⟩
    ·have hE:Zk (Zd ((5:Nat):Int) (Zw 1) lf xp bd)=Zf [Zv (Zw 1).name,Zv (Zw 1).inst,Zz Yq (Yh ((5:Nat):Int)),Zz Zy (3+((5:Nat):Int)),Zz Zy (1000+Zg xp*100),Zz Zy (Zg lf),Zz Zy (0),Zz Zy 0,Zz Zy 0]:=by
      unfold Zk Zd
      dsimp only
      rw [if_pos h2,if_neg h1]
     rw [sel_neg (by simpa using h1),sel_pos (by simpa using h2),chk_of (by rfl),← hE]
     exact ⟨_,rfl,6,rfl,by decide,by decide⟩
    ·have hE:Zk (Zd ((5:Nat):Int) (Zw 1) lf xp bd)=Zf [Zv (Zw 1).name,Zv (Zw 1).inst,Zz Yq (Yh ((5:Nat):Int)),Zz Zy (3+((5:Nat):Int)),Zz Zy (0),Zz Zy (Zg lf),Zz Zy (0),Zz Zy 0,Zz Zy 0]:=by
      unfold Zk Zd
      dsimp only
      rw [if_neg h2,if_neg h1]
     rw [sel_neg (by simpa using h1),sel_neg (by simpa using h2),chk_of (by rfl),← hE]
     exact ⟨_,rfl,6,rfl,by decide,by decide⟩
   ·exact ⟨_,rfl,rfl⟩
  ·rintro _ rfl
   rfl
 ·cases h
theorem w16:Walked Tryz.prog G 16 4 sp16:=by
 refine ⟨Tryz.f16,Tryz.func16,by decide +kernel,rfl,fun xs bl r h=> ?_⟩
 unfold sp16 at h
 split at h
 ·rename_i b
  obtain ⟨hpre,h2⟩:=chk_inv h;cases h2
  refine Eq.trans (b:=(let t1:Option (AV×Blocks):=some (Zh [Zf [Zz .i64 0,Zz .u64 0,Yw []],Zz .i64 0,Zz .i64 100],[]);let t2:Int:=Zq .i64 (↑(BitVec.toNat (BitVec.ofInt (Xq .i64) (Zq .i64 (Zq .i64 (↑(Xw (Yp b (Zp 10) (0:UInt8))):Int)*2 ^ min (Zp 8) (Xq .i64))) ||| BitVec.ofInt (Xq .i64) (Zq .i64 (↑(Xw (Yp b (Zp 11) (0:UInt8))):Int)))):Int);let t3:Int:=Zq .i64 (↑(Xw (Yp b (Zp 1) (0:UInt8))):Int);let t4:Option (AV×Blocks):=some (Zh [Zf [Zz .i64 0,Zz .u64 0,Yw []],Zz .i64 0,Zz .i64 101],[]);let t0:Int:=Zq .i64 (12+t2);sel (decide ((↑(Zx b):Int)<12)) t4 (chk (decide (10≤(↑(Zx b):Int))) (Zj (chk (decide (Zx (Wq (Zp 2) (Wx (Zp 10) b))≤4611686018427387904)) (some (Zh [Zz .u64 (Yu (Kerb.keyRead (Wq (Zp 2) (Wx (Zp 10) b)))),Zn (Yy (Kerb.keyRead (Wq (Zp 2) (Wx (Zp 10) b))))],[]))) (kT fun vs=>cInt .u64 vs fun n r=>cBool r fun b_1 r=>onNil r (chk (decide (10<(↑(Zx b):Int))) (chk (decide (11<(↑(Zx b):Int))) (chk (decide (0<(↑(Zx b):Int))) (sel (!Yp b (Zp 0) (0:UInt8)==(66:UInt8)) t1 (chk (decide (1<(↑(Zx b):Int))) (sel (decide (t3<1)) t1 (chk (decide (1<(↑(Zx b):Int))) (sel (decide (t3>10)) t1 (sel (!b_1) t1 (sel (decide (t2>1000)) t1 (sel (decide ((↑(Zx b):Int)<t0)) t4 (chk (decide (1<(↑(Zx b):Int))) (chk (decide (12≤t0)&&decide (t0≤(↑(Zx b):Int))) (chk (room (Zx (Wq (Zp 12) (Wx (Zp t0) b))) 1) (some (Zh [Zf [Zz .i64 t3,Zz .u64 n,Yw (Wq (Zp 12) (Wx (Zp t0) b))],Zz .i64 t0,Zz .i64 0],[]))))))))))))))))))):Option (AV×Blocks))) (by kernel_rfl) ?_
  delta kT
  try dsimp only [cStr,cBs,cBool,cU8,cInt,cSl,l63]
  simp only [decide_eq_true_eq] at hpre
  unfold Kerb.readBox
  by_cases h0:b.length<12
  ·rw [sel_pos (by simp;omega),if_pos h0];rfl
  rw [sel_neg (by simp;omega),if_neg h0]
  have hc:=Kerb.cut_len b 2 8
  have hs:(b.getD 10 0).toNat*256+(b.getD 11 0).toNat=Kerb.boxSize b:=rfl
  simp only [Kerb.cut_28,Kerb.size_or]
  simp only [show Zp 0=0 from rfl,show Zp 1=1 from rfl,show Zp 10=10 from rfl,show Zp 11=11 from rfl,Kerb.wrap_byte,hs]
  rw [chk_of (by simp;omega),chk_of (by simp;omega)]
  simp only [↓A0]
  rw [chk_of (by simp;omega),chk_of (by simp;omega),chk_of (by simp;omega)]
  by_cases h1:b.getD 0 0=66
  case neg=>rw [sel_pos (by simpa using h1),if_pos (.inl h1)];rfl
  rw [sel_neg (by simpa using h1),chk_of (by simp;omega)]
  cases h2:Vx ((b.getD 1 0).toNat:Int)
  ·rw [if_pos (.inr (.inl rfl))]
   by_cases h2a:((b.getD 1 0).toNat:Int)<1
   ·rw [sel_pos (by simpa using h2a)];rfl
   ·rw [sel_neg (by simpa using h2a),chk_of (by simp;omega),sel_pos (decide_eq_true (by simp only [Vx,Bool.and_eq_false_iff,decide_eq_false_iff_not] at h2;omega))];rfl
  have hk:1≤((b.getD 1 0).toNat:Int)∧((b.getD 1 0).toNat:Int)≤10:=by simp only [Vx,Xz,decide_eq_true_eq] at h2;exact h2
  rw [sel_neg (decide_eq_false (by omega)),chk_of (by simp;omega),sel_neg (decide_eq_false (by omega))]
  cases h3:(Kerb.keyRead (Kerb.cut b 2 8)).2
  ·rw [if_pos (.inr (.inr (.inl rfl)))];rfl
  rw [Yj,sel_false]
  by_cases h4:1000<Kerb.boxSize b
  ·rw [sel_pos (by simp;omega),if_pos (.inr (.inr (.inr h4)))];rfl
  rw [sel_neg (by simp;omega),if_neg (by rintro (h | h | h | h)<;>first | exact h h1 | cases h | omega),wrap_i64 (by omega) (by omega)]
  by_cases h5:b.length<12+Kerb.boxSize b
  ·rw [sel_pos (by simp;omega),if_pos h5];rfl
  have hc2:=Kerb.cut_len b 12 (Kerb.boxSize b)
  rw [sel_neg (by simp;omega),if_neg h5,Kerb.cut_12]
  repeat rw [chk_of (by first | (simp;omega) | exact Xk (by omega))]
  simp
 ·cases h
theorem w22:Walked Tryz.prog G 22 4 sp22:=by
 refine ⟨Tryz.f22,Tryz.func22,by decide +kernel,rfl,fun xs bl r h=> ?_⟩
 unfold sp22 at h
 split at h
 ·rename_i rl els xls
  obtain ⟨hpre,h2⟩:=chk_inv h;cases h2
  refine Eq.trans (b:=(let t1:AV:=Zv [(107:UInt8),(114:UInt8),(98:UInt8),(116:UInt8),(103:UInt8),(116:UInt8)];let t2:Int×Int:=Vu (List.map Kerb.toEntry els) [(107:UInt8),(114:UInt8),(98:UInt8),(116:UInt8),(103:UInt8),(116:UInt8)] rl;let t3:List AV:=[Yb 4 xls,Zz .i64 (↑(Zx xls):Int),Zz .i64 0];let t0:Option (AV×Blocks):=Zj (loopM (fun (st:List AV)=>cStr st fun b r=>cSl 9 r fun b_1 r=>onCons r fun x r=>Wh x fun b_2=>cSl 4 r fun b_3 r=>cInt .i64 r fun n r=>cInt .i64 r fun n_1 r=>onNil r (sel (decide (n_1<n)) (chk (decide (0≤n_1)&&decide (n_1<(↑(Zx b_3):Int))&&true) (Wu (Yp b_3 (Zp n_1) Xy) fun cs=>cStr cs fun b_4 r=>cStr r fun b_5 r=>cInt .i64 r fun n_2 r=>cInt .u64 r fun n_3 r=>onNil r (sel (b_5==b) (chk (room (Zx b_2+Zx [Zf [t1,Zv b_5,Zv b_4,Zz .i64 n_2,Zz .u64 n_3]]) (nat_lit 64)) (some (Vp [Zv b,Yb 9 b_1,Yn (b_2++[Zf [t1,Zv b_5,Zv b_4,Zz .i64 n_2,Zz .u64 n_3]]),Yb 4 b_3,Zz .i64 n,Zz .i64 (Zq .i64 (n_1+1))]))) (some (Vp [Zv b,Yb 9 b_1,Yn b_2,Yb 4 b_3,Zz .i64 n,Zz .i64 (Zq .i64 (n_1+1))]))))) (some (Ud (Ww 0,[Zv b,Yb 9 b_1,Yn b_2,Yb 4 b_3,Zz .i64 n,Zz .i64 n_1]))))) (Zv rl::Yb 9 els::Yn []::t3)) fun (r:Ex×List AV)=>cStr (Yy r) fun b r_1=>cSl 9 r_1 fun b r_2=>onCons r_2 fun x r_3=>Wh x fun b=>cSl 4 r_3 fun b_1 r_4=>cInt .i64 r_4 fun n r_5=>cInt .i64 r_5 fun n r_6=>onNil r_6 (exK r.1 none fun (j:Nat)=>sel (Ux j 0) (some (Yb 5 b,[])) none);Zj (chk (List.all els Kerb.isEntry&&decide (Zx els≤1000000)) (some (Zh [Zz .i64 (Yu t2),Zz .i64 (Yy t2)],[]))) (kT fun vs=>cInt .i64 vs fun n r=>cInt .i64 r fun n_1 r=>onNil r (sel (n_1==0) (chk (decide (0≤n)&&decide (n<(↑(Zx els):Int))&&true) (Wu (Yp els (Zp n) Xy) fun cs=>cStr cs fun b r=>cStr r fun b r=>cInt .u64 r fun n r=>cInt .i64 r fun n_2 r=>let t4:List AV:=[Zf [t1,Zv rl,Zv rl,Zz .i64 n_2,Zz .u64 n]];cInt .i64 r fun n_3 r=>cInt .i64 r fun n_4 r=>cInt .i64 r fun n_5 r=>cInt .i64 r fun n_6 r=>cInt .i64 r fun n_7 r=>onNil r (Zj (chk (decide (0≤n)&&decide (n<18446744073709551616)) (some (Zn (Ym n),[]))) (kL fun b=>sel b (chk (room (Zx t4) (nat_lit 64)) (Zj (loopM (fun (st:List AV)=>cStr st fun b r=>cSl 9 r fun b_1 r=>onCons r fun x r=>Wh x fun b_2=>cSl 4 r fun b_3 r=>cInt .i64 r fun n r=>cInt .i64 r fun n_8 r=>let t5:List AV:=[Yb 4 b_3,Zz .i64 n,Zz .i64 (Zq .i64 (n_8+1))];onNil r (sel (decide (n_8<n)) (chk (decide (0≤n_8)&&decide (n_8<(↑(Zx b_3):Int))&&true) (Wu (Yp b_3 (Zp n_8) Xy) fun cs=>cStr cs fun b_4 r=>cStr r fun b_5 r=>cInt .i64 r fun n r=>cInt .u64 r fun n_9 r=>let t6:List AV:=[Zf [t1,Zv b_5,Zv b_4,Zz .i64 n,Zz .u64 n_9]];onNil r (sel (b_5==b) (chk (room (Zx b_2+Zx t6) (nat_lit 64)) (some (Vp (Zv b::Yb 9 b_1::Yn (b_2++t6)::t5)))) (some (Vp (Zv b::Yb 9 b_1::Yn b_2::t5)))))) (some (Ud (Ww 0,[Zv b,Yb 9 b_1,Yn b_2,Yb 4 b_3,Zz .i64 n,Zz .i64 n_8]))))) (Zv rl::Yb 9 els::Yn t4::t3)) fun (r:Ex×List AV)=>cStr (Yy r) fun b r_1=>cSl 9 r_1 fun b r_2=>onCons r_2 fun x r_3=>Wh x fun b=>cSl 4 r_3 fun b_1 r_4=>cInt .i64 r_4 fun n r_5=>cInt .i64 r_5 fun n r_6=>onNil r_6 (exK r.1 none fun (j:Nat)=>sel (Ux j 0) (some (Yb 5 b,[])) none))) t0)))) t0)):Option (AV×Blocks))) (by kernel_rfl) ?_
  delta kT kL
  try dsimp only [cStr,cBs,cBool,cU8,cInt,cSl,l63]
  simp only [Xz,decide_eq_true_eq] at hpre
  obtain ⟨⟨⟨⟨ea,el⟩,xa⟩,xl⟩,lr⟩:=hpre
  obtain ⟨es,rfl,hok⟩:=Kerb.ents_of ea
  obtain ⟨cs,rfl,hcs⟩:=Kerb.cross_okof xa
  simp only [Xx] at el xl
  have r64:∀ {m:Nat},m≤1000002→Go.Abs.room m 64=true:=fun h=>by simp [Go.Abs.room];omega
  have hkr:([107,114,98,116,103,116]:List UInt8)=Kerb.krbtgt:=rfl
  obtain ⟨D,hD⟩:∃ D,Kerb.Db.mk rl es=D:=⟨_,rfl⟩
  have hDr:D.realm=rl:=by rw [← hD]
  have hDe:D.entries=es:=by rw [← hD]
  simp (config:={maxSteps:=10000000}) only [Kerb.map_toEntry,Kerb.map_toCross,Xx,hD,ea,el,decide_true,Xv,↓sInt,↓sU8,↓sBool,↓sStr,↓sBs,↓sSl,↓sAgg,↓sTup,↓sCons,↓sNil,↓sNilB,↓sChk,↓sChkBind,↓sSome,↓sOwnL,↓sConsB,↓sOwnB]
  obtain ⟨j,hj⟩:∃ j,(Vu es [107,114,98,116,103,116] rl).1=j:=⟨_,rfl⟩
  have hG:∀ H,Kerb.homeKeys D=H→Kerb.grantKeys D cs=H++Vw rl cs:=fun H h=>by unfold Kerb.grantKeys;rw [h,hDr]
  rw [hj]
  by_cases g1:(Vu es [107,114,98,116,103,116] rl).2=0
  case neg =>
   rw [sel_neg (by simpa using g1),hG [] (by unfold Kerb.homeKeys;rw [hDr,hDe,if_neg (fun h=>g1 h.1)])]
   refine loop_rounds (fun i:Nat=>[Zv rl,Yb 9 (es.map Zk),Yn (([]++Vw rl (cs.take i)).map Wv),Yb 4 (cs.map Yx),Zz Zy (cs.length:Int),Zz Zy (i:Int)]) (fun i=>i≤cs.length) (fun i=>cs.length-i) (fun r=>r=(Ww 0,(fun i:Nat=>[Zv rl,Yb 9 (es.map Zk),Yn (([]++Vw rl (cs.take i)).map Wv),Yb 4 (cs.map Yx),Zz Zy (cs.length:Int),Zz Zy (i:Int)]) cs.length)) 0 (Vv _) rfl ?_ ?_
   ·intro i hi
    simp (config:={maxSteps:=10000000}) only [Xx,↓sInt,↓sU8,↓sBool,↓sStr,↓sBs,↓sSl,↓sAgg,↓sTup,↓sCons,↓sNil,↓sNilB,↓sChk,↓sChkBind,↓sSome,↓sOwnL,↓sConsB,↓sOwnB]
    rcases Nat.lt_or_ge i cs.length with h1 | h1
    case inr =>
     have:i=cs.length:=by omega
     subst this
     rw [sel_neg (by simp)]
     exact ⟨_,rfl,rfl⟩
    rw [sel_pos (by simp;omega)]
    obtain ⟨c,hc⟩:∃ c,cs.getD i Xm=c:=⟨_,rfl⟩
    have hg:(cs.map Yx).getD i Xy=c.av:=by rw [Vn (d:=Xm) h1,hc]
    have hk:(decide ((0:Int)≤(i:Int))&&decide ((i:Int)<(cs.length:Int))&&true)=true:=by simp;omega
    have hs:=Kerb.crossKeys_step (r:=rl) h1 hc
    have hl1:=Kerb.crossKeys_len rl (cs.take i)
    have hl2:(cs.take i).length≤1000000:=by rw [List.length_take];omega
    rw [wrap_i64 (by omega) (by omega)]
    simp (config:={maxSteps:=10000000}) only [hk,hg,Xp,Yx,↓sInt,↓sU8,↓sBool,↓sStr,↓sBs,↓sSl,↓sAgg,↓sTup,↓sCons,↓sNil,↓sNilB,↓sChk,↓sChkBind,↓sSome,↓sOwnL,↓sConsB,↓sOwnB]
    by_cases h2:c.target=rl
    ·rw [if_pos h2] at hs
     rw [sel_pos (by simpa using h2)]
     have hlen:([]:List Kerb.SKey).length≤1:=by first | exact Vv _ | exact Nat.le_refl _
     rw [chk_of (r64 (by simp only [Xx,List.length_append,Vb,Uz];omega))]
     refine ⟨_,rfl,i+1,?_,by omega,by dsimp only;omega⟩
     dsimp only
     rw [hs,← List.append_assoc,List.map_append (l₂:=[Vm rl c])]
     first | rfl | (rw [h2];rfl) | (simp only [List.map_cons,List.map_nil,Vm,Wv,Kerb.tgs,h2])
    ·rw [if_neg h2,List.append_nil] at hs
     rw [sel_neg (by simpa using h2)]
     refine ⟨_,rfl,i+1,?_,by omega,by dsimp only;omega⟩
     dsimp only
     rw [hs]
     rfl
   ·rintro _ rfl
    simp (config:={maxSteps:=10000000}) only [List.take_length,↓sInt,↓sU8,↓sBool,↓sStr,↓sBs,↓sSl,↓sAgg,↓sTup,↓sCons,↓sNil,↓sNilB,↓sChk,↓sChkBind,↓sSome,↓sOwnL,↓sConsB,↓sOwnB]
    rfl
  rw [sel_pos (by simpa using g1)]
  obtain ⟨i0,i1⟩:=Kerb.findEnt_lt g1
  rw [hj] at i0 i1
  have hgj:(es.map Zk).getD j.toNat Xy=(Kerb.entAt D j).av:=by
   rw [Kerb.getD_ent i1]
   unfold Kerb.entAt
   rw [hDe]
  have hkj:(decide ((0:Int)≤j)&&decide (j<(es.length:Int))&&true)=true:=by simp;omega
  have hEo:(Kerb.entAt D j).ok:=by
   unfold Kerb.entAt
   rw [hDe]
   exact hok _ (Kerb.mem_row (d:=Kerb.noEntry) i1)
  have hj2:(Vu D.entries Kerb.krbtgt D.realm).1=j:=by rw [hDr,hDe];exact hj
  have g12:(Vu D.entries Kerb.krbtgt D.realm).2=0:=by rw [hDr,hDe];exact g1
  obtain ⟨E,hE⟩:∃ E,Kerb.entAt D j=E:=⟨_,rfl⟩
  rw [hE] at hgj hEo
  have hKy:=Kerb.isU64_iff.1 hEo.2.2.1
  have hky:(decide ((0:Int)≤E.key)&&decide (E.key<18446744073709551616))=true:=by simp;omega
  simp (config:={maxSteps:=10000000}) only [hkj,hgj,hky,Zk,↓sInt,↓sU8,↓sBool,↓sStr,↓sBs,↓sSl,↓sAgg,↓sTup,↓sCons,↓sNil,↓sNilB,↓sChk,↓sChkBind,↓sSome,↓sOwnL,↓sConsB,↓sOwnB]
  cases g2:Ym E.key
  ·rw [sel_false,hG [] (by unfold Kerb.homeKeys;rw [if_neg (fun h=>by have h2:=h.2;rw [hj2,hE,g2] at h2;cases h2)])]
   refine loop_rounds (fun i:Nat=>[Zv rl,Yb 9 (es.map Zk),Yn (([]++Vw rl (cs.take i)).map Wv),Yb 4 (cs.map Yx),Zz Zy (cs.length:Int),Zz Zy (i:Int)]) (fun i=>i≤cs.length) (fun i=>cs.length-i) (fun r=>r=(Ww 0,(fun i:Nat=>[Zv rl,Yb 9 (es.map Zk),Yn (([]++Vw rl (cs.take i)).map Wv),Yb 4 (cs.map Yx),Zz Zy (cs.length:Int),Zz Zy (i:Int)]) cs.length)) 0 (Vv _) rfl ?_ ?_
   ·intro i hi
    simp (config:={maxSteps:=10000000}) only [Xx,↓sInt,↓sU8,↓sBool,↓sStr,↓sBs,↓sSl,↓sAgg,↓sTup,↓sCons,↓sNil,↓sNilB,↓sChk,↓sChkBind,↓sSome,↓sOwnL,↓sConsB,↓sOwnB]
    rcases Nat.lt_or_ge i cs.length with h1 | h1
    case inr =>
     have:i=cs.length:=by omega
     subst this
     rw [sel_neg (by simp)]
     exact ⟨_,rfl,rfl⟩
    rw [sel_pos (by simp;omega)]
    obtain ⟨c,hc⟩:∃ c,cs.getD i Xm=c:=⟨_,rfl⟩
    have hg:(cs.map Yx).getD i Xy=c.av:=by rw [Vn (d:=Xm) h1,hc]
    have hk:(decide ((0:Int)≤(i:Int))&&decide ((i:Int)<(cs.length:Int))&&true)=true:=by simp;omega
    have hs:=Kerb.crossKeys_step (r:=rl) h1 hc
    have hl1:=Kerb.crossKeys_len rl (cs.take i)
    have hl2:(cs.take i).length≤1000000:=by rw [List.length_take];omega
    rw [wrap_i64 (by omega) (by omega)]
    simp (config:={maxSteps:=10000000}) only [hk,hg,Xp,Yx,↓sInt,↓sU8,↓sBool,↓sStr,↓sBs,↓sSl,↓sAgg,↓sTup,↓sCons,↓sNil,↓sNilB,↓sChk,↓sChkBind,↓sSome,↓sOwnL,↓sConsB,↓sOwnB]
    by_cases h2:c.target=rl
    ·rw [if_pos h2] at hs
     rw [sel_pos (by simpa using h2)]
     have hlen:([]:List Kerb.SKey).length≤1:=by first | exact Vv _ | exact Nat.le_refl _
     rw [chk_of (r64 (by simp only [Xx,List.length_append,Vb,Uz];omega))]
     refine ⟨_,rfl,i+1,?_,by omega,by dsimp only;omega⟩
     dsimp only
     rw [hs,← List.append_assoc,List.map_append (l₂:=[Vm rl c])]
     first | rfl | (rw [h2];rfl) | (simp only [List.map_cons,List.map_nil,Vm,Wv,Kerb.tgs,h2])
    ·rw [if_neg h2,List.append_nil] at hs
     rw [sel_neg (by simpa using h2)]
     refine ⟨_,rfl,i+1,?_,by omega,by dsimp only;omega⟩
     dsimp only
     rw [hs]
     rfl
   ·rintro _ rfl
    simp (config:={maxSteps:=10000000}) only [List.take_length,↓sInt,↓sU8,↓sBool,↓sStr,↓sBs,↓sSl,↓sAgg,↓sTup,↓sCons,↓sNil,↓sNilB,↓sChk,↓sChkBind,↓sSome,↓sOwnL,↓sConsB,↓sOwnB]
    rfl
  ·rw [sel_true,hG [Kerb.SKey.mk (Kerb.tgs rl rl) E.kvno E.key] (by unfold Kerb.homeKeys;rw [if_pos ⟨g12,by rw [hj2,hE];exact g2⟩,hj2,hE,hDr])]
   rw [chk_of (r64 (by simp only [Vb,Uz];omega))]
   refine loop_rounds (fun i:Nat=>[Zv rl,Yb 9 (es.map Zk),Yn (([Kerb.SKey.mk (Kerb.tgs rl rl) E.kvno E.key]++Vw rl (cs.take i)).map Wv),Yb 4 (cs.map Yx),Zz Zy (cs.length:Int),Zz Zy (i:Int)]) (fun i=>i≤cs.length) (fun i=>cs.length-i) (fun r=>r=(Ww 0,(fun i:Nat=>[Zv rl,Yb 9 (es.map Zk),Yn (([Kerb.SKey.mk (Kerb.tgs rl rl) E.kvno E.key]++Vw rl (cs.take i)).map Wv),Yb 4 (cs.map Yx),Zz Zy (cs.length:Int),Zz Zy (i:Int)]) cs.length)) 0 (Vv _) rfl ?_ ?_
   ·intro i hi
    simp (config:={maxSteps:=10000000}) only [Xx,↓sInt,↓sU8,↓sBool,↓sStr,↓sBs,↓sSl,↓sAgg,↓sTup,↓sCons,↓sNil,↓sNilB,↓sChk,↓sChkBind,↓sSome,↓sOwnL,↓sConsB,↓sOwnB]
    rcases Nat.lt_or_ge i cs.length with h1 | h1
    case inr =>
     have:i=cs.length:=by omega
     subst this
     rw [sel_neg (by simp)]
     exact ⟨_,rfl,rfl⟩
    rw [sel_pos (by simp;omega)]
    obtain ⟨c,hc⟩:∃ c,cs.getD i Xm=c:=⟨_,rfl⟩
    have hg:(cs.map Yx).getD i Xy=c.av:=by rw [Vn (d:=Xm) h1,hc]
    have hk:(decide ((0:Int)≤(i:Int))&&decide ((i:Int)<(cs.length:Int))&&true)=true:=by simp;omega
    have hs:=Kerb.crossKeys_step (r:=rl) h1 hc
    have hl1:=Kerb.crossKeys_len rl (cs.take i)
    have hl2:(cs.take i).length≤1000000:=by rw [List.length_take];omega
    rw [wrap_i64 (by omega) (by omega)]
    simp (config:={maxSteps:=10000000}) only [hk,hg,Xp,Yx,↓sInt,↓sU8,↓sBool,↓sStr,↓sBs,↓sSl,↓sAgg,↓sTup,↓sCons,↓sNil,↓sNilB,↓sChk,↓sChkBind,↓sSome,↓sOwnL,↓sConsB,↓sOwnB]
    by_cases h2:c.target=rl
    ·rw [if_pos h2] at hs
     rw [sel_pos (by simpa using h2)]
     have hlen:([Kerb.SKey.mk (Kerb.tgs rl rl) E.kvno E.key]:List Kerb.SKey).length≤1:=by first | exact Vv _ | exact Nat.le_refl _
     rw [chk_of (r64 (by simp only [Xx,List.length_append,Vb,Uz];omega))]
     refine ⟨_,rfl,i+1,?_,by omega,by dsimp only;omega⟩
     dsimp only
     rw [hs,← List.append_assoc,List.map_append (l₂:=[Vm rl c])]
     first | rfl | (rw [h2];rfl) | (simp only [List.map_cons,List.map_nil,Vm,Wv,Kerb.tgs,h2])
    ·rw [if_neg h2,List.append_nil] at hs
     rw [sel_neg (by simpa using h2)]
     refine ⟨_,rfl,i+1,?_,by omega,by dsimp only;omega⟩
     dsimp only
     rw [hs]
     rfl
   ·rintro _ rfl
    simp (config:={maxSteps:=10000000}) only [List.take_length,↓sInt,↓sU8,↓sBool,↓sStr,↓sBs,↓sSl,↓sAgg,↓sTup,↓sCons,↓sNil,↓sNilB,↓sChk,↓sChkBind,↓sSome,↓sOwnL,↓sConsB,↓sOwnB]
    rfl
 ·cases h
theorem w24:Walked Tryz.prog G 24 4 sp24:=by
 refine ⟨Tryz.f24,Tryz.func24,by decide +kernel,rfl,fun xs bl r h=> ?_⟩
 unfold sp24 at h
 split at h
 ·rename_i cu co cv cr lt tn mt cad cfr cis ctm ctk clf ccs cky ckv css ctt cau
  cases h
  refine Eq.trans (b:=(Zj (chk (decide (0≤Xj (Zq .i64 (↑(Xw cv):Int)) 6)&&decide (Xj (Zq .i64 (↑(Xw cv):Int)) 6≤4611686018427387904)) (some (Zf [Zv (Wb (Zw (Xj (Zq .i64 (↑(Xw cv):Int)) 6))),Zv (Wn (Zw (Xj (Zq .i64 (↑(Xw cv):Int)) 6))),Zv (Wk (Zw (Xj (Zq .i64 (↑(Xw cv):Int)) 6)))],[]))) fun (r:AV×Blocks)=>onNilB (Yy r) (Wu (Yu r) fun cs=>onCons cs fun x r=>AV.onStr x fun b=>onCons r fun x r=>AV.onStr x fun b_1=>onCons r fun x r=>AV.onStr x fun b_2=>onNil r (some (Zf [Zv b,Zv b_1,Zv b_2],[]))):Option (AV×Blocks))) (by kernel_rfl) ?_
  have b:=Kerb.u8i_bd cv
  have f1:Xj (Zg cv) 6=Zg cv % 6:=Uu b.1
  simp only [Kerb.wrap_u8i,f1,↓A0,A0]
  rw [chk_of (by simp;omega)]
  rfl
 ·cases h
theorem w36:Walked Tryz.prog G 36 4 sp36:=by
 refine ⟨Tryz.f36,Tryz.func36,by decide +kernel,rfl,fun xs bl r h=> ?_⟩
 unfold sp36 at h
 split at h
 ·rename_i B at_ li bad
  obtain ⟨hpre,h2⟩:=chk_inv h;cases h2
  show runFnH (G.env 36 4) G.rts (G.own 36) Tryz.f36 _ _ [0]=_
  refine Eq.trans (b:=(Zj (chk (decide (Zx B≤140737488355328)) (some (Zh [Zz .i64 (Wz (Yf B at_ 4 li)),Zz .i64 (Xf (Yf B at_ 4 li)),Zz .i64 (Wy (Yf B at_ 4 li))],[]))) fun (r:AV×Blocks)=>onNilB (Yy r) (Vd (Yu r) fun vs=>onCons vs fun x r=>Yd .i64 x fun n=>onCons r fun x r=>Yd .i64 x fun n_1=>onCons r fun x r=>Yd .i64 x fun n_2=>onNil r (some (Zz .i64 n,[[Yw B,Zz .i64 (bif bad || !n_2==0 then at_ else n_1),Zn li,Zn (bad || !n_2==0)]]))):Option (AV×Blocks))) (by kernel_rfl) ?_
  simp only [A0]
  rw [chk_of hpre]
 ·cases h
theorem w37:Walked Tryz.prog G 37 4 sp37:=by
 refine ⟨Tryz.f37,Tryz.func37,by decide +kernel,rfl,fun xs bl r h=> ?_⟩
 unfold sp37 at h
 split at h
 ·rename_i B at_ li bad
  obtain ⟨hpre,h2⟩:=chk_inv h;cases h2
  show runFnH (G.env 37 4) G.rts (G.own 37) Tryz.f37 _ _ [0]=_
  refine Eq.trans (b:=(Zj (chk (decide (Zx B≤140737488355328)) (some (Zh [Zz .i64 (Wz (Yf B at_ 1 false)),Zz .i64 (Xf (Yf B at_ 1 false)),Zz .i64 (Wy (Yf B at_ 1 false))],[]))) fun (r:AV×Blocks)=>onNilB (Yy r) (Vd (Yu r) fun vs=>onCons vs fun x r=>Yd .i64 x fun n=>onCons r fun x r=>Yd .i64 x fun n_1=>onCons r fun x r=>Yd .i64 x fun n_2=>onNil r (some (Zz .i64 n,[[Yw B,Zz .i64 (bif bad || !n_2==0 then at_ else n_1),Zn li,Zn (bad || !n_2==0)]]))):Option (AV×Blocks))) (by kernel_rfl) ?_
  simp only [A0]
  rw [chk_of hpre]
 ·cases h
theorem w38:Walked Tryz.prog G 38 4 sp38:=by
 refine ⟨Tryz.f38,Tryz.func38,by decide +kernel,rfl,fun xs bl r h=> ?_⟩
 unfold sp38 at h
 split at h
 ·rename_i B at_ li bad
  obtain ⟨hpre,h2⟩:=chk_inv h;cases h2
  show runFnH (G.env 38 4) G.rts (G.own 38) Tryz.f38 _ _ [0]=_
  refine Eq.trans (b:=(Zj (chk (decide (Zx B≤140737488355328)) (some (Zh [Zz .i64 (Wz (Yf B at_ 2 li)),Zz .i64 (Xf (Yf B at_ 2 li)),Zz .i64 (Wy (Yf B at_ 2 li))],[]))) fun (r:AV×Blocks)=>onNilB (Yy r) (Vd (Yu r) fun vs=>onCons vs fun x r=>Yd .i64 x fun n=>onCons r fun x r=>Yd .i64 x fun n_1=>onCons r fun x r=>Yd .i64 x fun n_2=>onNil r (some (Zz .i64 n,[[Yw B,Zz .i64 (bif bad || !n_2==0 then at_ else n_1),Zn li,Zn (bad || !n_2==0)]]))):Option (AV×Blocks))) (by kernel_rfl) ?_
  simp only [A0]
  rw [chk_of hpre]
 ·cases h
theorem w40:Walked Tryz.prog G 40 4 sp40:=by
 refine ⟨Tryz.f40,Tryz.func40,by decide +kernel,rfl,fun xs bl r h=> ?_⟩
 unfold sp40 at h
 split at h
 ·rename_i li x y z t ex kv sd
  obtain ⟨hpre,h2⟩:=chk_inv h;cases h2
  refine Eq.trans (b:=(let t0:Option (AV×Blocks):=some (Zh [Yw [],Zz .i64 104],[]);let t1:Nat:=Zx (Uq 2 li)+Zx x+Zx y+Zx z;Zj (chk (l63 x&&l63 y&&l63 z) (some (Zn (Xh (Vj x y z)),[]))) (kL fun b=>sel (!b) (some (Zh [Yw [],Zz .i64 103],[])) (sel (!Zb t 4294967295) t0 (sel (!Zb ex 4294967295) t0 (sel (!Zb kv 255) t0 (sel (decide ((↑(Zx sd):Int)>1012)) (some (Zh [Yw [],Zz .i64 105],[])) (Zj (chk (decide (t1≤70368744170000)) (some (Yw (Kerb.putPrin (Uq 2 li) (Vj x y z)),[]))) (kB fun b=>Zj (chk (decide (Zx b≤70368744177664)) (some (Xu (b++Yk t 4 li),[]))) (kO fun l=>Zj (chk (decide (Zx l≤70368744177664)) (some (Xu (l++Yk 1 1 false),[]))) (kO fun l=>Zj (chk (decide (Zx l≤70368744177664)) (some (Xu (l++Yk ex 4 li),[]))) (kO fun l=>Zj (chk (decide (Zx l≤70368744177664)) (some (Xu (l++Yk kv 1 false),[]))) (kO fun l=>Zj (chk (decide (Zx l≤70368744177664)) (some (Xu (l++Yk (↑(Zx sd):Int) 2 li),[]))) (kO fun l=>chk (room (Zx l+Zx sd) 1) (some (Zh [Yw (l++sd),Zz .i64 0],[])))))))))))))):Option (AV×Blocks))) (by kernel_rfl) ?_
  delta kB kO kL
  try dsimp only [cStr,cBs,cBool,cU8,cInt,cSl,l63]
  simp only [Xz,decide_eq_true_eq] at hpre
  obtain ⟨⟨q1,q2⟩,q3⟩:=hpre
  simp only [A0]
  unfold Kerb.encodeReply
  rw [chk_of (by simp [q1,q2,q3])]
  cases h1:Xh ⟨x,y,z⟩
  ·rfl
  rw [Yj,sel_false]
  cases h4:Zb t 4294967295
  ·rfl
  rw [Yj,sel_false]
  cases h5:Zb ex 4294967295
  ·rfl
  rw [Yj,sel_false]
  cases h6:Zb kv 255
  ·rfl
  rw [Yj,sel_false]
  by_cases h7:1012<sd.length
  ·rw [sel_pos (by simp;omega),if_neg (by simp),if_neg (by simp),if_pos h7]
  have l1:=Kerb.valid_len h1
  have l4:=Kerb.header_len 2 li
  simp only at l1
  rw [sel_neg (by simp;omega),if_neg (by simp),if_neg (by simp),if_neg h7]
  rw [chk_of (by simp;omega),chk_of (by simp [Yz];omega),chk_of (by simp [Yz,Zm];omega),chk_of (by simp [Yz,Zm];omega),chk_of (by simp [Yz,Zm];omega),chk_of (by simp [Yz,Zm];omega),chk_of (Xk (by simp [Yz,Zm];omega))]
 ·cases h
theorem w42:Walked Tryz.prog G 42 4 sp42:=by
 refine ⟨Tryz.f42,Tryz.func42,by decide +kernel,rfl,fun xs bl r h=> ?_⟩
 unfold sp42 at h
 split at h
 ·rename_i k x y z lf kv tk t little
  obtain ⟨hpre,h2⟩:=chk_inv h;cases h2
  refine Eq.trans (b:=(let t0:List UInt8:=[]++Yk (bif little then 1 else 0) 1 false;let t1:Option (AV×Blocks):=some (Zh [Yw [],Zz .i64 104],[]);Zj (chk (decide (0≤k)&&decide (k<18446744073709551616)) (some (Zn (Ym k),[]))) (kL fun b=>sel (!b) (some (Zh [Yw [],Zz .i64 10],[])) (Zj (chk (l63 x&&l63 y&&l63 z) (some (Zn (Xh (Vj x y z)),[]))) (kL fun b=>sel (!b) (some (Zh [Yw [],Zz .i64 103],[])) (sel (!Zb lf 255) t1 (sel (!Zb kv 255) t1 (sel (!Zb t 4294967295) t1 (sel (decide ((↑(Zx tk):Int)>255)) (some (Zh [Yw [],Zz .i64 105],[])) (Zj (chk (decide (0≤k)&&decide (k<18446744073709551616)) (some (Yw (Kerb.keyBytes k),[]))) (kB fun b=>let t2:Nat:=Zx (t0++b)+Zx x+Zx y+Zx z;chk (room (Zx t0+Zx b) 1) (Zj (chk (decide (t2≤70368744170000)) (some (Yw (Kerb.putPrin (t0++b) (Vj x y z)),[]))) (kB fun b=>Zj (chk (decide (Zx b≤70368744177664)) (some (Xu (b++Yk lf 1 false),[]))) (kO fun l=>Zj (chk (decide (Zx l≤70368744177664)) (some (Xu (l++Yk kv 1 false),[]))) (kO fun l=>Zj (chk (decide (Zx l≤70368744177664)) (some (Xu (l++Yk (↑(Zx tk):Int) 1 false),[]))) (kO fun l=>chk (room (Zx l+Zx tk) 1) (Zj (chk (decide (Zx (l++tk)≤70368744177664)) (some (Xu (l++tk++Yk t 4 little),[]))) (kO fun l=>Zj (chk (decide (Zx l≤70368744177664)) (some (Xu (Kerb.pad l),[]))) (kO fun l=>some (Zh [Yw l,Zz .i64 0],[])))))))))))))))))):Option (AV×Blocks))) (by kernel_rfl) ?_
  delta kB kO kL
  try dsimp only [cStr,cBs,cBool,cU8,cInt,cSl,l63]
  simp only [Xz,decide_eq_true_eq] at hpre
  obtain ⟨⟨⟨⟨q1,q2⟩,q3⟩,h0⟩,h1⟩:=hpre
  simp only [A0]
  unfold Kerb.encodePart
  rw [chk_of (by simp [h0,h1])]
  cases hk:Ym k
  ·rfl
  rw [Yj,sel_false,chk_of (by simp [q1,q2,q3])]
  cases h1:Xh ⟨x,y,z⟩
  ·rfl
  rw [Yj,sel_false]
  cases h4:Zb lf 255
  ·rfl
  rw [Yj,sel_false]
  cases h5:Zb kv 255
  ·rfl
  rw [Yj,sel_false]
  cases h6:Zb t 4294967295
  ·rfl
  rw [Yj,sel_false]
  by_cases h7:255<tk.length
  ·rw [sel_pos (by simp;omega),if_neg (by simp),if_neg (by simp),if_neg (by simp),if_pos h7]
  have l1:=Kerb.valid_len h1
  simp only at l1
  rw [sel_neg (by simp;omega),if_neg (by simp),if_neg (by simp),if_neg (by simp),if_neg h7]
  rw [chk_of (by simp;omega),chk_of (Xk (by first | (simp [Yz,Zm,Yv];done) | (simp [Yz,Zm,Yv];omega))),chk_of (by first | (simp [Yz,Zm,Yv];done) | (simp [Yz,Zm,Yv];omega)),chk_of (by first | (simp [Yz,Zm,Yv];done) | (simp [Yz,Zm,Yv];omega)),chk_of (by first | (simp [Yz,Zm,Yv];done) | (simp [Yz,Zm,Yv];omega)),chk_of (by first | (simp [Yz,Zm,Yv];done) | (simp [Yz,Zm,Yv];omega)),chk_of (Xk (by first | (simp [Yz,Zm,Yv];done) | (simp [Yz,Zm,Yv];omega))),chk_of (by first | (simp [Yz,Zm,Yv];done) | (simp [Yz,Zm,Yv];omega)),chk_of (by first | (simp [Yz,Zm,Yv];done) | (simp [Yz,Zm,Yv];omega))]
  simp
 ·cases h
theorem w47:Walked Tryz.prog G 47 4 sp47:=by
 refine ⟨Tryz.f47,Tryz.func47,by decide +kernel,rfl,fun xs bl r h=> ?_⟩
 unfold sp47 at h
 split at h
 ·rename_i li mu kv rl tk au tm lf sv ins
  obtain ⟨hpre,h2⟩:=chk_inv h;cases h2
  refine Eq.trans (b:=(sel mu (some (Zh [Yw [],Zz .i64 100],[])) (Zj (chk (l63 rl) (some (Zh [Yw (Kerb.Enc.val (Uf (Kerb.ApRequest.mk li mu kv rl tk au))),Zz .i64 (Kerb.Enc.err (Uf (Kerb.ApRequest.mk li mu kv rl tk au)))],[]))) (kT fun vs=>cBs vs fun b r=>cInt .i64 r fun n r=>onNil r (sel (!n==0) (some (Zh [Yw [],Zz .i64 n],[])) (Zj (chk (l63 sv) (some (Zn (Vz sv),[]))) (kL fun b_1=>sel (!b_1) (some (Zh [Yw [],Zz .i64 103],[])) (Zj (chk (l63 ins) (some (Zn (Vy ins),[]))) (kL fun b_2=>sel (!b_2) (some (Zh [Yw [],Zz .i64 103],[])) (sel (!Zb tm 4294967295) (some (Zh [Yw [],Zz .i64 104],[])) (sel (!Zb lf 255) (some (Zh [Yw [],Zz .i64 104],[])) (Zj (chk (decide (Zx b≤70368744177664)) (some (Xu (b++Yk tm 4 li),[]))) (kO fun l=>Zj (chk (decide (Zx l≤70368744177664)) (some (Xu (l++Yk lf 1 false),[]))) (kO fun l=>Zj (chk (decide (Zx l+Zx sv≤70368744177664)) (some (Yw (Xn l sv),[]))) (kB fun b=>Zj (chk (decide (Zx b+Zx ins≤70368744177664)) (some (Yw (Xn b ins),[]))) (kB fun b=>some (Zh [Yw b,Zz .i64 0],[]))))))))))))))):Option (AV×Blocks))) (by kernel_rfl) ?_
  delta kT kB kO kL
  try dsimp only [cStr,cBs,cBool,cU8,cInt,cSl,l63]
  simp only [Xz,decide_eq_true_eq] at hpre
  obtain ⟨⟨p1,p2⟩,p3⟩:=hpre
  simp only [A0,Vh,Uy,Up,p1,p2,p3,decide_true]
  have hL:∀ q,Uf ⟨li,mu,kv,rl,tk,au⟩=q→Kerb.encodeTgs ⟨⟨li,mu,kv,rl,tk,au⟩,tm,lf,sv,ins⟩=if mu then ⟨[],100⟩ else if q.err≠0 then ⟨[],q.err⟩ else if !(Vz sv&&Vy ins) then ⟨[],103⟩ else if !(Zb tm 4294967295&&Zb lf 255) then ⟨[],104⟩ else ⟨Xn (Xn (q.val++Yk tm 4 li++Yk lf 1 false) sv) ins,0⟩:=by rintro _ rfl;rfl
  have hl:=Kerb.encodeAp_len ⟨li,mu,kv,rl,tk,au⟩
  obtain ⟨q,hq⟩:∃ q,Uf ⟨li,mu,kv,rl,tk,au⟩=q:=⟨_,rfl⟩
  rw [hL q hq,hq]
  rw [hq] at hl
  cases mu
  case true=>rfl
  rw [sel_false,if_neg (by simp)]
  by_cases h1:q.err=0
  case neg=>rw [sel_pos (by simpa using h1),if_pos h1]
  rw [sel_neg (by simpa using h1),if_neg (by simpa using h1)]
  cases h2:Vz sv
  ·rfl
  cases h3:Vy ins
  ·rfl
  cases Zb tm 4294967295
  ·rfl
  cases Zb lf 255
  ·rfl
  have l2:=Kerb.validName_len h2
  have l3:=Kerb.validInst_len h3
  simp only [Yj,sel_false,Xv,Bool.false_eq_true,if_false]
  rw [chk_of (by simp;omega),chk_of (by simp [Zm];omega),chk_of (by simp [Zm];omega),chk_of (by simp [Zm,Xb];omega)]
 ·cases h
theorem w53:Walked Tryz.prog G 53 4 sp53:=by
 refine ⟨Tryz.f53,Tryz.func53,by decide +kernel,rfl,fun xs bl r h=> ?_⟩
 unfold sp53 at h
 split at h
 ·rename_i b
  obtain ⟨hpre,h2⟩:=chk_inv h;cases h2
  refine Eq.trans (b:=(Zj (chk (decide (Zx b≤4611686018427387904)) (some (Zh [Zz .i64 (Wz (Yf b 2 1 false)),Zz .i64 (Xf (Yf b 2 1 false)),Zz .i64 (Wy (Yf b 2 1 false))],[]))) (kT fun vs=>cInt .i64 vs fun n r=>cInt .i64 r fun n_1 r=>cInt .i64 r fun n_2 r=>onNil r (Zj (chk (decide (Zx b≤4611686018427387904)) (some (Zh [Zv (Kerb.GotB.val (Kerb.text b n_1)),Zz .i64 (Kerb.GotB.next (Kerb.text b n_1)),Zz .i64 (Kerb.GotB.err (Kerb.text b n_1))],[]))) (kT fun vs=>cStr vs fun b_1 r=>cInt .i64 r fun n_3 r=>cInt .i64 r fun n_4 r=>onNil r (Zj (chk (decide (Zx b≤4611686018427387904)) (some (Zh [Zz .i64 (Wz (Yf b n_3 1 false)),Zz .i64 (Xf (Yf b n_3 1 false)),Zz .i64 (Wy (Yf b n_3 1 false))],[]))) (kT fun vs=>cInt .i64 vs fun n_5 r=>cInt .i64 r fun n_6 r=>cInt .i64 r fun n_7 r=>onNil r (Zj (chk (decide (Zx b≤4611686018427387904)) (some (Zh [Zz .i64 (Wz (Yf b n_6 1 false)),Zz .i64 (Xf (Yf b n_6 1 false)),Zz .i64 (Wy (Yf b n_6 1 false))],[]))) (kT fun vs=>cInt .i64 vs fun n_8 r=>cInt .i64 r fun n_9 r=>cInt .i64 r fun n_10 r=>onNil r (Zj (chk (decide (Zx b≤140737488355328)) (some (Zh [Yw (Kerb.GotB.val (Kerb.bytes b n_9 n_5)),Zz .i64 (Kerb.GotB.next (Kerb.bytes b n_9 n_5)),Zz .i64 (Kerb.GotB.err (Kerb.bytes b n_9 n_5))],[]))) (kT fun vs=>cBs vs fun b_2 r=>cInt .i64 r fun n_11 r=>cInt .i64 r fun n_12 r=>onNil r (Zj (chk (decide (Zx b≤140737488355328)) (some (Zh [Yw (Kerb.GotB.val (Kerb.bytes b n_11 n_8)),Zz .i64 (Kerb.GotB.next (Kerb.bytes b n_11 n_8)),Zz .i64 (Kerb.GotB.err (Kerb.bytes b n_11 n_8))],[]))) (kT fun vs=>cBs vs fun b_3 r=>cInt .i64 r fun n_13 r=>cInt .i64 r fun n_14 r=>onNil r (some (Zh [Zf [Zn (Kerb.Head.little (Wg b)),Zn (Kerb.Head.kind (Wg b)==4),Zz .i64 n,Zv b_1,Yw b_2,Yw b_3],Zz .i64 n_13],[]))))))))))))):Option (AV×Blocks))) (by kernel_rfl) ?_
  delta kT
  try dsimp only [cStr,cBs,cBool,cU8,cInt,cSl,l63]
  have hb:=of_decide_eq_true hpre
  have hpre2:decide (b.length≤4611686018427387904)=true:=by simp;omega
  simp only [hpre,hpre2,↓A0,A0]
  rfl
 ·cases h
theorem w62:Walked Tryz.prog G 62 4 sp62:=by
 refine ⟨Tryz.f62,Tryz.func62,by decide +kernel,rfl,fun xs bl r h=> ?_⟩
 unfold sp62 at h
 split at h
 ·rename_i ali b1 b2 b3 aad ak alf ais asv ain x y z ck tc tm src now skw
  cases h
  refine Eq.trans (b:=(sel (!(b1==x&&(b2==y&&b3==z))) (some (Zz .i64 36,[])) (sel (!src==aad) (some (Zz .i64 38,[])) (sel (!Kerb.near tm now skw) (some (Zz .i64 37,[])) (some (Zz .i64 (Kerb.stateErr ais alf now skw),[])))):Option (AV×Blocks))) (by kernel_rfl) ?_
  unfold Kerb.judge
  cases h1:Kerb.Prin.eqb ⟨b1,b2,b3⟩ ⟨x,y,z⟩
  ·have h1':(b1==x&&(b2==y&&b3==z))=false:=h1
   rw [if_pos rfl,h1'];rfl
  have h1':(b1==x&&(b2==y&&b3==z))=true:=h1
  rw [if_neg (by simp),h1',Yj,sel_false]
  by_cases h2:src=aad
  case neg=>rw [sel_pos (by simpa using h2),if_pos h2]
  rw [sel_neg (by simpa using h2),if_neg (by simpa using h2)]
  cases h3:Kerb.near tm now skw
  ·rfl
  ·rw [if_neg (by simp)];rfl
 ·cases h
theorem w69:Walked Tryz.prog G 69 4 sp69:=by
 refine ⟨Tryz.f69,Tryz.func69,by decide +kernel,rfl,fun xs bl r h=> ?_⟩
 unfold sp69 at h
 split at h
 ·rename_i rl els xls now li se wn mo xp cx cy cz ck2 cad ccs ctm ctc cis clf ctk cau
  obtain ⟨hpre,h2⟩:=chk_inv h;cases h2
  refine Eq.trans (b:=(sel (!xp==0) (chk (room (Zx [Zz .i64 (Xg cis clf)]+Zx [Zz .i64 xp]) (nat_lit 8)) (Zj (chk (decide (Zx ([Zz .i64 (Xg cis clf)]++[Zz .i64 xp])≤1000000)&&List.all [Xg cis clf,xp] Kerb.isI64) (some (Zh [Zz .i64 (Yu (Uv now (Wj wn mo) [Xg cis clf,xp])),Zn (Yy (Uv now (Wj wn mo) [Xg cis clf,xp]))],[]))) fun (r:AV×Blocks)=>onNilB (Yy r) (Vd (Yu r) fun vs=>onCons vs fun x r=>Yd .i64 x fun n=>onCons r fun x r=>Wp x fun b=>onNil r (some (Zh [Zz .i64 n,Zn b],[]))))) (Zj (chk (decide (Zx [Zz .i64 (Xg cis clf)]≤1000000)&&List.all [Xg cis clf] Kerb.isI64) (some (Zh [Zz .i64 (Yu (Uv now (Wj wn mo) [Xg cis clf])),Zn (Yy (Uv now (Wj wn mo) [Xg cis clf]))],[]))) fun (r:AV×Blocks)=>onNilB (Yy r) (Vd (Yu r) fun vs=>onCons vs fun x r=>Yd .i64 x fun n=>onCons r fun x r=>Wp x fun b=>onNil r (some (Zh [Zz .i64 n,Zn b],[])))):Option (AV×Blocks))) (by kernel_rfl) ?_
  have e1:=Kerb.tEnd_i64 cis clf
  unfold Kerb.tgsLife Kerb.tgsEnds
  by_cases h:xp=0
  ·rw [sel_neg (by simpa using h),if_pos h]
   have h1:decide (Zx [Zz Zy (Xg cis clf)]≤1000000)=true:=rfl
   simp (config:={maxSteps:=10000000}) only [h1,e1,List.all_cons,List.all_nil,Xv,↓sInt,↓sU8,↓sBool,↓sStr,↓sBs,↓sSl,↓sAgg,↓sTup,↓sCons,↓sNil,↓sNilB,↓sChk,↓sChkBind,↓sSome,↓sOwnL,↓sConsB,↓sOwnB]
  ·rw [sel_pos (by simpa using h),if_neg h,chk_of (by rfl)]
   have h1:decide (Zx ([Zz Zy (Xg cis clf)]++[Zz Zy xp])≤1000000)=true:=rfl
   simp (config:={maxSteps:=10000000}) only [h1,e1,hpre,List.all_cons,List.all_nil,Xv,↓sInt,↓sU8,↓sBool,↓sStr,↓sBs,↓sSl,↓sAgg,↓sTup,↓sCons,↓sNil,↓sNilB,↓sChk,↓sChkBind,↓sSome,↓sOwnL,↓sConsB,↓sOwnB]
 ·cases h
theorem w92:Walked Tryz.prog G 92 4 sp92:=by
 refine ⟨Tryz.f92,Tryz.func92,by decide +kernel,rfl,fun xs bl r h=> ?_⟩
 unfold sp92 at h
 split at h
 ·rename_i li x y z ad k lf iss sv ins
  obtain ⟨hpre,h2⟩:=chk_inv h;cases h2
  refine Eq.trans (b:=(Zj (chk (decide (Zx x≤9223372036854775807)&&decide (Zx y≤9223372036854775807)&&decide (Zx z≤9223372036854775807)) (some (Zn (Xh (Vj x y z)),[]))) fun (r:AV×Blocks)=>onNilB (Yy r) (Wp (Yu r) fun b=>sel (!b) (some (Zz .i64 103,[])) (Zj (chk (decide (Zx sv≤9223372036854775807)) (some (Zn (Vz sv),[]))) fun (r:AV×Blocks)=>onNilB (Yy r) (Wp (Yu r) fun b=>sel (!b) (some (Zz .i64 103,[])) (Zj (chk (decide (Zx ins≤9223372036854775807)) (some (Zn (Vy ins),[]))) fun (r:AV×Blocks)=>onNilB (Yy r) (Wp (Yu r) fun b=>sel (!b) (some (Zz .i64 103,[])) (Zj (chk (decide (0≤k)&&decide (k<18446744073709551616)) (some (Zz .i64 (Kerb.classOf k),[]))) fun (r:AV×Blocks)=>onNilB (Yy r) (Yd .i64 (Yu r) fun n=>sel (!n==2) (some (Zz .i64 10,[])) (sel (!Zb ad 4294967295) (some (Zz .i64 104,[])) (sel (!Zb lf 255) (some (Zz .i64 104,[])) (sel (!Zb iss 4294967295) (some (Zz .i64 104,[])) (some (Zz .i64 0,[])))))))))))):Option (AV×Blocks))) (by kernel_rfl) ?_
  simp only [Xz,decide_eq_true_eq] at hpre
  obtain ⟨⟨⟨⟨⟨⟨h1,h2⟩,h3⟩,h4⟩,h5⟩,h6⟩,h7⟩:=hpre
  simp only [h1,h2,h3,h4,h5,h6,h7,decide_true,Xv,↓A0,A0]
  unfold Kerb.Ticket.err
  dsimp only
  cases Xh ⟨x,y,z⟩
  ·rfl
  cases Vz sv
  ·rfl
  cases Vy ins
  ·rfl
  simp only [Yj,Xv,sel_false]
  by_cases hc:Kerb.classOf k=2
  case neg=>rw [sel_pos (by simpa using hc),if_neg (by simp),if_pos hc]
  rw [sel_neg (by simp [hc]),if_neg (by simp),if_neg (by simp [hc])]
  cases Zb ad 4294967295
  ·rfl
  cases Zb lf 255
  ·rfl
  cases Zb iss 4294967295
  ·rfl
  rfl
 ·cases h
theorem w111:Walked Tryz.prog G 111 4 sp111:=by
 refine ⟨Tryz.f111,Tryz.func111,by decide +kernel,rfl,fun xs bl r h=> ?_⟩
 unfold sp111 at h
 split at h
 ·rename_i b n little
  obtain ⟨hpre,h2⟩:=chk_inv h;cases h2
  refine Eq.trans (b:=(Zj (chk (decide (Zx b≤70368744177664)) (some (Xu (b++Yk n (Zp 4) little),[]))) fun (r:AV×Blocks)=>onNilB (Yy r) (AV.onOwnB (Yu r) fun l=>some (Xu l,[])):Option (AV×Blocks))) (by kernel_rfl) ?_
  simp only [decide_eq_true_eq] at hpre
  simp only [A0]
  rw [chk_of (by simp;omega)]
  rfl
 ·cases h
theorem w112:Walked Tryz.prog G 112 4 sp112:=by
 refine ⟨Tryz.f112,Tryz.func112,by decide +kernel,rfl,fun xs bl r h=> ?_⟩
 unfold sp112 at h
 split at h
 ·rename_i b n
  obtain ⟨hpre,h2⟩:=chk_inv h;cases h2
  refine Eq.trans (b:=(Zj (chk (decide (Zx b≤70368744177664)) (some (Xu (b++Yk n (Zp 1) false),[]))) fun (r:AV×Blocks)=>onNilB (Yy r) (AV.onOwnB (Yu r) fun l=>some (Xu l,[])):Option (AV×Blocks))) (by kernel_rfl) ?_
  simp only [decide_eq_true_eq] at hpre
  simp only [A0]
  rw [chk_of (by simp;omega)]
  rfl
 ·cases h
theorem w136:Walked Tryz.prog G 136 4 sp136:=by
 refine ⟨Tryz.f136,Tryz.func136,by decide +kernel,rfl,fun xs bl r h=> ?_⟩
 unfold sp136 at h
 split at h
 ·rename_i kd k bd
  obtain ⟨hpre,h2⟩:=chk_inv h;cases h2
  refine Eq.trans (b:=(let t0:List UInt8:=[Vk (Zp (Zq .u8 (Int.fdiv (↑(Zx bd):Int) (2 ^ min (Zp 8) (Xq .i64))))),Vk (Zp (Zq .u8 (↑(Zx bd):Int)))];let t1:List UInt8:=Uw (Zp 0) (0:UInt8)++[(66:UInt8),Vk (Zp (Zq .u8 kd))];let t2:Int:=Zq .i64 (12+(↑(Zx bd):Int));sel (!Vx kd) (some (Zh [Yw [],Zz .i64 104],[])) (Zj (chk (decide (0≤k)&&decide (k<18446744073709551616)) (some (Zn (Ym k),[]))) (kL fun b=>sel (!b) (some (Zh [Yw [],Zz .i64 10],[])) (sel (decide ((↑(Zx bd):Int)>1000)) (some (Zh [Yw [],Zz .i64 105],[])) (chk (decide (0≤t2)&&decide (t2≤140737488355328)) (chk (room (Zx (Uw (Zp 0) (0:UInt8))+Zx [(66:UInt8),Vk (Zp (Zq .u8 kd))]) 1) (Zj (chk (decide (0≤k)&&decide (k<18446744073709551616)) (some (Yw (Kerb.keyBytes k),[]))) (kB fun b=>chk (room (Zx t1+Zx b) 1) (chk (room (Zx (t1++b)+Zx t0) 1) (chk (room (Zx (t1++b++t0)+Zx bd) 1) (some (Zh [Yw (t1++b++t0++bd),Zz .i64 0],[]))))))))))):Option (AV×Blocks))) (by kernel_rfl) ?_
  delta kB kL
  try dsimp only [cStr,cBs,cBool,cU8,cInt,cSl,l63]
  simp only [A0,Vh,Uy,Up,hpre]
  unfold Kerb.makeBox
  cases h1:Vx kd
  ·rfl
  rw [Yj,sel_false,if_neg (by simp)]
  cases h2:Ym k
  ·rfl
  rw [Yj,sel_false,if_neg (by simp)]
  by_cases h3:1000<bd.length
  ·rw [sel_pos (by simp;omega),if_pos h3]
  have hk:1≤kd∧kd≤10:=by simp [Vx] at h1;omega
  have lk:=Yv k
  rw [sel_neg (by simp;omega),if_neg h3,wrap_i64 (by omega) (by omega),chk_of (by simp;omega),chk_of (Xk (by simp)),chk_of (Xk (by simp;omega)),chk_of (Xk (by simp;omega)),chk_of (Xk (by simp;omega)),Kerb.two_bytes,Kerb.wrap_u8,Int.emod_eq_of_lt (by omega) (by omega)]
  rfl
 ·cases h
theorem w153:Walked Tryz.prog G 153 4 sp153:=by
 refine ⟨Tryz.f153,Tryz.func153,by decide +kernel,rfl,fun xs bl r h=> ?_⟩
 unfold sp153 at h
 split at h
 ·rename_i s bad
  obtain ⟨hpre,h2⟩:=chk_inv h;cases h2
  refine Eq.trans (b:=(Zj (loopM (fun (st:List AV)=>cStr st fun b r=>cStr r fun b_1 r=>cBool r fun b_2 r=>cInt .i64 r fun n r=>cInt .i64 r fun n_1 r=>let t0:Option (List AV ⊕ Ex×List AV):=some (Ud (Ex.ret,[Zv b,Zv b_1,Zn false,Zz .i64 n,Zz .i64 n_1]));let t1:Bool:=decide (0≤n_1)&&decide (n_1<(↑(Zx b):Int));let t2:Int:=(↑(Xw (Yp b (Zp n_1) (0:UInt8))):Int);onNil r (sel (decide (n_1<n)) (chk t1 (sel (decide (t2<(↑(Xw (33:UInt8)):Int))) t0 (chk t1 (sel (decide (t2>(↑(Xw (126:UInt8)):Int))) t0 (chk t1 (sel (decide (Yg (Yp b (Zp n_1) (0:UInt8)) b_1≥0)) t0 (some (Vp [Zv b,Zv b_1,Zn b_2,Zz .i64 n,Zz .i64 (Zq .i64 (n_1+1))])))))))) (some (Ud (Ww 0,[Zv b,Zv b_1,Zn b_2,Zz .i64 n,Zz .i64 n_1]))))) [Zv s,Zv bad,Zn false,Zz .i64 (↑(Zx s):Int),Zz .i64 0]) fun (r:Ex×List AV)=>cStr (Yy r) fun b r_1=>cStr r_1 fun b r_2=>cBool r_2 fun b r_3=>cInt .i64 r_3 fun n r_4=>cInt .i64 r_4 fun n r_5=>onNil r_5 (exK r.1 (some (Zn b,[])) fun (j:Nat)=>sel (Ux j 0) (some (Zn true,[])) none):Option (AV×Blocks))) (by kernel_rfl) ?_
  try dsimp only [cStr,cBs,cBool,cU8,cInt,cSl,l63]
  simp only [decide_eq_true_eq] at hpre
  refine loop_rounds (fun i:Nat=>[Zv s,Zv bad,Zn false,Zz Zy (s.length:Int),Zz Zy (i:Int)]) (fun i=>i≤s.length∧Vf s bad=Vf (s.drop i) bad) (fun i=>s.length-i)
   (fun r=>∃ i:Nat,r.2=[Zv s,Zv bad,Zn false,Zz Zy (s.length:Int),Zz Zy (i:Int)]∧((r.1 = .ret∧Vf s bad=false)∨(r.1 = .exit 0∧Vf s bad=true))) 0 ⟨Vv _,rfl⟩ rfl ?_ ?_
  ·rintro i ⟨hi,hp⟩
   simp only [A0]
   by_cases hlt:i<s.length
   ·have hc:(decide ((0:Int)≤(i:Int))&&decide ((i:Int)<(s.length:Int)))=true:=by simp;omega
    have hd:=Kerb.drop_all_cons hlt
    rw [sel_pos (by simp;omega),chk_of hc,Xp]
    have hpr:Vf (s.drop i) bad=(Kerb.okB bad (s.getD i 0)&&Vf (s.drop (i+1)) bad):=by rw [hd];rfl
    generalize s.getD i 0=c at *
    by_cases h1:c.toNat<33
    ·rw [sel_pos (by simp;omega)]
     exact ⟨_,rfl,i,rfl,.inl ⟨rfl,by rw [hp,hpr];simp [Kerb.okB,h1]⟩⟩
    rw [sel_neg (by simp;omega),chk_of hc]
    by_cases h2:126<c.toNat
    ·rw [sel_pos (by simp;omega)]
     exact ⟨_,rfl,i,rfl,.inl ⟨rfl,by rw [hp,hpr];simp [Kerb.okB,h2]⟩⟩
    rw [sel_neg (by simp;omega),chk_of hc]
    have h4:=Kerb.indexOf_nonneg c bad
    by_cases h3:c∈bad
    ·rw [sel_pos (by simpa using h4.2 h3)]
     exact ⟨_,rfl,i,rfl,.inl ⟨rfl,by rw [hp,hpr];simp [Kerb.okB,h3]⟩⟩
    rw [sel_neg (by have:=mt h4.1 h3;simp;omega),wrap_i64 (by omega) (by omega)]
    exact ⟨_,rfl,i+1,rfl,⟨by omega,by rw [hp,hpr];simp [Kerb.okB,h1,h2,h3]⟩,by dsimp only;omega⟩
   ·rw [sel_neg (by simp;omega)]
    exact ⟨_,rfl,i,rfl,.inr ⟨rfl,by rw [hp,List.drop_eq_nil_of_le (by omega)];rfl⟩⟩
  ·rintro ⟨e,l⟩ ⟨i,rfl,⟨rfl,hp⟩ | ⟨rfl,hp⟩⟩
   ·simp only [A0,hp]
   ·simp only [A0,hp]
    rfl
 ·cases h
theorem w163:Walked Tryz.prog G 163 4 sp163:=by
 refine ⟨Tryz.f163,Tryz.func163,by decide +kernel,rfl,fun xs bl r h=> ?_⟩
 unfold sp163 at h
 split at h
 ·rename_i b x y z
  obtain ⟨hpre,h2⟩:=chk_inv h;cases h2
  refine Eq.trans (b:=(Zj (chk (decide (Zx b+Zx x≤70368744177664)) (some (Yw (Xn b x),[]))) fun (r:AV×Blocks)=>onNilB (Yy r) (AV.onBs (Yu r) fun b=>Zj (chk (decide (Zx b+Zx y≤70368744177664)) (some (Yw (Xn b y),[]))) fun (r:AV×Blocks)=>onNilB (Yy r) (AV.onBs (Yu r) fun b=>Zj (chk (decide (Zx b+Zx z≤70368744177664)) (some (Yw (Xn b z),[]))) fun (r:AV×Blocks)=>onNilB (Yy r) (AV.onBs (Yu r) fun b=>some (Yw b,[])))):Option (AV×Blocks))) (by kernel_rfl) ?_
  simp only [decide_eq_true_eq] at hpre
  simp only [A0]
  rw [chk_of (by simp;omega),chk_of (by simp [Xn];omega),chk_of (by simp [Xn];omega)]
  rfl
 ·cases h
theorem w166:Walked Tryz.prog G 166 4 sp166:=by
 refine ⟨Tryz.f166,Tryz.func166,by decide +kernel,rfl,fun xs bl r h=> ?_⟩
 unfold sp166 at h
 split at h
 ·rename_i b
  obtain ⟨hpre,h2⟩:=chk_inv h;cases h2
  refine Eq.trans (b:=(sel (!(↑(Zx b):Int)==8) (some (Zh [Zz .u64 0,Zn false],[])) (Zj (loopM (fun (st:List AV)=>cInt .u64 st fun n r=>cBs r fun b r=>cInt .i64 r fun n_1 r=>cInt .i64 r fun n_2 r=>onNil r (sel (decide (n_2<n_1)) (chk (decide (0≤n_2)&&decide (n_2<(↑(Zx b):Int))) (some (Vp [Zz .u64 (Zq .u64 (↑(BitVec.toNat (BitVec.ofInt (Xq .u64) (Zq .u64 (n*2 ^ min (Zp 8) (Xq .u64))) ||| BitVec.ofInt (Xq .u64) (Zq .u64 (↑(Xw (Yp b (Zp n_2) (0:UInt8))):Int)))):Int)),Yw b,Zz .i64 n_1,Zz .i64 (Zq .i64 (n_2+1))]))) (some (Ud (Ww 0,[Zz .u64 n,Yw b,Zz .i64 n_1,Zz .i64 n_2]))))) [Zz .u64 0,Yw b,Zz .i64 (↑(Zx b):Int),Zz .i64 0]) fun (r:Ex×List AV)=>cInt .u64 (Yy r) fun n r_1=>cBs r_1 fun b r_2=>cInt .i64 r_2 fun n_1 r_3=>cInt .i64 r_3 fun n_2 r_4=>onNil r_4 (exK r.1 none fun (j:Nat)=>sel (Ux j 0) (Zj (chk (decide (0≤n)&&decide (n<18446744073709551616)) (some (Zn (Ym n),[]))) (kL fun b=>sel (!b) (some (Zh [Zz .u64 0,Zn false],[])) (some (Zh [Zz .u64 n,Zn true],[])))) none)):Option (AV×Blocks))) (by kernel_rfl) ?_
  delta kL
  try dsimp only [cStr,cBs,cBool,cU8,cInt,cSl,l63]
  have hb:=of_decide_eq_true hpre
  unfold Kerb.keyRead
  by_cases h8:b.length=8
  case neg =>
   rw [sel_pos (by simp;omega),if_neg (by omega)]
  rw [sel_neg (by simp [h8])]
  refine loop_rounds (fun i:Nat=>[Zz Yq (Kerb.valB (b.take i)),Yw b,Zz Zy (b.length:Int),Zz Zy (i:Int)]) (fun i=>i≤8) (fun i=>8-i)
   (fun r=>r=(Ww 0,[Zz Yq (Kerb.valB b),Yw b,Zz Zy (b.length:Int),Zz Zy 8])) 0 (by omega) rfl ?_ ?_
  ·intro i hi
   simp only [A0]
   by_cases hlt:i<8
   ·have hv:=Kerb.valB_take (l:=b) (i:=i) (by omega)
    have hbd:=Kerb.valB_bd7 (l:=b.take i) (by simp;omega)
    rw [sel_pos (by simp;omega),chk_of (by simp;omega),Xp,Kerb.shl8_oru _ hbd.1 hbd.2,wrap_i64 (by omega) (by omega),← hv]
    exact ⟨_,rfl,i+1,rfl,by omega,by dsimp only;omega⟩
   ·rw [sel_neg (by simp;omega)]
    refine ⟨_,rfl,?_⟩
    show _=_
    rw [List.take_of_length_le (by omega),show i=8 from by omega]
    rfl
  rintro r rfl
  have hbd:=Kerb.valB_bd8 (l:=b) (by omega)
  simp only [A0]
  rw [sel_pos (Wd _),chk_of (by simp;omega)]
  cases hv:Ym (Kerb.valB b)
  ·rw [if_neg (by simp)]
   rfl
  ·rw [if_pos ⟨h8,rfl⟩]
   rfl
 ·cases h
theorem w168:Walked Tryz.prog G 168 4 sp168:=by
 refine ⟨Tryz.f168,Tryz.func168,by decide +kernel,rfl,fun xs bl r h=> ?_⟩
 unfold sp168 at h
 split at h
 ·rename_i rl els n i now bit xp br
  obtain ⟨hpre,h2⟩:=chk_inv h;cases h2
  refine Eq.trans (b:=(Zj (chk (List.all els Kerb.isEntry&&decide (Zx els≤1000000)) (some (Zh [Zz .i64 (Yu (Vu (List.map Kerb.toEntry els) n i)),Zz .i64 (Yy (Vu (List.map Kerb.toEntry els) n i))],[]))) (kT fun vs=>cInt .i64 vs fun n r=>cInt .i64 r fun n_1 r=>onNil r (sel (!n_1==0) (some (Zh [Zz .i64 0,Zz .i64 n_1],[])) (chk (decide (0≤n)&&decide (n<(↑(Zx els):Int))&&true) (Wu (Yp els (Zp n) Xy) fun cs=>cStr cs fun b r=>cStr r fun b r=>cInt .u64 r fun n_2 r=>cInt .i64 r fun n_3 r=>cInt .i64 r fun n_4 r=>cInt .i64 r fun n_5 r=>cInt .i64 r fun n_6 r=>let t0:Option (AV×Blocks):=sel (!Zq .i64 (↑(BitVec.toNat (BitVec.ofInt (Xq .i64) n_6 &&& BitVec.ofInt (Xq .i64) bit)):Int)==0) (some (Zh [Zz .i64 0,Zz .i64 br],[])) (some (Zh [Zz .i64 n,Zz .i64 0],[]));cInt .i64 r fun n r=>cInt .i64 r fun n r=>onNil r (Zj (chk (decide (0≤n_2)&&decide (n_2<18446744073709551616)) (some (Zn (Ym n_2),[]))) (kL fun b=>sel (!b) (some (Zh [Zz .i64 0,Zz .i64 10],[])) (sel (!n_4==0) (sel (decide (n_4≤now)) (some (Zh [Zz .i64 0,Zz .i64 xp],[])) t0) t0))))))):Option (AV×Blocks))) (by kernel_rfl) ?_
  delta kT kL
  try dsimp only [cStr,cBs,cBool,cU8,cInt,cSl,l63]
  simp only [Xz,decide_eq_true_eq] at hpre
  obtain ⟨hall,hlen⟩:=hpre
  obtain ⟨es,rfl,hok⟩:=Kerb.ents_of hall
  simp only [hall,hlen,Kerb.map_toEntry,decide_true,Xv,↓A0,A0]
  unfold Kerb.useEnt
  dsimp only
  have hf:=Kerb.find_count (es:=es) (n:=n) (i:=i)
  generalize Vu es n i=F at hf
  obtain ⟨j,e⟩:=F
  dsimp only at hf ⊢
  by_cases he:e=0
  case neg=>rw [sel_pos (by simpa using he),if_pos he]
  obtain ⟨_,f2,f3⟩:=hf he
  subst f2
  rw [sel_neg (by simpa using he),if_neg (by simpa using he),chk_of (by simp only [Xx,Bool.and_true,Xz,decide_eq_true_eq];omega),Xp,Kerb.getD_ent f3]
  have hx:=hok _ (Kerb.ent_mem f3)
  generalize es.getD (es.findIdx (Kerb.Entry.named n i)) Kerb.noEntry=x at hx
  obtain ⟨_,_,x3,_⟩:=hx
  have h4:(decide (0≤x.key)&&decide (x.key<18446744073709551616))=true:=x3
  simp only [Zk,↓A0,A0,h4]
  cases hk:Ym x.key
  ·rfl
  simp only [Yj,Bool.not_false,sel_true,sel_false]
  rw [if_neg (by simp)]
  have hb:Zq .i64 (BitVec.toNat (BitVec.ofInt (Xq .i64) x.attr &&& BitVec.ofInt (Xq .i64) bit):Int)=Kerb.bitOf x.attr bit:=rfl
  rw [hb]
  by_cases h1:x.expires=0
  ·rw [sel_neg (by simp [h1]),if_neg (by simp [h1])]
   by_cases h2:Kerb.bitOf x.attr bit=0
   ·rw [sel_neg (by simp [h2]),if_neg (by simp [h2])]
   ·rw [sel_pos (by simpa using h2),if_pos h2]
  ·rw [sel_pos (by simpa using h1)]
   by_cases h3:x.expires≤now
   ·rw [sel_pos (by simpa using h3),if_pos ⟨h1,h3⟩]
   ·rw [sel_neg (by simpa using h3),if_neg (by simp [h3])]
    by_cases h2:Kerb.bitOf x.attr bit=0
    ·rw [sel_neg (by simp [h2]),if_neg (by simp [h2])]
    ·rw [sel_pos (by simpa using h2),if_pos h2]
 ·cases h
theorem w174:Walked Tryz.prog G 174 4 sp174:=by
 refine ⟨Tryz.f174,Tryz.func174,by decide +kernel,rfl,fun xs bl r h=> ?_⟩
 unfold sp174 at h
 split at h
 ·rename_i b n little
  obtain ⟨hpre,h2⟩:=chk_inv h;cases h2
  refine Eq.trans (b:=(Zj (chk (decide (Zx b≤70368744177664)) (some (Xu (b++Yk n (Zp 2) little),[]))) fun (r:AV×Blocks)=>onNilB (Yy r) (AV.onOwnB (Yu r) fun l=>some (Xu l,[])):Option (AV×Blocks))) (by kernel_rfl) ?_
  simp only [decide_eq_true_eq] at hpre
  simp only [A0]
  rw [chk_of (by simp;omega)]
  rfl
 ·cases h
theorem w175:Walked Tryz.prog G 175 4 sp175:=by
 refine ⟨Tryz.f175,Tryz.func175,by decide +kernel,rfl,fun xs bl r h=> ?_⟩
 unfold sp175 at h
 split at h
 ·rename_i x y z ck tc tm
  obtain ⟨hpre,h2⟩:=chk_inv h;cases h2
  refine Eq.trans (b:=(Zj (chk (decide (Zx x≤9223372036854775807)&&decide (Zx y≤9223372036854775807)&&decide (Zx z≤9223372036854775807)) (some (Zn (Xh (Vj x y z)),[]))) fun (r:AV×Blocks)=>onNilB (Yy r) (Wp (Yu r) fun b=>sel (!b) (some (Zz .i64 103,[])) (sel (!Zb ck 4294967295) (some (Zz .i64 104,[])) (sel (!Zb tc 199) (some (Zz .i64 104,[])) (sel (!Zb tm 4294967295) (some (Zz .i64 104,[])) (some (Zz .i64 0,[])))))):Option (AV×Blocks))) (by kernel_rfl) ?_
  simp only [A0,Vh,Uy,Up,hpre]
  unfold Kerb.Auth.check
  simp only
  cases Xh ⟨x,y,z⟩
  ·rfl
  cases Zb ck 4294967295
  ·rfl
  cases Zb tc 199
  ·rfl
  cases Zb tm 4294967295<;>rfl
 ·cases h
end Go.Proofs.YtmdppipjjnfanaaGreatDoor
