/- What the functions of this seat compute. -/
import Derived.Test.YtmpklfnpjhdjeaaGreatDoorTab
import Derived.Test.YtmpklfnpjhdjeaaGreatDoorKerbPlain
import Derived.Test.YtmpklfnpjhdjeaaGreatDoorAbsStep
import Derived.Test.YtmpklfnpjhdjeaaGreatDoorKerbCli3
import Derived.Test.YtmpklfnpjhdjeaaGreatDoorKerbCli4
import Derived.Test.YtmpklfnpjhdjeaaGreatDoorKerbCli5
import Derived.Test.YtmpklfnpjhdjeaaGreatDoorKerbSrvL
import Derived.Test.YtmpklfnpjhdjeaaGreatDoorKerbKac2
import Derived.Test.YtmpklfnpjhdjeaaGreatDoorKerbKac4
import Derived.Test.YtmpklfnpjhdjeaaGreatDoorKerbSrvB
import Derived.Test.YtmpklfnpjhdjeaaGreatDoorKerbVerL
import Derived.Test.YtmpklfnpjhdjeaaGreatDoorKerbVerL
import Derived.Test.YtmpklfnpjhdjeaaGreatDoorKerbAuthL
import Derived.Test.YtmpklfnpjhdjeaaGreatDoorKerbGrtL
open Go.Abs.AV renaming int→Zz,str→Zw,agg→Zd,bool→Zg,tup→Zh,bs→Yw,onInt→Yu,sl→Yq,ownL→Yf,undef→Yn,ownB→Xf,onAgg→Wx,onBool→Wq,u8→Wm,onOwnL→Wh,onTup→Vb
open Go.IntKind renaming i64→Zy,wrap→Zq,u64→Yv,bits→Xb
open Kerb renaming service→Zx,user→Zu,simpleEnt→Zp,u8i→Zb,within→Zm,get→Yx,indexOf→Yj,long→Yk,putN_len→Yp,putN→Yg,keyValid→Xz,tEnd→Xn,putText_len→Xm,room_ok→Xh,putText→Wz,noCross→Wy,imin→Wu,validName→Wp,validInst→Wd,printable→Wf,bfd→Wn,crossKeys→Vz,bytes→Vy,putPrin_len→Vv,findEnt→Vu,rdPrin→Vf,crossStep→Vg,getD_row→Vh,crossKey→Uz,headIs→Ux,grantLife→Uk,u8i_bd→Up,isKind→Ud,header→Uf,byteAt→Ug,bfd_eq→Ub,encodeAp→Uh
open List renaming length→Zv,getD→Yb,length_map→Ym,append→Xg,range_succ→Vq,take→Vd,length_cons→Vn,drop→Vm,length_nil→Uw,replicate→Uj
open Option renaming bind→Zj
open Kerb.Entry renaming av→Zk
open Int renaming toNat→Zf,tmod→Yh,toNat_natCast→Xd,tmod_eq_emod_of_nonneg→Vw
open Prod renaming snd→Zn,fst→Yz
open Kerb.Cross renaming av→Yy
open Kerb.Got renaming err→Yd,next→Xu,val→Xp
open Bool renaming not_true→Xy,and_self→Xx,and_eq_true→Xw
open Kerb.Prin renaming realm→Xv,name→Xj,inst→Xk,valid→Wg,mk→Vj
open UInt8 renaming toNat→Xq,ofNat→Vk
open Go.Abs.Ex renaming exit→Ww
open Kerb.SKey renaming av→Wv
open Kerb.Case renaming mk→Wj,me→Wk
open Nat renaming beq_refl→Wb,zero_le→Vx,beq→Uu
open Sum renaming inl→Vp,inr→Um
open Kerb.Client renaming av→Uy
open Kerb.Cache renaming av→Uv
open Kerb.GotB renaming err→Uq
open Kerb.Cred renaming av→Un
namespace Go.Proofs.YtmpklfnpjhdjeaaGreatDoor
open Go Go.Abs Go.Proofs
set_option linter.unusedVariables false
set_option linter.unusedSimpArgs false
set_option maxRecDepth 100000
theorem w47:Walked Tryz.prog G 47 3 sp47:=by
 refine ⟨Tryz.f47,Tryz.func47,by decide +kernel,rfl,fun xs bl r h=> ?_⟩
 unfold sp47 at h
 split at h
 ·rename_i b pos
  obtain ⟨hpre,h2⟩:=chk_inv h;cases h2
  refine Eq.trans (b:=(let t5:List UInt8:=Vm (Zf pos) (Vd (Zf (↑(Zv b):Int)) b);let t6:Option (AV×Blocks):=some (Zh [Zw [],Zz .i64 0,Zz .i64 105],[]);let t7:Option (AV×Blocks):=some (Zh [Zw [],Zz .i64 0,Zz .i64 101],[]);let t1:Int:=Yj (0:UInt8) t5;let t2:Int:=(↑(Zv t5):Int);let t4:List UInt8:=Vm (Zf (↑(0:Nat):Int)) (Vd (Zf 40) t5);let t0:Int:=Yj (0:UInt8) t4;let t3:Int:=(↑(Zv t4):Int);Zj (chk (decide (Zv b≤4611686018427387904)) (some (Zz .i64 (Kerb.room b pos 0),[]))) (kI .i64 fun n=>sel (!n==0) (some (Zh [Zw [],Zz .i64 0,Zz .i64 n],[])) (chk (decide (0≤pos)&&decide (pos≤(↑(Zv b):Int))&&decide ((↑(Zv b):Int)≤(↑(Zv b):Int))) (sel (decide (t2>40)) (chk (decide (40≤t2)) (sel (decide (t0≥0)) (chk (decide ((↑(0:Nat):Int)≤t0)&&decide (t0≤t3)) (some (Zh [Zw (Vm (Zf (↑(0:Nat):Int)) (Vd (Zf t0) t4)),Zz .i64 (Zq .i64 (Zq .i64 (pos+t0)+1)),Zz .i64 0],[]))) (sel (t3==40) t6 t7))) (sel (decide (t1≥0)) (chk (decide ((↑(0:Nat):Int)≤t1)&&decide (t1≤t2)) (some (Zh [Zw (Vm (Zf (↑(0:Nat):Int)) (Vd (Zf t1) t5)),Zz .i64 (Zq .i64 (Zq .i64 (pos+t1)+1)),Zz .i64 0],[]))) (sel (t2==40) t6 t7))))):Option (AV×Blocks))) (by kernel_rfl) ?_
  delta kI
  try dsimp only [cStr,cBs,cBool,cU8,cInt,cSl,l63]
  simp only [decide_eq_true_eq] at hpre
  simp only [A0]
  rw [chk_of (by simpa using hpre)]
  have ht:(Vd (Zf (b.length:Int)) b)=b:=by simp
  rw [ht]
  unfold Kerb.text
  by_cases hr:Kerb.room b pos 0=0
  case neg =>
   have h104:Kerb.room b pos 0=104:=by
    unfold Kerb.room at hr ⊢
    split at hr
    ·rw [if_pos (by assumption)]
    ·split at hr<;>omega
   rw [sel_pos (by simpa using hr),if_neg hr,h104]
  obtain ⟨q1,q2,_,_⟩:=Kerb.room_zero.1 hr
  rw [sel_neg (by simp [hr]),if_pos hr,chk_of (by simp;omega)]
  obtain ⟨R,hR⟩:∃ R,R=b.drop pos.toNat:=⟨_,rfl⟩
  have hRl:R.length=b.length-pos.toNat:=by rw [hR];simp
  rw [← hR]
  obtain ⟨T,hT⟩:∃ T,T=R.take 40:=⟨_,rfl⟩
  have hix:=Kerb.indexOf_bd 0 T
  have key:(sel (decide (Yj (0:UInt8) T≥(0:Int)))
    (chk (decide (((0:Nat):Int)≤Yj (0:UInt8) T)&&decide (Yj (0:UInt8) T≤(T.length:Int)))
     (some (Zh [Zw (Vm (Zf ((0:Nat):Int)) (Vd (Zf (Yj (0:UInt8) T)) T)),Zz Zy (Zq Zy (Zq Zy (pos+Yj (0:UInt8) T)+(1:Int))),Zz Zy (0:Int)],([]:Blocks))))
    (sel (((T.length:Int))==(40:Int)) (some (Zh [Zw [],Zz Zy (0:Int),Zz Zy (105:Int)],[]))
     (some (Zh [Zw [],Zz Zy (0:Int),Zz Zy (101:Int)],[])))) =
    some (Zh [Zw (if 0≤Yj 0 T then (⟨T.take (Yj 0 T).toNat,pos+Yj 0 T+1,0⟩:Kerb.GotB) else if T.length=40 then ⟨[],0,105⟩ else ⟨[],0,101⟩).val,
     Zz Zy (if 0≤Yj 0 T then (⟨T.take (Yj 0 T).toNat,pos+Yj 0 T+1,0⟩:Kerb.GotB) else if T.length=40 then ⟨[],0,105⟩ else ⟨[],0,101⟩).next,
     Zz Zy (if 0≤Yj 0 T then (⟨T.take (Yj 0 T).toNat,pos+Yj 0 T+1,0⟩:Kerb.GotB) else if T.length=40 then ⟨[],0,105⟩ else ⟨[],0,101⟩).err],[]):=by
   have hTl:T.length≤b.length-pos.toNat:=by rw [hT];simp;omega
   by_cases hi:0≤Yj 0 T
   ·rw [sel_pos (by simpa using hi),chk_of (by simp;omega),if_pos hi,wrap_i64 (n:=pos+Yj 0 T) (by omega) (by omega),wrap_i64 (by omega) (by omega)]
    rfl
   ·rw [sel_neg (by simp;omega),if_neg hi]
    by_cases h40:T.length=40
    ·rw [sel_pos (by simp [h40]),if_pos h40]
    ·rw [sel_neg (by simp;omega),if_neg h40]
  by_cases hlong:40<R.length
  ·rw [sel_pos (by simp;omega),chk_of (by simp;omega)]
   have e1:Vm (Zf ((0:Nat):Int)) (Vd (Zf (40:Int)) R)=T:=by rw [hT];rfl
   rw [e1]
   rw [← hT]
   exact key
  ·rw [sel_neg (by simp;omega)]
   have e1:R=T:=by rw [hT,List.take_of_length_le (by omega)]
   rw [← hT,e1]
   exact key
 ·cases h
theorem w61:Walked Tryz.prog G 61 3 sp61:=by
 refine ⟨Tryz.f61,Tryz.func61,by decide +kernel,rfl,fun xs bl r h=> ?_⟩
 unfold sp61 at h
 split at h
 ·rename_i k
  obtain ⟨hpre,h2⟩:=chk_inv h;cases h2
  refine Eq.trans (b:=(Zj (chk (decide (0≤k)&&decide (k<18446744073709551616)) (some (Zh [Zz .i64 (bif Xz k then Kerb.keyClass k else 0),Zz .i64 (bif Xz k then Kerb.keySerial k else 0),Zg (Xz k)],[]))) fun (r:AV×Blocks)=>onNilB (Zn r) (Vb (Yz r) fun vs=>onCons vs fun x r=>Yu .i64 x fun n=>onCons r fun x r=>Yu .i64 x fun n_1=>onCons r fun x r=>Wq x fun b=>onNil r (some (Zz .i64 n,[]))):Option (AV×Blocks))) (by kernel_rfl) ?_
  simp only [hpre,↓A0,A0]
  rfl
 ·cases h
theorem w66:Walked Tryz.prog G 66 3 sp66:=by
 refine ⟨Tryz.f66,Tryz.func66,by decide +kernel,rfl,fun xs bl r h=> ?_⟩
 unfold sp66 at h
 split at h
 ·rename_i b pos little
  obtain ⟨hpre,h2⟩:=chk_inv h;cases h2
  refine Eq.trans (b:=(Zj (chk (decide (Zv b≤140737488355328)&&true&&true) (some (Zh [Zz .i64 (Xp (Yx b pos 4 little)),Zz .i64 (Xu (Yx b pos 4 little)),Zz .i64 (Yd (Yx b pos 4 little))],[]))) fun (r:AV×Blocks)=>onNilB (Zn r) (Vb (Yz r) fun vs=>onCons vs fun x r=>Yu .i64 x fun n=>onCons r fun x r=>Yu .i64 x fun n_1=>onCons r fun x r=>Yu .i64 x fun n_2=>onNil r (some (Zh [Zz .i64 n,Zz .i64 n_1,Zz .i64 n_2],[]))):Option (AV×Blocks))) (by kernel_rfl) ?_
  simp only [A0]
  rw [chk_of (by rw [hpre];rfl)]
 ·cases h
theorem w68:Walked Tryz.prog G 68 3 sp68:=by
 refine ⟨Tryz.f68,Tryz.func68,by decide +kernel,rfl,fun xs bl r h=> ?_⟩
 unfold sp68 at h
 split at h
 ·rename_i b pos
  obtain ⟨hpre,h2⟩:=chk_inv h;cases h2
  refine Eq.trans (b:=(Zj (chk (decide (Zv b≤140737488355328)&&true&&true) (some (Zh [Zz .i64 (Xp (Yx b pos 1 false)),Zz .i64 (Xu (Yx b pos 1 false)),Zz .i64 (Yd (Yx b pos 1 false))],[]))) fun (r:AV×Blocks)=>onNilB (Zn r) (Vb (Yz r) fun vs=>onCons vs fun x r=>Yu .i64 x fun n=>onCons r fun x r=>Yu .i64 x fun n_1=>onCons r fun x r=>Yu .i64 x fun n_2=>onNil r (some (Zh [Zz .i64 n,Zz .i64 n_1,Zz .i64 n_2],[]))):Option (AV×Blocks))) (by kernel_rfl) ?_
  simp only [A0]
  rw [chk_of (by rw [hpre];rfl)]
 ·cases h
theorem w69:Walked Tryz.prog G 69 3 sp69:=by
 refine ⟨Tryz.f69,Tryz.func69,by decide +kernel,rfl,fun xs bl r h=> ?_⟩
 unfold sp69 at h
 split at h
 ·rename_i b pos little
  obtain ⟨hpre,h2⟩:=chk_inv h;cases h2
  refine Eq.trans (b:=(Zj (chk (decide (Zv b≤140737488355328)&&true&&true) (some (Zh [Zz .i64 (Xp (Yx b pos 2 little)),Zz .i64 (Xu (Yx b pos 2 little)),Zz .i64 (Yd (Yx b pos 2 little))],[]))) fun (r:AV×Blocks)=>onNilB (Zn r) (Vb (Yz r) fun vs=>onCons vs fun x r=>Yu .i64 x fun n=>onCons r fun x r=>Yu .i64 x fun n_1=>onCons r fun x r=>Yu .i64 x fun n_2=>onNil r (some (Zh [Zz .i64 n,Zz .i64 n_1,Zz .i64 n_2],[]))):Option (AV×Blocks))) (by kernel_rfl) ?_
  simp only [A0]
  rw [chk_of (by rw [hpre];rfl)]
 ·cases h
theorem w71:Walked Tryz.prog G 71 3 sp71:=by
 refine ⟨Tryz.f71,Tryz.func71,by decide +kernel,rfl,fun xs bl r h=> ?_⟩
 unfold sp71 at h
 split at h
 ·rename_i a b c
  obtain ⟨hpre,h2⟩:=chk_inv h;cases h2
  refine Eq.trans (b:=(Zj (chk (decide (Zv a≤9223372036854775807)) (some (Zg (Wp a),[]))) fun (r:AV×Blocks)=>onNilB (Zn r) (Wq (Yz r) fun b_1=>sel b_1 (Zj (chk (decide (Zv b≤9223372036854775807)) (some (Zg (Wd b),[]))) fun (r:AV×Blocks)=>onNilB (Zn r) (Wq (Yz r) fun b=>sel b (Zj (chk (decide (Zv c≤9223372036854775807)) (some (Zg (Kerb.validRealm c),[]))) fun (r:AV×Blocks)=>onNilB (Zn r) (Wq (Yz r) fun b=>some (Zg b,[]))) (some (Zg false,[])))) (some (Zg false,[]))):Option (AV×Blocks))) (by kernel_rfl) ?_
  simp only [Xw,decide_eq_true_eq] at hpre
  simp only [A0]
  rw [chk_of (by simp;omega),chk_of (by simp;omega),chk_of (by simp;omega)]
  simp only [Wg]
  cases Wp a<;>cases Wd b<;>rfl
 ·cases h
theorem w80:Walked Tryz.prog G 80 3 sp80:=by
 refine ⟨Tryz.f80,Tryz.func80,by decide +kernel,rfl,fun xs bl r h=> ?_⟩
 unfold sp80 at h
 split at h
 ·rename_i li mu kv rl tk au
  obtain ⟨hpre,h2⟩:=chk_inv h;cases h2
  refine Eq.trans (b:=(Zj (chk (l63 rl) (some (Zg (Kerb.validRealm rl),[]))) (kL fun b=>sel (!b) (some (Zh [Yw [],Zz .i64 103],[])) (sel (!Zm kv 255) (some (Zh [Yw [],Zz .i64 104],[])) (sel (decide ((↑(Zv tk):Int)>255)) (some (Zh [Yw [],Zz .i64 105],[])) (sel (decide ((↑(Zv au):Int)>255)) (some (Zh [Yw [],Zz .i64 105],[])) (sel mu (Zj (chk (decide (Zv (Uf 4 li)≤70368744177664)) (some (Xf (Uf 4 li++Yg kv 1 false),[]))) (kO fun l=>Zj (chk (decide (Zv l+Zv rl≤70368744177664)) (some (Yw (Wz l rl),[]))) (kB fun b=>Zj (chk (decide (Zv b≤70368744177664)) (some (Xf (b++Yg (↑(Zv tk):Int) 1 false),[]))) (kO fun l=>Zj (chk (decide (Zv l≤70368744177664)) (some (Xf (l++Yg (↑(Zv au):Int) 1 false),[]))) (kO fun l=>chk (room (Zv l+Zv tk) 1) (chk (room (Zv (l++tk)+Zv au) 1) (some (Zh [Yw (l++tk++au),Zz .i64 0],[])))))))) (Zj (chk (decide (Zv (Uf 3 li)≤70368744177664)) (some (Xf (Uf 3 li++Yg kv 1 false),[]))) (kO fun l=>Zj (chk (decide (Zv l+Zv rl≤70368744177664)) (some (Yw (Wz l rl),[]))) (kB fun b=>Zj (chk (decide (Zv b≤70368744177664)) (some (Xf (b++Yg (↑(Zv tk):Int) 1 false),[]))) (kO fun l=>Zj (chk (decide (Zv l≤70368744177664)) (some (Xf (l++Yg (↑(Zv au):Int) 1 false),[]))) (kO fun l=>chk (room (Zv l+Zv tk) 1) (chk (room (Zv (l++tk)+Zv au) 1) (some (Zh [Yw (l++tk++au),Zz .i64 0],[]))))))))))))):Option (AV×Blocks))) (by kernel_rfl) ?_
  delta kB kO kL
  try dsimp only [cStr,cBs,cBool,cU8,cInt,cSl,l63]
  simp only [A0,Uy,Uv,Un,hpre]
  unfold Uh
  simp only
  cases h1:Kerb.validRealm rl
  ·rfl
  rw [Xy,sel_false,if_neg (by simp)]
  cases h2:Zm kv 255
  ·rfl
  rw [Xy,sel_false,if_neg (by simp)]
  by_cases h3:255<tk.length
  ·rw [sel_pos (by simp;omega),if_pos (.inl h3)]
  rw [sel_neg (by simp;omega)]
  by_cases h4:255<au.length
  ·rw [sel_pos (by simp;omega),if_pos (.inr h4)]
  rw [sel_neg (by simp;omega),if_neg (by omega)]
  have l1:=Kerb.validRealm_len h1
  have g3:=Kerb.header_len 3 li
  have g4:=Kerb.header_len 4 li
  cases mu
  ·rw [sel_false,chk_of (by simp;omega),chk_of (by simp [Yp];omega),chk_of (by simp [Yp,Xm];omega),chk_of (by simp [Yp,Xm];omega),chk_of (Xh (by simp [Yp,Xm];omega)),chk_of (Xh (by simp [Yp,Xm];omega))]
   rfl
  ·rw [sel_true,chk_of (by simp;omega),chk_of (by simp [Yp];omega),chk_of (by simp [Yp,Xm];omega),chk_of (by simp [Yp,Xm];omega),chk_of (Xh (by simp [Yp,Xm];omega)),chk_of (Xh (by simp [Yp,Xm];omega))]
   rfl
 ·cases h
theorem w99:Walked Tryz.prog G 99 3 sp99:=by
 refine ⟨Tryz.f99,Tryz.func99,by decide +kernel,rfl,fun xs bl r h=> ?_⟩
 unfold sp99 at h
 split at h
 ·rename_i b s
  obtain ⟨hpre,h2⟩:=chk_inv h;cases h2
  refine Eq.trans (b:=(Zj (chk (decide (Zv (Xg b (Xg s ((0:UInt8)::Xg [] [])))≤140737488355328)&&decide (Zv [Yw b,Yw s,Yw [(0:UInt8)]]≤1000)) (some (Xf (Xg b (Xg s ((0:UInt8)::Xg [] []))),[]))) fun (r:AV×Blocks)=>onNilB (Zn r) (AV.onOwnB (Yz r) fun l=>some (Yw l,[])):Option (AV×Blocks))) (by kernel_rfl) ?_
  simp only [decide_eq_true_eq] at hpre
  simp only [A0]
  rw [chk_of (by simp;omega)]
  simp [Wz]
 ·cases h
theorem w104:Walked Tryz.prog G 104 3 sp104:=by
 refine ⟨Tryz.f104,Tryz.func104,by decide +kernel,rfl,fun xs bl r h=> ?_⟩
 unfold sp104 at h
 split at h
 ·rename_i kls x y z v
  obtain ⟨hpre,h2⟩:=chk_inv h;cases h2
  refine Eq.trans (b:=(Zj (chk (List.all kls Kerb.isSKey&&decide (Zv kls≤1000000)) (some (Zz .i64 (↑(Kerb.skAt (List.map Kerb.toSKey kls) (Vj x y z) v):Int),[]))) fun (r:AV×Blocks)=>onNilB (Zn r) (Yu .i64 (Yz r) fun n=>sel (n==(↑(Zv kls):Int)) (some (Zh [Zz .u64 0,Zg false],[])) (chk (decide (0≤n)&&decide (n<(↑(Zv kls):Int))&&true) (Wx (Yb kls (Zf n) Yn) fun cs=>onCons cs fun x r=>AV.onStr x fun b=>onCons r fun x r=>AV.onStr x fun b=>onCons r fun x r=>AV.onStr x fun b=>onCons r fun x r=>Yu .i64 x fun n=>onCons r fun x r=>Yu .u64 x fun n=>onNil r (some (Zh [Zz .u64 n,Zg true],[]))))):Option (AV×Blocks))) (by kernel_rfl) ?_
  simp only [Xw,decide_eq_true_eq] at hpre
  obtain ⟨hall,hlen⟩:=hpre
  obtain ⟨cs,rfl,hok⟩:=Kerb.skeys_of hall
  simp only [Kerb.map_toSKey,Ym,↓A0,A0] at hlen ⊢
  rw [chk_of (by rw [hall];simp;omega)]
  have hle:=Kerb.skAt_le cs ⟨x,y,z⟩ v
  unfold Kerb.skFind
  by_cases h:Kerb.skAt cs ⟨x,y,z⟩ v<cs.length
  ·rw [sel_neg (by simp;omega),chk_of (by simp;omega),Xd,Vh (d:=Kerb.noSKey) h,if_pos h]
   simp only [Wv,↓A0,A0]
  ·rw [sel_pos (by simp;omega),if_neg h]
 ·cases h
theorem w108:Walked Tryz.prog G 108 3 sp108:=by
 refine ⟨Tryz.f108,Tryz.func108,by decide +kernel,rfl,fun xs bl r h=> ?_⟩
 unfold sp108 at h
 split at h
 ·rename_i i l n s
  cases h
  refine Eq.trans (b:=(sel (!Zm i 4294967295) (some (Zz .i64 104,[])) (sel (!Zm n 4294967295) (some (Zz .i64 104,[])) (sel (!Zm l 255) (some (Zz .i64 104,[])) (sel (!Zm s 4294967295) (some (Zz .i64 104,[])) (sel (decide (i>Zq .i64 (n+s))) (some (Zz .i64 33,[])) (sel (decide (n>Zq .i64 (Xn i l+s))) (some (Zz .i64 32,[])) (some (Zz .i64 0,[]))))))):Option (AV×Blocks))) (by kernel_rfl) ?_
  unfold Kerb.stateErr
  cases h1:Zm i 4294967295
  ·rfl
  cases h2:Zm n 4294967295
  ·rfl
  cases h3:Zm l 255
  ·rfl
  cases h4:Zm s 4294967295
  ·rfl
  have b1:=Kerb.within_iff.1 h1
  have b2:=Kerb.within_iff.1 h2
  have b3:=Kerb.within_iff.1 h3
  have b4:=Kerb.within_iff.1 h4
  have he:Xn i l=i+300*(l+1):=by simp [Xn,h1,h3]
  simp only [Xy,sel_false,Xx,Bool.false_eq_true,if_false,he]
  rw [wrap_i64 (by omega) (by omega),wrap_i64 (by omega) (by omega)]
  by_cases h5:n+s<i
  ·rw [sel_pos (by simpa using h5),if_pos h5]
  rw [sel_neg (by simpa using h5),if_neg h5]
  by_cases h6:i+300*(l+1)+s<n
  ·rw [sel_pos (by simpa using h6),if_pos h6]
  rw [sel_neg (by simpa using h6),if_neg h6]
 ·cases h
theorem w119:Walked Tryz.prog G 119 3 sp119:=by
 refine ⟨Tryz.f119,Tryz.func119,by decide +kernel,rfl,fun xs bl r h=> ?_⟩
 unfold sp119 at h
 split at h
 ·rename_i n w els
  obtain ⟨hpre,h2⟩:=chk_inv h;cases h2
  refine Eq.trans (b:=(sel (!Zm n 4294967295) (some (Zh [Zz .i64 0,Zg false],[])) (sel (decide (Kerb.least w [255]<0)) (some (Zh [Zz .i64 0,Zg false],[])) (Zj (chk (allInts els&&decide (Zv els≤1000000)) (some (Zz .i64 (Kerb.least (Xn n (Kerb.least w [255])) (intsIn els)),[]))) fun (r:AV×Blocks)=>onNilB (Zn r) (Yu .i64 (Yz r) fun n_1=>sel (decide (n_1<n)) (some (Zh [Zz .i64 0,Zg false],[])) (Zj (chk (decide ((-9223372036854775808:Int)≤Zq .i64 (n_1-n))&&decide (Zq .i64 (n_1-n)≤9223372036854775807)) (some (Zh [Zz .i64 (bif decide (Zq .i64 (n_1-n)<300) then 0 else Kerb.fromSec (Zq .i64 (n_1-n))),Zg !decide (Zq .i64 (n_1-n)<300)],[]))) fun (r:AV×Blocks)=>onNilB (Zn r) (Vb (Yz r) fun vs=>onCons vs fun x r=>Yu .i64 x fun n=>onCons r fun x r=>Wq x fun b=>onNil r (some (Zh [Zz .i64 n,Zg b],[]))))))):Option (AV×Blocks))) (by kernel_rfl) ?_
  simp only [Xw,decide_eq_true_eq] at hpre
  obtain ⟨⟨ha,hl⟩,hi⟩:=hpre
  have hl0:Kerb.least w [255]=Wu w 255:=rfl
  simp only [hl0,ha,hl,decide_true,Xx,↓A0,A0]
  unfold Uk
  cases hn:Zm n 4294967295
  ·rfl
  rw [sel_neg (by rfl)]
  have n1:=Kerb.within_iff.1 hn
  by_cases hw:w<0
  ·have h5:Wu w 255<0:=by unfold Wu;split<;>omega
   rw [sel_pos (by simpa using h5),if_pos (by simp [hw])]
  have hm:0≤Wu w 255∧Wu w 255≤255:=by unfold Wu;split<;>omega
  rw [sel_neg (by simp;omega),if_neg (by simp [hw])]
  have ht:Xn n (Wu w 255)=n+300*(Wu w 255+1):=by
   unfold Xn
   rw [if_pos (by rw [hn,Kerb.within_iff.2 hm];rfl)]
  rw [ht]
  have hle:=Kerb.least_le (intsIn els) (n+300*(Wu w 255+1))
  generalize Kerb.least (n+300*(Wu w 255+1)) (intsIn els)=L at hle ⊢
  by_cases h1:L<n
  ·rw [sel_pos (by simpa using h1),if_pos (by omega)]
  rw [sel_neg (by simpa using h1),wrap_i64 (by omega) (by omega),chk_of (by simp;omega)]
  by_cases h2:L-n<300
  ·rw [if_pos h2,show decide (L-n<300)=true from by simpa using h2];rfl
  ·rw [if_neg h2,show decide (L-n<300)=false from by simpa using h2]
   unfold Kerb.fromSec
   rw [Int.tdiv_eq_ediv_of_nonneg (by omega)]
   rfl
 ·cases h
theorem w129:Walked Tryz.prog G 129 3 sp129:=by
 refine ⟨Tryz.f129,Tryz.func129,by decide +kernel,rfl,fun xs bl r h=> ?_⟩
 unfold sp129 at h
 split at h
 ·rename_i kd k bd
  obtain ⟨hpre,h2⟩:=chk_inv h;cases h2
  refine Eq.trans (b:=(let t0:List UInt8:=[Vk (Zf (Zq .u8 (Int.fdiv (↑(Zv bd):Int) (2 ^ min (Zf 8) (Xb .i64))))),Vk (Zf (Zq .u8 (↑(Zv bd):Int)))];let t1:List UInt8:=[(66:UInt8),Vk (Zf (Zq .u8 kd))];sel (decide (kd<1)) (some (Zh [Yw [],Zz .i64 104],[])) (sel (decide (kd>10)) (some (Zh [Yw [],Zz .i64 104],[])) (Zj (chk (decide (0≤k)&&decide (k<18446744073709551616)) (some (Zg (Xz k),[]))) (kL fun b=>sel (!b) (some (Zh [Yw [],Zz .i64 10],[])) (sel (decide ((↑(Zv bd):Int)>1000)) (some (Zh [Yw [],Zz .i64 105],[])) (Zj (chk (decide (0≤k)&&decide (k<18446744073709551616)) (some (Yw (Kerb.keyBytes k),[]))) (kB fun b=>chk (room (Zv t1+Zv b) 1) (chk (room (Zv (t1++b)+Zv t0) 1) (chk (room (Zv (t1++b++t0)+Zv bd) 1) (some (Zh [Yw (t1++b++t0++bd),Zz .i64 0],[])))))))))):Option (AV×Blocks))) (by kernel_rfl) ?_
  delta kB kL
  try dsimp only [cStr,cBs,cBool,cU8,cInt,cSl,l63]
  simp only [A0,Uy,Uv,Un,hpre]
  unfold Kerb.makeBox
  by_cases k1:1≤kd
  case neg =>
   rw [sel_pos (by simp;omega),if_pos (by simp [Ud];omega)]
  by_cases k2:kd≤10
  case neg =>
   rw [sel_neg (by simp;omega),sel_pos (by simp;omega),if_pos (by simp [Ud];omega)]
  rw [sel_neg (by simp;omega),sel_neg (by simp;omega),if_neg (by simp [Ud];omega)]
  cases h2:Xz k
  ·rfl
  rw [Xy,sel_false,if_neg (by simp)]
  by_cases h3:1000<bd.length
  ·rw [sel_pos (by simp;omega),if_pos h3]
  have lk:=Kerb.keyBytes_len k
  rw [sel_neg (by simp;omega),if_neg h3,chk_of (Xh (by simp;omega)),chk_of (Xh (by simp;omega)),chk_of (Xh (by simp;omega)),Kerb.two_bytes,Kerb.wrap_u8,Int.emod_eq_of_lt (by omega) (by omega)]
 ·cases h
theorem w139:Walked Tryz.prog G 139 3 sp139:=by
 refine ⟨Tryz.f139,Tryz.func139,by decide +kernel,rfl,fun xs bl r h=> ?_⟩
 unfold sp139 at h
 split at h
 ·rename_i b n k little
  obtain ⟨hpre,h2⟩:=chk_inv h;cases h2
  refine Eq.trans (b:=(Zj (loopM (fun (st:List AV)=>cBs st fun b r=>cInt .i64 r fun n r=>cInt .i64 r fun n_1 r=>cBool r fun b_1 r=>cBs r fun c r=>cInt .i64 r fun n_2 r=>cInt .i64 r fun n_3 r=>let t0:Int:=Zq .i64 (Zq .i64 (n_1-1)-n_3);let t1:UInt8:=Vk (Zf (Zq .u8 (Int.fdiv n (2 ^ min (Zf (Zq .i64 (8*n_3))) (Xb .i64)))));onNil r (sel (decide (n_3<n_2)) (sel (!b_1) (chk (decide (0≤Zq .i64 (8*n_3))) (chk (decide (0≤t0)&&decide (t0<(↑(Zv c):Int))&&Uu (Zv c) 4&&true) (chk (Nat.blt (Zf t0) (Zv c)&&true&&true&&true&&true) (some (Vp [Yw b,Zz .i64 n,Zz .i64 n_1,Zg b_1,Yw (List.set c (Zf t0) t1),Zz .i64 n_2,Zz .i64 (Zq .i64 (n_3+1))]))))) (chk (decide (0≤Zq .i64 (8*n_3))) (chk (decide (0≤n_3)&&decide (n_3<(↑(Zv c):Int))&&Uu (Zv c) 4&&true) (chk (Nat.blt (Zf n_3) (Zv c)&&true&&true&&true&&true) (some (Vp [Yw b,Zz .i64 n,Zz .i64 n_1,Zg b_1,Yw (List.set c (Zf n_3) t1),Zz .i64 n_2,Zz .i64 (Zq .i64 (n_3+1))])))))) (some (Um (Ww 0,[Yw b,Zz .i64 n,Zz .i64 n_1,Zg b_1,Yw c,Zz .i64 n_2,Zz .i64 n_3]))))) [Yw b,Zz .i64 n,Zz .i64 k,Zg little,Yw [(0:UInt8),(0:UInt8),(0:UInt8),(0:UInt8)],Zz .i64 k,Zz .i64 0]) fun (r:Ex×List AV)=>cBs (Zn r) fun b r_1=>cInt .i64 r_1 fun n r_2=>cInt .i64 r_2 fun n r_3=>cBool r_3 fun b_1 r_4=>cBs r_4 fun c r_5=>let t2:Nat:=Zv [Yw b,Yw (Vm (Zf (↑(0:Nat):Int)) (Vd (Zf n) c))];let t3:Nat:=Zv (Xg b (Xg (Vm (Zf (↑(0:Nat):Int)) (Vd (Zf n) c)) []));cInt .i64 r_5 fun n_1 r_6=>cInt .i64 r_6 fun n_2 r_7=>onNil r_7 (exK r.1 none fun (j:Nat)=>sel (Uu j 0) (chk (decide ((↑(0:Nat):Int)≤n)&&decide (n≤(↑(Zv c):Int))&&Uu (Zv c) 4) (Zj (chk (decide (t3≤140737488355328)&&decide (t2≤1000)) (some (Xf (Xg b (Xg (Vm (Zf (↑(0:Nat):Int)) (Vd (Zf n) c)) [])),[]))) (kO fun l=>some (Xf l,[])))) none):Option (AV×Blocks))) (by kernel_rfl) ?_
  delta kO
  try dsimp only [cStr,cBs,cBool,cU8,cInt,cSl,l63]
  simp only [Xw,decide_eq_true_eq] at hpre
  obtain ⟨hk,hb⟩:=hpre
  rcases hk with rfl | rfl | rfl<;>cases little
  ·refine loop_unroll 2 (Ww 0,[Yw b,Zz Zy n,Zz Zy 1,Zg false,Yw [Wn n 0,(0:UInt8),(0:UInt8),(0:UInt8)],Zz Zy 1,Zz Zy 1]) (by kernel_rfl) ?_
   simp only [A0]
   rw [sel_pos (Wb _),chk_of (by simp),chk_of (by simp;omega)]
   simp [Ub,Yg,Ug,Vq]
  ·refine loop_unroll 2 (Ww 0,[Yw b,Zz Zy n,Zz Zy 1,Zg true,Yw [Wn n 0,(0:UInt8),(0:UInt8),(0:UInt8)],Zz Zy 1,Zz Zy 1]) (by kernel_rfl) ?_
   simp only [A0]
   rw [sel_pos (Wb _),chk_of (by simp),chk_of (by simp;omega)]
   simp [Ub,Yg,Ug,Vq]
  ·refine loop_unroll 3 (Ww 0,[Yw b,Zz Zy n,Zz Zy 2,Zg false,Yw [Wn n 8,Wn n 0,(0:UInt8),(0:UInt8)],Zz Zy 2,Zz Zy 2]) (by kernel_rfl) ?_
   simp only [A0]
   rw [sel_pos (Wb _),chk_of (by simp),chk_of (by simp;omega)]
   simp [Ub,Yg,Ug,Vq]
  ·refine loop_unroll 3 (Ww 0,[Yw b,Zz Zy n,Zz Zy 2,Zg true,Yw [Wn n 0,Wn n 8,(0:UInt8),(0:UInt8)],Zz Zy 2,Zz Zy 2]) (by kernel_rfl) ?_
   simp only [A0]
   rw [sel_pos (Wb _),chk_of (by simp),chk_of (by simp;omega)]
   simp [Ub,Yg,Ug,Vq]
  ·refine loop_unroll 5 (Ww 0,[Yw b,Zz Zy n,Zz Zy 4,Zg false,Yw [Wn n 24,Wn n 16,Wn n 8,Wn n 0],Zz Zy 4,Zz Zy 4]) (by kernel_rfl) ?_
   simp only [A0]
   rw [sel_pos (Wb _),chk_of (by simp),chk_of (by simp;omega)]
   simp [Ub,Yg,Ug,Vq]
  ·refine loop_unroll 5 (Ww 0,[Yw b,Zz Zy n,Zz Zy 4,Zg true,Yw [Wn n 0,Wn n 8,Wn n 16,Wn n 24],Zz Zy 4,Zz Zy 4]) (by kernel_rfl) ?_
   simp only [A0]
   rw [sel_pos (Wb _),chk_of (by simp),chk_of (by simp;omega)]
   simp [Ub,Yg,Ug,Vq]
 ·cases h
theorem w147:Walked Tryz.prog G 147 3 sp147:=by
 refine ⟨Tryz.f147,Tryz.func147,by decide +kernel,rfl,fun xs bl r h=> ?_⟩
 unfold sp147 at h
 split at h
 ·rename_i s c
  cases h
  refine Eq.trans (b:=(some (Zz .i64 (Yj c s),[]):Option (AV×Blocks))) (by kernel_rfl) ?_
  rfl
 ·cases h
theorem w157:Walked Tryz.prog G 157 3 sp157:=by
 refine ⟨Tryz.f157,Tryz.func157,by decide +kernel,rfl,fun xs bl r h=> ?_⟩
 unfold sp157 at h
 split at h
 ·rename_i b
  obtain ⟨hpre,h2⟩:=chk_inv h;cases h2
  refine Eq.trans (b:=(chk (decide (0≤Yh (Zq .i64 (8-Yh (↑(Zv b):Int) 8)) 8)&&decide (Yh (Zq .i64 (8-Yh (↑(Zv b):Int) 8)) 8≤Yh (Zq .i64 (8-Yh (↑(Zv b):Int) 8)) 8)&&decide (Yh (Zq .i64 (8-Yh (↑(Zv b):Int) 8)) 8≤140737488355328)) (Zj (chk (decide (Zv (Xg b (Xg (Uj (Zf (Yh (Zq .i64 (8-Yh (↑(Zv b):Int) 8)) 8)) (0:UInt8)) []))≤140737488355328)&&decide (Zv [Yw b,Yw (Uj (Zf (Yh (Zq .i64 (8-Yh (↑(Zv b):Int) 8)) 8)) (0:UInt8))]≤1000)) (some (Xf (Xg b (Xg (Uj (Zf (Yh (Zq .i64 (8-Yh (↑(Zv b):Int) 8)) 8)) (0:UInt8)) [])),[]))) fun (r:AV×Blocks)=>onNilB (Zn r) (AV.onOwnB (Yz r) fun l=>some (Yw l,[]))):Option (AV×Blocks))) (by kernel_rfl) ?_
  have hb:=of_decide_eq_true hpre
  rw [Kerb.pad_eq hb]
  simp only [A0]
  rw [chk_of (by simp;omega),chk_of (by simp;omega)]
  simp [Kerb.pad]
  omega
 ·cases h
theorem w165:Walked Tryz.prog G 165 3 sp165:=by
 refine ⟨Tryz.f165,Tryz.func165,by decide +kernel,rfl,fun xs bl r h=> ?_⟩
 unfold sp165 at h
 split at h
 ·rename_i b little
  obtain ⟨hpre,h2⟩:=chk_inv h;cases h2
  refine Eq.trans (b:=(sel little (Zj (chk (decide (Zv b≤70368744177664)) (some (Xf (b++Yg 1 1 false),[]))) fun (r:AV×Blocks)=>onNilB (Zn r) (AV.onOwnB (Yz r) fun l=>some (Xf l,[]))) (Zj (chk (decide (Zv b≤70368744177664)) (some (Xf (b++Yg 0 1 false),[]))) fun (r:AV×Blocks)=>onNilB (Zn r) (AV.onOwnB (Yz r) fun l=>some (Xf l,[]))):Option (AV×Blocks))) (by kernel_rfl) ?_
  simp only [A0]
  rw [chk_of hpre,chk_of hpre]
  cases little<;>rfl
 ·cases h
theorem w170:Walked Tryz.prog G 170 3 sp170:=by
 refine ⟨Tryz.f170,Tryz.func170,by decide +kernel,rfl,fun xs bl r h=> ?_⟩
 unfold sp170 at h
 split at h
 ·rename_i k
  obtain ⟨hpre,h2⟩:=chk_inv h;cases h2
  refine Eq.trans (b:=(Zj (chk (decide (0≤k)&&decide (k<18446744073709551616)) (some (Zg (Xz k),[]))) fun (r:AV×Blocks)=>onNilB (Zn r) (Wq (Yz r) fun b=>sel (!b) (some (Zz .i64 0,[])) (some (Zz .i64 (Zq .i64 (Int.fdiv k (2 ^ min (Zf 56) (Xb .u64)))),[]))):Option (AV×Blocks))) (by kernel_rfl) ?_
  simp only [hpre,↓A0,A0]
  unfold Kerb.classOf
  cases hk:Xz k
  ·rfl
  simp only [Xy,Bool.not_false,sel_true,sel_false]
  simp only [Xw,decide_eq_true_eq] at hpre
  have h7:(min (Zf 56) (Xb .u64))=56:=rfl
  rw [h7,Int.fdiv_eq_ediv_of_nonneg _ (by decide),wrap_i64 (by omega) (by omega)]
  rfl
 ·cases h
theorem w5:Walked Tryz.prog G 5 4 sp5:=by
 refine ⟨Tryz.f5,Tryz.func5,by decide +kernel,rfl,fun xs bl r h=> ?_⟩
 unfold sp5 at h
 split at h
 ·rename_i l
  obtain ⟨hpre,h2⟩:=chk_inv h;cases h2
  refine Eq.trans (b:=(Zj (chk (decide (Zv l≤100000)) (some (Yq 4 (List.map Yy (Kerb.dataCross l)),[]))) fun (r:AV×Blocks)=>onNilB (Zn r) (AV.onSl 4 (Yz r) fun b=>Zj (loopM (fun (st:List AV)=>cSl 4 st fun b r=>onCons r fun x r=>Wh x fun b_1=>cInt .i64 r fun n r=>let t0:Option (List AV ⊕ Ex×List AV):=some (Um (Ww 0,[Yq 4 b,Yf b_1,Zz .i64 n]));onNil r (sel (decide (n<(↑(Zv b):Int))) (sel (decide ((↑(Zv b_1):Int)<20)) (chk (decide (0≤n)&&decide (n<(↑(Zv b):Int))&&true) (Wx (Yb b (Zf n) Yn) fun cs=>cStr cs fun b_2 r=>cStr r fun b_3 r=>cInt .i64 r fun n_1 r=>cInt .u64 r fun n_2 r=>onNil r (chk (decide (0≤n)&&decide (n<(↑(Zv b):Int))&&true) (Wx (Yb b (Zf n) Yn) fun cs=>cStr cs fun b_4 r=>cStr r fun b_5 r=>cInt .i64 r fun n_3 r=>cInt .u64 r fun n_4 r=>onNil r (Zj (loopM (fun (st:List AV)=>cSl 4 st fun b r=>onCons r fun x r=>Wh x fun b_6=>cInt .i64 r fun n r=>let t1:Bool:=decide (0≤n)&&decide (n<(↑(Zv b):Int))&&true;cBool r fun b_7 r=>cInt .i64 r fun n_5 r=>let t2:Bool:=decide (0≤n_5)&&decide (n_5<(↑(Zv b_6):Int))&&true;let t4:List AV:=[Zz .i64 (Zq .i64 (n_5+1))];let t3:Option (List AV ⊕ Ex×List AV):=some (Vp (Yq 4 b::Yf b_6::Zz .i64 n::Zg true::t4));onNil r (sel (decide (n_5<(↑(Zv b_6):Int))) (sel b_7 (chk t2 (chk (Nat.blt (Zf n_5) (Zv b_6)&&true) (Wx (Yb b_6 (Zf n_5) Yn) fun cs=>cStr cs fun b_8 r=>cStr r fun b_9 r=>cInt .i64 r fun n_6 r=>cInt .u64 r fun n_7 r=>onNil r (chk t1 (Wx (Yb b (Zf n) Yn) fun cs=>cStr cs fun b_10 r=>cStr r fun b_11 r=>cInt .i64 r fun n_8 r=>cInt .u64 r fun n_9 r=>onNil r (sel (!b_8==b_10) t3 (chk t2 (chk (Nat.blt (Zf n_5) (Zv b_6)&&true) (Wx (Yb b_6 (Zf n_5) Yn) fun cs=>cStr cs fun b_12 r=>cStr r fun b_13 r=>cInt .i64 r fun n_10 r=>cInt .u64 r fun n_11 r=>onNil r (chk t1 (Wx (Yb b (Zf n) Yn) fun cs=>cStr cs fun b_14 r=>cStr r fun b_15 r=>cInt .i64 r fun n_12 r=>cInt .u64 r fun n_13 r=>onNil r (sel (!b_13==b_15) t3 (chk t2 (chk (Nat.blt (Zf n_5) (Zv b_6)&&true) (Wx (Yb b_6 (Zf n_5) Yn) fun cs=>cStr cs fun b_16 r=>cStr r fun b_17 r=>cInt .i64 r fun n_14 r=>cInt .u64 r fun n_15 r=>onNil r (chk t1 (Wx (Yb b (Zf n) Yn) fun cs=>cStr cs fun b_18 r=>cStr r fun b_19 r=>cInt .i64 r fun n_16 r=>cInt .u64 r fun n_17 r=>onNil r (some (Vp (Yq 4 b::Yf b_6::Zz .i64 n::(Zg !n_14==n_16)::t4)))))))))))))))))))) (some (Vp (Yq 4 b::Yf b_6::Zz .i64 n::Zg false::t4)))) (some (Um (Ww 2,[Yq 4 b,Yf b_6,Zz .i64 n,Zg b_7,Zz .i64 n_5]))))) [Yq 4 b,Yf b_1,Zz .i64 n,Zg !b_2==b_5,Zz .i64 0]) fun (r:Ex×List AV)=>cSl 4 (Zn r) fun b r_1=>onCons r_1 fun x r_2=>Wh x fun b_6=>cInt .i64 r_2 fun n r_3=>cBool r_3 fun b_7 r_4=>cInt .i64 r_4 fun n_5 r_5=>onNil r_5 (exK r.1 (some (Um (Ex.ret,[Yq 4 b,Yf b_6,Zz .i64 n]))) fun (j:Nat)=>sel (Uu j 2) (sel b_7 (chk (decide (0≤n)&&decide (n<(↑(Zv b):Int))&&true) (Wx (Yb b (Zf n) Yn) fun cs=>cStr cs fun b_8 r=>cStr r fun b_9 r=>cInt .i64 r fun n_6 r=>cInt .u64 r fun n_7 r=>let t5:List AV:=[Zd [Zw b_8,Zw b_9,Zz .i64 n_6,Zz .u64 n_7]];onNil r (chk (room (Zv b_6+Zv t5) (nat_lit 48)) (some (Vp [Yq 4 b,Yf (b_6++t5),Zz .i64 (Zq .i64 (n+1))]))))) (some (Vp [Yq 4 b,Yf b_6,Zz .i64 (Zq .i64 (n+1))]))) none)))))) t0) t0)) [Yq 4 b,Yf [],Zz .i64 0]) fun (r:Ex×List AV)=>cSl 4 (Zn r) fun b r_1=>onCons r_1 fun x r_2=>Wh x fun b=>cInt .i64 r_2 fun n r_3=>onNil r_3 (exK r.1 none fun (j:Nat)=>sel (Uu j 0) (some (Yq 4 b,[])) none)):Option (AV×Blocks))) (by kernel_rfl) ?_
  try dsimp only [cStr,cBs,cBool,cU8,cInt,cSl,l63]
  have hl:=of_decide_eq_true hpre
  obtain ⟨al,has⟩:∃ a,Kerb.dataCross l=a:=⟨_,rfl⟩
  have hgood:Kerb.goodCross l=al.foldl Vg []:=by rw [← has];rfl
  have r48:∀ {m:Nat},m≤1000→Go.Abs.room m 48=true:=fun h=>by simp [Go.Abs.room];omega
  have hla:al.length≤25:=by rw [← has];exact (Kerb.dataCross_ok l).1
  simp (config:={maxSteps:=10000000}) only [hpre,has,hgood,↓A0,A0]
  refine loop_rounds (fun q:Nat×List Kerb.Cross=>[Yq 4 (al.map Yy),Yf (q.2.map Yy),Zz Zy (q.1:Int)]) (fun q=>q.1≤al.length∧q.2.length≤20∧al.foldl Vg []=(al.drop q.1).foldl Vg q.2) (fun q=>al.length-q.1)
   (fun r=>∃ i:Int,r=(Ww 0,[Yq 4 (al.map Yy),Yf ((al.foldl Vg []).map Yy),Zz Zy i])) (0,[]) ⟨Vx _,by simp,by simp⟩ rfl ?_ ?_
  ·rintro ⟨i,out⟩ ⟨hi,ho,he⟩
   dsimp only at hi ho he
   simp (config:={maxSteps:=10000000}) only [Ym,↓sInt,↓sU8,↓sBool,↓sStr,↓sBs,↓sSl,↓sAgg,↓sTup,↓sCons,↓sNil,↓sNilB,↓sChk,↓sChkBind,↓sSome,↓sOwnL,↓sConsB,↓sOwnB]
   by_cases h1:i<al.length
   case neg =>
    rw [sel_neg (by simp;omega)]
    rw [List.drop_eq_nil_of_le (by omega)] at he
    exact ⟨_,rfl,(i:Int),by rw [he];rfl⟩
   rw [sel_pos (by simp;omega)]
   by_cases h2:out.length<20
   case neg =>
    rw [sel_neg (by simp;omega)]
    rw [Kerb.crossStep_full (out:=out) (by omega)] at he
    exact ⟨_,rfl,(i:Int),by rw [he]⟩
   rw [sel_pos (by simp;omega)]
   obtain ⟨c,hc⟩:∃ c,al.getD i Wy=c:=⟨_,rfl⟩
   have hgi:(al.map Yy).getD i Yn=c.av:=by rw [Vh (d:=Wy) h1,hc]
   have hki:(decide ((0:Int)≤(i:Int))&&decide ((i:Int)<(al.length:Int))&&true)=true:=by simp;omega
   rw [Kerb.drop_row (d:=Wy) h1,hc,List.foldl_cons] at he
   simp (config:={maxSteps:=10000000}) only [hki,hgi,Xd,Yy,↓sInt,↓sU8,↓sBool,↓sStr,↓sBs,↓sSl,↓sAgg,↓sTup,↓sCons,↓sNil,↓sNilB,↓sChk,↓sChkBind,↓sSome,↓sOwnL,↓sConsB,↓sOwnB]
   refine loop_ex (fun k:Nat=>[Yq 4 (al.map Yy),Yf (out.map Yy),Zz Zy (i:Int),Zg (!(c.source==c.target) && !(out.take k).any c.alike),Zz Zy (k:Int)]) (fun k=>k≤out.length) (fun k=>out.length-k)
    (fun r=>r=(Ww 2,[Yq 4 (al.map Yy),Yf (out.map Yy),Zz Zy (i:Int),Zg (!(c.source==c.target) && !out.any c.alike),Zz Zy (out.length:Int)])) 0 (Vx _) (by simp) ?_ ?_
   ·intro k hk
    simp (config:={maxSteps:=10000000}) only [Ym,↓sInt,↓sU8,↓sBool,↓sStr,↓sBs,↓sSl,↓sAgg,↓sTup,↓sCons,↓sNil,↓sNilB,↓sChk,↓sChkBind,↓sSome,↓sOwnL,↓sConsB,↓sOwnB]
    by_cases h3:k<out.length
    case neg =>
     rw [sel_neg (by simp;omega)]
     have:k=out.length:=by omega
     subst this
     rw [List.take_length]
     exact ⟨_,rfl,rfl⟩
    rw [sel_pos (by simp;omega)]
    obtain ⟨d,hd⟩:∃ d,out.getD k Wy=d:=⟨_,rfl⟩
    have hgk:(out.map Yy).getD k Yn=d.av:=by rw [Vh (d:=Wy) h3,hd]
    have hkk:(decide ((0:Int)≤(k:Int))&&decide ((k:Int)<(out.length:Int))&&true)=true:=by simp;omega
    have hbk:(Nat.blt k out.length&&true)=true:=by simp [Nat.blt_eq];omega
    have htk:(out.take (k+1)).any c.alike=((out.take k).any c.alike||c.alike d):=by
     rw [Kerb.take_row (d:=Wy) h3,hd,List.any_append];simp
    rw [wrap_i64 (by omega) (by omega)]
    cases h4:(!(c.source==c.target) && !(out.take k).any c.alike)
    ·have h9:(!(c.source==c.target) && !(out.take (k+1)).any c.alike)=false:=by
      rw [htk,Bool.not_or,← Bool.and_assoc,h4];rfl
     exact ⟨_,rfl,k+1,by dsimp only;rw [h9];rfl,by omega,by dsimp only;omega⟩
    ·have h9:(!(c.source==c.target) && !(out.take (k+1)).any c.alike) = !(c.alike d):=by
      rw [htk,Bool.not_or,← Bool.and_assoc,h4,Bool.true_and]
     have he0:c.alike d=(d.source==c.source&&(d.target==c.target&&d.kvno==c.kvno)):=rfl
     simp (config:={maxSteps:=10000000}) only [↓sTrue,hkk,hki,hbk,hgk,hgi,Xd,Yy,↓sInt,↓sU8,↓sBool,↓sStr,↓sBs,↓sSl,↓sAgg,↓sTup,↓sCons,↓sNil,↓sNilB,↓sChk,↓sChkBind,↓sSome,↓sOwnL,↓sConsB,↓sOwnB]
     cases h5:(d.source==c.source)
     ·rw [h5,Bool.false_and] at he0
      exact ⟨_,rfl,k+1,by dsimp only;rw [h9,he0];rfl,by omega,by dsimp only;omega⟩
     rw [h5,Bool.true_and] at he0
     cases h6:(d.target==c.target)
     ·rw [h6,Bool.false_and] at he0
      exact ⟨_,rfl,k+1,by dsimp only;rw [h9,he0];rfl,by omega,by dsimp only;omega⟩
     rw [h6,Bool.true_and] at he0
     exact ⟨_,rfl,k+1,by dsimp only;rw [h9,he0];rfl,by omega,by dsimp only;omega⟩
   ·rintro _ rfl
    simp (config:={maxSteps:=10000000}) only [Ym,↓A0,A0]
    rw [sel_pos (Wb _),wrap_i64 (by omega) (by omega)]
    have hst:Vg out c=if (!(c.source==c.target) && !out.any c.alike)=true then out++[c] else out:=by
     unfold Vg
     by_cases q1:c.source=c.target
     ·rw [if_pos (.inr (.inl q1)),if_neg (by simp [q1])]
     by_cases q:out.any c.alike=true
     ·rw [if_pos (.inr (.inr q)),if_neg (by simp [q])]
     ·rw [if_neg (by rintro (h | h | h);omega;exact q1 h;exact q h),if_pos (by simp [q1];simpa using q)]
    cases h6:(!(c.source==c.target) && !out.any c.alike)
    case true =>
     rw [h6,if_pos rfl] at hst
     rw [hst] at he
     simp (config:={maxSteps:=10000000}) only [↓sTrue,hki,hgi,Xd,Yy,Vn,Uw,↓sInt,↓sU8,↓sBool,↓sStr,↓sBs,↓sSl,↓sAgg,↓sTup,↓sCons,↓sNil,↓sNilB,↓sChk,↓sChkBind,↓sSome,↓sOwnL,↓sConsB,↓sOwnB]
     rw [chk_of (r48 (by omega))]
     refine ⟨_,rfl,(i+1,out++[c]),?_,⟨by dsimp only;omega,by dsimp only;simp;omega,he⟩,by dsimp only;omega⟩
     dsimp only
     rw [List.map_append]
     rfl
    ·rw [h6,if_neg (by simp)] at hst
     rw [hst] at he
     exact ⟨_,rfl,(i+1,out),rfl,⟨by dsimp only;omega,ho,he⟩,by dsimp only;omega⟩
  ·rintro _ ⟨p,rfl⟩
   simp only [↓A0,A0]
   rw [sel_pos (Wb _)]
 ·cases h
theorem w6:Walked Tryz.prog G 6 4 sp6:=by
 refine ⟨Tryz.f6,Tryz.func6,by decide +kernel,rfl,fun xs bl r h=> ?_⟩
 unfold sp6 at h
 split at h
 ·rename_i lf xp bd
  cases h
  refine Eq.trans (b:=(Zj (loopM (fun (st:List AV)=>cU8 st fun b r=>cU8 r fun b_1 r=>cU8 r fun b_2 r=>cStr r fun b_3 r=>cSl 9 r fun b_4 r=>cStr r fun b_5 r=>onCons r fun x r=>Wh x fun y=>cSl 3 r fun b_6 r=>cInt .i64 r fun n r=>onNil r (sel (decide (n<(↑(Zv b_6):Int))) (chk (decide (0≤n)&&decide (n<(↑(Zv b_6):Int))&&true) (Wx (Yb b_6 (Zf n) Yn) fun cs=>cStr cs fun b_7 r=>cStr r fun b_8 r=>cStr r fun b_9 r=>onNil r (chk (decide (0≤n)&&decide (n<(↑(Zv b_6):Int))&&true) (Wx (Yb b_6 (Zf n) Yn) fun cs=>cStr cs fun b_10 r=>cStr r fun b_11 r=>cStr r fun b_12 r=>onNil r (Zj (chk (decide (0≤n)&&decide (n≤1000)) (some (Zz .u64 (Yk n),[]))) (kI .u64 fun n_1=>Zj (sel (Yh (Zq .i64 (↑(Xq b_2):Int)) 16==n) (some [Wm b,Wm b_1,Wm b_2,Zw b_3,Yq 9 b_4,Zw b_5,Yf y,Yq 3 b_6,Zz .i64 n,Zw b_7,Zw b_11,Zz .u64 n_1,Zz .i64 (Zq .i64 (3+n)),Zz .i64 0,Zz .i64 (Zq .i64 (↑(Xq b):Int)),Zz .i64 (Zq .i64 (1+Yh (Zq .i64 (Int.tdiv (Zq .i64 (↑(Xq b_2):Int)) 16)) 3)),Zz .i64 0,Zz .i64 0]) (some [Wm b,Wm b_1,Wm b_2,Zw b_3,Yq 9 b_4,Zw b_5,Yf y,Yq 3 b_6,Zz .i64 n,Zw b_7,Zw b_11,Zz .u64 n_1,Zz .i64 (Zq .i64 (3+n)),Zz .i64 0,Zz .i64 (Zq .i64 (↑(Xq b):Int)),Zz .i64 0,Zz .i64 0,Zz .i64 0])) fun l=>cU8 l fun b r=>cU8 r fun b_13 r=>cU8 r fun b_14 r=>cStr r fun b_15 r=>cSl 9 r fun b_16 r=>cStr r fun b_17 r=>onCons r fun x r=>Wh x fun y=>cSl 3 r fun b_18 r=>cInt .i64 r fun n r=>cStr r fun b_19 r=>cStr r fun b_20 r=>cInt .u64 r fun n_2 r=>cInt .i64 r fun n_3 r=>cInt .i64 r fun n_4 r=>cInt .i64 r fun n_5 r=>cInt .i64 r fun n_6 r=>cInt .i64 r fun n_7 r=>cInt .i64 r fun n_8 r=>let t0:List AV:=[Zz .i64 n_5,Zz .i64 n_6,Zz .i64 n_7,Zz .i64 n_8];onNil r (Zj (sel (Yh (Zq .i64 (↑(Xq b_14):Int)) 16==Zq .i64 (8+n)) (some (Wm b::Wm b_13::Wm b_14::Zw b_15::Yq 9 b_16::Zw b_17::Yf y::Yq 3 b_18::Zz .i64 n::Zw b_19::Zw b_20::Zz .u64 n_2::Zz .i64 n_3::Zz .i64 (Zq .i64 (1000+Zq .i64 (Zq .i64 (↑(Xq b_13):Int)*100)))::t0)) (some (Wm b::Wm b_13::Wm b_14::Zw b_15::Yq 9 b_16::Zw b_17::Yf y::Yq 3 b_18::Zz .i64 n::Zw b_19::Zw b_20::Zz .u64 n_2::Zz .i64 n_3::Zz .i64 n_4::t0))) fun l=>cU8 l fun b r=>cU8 r fun b_21 r=>cU8 r fun b_22 r=>cStr r fun b_23 r=>cSl 9 r fun b_24 r=>cStr r fun b_25 r=>onCons r fun x r=>Wh x fun y=>cSl 3 r fun b_26 r=>cInt .i64 r fun n r=>cStr r fun b_27 r=>cStr r fun b_28 r=>cInt .u64 r fun n_9 r=>cInt .i64 r fun n_10 r=>cInt .i64 r fun n_11 r=>cInt .i64 r fun n_12 r=>cInt .i64 r fun n_13 r=>cInt .i64 r fun n_14 r=>cInt .i64 r fun n_15 r=>let t1:List AV:=[Zd [Zw b_27,Zw b_28,Zz .u64 n_9,Zz .i64 n_10,Zz .i64 n_11,Zz .i64 n_12,Zz .i64 n_13,Zz .i64 n_14,Zz .i64 n_15]];onNil r (chk (room (Zv y+Zv t1) (nat_lit 88)) (some (Vp [Wm b,Wm b_21,Wm b_22,Zw b_23,Yq 9 b_24,Zw b_25,Yf (y++t1),Yq 3 b_26,Zz .i64 (Zq .i64 (n+1))])))))))))) (some (Um (Ww 0,[Wm b,Wm b_1,Wm b_2,Zw b_3,Yq 9 b_4,Zw b_5,Yf y,Yq 3 b_6,Zz .i64 n]))))) [Wm lf,Wm xp,Wm bd,Zw [],Yq 9 [],Zw [(65:UInt8),(84:UInt8),(72:UInt8)],Yf [],Yq 3 [Zd [Zw (Xj (Zu 0)),Zw (Xk (Zu 0)),Zw (Xv (Zu 0))],Zd [Zw (Xj (Zu 1)),Zw (Xk (Zu 1)),Zw (Xv (Zu 1))],Zd [Zw (Xj (Zu 2)),Zw (Xk (Zu 2)),Zw (Xv (Zu 2))],Zd [Zw (Xj (Zx 2)),Zw (Xk (Zx 2)),Zw (Xv (Zx 2))],Zd [Zw (Xj (Zx 0)),Zw (Xk (Zx 0)),Zw (Xv (Zx 0))],Zd [Zw (Xj (Zx 1)),Zw (Xk (Zx 1)),Zw (Xv (Zx 1))]],Zz .i64 0]) fun (r:Ex×List AV)=>cU8 (Zn r) fun b r_1=>cU8 r_1 fun b r_2=>cU8 r_2 fun b r_3=>cStr r_3 fun b r_4=>cSl 9 r_4 fun b_1 r_5=>cStr r_5 fun b_2 r_6=>onCons r_6 fun x r_7=>Wh x fun y=>cSl 3 r_7 fun b_3 r_8=>cInt .i64 r_8 fun n r_9=>onNil r_9 (exK r.1 (some (Zd [Zw b,Yq 9 b_1],[])) fun (j:Nat)=>sel (Uu j 0) (some (Zd [Zw b_2,Yq 9 y],[])) none):Option (AV×Blocks))) (by kernel_rfl) ?_
  delta kI
  try dsimp only [cStr,cBs,cBool,cU8,cInt,cSl,l63]
  have b0:=Up lf
  have b1:=Up xp
  have b2:=Up bd
  have e0:=Kerb.wrap_u8i
  have e1:Yh (Zb bd) 16=Zb bd % 16:=Vw b2.1
  have e2:Zq .i64 (1000+Zq .i64 (Zb xp*100))=1000+Zb xp*100:=by rw [wrap_i64 (n:=Zb xp*100) (by omega) (by omega),wrap_i64 (by omega) (by omega)]
  have e3:Zq .i64 (1+Yh (Zq .i64 (Int.tdiv (Zb bd) 16)) 3)=1+Zb bd / 16 % 3:=by
   rw [Int.tdiv_eq_ediv_of_nonneg b2.1,wrap_i64 (n:=Zb bd / 16) (by omega) (by omega),Vw (by omega),wrap_i64 (by omega) (by omega)]
  refine loop_rounds (fun i:Nat=>[Wm lf,Wm xp,Wm bd,Zw [],Yq 9 [],Zw [65,84,72],Yf (((Kerb.simpleDb lf xp bd).entries.take i).map Zk),Yq 3 [Zd [Zw (Zu 0).name,Zw (Zu 0).inst,Zw (Zu 0).realm],Zd [Zw (Zu 1).name,Zw (Zu 1).inst,Zw (Zu 1).realm],Zd [Zw (Zu 2).name,Zw (Zu 2).inst,Zw (Zu 2).realm],Zd [Zw (Zx 2).name,Zw (Zx 2).inst,Zw (Zx 2).realm],Zd [Zw (Zx 0).name,Zw (Zx 0).inst,Zw (Zx 0).realm],Zd [Zw (Zx 1).name,Zw (Zx 1).inst,Zw (Zx 1).realm]],Zz Zy (i:Int)]) (fun i=>i≤6) (fun i=>6-i)
   (fun r=>r=(Ww 0,[Wm lf,Wm xp,Wm bd,Zw [],Yq 9 [],Zw [65,84,72],Yf ((Kerb.simpleDb lf xp bd).entries.map Zk),Yq 3 [Zd [Zw (Zu 0).name,Zw (Zu 0).inst,Zw (Zu 0).realm],Zd [Zw (Zu 1).name,Zw (Zu 1).inst,Zw (Zu 1).realm],Zd [Zw (Zu 2).name,Zw (Zu 2).inst,Zw (Zu 2).realm],Zd [Zw (Zx 2).name,Zw (Zx 2).inst,Zw (Zx 2).realm],Zd [Zw (Zx 0).name,Zw (Zx 0).inst,Zw (Zx 0).realm],Zd [Zw (Zx 1).name,Zw (Zx 1).inst,Zw (Zx 1).realm]],Zz Zy 6])) 0 (by decide) rfl ?_ ?_
  ·intro i hi
   have hc:i=0∨i=1∨i=2∨i=3∨i=4∨i=5∨i=6:=by omega
   rcases hc with rfl | rfl | rfl | rfl | rfl | rfl | rfl
   ·have g:Yb [Zd [Zw (Zu 0).name,Zw (Zu 0).inst,Zw (Zu 0).realm],Zd [Zw (Zu 1).name,Zw (Zu 1).inst,Zw (Zu 1).realm],Zd [Zw (Zu 2).name,Zw (Zu 2).inst,Zw (Zu 2).realm],Zd [Zw (Zx 2).name,Zw (Zx 2).inst,Zw (Zx 2).realm],Zd [Zw (Zx 0).name,Zw (Zx 0).inst,Zw (Zx 0).realm],Zd [Zw (Zx 1).name,Zw (Zx 1).inst,Zw (Zx 1).realm]] (Zf ((0:Nat):Int)) Yn=Zd [Zw (Zu 0).name,Zw (Zu 0).inst,Zw (Zu 0).realm]:=rfl
    have k0:decide (((0:Nat):Int)<((Zv [Zd [Zw (Zu 0).name,Zw (Zu 0).inst,Zw (Zu 0).realm],Zd [Zw (Zu 1).name,Zw (Zu 1).inst,Zw (Zu 1).realm],Zd [Zw (Zu 2).name,Zw (Zu 2).inst,Zw (Zu 2).realm],Zd [Zw (Zx 2).name,Zw (Zx 2).inst,Zw (Zx 2).realm],Zd [Zw (Zx 0).name,Zw (Zx 0).inst,Zw (Zx 0).realm],Zd [Zw (Zx 1).name,Zw (Zx 1).inst,Zw (Zx 1).realm]]:Nat):Int))=true:=rfl
    have k1:decide ((0:Int)≤((0:Nat):Int))=true:=rfl
    have k2:decide (((0:Nat):Int)≤1000)=true:=rfl
    have k3:Zq .i64 (3+((0:Nat):Int))=3+((0:Nat):Int):=rfl
    have k4:Zq .i64 (8+((0:Nat):Int))=8+((0:Nat):Int):=rfl
    simp only [g,k0,k1,k2,k3,k4,e0,e1,e2,e3,Xx,↓A0,A0]
    by_cases h1:Zb bd % 16=((0:Nat):Int)
    all_goals by_cases h2:Zb bd % 16=8+((0:Nat):Int)
    ·have hE:Zk (Zp ((0:Nat):Int) (Zu 0) lf xp bd)=Zd [Zw (Zu 0).name,Zw (Zu 0).inst,Zz Yv (Yk ((0:Nat):Int)),Zz Zy (3+((0:Nat):Int)),Zz Zy (1000+Zb xp*100),Zz Zy (Zb lf),Zz Zy (1+Zb bd / 16 % 3),Zz Zy 0,Zz Zy 0]:=by
      unfold Zk Zp
      dsimp only
      rw [if_pos h2,if_pos h1]
     rw [sel_pos (by simpa using h1),sel_pos (by simpa using h2),chk_of (by rfl),← hE]
     exact ⟨_,rfl,1,rfl,by decide,by decide⟩
    ·have hE:Zk (Zp ((0:Nat):Int) (Zu 0) lf xp bd)=Zd [Zw (Zu 0).name,Zw (Zu 0).inst,Zz Yv (Yk ((0:Nat):Int)),Zz Zy (3+((0:Nat):Int)),Zz Zy (0),Zz Zy (Zb lf),Zz Zy (1+Zb bd / 16 % 3),Zz Zy 0,Zz Zy 0]:=by
      unfold Zk Zp
      dsimp only
      rw [if_neg h2,if_pos h1]
     rw [sel_pos (by simpa using h1),sel_neg (by simpa using h2),chk_of (by rfl),← hE]
     exact ⟨_,rfl,1,rfl,by decide,by decide⟩
    ·have hE:Zk (Zp ((0:Nat):Int) (Zu 0) lf xp bd)=Zd [Zw (Zu 0).name,Zw (Zu 0).inst,Zz Yv (Yk ((0:Nat):Int)),Zz Zy (3+((0:Nat):Int)),Zz Zy (1000+Zb xp*100),Zz Zy (Zb lf),Zz Zy (0),Zz Zy 0,Zz Zy 0]:=by
      unfold Zk Zp
      dsimp only
      rw [if_pos h2,if_neg h1]
     rw [sel_neg (by simpa using h1),sel_pos (by simpa using h2),chk_of (by rfl),← hE]
     exact ⟨_,rfl,1,rfl,by decide,by decide⟩
    ·have hE:Zk (Zp ((0:Nat):Int) (Zu 0) lf xp bd)=Zd [Zw (Zu 0).name,Zw (Zu 0).inst,Zz Yv (Yk ((0:Nat):Int)),Zz Zy (3+((0:Nat):Int)),Zz Zy (0),Zz Zy (Zb lf),Zz Zy (0),Zz Zy 0,Zz Zy 0]:=by
      unfold Zk Zp
      dsimp only
      rw [if_neg h2,if_neg h1]
     rw [sel_neg (by simpa using h1),sel_neg (by simpa using h2),chk_of (by rfl),← hE]
     exact ⟨_,rfl,1,rfl,by decide,by decide⟩
   ·have g:Yb [Zd [Zw (Zu 0).name,Zw (Zu 0).inst,Zw (Zu 0).realm],Zd [Zw (Zu 1).name,Zw (Zu 1).inst,Zw (Zu 1).realm],Zd [Zw (Zu 2).name,Zw (Zu 2).inst,Zw (Zu 2).realm],Zd [Zw (Zx 2).name,Zw (Zx 2).inst,Zw (Zx 2).realm],Zd [Zw (Zx 0).name,Zw (Zx 0).inst,Zw (Zx 0).realm],Zd [Zw (Zx 1).name,Zw (Zx 1).inst,Zw (Zx 1).realm]] (Zf ((1:Nat):Int)) Yn=Zd [Zw (Zu 1).name,Zw (Zu 1).inst,Zw (Zu 1).realm]:=rfl
    have k0:decide (((1:Nat):Int)<((Zv [Zd [Zw (Zu 0).name,Zw (Zu 0).inst,Zw (Zu 0).realm],Zd [Zw (Zu 1).name,Zw (Zu 1).inst,Zw (Zu 1).realm],Zd [Zw (Zu 2).name,Zw (Zu 2).inst,Zw (Zu 2).realm],Zd [Zw (Zx 2).name,Zw (Zx 2).inst,Zw (Zx 2).realm],Zd [Zw (Zx 0).name,Zw (Zx 0).inst,Zw (Zx 0).realm],Zd [Zw (Zx 1).name,Zw (Zx 1).inst,Zw (Zx 1).realm]]:Nat):Int))=true:=rfl
    have k1:decide ((0:Int)≤((1:Nat):Int))=true:=rfl
    have k2:decide (((1:Nat):Int)≤1000)=true:=rfl
    have k3:Zq .i64 (3+((1:Nat):Int))=3+((1:Nat):Int):=rfl
    have k4:Zq .i64 (8+((1:Nat):Int))=8+((1:Nat):Int):=rfl
    simp only [g,k0,k1,k2,k3,k4,e0,e1,e2,e3,Xx,↓A0,A0]
    by_cases h1:Zb bd % 16=((1:Nat):Int)
    all_goals by_cases h2:Zb bd % 16=8+((1:Nat):Int)
    ·have hE:Zk (Zp ((1:Nat):Int) (Zu 1) lf xp bd)=Zd [Zw (Zu 1).name,Zw (Zu 1).inst,Zz Yv (Yk ((1:Nat):Int)),Zz Zy (3+((1:Nat):Int)),Zz Zy (1000+Zb xp*100),Zz Zy (Zb lf),Zz Zy (1+Zb bd / 16 % 3),Zz Zy 0,Zz Zy 0]:=by
      unfold Zk Zp
      dsimp only
      rw [if_pos h2,if_pos h1]
     rw [sel_pos (by simpa using h1),sel_pos (by simpa using h2),chk_of (by rfl),← hE]
     exact ⟨_,rfl,2,rfl,by decide,by decide⟩
    ·have hE:Zk (Zp ((1:Nat):Int) (Zu 1) lf xp bd)=Zd [Zw (Zu 1).name,Zw (Zu 1).inst,Zz Yv (Yk ((1:Nat):Int)),Zz Zy (3+((1:Nat):Int)),Zz Zy (0),Zz Zy (Zb lf),Zz Zy (1+Zb bd / 16 % 3),Zz Zy 0,Zz Zy 0]:=by
      unfold Zk Zp
      dsimp only
      rw [if_neg h2,if_pos h1]
     rw [sel_pos (by simpa using h1),sel_neg (by simpa using h2),chk_of (by rfl),← hE]
     exact ⟨_,rfl,2,rfl,by decide,by decide⟩
    ·have hE:Zk (Zp ((1:Nat):Int) (Zu 1) lf xp bd)=Zd [Zw (Zu 1).name,Zw (Zu 1).inst,Zz Yv (Yk ((1:Nat):Int)),Zz Zy (3+((1:Nat):Int)),Zz Zy (1000+Zb xp*100),Zz Zy (Zb lf),Zz Zy (0),Zz Zy 0,Zz Zy 0]:=by
      unfold Zk Zp
      dsimp only
      rw [if_pos h2,if_neg h1]
     rw [sel_neg (by simpa using h1),sel_pos (by simpa using h2),chk_of (by rfl),← hE]
     exact ⟨_,rfl,2,rfl,by decide,by decide⟩
    ·have hE:Zk (Zp ((1:Nat):Int) (Zu 1) lf xp bd)=Zd [Zw (Zu 1).name,Zw (Zu 1).inst,Zz Yv (Yk ((1:Nat):Int)),Zz Zy (3+((1:Nat):Int)),Zz Zy (0),Zz Zy (Zb lf),Zz Zy (0),Zz Zy 0,Zz Zy 0]:=by
      unfold Zk Zp
      dsimp only
      rw [if_neg h2,if_neg h1]
     rw [sel_neg (by simpa using h1),sel_neg (by simpa using h2),chk_of (by rfl),← hE]
     exact ⟨_,rfl,2,rfl,by decide,by decide⟩
   ·have g:Yb [Zd [Zw (Zu 0).name,Zw (Zu 0).inst,Zw (Zu 0).realm],Zd [Zw (Zu 1).name,Zw (Zu 1).inst,Zw (Zu 1).realm],Zd [Zw (Zu 2).name,Zw (Zu 2).inst,Zw (Zu 2).realm],Zd [Zw (Zx 2).name,Zw (Zx 2).inst,Zw (Zx 2).realm],Zd [Zw (Zx 0).name,Zw (Zx 0).inst,Zw (Zx 0).realm],Zd [Zw (Zx 1).name,Zw (Zx 1).inst,Zw (Zx 1).realm]] (Zf ((2:Nat):Int)) Yn=Zd [Zw (Zu 2).name,Zw (Zu 2).inst,Zw (Zu 2).realm]:=rfl
    have k0:decide (((2:Nat):Int)<((Zv [Zd [Zw (Zu 0).name,Zw (Zu 0).inst,Zw (Zu 0).realm],Zd [Zw (Zu 1).name,Zw (Zu 1).inst,Zw (Zu 1).realm],Zd [Zw (Zu 2).name,Zw (Zu 2).inst,Zw (Zu 2).realm],Zd [Zw (Zx 2).name,Zw (Zx 2).inst,Zw (Zx 2).realm],Zd [Zw (Zx 0).name,Zw (Zx 0).inst,Zw (Zx 0).realm],Zd [Zw (Zx 1).name,Zw (Zx 1).inst,Zw (Zx 1).realm]]:Nat):Int))=true:=rfl
    have k1:decide ((0:Int)≤((2:Nat):Int))=true:=rfl
    have k2:decide (((2:Nat):Int)≤1000)=true:=rfl
    have k3:Zq .i64 (3+((2:Nat):Int))=3+((2:Nat):Int):=rfl
    have k4:Zq .i64 (8+((2:Nat):Int))=8+((2:Nat):Int):=rfl
    simp only [g,k0,k1,k2,k3,k4,e0,e1,e2,e3,Xx,↓A0,A0]
    by_cases h1:Zb bd % 16=((2:Nat):Int)
    all_goals by_cases h2:Zb bd % 16=8+((2:Nat):Int)
    ·have hE:Zk (Zp ((2:Nat):Int) (Zu 2) lf xp bd)=Zd [Zw (Zu 2).name,Zw (Zu 2).inst,Zz Yv (Yk ((2:Nat):Int)),Zz Zy (3+((2:Nat):Int)),Zz Zy (1000+Zb xp*100),Zz Zy (Zb lf),Zz Zy (1+Zb bd / 16 % 3),Zz Zy 0,Zz Zy 0]:=by
      unfold Zk Zp
      dsimp only
      rw [if_pos h2,if_pos h1]
     rw [sel_pos (by simpa using h1),sel_pos (by simpa using h2),chk_of (by rfl),← hE]
     exact ⟨_,rfl,3,rfl,by decide,by decide⟩
    ·have hE:Zk (Zp ((2:Nat):Int) (Zu 2) lf xp bd)=Zd [Zw (Zu 2).name,Zw (Zu 2).inst,Zz Yv (Yk ((2:Nat):Int)),Zz Zy (3+((2:Nat):Int)),Zz Zy (0),Zz Zy (Zb lf),Zz Zy (1+Zb bd / 16 % 3),Zz Zy 0,Zz Zy 0]:=by
      unfold Zk Zp
      dsimp only
      rw [if_neg h2,if_pos h1]
     rw [sel_pos (by simpa using h1),sel_neg (by simpa using h2),chk_of (by rfl),← hE]
     exact ⟨_,rfl,3,rfl,by decide,by decide⟩
    ·have hE:Zk (Zp ((2:Nat):Int) (Zu 2) lf xp bd)=Zd [Zw (Zu 2).name,Zw (Zu 2).inst,Zz Yv (Yk ((2:Nat):Int)),Zz Zy (3+((2:Nat):Int)),Zz Zy (1000+Zb xp*100),Zz Zy (Zb lf),Zz Zy (0),Zz Zy 0,Zz Zy 0]:=by
      unfold Zk Zp
      dsimp only
      rw [if_pos h2,if_neg h1]
     rw [sel_neg (by simpa using h1),sel_pos (by simpa using h2),chk_of (by rfl),← hE]
     exact ⟨_,rfl,3,rfl,by decide,by decide⟩
    ·have hE:Zk (Zp ((2:Nat):Int) (Zu 2) lf xp bd)=Zd [Zw (Zu 2).name,Zw (Zu 2).inst,Zz Yv (Yk ((2:Nat):Int)),Zz Zy (3+((2:Nat):Int)),Zz Zy (0),Zz Zy (Zb lf),Zz Zy (0),Zz Zy 0,Zz Zy 0]:=by
      unfold Zk Zp
      dsimp only
      rw [if_neg h2,if_neg h1]
     rw [sel_neg (by simpa using h1),sel_neg (by simpa using h2),chk_of (by rfl),← hE]
     exact ⟨_,rfl,3,rfl,by decide,by decide⟩
   ·have g:Yb [Zd [Zw (Zu 0).name,Zw (Zu 0).inst,Zw (Zu 0).realm],Zd [Zw (Zu 1).name,Zw (Zu 1).inst,Zw (Zu 1).realm],Zd [Zw (Zu 2).name,Zw (Zu 2).inst,Zw (Zu 2).realm],Zd [Zw (Zx 2).name,Zw (Zx 2).inst,Zw (Zx 2).realm],Zd [Zw (Zx 0).name,Zw (Zx 0).inst,Zw (Zx 0).realm],Zd [Zw (Zx 1).name,Zw (Zx 1).inst,Zw (Zx 1).realm]] (Zf ((3:Nat):Int)) Yn=Zd [Zw (Zx 2).name,Zw (Zx 2).inst,Zw (Zx 2).realm]:=rfl
    have k0:decide (((3:Nat):Int)<((Zv [Zd [Zw (Zu 0).name,Zw (Zu 0).inst,Zw (Zu 0).realm],Zd [Zw (Zu 1).name,Zw (Zu 1).inst,Zw (Zu 1).realm],Zd [Zw (Zu 2).name,Zw (Zu 2).inst,Zw (Zu 2).realm],Zd [Zw (Zx 2).name,Zw (Zx 2).inst,Zw (Zx 2).realm],Zd [Zw (Zx 0).name,Zw (Zx 0).inst,Zw (Zx 0).realm],Zd [Zw (Zx 1).name,Zw (Zx 1).inst,Zw (Zx 1).realm]]:Nat):Int))=true:=rfl
    have k1:decide ((0:Int)≤((3:Nat):Int))=true:=rfl
    have k2:decide (((3:Nat):Int)≤1000)=true:=rfl
    have k3:Zq .i64 (3+((3:Nat):Int))=3+((3:Nat):Int):=rfl
    have k4:Zq .i64 (8+((3:Nat):Int))=8+((3:Nat):Int):=rfl
    simp only [g,k0,k1,k2,k3,k4,e0,e1,e2,e3,Xx,↓A0,A0]
    by_cases h1:Zb bd % 16=((3:Nat):Int)
    all_goals by_cases h2:Zb bd % 16=8+((3:Nat):Int)
    ·have hE:Zk (Zp ((3:Nat):Int) (Zx 2) lf xp bd)=Zd [Zw (Zx 2).name,Zw (Zx 2).inst,Zz Yv (Yk ((3:Nat):Int)),Zz Zy (3+((3:Nat):Int)),Zz Zy (1000+Zb xp*100),Zz Zy (Zb lf),Zz Zy (1+Zb bd / 16 % 3),Zz Zy 0,Zz Zy 0]:=by
      unfold Zk Zp
      dsimp only
      rw [if_pos h2,if_pos h1]
     rw [sel_pos (by simpa using h1),sel_pos (by simpa using h2),chk_of (by rfl),← hE]
     exact ⟨_,rfl,4,rfl,by decide,by decide⟩
    ·have hE:Zk (Zp ((3:Nat):Int) (Zx 2) lf xp bd)=Zd [Zw (Zx 2).name,Zw (Zx 2).inst,Zz Yv (Yk ((3:Nat):Int)),Zz Zy (3+((3:Nat):Int)),Zz Zy (0),Zz Zy (Zb lf),Zz Zy (1+Zb bd / 16 % 3),Zz Zy 0,Zz Zy 0]:=by
      unfold Zk Zp
      dsimp only
      rw [if_neg h2,if_pos h1]
     rw [sel_pos (by simpa using h1),sel_neg (by simpa using h2),chk_of (by rfl),← hE]
     exact ⟨_,rfl,4,rfl,by decide,by decide⟩
    ·have hE:Zk (Zp ((3:Nat):Int) (Zx 2) lf xp bd)=Zd [Zw (Zx 2).name,Zw (Zx 2).inst,Zz Yv (Yk ((3:Nat):Int)),Zz Zy (3+((3:Nat):Int)),Zz Zy (1000+Zb xp*100),Zz Zy (Zb lf),Zz Zy (0),Zz Zy 0,Zz Zy 0]:=by
      unfold Zk Zp
      dsimp only
      rw [if_pos h2,if_neg h1]
     rw [sel_neg (by simpa using h1),sel_pos (by simpa using h2),chk_of (by rfl),← hE]
     exact ⟨_,rfl,4,rfl,by decide,by decide⟩
    ·have hE:Zk (Zp ((3:Nat):Int) (Zx 2) lf xp bd)=Zd [Zw (Zx 2).name,Zw (Zx 2).inst,Zz Yv (Yk ((3:Nat):Int)),Zz Zy (3+((3:Nat):Int)),Zz Zy (0),Zz Zy (Zb lf),Zz Zy (0),Zz Zy 0,Zz Zy 0]:=by
      unfold Zk Zp
      dsimp only
      rw [if_neg h2,if_neg h1]
     rw [sel_neg (by simpa using h1),sel_neg (by simpa using h2),chk_of (by rfl),← hE]
     exact ⟨_,rfl,4,rfl,by decide,by decide⟩
   ·have g:Yb [Zd [Zw (Zu 0).name,Zw (Zu 0).inst,Zw (Zu 0).realm],Zd [Zw (Zu 1).name,Zw (Zu 1).inst,Zw (Zu 1).realm],Zd [Zw (Zu 2).name,Zw (Zu 2).inst,Zw (Zu 2).realm],Zd [Zw (Zx 2).name,Zw (Zx 2).inst,Zw (Zx 2).realm],Zd [Zw (Zx 0).name,Zw (Zx 0).inst,Zw (Zx 0).realm],Zd [Zw (Zx 1).name,Zw (Zx 1).inst,Zw (Zx 1).realm]] (Zf ((4:Nat):Int)) Yn=Zd [Zw (Zx 0).name,Zw (Zx 0).inst,Zw (Zx 0).realm]:=rfl
    have k0:decide (((4:Nat):Int)<((Zv [Zd [Zw (Zu 0).name,Zw (Zu 0).inst,Zw (Zu 0).realm],Zd [Zw (Zu 1).name,Zw (Zu 1).inst,Zw (Zu 1).realm],Zd [Zw (Zu 2).name,Zw (Zu 2).inst,Zw (Zu 2).realm],Zd [Zw (Zx 2).name,Zw (Zx 2).inst,Zw (Zx 2).realm],Zd [Zw (Zx 0).name,Zw (Zx 0).inst,Zw (Zx 0).realm],Zd [Zw (Zx 1).name,Zw (Zx 1).inst,Zw (Zx 1).realm]]:Nat):Int))=true:=rfl
    have k1:decide ((0:Int)≤((4:Nat):Int))=true:=rfl
    have k2:decide (((4:Nat):Int)≤1000)=true:=rfl
    have k3:Zq .i64 (3+((4:Nat):Int))=3+((4:Nat):Int):=rfl
    have k4:Zq .i64 (8+((4:Nat):Int))=8+((4:Nat):Int):=rfl
    simp only [g,k0,k1,k2,k3,k4,e0,e1,e2,e3,Xx,↓A0,A0]
    by_cases h1:Zb bd % 16=((4:Nat):Int)
    all_goals by_cases h2:Zb bd % 16=8+((4:Nat):Int)
    ·have hE:Zk (Zp ((4:Nat):Int) (Zx 0) lf xp bd)=Zd [Zw (Zx 0).name,Zw (Zx 0).inst,Zz Yv (Yk ((4:Nat):Int)),Zz Zy (3+((4:Nat):Int)),Zz Zy (1000+Zb xp*100),Zz Zy (Zb lf),Zz Zy (1+Zb bd / 16 % 3),Zz Zy 0,Zz Zy 0]:=by
      unfold Zk Zp
      dsimp only
      rw [if_pos h2,if_pos h1]
     rw [sel_pos (by simpa using h1),sel_pos (by simpa using h2),chk_of (by rfl),← hE]
     exact ⟨_,rfl,5,rfl,by decide,by decide⟩
    ·have hE:Zk (Zp ((4:Nat):Int) (Zx 0) lf xp bd)=Zd [Zw (Zx 0).name,Zw (Zx 0).inst,Zz Yv (Yk ((4:Nat):Int)),Zz Zy (3+((4:Nat):Int)),Zz Zy (0),Zz Zy (Zb lf),Zz Zy (1+Zb bd / 16 % 3),Zz Zy 0,Zz Zy 0]:=by
      unfold Zk Zp
      dsimp only
      rw [if_neg h2,if_pos h1]
     rw [sel_pos (by simpa using h1),sel_neg (by simpa using h2),chk_of (by rfl),← hE]
     exact ⟨_,rfl,5,rfl,by decide,by decide⟩
    ·have hE:Zk (Zp ((4:Nat):Int) (Zx 0) lf xp bd)=Zd [Zw (Zx 0).name,Zw (Zx 0).inst,Zz Yv (Yk ((4:Nat):Int)),Zz Zy (3+((4:Nat):Int)),Zz Zy (1000+Zb xp*100),Zz Zy (Zb lf),Zz Zy (0),Zz Zy 0,Zz Zy 0]:=by
      unfold Zk Zp
      dsimp only
      rw [if_pos h2,if_neg h1]
     rw [sel_neg (by simpa using h1),sel_pos (by simpa using h2),chk_of (by rfl),← hE]
     exact ⟨_,rfl,5,rfl,by decide,by decide⟩
    ·have hE:Zk (Zp ((4:Nat):Int) (Zx 0) lf xp bd)=Zd [Zw (Zx 0).name,Zw (Zx 0).inst,Zz Yv (Yk ((4:Nat):Int)),Zz Zy (3+((4:Nat):Int)),Zz Zy (0),Zz Zy (Zb lf),Zz Zy (0),Zz Zy 0,Zz Zy 0]:=by
      unfold Zk Zp
      dsimp only
      rw [if_neg h2,if_neg h1]
     rw [sel_neg (by simpa using h1),sel_neg (by simpa using h2),chk_of (by rfl),← hE]
     exact ⟨_,rfl,5,rfl,by decide,by decide⟩
   ·have g:Yb [Zd [Zw (Zu 0).name,Zw (Zu 0).inst,Zw (Zu 0).realm],Zd [Zw (Zu 1).name,Zw (Zu 1).inst,Zw (Zu 1).realm],Zd [Zw (Zu 2).name,Zw (Zu 2).inst,Zw (Zu 2).realm],Zd [Zw (Zx 2).name,Zw (Zx 2).inst,Zw (Zx 2).realm],Zd [Zw (Zx 0).name,Zw (Zx 0).inst,Zw (Zx 0).realm],Zd [Zw (Zx 1).name,Zw (Zx 1).inst,Zw (Zx 1).realm]] (Zf ((5:Nat):Int)) Yn=Zd [Zw (Zx 1).name,Zw (Zx 1).inst,Zw (Zx 1).realm]:=rfl
    have k0:decide (((5:Nat):Int)<((Zv [Zd [Zw (Zu 0).name,Zw (Zu 0).inst,Zw (Zu 0).realm],Zd [Zw (Zu 1).name,Zw (Zu 1).inst,Zw (Zu 1).realm],Zd [Zw (Zu 2).name,Zw (Zu 2).inst,Zw (Zu 2).realm],Zd [Zw (Zx 2).name,Zw (Zx 2).inst,Zw (Zx 2).realm],Zd [Zw (Zx 0).name,Zw (Zx 0).inst,Zw (Zx 0).realm],Zd [Zw (Zx 1).name,Zw (Zx 1).inst,Zw (Zx 1).realm]]:Nat):Int))=true:=rfl
    have k1:decide ((0:Int)≤((5:Nat):Int))=true:=rfl
    have k2:decide (((5:Nat):Int)≤1000)=true:=rfl
    have k3:Zq .i64 (3+((5:Nat):Int))=3+((5:Nat):Int):=rfl
    have k4:Zq .i64 (8+((5:Nat):Int))=8+((5:Nat):Int):=rfl
    simp only [g,k0,k1,k2,k3,k4,e0,e1,e2,e3,Xx,↓A0,A0]
    by_cases h1:Zb bd % 16=((5:Nat):Int)
    all_goals by_cases h2:Zb bd % 16=8+((5:Nat):Int)
    ·have hE:Zk (Zp ((5:Nat):Int) (Zx 1) lf xp bd)=Zd [Zw (Zx 1).name,Zw (Zx 1).inst,Zz Yv (Yk ((5:Nat):Int)),Zz Zy (3+((5:Nat):Int)),Zz Zy (1000+Zb xp*100),Zz Zy (Zb lf),Zz Zy (1+Zb bd / 16 % 3),Zz Zy 0,Zz Zy 0]:=by
      unfold Zk Zp
      dsimp only
      rw [if_pos h2,if_pos h1]
     rw [sel_pos (by simpa using h1),sel_pos (by simpa using h2),chk_of (by rfl),← hE]
     exact ⟨_,rfl,6,rfl,by decide,by decide⟩
    ·have hE:Zk (Zp ((5:Nat):Int) (Zx 1) lf xp bd)=Zd [Zw (Zx 1).name,Zw (Zx 1).inst,Zz Yv (Yk ((5:Nat):Int)),Zz Zy (3+((5:Nat):Int)),Zz Zy (0),Zz Zy (Zb lf),Zz Zy (1+Zb bd / 16 % 3),Zz Zy 0,Zz Zy 0]:=by
      unfold Zk Zp
      dsimp only
      rw [if_neg h2,if_pos h1]
     rw [sel_pos (by simpa using h1),sel_neg (by simpa using h2),chk_of (by rfl),← hE]
     exact ⟨_,rfl,6,rfl,by decide,by decide⟩
    ·have hE:Zk (Zp ((5:Nat):Int) (Zx 1) lf xp bd)=Zd [Zw (Zx 1).name,Zw (Zx 1).inst,Zz Yv (Yk ((5:Nat):Int)),Zz Zy (3+((5:Nat):Int)),Zz Zy (1000+Zb xp*100),Zz Zy (Zb lf),Zz Zy (0),Zz Zy 0,Zz Zy 0]:=by
      unfold Zk Zp
      dsimp only
      rw [if_pos h2,if_neg h1]
     rw [sel_neg (by simpa using h1),sel_pos (by simpa using h2),chk_of (by rfl),← hE]
     exact ⟨_,rfl,6,rfl,by decide,by decide⟩
    ·have hE:Zk (Zp ((5:Nat):Int) (Zx 1) lf xp bd)=Zd [Zw (Zx 1).name,Zw (Zx 1).inst,Zz Yv (Yk ((5:Nat):Int)),Zz Zy (3+((5:Nat):Int)),Zz Zy (0),Zz Zy (Zb lf),Zz Zy (0),Zz Zy 0,Zz Zy 0]:=by
      unfold Zk Zp
      dsimp only
      rw [if_neg h2,if_neg h1]
     rw [sel_neg (by simpa using h1),sel_neg (by simpa using h2),chk_of (by rfl),← hE]
     exact ⟨_,rfl,6,rfl,by decide,by decide⟩
   ·exact ⟨_,rfl,rfl⟩
  ·rintro _ rfl
   rfl
 ·cases h
theorem w16:Walked Tryz.prog G 16 4 sp16:=by
 refine ⟨Tryz.f16,Tryz.func16,by decide +kernel,rfl,fun xs bl r h=> ?_⟩
 unfold sp16 at h
 split at h
 ·rename_i rl els xls
  obtain ⟨hpre,h2⟩:=chk_inv h;cases h2
  refine Eq.trans (b:=(let t1:AV:=Zw [(107:UInt8),(114:UInt8),(98:UInt8),(116:UInt8),(103:UInt8),(116:UInt8)];let t2:Int×Int:=Vu (List.map Kerb.toEntry els) [(107:UInt8),(114:UInt8),(98:UInt8),(116:UInt8),(103:UInt8),(116:UInt8)] rl;let t3:List AV:=[Yq 4 xls,Zz .i64 (↑(Zv xls):Int),Zz .i64 0];let t0:Option (AV×Blocks):=Zj (loopM (fun (st:List AV)=>cStr st fun b r=>cSl 9 r fun b_1 r=>onCons r fun x r=>Wh x fun b_2=>cSl 4 r fun b_3 r=>cInt .i64 r fun n r=>cInt .i64 r fun n_1 r=>onNil r (sel (decide (n_1<n)) (chk (decide (0≤n_1)&&decide (n_1<(↑(Zv b_3):Int))&&true) (Wx (Yb b_3 (Zf n_1) Yn) fun cs=>cStr cs fun b_4 r=>cStr r fun b_5 r=>cInt .i64 r fun n_2 r=>cInt .u64 r fun n_3 r=>onNil r (sel (b_5==b) (chk (room (Zv b_2+Zv [Zd [t1,Zw b_5,Zw b_4,Zz .i64 n_2,Zz .u64 n_3]]) (nat_lit 64)) (some (Vp [Zw b,Yq 9 b_1,Yf (b_2++[Zd [t1,Zw b_5,Zw b_4,Zz .i64 n_2,Zz .u64 n_3]]),Yq 4 b_3,Zz .i64 n,Zz .i64 (Zq .i64 (n_1+1))]))) (some (Vp [Zw b,Yq 9 b_1,Yf b_2,Yq 4 b_3,Zz .i64 n,Zz .i64 (Zq .i64 (n_1+1))]))))) (some (Um (Ww 0,[Zw b,Yq 9 b_1,Yf b_2,Yq 4 b_3,Zz .i64 n,Zz .i64 n_1]))))) (Zw rl::Yq 9 els::Yf []::t3)) fun (r:Ex×List AV)=>cStr (Zn r) fun b r_1=>cSl 9 r_1 fun b r_2=>onCons r_2 fun x r_3=>Wh x fun b=>cSl 4 r_3 fun b_1 r_4=>cInt .i64 r_4 fun n r_5=>cInt .i64 r_5 fun n r_6=>onNil r_6 (exK r.1 none fun (j:Nat)=>sel (Uu j 0) (some (Yq 5 b,[])) none);Zj (chk (List.all els Kerb.isEntry&&decide (Zv els≤1000000)) (some (Zh [Zz .i64 (Yz t2),Zz .i64 (Zn t2)],[]))) (kT fun vs=>cInt .i64 vs fun n r=>cInt .i64 r fun n_1 r=>onNil r (sel (n_1==0) (chk (decide (0≤n)&&decide (n<(↑(Zv els):Int))&&true) (Wx (Yb els (Zf n) Yn) fun cs=>cStr cs fun b r=>cStr r fun b r=>cInt .u64 r fun n r=>cInt .i64 r fun n_2 r=>let t4:List AV:=[Zd [t1,Zw rl,Zw rl,Zz .i64 n_2,Zz .u64 n]];cInt .i64 r fun n_3 r=>cInt .i64 r fun n_4 r=>cInt .i64 r fun n_5 r=>cInt .i64 r fun n_6 r=>cInt .i64 r fun n_7 r=>onNil r (Zj (chk (decide (0≤n)&&decide (n<18446744073709551616)) (some (Zg (Xz n),[]))) (kL fun b=>sel b (chk (room (Zv t4) (nat_lit 64)) (Zj (loopM (fun (st:List AV)=>cStr st fun b r=>cSl 9 r fun b_1 r=>onCons r fun x r=>Wh x fun b_2=>cSl 4 r fun b_3 r=>cInt .i64 r fun n r=>cInt .i64 r fun n_8 r=>let t5:List AV:=[Yq 4 b_3,Zz .i64 n,Zz .i64 (Zq .i64 (n_8+1))];onNil r (sel (decide (n_8<n)) (chk (decide (0≤n_8)&&decide (n_8<(↑(Zv b_3):Int))&&true) (Wx (Yb b_3 (Zf n_8) Yn) fun cs=>cStr cs fun b_4 r=>cStr r fun b_5 r=>cInt .i64 r fun n r=>cInt .u64 r fun n_9 r=>let t6:List AV:=[Zd [t1,Zw b_5,Zw b_4,Zz .i64 n,Zz .u64 n_9]];onNil r (sel (b_5==b) (chk (room (Zv b_2+Zv t6) (nat_lit 64)) (some (Vp (Zw b::Yq 9 b_1::Yf (b_2++t6)::t5)))) (some (Vp (Zw b::Yq 9 b_1::Yf b_2::t5)))))) (some (Um (Ww 0,[Zw b,Yq 9 b_1,Yf b_2,Yq 4 b_3,Zz .i64 n,Zz .i64 n_8]))))) (Zw rl::Yq 9 els::Yf t4::t3)) fun (r:Ex×List AV)=>cStr (Zn r) fun b r_1=>cSl 9 r_1 fun b r_2=>onCons r_2 fun x r_3=>Wh x fun b=>cSl 4 r_3 fun b_1 r_4=>cInt .i64 r_4 fun n r_5=>cInt .i64 r_5 fun n r_6=>onNil r_6 (exK r.1 none fun (j:Nat)=>sel (Uu j 0) (some (Yq 5 b,[])) none))) t0)))) t0)):Option (AV×Blocks))) (by kernel_rfl) ?_
  delta kT kL
  try dsimp only [cStr,cBs,cBool,cU8,cInt,cSl,l63]
  simp only [Xw,decide_eq_true_eq] at hpre
  obtain ⟨⟨⟨⟨ea,el⟩,xa⟩,xl⟩,lr⟩:=hpre
  obtain ⟨es,rfl,hok⟩:=Kerb.ents_of ea
  obtain ⟨cs,rfl,hcs⟩:=Kerb.cross_okof xa
  simp only [Ym] at el xl
  have r64:∀ {m:Nat},m≤1000002→Go.Abs.room m 64=true:=fun h=>by simp [Go.Abs.room];omega
  have hkr:([107,114,98,116,103,116]:List UInt8)=Kerb.krbtgt:=rfl
  obtain ⟨D,hD⟩:∃ D,Kerb.Db.mk rl es=D:=⟨_,rfl⟩
  have hDr:D.realm=rl:=by rw [← hD]
  have hDe:D.entries=es:=by rw [← hD]
  simp (config:={maxSteps:=10000000}) only [Kerb.map_toEntry,Kerb.map_toCross,Ym,hD,ea,el,decide_true,Xx,↓sInt,↓sU8,↓sBool,↓sStr,↓sBs,↓sSl,↓sAgg,↓sTup,↓sCons,↓sNil,↓sNilB,↓sChk,↓sChkBind,↓sSome,↓sOwnL,↓sConsB,↓sOwnB]
  obtain ⟨j,hj⟩:∃ j,(Vu es [107,114,98,116,103,116] rl).1=j:=⟨_,rfl⟩
  have hG:∀ H,Kerb.homeKeys D=H→Kerb.grantKeys D cs=H++Vz rl cs:=fun H h=>by unfold Kerb.grantKeys;rw [h,hDr]
  rw [hj]
  by_cases g1:(Vu es [107,114,98,116,103,116] rl).2=0
  case neg =>
   rw [sel_neg (by simpa using g1),hG [] (by unfold Kerb.homeKeys;rw [hDr,hDe,if_neg (fun h=>g1 h.1)])]
   refine loop_rounds (fun i:Nat=>[Zw rl,Yq 9 (es.map Zk),Yf (([]++Vz rl (cs.take i)).map Wv),Yq 4 (cs.map Yy),Zz Zy (cs.length:Int),Zz Zy (i:Int)]) (fun i=>i≤cs.length) (fun i=>cs.length-i) (fun r=>r=(Ww 0,(fun i:Nat=>[Zw rl,Yq 9 (es.map Zk),Yf (([]++Vz rl (cs.take i)).map Wv),Yq 4 (cs.map Yy),Zz Zy (cs.length:Int),Zz Zy (i:Int)]) cs.length)) 0 (Vx _) rfl ?_ ?_
   ·intro i hi
    simp (config:={maxSteps:=10000000}) only [Ym,↓sInt,↓sU8,↓sBool,↓sStr,↓sBs,↓sSl,↓sAgg,↓sTup,↓sCons,↓sNil,↓sNilB,↓sChk,↓sChkBind,↓sSome,↓sOwnL,↓sConsB,↓sOwnB]
    rcases Nat.lt_or_ge i cs.length with h1 | h1
    case inr =>
     have:i=cs.length:=by omega
     subst this
     rw [sel_neg (by simp)]
     exact ⟨_,rfl,rfl⟩
    rw [sel_pos (by simp;omega)]
    obtain ⟨c,hc⟩:∃ c,cs.getD i Wy=c:=⟨_,rfl⟩
    have hg:(cs.map Yy).getD i Yn=c.av:=by rw [Vh (d:=Wy) h1,hc]
    have hk:(decide ((0:Int)≤(i:Int))&&decide ((i:Int)<(cs.length:Int))&&true)=true:=by simp;omega
    have hs:=Kerb.crossKeys_step (r:=rl) h1 hc
    have hl1:=Kerb.crossKeys_len rl (cs.take i)
    have hl2:(cs.take i).length≤1000000:=by rw [List.length_take];omega
    rw [wrap_i64 (by omega) (by omega)]
    simp (config:={maxSteps:=10000000}) only [hk,hg,Xd,Yy,↓sInt,↓sU8,↓sBool,↓sStr,↓sBs,↓sSl,↓sAgg,↓sTup,↓sCons,↓sNil,↓sNilB,↓sChk,↓sChkBind,↓sSome,↓sOwnL,↓sConsB,↓sOwnB]
    by_cases h2:c.target=rl
    ·rw [if_pos h2] at hs
     rw [sel_pos (by simpa using h2)]
     have hlen:([]:List Kerb.SKey).length≤1:=by first | exact Vx _ | exact Nat.le_refl _
     rw [chk_of (r64 (by simp only [Ym,List.length_append,Vn,Uw];omega))]
     refine ⟨_,rfl,i+1,?_,by omega,by dsimp only;omega⟩
     dsimp only
     rw [hs,← List.append_assoc,List.map_append (l₂:=[Uz rl c])]
     first | rfl | (rw [h2];rfl) | (simp only [List.map_cons,List.map_nil,Uz,Wv,Kerb.tgs,h2])
    ·rw [if_neg h2,List.append_nil] at hs
     rw [sel_neg (by simpa using h2)]
     refine ⟨_,rfl,i+1,?_,by omega,by dsimp only;omega⟩
     dsimp only
     rw [hs]
     rfl
   ·rintro _ rfl
    simp (config:={maxSteps:=10000000}) only [List.take_length,↓sInt,↓sU8,↓sBool,↓sStr,↓sBs,↓sSl,↓sAgg,↓sTup,↓sCons,↓sNil,↓sNilB,↓sChk,↓sChkBind,↓sSome,↓sOwnL,↓sConsB,↓sOwnB]
    rfl
  rw [sel_pos (by simpa using g1)]
  obtain ⟨i0,i1⟩:=Kerb.findEnt_lt g1
  rw [hj] at i0 i1
  have hgj:(es.map Zk).getD j.toNat Yn=(Kerb.entAt D j).av:=by
   rw [Kerb.getD_ent i1]
   unfold Kerb.entAt
   rw [hDe]
  have hkj:(decide ((0:Int)≤j)&&decide (j<(es.length:Int))&&true)=true:=by simp;omega
  have hEo:(Kerb.entAt D j).ok:=by
   unfold Kerb.entAt
   rw [hDe]
   exact hok _ (Kerb.mem_row (d:=Kerb.noEntry) i1)
  have hj2:(Vu D.entries Kerb.krbtgt D.realm).1=j:=by rw [hDr,hDe];exact hj
  have g12:(Vu D.entries Kerb.krbtgt D.realm).2=0:=by rw [hDr,hDe];exact g1
  obtain ⟨E,hE⟩:∃ E,Kerb.entAt D j=E:=⟨_,rfl⟩
  rw [hE] at hgj hEo
  have hKy:=Kerb.isU64_iff.1 hEo.2.2.1
  have hky:(decide ((0:Int)≤E.key)&&decide (E.key<18446744073709551616))=true:=by simp;omega
  simp (config:={maxSteps:=10000000}) only [hkj,hgj,hky,Zk,↓sInt,↓sU8,↓sBool,↓sStr,↓sBs,↓sSl,↓sAgg,↓sTup,↓sCons,↓sNil,↓sNilB,↓sChk,↓sChkBind,↓sSome,↓sOwnL,↓sConsB,↓sOwnB]
  cases g2:Xz E.key
  ·rw [sel_false,hG [] (by unfold Kerb.homeKeys;rw [if_neg (fun h=>by have h2:=h.2;rw [hj2,hE,g2] at h2;cases h2)])]
   refine loop_rounds (fun i:Nat=>[Zw rl,Yq 9 (es.map Zk),Yf (([]++Vz rl (cs.take i)).map Wv),Yq 4 (cs.map Yy),Zz Zy (cs.length:Int),Zz Zy (i:Int)]) (fun i=>i≤cs.length) (fun i=>cs.length-i) (fun r=>r=(Ww 0,(fun i:Nat=>[Zw rl,Yq 9 (es.map Zk),Yf (([]++Vz rl (cs.take i)).map Wv),Yq 4 (cs.map Yy),Zz Zy (cs.length:Int),Zz Zy (i:Int)]) cs.length)) 0 (Vx _) rfl ?_ ?_
   ·intro i hi
    simp (config:={maxSteps:=10000000}) only [Ym,↓sInt,↓sU8,↓sBool,↓sStr,↓sBs,↓sSl,↓sAgg,↓sTup,↓sCons,↓sNil,↓sNilB,↓sChk,↓sChkBind,↓sSome,↓sOwnL,↓sConsB,↓sOwnB]
    rcases Nat.lt_or_ge i cs.length with h1 | h1
    case inr =>
     have:i=cs.length:=by omega
     subst this
     rw [sel_neg (by simp)]
     exact ⟨_,rfl,rfl⟩
    rw [sel_pos (by simp;omega)]
    obtain ⟨c,hc⟩:∃ c,cs.getD i Wy=c:=⟨_,rfl⟩
    have hg:(cs.map Yy).getD i Yn=c.av:=by rw [Vh (d:=Wy) h1,hc]
    have hk:(decide ((0:Int)≤(i:Int))&&decide ((i:Int)<(cs.length:Int))&&true)=true:=by simp;omega
    have hs:=Kerb.crossKeys_step (r:=rl) h1 hc
    have hl1:=Kerb.crossKeys_len rl (cs.take i)
    have hl2:(cs.take i).length≤1000000:=by rw [List.length_take];omega
    rw [wrap_i64 (by omega) (by omega)]
    simp (config:={maxSteps:=10000000}) only [hk,hg,Xd,Yy,↓sInt,↓sU8,↓sBool,↓sStr,↓sBs,↓sSl,↓sAgg,↓sTup,↓sCons,↓sNil,↓sNilB,↓sChk,↓sChkBind,↓sSome,↓sOwnL,↓sConsB,↓sOwnB]
    by_cases h2:c.target=rl
    ·rw [if_pos h2] at hs
     rw [sel_pos (by simpa using h2)]
     have hlen:([]:List Kerb.SKey).length≤1:=by first | exact Vx _ | exact Nat.le_refl _
     rw [chk_of (r64 (by simp only [Ym,List.length_append,Vn,Uw];omega))]
     refine ⟨_,rfl,i+1,?_,by omega,by dsimp only;omega⟩
     dsimp only
     rw [hs,← List.append_assoc,List.map_append (l₂:=[Uz rl c])]
     first | rfl | (rw [h2];rfl) | (simp only [List.map_cons,List.map_nil,Uz,Wv,Kerb.tgs,h2])
    ·rw [if_neg h2,List.append_nil] at hs
     rw [sel_neg (by simpa using h2)]
     refine ⟨_,rfl,i+1,?_,by omega,by dsimp only;omega⟩
     dsimp only
     rw [hs]
     rfl
   ·rintro _ rfl
    simp (config:={maxSteps:=10000000}) only [List.take_length,↓sInt,↓sU8,↓sBool,↓sStr,↓sBs,↓sSl,↓sAgg,↓sTup,↓sCons,↓sNil,↓sNilB,↓sChk,↓sChkBind,↓sSome,↓sOwnL,↓sConsB,↓sOwnB]
    rfl
  ·rw [sel_true,hG [Kerb.SKey.mk (Kerb.tgs rl rl) E.kvno E.key] (by unfold Kerb.homeKeys;rw [if_pos ⟨g12,by rw [hj2,hE];exact g2⟩,hj2,hE,hDr])]
   rw [chk_of (r64 (by simp only [Vn,Uw];omega))]
   refine loop_rounds (fun i:Nat=>[Zw rl,Yq 9 (es.map Zk),Yf (([Kerb.SKey.mk (Kerb.tgs rl rl) E.kvno E.key]++Vz rl (cs.take i)).map Wv),Yq 4 (cs.map Yy),Zz Zy (cs.length:Int),Zz Zy (i:Int)]) (fun i=>i≤cs.length) (fun i=>cs.length-i) (fun r=>r=(Ww 0,(fun i:Nat=>[Zw rl,Yq 9 (es.map Zk),Yf (([Kerb.SKey.mk (Kerb.tgs rl rl) E.kvno E.key]++Vz rl (cs.take i)).map Wv),Yq 4 (cs.map Yy),Zz Zy (cs.length:Int),Zz Zy (i:Int)]) cs.length)) 0 (Vx _) rfl ?_ ?_
   ·intro i hi
    simp (config:={maxSteps:=10000000}) only [Ym,↓sInt,↓sU8,↓sBool,↓sStr,↓sBs,↓sSl,↓sAgg,↓sTup,↓sCons,↓sNil,↓sNilB,↓sChk,↓sChkBind,↓sSome,↓sOwnL,↓sConsB,↓sOwnB]
    rcases Nat.lt_or_ge i cs.length with h1 | h1
    case inr =>
     have:i=cs.length:=by omega
     subst this
     rw [sel_neg (by simp)]
     exact ⟨_,rfl,rfl⟩
    rw [sel_pos (by simp;omega)]
    obtain ⟨c,hc⟩:∃ c,cs.getD i Wy=c:=⟨_,rfl⟩
    have hg:(cs.map Yy).getD i Yn=c.av:=by rw [Vh (d:=Wy) h1,hc]
    have hk:(decide ((0:Int)≤(i:Int))&&decide ((i:Int)<(cs.length:Int))&&true)=true:=by simp;omega
    have hs:=Kerb.crossKeys_step (r:=rl) h1 hc
    have hl1:=Kerb.crossKeys_len rl (cs.take i)
    have hl2:(cs.take i).length≤1000000:=by rw [List.length_take];omega
    rw [wrap_i64 (by omega) (by omega)]
    simp (config:={maxSteps:=10000000}) only [hk,hg,Xd,Yy,↓sInt,↓sU8,↓sBool,↓sStr,↓sBs,↓sSl,↓sAgg,↓sTup,↓sCons,↓sNil,↓sNilB,↓sChk,↓sChkBind,↓sSome,↓sOwnL,↓sConsB,↓sOwnB]
    by_cases h2:c.target=rl
    ·rw [if_pos h2] at hs
     rw [sel_pos (by simpa using h2)]
     have hlen:([Kerb.SKey.mk (Kerb.tgs rl rl) E.kvno E.key]:List Kerb.SKey).length≤1:=by first | exact Vx _ | exact Nat.le_refl _
     rw [chk_of (r64 (by simp only [Ym,List.length_append,Vn,Uw];omega))]
     refine ⟨_,rfl,i+1,?_,by omega,by dsimp only;omega⟩
     dsimp only
     rw [hs,← List.append_assoc,List.map_append (l₂:=[Uz rl c])]
     first | rfl | (rw [h2];rfl) | (simp only [List.map_cons,List.map_nil,Uz,Wv,Kerb.tgs,h2])
    ·rw [if_neg h2,List.append_nil] at hs
     rw [sel_neg (by simpa using h2)]
     refine ⟨_,rfl,i+1,?_,by omega,by dsimp only;omega⟩
     dsimp only
     rw [hs]
     rfl
   ·rintro _ rfl
    simp (config:={maxSteps:=10000000}) only [List.take_length,↓sInt,↓sU8,↓sBool,↓sStr,↓sBs,↓sSl,↓sAgg,↓sTup,↓sCons,↓sNil,↓sNilB,↓sChk,↓sChkBind,↓sSome,↓sOwnL,↓sConsB,↓sOwnB]
    rfl
 ·cases h
theorem w19:Walked Tryz.prog G 19 4 sp19:=by
 refine ⟨Tryz.f19,Tryz.func19,by decide +kernel,rfl,fun xs bl r h=> ?_⟩
 unfold sp19 at h
 split at h
 ·rename_i cu co cv cr lt tn mt cad cfr cis ctm ctk clf ccs cky ckv css ctt cau
  cases h
  refine Eq.trans (b:=(Zj (chk (decide (0≤Yh (Zq .i64 (↑(Xq cv):Int)) 6)&&decide (Yh (Zq .i64 (↑(Xq cv):Int)) 6≤4611686018427387904)) (some (Zd [Zw (Xj (Zx (Yh (Zq .i64 (↑(Xq cv):Int)) 6))),Zw (Xk (Zx (Yh (Zq .i64 (↑(Xq cv):Int)) 6))),Zw (Xv (Zx (Yh (Zq .i64 (↑(Xq cv):Int)) 6)))],[]))) fun (r:AV×Blocks)=>onNilB (Zn r) (Wx (Yz r) fun cs=>onCons cs fun x r=>AV.onStr x fun b=>onCons r fun x r=>AV.onStr x fun b_1=>onCons r fun x r=>AV.onStr x fun b_2=>onNil r (some (Zd [Zw b,Zw b_1,Zw b_2],[]))):Option (AV×Blocks))) (by kernel_rfl) ?_
  have b:=Up cv
  have f1:Yh (Zb cv) 6=Zb cv % 6:=Vw b.1
  simp only [Kerb.wrap_u8i,f1,↓A0,A0]
  rw [chk_of (by simp;omega)]
  rfl
 ·cases h
theorem w31:Walked Tryz.prog G 31 4 sp31:=by
 refine ⟨Tryz.f31,Tryz.func31,by decide +kernel,rfl,fun xs bl r h=> ?_⟩
 unfold sp31 at h
 split at h
 ·rename_i B at_ li bad
  obtain ⟨hpre,h2⟩:=chk_inv h;cases h2
  show runFnH (G.env 31 4) G.rts (G.own 31) Tryz.f31 _ _ [0]=_
  refine Eq.trans (b:=(Zj (chk (decide (Zv B≤140737488355328)) (some (Zh [Zz .i64 (Xp (Yx B at_ 4 li)),Zz .i64 (Xu (Yx B at_ 4 li)),Zz .i64 (Yd (Yx B at_ 4 li))],[]))) fun (r:AV×Blocks)=>onNilB (Zn r) (Vb (Yz r) fun vs=>onCons vs fun x r=>Yu .i64 x fun n=>onCons r fun x r=>Yu .i64 x fun n_1=>onCons r fun x r=>Yu .i64 x fun n_2=>onNil r (some (Zz .i64 n,[[Yw B,Zz .i64 (bif bad || !n_2==0 then at_ else n_1),Zg li,Zg (bad || !n_2==0)]]))):Option (AV×Blocks))) (by kernel_rfl) ?_
  simp only [A0]
  rw [chk_of hpre]
 ·cases h
theorem w32:Walked Tryz.prog G 32 4 sp32:=by
 refine ⟨Tryz.f32,Tryz.func32,by decide +kernel,rfl,fun xs bl r h=> ?_⟩
 unfold sp32 at h
 split at h
 ·rename_i B at_ li bad
  obtain ⟨hpre,h2⟩:=chk_inv h;cases h2
  show runFnH (G.env 32 4) G.rts (G.own 32) Tryz.f32 _ _ [0]=_
  refine Eq.trans (b:=(Zj (chk (decide (Zv B≤140737488355328)) (some (Zh [Zz .i64 (Xp (Yx B at_ 1 false)),Zz .i64 (Xu (Yx B at_ 1 false)),Zz .i64 (Yd (Yx B at_ 1 false))],[]))) fun (r:AV×Blocks)=>onNilB (Zn r) (Vb (Yz r) fun vs=>onCons vs fun x r=>Yu .i64 x fun n=>onCons r fun x r=>Yu .i64 x fun n_1=>onCons r fun x r=>Yu .i64 x fun n_2=>onNil r (some (Zz .i64 n,[[Yw B,Zz .i64 (bif bad || !n_2==0 then at_ else n_1),Zg li,Zg (bad || !n_2==0)]]))):Option (AV×Blocks))) (by kernel_rfl) ?_
  simp only [A0]
  rw [chk_of hpre]
 ·cases h
theorem w33:Walked Tryz.prog G 33 4 sp33:=by
 refine ⟨Tryz.f33,Tryz.func33,by decide +kernel,rfl,fun xs bl r h=> ?_⟩
 unfold sp33 at h
 split at h
 ·rename_i B at_ li bad
  obtain ⟨hpre,h2⟩:=chk_inv h;cases h2
  show runFnH (G.env 33 4) G.rts (G.own 33) Tryz.f33 _ _ [0]=_
  refine Eq.trans (b:=(Zj (chk (decide (Zv B≤140737488355328)) (some (Zh [Zz .i64 (Xp (Yx B at_ 2 li)),Zz .i64 (Xu (Yx B at_ 2 li)),Zz .i64 (Yd (Yx B at_ 2 li))],[]))) fun (r:AV×Blocks)=>onNilB (Zn r) (Vb (Yz r) fun vs=>onCons vs fun x r=>Yu .i64 x fun n=>onCons r fun x r=>Yu .i64 x fun n_1=>onCons r fun x r=>Yu .i64 x fun n_2=>onNil r (some (Zz .i64 n,[[Yw B,Zz .i64 (bif bad || !n_2==0 then at_ else n_1),Zg li,Zg (bad || !n_2==0)]]))):Option (AV×Blocks))) (by kernel_rfl) ?_
  simp only [A0]
  rw [chk_of hpre]
 ·cases h
theorem w35:Walked Tryz.prog G 35 4 sp35:=by
 refine ⟨Tryz.f35,Tryz.func35,by decide +kernel,rfl,fun xs bl r h=> ?_⟩
 unfold sp35 at h
 split at h
 ·rename_i li x y z t ex kv sd
  obtain ⟨hpre,h2⟩:=chk_inv h;cases h2
  refine Eq.trans (b:=(let t0:Option (AV×Blocks):=some (Zh [Yw [],Zz .i64 104],[]);let t1:Nat:=Zv (Uf 2 li)+Zv x+Zv y+Zv z;Zj (chk (l63 x&&l63 y&&l63 z) (some (Zg (Wg (Vj x y z)),[]))) (kL fun b=>sel (!b) (some (Zh [Yw [],Zz .i64 103],[])) (sel (!Zm t 4294967295) t0 (sel (!Zm ex 4294967295) t0 (sel (!Zm kv 255) t0 (sel (decide ((↑(Zv sd):Int)>1012)) (some (Zh [Yw [],Zz .i64 105],[])) (Zj (chk (decide (t1≤70368744170000)) (some (Yw (Kerb.putPrin (Uf 2 li) (Vj x y z)),[]))) (kB fun b=>Zj (chk (decide (Zv b≤70368744177664)) (some (Xf (b++Yg t 4 li),[]))) (kO fun l=>Zj (chk (decide (Zv l≤70368744177664)) (some (Xf (l++Yg 1 1 false),[]))) (kO fun l=>Zj (chk (decide (Zv l≤70368744177664)) (some (Xf (l++Yg ex 4 li),[]))) (kO fun l=>Zj (chk (decide (Zv l≤70368744177664)) (some (Xf (l++Yg kv 1 false),[]))) (kO fun l=>Zj (chk (decide (Zv l≤70368744177664)) (some (Xf (l++Yg (↑(Zv sd):Int) 2 li),[]))) (kO fun l=>chk (room (Zv l+Zv sd) 1) (some (Zh [Yw (l++sd),Zz .i64 0],[])))))))))))))):Option (AV×Blocks))) (by kernel_rfl) ?_
  delta kB kO kL
  try dsimp only [cStr,cBs,cBool,cU8,cInt,cSl,l63]
  simp only [Xw,decide_eq_true_eq] at hpre
  obtain ⟨⟨q1,q2⟩,q3⟩:=hpre
  simp only [A0]
  unfold Kerb.encodeReply
  rw [chk_of (by simp [q1,q2,q3])]
  cases h1:Wg ⟨x,y,z⟩
  ·rfl
  rw [Xy,sel_false]
  cases h4:Zm t 4294967295
  ·rfl
  rw [Xy,sel_false]
  cases h5:Zm ex 4294967295
  ·rfl
  rw [Xy,sel_false]
  cases h6:Zm kv 255
  ·rfl
  rw [Xy,sel_false]
  by_cases h7:1012<sd.length
  ·rw [sel_pos (by simp;omega),if_neg (by simp),if_neg (by simp),if_pos h7]
  have l1:=Kerb.valid_len h1
  have l4:=Kerb.header_len 2 li
  simp only at l1
  rw [sel_neg (by simp;omega),if_neg (by simp),if_neg (by simp),if_neg h7]
  rw [chk_of (by simp;omega),chk_of (by simp [Vv];omega),chk_of (by simp [Vv,Yp];omega),chk_of (by simp [Vv,Yp];omega),chk_of (by simp [Vv,Yp];omega),chk_of (by simp [Vv,Yp];omega),chk_of (Xh (by simp [Vv,Yp];omega))]
 ·cases h
theorem w37:Walked Tryz.prog G 37 4 sp37:=by
 refine ⟨Tryz.f37,Tryz.func37,by decide +kernel,rfl,fun xs bl r h=> ?_⟩
 unfold sp37 at h
 split at h
 ·rename_i li mu kv rl tk au tm lf sv ins
  obtain ⟨hpre,h2⟩:=chk_inv h;cases h2
  refine Eq.trans (b:=(sel mu (some (Zh [Yw [],Zz .i64 100],[])) (Zj (chk (l63 rl) (some (Zh [Yw (Kerb.Enc.val (Uh (Kerb.ApRequest.mk li mu kv rl tk au))),Zz .i64 (Kerb.Enc.err (Uh (Kerb.ApRequest.mk li mu kv rl tk au)))],[]))) (kT fun vs=>cBs vs fun b r=>cInt .i64 r fun n r=>onNil r (sel (!n==0) (some (Zh [Yw [],Zz .i64 n],[])) (Zj (chk (l63 sv) (some (Zg (Wp sv),[]))) (kL fun b_1=>sel (!b_1) (some (Zh [Yw [],Zz .i64 103],[])) (Zj (chk (l63 ins) (some (Zg (Wd ins),[]))) (kL fun b_2=>sel (!b_2) (some (Zh [Yw [],Zz .i64 103],[])) (sel (!Zm tm 4294967295) (some (Zh [Yw [],Zz .i64 104],[])) (sel (!Zm lf 255) (some (Zh [Yw [],Zz .i64 104],[])) (Zj (chk (decide (Zv b≤70368744177664)) (some (Xf (b++Yg tm 4 li),[]))) (kO fun l=>Zj (chk (decide (Zv l≤70368744177664)) (some (Xf (l++Yg lf 1 false),[]))) (kO fun l=>Zj (chk (decide (Zv l+Zv sv≤70368744177664)) (some (Yw (Wz l sv),[]))) (kB fun b=>Zj (chk (decide (Zv b+Zv ins≤70368744177664)) (some (Yw (Wz b ins),[]))) (kB fun b=>some (Zh [Yw b,Zz .i64 0],[]))))))))))))))):Option (AV×Blocks))) (by kernel_rfl) ?_
  delta kT kB kO kL
  try dsimp only [cStr,cBs,cBool,cU8,cInt,cSl,l63]
  simp only [Xw,decide_eq_true_eq] at hpre
  obtain ⟨⟨p1,p2⟩,p3⟩:=hpre
  simp only [A0,Uy,Uv,Un,p1,p2,p3,decide_true]
  have hL:∀ q,Uh ⟨li,mu,kv,rl,tk,au⟩=q→Kerb.encodeTgs ⟨⟨li,mu,kv,rl,tk,au⟩,tm,lf,sv,ins⟩=if mu then ⟨[],100⟩ else if q.err≠0 then ⟨[],q.err⟩ else if !(Wp sv&&Wd ins) then ⟨[],103⟩ else if !(Zm tm 4294967295&&Zm lf 255) then ⟨[],104⟩ else ⟨Wz (Wz (q.val++Yg tm 4 li++Yg lf 1 false) sv) ins,0⟩:=by rintro _ rfl;rfl
  have hl:=Kerb.encodeAp_len ⟨li,mu,kv,rl,tk,au⟩
  obtain ⟨q,hq⟩:∃ q,Uh ⟨li,mu,kv,rl,tk,au⟩=q:=⟨_,rfl⟩
  rw [hL q hq,hq]
  rw [hq] at hl
  cases mu
  case true=>rfl
  rw [sel_false,if_neg (by simp)]
  by_cases h1:q.err=0
  case neg=>rw [sel_pos (by simpa using h1),if_pos h1]
  rw [sel_neg (by simpa using h1),if_neg (by simpa using h1)]
  cases h2:Wp sv
  ·rfl
  cases h3:Wd ins
  ·rfl
  cases Zm tm 4294967295
  ·rfl
  cases Zm lf 255
  ·rfl
  have l2:=Kerb.validName_len h2
  have l3:=Kerb.validInst_len h3
  simp only [Xy,sel_false,Xx,Bool.false_eq_true,if_false]
  rw [chk_of (by simp;omega),chk_of (by simp [Yp];omega),chk_of (by simp [Yp];omega),chk_of (by simp [Yp,Xm];omega)]
 ·cases h
theorem w44:Walked Tryz.prog G 44 4 sp44:=by
 refine ⟨Tryz.f44,Tryz.func44,by decide +kernel,rfl,fun xs bl r h=> ?_⟩
 unfold sp44 at h
 split at h
 ·rename_i b
  obtain ⟨hpre,h2⟩:=chk_inv h;cases h2
  refine Eq.trans (b:=(Zj (chk (decide (Zv b≤4611686018427387904)) (some (Zh [Zz .i64 (Xp (Yx b 2 1 false)),Zz .i64 (Xu (Yx b 2 1 false)),Zz .i64 (Yd (Yx b 2 1 false))],[]))) (kT fun vs=>cInt .i64 vs fun n r=>cInt .i64 r fun n_1 r=>cInt .i64 r fun n_2 r=>onNil r (Zj (chk (decide (Zv b≤4611686018427387904)) (some (Zh [Zw (Kerb.GotB.val (Kerb.text b n_1)),Zz .i64 (Kerb.GotB.next (Kerb.text b n_1)),Zz .i64 (Uq (Kerb.text b n_1))],[]))) (kT fun vs=>cStr vs fun b_1 r=>cInt .i64 r fun n_3 r=>cInt .i64 r fun n_4 r=>onNil r (Zj (chk (decide (Zv b≤4611686018427387904)) (some (Zh [Zz .i64 (Xp (Yx b n_3 1 false)),Zz .i64 (Xu (Yx b n_3 1 false)),Zz .i64 (Yd (Yx b n_3 1 false))],[]))) (kT fun vs=>cInt .i64 vs fun n_5 r=>cInt .i64 r fun n_6 r=>cInt .i64 r fun n_7 r=>onNil r (Zj (chk (decide (Zv b≤4611686018427387904)) (some (Zh [Zz .i64 (Xp (Yx b n_6 1 false)),Zz .i64 (Xu (Yx b n_6 1 false)),Zz .i64 (Yd (Yx b n_6 1 false))],[]))) (kT fun vs=>cInt .i64 vs fun n_8 r=>cInt .i64 r fun n_9 r=>cInt .i64 r fun n_10 r=>onNil r (Zj (chk (decide (Zv b≤140737488355328)) (some (Zh [Yw (Kerb.GotB.val (Vy b n_9 n_5)),Zz .i64 (Kerb.GotB.next (Vy b n_9 n_5)),Zz .i64 (Uq (Vy b n_9 n_5))],[]))) (kT fun vs=>cBs vs fun b_2 r=>cInt .i64 r fun n_11 r=>cInt .i64 r fun n_12 r=>onNil r (Zj (chk (decide (Zv b≤140737488355328)) (some (Zh [Yw (Kerb.GotB.val (Vy b n_11 n_8)),Zz .i64 (Kerb.GotB.next (Vy b n_11 n_8)),Zz .i64 (Uq (Vy b n_11 n_8))],[]))) (kT fun vs=>cBs vs fun b_3 r=>cInt .i64 r fun n_13 r=>cInt .i64 r fun n_14 r=>onNil r (some (Zh [Zd [Zg (Kerb.Head.little (Kerb.readHead b)),Zg (Kerb.Head.kind (Kerb.readHead b)==4),Zz .i64 n,Zw b_1,Yw b_2,Yw b_3],Zz .i64 n_13],[]))))))))))))):Option (AV×Blocks))) (by kernel_rfl) ?_
  delta kT
  try dsimp only [cStr,cBs,cBool,cU8,cInt,cSl,l63]
  have hb:=of_decide_eq_true hpre
  have hpre2:decide (b.length≤4611686018427387904)=true:=by simp;omega
  simp only [hpre,hpre2,↓A0,A0]
  rfl
 ·cases h
theorem w53:Walked Tryz.prog G 53 4 sp53:=by
 refine ⟨Tryz.f53,Tryz.func53,by decide +kernel,rfl,fun xs bl r h=> ?_⟩
 unfold sp53 at h
 split at h
 ·rename_i ali b1 b2 b3 aad ak alf ais asv ain x y z ck tc tm src now skw
  cases h
  refine Eq.trans (b:=(sel (!(b1==x&&(b2==y&&b3==z))) (some (Zz .i64 36,[])) (sel (!src==aad) (some (Zz .i64 38,[])) (sel (!Kerb.near tm now skw) (some (Zz .i64 37,[])) (some (Zz .i64 (Kerb.stateErr ais alf now skw),[])))):Option (AV×Blocks))) (by kernel_rfl) ?_
  unfold Kerb.judge
  cases h1:Kerb.Prin.eqb ⟨b1,b2,b3⟩ ⟨x,y,z⟩
  ·have h1':(b1==x&&(b2==y&&b3==z))=false:=h1
   rw [if_pos rfl,h1'];rfl
  have h1':(b1==x&&(b2==y&&b3==z))=true:=h1
  rw [if_neg (by simp),h1',Xy,sel_false]
  by_cases h2:src=aad
  case neg=>rw [sel_pos (by simpa using h2),if_pos h2]
  rw [sel_neg (by simpa using h2),if_neg (by simpa using h2)]
  cases h3:Kerb.near tm now skw
  ·rfl
  ·rw [if_neg (by simp)];rfl
 ·cases h
theorem w60:Walked Tryz.prog G 60 4 sp60:=by
 refine ⟨Tryz.f60,Tryz.func60,by decide +kernel,rfl,fun xs bl r h=> ?_⟩
 unfold sp60 at h
 split at h
 ·rename_i rl els xls now li se wn mo xp cx cy cz ck2 cad ccs ctm ctc cis clf ctk cau
  obtain ⟨hpre,h2⟩:=chk_inv h;cases h2
  refine Eq.trans (b:=(sel (!xp==0) (chk (room (Zv [Zz .i64 (Xn cis clf)]+Zv [Zz .i64 xp]) (nat_lit 8)) (Zj (chk (decide (Zv ([Zz .i64 (Xn cis clf)]++[Zz .i64 xp])≤1000000)&&List.all [Xn cis clf,xp] Kerb.isI64) (some (Zh [Zz .i64 (Yz (Uk now (Wu wn mo) [Xn cis clf,xp])),Zg (Zn (Uk now (Wu wn mo) [Xn cis clf,xp]))],[]))) fun (r:AV×Blocks)=>onNilB (Zn r) (Vb (Yz r) fun vs=>onCons vs fun x r=>Yu .i64 x fun n=>onCons r fun x r=>Wq x fun b=>onNil r (some (Zh [Zz .i64 n,Zg b],[]))))) (Zj (chk (decide (Zv [Zz .i64 (Xn cis clf)]≤1000000)&&List.all [Xn cis clf] Kerb.isI64) (some (Zh [Zz .i64 (Yz (Uk now (Wu wn mo) [Xn cis clf])),Zg (Zn (Uk now (Wu wn mo) [Xn cis clf]))],[]))) fun (r:AV×Blocks)=>onNilB (Zn r) (Vb (Yz r) fun vs=>onCons vs fun x r=>Yu .i64 x fun n=>onCons r fun x r=>Wq x fun b=>onNil r (some (Zh [Zz .i64 n,Zg b],[])))):Option (AV×Blocks))) (by kernel_rfl) ?_
  have e1:=Kerb.tEnd_i64 cis clf
  unfold Kerb.tgsLife Kerb.tgsEnds
  by_cases h:xp=0
  ·rw [sel_neg (by simpa using h),if_pos h]
   have h1:decide (Zv [Zz Zy (Xn cis clf)]≤1000000)=true:=rfl
   simp (config:={maxSteps:=10000000}) only [h1,e1,List.all_cons,List.all_nil,Xx,↓sInt,↓sU8,↓sBool,↓sStr,↓sBs,↓sSl,↓sAgg,↓sTup,↓sCons,↓sNil,↓sNilB,↓sChk,↓sChkBind,↓sSome,↓sOwnL,↓sConsB,↓sOwnB]
  ·rw [sel_pos (by simpa using h),if_neg h,chk_of (by rfl)]
   have h1:decide (Zv ([Zz Zy (Xn cis clf)]++[Zz Zy xp])≤1000000)=true:=rfl
   simp (config:={maxSteps:=10000000}) only [h1,e1,hpre,List.all_cons,List.all_nil,Xx,↓sInt,↓sU8,↓sBool,↓sStr,↓sBs,↓sSl,↓sAgg,↓sTup,↓sCons,↓sNil,↓sNilB,↓sChk,↓sChkBind,↓sSome,↓sOwnL,↓sConsB,↓sOwnB]
 ·cases h
theorem w97:Walked Tryz.prog G 97 4 sp97:=by
 refine ⟨Tryz.f97,Tryz.func97,by decide +kernel,rfl,fun xs bl r h=> ?_⟩
 unfold sp97 at h
 split at h
 ·rename_i b n little
  obtain ⟨hpre,h2⟩:=chk_inv h;cases h2
  refine Eq.trans (b:=(Zj (chk (decide (Zv b≤70368744177664)) (some (Xf (b++Yg n (Zf 4) little),[]))) fun (r:AV×Blocks)=>onNilB (Zn r) (AV.onOwnB (Yz r) fun l=>some (Xf l,[])):Option (AV×Blocks))) (by kernel_rfl) ?_
  simp only [decide_eq_true_eq] at hpre
  simp only [A0]
  rw [chk_of (by simp;omega)]
  rfl
 ·cases h
theorem w98:Walked Tryz.prog G 98 4 sp98:=by
 refine ⟨Tryz.f98,Tryz.func98,by decide +kernel,rfl,fun xs bl r h=> ?_⟩
 unfold sp98 at h
 split at h
 ·rename_i b n
  obtain ⟨hpre,h2⟩:=chk_inv h;cases h2
  refine Eq.trans (b:=(Zj (chk (decide (Zv b≤70368744177664)) (some (Xf (b++Yg n (Zf 1) false),[]))) fun (r:AV×Blocks)=>onNilB (Zn r) (AV.onOwnB (Yz r) fun l=>some (Xf l,[])):Option (AV×Blocks))) (by kernel_rfl) ?_
  simp only [decide_eq_true_eq] at hpre
  simp only [A0]
  rw [chk_of (by simp;omega)]
  rfl
 ·cases h
theorem w122:Walked Tryz.prog G 122 4 sp122:=by
 refine ⟨Tryz.f122,Tryz.func122,by decide +kernel,rfl,fun xs bl r h=> ?_⟩
 unfold sp122 at h
 split at h
 ·rename_i kd k bd
  obtain ⟨hpre,h2⟩:=chk_inv h;cases h2
  refine Eq.trans (b:=(let t0:List UInt8:=[Vk (Zf (Zq .u8 (Int.fdiv (↑(Zv bd):Int) (2 ^ min (Zf 8) (Xb .i64))))),Vk (Zf (Zq .u8 (↑(Zv bd):Int)))];let t1:List UInt8:=Uj (Zf 0) (0:UInt8)++[(66:UInt8),Vk (Zf (Zq .u8 kd))];let t2:Int:=Zq .i64 (12+(↑(Zv bd):Int));sel (!Ud kd) (some (Zh [Yw [],Zz .i64 104],[])) (Zj (chk (decide (0≤k)&&decide (k<18446744073709551616)) (some (Zg (Xz k),[]))) (kL fun b=>sel (!b) (some (Zh [Yw [],Zz .i64 10],[])) (sel (decide ((↑(Zv bd):Int)>1000)) (some (Zh [Yw [],Zz .i64 105],[])) (chk (decide (0≤t2)&&decide (t2≤140737488355328)) (chk (room (Zv (Uj (Zf 0) (0:UInt8))+Zv [(66:UInt8),Vk (Zf (Zq .u8 kd))]) 1) (Zj (chk (decide (0≤k)&&decide (k<18446744073709551616)) (some (Yw (Kerb.keyBytes k),[]))) (kB fun b=>chk (room (Zv t1+Zv b) 1) (chk (room (Zv (t1++b)+Zv t0) 1) (chk (room (Zv (t1++b++t0)+Zv bd) 1) (some (Zh [Yw (t1++b++t0++bd),Zz .i64 0],[]))))))))))):Option (AV×Blocks))) (by kernel_rfl) ?_
  delta kB kL
  try dsimp only [cStr,cBs,cBool,cU8,cInt,cSl,l63]
  simp only [A0,Uy,Uv,Un,hpre]
  unfold Kerb.makeBox
  cases h1:Ud kd
  ·rfl
  rw [Xy,sel_false,if_neg (by simp)]
  cases h2:Xz k
  ·rfl
  rw [Xy,sel_false,if_neg (by simp)]
  by_cases h3:1000<bd.length
  ·rw [sel_pos (by simp;omega),if_pos h3]
  have hk:1≤kd∧kd≤10:=by simp [Ud] at h1;omega
  have lk:=Kerb.keyBytes_len k
  rw [sel_neg (by simp;omega),if_neg h3,wrap_i64 (by omega) (by omega),chk_of (by simp;omega),chk_of (Xh (by simp)),chk_of (Xh (by simp;omega)),chk_of (Xh (by simp;omega)),chk_of (Xh (by simp;omega)),Kerb.two_bytes,Kerb.wrap_u8,Int.emod_eq_of_lt (by omega) (by omega)]
  rfl
 ·cases h
theorem w138:Walked Tryz.prog G 138 4 sp138:=by
 refine ⟨Tryz.f138,Tryz.func138,by decide +kernel,rfl,fun xs bl r h=> ?_⟩
 unfold sp138 at h
 split at h
 ·rename_i s bad
  obtain ⟨hpre,h2⟩:=chk_inv h;cases h2
  refine Eq.trans (b:=(Zj (loopM (fun (st:List AV)=>cStr st fun b r=>cStr r fun b_1 r=>cBool r fun b_2 r=>cInt .i64 r fun n r=>cInt .i64 r fun n_1 r=>let t0:Option (List AV ⊕ Ex×List AV):=some (Um (Ex.ret,[Zw b,Zw b_1,Zg false,Zz .i64 n,Zz .i64 n_1]));let t1:Bool:=decide (0≤n_1)&&decide (n_1<(↑(Zv b):Int));let t2:Int:=(↑(Xq (Yb b (Zf n_1) (0:UInt8))):Int);onNil r (sel (decide (n_1<n)) (chk t1 (sel (decide (t2<(↑(Xq (33:UInt8)):Int))) t0 (chk t1 (sel (decide (t2>(↑(Xq (126:UInt8)):Int))) t0 (chk t1 (sel (decide (Yj (Yb b (Zf n_1) (0:UInt8)) b_1≥0)) t0 (some (Vp [Zw b,Zw b_1,Zg b_2,Zz .i64 n,Zz .i64 (Zq .i64 (n_1+1))])))))))) (some (Um (Ww 0,[Zw b,Zw b_1,Zg b_2,Zz .i64 n,Zz .i64 n_1]))))) [Zw s,Zw bad,Zg false,Zz .i64 (↑(Zv s):Int),Zz .i64 0]) fun (r:Ex×List AV)=>cStr (Zn r) fun b r_1=>cStr r_1 fun b r_2=>cBool r_2 fun b r_3=>cInt .i64 r_3 fun n r_4=>cInt .i64 r_4 fun n r_5=>onNil r_5 (exK r.1 (some (Zg b,[])) fun (j:Nat)=>sel (Uu j 0) (some (Zg true,[])) none):Option (AV×Blocks))) (by kernel_rfl) ?_
  try dsimp only [cStr,cBs,cBool,cU8,cInt,cSl,l63]
  simp only [decide_eq_true_eq] at hpre
  refine loop_rounds (fun i:Nat=>[Zw s,Zw bad,Zg false,Zz Zy (s.length:Int),Zz Zy (i:Int)]) (fun i=>i≤s.length∧Wf s bad=Wf (s.drop i) bad) (fun i=>s.length-i)
   (fun r=>∃ i:Nat,r.2=[Zw s,Zw bad,Zg false,Zz Zy (s.length:Int),Zz Zy (i:Int)]∧((r.1 = .ret∧Wf s bad=false)∨(r.1 = .exit 0∧Wf s bad=true))) 0 ⟨Vx _,rfl⟩ rfl ?_ ?_
  ·rintro i ⟨hi,hp⟩
   simp only [A0]
   by_cases hlt:i<s.length
   ·have hc:(decide ((0:Int)≤(i:Int))&&decide ((i:Int)<(s.length:Int)))=true:=by simp;omega
    have hd:=Kerb.drop_all_cons hlt
    rw [sel_pos (by simp;omega),chk_of hc,Xd]
    have hpr:Wf (s.drop i) bad=(Kerb.okB bad (s.getD i 0)&&Wf (s.drop (i+1)) bad):=by rw [hd];rfl
    generalize s.getD i 0=c at *
    by_cases h1:c.toNat<33
    ·rw [sel_pos (by simp;omega)]
     exact ⟨_,rfl,i,rfl,.inl ⟨rfl,by rw [hp,hpr];simp [Kerb.okB,h1]⟩⟩
    rw [sel_neg (by simp;omega),chk_of hc]
    by_cases h2:126<c.toNat
    ·rw [sel_pos (by simp;omega)]
     exact ⟨_,rfl,i,rfl,.inl ⟨rfl,by rw [hp,hpr];simp [Kerb.okB,h2]⟩⟩
    rw [sel_neg (by simp;omega),chk_of hc]
    have h4:=Kerb.indexOf_nonneg c bad
    by_cases h3:c∈bad
    ·rw [sel_pos (by simpa using h4.2 h3)]
     exact ⟨_,rfl,i,rfl,.inl ⟨rfl,by rw [hp,hpr];simp [Kerb.okB,h3]⟩⟩
    rw [sel_neg (by have:=mt h4.1 h3;simp;omega),wrap_i64 (by omega) (by omega)]
    exact ⟨_,rfl,i+1,rfl,⟨by omega,by rw [hp,hpr];simp [Kerb.okB,h1,h2,h3]⟩,by dsimp only;omega⟩
   ·rw [sel_neg (by simp;omega)]
    exact ⟨_,rfl,i,rfl,.inr ⟨rfl,by rw [hp,List.drop_eq_nil_of_le (by omega)];rfl⟩⟩
  ·rintro ⟨e,l⟩ ⟨i,rfl,⟨rfl,hp⟩ | ⟨rfl,hp⟩⟩
   ·simp only [A0,hp]
   ·simp only [A0,hp]
    rfl
 ·cases h
theorem w148:Walked Tryz.prog G 148 4 sp148:=by
 refine ⟨Tryz.f148,Tryz.func148,by decide +kernel,rfl,fun xs bl r h=> ?_⟩
 unfold sp148 at h
 split at h
 ·rename_i b x y z
  obtain ⟨hpre,h2⟩:=chk_inv h;cases h2
  refine Eq.trans (b:=(Zj (chk (decide (Zv b+Zv x≤70368744177664)) (some (Yw (Wz b x),[]))) fun (r:AV×Blocks)=>onNilB (Zn r) (AV.onBs (Yz r) fun b=>Zj (chk (decide (Zv b+Zv y≤70368744177664)) (some (Yw (Wz b y),[]))) fun (r:AV×Blocks)=>onNilB (Zn r) (AV.onBs (Yz r) fun b=>Zj (chk (decide (Zv b+Zv z≤70368744177664)) (some (Yw (Wz b z),[]))) fun (r:AV×Blocks)=>onNilB (Zn r) (AV.onBs (Yz r) fun b=>some (Yw b,[])))):Option (AV×Blocks))) (by kernel_rfl) ?_
  simp only [decide_eq_true_eq] at hpre
  simp only [A0]
  rw [chk_of (by simp;omega),chk_of (by simp [Wz];omega),chk_of (by simp [Wz];omega)]
  rfl
 ·cases h
theorem w151:Walked Tryz.prog G 151 4 sp151:=by
 refine ⟨Tryz.f151,Tryz.func151,by decide +kernel,rfl,fun xs bl r h=> ?_⟩
 unfold sp151 at h
 split at h
 ·rename_i b
  obtain ⟨hpre,h2⟩:=chk_inv h;cases h2
  refine Eq.trans (b:=(sel (!(↑(Zv b):Int)==8) (some (Zh [Zz .u64 0,Zg false],[])) (Zj (loopM (fun (st:List AV)=>cInt .u64 st fun n r=>cBs r fun b r=>cInt .i64 r fun n_1 r=>cInt .i64 r fun n_2 r=>onNil r (sel (decide (n_2<n_1)) (chk (decide (0≤n_2)&&decide (n_2<(↑(Zv b):Int))) (some (Vp [Zz .u64 (Zq .u64 (↑(BitVec.toNat (BitVec.ofInt (Xb .u64) (Zq .u64 (n*2 ^ min (Zf 8) (Xb .u64))) ||| BitVec.ofInt (Xb .u64) (Zq .u64 (↑(Xq (Yb b (Zf n_2) (0:UInt8))):Int)))):Int)),Yw b,Zz .i64 n_1,Zz .i64 (Zq .i64 (n_2+1))]))) (some (Um (Ww 0,[Zz .u64 n,Yw b,Zz .i64 n_1,Zz .i64 n_2]))))) [Zz .u64 0,Yw b,Zz .i64 (↑(Zv b):Int),Zz .i64 0]) fun (r:Ex×List AV)=>cInt .u64 (Zn r) fun n r_1=>cBs r_1 fun b r_2=>cInt .i64 r_2 fun n_1 r_3=>cInt .i64 r_3 fun n_2 r_4=>onNil r_4 (exK r.1 none fun (j:Nat)=>sel (Uu j 0) (Zj (chk (decide (0≤n)&&decide (n<18446744073709551616)) (some (Zg (Xz n),[]))) (kL fun b=>sel (!b) (some (Zh [Zz .u64 0,Zg false],[])) (some (Zh [Zz .u64 n,Zg true],[])))) none)):Option (AV×Blocks))) (by kernel_rfl) ?_
  delta kL
  try dsimp only [cStr,cBs,cBool,cU8,cInt,cSl,l63]
  have hb:=of_decide_eq_true hpre
  unfold Kerb.keyRead
  by_cases h8:b.length=8
  case neg =>
   rw [sel_pos (by simp;omega),if_neg (by omega)]
  rw [sel_neg (by simp [h8])]
  refine loop_rounds (fun i:Nat=>[Zz Yv (Kerb.valB (b.take i)),Yw b,Zz Zy (b.length:Int),Zz Zy (i:Int)]) (fun i=>i≤8) (fun i=>8-i)
   (fun r=>r=(Ww 0,[Zz Yv (Kerb.valB b),Yw b,Zz Zy (b.length:Int),Zz Zy 8])) 0 (by omega) rfl ?_ ?_
  ·intro i hi
   simp only [A0]
   by_cases hlt:i<8
   ·have hv:=Kerb.valB_take (l:=b) (i:=i) (by omega)
    have hbd:=Kerb.valB_bd7 (l:=b.take i) (by simp;omega)
    rw [sel_pos (by simp;omega),chk_of (by simp;omega),Xd,Kerb.shl8_oru _ hbd.1 hbd.2,wrap_i64 (by omega) (by omega),← hv]
    exact ⟨_,rfl,i+1,rfl,by omega,by dsimp only;omega⟩
   ·rw [sel_neg (by simp;omega)]
    refine ⟨_,rfl,?_⟩
    show _=_
    rw [List.take_of_length_le (by omega),show i=8 from by omega]
    rfl
  rintro r rfl
  have hbd:=Kerb.valB_bd8 (l:=b) (by omega)
  simp only [A0]
  rw [sel_pos (Wb _),chk_of (by simp;omega)]
  cases hv:Xz (Kerb.valB b)
  ·rw [if_neg (by simp)]
   rfl
  ·rw [if_pos ⟨h8,rfl⟩]
   rfl
 ·cases h
theorem w153:Walked Tryz.prog G 153 4 sp153:=by
 refine ⟨Tryz.f153,Tryz.func153,by decide +kernel,rfl,fun xs bl r h=> ?_⟩
 unfold sp153 at h
 split at h
 ·rename_i rl els n i now bit xp br
  obtain ⟨hpre,h2⟩:=chk_inv h;cases h2
  refine Eq.trans (b:=(Zj (chk (List.all els Kerb.isEntry&&decide (Zv els≤1000000)) (some (Zh [Zz .i64 (Yz (Vu (List.map Kerb.toEntry els) n i)),Zz .i64 (Zn (Vu (List.map Kerb.toEntry els) n i))],[]))) (kT fun vs=>cInt .i64 vs fun n r=>cInt .i64 r fun n_1 r=>onNil r (sel (!n_1==0) (some (Zh [Zz .i64 0,Zz .i64 n_1],[])) (chk (decide (0≤n)&&decide (n<(↑(Zv els):Int))&&true) (Wx (Yb els (Zf n) Yn) fun cs=>cStr cs fun b r=>cStr r fun b r=>cInt .u64 r fun n_2 r=>cInt .i64 r fun n_3 r=>cInt .i64 r fun n_4 r=>cInt .i64 r fun n_5 r=>cInt .i64 r fun n_6 r=>let t0:Option (AV×Blocks):=sel (!Zq .i64 (↑(BitVec.toNat (BitVec.ofInt (Xb .i64) n_6 &&& BitVec.ofInt (Xb .i64) bit)):Int)==0) (some (Zh [Zz .i64 0,Zz .i64 br],[])) (some (Zh [Zz .i64 n,Zz .i64 0],[]));cInt .i64 r fun n r=>cInt .i64 r fun n r=>onNil r (Zj (chk (decide (0≤n_2)&&decide (n_2<18446744073709551616)) (some (Zg (Xz n_2),[]))) (kL fun b=>sel (!b) (some (Zh [Zz .i64 0,Zz .i64 10],[])) (sel (!n_4==0) (sel (decide (n_4≤now)) (some (Zh [Zz .i64 0,Zz .i64 xp],[])) t0) t0))))))):Option (AV×Blocks))) (by kernel_rfl) ?_
  delta kT kL
  try dsimp only [cStr,cBs,cBool,cU8,cInt,cSl,l63]
  simp only [Xw,decide_eq_true_eq] at hpre
  obtain ⟨hall,hlen⟩:=hpre
  obtain ⟨es,rfl,hok⟩:=Kerb.ents_of hall
  simp only [hall,hlen,Kerb.map_toEntry,decide_true,Xx,↓A0,A0]
  unfold Kerb.useEnt
  dsimp only
  have hf:=Kerb.find_count (es:=es) (n:=n) (i:=i)
  generalize Vu es n i=F at hf
  obtain ⟨j,e⟩:=F
  dsimp only at hf ⊢
  by_cases he:e=0
  case neg=>rw [sel_pos (by simpa using he),if_pos he]
  obtain ⟨_,f2,f3⟩:=hf he
  subst f2
  rw [sel_neg (by simpa using he),if_neg (by simpa using he),chk_of (by simp only [Ym,Bool.and_true,Xw,decide_eq_true_eq];omega),Xd,Kerb.getD_ent f3]
  have hx:=hok _ (Kerb.ent_mem f3)
  generalize es.getD (es.findIdx (Kerb.Entry.named n i)) Kerb.noEntry=x at hx
  obtain ⟨_,_,x3,_⟩:=hx
  have h4:(decide (0≤x.key)&&decide (x.key<18446744073709551616))=true:=x3
  simp only [Zk,↓A0,A0,h4]
  cases hk:Xz x.key
  ·rfl
  simp only [Xy,Bool.not_false,sel_true,sel_false]
  rw [if_neg (by simp)]
  have hb:Zq .i64 (BitVec.toNat (BitVec.ofInt (Xb .i64) x.attr &&& BitVec.ofInt (Xb .i64) bit):Int)=Kerb.bitOf x.attr bit:=rfl
  rw [hb]
  by_cases h1:x.expires=0
  ·rw [sel_neg (by simp [h1]),if_neg (by simp [h1])]
   by_cases h2:Kerb.bitOf x.attr bit=0
   ·rw [sel_neg (by simp [h2]),if_neg (by simp [h2])]
   ·rw [sel_pos (by simpa using h2),if_pos h2]
  ·rw [sel_pos (by simpa using h1)]
   by_cases h3:x.expires≤now
   ·rw [sel_pos (by simpa using h3),if_pos ⟨h1,h3⟩]
   ·rw [sel_neg (by simpa using h3),if_neg (by simp [h3])]
    by_cases h2:Kerb.bitOf x.attr bit=0
    ·rw [sel_neg (by simp [h2]),if_neg (by simp [h2])]
    ·rw [sel_pos (by simpa using h2),if_pos h2]
 ·cases h
theorem w159:Walked Tryz.prog G 159 4 sp159:=by
 refine ⟨Tryz.f159,Tryz.func159,by decide +kernel,rfl,fun xs bl r h=> ?_⟩
 unfold sp159 at h
 split at h
 ·rename_i b n little
  obtain ⟨hpre,h2⟩:=chk_inv h;cases h2
  refine Eq.trans (b:=(Zj (chk (decide (Zv b≤70368744177664)) (some (Xf (b++Yg n (Zf 2) little),[]))) fun (r:AV×Blocks)=>onNilB (Zn r) (AV.onOwnB (Yz r) fun l=>some (Xf l,[])):Option (AV×Blocks))) (by kernel_rfl) ?_
  simp only [decide_eq_true_eq] at hpre
  simp only [A0]
  rw [chk_of (by simp;omega)]
  rfl
 ·cases h
theorem w160:Walked Tryz.prog G 160 4 sp160:=by
 refine ⟨Tryz.f160,Tryz.func160,by decide +kernel,rfl,fun xs bl r h=> ?_⟩
 unfold sp160 at h
 split at h
 ·rename_i li x y z ad k lf iss sv ins
  obtain ⟨hpre,h2⟩:=chk_inv h;cases h2
  refine Eq.trans (b:=(Zj (chk (decide (Zv x≤9223372036854775807)&&decide (Zv y≤9223372036854775807)&&decide (Zv z≤9223372036854775807)) (some (Zg (Wg (Vj x y z)),[]))) fun (r:AV×Blocks)=>onNilB (Zn r) (Wq (Yz r) fun b=>sel (!b) (some (Zz .i64 103,[])) (Zj (chk (decide (Zv sv≤9223372036854775807)) (some (Zg (Wp sv),[]))) fun (r:AV×Blocks)=>onNilB (Zn r) (Wq (Yz r) fun b=>sel (!b) (some (Zz .i64 103,[])) (Zj (chk (decide (Zv ins≤9223372036854775807)) (some (Zg (Wd ins),[]))) fun (r:AV×Blocks)=>onNilB (Zn r) (Wq (Yz r) fun b=>sel (!b) (some (Zz .i64 103,[])) (Zj (chk (decide (0≤k)&&decide (k<18446744073709551616)) (some (Zz .i64 (Kerb.classOf k),[]))) fun (r:AV×Blocks)=>onNilB (Zn r) (Yu .i64 (Yz r) fun n=>sel (!n==2) (some (Zz .i64 10,[])) (sel (!Zm ad 4294967295) (some (Zz .i64 104,[])) (sel (!Zm lf 255) (some (Zz .i64 104,[])) (sel (!Zm iss 4294967295) (some (Zz .i64 104,[])) (some (Zz .i64 0,[])))))))))))):Option (AV×Blocks))) (by kernel_rfl) ?_
  simp only [Xw,decide_eq_true_eq] at hpre
  obtain ⟨⟨⟨⟨⟨⟨h1,h2⟩,h3⟩,h4⟩,h5⟩,h6⟩,h7⟩:=hpre
  simp only [h1,h2,h3,h4,h5,h6,h7,decide_true,Xx,↓A0,A0]
  unfold Kerb.Ticket.err
  dsimp only
  cases Wg ⟨x,y,z⟩
  ·rfl
  cases Wp sv
  ·rfl
  cases Wd ins
  ·rfl
  simp only [Xy,Xx,sel_false]
  by_cases hc:Kerb.classOf k=2
  case neg=>rw [sel_pos (by simpa using hc),if_neg (by simp),if_pos hc]
  rw [sel_neg (by simp [hc]),if_neg (by simp),if_neg (by simp [hc])]
  cases Zm ad 4294967295
  ·rfl
  cases Zm lf 255
  ·rfl
  cases Zm iss 4294967295
  ·rfl
  rfl
 ·cases h
theorem w164:Walked Tryz.prog G 164 4 sp164:=by
 refine ⟨Tryz.f164,Tryz.func164,by decide +kernel,rfl,fun xs bl r h=> ?_⟩
 unfold sp164 at h
 split at h
 ·rename_i x y z ck tc tm
  obtain ⟨hpre,h2⟩:=chk_inv h;cases h2
  refine Eq.trans (b:=(Zj (chk (decide (Zv x≤9223372036854775807)&&decide (Zv y≤9223372036854775807)&&decide (Zv z≤9223372036854775807)) (some (Zg (Wg (Vj x y z)),[]))) fun (r:AV×Blocks)=>onNilB (Zn r) (Wq (Yz r) fun b=>sel (!b) (some (Zz .i64 103,[])) (sel (!Zm ck 4294967295) (some (Zz .i64 104,[])) (sel (!Zm tc 199) (some (Zz .i64 104,[])) (sel (!Zm tm 4294967295) (some (Zz .i64 104,[])) (some (Zz .i64 0,[])))))):Option (AV×Blocks))) (by kernel_rfl) ?_
  simp only [A0,Uy,Uv,Un,hpre]
  unfold Kerb.Auth.check
  simp only
  cases Wg ⟨x,y,z⟩
  ·rfl
  cases Zm ck 4294967295
  ·rfl
  cases Zm tc 199
  ·rfl
  cases Zm tm 4294967295<;>rfl
 ·cases h
theorem w7:Walked Tryz.prog G 7 5 sp7:=by
 refine ⟨Tryz.f7,Tryz.func7,by decide +kernel,rfl,fun xs bl r h=> ?_⟩
 unfold sp7 at h
 split at h
 ·rename_i cu co cv cr lt tn mt cad cfr cis ctm ctk clf ccs cky ckv css ctt cau sz sk
  cases h
  refine Eq.trans (b:=(some (Zd [Zw (Xj (Wk (Wj cu co cv cr lt tn mt cad cfr cis ctm ctk clf ccs cky ckv css ctt cau))),Zw (Xk (Wk (Wj cu co cv cr lt tn mt cad cfr cis ctm ctk clf ccs cky ckv css ctt cau))),Zw (Xv (Wk (Wj cu co cv cr lt tn mt cad cfr cis ctm ctk clf ccs cky ckv css ctt cau))),Yq 5 [Zd [Zw (Xj (Wk (Wj cu co cv cr lt tn mt cad cfr cis ctm ctk clf ccs cky ckv css ctt cau))),Zw (Xk (Wk (Wj cu co cv cr lt tn mt cad cfr cis ctm ctk clf ccs cky ckv css ctt cau))),Zw (Xv (Wk (Wj cu co cv cr lt tn mt cad cfr cis ctm ctk clf ccs cky ckv css ctt cau))),Zz .i64 1,Zz .u64 (Yk 1)],Zd [Zw (Xj (Wk (Wj cu co cv cr lt tn mt cad cfr cis ctm ctk clf ccs cky ckv css ctt cau))),Zw (Xk (Wk (Wj cu co cv cr lt tn mt cad cfr cis ctm ctk clf ccs cky ckv css ctt cau))),Zw (Xv (Wk (Wj cu co cv cr lt tn mt cad cfr cis ctm ctk clf ccs cky ckv css ctt cau))),Zz .i64 2,Zz .u64 (Yk 2)],Zd [Zw (Xj (Zu 0)),Zw (Xk (Zu 0)),Zw (Xv (Zu 0)),Zz .i64 1,Zz .u64 (Yk 9)]],Zz .i64 (Zq .i64 (1+Yh (Zq .i64 (↑(Xq sz):Int)) 40)),Zz .i64 0,Yq 5 [],Zz .i64 (Zq .i64 (Zq .i64 (↑(Xq sk):Int)*4))],[]):Option (AV×Blocks))) (by kernel_rfl) ?_
  have b1:=Up sz
  have b2:=Up sk
  have f1:Zq .i64 (1+Yh (Zb sz) 40)=1+Zb sz % 40:=by rw [Vw b1.1];exact wrap_i64 (by omega) (by omega)
  have f2:Zq .i64 (Zb sk*4)=Zb sk*4:=wrap_i64 (by omega) (by omega)
  simp only [Kerb.wrap_u8i,f1,f2]
  rfl
 ·cases h
theorem w11:Walked Tryz.prog G 11 5 sp11:=by
 refine ⟨Tryz.f11,Tryz.func11,by decide +kernel,rfl,fun xs bl r h=> ?_⟩
 unfold sp11 at h
 split at h
 ·rename_i b
  obtain ⟨hpre,h2⟩:=chk_inv h;cases h2
  refine Eq.trans (b:=(let t1:AV:=Zd [Zg false,Zw [],Zw [],Zw [],Zz .i64 0,Zz .i64 0,Zz .i64 0,Yw []];let t0:Option (AV×Blocks):=some (Zh [t1,Zz .i64 100],[]);sel (!Zn (Ux b [2])==0) (some (Zh [t1,Zz .i64 (Zn (Ux b [2]))],[])) (Zj (chk (decide (Zv b≤140737488355328)) (some (Zd [Zw (Xj (Kerb.RdP.p (Vf b 2 false))),Zw (Xk (Kerb.RdP.p (Vf b 2 false))),Zw (Xv (Kerb.RdP.p (Vf b 2 false)))],[[Yw b,Zz .i64 (Kerb.RdP.pos (Vf b 2 false)),Zg (Yz (Ux b [2])),Zg (Kerb.RdP.bad (Vf b 2 false))]]))) fun (r:AV×Blocks)=>onConsB (Zn r) fun (x:List AV) (r_1:List (List AV))=>cBs x fun b_1 r_2=>cInt .i64 r_2 fun n r_3=>cBool r_3 fun b_2 r_4=>cBool r_4 fun b_3 r_5=>onNil r_5 (onNilB r_1 (Wx (Yz r) fun cs=>cStr cs fun b_4 r=>cStr r fun b_5 r=>cStr r fun b_6 r=>onNil r (Zj (chk (decide (Zv b_1≤140737488355328)) (some (Zz .i64 (Xp (Yx b_1 n 4 b_2)),[[Yw b_1,Zz .i64 (bif b_3 || !Yd (Yx b_1 n 4 b_2)==0 then n else Xu (Yx b_1 n 4 b_2)),Zg b_2,Zg (b_3 || !Yd (Yx b_1 n 4 b_2)==0)]]))) fun (r:AV×Blocks)=>onConsB (Zn r) fun (x:List AV) (r_6:List (List AV))=>cBs x fun b_7 r_7=>cInt .i64 r_7 fun n r_8=>cBool r_8 fun b_8 r_9=>cBool r_9 fun b_9 r_10=>onNil r_10 (onNilB r_6 (Yu .i64 (Yz r) fun n_1=>Zj (chk (decide (Zv b_7≤140737488355328)) (some (Zz .i64 (Xp (Yx b_7 n 1 false)),[[Yw b_7,Zz .i64 (bif b_9 || !Yd (Yx b_7 n 1 false)==0 then n else Xu (Yx b_7 n 1 false)),Zg b_8,Zg (b_9 || !Yd (Yx b_7 n 1 false)==0)]]))) fun (r:AV×Blocks)=>onConsB (Zn r) fun (x:List AV) (r_11:List (List AV))=>cBs x fun b_10 r_12=>cInt .i64 r_12 fun n r_13=>cBool r_13 fun b_11 r_14=>cBool r_14 fun b_12 r_15=>onNil r_15 (onNilB r_11 (Yu .i64 (Yz r) fun n_2=>Zj (chk (decide (Zv b_10≤140737488355328)) (some (Zz .i64 (Xp (Yx b_10 n 4 b_11)),[[Yw b_10,Zz .i64 (bif b_12 || !Yd (Yx b_10 n 4 b_11)==0 then n else Xu (Yx b_10 n 4 b_11)),Zg b_11,Zg (b_12 || !Yd (Yx b_10 n 4 b_11)==0)]]))) fun (r:AV×Blocks)=>onConsB (Zn r) fun (x:List AV) (r_16:List (List AV))=>cBs x fun b_13 r_17=>cInt .i64 r_17 fun n r_18=>cBool r_18 fun b_14 r_19=>cBool r_19 fun b_15 r_20=>onNil r_20 (onNilB r_16 (Yu .i64 (Yz r) fun n_3=>Zj (chk (decide (Zv b_13≤140737488355328)) (some (Zz .i64 (Xp (Yx b_13 n 1 false)),[[Yw b_13,Zz .i64 (bif b_15 || !Yd (Yx b_13 n 1 false)==0 then n else Xu (Yx b_13 n 1 false)),Zg b_14,Zg (b_15 || !Yd (Yx b_13 n 1 false)==0)]]))) fun (r:AV×Blocks)=>onConsB (Zn r) fun (x:List AV) (r_21:List (List AV))=>cBs x fun b_16 r_22=>cInt .i64 r_22 fun n r_23=>cBool r_23 fun b_17 r_24=>cBool r_24 fun b_18 r_25=>onNil r_25 (onNilB r_21 (Yu .i64 (Yz r) fun n_4=>Zj (chk (decide (Zv b_16≤140737488355328)) (some (Zz .i64 (Xp (Yx b_16 n 2 b_17)),[[Yw b_16,Zz .i64 (bif b_18 || !Yd (Yx b_16 n 2 b_17)==0 then n else Xu (Yx b_16 n 2 b_17)),Zg b_17,Zg (b_18 || !Yd (Yx b_16 n 2 b_17)==0)]]))) fun (r:AV×Blocks)=>onConsB (Zn r) fun (x:List AV) (r_26:List (List AV))=>cBs x fun b_19 r_27=>cInt .i64 r_27 fun n r_28=>cBool r_28 fun b_20 r_29=>cBool r_29 fun b_21 r_30=>onNil r_30 (onNilB r_26 (Yu .i64 (Yz r) fun n_5=>Zj (chk (decide (Zv b_19≤140737488355328)) (some (Yw (Kerb.GotB.val (Vy b_19 n n_5)),[[Yw b_19,Zz .i64 (bif b_21 || !Uq (Vy b_19 n n_5)==0 then n else Kerb.GotB.next (Vy b_19 n n_5)),Zg b_20,Zg (b_21 || !Uq (Vy b_19 n n_5)==0)]]))) fun (r:AV×Blocks)=>onConsB (Zn r) fun (x:List AV) (r_31:List (List AV))=>cBs x fun b_22 r_32=>cInt .i64 r_32 fun n r_33=>cBool r_33 fun b_23 r_34=>cBool r_34 fun b_24 r_35=>onNil r_35 (onNilB r_31 (AV.onBs (Yz r) fun b_25=>let t2:Kerb.Enc:=Kerb.encodeReply (Kerb.KdcReply.mk (Yz (Ux b [2])) (Vj b_4 b_5 b_6) n_1 n_3 n_4 b_25);Zj (chk (l63 b_4&&l63 b_5&&l63 b_6) (some (Zh [Yw (Kerb.Enc.val t2),Zz .i64 (Kerb.Enc.err t2)],[]))) (kT fun vs=>cBs vs fun b_26 r=>cInt .i64 r fun n r=>onNil r (sel b_24 t0 (sel (!n==0) t0 (sel (!b_26==b) t0 (some (Zh [Zd [Zg (Yz (Ux b [2])),Zw b_4,Zw b_5,Zw b_6,Zz .i64 n_1,Zz .i64 n_3,Zz .i64 n_4,Yw b_25],Zz .i64 0],[])))))))))))))))))))))):Option (AV×Blocks))) (by kernel_rfl) ?_
  delta kT
  try dsimp only [cStr,cBs,cBool,cU8,cInt,cSl,l63]
  have hb:=of_decide_eq_true hpre
  simp only [A0]
  by_cases h:(Ux b [2]).2=0
  case neg =>
   unfold Kerb.decodeReply
   rw [sel_pos (by simpa using h),if_pos h]
   rfl
  rw [sel_neg (by simp [h]),Kerb.rdReply_dec h]
  rw [chk_of hpre,chk_of hpre,chk_of hpre,chk_of hpre,chk_of hpre,chk_of hpre,chk_of hpre]
  have lp:=Kerb.rdPrin_len b 2 false
  have hx:∀ q,(Kerb.text b q).val.length≤40:=Kerb.text_len b
  rw [chk_of (by simp only [Xw,decide_eq_true_eq];refine ⟨⟨Nat.le_trans lp.1 (by decide),Nat.le_trans lp.2.1 (by decide)⟩,Nat.le_trans lp.2.2 (by decide)⟩)]
  obtain ⟨R,hR⟩:∃ R,R=Kerb.rdReply b:=⟨_,rfl⟩
  have eb:_=R.bad:=(congrArg Kerb.Rd.bad hR).symm
  have ev:_=R.val:=(congrArg Kerb.Rd.val hR).symm
  rw [← hR]
  unfold Kerb.rdReply at eb ev
  dsimp only [Kerb.rdGet,Kerb.rdText,Kerb.rdBytes] at eb ev
  rw [eb]
  have ev2:Kerb.KdcReply.mk (Ux b [2]).1 (Vj (Vf b 2 false).p.name (Vf b 2 false).p.inst (Vf b 2 false).p.realm) _ _ _ _=R.val:=ev
  rw [ev2]
  cases hbad:R.bad
  case true=>rw [if_pos (.inl rfl)];rfl
  rw [sel_false]
  by_cases h1:(Kerb.encodeReply R.val).err=0
  ·rw [sel_neg (by simp [h1])]
   by_cases h2:(Kerb.encodeReply R.val).val=b
   ·rw [sel_neg (by simp [h2]),if_neg (by simp [h1,h2]),← ev2]
   ·rw [sel_pos (by simpa using h2),if_pos (.inr (.inr h2))]
    rfl
  ·rw [sel_pos (by simpa using h1),if_pos (.inr (.inl h1))]
   rfl
 ·cases h
theorem w94:Walked Tryz.prog G 94 5 sp94:=by
 refine ⟨Tryz.f94,Tryz.func94,by decide +kernel,rfl,fun xs bl r h=> ?_⟩
 unfold sp94 at h
 split at h
 ·rename_i s
  obtain ⟨hpre,h2⟩:=chk_inv h;cases h2
  refine Eq.trans (b:=(sel (!s==[]) (sel (decide ((↑(Zv s):Int)≤39)) (Zj (chk (decide (Zv s≤9223372036854775807)) (some (Zg (Wf s [(46:UInt8),(64:UInt8)]),[]))) fun (r:AV×Blocks)=>onNilB (Zn r) (Wq (Yz r) fun b=>some (Zg b,[]))) (some (Zg false,[]))) (some (Zg false,[])):Option (AV×Blocks))) (by kernel_rfl) ?_
  simp only [A0]
  rw [chk_of hpre,decide_eq_decide.2 (show ((s.length:Int)≤39)↔s.length≤39 from by omega)]
  simp only [Wp]
  cases s with
  | nil=>rfl
  | cons x r=>cases decide ((x::r).length≤39)<;>rfl
 ·cases h
theorem w95:Walked Tryz.prog G 95 5 sp95:=by
 refine ⟨Tryz.f95,Tryz.func95,by decide +kernel,rfl,fun xs bl r h=> ?_⟩
 unfold sp95 at h
 split at h
 ·rename_i s
  obtain ⟨hpre,h2⟩:=chk_inv h;cases h2
  refine Eq.trans (b:=(sel (decide ((↑(Zv s):Int)≤39)) (Zj (chk (decide (Zv s≤9223372036854775807)) (some (Zg (Wf s [(64:UInt8)]),[]))) fun (r:AV×Blocks)=>onNilB (Zn r) (Wq (Yz r) fun b=>some (Zg b,[]))) (some (Zg false,[])):Option (AV×Blocks))) (by kernel_rfl) ?_
  simp only [A0]
  rw [chk_of hpre,decide_eq_decide.2 (show ((s.length:Int)≤39)↔s.length≤39 from by omega)]
  simp only [Wd]
  cases decide (s.length≤39)<;>rfl
 ·cases h
theorem w117:Walked Tryz.prog G 117 5 sp117:=by
 refine ⟨Tryz.f117,Tryz.func117,by decide +kernel,rfl,fun xs bl r h=> ?_⟩
 unfold sp117 at h
 split at h
 ·rename_i rl els n i now
  obtain ⟨hpre,h2⟩:=chk_inv h;cases h2
  refine Eq.trans (b:=(Zj (chk (List.all els Kerb.isEntry&&decide (Zv els≤1000000)) (some (Zh [Zz .i64 (Yz (Kerb.useEnt (Kerb.Db.mk rl (List.map Kerb.toEntry els)) n i now 2 2 6)),Zz .i64 (Zn (Kerb.useEnt (Kerb.Db.mk rl (List.map Kerb.toEntry els)) n i now 2 2 6))],[]))) fun (r:AV×Blocks)=>onNilB (Zn r) (Vb (Yz r) fun vs=>onCons vs fun x r=>Yu .i64 x fun n=>onCons r fun x r=>Yu .i64 x fun n_1=>onNil r (some (Zh [Zz .i64 n,Zz .i64 n_1],[]))):Option (AV×Blocks))) (by kernel_rfl) ?_
  simp only [hpre,↓A0,A0]
  rfl
 ·cases h
end Go.Proofs.YtmpklfnpjhdjeaaGreatDoor
