/- What the functions of this seat compute. -/
import Derived.Test.YtljhmpcfjfcgiaaGreatDoorTab
import Derived.Test.YtljhmpcfjfcgiaaGreatDoorKerbPlain
import Derived.Test.YtljhmpcfjfcgiaaGreatDoorAbsStep
import Derived.Test.YtljhmpcfjfcgiaaGreatDoorKerbCli3
import Derived.Test.YtljhmpcfjfcgiaaGreatDoorKerbCli4
import Derived.Test.YtljhmpcfjfcgiaaGreatDoorKerbCli5
import Derived.Test.YtljhmpcfjfcgiaaGreatDoorKerbSrvL
import Derived.Test.YtljhmpcfjfcgiaaGreatDoorKerbKac2
import Derived.Test.YtljhmpcfjfcgiaaGreatDoorKerbKac4
import Derived.Test.YtljhmpcfjfcgiaaGreatDoorKerbSrvB
import Derived.Test.YtljhmpcfjfcgiaaGreatDoorKerbVerL
import Derived.Test.YtljhmpcfjfcgiaaGreatDoorKerbVerL
import Derived.Test.YtljhmpcfjfcgiaaGreatDoorKerbAuthL
open Go.Abs.AV renaming int→Zz,str→Zw,agg→Zd,bool→Yx,bs→Yu,tup→Yd,sl→Yn,ownL→Ym,undef→Xx,onInt→Xu,onAgg→Wu,u8→Wf,onOwnL→Wg,onBool→Wb,ownB→Wn
open Kerb renaming service→Zy,user→Zu,simpleEnt→Zp,dataEntPrin→Zg,u8i→Zb,nextPos→Zn,nextPos_dec→Zm,next→Yz,eq11→Yq,within→Yj,next_dec1000→Yp,eq3→Yf,next_dec62→Yg,indexOf→Yb,long→Yh,next_dec→Xy,keyValid→Xv,eq2→Xq,eq10→Xf,tEnd→Xn,noCross→Xm,putN→Wx,imin→Wq,putText→Wj,bfd→Wd,validName→Wm,validInst→Wh,crossKeys→Vz,findEnt→Vx,get→Vw,room_ok→Vk,printable→Vp,crossStep→Vd,getD_row→Vn,crossKey→Vm,grantLife→Ux,isKind→Uu,byteAt→Uq,bfd_eq→Uj
open Go.IntKind renaming i64→Zx,wrap→Zq,u64→Yk,bits→Xb
open List renaming length→Zv,getD→Xz,length_map→Xw,append→Xg,range_succ→Vv,take→Vj,length_cons→Vg,drop→Vb,length_nil→Vh,replicate→Uy
open Option renaming bind→Zj
open Kerb.Entry renaming av→Zk
open Int renaming toNat→Zf,tmod→Xj,toNat_natCast→Xp,tmod_eq_emod_of_nonneg→Uw,tdiv_eq_ediv_of_nonneg→Uv
open Bool renaming and_self→Zh,and_eq_true→Xk,not_true→Wk
open Prod renaming snd→Yy,fst→Yv
open Kerb.Cross renaming av→Yw
open UInt8 renaming toNat→Xd,ofNat→Vu
open Kerb.Prin renaming realm→Xh,name→Wz,inst→Wy,valid→Vf
open Go.Abs.Ex renaming exit→Ww
open Kerb.SKey renaming av→Wv
open Nat renaming beq_refl→Wp,zero_le→Vy,beq→Uz
open Sum renaming inl→Vq,inr→Uk
namespace Go.Proofs.YtljhmpcfjfcgiaaGreatDoor
open Go Go.Abs Go.Proofs
set_option linter.unusedVariables false
set_option linter.unusedSimpArgs false
set_option maxRecDepth 100000
theorem w56:Walked Tryz.prog G 56 3 sp56:=by
 refine ⟨Tryz.f56,Tryz.func56,by decide +kernel,rfl,fun xs bl r h=> ?_⟩
 unfold sp56 at h
 split at h
 ·rename_i b pos
  obtain ⟨hpre,h2⟩:=chk_inv h;cases h2
  refine Eq.trans (b:=(Zj (chk (decide (Zv b≤4611686018427387904)&&true&&true) (some (Yd [Zz .i64 (Kerb.Got.val (Vw b pos 1 false)),Zz .i64 (Kerb.Got.next (Vw b pos 1 false)),Zz .i64 (Kerb.Got.err (Vw b pos 1 false))],[]))) fun (r:AV×Blocks)=>onNilB (Yy r) (AV.onTup (Yv r) fun vs=>onCons vs fun x r=>Xu .i64 x fun n=>onCons r fun x r=>Xu .i64 x fun n_1=>onCons r fun x r=>Xu .i64 x fun n_2=>onNil r (some (Yd [Zz .i64 n,Zz .i64 n_1,Zz .i64 n_2],[]))):Option (AV×Blocks))) (by kernel_rfl) ?_
  simp only [A0]
  rw [chk_of (by rw [hpre];rfl)]
 ·cases h
theorem w57:Walked Tryz.prog G 57 3 sp57:=by
 refine ⟨Tryz.f57,Tryz.func57,by decide +kernel,rfl,fun xs bl r h=> ?_⟩
 unfold sp57 at h
 split at h
 ·rename_i b pos
  obtain ⟨hpre,h2⟩:=chk_inv h;cases h2
  refine Eq.trans (b:=(let t5:List UInt8:=Vb (Zf pos) (Vj (Zf (↑(Zv b):Int)) b);let t6:Option (AV×Blocks):=some (Yd [Zw [],Zz .i64 0,Zz .i64 105],[]);let t7:Option (AV×Blocks):=some (Yd [Zw [],Zz .i64 0,Zz .i64 101],[]);let t1:Int:=Yb (0:UInt8) t5;let t2:Int:=(↑(Zv t5):Int);let t4:List UInt8:=Vb (Zf (↑(0:Nat):Int)) (Vj (Zf 40) t5);let t0:Int:=Yb (0:UInt8) t4;let t3:Int:=(↑(Zv t4):Int);Zj (chk (decide (Zv b≤4611686018427387904)) (some (Zz .i64 (Kerb.room b pos 0),[]))) (kI .i64 fun n=>sel (!n==0) (some (Yd [Zw [],Zz .i64 0,Zz .i64 n],[])) (chk (decide (0≤pos)&&decide (pos≤(↑(Zv b):Int))&&decide ((↑(Zv b):Int)≤(↑(Zv b):Int))) (sel (decide (t2>40)) (chk (decide (40≤t2)) (sel (decide (t0≥0)) (chk (decide ((↑(0:Nat):Int)≤t0)&&decide (t0≤t3)) (some (Yd [Zw (Vb (Zf (↑(0:Nat):Int)) (Vj (Zf t0) t4)),Zz .i64 (Zq .i64 (Zq .i64 (pos+t0)+1)),Zz .i64 0],[]))) (sel (t3==40) t6 t7))) (sel (decide (t1≥0)) (chk (decide ((↑(0:Nat):Int)≤t1)&&decide (t1≤t2)) (some (Yd [Zw (Vb (Zf (↑(0:Nat):Int)) (Vj (Zf t1) t5)),Zz .i64 (Zq .i64 (Zq .i64 (pos+t1)+1)),Zz .i64 0],[]))) (sel (t2==40) t6 t7))))):Option (AV×Blocks))) (by kernel_rfl) ?_
  delta kI
  try dsimp only [cStr,cBs,cBool,cU8,cInt,cSl,l63]
  simp only [decide_eq_true_eq] at hpre
  simp only [A0]
  rw [chk_of (by simpa using hpre)]
  have ht:(Vj (Zf (b.length:Int)) b)=b:=by simp
  rw [ht]
  unfold Kerb.text
  by_cases hr:Kerb.room b pos 0=0
  case neg =>
   have h104:Kerb.room b pos 0=104:=by
    unfold Kerb.room at hr ⊢
    split at hr
    ·rw [if_pos (by assumption)]
    ·split at hr<;>omega
   rw [sel_pos (by simpa using hr),if_neg hr,h104]
  obtain ⟨q1,q2,_,_⟩:=Kerb.room_zero.1 hr
  rw [sel_neg (by simp [hr]),if_pos hr,chk_of (by simp;omega)]
  obtain ⟨R,hR⟩:∃ R,R=b.drop pos.toNat:=⟨_,rfl⟩
  have hRl:R.length=b.length-pos.toNat:=by rw [hR];simp
  rw [← hR]
  obtain ⟨T,hT⟩:∃ T,T=R.take 40:=⟨_,rfl⟩
  have hix:=Kerb.indexOf_bd 0 T
  have key:(sel (decide (Yb (0:UInt8) T≥(0:Int)))
    (chk (decide (((0:Nat):Int)≤Yb (0:UInt8) T)&&decide (Yb (0:UInt8) T≤(T.length:Int)))
     (some (Yd [Zw (Vb (Zf ((0:Nat):Int)) (Vj (Zf (Yb (0:UInt8) T)) T)),Zz Zx (Zq Zx (Zq Zx (pos+Yb (0:UInt8) T)+(1:Int))),Zz Zx (0:Int)],([]:Blocks))))
    (sel (((T.length:Int))==(40:Int)) (some (Yd [Zw [],Zz Zx (0:Int),Zz Zx (105:Int)],[]))
     (some (Yd [Zw [],Zz Zx (0:Int),Zz Zx (101:Int)],[])))) =
    some (Yd [Zw (if 0≤Yb 0 T then (⟨T.take (Yb 0 T).toNat,pos+Yb 0 T+1,0⟩:Kerb.GotB) else if T.length=40 then ⟨[],0,105⟩ else ⟨[],0,101⟩).val,
     Zz Zx (if 0≤Yb 0 T then (⟨T.take (Yb 0 T).toNat,pos+Yb 0 T+1,0⟩:Kerb.GotB) else if T.length=40 then ⟨[],0,105⟩ else ⟨[],0,101⟩).next,
     Zz Zx (if 0≤Yb 0 T then (⟨T.take (Yb 0 T).toNat,pos+Yb 0 T+1,0⟩:Kerb.GotB) else if T.length=40 then ⟨[],0,105⟩ else ⟨[],0,101⟩).err],[]):=by
   have hTl:T.length≤b.length-pos.toNat:=by rw [hT];simp;omega
   by_cases hi:0≤Yb 0 T
   ·rw [sel_pos (by simpa using hi),chk_of (by simp;omega),if_pos hi,wrap_i64 (n:=pos+Yb 0 T) (by omega) (by omega),wrap_i64 (by omega) (by omega)]
    rfl
   ·rw [sel_neg (by simp;omega),if_neg hi]
    by_cases h40:T.length=40
    ·rw [sel_pos (by simp [h40]),if_pos h40]
    ·rw [sel_neg (by simp;omega),if_neg h40]
  by_cases hlong:40<R.length
  ·rw [sel_pos (by simp;omega),chk_of (by simp;omega)]
   have e1:Vb (Zf ((0:Nat):Int)) (Vj (Zf (40:Int)) R)=T:=by rw [hT];rfl
   rw [e1]
   rw [← hT]
   exact key
  ·rw [sel_neg (by simp;omega)]
   have e1:R=T:=by rw [hT,List.take_of_length_le (by omega)]
   rw [← hT,e1]
   exact key
 ·cases h
theorem w71:Walked Tryz.prog G 71 3 sp71:=by
 refine ⟨Tryz.f71,Tryz.func71,by decide +kernel,rfl,fun xs bl r h=> ?_⟩
 unfold sp71 at h
 split at h
 ·rename_i k
  obtain ⟨hpre,h2⟩:=chk_inv h;cases h2
  refine Eq.trans (b:=(Zj (chk (decide (0≤k)&&decide (k<18446744073709551616)) (some (Yd [Zz .i64 (bif Xv k then Kerb.keyClass k else 0),Zz .i64 (bif Xv k then Kerb.keySerial k else 0),Yx (Xv k)],[]))) fun (r:AV×Blocks)=>onNilB (Yy r) (AV.onTup (Yv r) fun vs=>onCons vs fun x r=>Xu .i64 x fun n=>onCons r fun x r=>Xu .i64 x fun n_1=>onCons r fun x r=>Wb x fun b=>onNil r (some (Zz .i64 n,[]))):Option (AV×Blocks))) (by kernel_rfl) ?_
  simp only [hpre,↓A0,A0]
  rfl
 ·cases h
theorem w77:Walked Tryz.prog G 77 3 sp77:=by
 refine ⟨Tryz.f77,Tryz.func77,by decide +kernel,rfl,fun xs bl r h=> ?_⟩
 unfold sp77 at h
 split at h
 ·rename_i kd k bd
  obtain ⟨hpre,h2⟩:=chk_inv h;cases h2
  refine Eq.trans (b:=(let t0:List UInt8:=[Vu (Zf (Zq .u8 (Int.fdiv (↑(Zv bd):Int) (2 ^ min (Zf 8) (Xb .i64))))),Vu (Zf (Zq .u8 (↑(Zv bd):Int)))];let t1:List UInt8:=[(66:UInt8),Vu (Zf (Zq .u8 kd))];sel (decide (kd<1)) (some (Yd [Yu [],Zz .i64 104],[])) (sel (decide (kd>10)) (some (Yd [Yu [],Zz .i64 104],[])) (Zj (chk (decide (0≤k)&&decide (k<18446744073709551616)) (some (Yx (Xv k),[]))) (kL fun b=>sel (!b) (some (Yd [Yu [],Zz .i64 10],[])) (sel (decide ((↑(Zv bd):Int)>1000)) (some (Yd [Yu [],Zz .i64 105],[])) (Zj (chk (decide (0≤k)&&decide (k<18446744073709551616)) (some (Yu (Kerb.keyBytes k),[]))) (kB fun b=>chk (room (Zv t1+Zv b) 1) (chk (room (Zv (t1++b)+Zv t0) 1) (chk (room (Zv (t1++b++t0)+Zv bd) 1) (some (Yd [Yu (t1++b++t0++bd),Zz .i64 0],[])))))))))):Option (AV×Blocks))) (by kernel_rfl) ?_
  delta kB kL
  try dsimp only [cStr,cBs,cBool,cU8,cInt,cSl,l63]
  simp only [A0,Kerb.Client.av,Kerb.Cache.av,Kerb.Cred.av,hpre]
  unfold Kerb.makeBox
  by_cases k1:1≤kd
  case neg =>
   rw [sel_pos (by simp;omega),if_pos (by simp [Uu];omega)]
  by_cases k2:kd≤10
  case neg =>
   rw [sel_neg (by simp;omega),sel_pos (by simp;omega),if_pos (by simp [Uu];omega)]
  rw [sel_neg (by simp;omega),sel_neg (by simp;omega),if_neg (by simp [Uu];omega)]
  cases h2:Xv k
  ·rfl
  rw [Wk,sel_false,if_neg (by simp)]
  by_cases h3:1000<bd.length
  ·rw [sel_pos (by simp;omega),if_pos h3]
  have lk:=Kerb.keyBytes_len k
  rw [sel_neg (by simp;omega),if_neg h3,chk_of (Vk (by simp;omega)),chk_of (Vk (by simp;omega)),chk_of (Vk (by simp;omega)),Kerb.two_bytes,Kerb.wrap_u8,Int.emod_eq_of_lt (by omega) (by omega)]
 ·cases h
theorem w95:Walked Tryz.prog G 95 3 sp95:=by
 refine ⟨Tryz.f95,Tryz.func95,by decide +kernel,rfl,fun xs bl r h=> ?_⟩
 unfold sp95 at h
 split at h
 ·rename_i b s
  obtain ⟨hpre,h2⟩:=chk_inv h;cases h2
  refine Eq.trans (b:=(Zj (chk (decide (Zv (Xg b (Xg s ((0:UInt8)::Xg [] [])))≤140737488355328)&&decide (Zv [Yu b,Yu s,Yu [(0:UInt8)]]≤1000)) (some (Wn (Xg b (Xg s ((0:UInt8)::Xg [] []))),[]))) fun (r:AV×Blocks)=>onNilB (Yy r) (AV.onOwnB (Yv r) fun l=>some (Yu l,[])):Option (AV×Blocks))) (by kernel_rfl) ?_
  simp only [decide_eq_true_eq] at hpre
  simp only [A0]
  rw [chk_of (by simp;omega)]
  simp [Wj]
 ·cases h
theorem w100:Walked Tryz.prog G 100 3 sp100:=by
 refine ⟨Tryz.f100,Tryz.func100,by decide +kernel,rfl,fun xs bl r h=> ?_⟩
 unfold sp100 at h
 split at h
 ·rename_i kls x y z v
  obtain ⟨hpre,h2⟩:=chk_inv h;cases h2
  refine Eq.trans (b:=(Zj (chk (List.all kls Kerb.isSKey&&decide (Zv kls≤1000000)) (some (Zz .i64 (↑(Kerb.skAt (List.map Kerb.toSKey kls) (Kerb.Prin.mk x y z) v):Int),[]))) fun (r:AV×Blocks)=>onNilB (Yy r) (Xu .i64 (Yv r) fun n=>sel (n==(↑(Zv kls):Int)) (some (Yd [Zz .u64 0,Yx false],[])) (chk (decide (0≤n)&&decide (n<(↑(Zv kls):Int))&&true) (Wu (Xz kls (Zf n) Xx) fun cs=>onCons cs fun x r=>AV.onStr x fun b=>onCons r fun x r=>AV.onStr x fun b=>onCons r fun x r=>AV.onStr x fun b=>onCons r fun x r=>Xu .i64 x fun n=>onCons r fun x r=>Xu .u64 x fun n=>onNil r (some (Yd [Zz .u64 n,Yx true],[]))))):Option (AV×Blocks))) (by kernel_rfl) ?_
  simp only [Xk,decide_eq_true_eq] at hpre
  obtain ⟨hall,hlen⟩:=hpre
  obtain ⟨cs,rfl,hok⟩:=Kerb.skeys_of hall
  simp only [Kerb.map_toSKey,Xw,↓A0,A0] at hlen ⊢
  rw [chk_of (by rw [hall];simp;omega)]
  have hle:=Kerb.skAt_le cs ⟨x,y,z⟩ v
  unfold Kerb.skFind
  by_cases h:Kerb.skAt cs ⟨x,y,z⟩ v<cs.length
  ·rw [sel_neg (by simp;omega),chk_of (by simp;omega),Xp,Vn (d:=Kerb.noSKey) h,if_pos h]
   simp only [Wv,↓A0,A0]
  ·rw [sel_pos (by simp;omega),if_neg h]
 ·cases h
theorem w104:Walked Tryz.prog G 104 3 sp104:=by
 refine ⟨Tryz.f104,Tryz.func104,by decide +kernel,rfl,fun xs bl r h=> ?_⟩
 unfold sp104 at h
 split at h
 ·rename_i i l n s
  cases h
  refine Eq.trans (b:=(sel (!Yj i 4294967295) (some (Zz .i64 104,[])) (sel (!Yj n 4294967295) (some (Zz .i64 104,[])) (sel (!Yj l 255) (some (Zz .i64 104,[])) (sel (!Yj s 4294967295) (some (Zz .i64 104,[])) (sel (decide (i>Zq .i64 (n+s))) (some (Zz .i64 33,[])) (sel (decide (n>Zq .i64 (Xn i l+s))) (some (Zz .i64 32,[])) (some (Zz .i64 0,[]))))))):Option (AV×Blocks))) (by kernel_rfl) ?_
  unfold Kerb.stateErr
  cases h1:Yj i 4294967295
  ·rfl
  cases h2:Yj n 4294967295
  ·rfl
  cases h3:Yj l 255
  ·rfl
  cases h4:Yj s 4294967295
  ·rfl
  have b1:=Kerb.within_iff.1 h1
  have b2:=Kerb.within_iff.1 h2
  have b3:=Kerb.within_iff.1 h3
  have b4:=Kerb.within_iff.1 h4
  have he:Xn i l=i+300*(l+1):=by simp [Xn,h1,h3]
  simp only [Wk,sel_false,Zh,Bool.false_eq_true,if_false,he]
  rw [wrap_i64 (by omega) (by omega),wrap_i64 (by omega) (by omega)]
  by_cases h5:n+s<i
  ·rw [sel_pos (by simpa using h5),if_pos h5]
  rw [sel_neg (by simpa using h5),if_neg h5]
  by_cases h6:i+300*(l+1)+s<n
  ·rw [sel_pos (by simpa using h6),if_pos h6]
  rw [sel_neg (by simpa using h6),if_neg h6]
 ·cases h
theorem w115:Walked Tryz.prog G 115 3 sp115:=by
 refine ⟨Tryz.f115,Tryz.func115,by decide +kernel,rfl,fun xs bl r h=> ?_⟩
 unfold sp115 at h
 split at h
 ·rename_i n w els
  obtain ⟨hpre,h2⟩:=chk_inv h;cases h2
  refine Eq.trans (b:=(sel (!Yj n 4294967295) (some (Yd [Zz .i64 0,Yx false],[])) (sel (decide (Kerb.least w [255]<0)) (some (Yd [Zz .i64 0,Yx false],[])) (Zj (chk (allInts els&&decide (Zv els≤1000000)) (some (Zz .i64 (Kerb.least (Xn n (Kerb.least w [255])) (intsIn els)),[]))) fun (r:AV×Blocks)=>onNilB (Yy r) (Xu .i64 (Yv r) fun n_1=>sel (decide (n_1<n)) (some (Yd [Zz .i64 0,Yx false],[])) (Zj (chk (decide ((-9223372036854775808:Int)≤Zq .i64 (n_1-n))&&decide (Zq .i64 (n_1-n)≤9223372036854775807)) (some (Yd [Zz .i64 (bif decide (Zq .i64 (n_1-n)<300) then 0 else Kerb.fromSec (Zq .i64 (n_1-n))),Yx !decide (Zq .i64 (n_1-n)<300)],[]))) fun (r:AV×Blocks)=>onNilB (Yy r) (AV.onTup (Yv r) fun vs=>onCons vs fun x r=>Xu .i64 x fun n=>onCons r fun x r=>Wb x fun b=>onNil r (some (Yd [Zz .i64 n,Yx b],[]))))))):Option (AV×Blocks))) (by kernel_rfl) ?_
  simp only [Xk,decide_eq_true_eq] at hpre
  obtain ⟨⟨ha,hl⟩,hi⟩:=hpre
  have hl0:Kerb.least w [255]=Wq w 255:=rfl
  simp only [hl0,ha,hl,decide_true,Zh,↓A0,A0]
  unfold Ux
  cases hn:Yj n 4294967295
  ·rfl
  rw [sel_neg (by rfl)]
  have n1:=Kerb.within_iff.1 hn
  by_cases hw:w<0
  ·have h5:Wq w 255<0:=by unfold Wq;split<;>omega
   rw [sel_pos (by simpa using h5),if_pos (by simp [hw])]
  have hm:0≤Wq w 255∧Wq w 255≤255:=by unfold Wq;split<;>omega
  rw [sel_neg (by simp;omega),if_neg (by simp [hw])]
  have ht:Xn n (Wq w 255)=n+300*(Wq w 255+1):=by
   unfold Xn
   rw [if_pos (by rw [hn,Kerb.within_iff.2 hm];rfl)]
  rw [ht]
  have hle:=Kerb.least_le (intsIn els) (n+300*(Wq w 255+1))
  generalize Kerb.least (n+300*(Wq w 255+1)) (intsIn els)=L at hle ⊢
  by_cases h1:L<n
  ·rw [sel_pos (by simpa using h1),if_pos (by omega)]
  rw [sel_neg (by simpa using h1),wrap_i64 (by omega) (by omega),chk_of (by simp;omega)]
  by_cases h2:L-n<300
  ·rw [if_pos h2,show decide (L-n<300)=true from by simpa using h2];rfl
  ·rw [if_neg h2,show decide (L-n<300)=false from by simpa using h2]
   unfold Kerb.fromSec
   rw [Uv (by omega)]
   rfl
 ·cases h
theorem w125:Walked Tryz.prog G 125 3 sp125:=by
 refine ⟨Tryz.f125,Tryz.func125,by decide +kernel,rfl,fun xs bl r h=> ?_⟩
 unfold sp125 at h
 split at h
 ·rename_i b little
  obtain ⟨hpre,h2⟩:=chk_inv h;cases h2
  refine Eq.trans (b:=(sel little (Zj (chk (decide (Zv b≤70368744177664)) (some (Wn (b++Wx 1 1 false),[]))) fun (r:AV×Blocks)=>onNilB (Yy r) (AV.onOwnB (Yv r) fun l=>some (Wn l,[]))) (Zj (chk (decide (Zv b≤70368744177664)) (some (Wn (b++Wx 0 1 false),[]))) fun (r:AV×Blocks)=>onNilB (Yy r) (AV.onOwnB (Yv r) fun l=>some (Wn l,[]))):Option (AV×Blocks))) (by kernel_rfl) ?_
  simp only [A0]
  rw [chk_of hpre,chk_of hpre]
  cases little<;>rfl
 ·cases h
theorem w131:Walked Tryz.prog G 131 3 sp131:=by
 refine ⟨Tryz.f131,Tryz.func131,by decide +kernel,rfl,fun xs bl r h=> ?_⟩
 unfold sp131 at h
 split at h
 ·rename_i b n k little
  obtain ⟨hpre,h2⟩:=chk_inv h;cases h2
  refine Eq.trans (b:=(Zj (loopM (fun (st:List AV)=>cBs st fun b r=>cInt .i64 r fun n r=>cInt .i64 r fun n_1 r=>cBool r fun b_1 r=>cBs r fun c r=>cInt .i64 r fun n_2 r=>cInt .i64 r fun n_3 r=>let t0:Int:=Zq .i64 (Zq .i64 (n_1-1)-n_3);let t1:UInt8:=Vu (Zf (Zq .u8 (Int.fdiv n (2 ^ min (Zf (Zq .i64 (8*n_3))) (Xb .i64)))));onNil r (sel (decide (n_3<n_2)) (sel (!b_1) (chk (decide (0≤Zq .i64 (8*n_3))) (chk (decide (0≤t0)&&decide (t0<(↑(Zv c):Int))&&Uz (Zv c) 4&&true) (chk (Nat.blt (Zf t0) (Zv c)&&true&&true&&true&&true) (some (Vq [Yu b,Zz .i64 n,Zz .i64 n_1,Yx b_1,Yu (List.set c (Zf t0) t1),Zz .i64 n_2,Zz .i64 (Zq .i64 (n_3+1))]))))) (chk (decide (0≤Zq .i64 (8*n_3))) (chk (decide (0≤n_3)&&decide (n_3<(↑(Zv c):Int))&&Uz (Zv c) 4&&true) (chk (Nat.blt (Zf n_3) (Zv c)&&true&&true&&true&&true) (some (Vq [Yu b,Zz .i64 n,Zz .i64 n_1,Yx b_1,Yu (List.set c (Zf n_3) t1),Zz .i64 n_2,Zz .i64 (Zq .i64 (n_3+1))])))))) (some (Uk (Ww 0,[Yu b,Zz .i64 n,Zz .i64 n_1,Yx b_1,Yu c,Zz .i64 n_2,Zz .i64 n_3]))))) [Yu b,Zz .i64 n,Zz .i64 k,Yx little,Yu [(0:UInt8),(0:UInt8),(0:UInt8),(0:UInt8)],Zz .i64 k,Zz .i64 0]) fun (r:Ex×List AV)=>cBs (Yy r) fun b r_1=>cInt .i64 r_1 fun n r_2=>cInt .i64 r_2 fun n r_3=>cBool r_3 fun b_1 r_4=>cBs r_4 fun c r_5=>let t2:Nat:=Zv [Yu b,Yu (Vb (Zf (↑(0:Nat):Int)) (Vj (Zf n) c))];let t3:Nat:=Zv (Xg b (Xg (Vb (Zf (↑(0:Nat):Int)) (Vj (Zf n) c)) []));cInt .i64 r_5 fun n_1 r_6=>cInt .i64 r_6 fun n_2 r_7=>onNil r_7 (exK r.1 none fun (j:Nat)=>sel (Uz j 0) (chk (decide ((↑(0:Nat):Int)≤n)&&decide (n≤(↑(Zv c):Int))&&Uz (Zv c) 4) (Zj (chk (decide (t3≤140737488355328)&&decide (t2≤1000)) (some (Wn (Xg b (Xg (Vb (Zf (↑(0:Nat):Int)) (Vj (Zf n) c)) [])),[]))) (kO fun l=>some (Wn l,[])))) none):Option (AV×Blocks))) (by kernel_rfl) ?_
  delta kO
  try dsimp only [cStr,cBs,cBool,cU8,cInt,cSl,l63]
  simp only [Xk,decide_eq_true_eq] at hpre
  obtain ⟨hk,hb⟩:=hpre
  rcases hk with rfl | rfl | rfl<;>cases little
  ·refine loop_unroll 2 (Ww 0,[Yu b,Zz Zx n,Zz Zx 1,Yx false,Yu [Wd n 0,(0:UInt8),(0:UInt8),(0:UInt8)],Zz Zx 1,Zz Zx 1]) (by kernel_rfl) ?_
   simp only [A0]
   rw [sel_pos (Wp _),chk_of (by simp),chk_of (by simp;omega)]
   simp [Uj,Wx,Uq,Vv]
  ·refine loop_unroll 2 (Ww 0,[Yu b,Zz Zx n,Zz Zx 1,Yx true,Yu [Wd n 0,(0:UInt8),(0:UInt8),(0:UInt8)],Zz Zx 1,Zz Zx 1]) (by kernel_rfl) ?_
   simp only [A0]
   rw [sel_pos (Wp _),chk_of (by simp),chk_of (by simp;omega)]
   simp [Uj,Wx,Uq,Vv]
  ·refine loop_unroll 3 (Ww 0,[Yu b,Zz Zx n,Zz Zx 2,Yx false,Yu [Wd n 8,Wd n 0,(0:UInt8),(0:UInt8)],Zz Zx 2,Zz Zx 2]) (by kernel_rfl) ?_
   simp only [A0]
   rw [sel_pos (Wp _),chk_of (by simp),chk_of (by simp;omega)]
   simp [Uj,Wx,Uq,Vv]
  ·refine loop_unroll 3 (Ww 0,[Yu b,Zz Zx n,Zz Zx 2,Yx true,Yu [Wd n 0,Wd n 8,(0:UInt8),(0:UInt8)],Zz Zx 2,Zz Zx 2]) (by kernel_rfl) ?_
   simp only [A0]
   rw [sel_pos (Wp _),chk_of (by simp),chk_of (by simp;omega)]
   simp [Uj,Wx,Uq,Vv]
  ·refine loop_unroll 5 (Ww 0,[Yu b,Zz Zx n,Zz Zx 4,Yx false,Yu [Wd n 24,Wd n 16,Wd n 8,Wd n 0],Zz Zx 4,Zz Zx 4]) (by kernel_rfl) ?_
   simp only [A0]
   rw [sel_pos (Wp _),chk_of (by simp),chk_of (by simp;omega)]
   simp [Uj,Wx,Uq,Vv]
  ·refine loop_unroll 5 (Ww 0,[Yu b,Zz Zx n,Zz Zx 4,Yx true,Yu [Wd n 0,Wd n 8,Wd n 16,Wd n 24],Zz Zx 4,Zz Zx 4]) (by kernel_rfl) ?_
   simp only [A0]
   rw [sel_pos (Wp _),chk_of (by simp),chk_of (by simp;omega)]
   simp [Uj,Wx,Uq,Vv]
 ·cases h
theorem w139:Walked Tryz.prog G 139 3 sp139:=by
 refine ⟨Tryz.f139,Tryz.func139,by decide +kernel,rfl,fun xs bl r h=> ?_⟩
 unfold sp139 at h
 split at h
 ·rename_i s c
  cases h
  refine Eq.trans (b:=(some (Zz .i64 (Yb c s),[]):Option (AV×Blocks))) (by kernel_rfl) ?_
  rfl
 ·cases h
theorem w149:Walked Tryz.prog G 149 3 sp149:=by
 refine ⟨Tryz.f149,Tryz.func149,by decide +kernel,rfl,fun xs bl r h=> ?_⟩
 unfold sp149 at h
 split at h
 ·rename_i b
  obtain ⟨hpre,h2⟩:=chk_inv h;cases h2
  refine Eq.trans (b:=(chk (decide (0≤Xj (Zq .i64 (8-Xj (↑(Zv b):Int) 8)) 8)&&decide (Xj (Zq .i64 (8-Xj (↑(Zv b):Int) 8)) 8≤Xj (Zq .i64 (8-Xj (↑(Zv b):Int) 8)) 8)&&decide (Xj (Zq .i64 (8-Xj (↑(Zv b):Int) 8)) 8≤140737488355328)) (Zj (chk (decide (Zv (Xg b (Xg (Uy (Zf (Xj (Zq .i64 (8-Xj (↑(Zv b):Int) 8)) 8)) (0:UInt8)) []))≤140737488355328)&&decide (Zv [Yu b,Yu (Uy (Zf (Xj (Zq .i64 (8-Xj (↑(Zv b):Int) 8)) 8)) (0:UInt8))]≤1000)) (some (Wn (Xg b (Xg (Uy (Zf (Xj (Zq .i64 (8-Xj (↑(Zv b):Int) 8)) 8)) (0:UInt8)) [])),[]))) fun (r:AV×Blocks)=>onNilB (Yy r) (AV.onOwnB (Yv r) fun l=>some (Yu l,[]))):Option (AV×Blocks))) (by kernel_rfl) ?_
  have hb:=of_decide_eq_true hpre
  rw [Kerb.pad_eq hb]
  simp only [A0]
  rw [chk_of (by simp;omega),chk_of (by simp;omega)]
  simp [Kerb.pad]
  omega
 ·cases h
theorem w152:Walked Tryz.prog G 152 3 sp152:=by
 refine ⟨Tryz.f152,Tryz.func152,by decide +kernel,rfl,fun xs bl r h=> ?_⟩
 unfold sp152 at h
 split at h
 ·rename_i a b c
  obtain ⟨hpre,h2⟩:=chk_inv h;cases h2
  refine Eq.trans (b:=(Zj (chk (decide (Zv a≤9223372036854775807)) (some (Yx (Wm a),[]))) fun (r:AV×Blocks)=>onNilB (Yy r) (Wb (Yv r) fun b_1=>sel b_1 (Zj (chk (decide (Zv b≤9223372036854775807)) (some (Yx (Wh b),[]))) fun (r:AV×Blocks)=>onNilB (Yy r) (Wb (Yv r) fun b=>sel b (Zj (chk (decide (Zv c≤9223372036854775807)) (some (Yx (Kerb.validRealm c),[]))) fun (r:AV×Blocks)=>onNilB (Yy r) (Wb (Yv r) fun b=>some (Yx b,[]))) (some (Yx false,[])))) (some (Yx false,[]))):Option (AV×Blocks))) (by kernel_rfl) ?_
  simp only [Xk,decide_eq_true_eq] at hpre
  simp only [A0]
  rw [chk_of (by simp;omega),chk_of (by simp;omega),chk_of (by simp;omega)]
  simp only [Vf]
  cases Wm a<;>cases Wh b<;>rfl
 ·cases h
theorem w153:Walked Tryz.prog G 153 3 sp153:=by
 refine ⟨Tryz.f153,Tryz.func153,by decide +kernel,rfl,fun xs bl r h=> ?_⟩
 unfold sp153 at h
 split at h
 ·rename_i k
  obtain ⟨hpre,h2⟩:=chk_inv h;cases h2
  refine Eq.trans (b:=(Zj (chk (decide (0≤k)&&decide (k<18446744073709551616)) (some (Yx (Xv k),[]))) fun (r:AV×Blocks)=>onNilB (Yy r) (Wb (Yv r) fun b=>sel (!b) (some (Zz .i64 0,[])) (some (Zz .i64 (Zq .i64 (Int.fdiv k (2 ^ min (Zf 56) (Xb .u64)))),[]))):Option (AV×Blocks))) (by kernel_rfl) ?_
  simp only [hpre,↓A0,A0]
  unfold Kerb.classOf
  cases hk:Xv k
  ·rfl
  simp only [Wk,Bool.not_false,sel_true,sel_false]
  simp only [Xk,decide_eq_true_eq] at hpre
  have h7:(min (Zf 56) (Xb .u64))=56:=rfl
  rw [h7,Int.fdiv_eq_ediv_of_nonneg _ (by decide),wrap_i64 (by omega) (by omega)]
  rfl
 ·cases h
theorem w5:Walked Tryz.prog G 5 4 sp5:=by
 refine ⟨Tryz.f5,Tryz.func5,by decide +kernel,rfl,fun xs bl r h=> ?_⟩
 unfold sp5 at h
 split at h
 ·rename_i l
  obtain ⟨hpre,h2⟩:=chk_inv h;cases h2
  refine Eq.trans (b:=(Zj (chk (decide (Zv l≤100000)) (some (Yn 4 (List.map Yw (Kerb.dataCross l)),[]))) fun (r:AV×Blocks)=>onNilB (Yy r) (AV.onSl 4 (Yv r) fun b=>Zj (loopM (fun (st:List AV)=>cSl 4 st fun b r=>onCons r fun x r=>Wg x fun b_1=>cInt .i64 r fun n r=>let t0:Option (List AV ⊕ Ex×List AV):=some (Uk (Ww 0,[Yn 4 b,Ym b_1,Zz .i64 n]));onNil r (sel (decide (n<(↑(Zv b):Int))) (sel (decide ((↑(Zv b_1):Int)<20)) (chk (decide (0≤n)&&decide (n<(↑(Zv b):Int))&&true) (Wu (Xz b (Zf n) Xx) fun cs=>cStr cs fun b_2 r=>cStr r fun b_3 r=>cInt .i64 r fun n_1 r=>cInt .u64 r fun n_2 r=>onNil r (chk (decide (0≤n)&&decide (n<(↑(Zv b):Int))&&true) (Wu (Xz b (Zf n) Xx) fun cs=>cStr cs fun b_4 r=>cStr r fun b_5 r=>cInt .i64 r fun n_3 r=>cInt .u64 r fun n_4 r=>onNil r (Zj (loopM (fun (st:List AV)=>cSl 4 st fun b r=>onCons r fun x r=>Wg x fun b_6=>cInt .i64 r fun n r=>let t1:Bool:=decide (0≤n)&&decide (n<(↑(Zv b):Int))&&true;cBool r fun b_7 r=>cInt .i64 r fun n_5 r=>let t2:Bool:=decide (0≤n_5)&&decide (n_5<(↑(Zv b_6):Int))&&true;let t4:List AV:=[Zz .i64 (Zq .i64 (n_5+1))];let t3:Option (List AV ⊕ Ex×List AV):=some (Vq (Yn 4 b::Ym b_6::Zz .i64 n::Yx true::t4));onNil r (sel (decide (n_5<(↑(Zv b_6):Int))) (sel b_7 (chk t2 (chk (Nat.blt (Zf n_5) (Zv b_6)&&true) (Wu (Xz b_6 (Zf n_5) Xx) fun cs=>cStr cs fun b_8 r=>cStr r fun b_9 r=>cInt .i64 r fun n_6 r=>cInt .u64 r fun n_7 r=>onNil r (chk t1 (Wu (Xz b (Zf n) Xx) fun cs=>cStr cs fun b_10 r=>cStr r fun b_11 r=>cInt .i64 r fun n_8 r=>cInt .u64 r fun n_9 r=>onNil r (sel (!b_8==b_10) t3 (chk t2 (chk (Nat.blt (Zf n_5) (Zv b_6)&&true) (Wu (Xz b_6 (Zf n_5) Xx) fun cs=>cStr cs fun b_12 r=>cStr r fun b_13 r=>cInt .i64 r fun n_10 r=>cInt .u64 r fun n_11 r=>onNil r (chk t1 (Wu (Xz b (Zf n) Xx) fun cs=>cStr cs fun b_14 r=>cStr r fun b_15 r=>cInt .i64 r fun n_12 r=>cInt .u64 r fun n_13 r=>onNil r (sel (!b_13==b_15) t3 (chk t2 (chk (Nat.blt (Zf n_5) (Zv b_6)&&true) (Wu (Xz b_6 (Zf n_5) Xx) fun cs=>cStr cs fun b_16 r=>cStr r fun b_17 r=>cInt .i64 r fun n_14 r=>cInt .u64 r fun n_15 r=>onNil r (chk t1 (Wu (Xz b (Zf n) Xx) fun cs=>cStr cs fun b_18 r=>cStr r fun b_19 r=>cInt .i64 r fun n_16 r=>cInt .u64 r fun n_17 r=>onNil r (some (Vq (Yn 4 b::Ym b_6::Zz .i64 n::(Yx !n_14==n_16)::t4)))))))))))))))))))) (some (Vq (Yn 4 b::Ym b_6::Zz .i64 n::Yx false::t4)))) (some (Uk (Ww 2,[Yn 4 b,Ym b_6,Zz .i64 n,Yx b_7,Zz .i64 n_5]))))) [Yn 4 b,Ym b_1,Zz .i64 n,Yx !b_2==b_5,Zz .i64 0]) fun (r:Ex×List AV)=>cSl 4 (Yy r) fun b r_1=>onCons r_1 fun x r_2=>Wg x fun b_6=>cInt .i64 r_2 fun n r_3=>cBool r_3 fun b_7 r_4=>cInt .i64 r_4 fun n_5 r_5=>onNil r_5 (exK r.1 (some (Uk (Ex.ret,[Yn 4 b,Ym b_6,Zz .i64 n]))) fun (j:Nat)=>sel (Uz j 2) (sel b_7 (chk (decide (0≤n)&&decide (n<(↑(Zv b):Int))&&true) (Wu (Xz b (Zf n) Xx) fun cs=>cStr cs fun b_8 r=>cStr r fun b_9 r=>cInt .i64 r fun n_6 r=>cInt .u64 r fun n_7 r=>let t5:List AV:=[Zd [Zw b_8,Zw b_9,Zz .i64 n_6,Zz .u64 n_7]];onNil r (chk (room (Zv b_6+Zv t5) (nat_lit 48)) (some (Vq [Yn 4 b,Ym (b_6++t5),Zz .i64 (Zq .i64 (n+1))]))))) (some (Vq [Yn 4 b,Ym b_6,Zz .i64 (Zq .i64 (n+1))]))) none)))))) t0) t0)) [Yn 4 b,Ym [],Zz .i64 0]) fun (r:Ex×List AV)=>cSl 4 (Yy r) fun b r_1=>onCons r_1 fun x r_2=>Wg x fun b=>cInt .i64 r_2 fun n r_3=>onNil r_3 (exK r.1 none fun (j:Nat)=>sel (Uz j 0) (some (Yn 4 b,[])) none)):Option (AV×Blocks))) (by kernel_rfl) ?_
  try dsimp only [cStr,cBs,cBool,cU8,cInt,cSl,l63]
  have hl:=of_decide_eq_true hpre
  obtain ⟨al,has⟩:∃ a,Kerb.dataCross l=a:=⟨_,rfl⟩
  have hgood:Kerb.goodCross l=al.foldl Vd []:=by rw [← has];rfl
  have r48:∀ {m:Nat},m≤1000→Go.Abs.room m 48=true:=fun h=>by simp [Go.Abs.room];omega
  have hla:al.length≤25:=by rw [← has];exact (Kerb.dataCross_ok l).1
  simp (config:={maxSteps:=10000000}) only [hpre,has,hgood,↓A0,A0]
  refine loop_rounds (fun q:Nat×List Kerb.Cross=>[Yn 4 (al.map Yw),Ym (q.2.map Yw),Zz Zx (q.1:Int)]) (fun q=>q.1≤al.length∧q.2.length≤20∧al.foldl Vd []=(al.drop q.1).foldl Vd q.2) (fun q=>al.length-q.1)
   (fun r=>∃ i:Int,r=(Ww 0,[Yn 4 (al.map Yw),Ym ((al.foldl Vd []).map Yw),Zz Zx i])) (0,[]) ⟨Vy _,by simp,by simp⟩ rfl ?_ ?_
  ·rintro ⟨i,out⟩ ⟨hi,ho,he⟩
   dsimp only at hi ho he
   simp (config:={maxSteps:=10000000}) only [Xw,↓sInt,↓sU8,↓sBool,↓sStr,↓sBs,↓sSl,↓sAgg,↓sTup,↓sCons,↓sNil,↓sNilB,↓sChk,↓sChkBind,↓sSome,↓sOwnL,↓sConsB,↓sOwnB]
   by_cases h1:i<al.length
   case neg =>
    rw [sel_neg (by simp;omega)]
    rw [List.drop_eq_nil_of_le (by omega)] at he
    exact ⟨_,rfl,(i:Int),by rw [he];rfl⟩
   rw [sel_pos (by simp;omega)]
   by_cases h2:out.length<20
   case neg =>
    rw [sel_neg (by simp;omega)]
    rw [Kerb.crossStep_full (out:=out) (by omega)] at he
    exact ⟨_,rfl,(i:Int),by rw [he]⟩
   rw [sel_pos (by simp;omega)]
   obtain ⟨c,hc⟩:∃ c,al.getD i Xm=c:=⟨_,rfl⟩
   have hgi:(al.map Yw).getD i Xx=c.av:=by rw [Vn (d:=Xm) h1,hc]
   have hki:(decide ((0:Int)≤(i:Int))&&decide ((i:Int)<(al.length:Int))&&true)=true:=by simp;omega
   rw [Kerb.drop_row (d:=Xm) h1,hc,List.foldl_cons] at he
   simp (config:={maxSteps:=10000000}) only [hki,hgi,Xp,Yw,↓sInt,↓sU8,↓sBool,↓sStr,↓sBs,↓sSl,↓sAgg,↓sTup,↓sCons,↓sNil,↓sNilB,↓sChk,↓sChkBind,↓sSome,↓sOwnL,↓sConsB,↓sOwnB]
   refine loop_ex (fun k:Nat=>[Yn 4 (al.map Yw),Ym (out.map Yw),Zz Zx (i:Int),Yx (!(c.source==c.target) && !(out.take k).any c.alike),Zz Zx (k:Int)]) (fun k=>k≤out.length) (fun k=>out.length-k)
    (fun r=>r=(Ww 2,[Yn 4 (al.map Yw),Ym (out.map Yw),Zz Zx (i:Int),Yx (!(c.source==c.target) && !out.any c.alike),Zz Zx (out.length:Int)])) 0 (Vy _) (by simp) ?_ ?_
   ·intro k hk
    simp (config:={maxSteps:=10000000}) only [Xw,↓sInt,↓sU8,↓sBool,↓sStr,↓sBs,↓sSl,↓sAgg,↓sTup,↓sCons,↓sNil,↓sNilB,↓sChk,↓sChkBind,↓sSome,↓sOwnL,↓sConsB,↓sOwnB]
    by_cases h3:k<out.length
    case neg =>
     rw [sel_neg (by simp;omega)]
     have:k=out.length:=by omega
     subst this
     rw [List.take_length]
     exact ⟨_,rfl,rfl⟩
    rw [sel_pos (by simp;omega)]
    obtain ⟨d,hd⟩:∃ d,out.getD k Xm=d:=⟨_,rfl⟩
    have hgk:(out.map Yw).getD k Xx=d.av:=by rw [Vn (d:=Xm) h3,hd]
    have hkk:(decide ((0:Int)≤(k:Int))&&decide ((k:Int)<(out.length:Int))&&true)=true:=by simp;omega
    have hbk:(Nat.blt k out.length&&true)=true:=by simp [Nat.blt_eq];omega
    have htk:(out.take (k+1)).any c.alike=((out.take k).any c.alike||c.alike d):=by
     rw [Kerb.take_row (d:=Xm) h3,hd,List.any_append];simp
    rw [wrap_i64 (by omega) (by omega)]
    cases h4:(!(c.source==c.target) && !(out.take k).any c.alike)
    ·have h9:(!(c.source==c.target) && !(out.take (k+1)).any c.alike)=false:=by
      rw [htk,Bool.not_or,← Bool.and_assoc,h4];rfl
     exact ⟨_,rfl,k+1,by dsimp only;rw [h9];rfl,by omega,by dsimp only;omega⟩
    ·have h9:(!(c.source==c.target) && !(out.take (k+1)).any c.alike) = !(c.alike d):=by
      rw [htk,Bool.not_or,← Bool.and_assoc,h4,Bool.true_and]
     have he0:c.alike d=(d.source==c.source&&(d.target==c.target&&d.kvno==c.kvno)):=rfl
     simp (config:={maxSteps:=10000000}) only [↓sTrue,hkk,hki,hbk,hgk,hgi,Xp,Yw,↓sInt,↓sU8,↓sBool,↓sStr,↓sBs,↓sSl,↓sAgg,↓sTup,↓sCons,↓sNil,↓sNilB,↓sChk,↓sChkBind,↓sSome,↓sOwnL,↓sConsB,↓sOwnB]
     cases h5:(d.source==c.source)
     ·rw [h5,Bool.false_and] at he0
      exact ⟨_,rfl,k+1,by dsimp only;rw [h9,he0];rfl,by omega,by dsimp only;omega⟩
     rw [h5,Bool.true_and] at he0
     cases h6:(d.target==c.target)
     ·rw [h6,Bool.false_and] at he0
      exact ⟨_,rfl,k+1,by dsimp only;rw [h9,he0];rfl,by omega,by dsimp only;omega⟩
     rw [h6,Bool.true_and] at he0
     exact ⟨_,rfl,k+1,by dsimp only;rw [h9,he0];rfl,by omega,by dsimp only;omega⟩
   ·rintro _ rfl
    simp (config:={maxSteps:=10000000}) only [Xw,↓A0,A0]
    rw [sel_pos (Wp _),wrap_i64 (by omega) (by omega)]
    have hst:Vd out c=if (!(c.source==c.target) && !out.any c.alike)=true then out++[c] else out:=by
     unfold Vd
     by_cases q1:c.source=c.target
     ·rw [if_pos (.inr (.inl q1)),if_neg (by simp [q1])]
     by_cases q:out.any c.alike=true
     ·rw [if_pos (.inr (.inr q)),if_neg (by simp [q])]
     ·rw [if_neg (by rintro (h | h | h);omega;exact q1 h;exact q h),if_pos (by simp [q1];simpa using q)]
    cases h6:(!(c.source==c.target) && !out.any c.alike)
    case true =>
     rw [h6,if_pos rfl] at hst
     rw [hst] at he
     simp (config:={maxSteps:=10000000}) only [↓sTrue,hki,hgi,Xp,Yw,Vg,Vh,↓sInt,↓sU8,↓sBool,↓sStr,↓sBs,↓sSl,↓sAgg,↓sTup,↓sCons,↓sNil,↓sNilB,↓sChk,↓sChkBind,↓sSome,↓sOwnL,↓sConsB,↓sOwnB]
     rw [chk_of (r48 (by omega))]
     refine ⟨_,rfl,(i+1,out++[c]),?_,⟨by dsimp only;omega,by dsimp only;simp;omega,he⟩,by dsimp only;omega⟩
     dsimp only
     rw [List.map_append]
     rfl
    ·rw [h6,if_neg (by simp)] at hst
     rw [hst] at he
     exact ⟨_,rfl,(i+1,out),rfl,⟨by dsimp only;omega,ho,he⟩,by dsimp only;omega⟩
  ·rintro _ ⟨p,rfl⟩
   simp only [↓A0,A0]
   rw [sel_pos (Wp _)]
 ·cases h
theorem w7:Walked Tryz.prog G 7 4 sp7:=by
 refine ⟨Tryz.f7,Tryz.func7,by decide +kernel,rfl,fun xs bl r h=> ?_⟩
 unfold sp7 at h
 split at h
 ·rename_i lf xp bd
  cases h
  refine Eq.trans (b:=(Zj (loopM (fun (st:List AV)=>cU8 st fun b r=>cU8 r fun b_1 r=>cU8 r fun b_2 r=>cStr r fun b_3 r=>cSl 9 r fun b_4 r=>cStr r fun b_5 r=>onCons r fun x r=>Wg x fun y=>cSl 3 r fun b_6 r=>cInt .i64 r fun n r=>onNil r (sel (decide (n<(↑(Zv b_6):Int))) (chk (decide (0≤n)&&decide (n<(↑(Zv b_6):Int))&&true) (Wu (Xz b_6 (Zf n) Xx) fun cs=>cStr cs fun b_7 r=>cStr r fun b_8 r=>cStr r fun b_9 r=>onNil r (chk (decide (0≤n)&&decide (n<(↑(Zv b_6):Int))&&true) (Wu (Xz b_6 (Zf n) Xx) fun cs=>cStr cs fun b_10 r=>cStr r fun b_11 r=>cStr r fun b_12 r=>onNil r (Zj (chk (decide (0≤n)&&decide (n≤1000)) (some (Zz .u64 (Yh n),[]))) (kI .u64 fun n_1=>Zj (sel (Xj (Zq .i64 (↑(Xd b_2):Int)) 16==n) (some [Wf b,Wf b_1,Wf b_2,Zw b_3,Yn 9 b_4,Zw b_5,Ym y,Yn 3 b_6,Zz .i64 n,Zw b_7,Zw b_11,Zz .u64 n_1,Zz .i64 (Zq .i64 (3+n)),Zz .i64 0,Zz .i64 (Zq .i64 (↑(Xd b):Int)),Zz .i64 (Zq .i64 (1+Xj (Zq .i64 (Int.tdiv (Zq .i64 (↑(Xd b_2):Int)) 16)) 3)),Zz .i64 0,Zz .i64 0]) (some [Wf b,Wf b_1,Wf b_2,Zw b_3,Yn 9 b_4,Zw b_5,Ym y,Yn 3 b_6,Zz .i64 n,Zw b_7,Zw b_11,Zz .u64 n_1,Zz .i64 (Zq .i64 (3+n)),Zz .i64 0,Zz .i64 (Zq .i64 (↑(Xd b):Int)),Zz .i64 0,Zz .i64 0,Zz .i64 0])) fun l=>cU8 l fun b r=>cU8 r fun b_13 r=>cU8 r fun b_14 r=>cStr r fun b_15 r=>cSl 9 r fun b_16 r=>cStr r fun b_17 r=>onCons r fun x r=>Wg x fun y=>cSl 3 r fun b_18 r=>cInt .i64 r fun n r=>cStr r fun b_19 r=>cStr r fun b_20 r=>cInt .u64 r fun n_2 r=>cInt .i64 r fun n_3 r=>cInt .i64 r fun n_4 r=>cInt .i64 r fun n_5 r=>cInt .i64 r fun n_6 r=>cInt .i64 r fun n_7 r=>cInt .i64 r fun n_8 r=>let t0:List AV:=[Zz .i64 n_5,Zz .i64 n_6,Zz .i64 n_7,Zz .i64 n_8];onNil r (Zj (sel (Xj (Zq .i64 (↑(Xd b_14):Int)) 16==Zq .i64 (8+n)) (some (Wf b::Wf b_13::Wf b_14::Zw b_15::Yn 9 b_16::Zw b_17::Ym y::Yn 3 b_18::Zz .i64 n::Zw b_19::Zw b_20::Zz .u64 n_2::Zz .i64 n_3::Zz .i64 (Zq .i64 (1000+Zq .i64 (Zq .i64 (↑(Xd b_13):Int)*100)))::t0)) (some (Wf b::Wf b_13::Wf b_14::Zw b_15::Yn 9 b_16::Zw b_17::Ym y::Yn 3 b_18::Zz .i64 n::Zw b_19::Zw b_20::Zz .u64 n_2::Zz .i64 n_3::Zz .i64 n_4::t0))) fun l=>cU8 l fun b r=>cU8 r fun b_21 r=>cU8 r fun b_22 r=>cStr r fun b_23 r=>cSl 9 r fun b_24 r=>cStr r fun b_25 r=>onCons r fun x r=>Wg x fun y=>cSl 3 r fun b_26 r=>cInt .i64 r fun n r=>cStr r fun b_27 r=>cStr r fun b_28 r=>cInt .u64 r fun n_9 r=>cInt .i64 r fun n_10 r=>cInt .i64 r fun n_11 r=>cInt .i64 r fun n_12 r=>cInt .i64 r fun n_13 r=>cInt .i64 r fun n_14 r=>cInt .i64 r fun n_15 r=>let t1:List AV:=[Zd [Zw b_27,Zw b_28,Zz .u64 n_9,Zz .i64 n_10,Zz .i64 n_11,Zz .i64 n_12,Zz .i64 n_13,Zz .i64 n_14,Zz .i64 n_15]];onNil r (chk (room (Zv y+Zv t1) (nat_lit 88)) (some (Vq [Wf b,Wf b_21,Wf b_22,Zw b_23,Yn 9 b_24,Zw b_25,Ym (y++t1),Yn 3 b_26,Zz .i64 (Zq .i64 (n+1))])))))))))) (some (Uk (Ww 0,[Wf b,Wf b_1,Wf b_2,Zw b_3,Yn 9 b_4,Zw b_5,Ym y,Yn 3 b_6,Zz .i64 n]))))) [Wf lf,Wf xp,Wf bd,Zw [],Yn 9 [],Zw [(65:UInt8),(84:UInt8),(72:UInt8)],Ym [],Yn 3 [Zd [Zw (Wz (Zu 0)),Zw (Wy (Zu 0)),Zw (Xh (Zu 0))],Zd [Zw (Wz (Zu 1)),Zw (Wy (Zu 1)),Zw (Xh (Zu 1))],Zd [Zw (Wz (Zu 2)),Zw (Wy (Zu 2)),Zw (Xh (Zu 2))],Zd [Zw (Wz (Zy 2)),Zw (Wy (Zy 2)),Zw (Xh (Zy 2))],Zd [Zw (Wz (Zy 0)),Zw (Wy (Zy 0)),Zw (Xh (Zy 0))],Zd [Zw (Wz (Zy 1)),Zw (Wy (Zy 1)),Zw (Xh (Zy 1))]],Zz .i64 0]) fun (r:Ex×List AV)=>cU8 (Yy r) fun b r_1=>cU8 r_1 fun b r_2=>cU8 r_2 fun b r_3=>cStr r_3 fun b r_4=>cSl 9 r_4 fun b_1 r_5=>cStr r_5 fun b_2 r_6=>onCons r_6 fun x r_7=>Wg x fun y=>cSl 3 r_7 fun b_3 r_8=>cInt .i64 r_8 fun n r_9=>onNil r_9 (exK r.1 (some (Zd [Zw b,Yn 9 b_1],[])) fun (j:Nat)=>sel (Uz j 0) (some (Zd [Zw b_2,Yn 9 y],[])) none):Option (AV×Blocks))) (by kernel_rfl) ?_
  delta kI
  try dsimp only [cStr,cBs,cBool,cU8,cInt,cSl,l63]
  have b0:=Kerb.u8i_bd lf
  have b1:=Kerb.u8i_bd xp
  have b2:=Kerb.u8i_bd bd
  have e0:=Kerb.wrap_u8i
  have e1:Xj (Zb bd) 16=Zb bd % 16:=Uw b2.1
  have e2:Zq .i64 (1000+Zq .i64 (Zb xp*100))=1000+Zb xp*100:=by rw [wrap_i64 (n:=Zb xp*100) (by omega) (by omega),wrap_i64 (by omega) (by omega)]
  have e3:Zq .i64 (1+Xj (Zq .i64 (Int.tdiv (Zb bd) 16)) 3)=1+Zb bd / 16 % 3:=by
   rw [Uv b2.1,wrap_i64 (n:=Zb bd / 16) (by omega) (by omega),Uw (by omega),wrap_i64 (by omega) (by omega)]
  refine loop_rounds (fun i:Nat=>[Wf lf,Wf xp,Wf bd,Zw [],Yn 9 [],Zw [65,84,72],Ym (((Kerb.simpleDb lf xp bd).entries.take i).map Zk),Yn 3 [Zd [Zw (Zu 0).name,Zw (Zu 0).inst,Zw (Zu 0).realm],Zd [Zw (Zu 1).name,Zw (Zu 1).inst,Zw (Zu 1).realm],Zd [Zw (Zu 2).name,Zw (Zu 2).inst,Zw (Zu 2).realm],Zd [Zw (Zy 2).name,Zw (Zy 2).inst,Zw (Zy 2).realm],Zd [Zw (Zy 0).name,Zw (Zy 0).inst,Zw (Zy 0).realm],Zd [Zw (Zy 1).name,Zw (Zy 1).inst,Zw (Zy 1).realm]],Zz Zx (i:Int)]) (fun i=>i≤6) (fun i=>6-i)
   (fun r=>r=(Ww 0,[Wf lf,Wf xp,Wf bd,Zw [],Yn 9 [],Zw [65,84,72],Ym ((Kerb.simpleDb lf xp bd).entries.map Zk),Yn 3 [Zd [Zw (Zu 0).name,Zw (Zu 0).inst,Zw (Zu 0).realm],Zd [Zw (Zu 1).name,Zw (Zu 1).inst,Zw (Zu 1).realm],Zd [Zw (Zu 2).name,Zw (Zu 2).inst,Zw (Zu 2).realm],Zd [Zw (Zy 2).name,Zw (Zy 2).inst,Zw (Zy 2).realm],Zd [Zw (Zy 0).name,Zw (Zy 0).inst,Zw (Zy 0).realm],Zd [Zw (Zy 1).name,Zw (Zy 1).inst,Zw (Zy 1).realm]],Zz Zx 6])) 0 (by decide) rfl ?_ ?_
  ·intro i hi
   have hc:i=0∨i=1∨i=2∨i=3∨i=4∨i=5∨i=6:=by omega
   rcases hc with rfl | rfl | rfl | rfl | rfl | rfl | rfl
   ·have g:Xz [Zd [Zw (Zu 0).name,Zw (Zu 0).inst,Zw (Zu 0).realm],Zd [Zw (Zu 1).name,Zw (Zu 1).inst,Zw (Zu 1).realm],Zd [Zw (Zu 2).name,Zw (Zu 2).inst,Zw (Zu 2).realm],Zd [Zw (Zy 2).name,Zw (Zy 2).inst,Zw (Zy 2).realm],Zd [Zw (Zy 0).name,Zw (Zy 0).inst,Zw (Zy 0).realm],Zd [Zw (Zy 1).name,Zw (Zy 1).inst,Zw (Zy 1).realm]] (Zf ((0:Nat):Int)) Xx=Zd [Zw (Zu 0).name,Zw (Zu 0).inst,Zw (Zu 0).realm]:=rfl
    have k0:decide (((0:Nat):Int)<((Zv [Zd [Zw (Zu 0).name,Zw (Zu 0).inst,Zw (Zu 0).realm],Zd [Zw (Zu 1).name,Zw (Zu 1).inst,Zw (Zu 1).realm],Zd [Zw (Zu 2).name,Zw (Zu 2).inst,Zw (Zu 2).realm],Zd [Zw (Zy 2).name,Zw (Zy 2).inst,Zw (Zy 2).realm],Zd [Zw (Zy 0).name,Zw (Zy 0).inst,Zw (Zy 0).realm],Zd [Zw (Zy 1).name,Zw (Zy 1).inst,Zw (Zy 1).realm]]:Nat):Int))=true:=rfl
    have k1:decide ((0:Int)≤((0:Nat):Int))=true:=rfl
    have k2:decide (((0:Nat):Int)≤1000)=true:=rfl
    have k3:Zq .i64 (3+((0:Nat):Int))=3+((0:Nat):Int):=rfl
    have k4:Zq .i64 (8+((0:Nat):Int))=8+((0:Nat):Int):=rfl
    simp only [g,k0,k1,k2,k3,k4,e0,e1,e2,e3,Zh,↓A0,A0]
    by_cases h1:Zb bd % 16=((0:Nat):Int)
    all_goals by_cases h2:Zb bd % 16=8+((0:Nat):Int)
    ·have hE:Zk (Zp ((0:Nat):Int) (Zu 0) lf xp bd)=Zd [Zw (Zu 0).name,Zw (Zu 0).inst,Zz Yk (Yh ((0:Nat):Int)),Zz Zx (3+((0:Nat):Int)),Zz Zx (1000+Zb xp*100),Zz Zx (Zb lf),Zz Zx (1+Zb bd / 16 % 3),Zz Zx 0,Zz Zx 0]:=by
      unfold Zk Zp
      dsimp only
      rw [if_pos h2,if_pos h1]
     rw [sel_pos (by simpa using h1),sel_pos (by simpa using h2),chk_of (by rfl),← hE]
     exact ⟨_,rfl,1,rfl,by decide,by decide⟩
    ·have hE:Zk (Zp ((0:Nat):Int) (Zu 0) lf xp bd)=Zd [Zw (Zu 0).name,Zw (Zu 0).inst,Zz Yk (Yh ((0:Nat):Int)),Zz Zx (3+((0:Nat):Int)),Zz Zx (0),Zz Zx (Zb lf),Zz Zx (1+Zb bd / 16 % 3),Zz Zx 0,Zz Zx 0]:=by
      unfold Zk Zp
      dsimp only
      rw [if_neg h2,if_pos h1]
     rw [sel_pos (by simpa using h1),sel_neg (by simpa using h2),chk_of (by rfl),← hE]
     exact ⟨_,rfl,1,rfl,by decide,by decide⟩
    ·have hE:Zk (Zp ((0:Nat):Int) (Zu 0) lf xp bd)=Zd [Zw (Zu 0).name,Zw (Zu 0).inst,Zz Yk (Yh ((0:Nat):Int)),Zz Zx (3+((0:Nat):Int)),Zz Zx (1000+Zb xp*100),Zz Zx (Zb lf),Zz Zx (0),Zz Zx 0,Zz Zx 0]:=by
      unfold Zk Zp
      dsimp only
      rw [if_pos h2,if_neg h1]
     rw [sel_neg (by simpa using h1),sel_pos (by simpa using h2),chk_of (by rfl),← hE]
     exact ⟨_,rfl,1,rfl,by decide,by decide⟩
    ·have hE:Zk (Zp ((0:Nat):Int) (Zu 0) lf xp bd)=Zd [Zw (Zu 0).name,Zw (Zu 0).inst,Zz Yk (Yh ((0:Nat):Int)),Zz Zx (3+((0:Nat):Int)),Zz Zx (0),Zz Zx (Zb lf),Zz Zx (0),Zz Zx 0,Zz Zx 0]:=by
      unfold Zk Zp
      dsimp only
      rw [if_neg h2,if_neg h1]
     rw [sel_neg (by simpa using h1),sel_neg (by simpa using h2),chk_of (by rfl),← hE]
     exact ⟨_,rfl,1,rfl,by decide,by decide⟩
   ·have g:Xz [Zd [Zw (Zu 0).name,Zw (Zu 0).inst,Zw (Zu 0).realm],Zd [Zw (Zu 1).name,Zw (Zu 1).inst,Zw (Zu 1).realm],Zd [Zw (Zu 2).name,Zw (Zu 2).inst,Zw (Zu 2).realm],Zd [Zw (Zy 2).name,Zw (Zy 2).inst,Zw (Zy 2).realm],Zd [Zw (Zy 0).name,Zw (Zy 0).inst,Zw (Zy 0).realm],Zd [Zw (Zy 1).name,Zw (Zy 1).inst,Zw (Zy 1).realm]] (Zf ((1:Nat):Int)) Xx=Zd [Zw (Zu 1).name,Zw (Zu 1).inst,Zw (Zu 1).realm]:=rfl
    have k0:decide (((1:Nat):Int)<((Zv [Zd [Zw (Zu 0).name,Zw (Zu 0).inst,Zw (Zu 0).realm],Zd [Zw (Zu 1).name,Zw (Zu 1).inst,Zw (Zu 1).realm],Zd [Zw (Zu 2).name,Zw (Zu 2).inst,Zw (Zu 2).realm],Zd [Zw (Zy 2).name,Zw (Zy 2).inst,Zw (Zy 2).realm],Zd [Zw (Zy 0).name,Zw (Zy 0).inst,Zw (Zy 0).realm],Zd [Zw (Zy 1).name,Zw (Zy 1).inst,Zw (Zy 1).realm]]:Nat):Int))=true:=rfl
    have k1:decide ((0:Int)≤((1:Nat):Int))=true:=rfl
    have k2:decide (((1:Nat):Int)≤1000)=true:=rfl
    have k3:Zq .i64 (3+((1:Nat):Int))=3+((1:Nat):Int):=rfl
    have k4:Zq .i64 (8+((1:Nat):Int))=8+((1:Nat):Int):=rfl
    simp only [g,k0,k1,k2,k3,k4,e0,e1,e2,e3,Zh,↓A0,A0]
    by_cases h1:Zb bd % 16=((1:Nat):Int)
    all_goals by_cases h2:Zb bd % 16=8+((1:Nat):Int)
    ·have hE:Zk (Zp ((1:Nat):Int) (Zu 1) lf xp bd)=Zd [Zw (Zu 1).name,Zw (Zu 1).inst,Zz Yk (Yh ((1:Nat):Int)),Zz Zx (3+((1:Nat):Int)),Zz Zx (1000+Zb xp*100),Zz Zx (Zb lf),Zz Zx (1+Zb bd / 16 % 3),Zz Zx 0,Zz Zx 0]:=by
      unfold Zk Zp
      dsimp only
      rw [if_pos h2,if_pos h1]
     rw [sel_pos (by simpa using h1),sel_pos (by simpa using h2),chk_of (by rfl),← hE]
     exact ⟨_,rfl,2,rfl,by decide,by decide⟩
    ·have hE:Zk (Zp ((1:Nat):Int) (Zu 1) lf xp bd)=Zd [Zw (Zu 1).name,Zw (Zu 1).inst,Zz Yk (Yh ((1:Nat):Int)),Zz Zx (3+((1:Nat):Int)),Zz Zx (0),Zz Zx (Zb lf),Zz Zx (1+Zb bd / 16 % 3),Zz Zx 0,Zz Zx 0]:=by
      unfold Zk Zp
      dsimp only
      rw [if_neg h2,if_pos h1]
     rw [sel_pos (by simpa using h1),sel_neg (by simpa using h2),chk_of (by rfl),← hE]
     exact ⟨_,rfl,2,rfl,by decide,by decide⟩
    ·have hE:Zk (Zp ((1:Nat):Int) (Zu 1) lf xp bd)=Zd [Zw (Zu 1).name,Zw (Zu 1).inst,Zz Yk (Yh ((1:Nat):Int)),Zz Zx (3+((1:Nat):Int)),Zz Zx (1000+Zb xp*100),Zz Zx (Zb lf),Zz Zx (0),Zz Zx 0,Zz Zx 0]:=by
      unfold Zk Zp
      dsimp only
      rw [if_pos h2,if_neg h1]
     rw [sel_neg (by simpa using h1),sel_pos (by simpa using h2),chk_of (by rfl),← hE]
     exact ⟨_,rfl,2,rfl,by decide,by decide⟩
    ·have hE:Zk (Zp ((1:Nat):Int) (Zu 1) lf xp bd)=Zd [Zw (Zu 1).name,Zw (Zu 1).inst,Zz Yk (Yh ((1:Nat):Int)),Zz Zx (3+((1:Nat):Int)),Zz Zx (0),Zz Zx (Zb lf),Zz Zx (0),Zz Zx 0,Zz Zx 0]:=by
      unfold Zk Zp
      dsimp only
      rw [if_neg h2,if_neg h1]
     rw [sel_neg (by simpa using h1),sel_neg (by simpa using h2),chk_of (by rfl),← hE]
     exact ⟨_,rfl,2,rfl,by decide,by decide⟩
   ·have g:Xz [Zd [Zw (Zu 0).name,Zw (Zu 0).inst,Zw (Zu 0).realm],Zd [Zw (Zu 1).name,Zw (Zu 1).inst,Zw (Zu 1).realm],Zd [Zw (Zu 2).name,Zw (Zu 2).inst,Zw (Zu 2).realm],Zd [Zw (Zy 2).name,Zw (Zy 2).inst,Zw (Zy 2).realm],Zd [Zw (Zy 0).name,Zw (Zy 0).inst,Zw (Zy 0).realm],Zd [Zw (Zy 1).name,Zw (Zy 1).inst,Zw (Zy 1).realm]] (Zf ((2:Nat):Int)) Xx=Zd [Zw (Zu 2).name,Zw (Zu 2).inst,Zw (Zu 2).realm]:=rfl
    have k0:decide (((2:Nat):Int)<((Zv [Zd [Zw (Zu 0).name,Zw (Zu 0).inst,Zw (Zu 0).realm],Zd [Zw (Zu 1).name,Zw (Zu 1).inst,Zw (Zu 1).realm],Zd [Zw (Zu 2).name,Zw (Zu 2).inst,Zw (Zu 2).realm],Zd [Zw (Zy 2).name,Zw (Zy 2).inst,Zw (Zy 2).realm],Zd [Zw (Zy 0).name,Zw (Zy 0).inst,Zw (Zy 0).realm],Zd [Zw (Zy 1).name,Zw (Zy 1).inst,Zw (Zy 1).realm]]:Nat):Int))=true:=rfl
    have k1:decide ((0:Int)≤((2:Nat):Int))=true:=rfl
    have k2:decide (((2:Nat):Int)≤1000)=true:=rfl
    have k3:Zq .i64 (3+((2:Nat):Int))=3+((2:Nat):Int):=rfl
    have k4:Zq .i64 (8+((2:Nat):Int))=8+((2:Nat):Int):=rfl
    simp only [g,k0,k1,k2,k3,k4,e0,e1,e2,e3,Zh,↓A0,A0]
    by_cases h1:Zb bd % 16=((2:Nat):Int)
    all_goals by_cases h2:Zb bd % 16=8+((2:Nat):Int)
    ·have hE:Zk (Zp ((2:Nat):Int) (Zu 2) lf xp bd)=Zd [Zw (Zu 2).name,Zw (Zu 2).inst,Zz Yk (Yh ((2:Nat):Int)),Zz Zx (3+((2:Nat):Int)),Zz Zx (1000+Zb xp*100),Zz Zx (Zb lf),Zz Zx (1+Zb bd / 16 % 3),Zz Zx 0,Zz Zx 0]:=by
      unfold Zk Zp
      dsimp only
      rw [if_pos h2,if_pos h1]
     rw [sel_pos (by simpa using h1),sel_pos (by simpa using h2),chk_of (by rfl),← hE]
     exact ⟨_,rfl,3,rfl,by decide,by decide⟩
    ·have hE:Zk (Zp ((2:Nat):Int) (Zu 2) lf xp bd)=Zd [Zw (Zu 2).name,Zw (Zu 2).inst,Zz Yk (Yh ((2:Nat):Int)),Zz Zx (3+((2:Nat):Int)),Zz Zx (0),Zz Zx (Zb lf),Zz Zx (1+Zb bd / 16 % 3),Zz Zx 0,Zz Zx 0]:=by
      unfold Zk Zp
      dsimp only
      rw [if_neg h2,if_pos h1]
     rw [sel_pos (by simpa using h1),sel_neg (by simpa using h2),chk_of (by rfl),← hE]
     exact ⟨_,rfl,3,rfl,by decide,by decide⟩
    ·have hE:Zk (Zp ((2:Nat):Int) (Zu 2) lf xp bd)=Zd [Zw (Zu 2).name,Zw (Zu 2).inst,Zz Yk (Yh ((2:Nat):Int)),Zz Zx (3+((2:Nat):Int)),Zz Zx (1000+Zb xp*100),Zz Zx (Zb lf),Zz Zx (0),Zz Zx 0,Zz Zx 0]:=by
      unfold Zk Zp
      dsimp only
      rw [if_pos h2,if_neg h1]
     rw [sel_neg (by simpa using h1),sel_pos (by simpa using h2),chk_of (by rfl),← hE]
     exact ⟨_,rfl,3,rfl,by decide,by decide⟩
    ·have hE:Zk (Zp ((2:Nat):Int) (Zu 2) lf xp bd)=Zd [Zw (Zu 2).name,Zw (Zu 2).inst,Zz Yk (Yh ((2:Nat):Int)),Zz Zx (3+((2:Nat):Int)),Zz Zx (0),Zz Zx (Zb lf),Zz Zx (0),Zz Zx 0,Zz Zx 0]:=by
      unfold Zk Zp
      dsimp only
      rw [if_neg h2,if_neg h1]
     rw [sel_neg (by simpa using h1),sel_neg (by simpa using h2),chk_of (by rfl),← hE]
     exact ⟨_,rfl,3,rfl,by decide,by decide⟩
   ·have g:Xz [Zd [Zw (Zu 0).name,Zw (Zu 0).inst,Zw (Zu 0).realm],Zd [Zw (Zu 1).name,Zw (Zu 1).inst,Zw (Zu 1).realm],Zd [Zw (Zu 2).name,Zw (Zu 2).inst,Zw (Zu 2).realm],Zd [Zw (Zy 2).name,Zw (Zy 2).inst,Zw (Zy 2).realm],Zd [Zw (Zy 0).name,Zw (Zy 0).inst,Zw (Zy 0).realm],Zd [Zw (Zy 1).name,Zw (Zy 1).inst,Zw (Zy 1).realm]] (Zf ((3:Nat):Int)) Xx=Zd [Zw (Zy 2).name,Zw (Zy 2).inst,Zw (Zy 2).realm]:=rfl
    have k0:decide (((3:Nat):Int)<((Zv [Zd [Zw (Zu 0).name,Zw (Zu 0).inst,Zw (Zu 0).realm],Zd [Zw (Zu 1).name,Zw (Zu 1).inst,Zw (Zu 1).realm],Zd [Zw (Zu 2).name,Zw (Zu 2).inst,Zw (Zu 2).realm],Zd [Zw (Zy 2).name,Zw (Zy 2).inst,Zw (Zy 2).realm],Zd [Zw (Zy 0).name,Zw (Zy 0).inst,Zw (Zy 0).realm],Zd [Zw (Zy 1).name,Zw (Zy 1).inst,Zw (Zy 1).realm]]:Nat):Int))=true:=rfl
    have k1:decide ((0:Int)≤((3:Nat):Int))=true:=rfl
    have k2:decide (((3:Nat):Int)≤1000)=true:=rfl
    have k3:Zq .i64 (3+((3:Nat):Int))=3+((3:Nat):Int):=rfl
    have k4:Zq .i64 (8+((3:Nat):Int))=8+((3:Nat):Int):=rfl
    simp only [g,k0,k1,k2,k3,k4,e0,e1,e2,e3,Zh,↓A0,A0]
    by_cases h1:Zb bd % 16=((3:Nat):Int)
    all_goals by_cases h2:Zb bd % 16=8+((3:Nat):Int)
    ·have hE:Zk (Zp ((3:Nat):Int) (Zy 2) lf xp bd)=Zd [Zw (Zy 2).name,Zw (Zy 2).inst,Zz Yk (Yh ((3:Nat):Int)),Zz Zx (3+((3:Nat):Int)),Zz Zx (1000+Zb xp*100),Zz Zx (Zb lf),Zz Zx (1+Zb bd / 16 % 3),Zz Zx 0,Zz Zx 0]:=by
      unfold Zk Zp
      dsimp only
      rw [if_pos h2,if_pos h1]
     rw [sel_pos (by simpa using h1),sel_pos (by simpa using h2),chk_of (by rfl),← hE]
     exact ⟨_,rfl,4,rfl,by decide,by decide⟩
    ·have hE:Zk (Zp ((3:Nat):Int) (Zy 2) lf xp bd)=Zd [Zw (Zy 2).name,Zw (Zy 2).inst,Zz Yk (Yh ((3:Nat):Int)),Zz Zx (3+((3:Nat):Int)),Zz Zx (0),Zz Zx (Zb lf),Zz Zx (1+Zb bd / 16 % 3),Zz Zx 0,Zz Zx 0]:=by
      unfold Zk Zp
      dsimp only
      rw [if_neg h2,if_pos h1]
     rw [sel_pos (by simpa using h1),sel_neg (by simpa using h2),chk_of (by rfl),← hE]
     exact ⟨_,rfl,4,rfl,by decide,by decide⟩
    ·have hE:Zk (Zp ((3:Nat):Int) (Zy 2) lf xp bd)=Zd [Zw (Zy 2).name,Zw (Zy 2).inst,Zz Yk (Yh ((3:Nat):Int)),Zz Zx (3+((3:Nat):Int)),Zz Zx (1000+Zb xp*100),Zz Zx (Zb lf),Zz Zx (0),Zz Zx 0,Zz Zx 0]:=by
      unfold Zk Zp
      dsimp only
      rw [if_pos h2,if_neg h1]
     rw [sel_neg (by simpa using h1),sel_pos (by simpa using h2),chk_of (by rfl),← hE]
     exact ⟨_,rfl,4,rfl,by decide,by decide⟩
    ·have hE:Zk (Zp ((3:Nat):Int) (Zy 2) lf xp bd)=Zd [Zw (Zy 2).name,Zw (Zy 2).inst,Zz Yk (Yh ((3:Nat):Int)),Zz Zx (3+((3:Nat):Int)),Zz Zx (0),Zz Zx (Zb lf),Zz Zx (0),Zz Zx 0,Zz Zx 0]:=by
      unfold Zk Zp
      dsimp only
      rw [if_neg h2,if_neg h1]
     rw [sel_neg (by simpa using h1),sel_neg (by simpa using h2),chk_of (by rfl),← hE]
     exact ⟨_,rfl,4,rfl,by decide,by decide⟩
   ·have g:Xz [Zd [Zw (Zu 0).name,Zw (Zu 0).inst,Zw (Zu 0).realm],Zd [Zw (Zu 1).name,Zw (Zu 1).inst,Zw (Zu 1).realm],Zd [Zw (Zu 2).name,Zw (Zu 2).inst,Zw (Zu 2).realm],Zd [Zw (Zy 2).name,Zw (Zy 2).inst,Zw (Zy 2).realm],Zd [Zw (Zy 0).name,Zw (Zy 0).inst,Zw (Zy 0).realm],Zd [Zw (Zy 1).name,Zw (Zy 1).inst,Zw (Zy 1).realm]] (Zf ((4:Nat):Int)) Xx=Zd [Zw (Zy 0).name,Zw (Zy 0).inst,Zw (Zy 0).realm]:=rfl
    have k0:decide (((4:Nat):Int)<((Zv [Zd [Zw (Zu 0).name,Zw (Zu 0).inst,Zw (Zu 0).realm],Zd [Zw (Zu 1).name,Zw (Zu 1).inst,Zw (Zu 1).realm],Zd [Zw (Zu 2).name,Zw (Zu 2).inst,Zw (Zu 2).realm],Zd [Zw (Zy 2).name,Zw (Zy 2).inst,Zw (Zy 2).realm],Zd [Zw (Zy 0).name,Zw (Zy 0).inst,Zw (Zy 0).realm],Zd [Zw (Zy 1).name,Zw (Zy 1).inst,Zw (Zy 1).realm]]:Nat):Int))=true:=rfl
    have k1:decide ((0:Int)≤((4:Nat):Int))=true:=rfl
    have k2:decide (((4:Nat):Int)≤1000)=true:=rfl
    have k3:Zq .i64 (3+((4:Nat):Int))=3+((4:Nat):Int):=rfl
    have k4:Zq .i64 (8+((4:Nat):Int))=8+((4:Nat):Int):=rfl
    simp only [g,k0,k1,k2,k3,k4,e0,e1,e2,e3,Zh,↓A0,A0]
    by_cases h1:Zb bd % 16=((4:Nat):Int)
    all_goals by_cases h2:Zb bd % 16=8+((4:Nat):Int)
    ·have hE:Zk (Zp ((4:Nat):Int) (Zy 0) lf xp bd)=Zd [Zw (Zy 0).name,Zw (Zy 0).inst,Zz Yk (Yh ((4:Nat):Int)),Zz Zx (3+((4:Nat):Int)),Zz Zx (1000+Zb xp*100),Zz Zx (Zb lf),Zz Zx (1+Zb bd / 16 % 3),Zz Zx 0,Zz Zx 0]:=by
      unfold Zk Zp
      dsimp only
      rw [if_pos h2,if_pos h1]
     rw [sel_pos (by simpa using h1),sel_pos (by simpa using h2),chk_of (by rfl),← hE]
     exact ⟨_,rfl,5,rfl,by decide,by decide⟩
    ·have hE:Zk (Zp ((4:Nat):Int) (Zy 0) lf xp bd)=Zd [Zw (Zy 0).name,Zw (Zy 0).inst,Zz Yk (Yh ((4:Nat):Int)),Zz Zx (3+((4:Nat):Int)),Zz Zx (0),Zz Zx (Zb lf),Zz Zx (1+Zb bd / 16 % 3),Zz Zx 0,Zz Zx 0]:=by
      unfold Zk Zp
      dsimp only
      rw [if_neg h2,if_pos h1]
     rw [sel_pos (by simpa using h1),sel_neg (by simpa using h2),chk_of (by rfl),← hE]
     exact ⟨_,rfl,5,rfl,by decide,by decide⟩
    ·have hE:Zk (Zp ((4:Nat):Int) (Zy 0) lf xp bd)=Zd [Zw (Zy 0).name,Zw (Zy 0).inst,Zz Yk (Yh ((4:Nat):Int)),Zz Zx (3+((4:Nat):Int)),Zz Zx (1000+Zb xp*100),Zz Zx (Zb lf),Zz Zx (0),Zz Zx 0,Zz Zx 0]:=by
      unfold Zk Zp
      dsimp only
      rw [if_pos h2,if_neg h1]
     rw [sel_neg (by simpa using h1),sel_pos (by simpa using h2),chk_of (by rfl),← hE]
     exact ⟨_,rfl,5,rfl,by decide,by decide⟩
    ·have hE:Zk (Zp ((4:Nat):Int) (Zy 0) lf xp bd)=Zd [Zw (Zy 0).name,Zw (Zy 0).inst,Zz Yk (Yh ((4:Nat):Int)),Zz Zx (3+((4:Nat):Int)),Zz Zx (0),Zz Zx (Zb lf),Zz Zx (0),Zz Zx 0,Zz Zx 0]:=by
      unfold Zk Zp
      dsimp only
      rw [if_neg h2,if_neg h1]
     rw [sel_neg (by simpa using h1),sel_neg (by simpa using h2),chk_of (by rfl),← hE]
     exact ⟨_,rfl,5,rfl,by decide,by decide⟩
   ·have g:Xz [Zd [Zw (Zu 0).name,Zw (Zu 0).inst,Zw (Zu 0).realm],Zd [Zw (Zu 1).name,Zw (Zu 1).inst,Zw (Zu 1).realm],Zd [Zw (Zu 2).name,Zw (Zu 2).inst,Zw (Zu 2).realm],Zd [Zw (Zy 2).name,Zw (Zy 2).inst,Zw (Zy 2).realm],Zd [Zw (Zy 0).name,Zw (Zy 0).inst,Zw (Zy 0).realm],Zd [Zw (Zy 1).name,Zw (Zy 1).inst,Zw (Zy 1).realm]] (Zf ((5:Nat):Int)) Xx=Zd [Zw (Zy 1).name,Zw (Zy 1).inst,Zw (Zy 1).realm]:=rfl
    have k0:decide (((5:Nat):Int)<((Zv [Zd [Zw (Zu 0).name,Zw (Zu 0).inst,Zw (Zu 0).realm],Zd [Zw (Zu 1).name,Zw (Zu 1).inst,Zw (Zu 1).realm],Zd [Zw (Zu 2).name,Zw (Zu 2).inst,Zw (Zu 2).realm],Zd [Zw (Zy 2).name,Zw (Zy 2).inst,Zw (Zy 2).realm],Zd [Zw (Zy 0).name,Zw (Zy 0).inst,Zw (Zy 0).realm],Zd [Zw (Zy 1).name,Zw (Zy 1).inst,Zw (Zy 1).realm]]:Nat):Int))=true:=rfl
    have k1:decide ((0:Int)≤((5:Nat):Int))=true:=rfl
    have k2:decide (((5:Nat):Int)≤1000)=true:=rfl
    have k3:Zq .i64 (3+((5:Nat):Int))=3+((5:Nat):Int):=rfl
    have k4:Zq .i64 (8+((5:Nat):Int))=8+((5:Nat):Int):=rfl
    simp only [g,k0,k1,k2,k3,k4,e0,e1,e2,e3,Zh,↓A0,A0]
    by_cases h1:Zb bd % 16=((5:Nat):Int)
    all_goals by_cases h2:Zb bd % 16=8+((5:Nat):Int)
    ·have hE:Zk (Zp ((5:Nat):Int) (Zy 1) lf xp bd)=Zd [Zw (Zy 1).name,Zw (Zy 1).inst,Zz Yk (Yh ((5:Nat):Int)),Zz Zx (3+((5:Nat):Int)),Zz Zx (1000+Zb xp*100),Zz Zx (Zb lf),Zz Zx (1+Zb bd / 16 % 3),Zz Zx 0,Zz Zx 0]:=by
      unfold Zk Zp
      dsimp only
      rw [if_pos h2,if_pos h1]
     rw [sel_pos (by simpa using h1),sel_pos (by simpa using h2),chk_of (by rfl),← hE]
     exact ⟨_,rfl,6,rfl,by decide,by decide⟩
    ·have hE:Zk (Zp ((5:Nat):Int) (Zy 1) lf xp bd)=Zd [Zw (Zy 1).name,Zw (Zy 1).inst,Zz Yk (Yh ((5:Nat):Int)),Zz Zx (3+((5:Nat):Int)),Zz Zx (0),Zz Zx (Zb lf),Zz Zx (1+Zb bd / 16 % 3),Zz Zx 0,Zz Zx 0]:=by
      unfold Zk Zp
      dsimp only
      rw [if_neg h2,if_pos h1]
     rw [sel_pos (by simpa using h1),sel_neg (by simpa using h2),chk_of (by rfl),← hE]
     exact ⟨_,rfl,6,rfl,by decide,by decide⟩
    ·have hE:Zk (Zp ((5:Nat):Int) (Zy 1) lf xp bd)=Zd [Zw (Zy 1).name,Zw (Zy 1).inst,Zz Yk (Yh ((5:Nat):Int)),Zz Zx (3+((5:Nat):Int)),Zz Zx (1000+Zb xp*100),Zz Zx (Zb lf),Zz Zx (0),Zz Zx 0,Zz Zx 0]:=by
      unfold Zk Zp
      dsimp only
      rw [if_pos h2,if_neg h1]
     rw [sel_neg (by simpa using h1),sel_pos (by simpa using h2),chk_of (by rfl),← hE]
     exact ⟨_,rfl,6,rfl,by decide,by decide⟩
    ·have hE:Zk (Zp ((5:Nat):Int) (Zy 1) lf xp bd)=Zd [Zw (Zy 1).name,Zw (Zy 1).inst,Zz Yk (Yh ((5:Nat):Int)),Zz Zx (3+((5:Nat):Int)),Zz Zx (0),Zz Zx (Zb lf),Zz Zx (0),Zz Zx 0,Zz Zx 0]:=by
      unfold Zk Zp
      dsimp only
      rw [if_neg h2,if_neg h1]
     rw [sel_neg (by simpa using h1),sel_neg (by simpa using h2),chk_of (by rfl),← hE]
     exact ⟨_,rfl,6,rfl,by decide,by decide⟩
   ·exact ⟨_,rfl,rfl⟩
  ·rintro _ rfl
   rfl
 ·cases h
theorem w9:Walked Tryz.prog G 9 4 sp9:=by
 refine ⟨Tryz.f9,Tryz.func9,by decide +kernel,rfl,fun xs bl r h=> ?_⟩
 unfold sp9 at h
 split at h
 ·rename_i rl els xls
  obtain ⟨hpre,h2⟩:=chk_inv h;cases h2
  refine Eq.trans (b:=(let t1:AV:=Zw [(107:UInt8),(114:UInt8),(98:UInt8),(116:UInt8),(103:UInt8),(116:UInt8)];let t2:Int×Int:=Vx (List.map Kerb.toEntry els) [(107:UInt8),(114:UInt8),(98:UInt8),(116:UInt8),(103:UInt8),(116:UInt8)] rl;let t3:List AV:=[Yn 4 xls,Zz .i64 (↑(Zv xls):Int),Zz .i64 0];let t0:Option (AV×Blocks):=Zj (loopM (fun (st:List AV)=>cStr st fun b r=>cSl 9 r fun b_1 r=>onCons r fun x r=>Wg x fun b_2=>cSl 4 r fun b_3 r=>cInt .i64 r fun n r=>cInt .i64 r fun n_1 r=>onNil r (sel (decide (n_1<n)) (chk (decide (0≤n_1)&&decide (n_1<(↑(Zv b_3):Int))&&true) (Wu (Xz b_3 (Zf n_1) Xx) fun cs=>cStr cs fun b_4 r=>cStr r fun b_5 r=>cInt .i64 r fun n_2 r=>cInt .u64 r fun n_3 r=>onNil r (sel (b_5==b) (chk (room (Zv b_2+Zv [Zd [t1,Zw b_5,Zw b_4,Zz .i64 n_2,Zz .u64 n_3]]) (nat_lit 64)) (some (Vq [Zw b,Yn 9 b_1,Ym (b_2++[Zd [t1,Zw b_5,Zw b_4,Zz .i64 n_2,Zz .u64 n_3]]),Yn 4 b_3,Zz .i64 n,Zz .i64 (Zq .i64 (n_1+1))]))) (some (Vq [Zw b,Yn 9 b_1,Ym b_2,Yn 4 b_3,Zz .i64 n,Zz .i64 (Zq .i64 (n_1+1))]))))) (some (Uk (Ww 0,[Zw b,Yn 9 b_1,Ym b_2,Yn 4 b_3,Zz .i64 n,Zz .i64 n_1]))))) (Zw rl::Yn 9 els::Ym []::t3)) fun (r:Ex×List AV)=>cStr (Yy r) fun b r_1=>cSl 9 r_1 fun b r_2=>onCons r_2 fun x r_3=>Wg x fun b=>cSl 4 r_3 fun b_1 r_4=>cInt .i64 r_4 fun n r_5=>cInt .i64 r_5 fun n r_6=>onNil r_6 (exK r.1 none fun (j:Nat)=>sel (Uz j 0) (some (Yn 5 b,[])) none);Zj (chk (List.all els Kerb.isEntry&&decide (Zv els≤1000000)) (some (Yd [Zz .i64 (Yv t2),Zz .i64 (Yy t2)],[]))) (kT fun vs=>cInt .i64 vs fun n r=>cInt .i64 r fun n_1 r=>onNil r (sel (n_1==0) (chk (decide (0≤n)&&decide (n<(↑(Zv els):Int))&&true) (Wu (Xz els (Zf n) Xx) fun cs=>cStr cs fun b r=>cStr r fun b r=>cInt .u64 r fun n r=>cInt .i64 r fun n_2 r=>let t4:List AV:=[Zd [t1,Zw rl,Zw rl,Zz .i64 n_2,Zz .u64 n]];cInt .i64 r fun n_3 r=>cInt .i64 r fun n_4 r=>cInt .i64 r fun n_5 r=>cInt .i64 r fun n_6 r=>cInt .i64 r fun n_7 r=>onNil r (Zj (chk (decide (0≤n)&&decide (n<18446744073709551616)) (some (Yx (Xv n),[]))) (kL fun b=>sel b (chk (room (Zv t4) (nat_lit 64)) (Zj (loopM (fun (st:List AV)=>cStr st fun b r=>cSl 9 r fun b_1 r=>onCons r fun x r=>Wg x fun b_2=>cSl 4 r fun b_3 r=>cInt .i64 r fun n r=>cInt .i64 r fun n_8 r=>let t5:List AV:=[Yn 4 b_3,Zz .i64 n,Zz .i64 (Zq .i64 (n_8+1))];onNil r (sel (decide (n_8<n)) (chk (decide (0≤n_8)&&decide (n_8<(↑(Zv b_3):Int))&&true) (Wu (Xz b_3 (Zf n_8) Xx) fun cs=>cStr cs fun b_4 r=>cStr r fun b_5 r=>cInt .i64 r fun n r=>cInt .u64 r fun n_9 r=>let t6:List AV:=[Zd [t1,Zw b_5,Zw b_4,Zz .i64 n,Zz .u64 n_9]];onNil r (sel (b_5==b) (chk (room (Zv b_2+Zv t6) (nat_lit 64)) (some (Vq (Zw b::Yn 9 b_1::Ym (b_2++t6)::t5)))) (some (Vq (Zw b::Yn 9 b_1::Ym b_2::t5)))))) (some (Uk (Ww 0,[Zw b,Yn 9 b_1,Ym b_2,Yn 4 b_3,Zz .i64 n,Zz .i64 n_8]))))) (Zw rl::Yn 9 els::Ym t4::t3)) fun (r:Ex×List AV)=>cStr (Yy r) fun b r_1=>cSl 9 r_1 fun b r_2=>onCons r_2 fun x r_3=>Wg x fun b=>cSl 4 r_3 fun b_1 r_4=>cInt .i64 r_4 fun n r_5=>cInt .i64 r_5 fun n r_6=>onNil r_6 (exK r.1 none fun (j:Nat)=>sel (Uz j 0) (some (Yn 5 b,[])) none))) t0)))) t0)):Option (AV×Blocks))) (by kernel_rfl) ?_
  delta kT kL
  try dsimp only [cStr,cBs,cBool,cU8,cInt,cSl,l63]
  simp only [Xk,decide_eq_true_eq] at hpre
  obtain ⟨⟨⟨⟨ea,el⟩,xa⟩,xl⟩,lr⟩:=hpre
  obtain ⟨es,rfl,hok⟩:=Kerb.ents_of ea
  obtain ⟨cs,rfl,hcs⟩:=Kerb.cross_okof xa
  simp only [Xw] at el xl
  have r64:∀ {m:Nat},m≤1000002→Go.Abs.room m 64=true:=fun h=>by simp [Go.Abs.room];omega
  have hkr:([107,114,98,116,103,116]:List UInt8)=Kerb.krbtgt:=rfl
  obtain ⟨D,hD⟩:∃ D,Kerb.Db.mk rl es=D:=⟨_,rfl⟩
  have hDr:D.realm=rl:=by rw [← hD]
  have hDe:D.entries=es:=by rw [← hD]
  simp (config:={maxSteps:=10000000}) only [Kerb.map_toEntry,Kerb.map_toCross,Xw,hD,ea,el,decide_true,Zh,↓sInt,↓sU8,↓sBool,↓sStr,↓sBs,↓sSl,↓sAgg,↓sTup,↓sCons,↓sNil,↓sNilB,↓sChk,↓sChkBind,↓sSome,↓sOwnL,↓sConsB,↓sOwnB]
  obtain ⟨j,hj⟩:∃ j,(Vx es [107,114,98,116,103,116] rl).1=j:=⟨_,rfl⟩
  have hG:∀ H,Kerb.homeKeys D=H→Kerb.grantKeys D cs=H++Vz rl cs:=fun H h=>by unfold Kerb.grantKeys;rw [h,hDr]
  rw [hj]
  by_cases g1:(Vx es [107,114,98,116,103,116] rl).2=0
  case neg =>
   rw [sel_neg (by simpa using g1),hG [] (by unfold Kerb.homeKeys;rw [hDr,hDe,if_neg (fun h=>g1 h.1)])]
   refine loop_rounds (fun i:Nat=>[Zw rl,Yn 9 (es.map Zk),Ym (([]++Vz rl (cs.take i)).map Wv),Yn 4 (cs.map Yw),Zz Zx (cs.length:Int),Zz Zx (i:Int)]) (fun i=>i≤cs.length) (fun i=>cs.length-i) (fun r=>r=(Ww 0,(fun i:Nat=>[Zw rl,Yn 9 (es.map Zk),Ym (([]++Vz rl (cs.take i)).map Wv),Yn 4 (cs.map Yw),Zz Zx (cs.length:Int),Zz Zx (i:Int)]) cs.length)) 0 (Vy _) rfl ?_ ?_
   ·intro i hi
    simp (config:={maxSteps:=10000000}) only [Xw,↓sInt,↓sU8,↓sBool,↓sStr,↓sBs,↓sSl,↓sAgg,↓sTup,↓sCons,↓sNil,↓sNilB,↓sChk,↓sChkBind,↓sSome,↓sOwnL,↓sConsB,↓sOwnB]
    rcases Nat.lt_or_ge i cs.length with h1 | h1
    case inr =>
     have:i=cs.length:=by omega
     subst this
     rw [sel_neg (by simp)]
     exact ⟨_,rfl,rfl⟩
    rw [sel_pos (by simp;omega)]
    obtain ⟨c,hc⟩:∃ c,cs.getD i Xm=c:=⟨_,rfl⟩
    have hg:(cs.map Yw).getD i Xx=c.av:=by rw [Vn (d:=Xm) h1,hc]
    have hk:(decide ((0:Int)≤(i:Int))&&decide ((i:Int)<(cs.length:Int))&&true)=true:=by simp;omega
    have hs:=Kerb.crossKeys_step (r:=rl) h1 hc
    have hl1:=Kerb.crossKeys_len rl (cs.take i)
    have hl2:(cs.take i).length≤1000000:=by rw [List.length_take];omega
    rw [wrap_i64 (by omega) (by omega)]
    simp (config:={maxSteps:=10000000}) only [hk,hg,Xp,Yw,↓sInt,↓sU8,↓sBool,↓sStr,↓sBs,↓sSl,↓sAgg,↓sTup,↓sCons,↓sNil,↓sNilB,↓sChk,↓sChkBind,↓sSome,↓sOwnL,↓sConsB,↓sOwnB]
    by_cases h2:c.target=rl
    ·rw [if_pos h2] at hs
     rw [sel_pos (by simpa using h2)]
     have hlen:([]:List Kerb.SKey).length≤1:=by first | exact Vy _ | exact Nat.le_refl _
     rw [chk_of (r64 (by simp only [Xw,List.length_append,Vg,Vh];omega))]
     refine ⟨_,rfl,i+1,?_,by omega,by dsimp only;omega⟩
     dsimp only
     rw [hs,← List.append_assoc,List.map_append (l₂:=[Vm rl c])]
     first | rfl | (rw [h2];rfl) | (simp only [List.map_cons,List.map_nil,Vm,Wv,Kerb.tgs,h2])
    ·rw [if_neg h2,List.append_nil] at hs
     rw [sel_neg (by simpa using h2)]
     refine ⟨_,rfl,i+1,?_,by omega,by dsimp only;omega⟩
     dsimp only
     rw [hs]
     rfl
   ·rintro _ rfl
    simp (config:={maxSteps:=10000000}) only [List.take_length,↓sInt,↓sU8,↓sBool,↓sStr,↓sBs,↓sSl,↓sAgg,↓sTup,↓sCons,↓sNil,↓sNilB,↓sChk,↓sChkBind,↓sSome,↓sOwnL,↓sConsB,↓sOwnB]
    rfl
  rw [sel_pos (by simpa using g1)]
  obtain ⟨i0,i1⟩:=Kerb.findEnt_lt g1
  rw [hj] at i0 i1
  have hgj:(es.map Zk).getD j.toNat Xx=(Kerb.entAt D j).av:=by
   rw [Kerb.getD_ent i1]
   unfold Kerb.entAt
   rw [hDe]
  have hkj:(decide ((0:Int)≤j)&&decide (j<(es.length:Int))&&true)=true:=by simp;omega
  have hEo:(Kerb.entAt D j).ok:=by
   unfold Kerb.entAt
   rw [hDe]
   exact hok _ (Kerb.mem_row (d:=Kerb.noEntry) i1)
  have hj2:(Vx D.entries Kerb.krbtgt D.realm).1=j:=by rw [hDr,hDe];exact hj
  have g12:(Vx D.entries Kerb.krbtgt D.realm).2=0:=by rw [hDr,hDe];exact g1
  obtain ⟨E,hE⟩:∃ E,Kerb.entAt D j=E:=⟨_,rfl⟩
  rw [hE] at hgj hEo
  have hKy:=Kerb.isU64_iff.1 hEo.2.2.1
  have hky:(decide ((0:Int)≤E.key)&&decide (E.key<18446744073709551616))=true:=by simp;omega
  simp (config:={maxSteps:=10000000}) only [hkj,hgj,hky,Zk,↓sInt,↓sU8,↓sBool,↓sStr,↓sBs,↓sSl,↓sAgg,↓sTup,↓sCons,↓sNil,↓sNilB,↓sChk,↓sChkBind,↓sSome,↓sOwnL,↓sConsB,↓sOwnB]
  cases g2:Xv E.key
  ·rw [sel_false,hG [] (by unfold Kerb.homeKeys;rw [if_neg (fun h=>by have h2:=h.2;rw [hj2,hE,g2] at h2;cases h2)])]
   refine loop_rounds (fun i:Nat=>[Zw rl,Yn 9 (es.map Zk),Ym (([]++Vz rl (cs.take i)).map Wv),Yn 4 (cs.map Yw),Zz Zx (cs.length:Int),Zz Zx (i:Int)]) (fun i=>i≤cs.length) (fun i=>cs.length-i) (fun r=>r=(Ww 0,(fun i:Nat=>[Zw rl,Yn 9 (es.map Zk),Ym (([]++Vz rl (cs.take i)).map Wv),Yn 4 (cs.map Yw),Zz Zx (cs.length:Int),Zz Zx (i:Int)]) cs.length)) 0 (Vy _) rfl ?_ ?_
   ·intro i hi
    simp (config:={maxSteps:=10000000}) only [Xw,↓sInt,↓sU8,↓sBool,↓sStr,↓sBs,↓sSl,↓sAgg,↓sTup,↓sCons,↓sNil,↓sNilB,↓sChk,↓sChkBind,↓sSome,↓sOwnL,↓sConsB,↓sOwnB]
    rcases Nat.lt_or_ge i cs.length with h1 | h1
    case inr =>
     have:i=cs.length:=by omega
     subst this
     rw [sel_neg (by simp)]
     exact ⟨_,rfl,rfl⟩
    rw [sel_pos (by simp;omega)]
    obtain ⟨c,hc⟩:∃ c,cs.getD i Xm=c:=⟨_,rfl⟩
    have hg:(cs.map Yw).getD i Xx=c.av:=by rw [Vn (d:=Xm) h1,hc]
    have hk:(decide ((0:Int)≤(i:Int))&&decide ((i:Int)<(cs.length:Int))&&true)=true:=by simp;omega
    have hs:=Kerb.crossKeys_step (r:=rl) h1 hc
    have hl1:=Kerb.crossKeys_len rl (cs.take i)
    have hl2:(cs.take i).length≤1000000:=by rw [List.length_take];omega
    rw [wrap_i64 (by omega) (by omega)]
    simp (config:={maxSteps:=10000000}) only [hk,hg,Xp,Yw,↓sInt,↓sU8,↓sBool,↓sStr,↓sBs,↓sSl,↓sAgg,↓sTup,↓sCons,↓sNil,↓sNilB,↓sChk,↓sChkBind,↓sSome,↓sOwnL,↓sConsB,↓sOwnB]
    by_cases h2:c.target=rl
    ·rw [if_pos h2] at hs
     rw [sel_pos (by simpa using h2)]
     have hlen:([]:List Kerb.SKey).length≤1:=by first | exact Vy _ | exact Nat.le_refl _
     rw [chk_of (r64 (by simp only [Xw,List.length_append,Vg,Vh];omega))]
     refine ⟨_,rfl,i+1,?_,by omega,by dsimp only;omega⟩
     dsimp only
     rw [hs,← List.append_assoc,List.map_append (l₂:=[Vm rl c])]
     first | rfl | (rw [h2];rfl) | (simp only [List.map_cons,List.map_nil,Vm,Wv,Kerb.tgs,h2])
    ·rw [if_neg h2,List.append_nil] at hs
     rw [sel_neg (by simpa using h2)]
     refine ⟨_,rfl,i+1,?_,by omega,by dsimp only;omega⟩
     dsimp only
     rw [hs]
     rfl
   ·rintro _ rfl
    simp (config:={maxSteps:=10000000}) only [List.take_length,↓sInt,↓sU8,↓sBool,↓sStr,↓sBs,↓sSl,↓sAgg,↓sTup,↓sCons,↓sNil,↓sNilB,↓sChk,↓sChkBind,↓sSome,↓sOwnL,↓sConsB,↓sOwnB]
    rfl
  ·rw [sel_true,hG [Kerb.SKey.mk (Kerb.tgs rl rl) E.kvno E.key] (by unfold Kerb.homeKeys;rw [if_pos ⟨g12,by rw [hj2,hE];exact g2⟩,hj2,hE,hDr])]
   rw [chk_of (r64 (by simp only [Vg,Vh];omega))]
   refine loop_rounds (fun i:Nat=>[Zw rl,Yn 9 (es.map Zk),Ym (([Kerb.SKey.mk (Kerb.tgs rl rl) E.kvno E.key]++Vz rl (cs.take i)).map Wv),Yn 4 (cs.map Yw),Zz Zx (cs.length:Int),Zz Zx (i:Int)]) (fun i=>i≤cs.length) (fun i=>cs.length-i) (fun r=>r=(Ww 0,(fun i:Nat=>[Zw rl,Yn 9 (es.map Zk),Ym (([Kerb.SKey.mk (Kerb.tgs rl rl) E.kvno E.key]++Vz rl (cs.take i)).map Wv),Yn 4 (cs.map Yw),Zz Zx (cs.length:Int),Zz Zx (i:Int)]) cs.length)) 0 (Vy _) rfl ?_ ?_
   ·intro i hi
    simp (config:={maxSteps:=10000000}) only [Xw,↓sInt,↓sU8,↓sBool,↓sStr,↓sBs,↓sSl,↓sAgg,↓sTup,↓sCons,↓sNil,↓sNilB,↓sChk,↓sChkBind,↓sSome,↓sOwnL,↓sConsB,↓sOwnB]
    rcases Nat.lt_or_ge i cs.length with h1 | h1
    case inr =>
     have:i=cs.length:=by omega
     subst this
     rw [sel_neg (by simp)]
     exact ⟨_,rfl,rfl⟩
    rw [sel_pos (by simp;omega)]
    obtain ⟨c,hc⟩:∃ c,cs.getD i Xm=c:=⟨_,rfl⟩
    have hg:(cs.map Yw).getD i Xx=c.av:=by rw [Vn (d:=Xm) h1,hc]
    have hk:(decide ((0:Int)≤(i:Int))&&decide ((i:Int)<(cs.length:Int))&&true)=true:=by simp;omega
    have hs:=Kerb.crossKeys_step (r:=rl) h1 hc
    have hl1:=Kerb.crossKeys_len rl (cs.take i)
    have hl2:(cs.take i).length≤1000000:=by rw [List.length_take];omega
    rw [wrap_i64 (by omega) (by omega)]
    simp (config:={maxSteps:=10000000}) only [hk,hg,Xp,Yw,↓sInt,↓sU8,↓sBool,↓sStr,↓sBs,↓sSl,↓sAgg,↓sTup,↓sCons,↓sNil,↓sNilB,↓sChk,↓sChkBind,↓sSome,↓sOwnL,↓sConsB,↓sOwnB]
    by_cases h2:c.target=rl
    ·rw [if_pos h2] at hs
     rw [sel_pos (by simpa using h2)]
     have hlen:([Kerb.SKey.mk (Kerb.tgs rl rl) E.kvno E.key]:List Kerb.SKey).length≤1:=by first | exact Vy _ | exact Nat.le_refl _
     rw [chk_of (r64 (by simp only [Xw,List.length_append,Vg,Vh];omega))]
     refine ⟨_,rfl,i+1,?_,by omega,by dsimp only;omega⟩
     dsimp only
     rw [hs,← List.append_assoc,List.map_append (l₂:=[Vm rl c])]
     first | rfl | (rw [h2];rfl) | (simp only [List.map_cons,List.map_nil,Vm,Wv,Kerb.tgs,h2])
    ·rw [if_neg h2,List.append_nil] at hs
     rw [sel_neg (by simpa using h2)]
     refine ⟨_,rfl,i+1,?_,by omega,by dsimp only;omega⟩
     dsimp only
     rw [hs]
     rfl
   ·rintro _ rfl
    simp (config:={maxSteps:=10000000}) only [List.take_length,↓sInt,↓sU8,↓sBool,↓sStr,↓sBs,↓sSl,↓sAgg,↓sTup,↓sCons,↓sNil,↓sNilB,↓sChk,↓sChkBind,↓sSome,↓sOwnL,↓sConsB,↓sOwnB]
    rfl
 ·cases h
set_option maxHeartbeats 4000000 in
theorem w21:Walked Tryz.prog G 21 4 sp21:=by
 refine ⟨Tryz.f21,Tryz.func21,by decide +kernel,rfl,fun xs bl r h=> ?_⟩
 unfold sp21 at h
 split at h
 ·rename_i l pos
  obtain ⟨hpre,h2⟩:=chk_inv h;cases h2
  show runFnH (G.env 21 4) G.rts (G.own 21) Tryz.f21 _ _ [0]=_
  refine Eq.trans (b:=(Zj (chk (decide (Zv l≤4611686018427387904)&&decide (0≤pos)) (some (Zz .i64 (Yz l pos 3),[[Yu l,Zz .i64 (Zn l pos 3)]]))) fun (r:AV×Blocks)=>onConsB (Yy r) fun (x:List AV) (r_1:List (List AV))=>cBs x fun b r_2=>cInt .i64 r_2 fun n r_3=>onNil r_3 (onNilB r_1 (Xu .i64 (Yv r) fun n_1=>Zj (chk (decide (0≤n_1)&&decide (n_1≤4611686018427387904)) (some (Zd [Zw (Wz (Zu n_1)),Zw (Wy (Zu n_1)),Zw (Xh (Zu n_1))],[]))) (kA fun cs=>cStr cs fun b_1 r=>cStr r fun b_2 r=>cStr r fun b_3 r=>onNil r (Zj (chk (decide (Zv b≤4611686018427387904)&&decide (0≤n)) (some (Zz .i64 (Yz b n 2),[[Yu b,Zz .i64 (Zn b n 2)]]))) fun (r:AV×Blocks)=>onConsB (Yy r) fun (x:List AV) (r_4:List (List AV))=>cBs x fun b r_5=>cInt .i64 r_5 fun n r_6=>onNil r_6 (onNilB r_4 (Xu .i64 (Yv r) fun n_2=>Zj (sel (n_2==1) (Zj (chk (decide (Zv b≤4611686018427387904)&&decide (0≤n)) (some (Zz .i64 (Yz b n 3),[[Yu b,Zz .i64 (Zn b n 3)]]))) fun (r:AV×Blocks)=>onConsB (Yy r) fun (x:List AV) (r_7:List (List AV))=>cBs x fun b r_8=>cInt .i64 r_8 fun n r_9=>onNil r_9 (onNilB r_7 (Xu .i64 (Yv r) fun n_3=>Zj (chk (decide (0≤n_3)&&decide (n_3≤4611686018427387904)) (some (Zd [Zw (Wz (Zy n_3)),Zw (Wy (Zy n_3)),Zw (Xh (Zy n_3))],[]))) (kA fun cs=>cStr cs fun b_4 r=>cStr r fun b_5 r=>cStr r fun b_6 r=>onNil r (some [Yu b,Zz .i64 n,Zw [],Zw [],Zz .u64 0,Zz .i64 0,Zz .i64 0,Zz .i64 0,Zz .i64 0,Zz .i64 0,Zz .i64 0,Zw b_4,Zw b_5,Zw b_6]))))) (some [Yu b,Zz .i64 n,Zw [],Zw [],Zz .u64 0,Zz .i64 0,Zz .i64 0,Zz .i64 0,Zz .i64 0,Zz .i64 0,Zz .i64 0,Zw b_1,Zw b_2,Zw b_3])) fun l=>cBs l fun b r=>cInt .i64 r fun n r=>cStr r fun b_4 r=>cStr r fun b_5 r=>cInt .u64 r fun n_3 r=>cInt .i64 r fun n_4 r=>cInt .i64 r fun n_5 r=>cInt .i64 r fun n_6 r=>cInt .i64 r fun n_7 r=>cInt .i64 r fun n_8 r=>cInt .i64 r fun n_9 r=>cStr r fun b_6 r=>cStr r fun b_7 r=>cStr r fun b_8 r=>onNil r (Zj (chk (decide (Zv b≤4611686018427387904)&&decide (0≤n)) (some (Zz .i64 (Yz b n 40),[[Yu b,Zz .i64 (Zn b n 40)]]))) fun (r:AV×Blocks)=>onConsB (Yy r) fun (x:List AV) (r_7:List (List AV))=>cBs x fun b r_8=>cInt .i64 r_8 fun n r_9=>onNil r_9 (onNilB r_7 (Xu .i64 (Yv r) fun n_10=>Zj (chk (decide (0≤n_10)&&decide (n_10≤1000)) (some (Zz .u64 (Yh n_10),[]))) (kI .u64 fun n_11=>Zj (chk (decide (Zv b≤4611686018427387904)&&decide (0≤n)) (some (Zz .i64 (Yz b n 256),[[Yu b,Zz .i64 (Zn b n 256)]]))) fun (r:AV×Blocks)=>onConsB (Yy r) fun (x:List AV) (r_10:List (List AV))=>cBs x fun b r_11=>cInt .i64 r_11 fun n r_12=>onNil r_12 (onNilB r_10 (Xu .i64 (Yv r) fun n_12=>Zj (chk (decide (Zv b≤4611686018427387904)&&decide (0≤n)) (some (Zz .i64 (Yz b n 256),[[Yu b,Zz .i64 (Zn b n 256)]]))) fun (r:AV×Blocks)=>onConsB (Yy r) fun (x:List AV) (r_13:List (List AV))=>cBs x fun b r_14=>cInt .i64 r_14 fun n r_15=>onNil r_15 (onNilB r_13 (Xu .i64 (Yv r) fun n_13=>Zj (chk (decide (Zv b≤4611686018427387904)&&decide (0≤n)) (some (Zz .i64 (Yz b n 5),[[Yu b,Zz .i64 (Zn b n 5)]]))) fun (r:AV×Blocks)=>onConsB (Yy r) fun (x:List AV) (r_16:List (List AV))=>cBs x fun b r_17=>cInt .i64 r_17 fun n r_18=>onNil r_18 (onNilB r_16 (Xu .i64 (Yv r) fun n_14=>Zj (chk (decide (Zv b≤4611686018427387904)&&decide (0≤n)) (some (Zz .i64 (Yz b n 4),[[Yu b,Zz .i64 (Zn b n 4)]]))) fun (r:AV×Blocks)=>onConsB (Yy r) fun (x:List AV) (r_19:List (List AV))=>cBs x fun b r_20=>cInt .i64 r_20 fun n r_21=>onNil r_21 (onNilB r_19 (Xu .i64 (Yv r) fun n_15=>Zj (chk (decide (Zv b≤4611686018427387904)&&decide (0≤n)) (some (Zz .i64 (Yz b n 21),[[Yu b,Zz .i64 (Zn b n 21)]]))) fun (r:AV×Blocks)=>onConsB (Yy r) fun (x:List AV) (r_22:List (List AV))=>cBs x fun b r_23=>cInt .i64 r_23 fun n r_24=>onNil r_24 (onNilB r_22 (Xu .i64 (Yv r) fun n_16=>let t0:List AV:=[Zz .i64 n_13,Zz .i64 (Zq .i64 (Zq .i64 (Int.tdiv n_14 4)*n_15)),Zz .i64 n_16,Zz .i64 0];Zj (chk (decide (Zv b≤4611686018427387904)&&decide (0≤n)) (some (Zz .i64 (Yz b n 5),[[Yu b,Zz .i64 (Zn b n 5)]]))) fun (r:AV×Blocks)=>onConsB (Yy r) fun (x:List AV) (r_25:List (List AV))=>cBs x fun b r_26=>cInt .i64 r_26 fun n r_27=>onNil r_27 (onNilB r_25 (Xu .i64 (Yv r) fun n_17=>Zj (sel (n_17==4) (Zj (chk (decide (Zv b≤4611686018427387904)&&decide (0≤n)) (some (Zz .i64 (Yz b n 256),[[Yu b,Zz .i64 (Zn b n 256)]]))) fun (r:AV×Blocks)=>onConsB (Yy r) fun (x:List AV) (r_28:List (List AV))=>cBs x fun b r_29=>cInt .i64 r_29 fun n r_30=>onNil r_30 (onNilB r_28 (Xu .i64 (Yv r) fun n_18=>some (Yu b::Zz .i64 n::Zw b_4::Zw b_5::Zz .u64 n_3::Zz .i64 n_4::Zz .i64 n_5::Zz .i64 n_6::Zz .i64 n_7::Zz .i64 n_8::Zz .i64 n_9::Zw b_6::Zw b_7::Zz .u64 n_11::Zz .i64 n_12::Zz .i64 (Zq .i64 (n_18*200))::t0)))) (some (Yu b::Zz .i64 n::Zw b_4::Zw b_5::Zz .u64 n_3::Zz .i64 n_4::Zz .i64 n_5::Zz .i64 n_6::Zz .i64 n_7::Zz .i64 n_8::Zz .i64 n_9::Zw b_6::Zw b_7::Zz .u64 n_11::Zz .i64 n_12::Zz .i64 0::t0))) fun l=>cBs l fun b r=>cInt .i64 r fun n r=>cStr r fun b_9 r=>cStr r fun b_10 r=>cInt .u64 r fun n_18 r=>cInt .i64 r fun n_19 r=>cInt .i64 r fun n_20 r=>cInt .i64 r fun n_21 r=>cInt .i64 r fun n_22 r=>cInt .i64 r fun n_23 r=>cInt .i64 r fun n_24 r=>cStr r fun b_11 r=>cStr r fun b_12 r=>cInt .u64 r fun n_25 r=>cInt .i64 r fun n_26 r=>cInt .i64 r fun n_27 r=>cInt .i64 r fun n_28 r=>cInt .i64 r fun n_29 r=>cInt .i64 r fun n_30 r=>cInt .i64 r fun n_31 r=>let t1:List AV:=[Zz .i64 n_26,Zz .i64 n_27,Zz .i64 n_28,Zz .i64 n_29,Zz .i64 n_30,Zz .i64 n_31];onNil r (Zj (chk (decide (Zv b≤4611686018427387904)&&decide (0≤n)) (some (Zz .i64 (Yz b n 9),[[Yu b,Zz .i64 (Zn b n 9)]]))) fun (r:AV×Blocks)=>onConsB (Yy r) fun (x:List AV) (r_28:List (List AV))=>cBs x fun b r_29=>cInt .i64 r_29 fun n r_30=>onNil r_30 (onNilB r_28 (Xu .i64 (Yv r) fun n_32=>Zj (sel (n_32==8) (some (Yu b::Zz .i64 n::Zw b_9::Zw b_10::Zz .u64 n_18::Zz .i64 n_19::Zz .i64 n_20::Zz .i64 n_21::Zz .i64 n_22::Zz .i64 n_23::Zz .i64 n_24::Zw b_11::Zw b_12::Zz .u64 0::t1)) (some (Yu b::Zz .i64 n::Zw b_9::Zw b_10::Zz .u64 n_18::Zz .i64 n_19::Zz .i64 n_20::Zz .i64 n_21::Zz .i64 n_22::Zz .i64 n_23::Zz .i64 n_24::Zw b_11::Zw b_12::Zz .u64 n_25::t1))) fun l=>cBs l fun b r=>cInt .i64 r fun n r=>cStr r fun b_13 r=>cStr r fun b_14 r=>cInt .u64 r fun n_33 r=>cInt .i64 r fun n_34 r=>cInt .i64 r fun n_35 r=>cInt .i64 r fun n_36 r=>cInt .i64 r fun n_37 r=>cInt .i64 r fun n_38 r=>cInt .i64 r fun n_39 r=>cStr r fun b_15 r=>cStr r fun b_16 r=>cInt .u64 r fun n_40 r=>cInt .i64 r fun n_41 r=>cInt .i64 r fun n_42 r=>cInt .i64 r fun n_43 r=>cInt .i64 r fun n_44 r=>cInt .i64 r fun n_45 r=>cInt .i64 r fun n_46 r=>onNil r (Zj (chk (decide (Zv b≤4611686018427387904)&&decide (0≤n)) (some (Zz .i64 (Yz b n 9),[[Yu b,Zz .i64 (Zn b n 9)]]))) fun (r:AV×Blocks)=>onConsB (Yy r) fun (x:List AV) (r_31:List (List AV))=>cBs x fun b r_32=>cInt .i64 r_32 fun n r_33=>onNil r_33 (onNilB r_31 (Xu .i64 (Yv r) fun n_47=>sel (n_47==8) (Zj (chk (decide (Zv b≤4611686018427387904)&&decide (0≤n)) (some (Zz .i64 (Yz b n 256),[[Yu b,Zz .i64 (Zn b n 256)]]))) fun (r:AV×Blocks)=>onConsB (Yy r) fun (x:List AV) (r_34:List (List AV))=>cBs x fun b r_35=>cInt .i64 r_35 fun n r_36=>onNil r_36 (onNilB r_34 (Xu .i64 (Yv r) fun n_48=>some (Zd [Zw b_15,Zw b_16,Zz .u64 n_40,Zz .i64 n_41,Zz .i64 n_42,Zz .i64 n_43,Zz .i64 n_44,Zz .i64 n_45,Zz .i64 (Zq .i64 (n_48*100))],[[Yu b,Zz .i64 n]])))) (some (Zd [Zw b_15,Zw b_16,Zz .u64 n_40,Zz .i64 n_41,Zz .i64 n_42,Zz .i64 n_43,Zz .i64 n_44,Zz .i64 n_45,Zz .i64 n_46],[[Yu b,Zz .i64 n]])))))))))))))))))))))))))))))):Option (AV×Blocks))) (by kernel_rfl) ?_
  delta kA kI
  try dsimp only [cStr,cBs,cBool,cU8,cInt,cSl,l63]
  simp only [Xk,decide_eq_true_eq] at hpre
  obtain ⟨hl,hp0⟩:=hpre
  have c:decide (l.length≤4611686018427387904)=true:=by simp;omega
  have c0:decide (0≤pos)=true:=by simpa using hp0
  have wA:∀ q,Zq .i64 (Yz l q 256*200)=Yz l q 256*200:=fun q=>by have:=Kerb.next_bd l q 256;exact wrap_i64 (by omega) (by omega)
  have wB:∀ q,Zq .i64 (Yz l q 256*100)=Yz l q 256*100:=fun q=>by have:=Kerb.next_bd l q 256;exact wrap_i64 (by omega) (by omega)
  have wC:∀ q,Zq .i64 (Int.tdiv (Yz l q 5) 4)=Yz l q 5 / 4:=fun q=>by have:=Kerb.next_bd l q 5;rw [Uv (by omega)];exact wrap_i64 (by omega) (by omega)
  have wD:∀ q r,Zq .i64 (Yz l q 5 / 4*Yz l r 4)=Yz l q 5 / 4*Yz l r 4:=fun q r=>by
   have h1:=Kerb.next_bd l q 5
   have h2:=Kerb.next_bd l r 4
   have h3:Yz l q 5 / 4=0∨Yz l q 5 / 4=1:=by omega
   rcases h3 with h3 | h3<;>rw [h3]<;>exact wrap_i64 (by omega) (by omega)
  have E1:Zn l pos 3=Kerb.eq1 l pos:=rfl
  have E2:Zn l (Kerb.eq1 l pos) 2=Xq l pos:=rfl
  have E4:Zn l (Yf l pos) 40=Kerb.eq4 l pos:=rfl
  have E5:Zn l (Kerb.eq4 l pos) 256=Kerb.eq5 l pos:=rfl
  have E6:Zn l (Kerb.eq5 l pos) 256=Kerb.eq6 l pos:=rfl
  have E7:Zn l (Kerb.eq6 l pos) 5=Kerb.eq7 l pos:=rfl
  have E8:Zn l (Kerb.eq7 l pos) 4=Kerb.eq8 l pos:=rfl
  have E9:Zn l (Kerb.eq8 l pos) 21=Kerb.eq9 l pos:=rfl
  have E10:Zn l (Kerb.eq9 l pos) 5=Xf l pos:=rfl
  have E12:Zn l (Yq l pos) 9=Kerb.eq12 l pos:=rfl
  have E13:Zn l (Kerb.eq12 l pos) 9=Kerb.eq13 l pos:=rfl
  have d1:decide (0≤Kerb.eq1 l pos)=true:=Zm _ _ _
  have d2:decide (0≤Xq l pos)=true:=Zm _ _ _
  have d4:decide (0≤Kerb.eq4 l pos)=true:=Zm _ _ _
  have d5:decide (0≤Kerb.eq5 l pos)=true:=Zm _ _ _
  have d6:decide (0≤Kerb.eq6 l pos)=true:=Zm _ _ _
  have d7:decide (0≤Kerb.eq7 l pos)=true:=Zm _ _ _
  have d8:decide (0≤Kerb.eq8 l pos)=true:=Zm _ _ _
  have d9:decide (0≤Kerb.eq9 l pos)=true:=Zm _ _ _
  have d10:decide (0≤Xf l pos)=true:=Zm _ _ _
  have d12:decide (0≤Kerb.eq12 l pos)=true:=Zm _ _ _
  have d13:decide (0≤Kerb.eq13 l pos)=true:=Zm _ _ _
  have E3:∃ q,Yf l pos=q∧decide (0≤q)=true:=by
   refine ⟨_,rfl,?_⟩
   unfold Yf
   cases (Yz l (Kerb.eq1 l pos) 2==1)
   ·exact d2
   ·exact Zm _ _ _
  obtain ⟨_,rfl,d3⟩:=E3
  have E11:∃ q,Yq l pos=q∧decide (0≤q)=true:=by
   refine ⟨_,rfl,?_⟩
   unfold Yq
   cases (Yz l (Kerb.eq9 l pos) 5==4)
   ·exact d10
   ·exact Zm _ _ _
  obtain ⟨_,rfl,d11⟩:=E11
  unfold Kerb.dataEnt Kerb.dataEntPos
  cases h1:(Yz l (Kerb.eq1 l pos) 2==1)
  all_goals cases h2:(Yz l (Kerb.eq9 l pos) 5==4)
  all_goals cases h3:(Yz l (Yq l pos) 9==8)
  all_goals cases h4:(Yz l (Kerb.eq12 l pos) 9==8)
  ·have F3:Xq l pos=Yf l pos:=by unfold Yf;rw [h1];rfl
   have F11:Xf l pos=Yq l pos:=by unfold Yq;rw [h2];rfl
   have FP:Zg l pos=Zu (Yz l pos 3):=by unfold Zg;rw [h1];rfl
   simp only [FP,h1,h2,h3,h4,F3,E1,E2,E4,E5,E6,E7,E8,E9,E10,E12,E13,F11,wA,wB,wC,wD,d1,d2,d3,d4,d5,d6,d7,d8,d9,d10,d11,d12,d13,c,c0,Zm,Xy,Yg,Yp,Zh,cond_true,cond_false,↓A0,A0]
  ·have F3:Xq l pos=Yf l pos:=by unfold Yf;rw [h1];rfl
   have F11:Xf l pos=Yq l pos:=by unfold Yq;rw [h2];rfl
   have FP:Zg l pos=Zu (Yz l pos 3):=by unfold Zg;rw [h1];rfl
   simp only [FP,h1,h2,h3,h4,F3,E1,E2,E4,E5,E6,E7,E8,E9,E10,E12,E13,F11,wA,wB,wC,wD,d1,d2,d3,d4,d5,d6,d7,d8,d9,d10,d11,d12,d13,c,c0,Zm,Xy,Yg,Yp,Zh,cond_true,cond_false,↓A0,A0]
  ·have F3:Xq l pos=Yf l pos:=by unfold Yf;rw [h1];rfl
   have F11:Xf l pos=Yq l pos:=by unfold Yq;rw [h2];rfl
   have FP:Zg l pos=Zu (Yz l pos 3):=by unfold Zg;rw [h1];rfl
   simp only [FP,h1,h2,h3,h4,F3,E1,E2,E4,E5,E6,E7,E8,E9,E10,E12,E13,F11,wA,wB,wC,wD,d1,d2,d3,d4,d5,d6,d7,d8,d9,d10,d11,d12,d13,c,c0,Zm,Xy,Yg,Yp,Zh,cond_true,cond_false,↓A0,A0]
  ·have F3:Xq l pos=Yf l pos:=by unfold Yf;rw [h1];rfl
   have F11:Xf l pos=Yq l pos:=by unfold Yq;rw [h2];rfl
   have FP:Zg l pos=Zu (Yz l pos 3):=by unfold Zg;rw [h1];rfl
   simp only [FP,h1,h2,h3,h4,F3,E1,E2,E4,E5,E6,E7,E8,E9,E10,E12,E13,F11,wA,wB,wC,wD,d1,d2,d3,d4,d5,d6,d7,d8,d9,d10,d11,d12,d13,c,c0,Zm,Xy,Yg,Yp,Zh,cond_true,cond_false,↓A0,A0]
  ·have F3:Xq l pos=Yf l pos:=by unfold Yf;rw [h1];rfl
   have F11:Zn l (Xf l pos) 256=Yq l pos:=by unfold Yq;rw [h2];rfl
   have FP:Zg l pos=Zu (Yz l pos 3):=by unfold Zg;rw [h1];rfl
   simp only [FP,h1,h2,h3,h4,F3,E1,E2,E4,E5,E6,E7,E8,E9,E10,E12,E13,F11,wA,wB,wC,wD,d1,d2,d3,d4,d5,d6,d7,d8,d9,d10,d11,d12,d13,c,c0,Zm,Xy,Yg,Yp,Zh,cond_true,cond_false,↓A0,A0]
  ·have F3:Xq l pos=Yf l pos:=by unfold Yf;rw [h1];rfl
   have F11:Zn l (Xf l pos) 256=Yq l pos:=by unfold Yq;rw [h2];rfl
   have FP:Zg l pos=Zu (Yz l pos 3):=by unfold Zg;rw [h1];rfl
   simp only [FP,h1,h2,h3,h4,F3,E1,E2,E4,E5,E6,E7,E8,E9,E10,E12,E13,F11,wA,wB,wC,wD,d1,d2,d3,d4,d5,d6,d7,d8,d9,d10,d11,d12,d13,c,c0,Zm,Xy,Yg,Yp,Zh,cond_true,cond_false,↓A0,A0]
  ·have F3:Xq l pos=Yf l pos:=by unfold Yf;rw [h1];rfl
   have F11:Zn l (Xf l pos) 256=Yq l pos:=by unfold Yq;rw [h2];rfl
   have FP:Zg l pos=Zu (Yz l pos 3):=by unfold Zg;rw [h1];rfl
   simp only [FP,h1,h2,h3,h4,F3,E1,E2,E4,E5,E6,E7,E8,E9,E10,E12,E13,F11,wA,wB,wC,wD,d1,d2,d3,d4,d5,d6,d7,d8,d9,d10,d11,d12,d13,c,c0,Zm,Xy,Yg,Yp,Zh,cond_true,cond_false,↓A0,A0]
  ·have F3:Xq l pos=Yf l pos:=by unfold Yf;rw [h1];rfl
   have F11:Zn l (Xf l pos) 256=Yq l pos:=by unfold Yq;rw [h2];rfl
   have FP:Zg l pos=Zu (Yz l pos 3):=by unfold Zg;rw [h1];rfl
   simp only [FP,h1,h2,h3,h4,F3,E1,E2,E4,E5,E6,E7,E8,E9,E10,E12,E13,F11,wA,wB,wC,wD,d1,d2,d3,d4,d5,d6,d7,d8,d9,d10,d11,d12,d13,c,c0,Zm,Xy,Yg,Yp,Zh,cond_true,cond_false,↓A0,A0]
  ·have F3:Zn l (Xq l pos) 3=Yf l pos:=by unfold Yf;rw [h1];rfl
   have F11:Xf l pos=Yq l pos:=by unfold Yq;rw [h2];rfl
   have FP:Zg l pos=Zy (Yz l (Xq l pos) 3):=by unfold Zg;rw [h1];rfl
   simp only [FP,h1,h2,h3,h4,F3,E1,E2,E4,E5,E6,E7,E8,E9,E10,E12,E13,F11,wA,wB,wC,wD,d1,d2,d3,d4,d5,d6,d7,d8,d9,d10,d11,d12,d13,c,c0,Zm,Xy,Yg,Yp,Zh,cond_true,cond_false,↓A0,A0]
  ·have F3:Zn l (Xq l pos) 3=Yf l pos:=by unfold Yf;rw [h1];rfl
   have F11:Xf l pos=Yq l pos:=by unfold Yq;rw [h2];rfl
   have FP:Zg l pos=Zy (Yz l (Xq l pos) 3):=by unfold Zg;rw [h1];rfl
   simp only [FP,h1,h2,h3,h4,F3,E1,E2,E4,E5,E6,E7,E8,E9,E10,E12,E13,F11,wA,wB,wC,wD,d1,d2,d3,d4,d5,d6,d7,d8,d9,d10,d11,d12,d13,c,c0,Zm,Xy,Yg,Yp,Zh,cond_true,cond_false,↓A0,A0]
  ·have F3:Zn l (Xq l pos) 3=Yf l pos:=by unfold Yf;rw [h1];rfl
   have F11:Xf l pos=Yq l pos:=by unfold Yq;rw [h2];rfl
   have FP:Zg l pos=Zy (Yz l (Xq l pos) 3):=by unfold Zg;rw [h1];rfl
   simp only [FP,h1,h2,h3,h4,F3,E1,E2,E4,E5,E6,E7,E8,E9,E10,E12,E13,F11,wA,wB,wC,wD,d1,d2,d3,d4,d5,d6,d7,d8,d9,d10,d11,d12,d13,c,c0,Zm,Xy,Yg,Yp,Zh,cond_true,cond_false,↓A0,A0]
  ·have F3:Zn l (Xq l pos) 3=Yf l pos:=by unfold Yf;rw [h1];rfl
   have F11:Xf l pos=Yq l pos:=by unfold Yq;rw [h2];rfl
   have FP:Zg l pos=Zy (Yz l (Xq l pos) 3):=by unfold Zg;rw [h1];rfl
   simp only [FP,h1,h2,h3,h4,F3,E1,E2,E4,E5,E6,E7,E8,E9,E10,E12,E13,F11,wA,wB,wC,wD,d1,d2,d3,d4,d5,d6,d7,d8,d9,d10,d11,d12,d13,c,c0,Zm,Xy,Yg,Yp,Zh,cond_true,cond_false,↓A0,A0]
  ·have F3:Zn l (Xq l pos) 3=Yf l pos:=by unfold Yf;rw [h1];rfl
   have F11:Zn l (Xf l pos) 256=Yq l pos:=by unfold Yq;rw [h2];rfl
   have FP:Zg l pos=Zy (Yz l (Xq l pos) 3):=by unfold Zg;rw [h1];rfl
   simp only [FP,h1,h2,h3,h4,F3,E1,E2,E4,E5,E6,E7,E8,E9,E10,E12,E13,F11,wA,wB,wC,wD,d1,d2,d3,d4,d5,d6,d7,d8,d9,d10,d11,d12,d13,c,c0,Zm,Xy,Yg,Yp,Zh,cond_true,cond_false,↓A0,A0]
  ·have F3:Zn l (Xq l pos) 3=Yf l pos:=by unfold Yf;rw [h1];rfl
   have F11:Zn l (Xf l pos) 256=Yq l pos:=by unfold Yq;rw [h2];rfl
   have FP:Zg l pos=Zy (Yz l (Xq l pos) 3):=by unfold Zg;rw [h1];rfl
   simp only [FP,h1,h2,h3,h4,F3,E1,E2,E4,E5,E6,E7,E8,E9,E10,E12,E13,F11,wA,wB,wC,wD,d1,d2,d3,d4,d5,d6,d7,d8,d9,d10,d11,d12,d13,c,c0,Zm,Xy,Yg,Yp,Zh,cond_true,cond_false,↓A0,A0]
  ·have F3:Zn l (Xq l pos) 3=Yf l pos:=by unfold Yf;rw [h1];rfl
   have F11:Zn l (Xf l pos) 256=Yq l pos:=by unfold Yq;rw [h2];rfl
   have FP:Zg l pos=Zy (Yz l (Xq l pos) 3):=by unfold Zg;rw [h1];rfl
   simp only [FP,h1,h2,h3,h4,F3,E1,E2,E4,E5,E6,E7,E8,E9,E10,E12,E13,F11,wA,wB,wC,wD,d1,d2,d3,d4,d5,d6,d7,d8,d9,d10,d11,d12,d13,c,c0,Zm,Xy,Yg,Yp,Zh,cond_true,cond_false,↓A0,A0]
  ·have F3:Zn l (Xq l pos) 3=Yf l pos:=by unfold Yf;rw [h1];rfl
   have F11:Zn l (Xf l pos) 256=Yq l pos:=by unfold Yq;rw [h2];rfl
   have FP:Zg l pos=Zy (Yz l (Xq l pos) 3):=by unfold Zg;rw [h1];rfl
   simp only [FP,h1,h2,h3,h4,F3,E1,E2,E4,E5,E6,E7,E8,E9,E10,E12,E13,F11,wA,wB,wC,wD,d1,d2,d3,d4,d5,d6,d7,d8,d9,d10,d11,d12,d13,c,c0,Zm,Xy,Yg,Yp,Zh,cond_true,cond_false,↓A0,A0]
 ·cases h
theorem w30:Walked Tryz.prog G 30 4 sp30:=by
 refine ⟨Tryz.f30,Tryz.func30,by decide +kernel,rfl,fun xs bl r h=> ?_⟩
 unfold sp30 at h
 split at h
 ·rename_i li mu kv rl tk au tm lf sv ins
  obtain ⟨hpre,h2⟩:=chk_inv h;cases h2
  refine Eq.trans (b:=(sel mu (some (Yd [Yu [],Zz .i64 100],[])) (Zj (chk (l63 rl) (some (Yd [Yu (Kerb.Enc.val (Kerb.encodeAp (Kerb.ApRequest.mk li mu kv rl tk au))),Zz .i64 (Kerb.Enc.err (Kerb.encodeAp (Kerb.ApRequest.mk li mu kv rl tk au)))],[]))) (kT fun vs=>cBs vs fun b r=>cInt .i64 r fun n r=>onNil r (sel (!n==0) (some (Yd [Yu [],Zz .i64 n],[])) (Zj (chk (l63 sv) (some (Yx (Wm sv),[]))) (kL fun b_1=>sel (!b_1) (some (Yd [Yu [],Zz .i64 103],[])) (Zj (chk (l63 ins) (some (Yx (Wh ins),[]))) (kL fun b_2=>sel (!b_2) (some (Yd [Yu [],Zz .i64 103],[])) (sel (!Yj tm 4294967295) (some (Yd [Yu [],Zz .i64 104],[])) (sel (!Yj lf 255) (some (Yd [Yu [],Zz .i64 104],[])) (Zj (chk (decide (Zv b≤70368744177664)) (some (Wn (b++Wx tm 4 li),[]))) (kO fun l=>Zj (chk (decide (Zv l≤70368744177664)) (some (Wn (l++Wx lf 1 false),[]))) (kO fun l=>Zj (chk (decide (Zv l+Zv sv≤70368744177664)) (some (Yu (Wj l sv),[]))) (kB fun b=>Zj (chk (decide (Zv b+Zv ins≤70368744177664)) (some (Yu (Wj b ins),[]))) (kB fun b=>some (Yd [Yu b,Zz .i64 0],[]))))))))))))))):Option (AV×Blocks))) (by kernel_rfl) ?_
  delta kT kB kO kL
  try dsimp only [cStr,cBs,cBool,cU8,cInt,cSl,l63]
  simp only [Xk,decide_eq_true_eq] at hpre
  obtain ⟨⟨p1,p2⟩,p3⟩:=hpre
  simp only [A0,Kerb.Client.av,Kerb.Cache.av,Kerb.Cred.av,p1,p2,p3,decide_true]
  have hL:∀ q,Kerb.encodeAp ⟨li,mu,kv,rl,tk,au⟩=q→Kerb.encodeTgs ⟨⟨li,mu,kv,rl,tk,au⟩,tm,lf,sv,ins⟩=if mu then ⟨[],100⟩ else if q.err≠0 then ⟨[],q.err⟩ else if !(Wm sv&&Wh ins) then ⟨[],103⟩ else if !(Yj tm 4294967295&&Yj lf 255) then ⟨[],104⟩ else ⟨Wj (Wj (q.val++Wx tm 4 li++Wx lf 1 false) sv) ins,0⟩:=by rintro _ rfl;rfl
  have hl:=Kerb.encodeAp_len ⟨li,mu,kv,rl,tk,au⟩
  obtain ⟨q,hq⟩:∃ q,Kerb.encodeAp ⟨li,mu,kv,rl,tk,au⟩=q:=⟨_,rfl⟩
  rw [hL q hq,hq]
  rw [hq] at hl
  cases mu
  case true=>rfl
  rw [sel_false,if_neg (by simp)]
  by_cases h1:q.err=0
  case neg=>rw [sel_pos (by simpa using h1),if_pos h1]
  rw [sel_neg (by simpa using h1),if_neg (by simpa using h1)]
  cases h2:Wm sv
  ·rfl
  cases h3:Wh ins
  ·rfl
  cases Yj tm 4294967295
  ·rfl
  cases Yj lf 255
  ·rfl
  have l2:=Kerb.validName_len h2
  have l3:=Kerb.validInst_len h3
  simp only [Wk,sel_false,Zh,Bool.false_eq_true,if_false]
  rw [chk_of (by simp;omega),chk_of (by simp [Kerb.putN_len];omega),chk_of (by simp [Kerb.putN_len];omega),chk_of (by simp [Kerb.putN_len,Kerb.putText_len];omega)]
 ·cases h
theorem w38:Walked Tryz.prog G 38 4 sp38:=by
 refine ⟨Tryz.f38,Tryz.func38,by decide +kernel,rfl,fun xs bl r h=> ?_⟩
 unfold sp38 at h
 split at h
 ·rename_i cu co cv cr lt tn mt cad cfr cis ctm ctk clf ccs cky ckv css ctt cau
  cases h
  refine Eq.trans (b:=(Zj (chk (decide (0≤Xj (Zq .i64 (↑(Xd cv):Int)) 6)&&decide (Xj (Zq .i64 (↑(Xd cv):Int)) 6≤4611686018427387904)) (some (Zd [Zw (Wz (Zy (Xj (Zq .i64 (↑(Xd cv):Int)) 6))),Zw (Wy (Zy (Xj (Zq .i64 (↑(Xd cv):Int)) 6))),Zw (Xh (Zy (Xj (Zq .i64 (↑(Xd cv):Int)) 6)))],[]))) fun (r:AV×Blocks)=>onNilB (Yy r) (Wu (Yv r) fun cs=>onCons cs fun x r=>AV.onStr x fun b=>onCons r fun x r=>AV.onStr x fun b_1=>onCons r fun x r=>AV.onStr x fun b_2=>onNil r (some (Zd [Zw b,Zw b_1,Zw b_2],[]))):Option (AV×Blocks))) (by kernel_rfl) ?_
  have b:=Kerb.u8i_bd cv
  have f1:Xj (Zb cv) 6=Zb cv % 6:=Uw b.1
  simp only [Kerb.wrap_u8i,f1,↓A0,A0]
  rw [chk_of (by simp;omega)]
  rfl
 ·cases h
theorem w54:Walked Tryz.prog G 54 4 sp54:=by
 refine ⟨Tryz.f54,Tryz.func54,by decide +kernel,rfl,fun xs bl r h=> ?_⟩
 unfold sp54 at h
 split at h
 ·rename_i b
  obtain ⟨hpre,h2⟩:=chk_inv h;cases h2
  refine Eq.trans (b:=(Zj (chk (decide (Zv b≤4611686018427387904)) (some (Yd [Zz .i64 (Kerb.Got.val (Vw b 2 1 false)),Zz .i64 (Kerb.Got.next (Vw b 2 1 false)),Zz .i64 (Kerb.Got.err (Vw b 2 1 false))],[]))) (kT fun vs=>cInt .i64 vs fun n r=>cInt .i64 r fun n_1 r=>cInt .i64 r fun n_2 r=>onNil r (Zj (chk (decide (Zv b≤4611686018427387904)) (some (Yd [Zw (Kerb.GotB.val (Kerb.text b n_1)),Zz .i64 (Kerb.GotB.next (Kerb.text b n_1)),Zz .i64 (Kerb.GotB.err (Kerb.text b n_1))],[]))) (kT fun vs=>cStr vs fun b_1 r=>cInt .i64 r fun n_3 r=>cInt .i64 r fun n_4 r=>onNil r (Zj (chk (decide (Zv b≤4611686018427387904)) (some (Yd [Zz .i64 (Kerb.Got.val (Vw b n_3 1 false)),Zz .i64 (Kerb.Got.next (Vw b n_3 1 false)),Zz .i64 (Kerb.Got.err (Vw b n_3 1 false))],[]))) (kT fun vs=>cInt .i64 vs fun n_5 r=>cInt .i64 r fun n_6 r=>cInt .i64 r fun n_7 r=>onNil r (Zj (chk (decide (Zv b≤4611686018427387904)) (some (Yd [Zz .i64 (Kerb.Got.val (Vw b n_6 1 false)),Zz .i64 (Kerb.Got.next (Vw b n_6 1 false)),Zz .i64 (Kerb.Got.err (Vw b n_6 1 false))],[]))) (kT fun vs=>cInt .i64 vs fun n_8 r=>cInt .i64 r fun n_9 r=>cInt .i64 r fun n_10 r=>onNil r (Zj (chk (decide (Zv b≤140737488355328)) (some (Yd [Yu (Kerb.GotB.val (Kerb.bytes b n_9 n_5)),Zz .i64 (Kerb.GotB.next (Kerb.bytes b n_9 n_5)),Zz .i64 (Kerb.GotB.err (Kerb.bytes b n_9 n_5))],[]))) (kT fun vs=>cBs vs fun b_2 r=>cInt .i64 r fun n_11 r=>cInt .i64 r fun n_12 r=>onNil r (Zj (chk (decide (Zv b≤140737488355328)) (some (Yd [Yu (Kerb.GotB.val (Kerb.bytes b n_11 n_8)),Zz .i64 (Kerb.GotB.next (Kerb.bytes b n_11 n_8)),Zz .i64 (Kerb.GotB.err (Kerb.bytes b n_11 n_8))],[]))) (kT fun vs=>cBs vs fun b_3 r=>cInt .i64 r fun n_13 r=>cInt .i64 r fun n_14 r=>onNil r (some (Yd [Zd [Yx (Kerb.Head.little (Kerb.readHead b)),Yx (Kerb.Head.kind (Kerb.readHead b)==4),Zz .i64 n,Zw b_1,Yu b_2,Yu b_3],Zz .i64 n_13],[]))))))))))))):Option (AV×Blocks))) (by kernel_rfl) ?_
  delta kT
  try dsimp only [cStr,cBs,cBool,cU8,cInt,cSl,l63]
  have hb:=of_decide_eq_true hpre
  have hpre2:decide (b.length≤4611686018427387904)=true:=by simp;omega
  simp only [hpre,hpre2,↓A0,A0]
  rfl
 ·cases h
theorem w63:Walked Tryz.prog G 63 4 sp63:=by
 refine ⟨Tryz.f63,Tryz.func63,by decide +kernel,rfl,fun xs bl r h=> ?_⟩
 unfold sp63 at h
 split at h
 ·rename_i ali b1 b2 b3 aad ak alf ais asv ain x y z ck tc tm src now skw
  cases h
  refine Eq.trans (b:=(sel (!(b1==x&&(b2==y&&b3==z))) (some (Zz .i64 36,[])) (sel (!src==aad) (some (Zz .i64 38,[])) (sel (!Kerb.near tm now skw) (some (Zz .i64 37,[])) (some (Zz .i64 (Kerb.stateErr ais alf now skw),[])))):Option (AV×Blocks))) (by kernel_rfl) ?_
  unfold Kerb.judge
  cases h1:Kerb.Prin.eqb ⟨b1,b2,b3⟩ ⟨x,y,z⟩
  ·have h1':(b1==x&&(b2==y&&b3==z))=false:=h1
   rw [if_pos rfl,h1'];rfl
  have h1':(b1==x&&(b2==y&&b3==z))=true:=h1
  rw [if_neg (by simp),h1',Wk,sel_false]
  by_cases h2:src=aad
  case neg=>rw [sel_pos (by simpa using h2),if_pos h2]
  rw [sel_neg (by simpa using h2),if_neg (by simpa using h2)]
  cases h3:Kerb.near tm now skw
  ·rfl
  ·rw [if_neg (by simp)];rfl
 ·cases h
theorem w70:Walked Tryz.prog G 70 4 sp70:=by
 refine ⟨Tryz.f70,Tryz.func70,by decide +kernel,rfl,fun xs bl r h=> ?_⟩
 unfold sp70 at h
 split at h
 ·rename_i rl els xls now li se wn mo xp cx cy cz ck2 cad ccs ctm ctc cis clf ctk cau
  obtain ⟨hpre,h2⟩:=chk_inv h;cases h2
  refine Eq.trans (b:=(sel (!xp==0) (chk (room (Zv [Zz .i64 (Xn cis clf)]+Zv [Zz .i64 xp]) (nat_lit 8)) (Zj (chk (decide (Zv ([Zz .i64 (Xn cis clf)]++[Zz .i64 xp])≤1000000)&&List.all [Xn cis clf,xp] Kerb.isI64) (some (Yd [Zz .i64 (Yv (Ux now (Wq wn mo) [Xn cis clf,xp])),Yx (Yy (Ux now (Wq wn mo) [Xn cis clf,xp]))],[]))) fun (r:AV×Blocks)=>onNilB (Yy r) (AV.onTup (Yv r) fun vs=>onCons vs fun x r=>Xu .i64 x fun n=>onCons r fun x r=>Wb x fun b=>onNil r (some (Yd [Zz .i64 n,Yx b],[]))))) (Zj (chk (decide (Zv [Zz .i64 (Xn cis clf)]≤1000000)&&List.all [Xn cis clf] Kerb.isI64) (some (Yd [Zz .i64 (Yv (Ux now (Wq wn mo) [Xn cis clf])),Yx (Yy (Ux now (Wq wn mo) [Xn cis clf]))],[]))) fun (r:AV×Blocks)=>onNilB (Yy r) (AV.onTup (Yv r) fun vs=>onCons vs fun x r=>Xu .i64 x fun n=>onCons r fun x r=>Wb x fun b=>onNil r (some (Yd [Zz .i64 n,Yx b],[])))):Option (AV×Blocks))) (by kernel_rfl) ?_
  have e1:=Kerb.tEnd_i64 cis clf
  unfold Kerb.tgsLife Kerb.tgsEnds
  by_cases h:xp=0
  ·rw [sel_neg (by simpa using h),if_pos h]
   have h1:decide (Zv [Zz Zx (Xn cis clf)]≤1000000)=true:=rfl
   simp (config:={maxSteps:=10000000}) only [h1,e1,List.all_cons,List.all_nil,Zh,↓sInt,↓sU8,↓sBool,↓sStr,↓sBs,↓sSl,↓sAgg,↓sTup,↓sCons,↓sNil,↓sNilB,↓sChk,↓sChkBind,↓sSome,↓sOwnL,↓sConsB,↓sOwnB]
  ·rw [sel_pos (by simpa using h),if_neg h,chk_of (by rfl)]
   have h1:decide (Zv ([Zz Zx (Xn cis clf)]++[Zz Zx xp])≤1000000)=true:=rfl
   simp (config:={maxSteps:=10000000}) only [h1,e1,hpre,List.all_cons,List.all_nil,Zh,↓sInt,↓sU8,↓sBool,↓sStr,↓sBs,↓sSl,↓sAgg,↓sTup,↓sCons,↓sNil,↓sNilB,↓sChk,↓sChkBind,↓sSome,↓sOwnL,↓sConsB,↓sOwnB]
 ·cases h
theorem w93:Walked Tryz.prog G 93 4 sp93:=by
 refine ⟨Tryz.f93,Tryz.func93,by decide +kernel,rfl,fun xs bl r h=> ?_⟩
 unfold sp93 at h
 split at h
 ·rename_i b n little
  obtain ⟨hpre,h2⟩:=chk_inv h;cases h2
  refine Eq.trans (b:=(Zj (chk (decide (Zv b≤70368744177664)) (some (Wn (b++Wx n (Zf 4) little),[]))) fun (r:AV×Blocks)=>onNilB (Yy r) (AV.onOwnB (Yv r) fun l=>some (Wn l,[])):Option (AV×Blocks))) (by kernel_rfl) ?_
  simp only [decide_eq_true_eq] at hpre
  simp only [A0]
  rw [chk_of (by simp;omega)]
  rfl
 ·cases h
theorem w94:Walked Tryz.prog G 94 4 sp94:=by
 refine ⟨Tryz.f94,Tryz.func94,by decide +kernel,rfl,fun xs bl r h=> ?_⟩
 unfold sp94 at h
 split at h
 ·rename_i b n
  obtain ⟨hpre,h2⟩:=chk_inv h;cases h2
  refine Eq.trans (b:=(Zj (chk (decide (Zv b≤70368744177664)) (some (Wn (b++Wx n (Zf 1) false),[]))) fun (r:AV×Blocks)=>onNilB (Yy r) (AV.onOwnB (Yv r) fun l=>some (Wn l,[])):Option (AV×Blocks))) (by kernel_rfl) ?_
  simp only [decide_eq_true_eq] at hpre
  simp only [A0]
  rw [chk_of (by simp;omega)]
  rfl
 ·cases h
theorem w118:Walked Tryz.prog G 118 4 sp118:=by
 refine ⟨Tryz.f118,Tryz.func118,by decide +kernel,rfl,fun xs bl r h=> ?_⟩
 unfold sp118 at h
 split at h
 ·rename_i kd k bd
  obtain ⟨hpre,h2⟩:=chk_inv h;cases h2
  refine Eq.trans (b:=(let t0:List UInt8:=[Vu (Zf (Zq .u8 (Int.fdiv (↑(Zv bd):Int) (2 ^ min (Zf 8) (Xb .i64))))),Vu (Zf (Zq .u8 (↑(Zv bd):Int)))];let t1:List UInt8:=Uy (Zf 0) (0:UInt8)++[(66:UInt8),Vu (Zf (Zq .u8 kd))];let t2:Int:=Zq .i64 (12+(↑(Zv bd):Int));sel (!Uu kd) (some (Yd [Yu [],Zz .i64 104],[])) (Zj (chk (decide (0≤k)&&decide (k<18446744073709551616)) (some (Yx (Xv k),[]))) (kL fun b=>sel (!b) (some (Yd [Yu [],Zz .i64 10],[])) (sel (decide ((↑(Zv bd):Int)>1000)) (some (Yd [Yu [],Zz .i64 105],[])) (chk (decide (0≤t2)&&decide (t2≤140737488355328)) (chk (room (Zv (Uy (Zf 0) (0:UInt8))+Zv [(66:UInt8),Vu (Zf (Zq .u8 kd))]) 1) (Zj (chk (decide (0≤k)&&decide (k<18446744073709551616)) (some (Yu (Kerb.keyBytes k),[]))) (kB fun b=>chk (room (Zv t1+Zv b) 1) (chk (room (Zv (t1++b)+Zv t0) 1) (chk (room (Zv (t1++b++t0)+Zv bd) 1) (some (Yd [Yu (t1++b++t0++bd),Zz .i64 0],[]))))))))))):Option (AV×Blocks))) (by kernel_rfl) ?_
  delta kB kL
  try dsimp only [cStr,cBs,cBool,cU8,cInt,cSl,l63]
  simp only [A0,Kerb.Client.av,Kerb.Cache.av,Kerb.Cred.av,hpre]
  unfold Kerb.makeBox
  cases h1:Uu kd
  ·rfl
  rw [Wk,sel_false,if_neg (by simp)]
  cases h2:Xv k
  ·rfl
  rw [Wk,sel_false,if_neg (by simp)]
  by_cases h3:1000<bd.length
  ·rw [sel_pos (by simp;omega),if_pos h3]
  have hk:1≤kd∧kd≤10:=by simp [Uu] at h1;omega
  have lk:=Kerb.keyBytes_len k
  rw [sel_neg (by simp;omega),if_neg h3,wrap_i64 (by omega) (by omega),chk_of (by simp;omega),chk_of (Vk (by simp)),chk_of (Vk (by simp;omega)),chk_of (Vk (by simp;omega)),chk_of (Vk (by simp;omega)),Kerb.two_bytes,Kerb.wrap_u8,Int.emod_eq_of_lt (by omega) (by omega)]
  rfl
 ·cases h
theorem w120:Walked Tryz.prog G 120 4 sp120:=by
 refine ⟨Tryz.f120,Tryz.func120,by decide +kernel,rfl,fun xs bl r h=> ?_⟩
 unfold sp120 at h
 split at h
 ·rename_i li x y z ad k lf iss sv ins
  obtain ⟨hpre,h2⟩:=chk_inv h;cases h2
  refine Eq.trans (b:=(Zj (chk (decide (Zv x≤9223372036854775807)&&decide (Zv y≤9223372036854775807)&&decide (Zv z≤9223372036854775807)) (some (Yx (Vf (Kerb.Prin.mk x y z)),[]))) fun (r:AV×Blocks)=>onNilB (Yy r) (Wb (Yv r) fun b=>sel (!b) (some (Zz .i64 103,[])) (Zj (chk (decide (Zv sv≤9223372036854775807)) (some (Yx (Wm sv),[]))) fun (r:AV×Blocks)=>onNilB (Yy r) (Wb (Yv r) fun b=>sel (!b) (some (Zz .i64 103,[])) (Zj (chk (decide (Zv ins≤9223372036854775807)) (some (Yx (Wh ins),[]))) fun (r:AV×Blocks)=>onNilB (Yy r) (Wb (Yv r) fun b=>sel (!b) (some (Zz .i64 103,[])) (Zj (chk (decide (0≤k)&&decide (k<18446744073709551616)) (some (Zz .i64 (Kerb.classOf k),[]))) fun (r:AV×Blocks)=>onNilB (Yy r) (Xu .i64 (Yv r) fun n=>sel (!n==2) (some (Zz .i64 10,[])) (sel (!Yj ad 4294967295) (some (Zz .i64 104,[])) (sel (!Yj lf 255) (some (Zz .i64 104,[])) (sel (!Yj iss 4294967295) (some (Zz .i64 104,[])) (some (Zz .i64 0,[])))))))))))):Option (AV×Blocks))) (by kernel_rfl) ?_
  simp only [Xk,decide_eq_true_eq] at hpre
  obtain ⟨⟨⟨⟨⟨⟨h1,h2⟩,h3⟩,h4⟩,h5⟩,h6⟩,h7⟩:=hpre
  simp only [h1,h2,h3,h4,h5,h6,h7,decide_true,Zh,↓A0,A0]
  unfold Kerb.Ticket.err
  dsimp only
  cases Vf ⟨x,y,z⟩
  ·rfl
  cases Wm sv
  ·rfl
  cases Wh ins
  ·rfl
  simp only [Wk,Zh,sel_false]
  by_cases hc:Kerb.classOf k=2
  case neg=>rw [sel_pos (by simpa using hc),if_neg (by simp),if_pos hc]
  rw [sel_neg (by simp [hc]),if_neg (by simp),if_neg (by simp [hc])]
  cases Yj ad 4294967295
  ·rfl
  cases Yj lf 255
  ·rfl
  cases Yj iss 4294967295
  ·rfl
  rfl
 ·cases h
theorem w124:Walked Tryz.prog G 124 4 sp124:=by
 refine ⟨Tryz.f124,Tryz.func124,by decide +kernel,rfl,fun xs bl r h=> ?_⟩
 unfold sp124 at h
 split at h
 ·rename_i x y z ck tc tm
  obtain ⟨hpre,h2⟩:=chk_inv h;cases h2
  refine Eq.trans (b:=(Zj (chk (decide (Zv x≤9223372036854775807)&&decide (Zv y≤9223372036854775807)&&decide (Zv z≤9223372036854775807)) (some (Yx (Vf (Kerb.Prin.mk x y z)),[]))) fun (r:AV×Blocks)=>onNilB (Yy r) (Wb (Yv r) fun b=>sel (!b) (some (Zz .i64 103,[])) (sel (!Yj ck 4294967295) (some (Zz .i64 104,[])) (sel (!Yj tc 199) (some (Zz .i64 104,[])) (sel (!Yj tm 4294967295) (some (Zz .i64 104,[])) (some (Zz .i64 0,[])))))):Option (AV×Blocks))) (by kernel_rfl) ?_
  simp only [A0,Kerb.Client.av,Kerb.Cache.av,Kerb.Cred.av,hpre]
  unfold Kerb.Auth.check
  simp only
  cases Vf ⟨x,y,z⟩
  ·rfl
  cases Yj ck 4294967295
  ·rfl
  cases Yj tc 199
  ·rfl
  cases Yj tm 4294967295<;>rfl
 ·cases h
theorem w130:Walked Tryz.prog G 130 4 sp130:=by
 refine ⟨Tryz.f130,Tryz.func130,by decide +kernel,rfl,fun xs bl r h=> ?_⟩
 unfold sp130 at h
 split at h
 ·rename_i s bad
  obtain ⟨hpre,h2⟩:=chk_inv h;cases h2
  refine Eq.trans (b:=(Zj (loopM (fun (st:List AV)=>cStr st fun b r=>cStr r fun b_1 r=>cBool r fun b_2 r=>cInt .i64 r fun n r=>cInt .i64 r fun n_1 r=>let t0:Option (List AV ⊕ Ex×List AV):=some (Uk (Ex.ret,[Zw b,Zw b_1,Yx false,Zz .i64 n,Zz .i64 n_1]));let t1:Bool:=decide (0≤n_1)&&decide (n_1<(↑(Zv b):Int));let t2:Int:=(↑(Xd (Xz b (Zf n_1) (0:UInt8))):Int);onNil r (sel (decide (n_1<n)) (chk t1 (sel (decide (t2<(↑(Xd (33:UInt8)):Int))) t0 (chk t1 (sel (decide (t2>(↑(Xd (126:UInt8)):Int))) t0 (chk t1 (sel (decide (Yb (Xz b (Zf n_1) (0:UInt8)) b_1≥0)) t0 (some (Vq [Zw b,Zw b_1,Yx b_2,Zz .i64 n,Zz .i64 (Zq .i64 (n_1+1))])))))))) (some (Uk (Ww 0,[Zw b,Zw b_1,Yx b_2,Zz .i64 n,Zz .i64 n_1]))))) [Zw s,Zw bad,Yx false,Zz .i64 (↑(Zv s):Int),Zz .i64 0]) fun (r:Ex×List AV)=>cStr (Yy r) fun b r_1=>cStr r_1 fun b r_2=>cBool r_2 fun b r_3=>cInt .i64 r_3 fun n r_4=>cInt .i64 r_4 fun n r_5=>onNil r_5 (exK r.1 (some (Yx b,[])) fun (j:Nat)=>sel (Uz j 0) (some (Yx true,[])) none):Option (AV×Blocks))) (by kernel_rfl) ?_
  try dsimp only [cStr,cBs,cBool,cU8,cInt,cSl,l63]
  simp only [decide_eq_true_eq] at hpre
  refine loop_rounds (fun i:Nat=>[Zw s,Zw bad,Yx false,Zz Zx (s.length:Int),Zz Zx (i:Int)]) (fun i=>i≤s.length∧Vp s bad=Vp (s.drop i) bad) (fun i=>s.length-i)
   (fun r=>∃ i:Nat,r.2=[Zw s,Zw bad,Yx false,Zz Zx (s.length:Int),Zz Zx (i:Int)]∧((r.1 = .ret∧Vp s bad=false)∨(r.1 = .exit 0∧Vp s bad=true))) 0 ⟨Vy _,rfl⟩ rfl ?_ ?_
  ·rintro i ⟨hi,hp⟩
   simp only [A0]
   by_cases hlt:i<s.length
   ·have hc:(decide ((0:Int)≤(i:Int))&&decide ((i:Int)<(s.length:Int)))=true:=by simp;omega
    have hd:=Kerb.drop_all_cons hlt
    rw [sel_pos (by simp;omega),chk_of hc,Xp]
    have hpr:Vp (s.drop i) bad=(Kerb.okB bad (s.getD i 0)&&Vp (s.drop (i+1)) bad):=by rw [hd];rfl
    generalize s.getD i 0=c at *
    by_cases h1:c.toNat<33
    ·rw [sel_pos (by simp;omega)]
     exact ⟨_,rfl,i,rfl,.inl ⟨rfl,by rw [hp,hpr];simp [Kerb.okB,h1]⟩⟩
    rw [sel_neg (by simp;omega),chk_of hc]
    by_cases h2:126<c.toNat
    ·rw [sel_pos (by simp;omega)]
     exact ⟨_,rfl,i,rfl,.inl ⟨rfl,by rw [hp,hpr];simp [Kerb.okB,h2]⟩⟩
    rw [sel_neg (by simp;omega),chk_of hc]
    have h4:=Kerb.indexOf_nonneg c bad
    by_cases h3:c∈bad
    ·rw [sel_pos (by simpa using h4.2 h3)]
     exact ⟨_,rfl,i,rfl,.inl ⟨rfl,by rw [hp,hpr];simp [Kerb.okB,h3]⟩⟩
    rw [sel_neg (by have:=mt h4.1 h3;simp;omega),wrap_i64 (by omega) (by omega)]
    exact ⟨_,rfl,i+1,rfl,⟨by omega,by rw [hp,hpr];simp [Kerb.okB,h1,h2,h3]⟩,by dsimp only;omega⟩
   ·rw [sel_neg (by simp;omega)]
    exact ⟨_,rfl,i,rfl,.inr ⟨rfl,by rw [hp,List.drop_eq_nil_of_le (by omega)];rfl⟩⟩
  ·rintro ⟨e,l⟩ ⟨i,rfl,⟨rfl,hp⟩ | ⟨rfl,hp⟩⟩
   ·simp only [A0,hp]
   ·simp only [A0,hp]
    rfl
 ·cases h
theorem w140:Walked Tryz.prog G 140 4 sp140:=by
 refine ⟨Tryz.f140,Tryz.func140,by decide +kernel,rfl,fun xs bl r h=> ?_⟩
 unfold sp140 at h
 split at h
 ·rename_i b x y z
  obtain ⟨hpre,h2⟩:=chk_inv h;cases h2
  refine Eq.trans (b:=(Zj (chk (decide (Zv b+Zv x≤70368744177664)) (some (Yu (Wj b x),[]))) fun (r:AV×Blocks)=>onNilB (Yy r) (AV.onBs (Yv r) fun b=>Zj (chk (decide (Zv b+Zv y≤70368744177664)) (some (Yu (Wj b y),[]))) fun (r:AV×Blocks)=>onNilB (Yy r) (AV.onBs (Yv r) fun b=>Zj (chk (decide (Zv b+Zv z≤70368744177664)) (some (Yu (Wj b z),[]))) fun (r:AV×Blocks)=>onNilB (Yy r) (AV.onBs (Yv r) fun b=>some (Yu b,[])))):Option (AV×Blocks))) (by kernel_rfl) ?_
  simp only [decide_eq_true_eq] at hpre
  simp only [A0]
  rw [chk_of (by simp;omega),chk_of (by simp [Wj];omega),chk_of (by simp [Wj];omega)]
  rfl
 ·cases h
theorem w143:Walked Tryz.prog G 143 4 sp143:=by
 refine ⟨Tryz.f143,Tryz.func143,by decide +kernel,rfl,fun xs bl r h=> ?_⟩
 unfold sp143 at h
 split at h
 ·rename_i b
  obtain ⟨hpre,h2⟩:=chk_inv h;cases h2
  refine Eq.trans (b:=(sel (!(↑(Zv b):Int)==8) (some (Yd [Zz .u64 0,Yx false],[])) (Zj (loopM (fun (st:List AV)=>cInt .u64 st fun n r=>cBs r fun b r=>cInt .i64 r fun n_1 r=>cInt .i64 r fun n_2 r=>onNil r (sel (decide (n_2<n_1)) (chk (decide (0≤n_2)&&decide (n_2<(↑(Zv b):Int))) (some (Vq [Zz .u64 (Zq .u64 (↑(BitVec.toNat (BitVec.ofInt (Xb .u64) (Zq .u64 (n*2 ^ min (Zf 8) (Xb .u64))) ||| BitVec.ofInt (Xb .u64) (Zq .u64 (↑(Xd (Xz b (Zf n_2) (0:UInt8))):Int)))):Int)),Yu b,Zz .i64 n_1,Zz .i64 (Zq .i64 (n_2+1))]))) (some (Uk (Ww 0,[Zz .u64 n,Yu b,Zz .i64 n_1,Zz .i64 n_2]))))) [Zz .u64 0,Yu b,Zz .i64 (↑(Zv b):Int),Zz .i64 0]) fun (r:Ex×List AV)=>cInt .u64 (Yy r) fun n r_1=>cBs r_1 fun b r_2=>cInt .i64 r_2 fun n_1 r_3=>cInt .i64 r_3 fun n_2 r_4=>onNil r_4 (exK r.1 none fun (j:Nat)=>sel (Uz j 0) (Zj (chk (decide (0≤n)&&decide (n<18446744073709551616)) (some (Yx (Xv n),[]))) (kL fun b=>sel (!b) (some (Yd [Zz .u64 0,Yx false],[])) (some (Yd [Zz .u64 n,Yx true],[])))) none)):Option (AV×Blocks))) (by kernel_rfl) ?_
  delta kL
  try dsimp only [cStr,cBs,cBool,cU8,cInt,cSl,l63]
  have hb:=of_decide_eq_true hpre
  unfold Kerb.keyRead
  by_cases h8:b.length=8
  case neg =>
   rw [sel_pos (by simp;omega),if_neg (by omega)]
  rw [sel_neg (by simp [h8])]
  refine loop_rounds (fun i:Nat=>[Zz Yk (Kerb.valB (b.take i)),Yu b,Zz Zx (b.length:Int),Zz Zx (i:Int)]) (fun i=>i≤8) (fun i=>8-i)
   (fun r=>r=(Ww 0,[Zz Yk (Kerb.valB b),Yu b,Zz Zx (b.length:Int),Zz Zx 8])) 0 (by omega) rfl ?_ ?_
  ·intro i hi
   simp only [A0]
   by_cases hlt:i<8
   ·have hv:=Kerb.valB_take (l:=b) (i:=i) (by omega)
    have hbd:=Kerb.valB_bd7 (l:=b.take i) (by simp;omega)
    rw [sel_pos (by simp;omega),chk_of (by simp;omega),Xp,Kerb.shl8_oru _ hbd.1 hbd.2,wrap_i64 (by omega) (by omega),← hv]
    exact ⟨_,rfl,i+1,rfl,by omega,by dsimp only;omega⟩
   ·rw [sel_neg (by simp;omega)]
    refine ⟨_,rfl,?_⟩
    show _=_
    rw [List.take_of_length_le (by omega),show i=8 from by omega]
    rfl
  rintro r rfl
  have hbd:=Kerb.valB_bd8 (l:=b) (by omega)
  simp only [A0]
  rw [sel_pos (Wp _),chk_of (by simp;omega)]
  cases hv:Xv (Kerb.valB b)
  ·rw [if_neg (by simp)]
   rfl
  ·rw [if_pos ⟨h8,rfl⟩]
   rfl
 ·cases h
theorem w145:Walked Tryz.prog G 145 4 sp145:=by
 refine ⟨Tryz.f145,Tryz.func145,by decide +kernel,rfl,fun xs bl r h=> ?_⟩
 unfold sp145 at h
 split at h
 ·rename_i rl els n i now bit xp br
  obtain ⟨hpre,h2⟩:=chk_inv h;cases h2
  refine Eq.trans (b:=(Zj (chk (List.all els Kerb.isEntry&&decide (Zv els≤1000000)) (some (Yd [Zz .i64 (Yv (Vx (List.map Kerb.toEntry els) n i)),Zz .i64 (Yy (Vx (List.map Kerb.toEntry els) n i))],[]))) (kT fun vs=>cInt .i64 vs fun n r=>cInt .i64 r fun n_1 r=>onNil r (sel (!n_1==0) (some (Yd [Zz .i64 0,Zz .i64 n_1],[])) (chk (decide (0≤n)&&decide (n<(↑(Zv els):Int))&&true) (Wu (Xz els (Zf n) Xx) fun cs=>cStr cs fun b r=>cStr r fun b r=>cInt .u64 r fun n_2 r=>cInt .i64 r fun n_3 r=>cInt .i64 r fun n_4 r=>cInt .i64 r fun n_5 r=>cInt .i64 r fun n_6 r=>let t0:Option (AV×Blocks):=sel (!Zq .i64 (↑(BitVec.toNat (BitVec.ofInt (Xb .i64) n_6 &&& BitVec.ofInt (Xb .i64) bit)):Int)==0) (some (Yd [Zz .i64 0,Zz .i64 br],[])) (some (Yd [Zz .i64 n,Zz .i64 0],[]));cInt .i64 r fun n r=>cInt .i64 r fun n r=>onNil r (Zj (chk (decide (0≤n_2)&&decide (n_2<18446744073709551616)) (some (Yx (Xv n_2),[]))) (kL fun b=>sel (!b) (some (Yd [Zz .i64 0,Zz .i64 10],[])) (sel (!n_4==0) (sel (decide (n_4≤now)) (some (Yd [Zz .i64 0,Zz .i64 xp],[])) t0) t0))))))):Option (AV×Blocks))) (by kernel_rfl) ?_
  delta kT kL
  try dsimp only [cStr,cBs,cBool,cU8,cInt,cSl,l63]
  simp only [Xk,decide_eq_true_eq] at hpre
  obtain ⟨hall,hlen⟩:=hpre
  obtain ⟨es,rfl,hok⟩:=Kerb.ents_of hall
  simp only [hall,hlen,Kerb.map_toEntry,decide_true,Zh,↓A0,A0]
  unfold Kerb.useEnt
  dsimp only
  have hf:=Kerb.find_count (es:=es) (n:=n) (i:=i)
  generalize Vx es n i=F at hf
  obtain ⟨j,e⟩:=F
  dsimp only at hf ⊢
  by_cases he:e=0
  case neg=>rw [sel_pos (by simpa using he),if_pos he]
  obtain ⟨_,f2,f3⟩:=hf he
  subst f2
  rw [sel_neg (by simpa using he),if_neg (by simpa using he),chk_of (by simp only [Xw,Bool.and_true,Xk,decide_eq_true_eq];omega),Xp,Kerb.getD_ent f3]
  have hx:=hok _ (Kerb.ent_mem f3)
  generalize es.getD (es.findIdx (Kerb.Entry.named n i)) Kerb.noEntry=x at hx
  obtain ⟨_,_,x3,_⟩:=hx
  have h4:(decide (0≤x.key)&&decide (x.key<18446744073709551616))=true:=x3
  simp only [Zk,↓A0,A0,h4]
  cases hk:Xv x.key
  ·rfl
  simp only [Wk,Bool.not_false,sel_true,sel_false]
  rw [if_neg (by simp)]
  have hb:Zq .i64 (BitVec.toNat (BitVec.ofInt (Xb .i64) x.attr &&& BitVec.ofInt (Xb .i64) bit):Int)=Kerb.bitOf x.attr bit:=rfl
  rw [hb]
  by_cases h1:x.expires=0
  ·rw [sel_neg (by simp [h1]),if_neg (by simp [h1])]
   by_cases h2:Kerb.bitOf x.attr bit=0
   ·rw [sel_neg (by simp [h2]),if_neg (by simp [h2])]
   ·rw [sel_pos (by simpa using h2),if_pos h2]
  ·rw [sel_pos (by simpa using h1)]
   by_cases h3:x.expires≤now
   ·rw [sel_pos (by simpa using h3),if_pos ⟨h1,h3⟩]
   ·rw [sel_neg (by simpa using h3),if_neg (by simp [h3])]
    by_cases h2:Kerb.bitOf x.attr bit=0
    ·rw [sel_neg (by simp [h2]),if_neg (by simp [h2])]
    ·rw [sel_pos (by simpa using h2),if_pos h2]
 ·cases h
theorem w151:Walked Tryz.prog G 151 4 sp151:=by
 refine ⟨Tryz.f151,Tryz.func151,by decide +kernel,rfl,fun xs bl r h=> ?_⟩
 unfold sp151 at h
 split at h
 ·rename_i b n little
  obtain ⟨hpre,h2⟩:=chk_inv h;cases h2
  refine Eq.trans (b:=(Zj (chk (decide (Zv b≤70368744177664)) (some (Wn (b++Wx n (Zf 2) little),[]))) fun (r:AV×Blocks)=>onNilB (Yy r) (AV.onOwnB (Yv r) fun l=>some (Wn l,[])):Option (AV×Blocks))) (by kernel_rfl) ?_
  simp only [decide_eq_true_eq] at hpre
  simp only [A0]
  rw [chk_of (by simp;omega)]
  rfl
 ·cases h
end Go.Proofs.YtljhmpcfjfcgiaaGreatDoor
