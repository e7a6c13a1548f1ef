/- What the functions of this seat compute. -/
import Derived.Test.YtaikjfcgemjghaaGreatTab
import Derived.Test.YtaikjfcgemjghaaGreatKerbPlain
import Derived.Test.YtaikjfcgemjghaaGreatAbsStep
import Derived.Test.YtaikjfcgemjghaaGreatKerbKaPlain
import Derived.Test.YtaikjfcgemjghaaGreatKerbKaRef
import Derived.Test.YtaikjfcgemjghaaGreatKerbCli3
import Derived.Test.YtaikjfcgemjghaaGreatKerbCli4
import Derived.Test.YtaikjfcgemjghaaGreatKerbCli5
import Derived.Test.YtaikjfcgemjghaaGreatKerbSrvL
import Derived.Test.YtaikjfcgemjghaaGreatKerbKac2
import Derived.Test.YtaikjfcgemjghaaGreatKerbSrvP
import Derived.Test.YtaikjfcgemjghaaGreatKerbSrvB
open Go.Abs.AV renaming int→Zz,str→Zy,bool→Zf,agg→Zn,bs→Zh,tup→Yv,onInt→Yq,ownB→Ym,onTup→Xb,u8→Wu,onBool→Wk,sl→Vy,undef→Vk
open List renaming length→Zx,append→Xq,getD→Xd,take→Xg,drop→Xn,range_succ→Wp,replicate→Vw
open Go.IntKind renaming i64→Zw,wrap→Zj,u64→Yp,bits→Xv
open Kerb renaming service→Zv,user→Zu,keyBytes_len→Zk,putN_len→Zp,simpleEnt→Zd,putPrin_len→Zb,u8i→Yy,get→Yx,within→Yw,putN→Yd,putText→Yg,indexOf→Yn,keyValid→Yh,long→Xz,bytes→Xy,room_ok→Xx,encodeKaAnswer→Xm,printable→Xh,bfd→Wx,putText_len→Wq,keyRead→Wj,imin→Wf,readBox→Wg,ticketed→Wh,readHead→Vz,validName→Vv,validInst→Vu,lDone→Vq,encodeKaReply→Vj,isKind→Vp,byteAt→Vd,bfd_eq→Vf
open Option renaming bind→Zq
open Kerb.Entry renaming av→Zg
open Int renaming toNat→Zm,tmod→Xp
open Bool renaming not_true→Yz,and_eq_true→Xw,and_self→Xu,not_false→Wn,false_or→Vg
open Prod renaming snd→Yu,fst→Yj
open Kerb.Got renaming err→Yk,next→Yf,val→Yb
open Kerb.Prin renaming mk→Xj,valid→Wz,realm→Wy,name→Ww,inst→Wv
open UInt8 renaming toNat→Xk
open Kerb.GotB renaming err→Xf,next→Wd,val→Wb
open Nat renaming beq_refl→Wm
open Go.Abs.Ex renaming exit→Vx
namespace Go.Proofs.YtaikjfcgemjghaaGreat
open Go Go.Abs Go.Proofs
set_option linter.unusedVariables false
set_option linter.unusedSimpArgs false
set_option maxRecDepth 100000
theorem w106:Walked Tryz.prog G 106 3 sp106:=by
 refine ⟨Tryz.f106,Tryz.func106,by decide +kernel,rfl,fun xs bl r h=> ?_⟩
 unfold sp106 at h
 split at h
 ·rename_i k
  obtain ⟨hpre,h2⟩:=chk_inv h;cases h2
  refine Eq.trans (b:=(Zq (chk (decide (0≤k)&&decide (k<18446744073709551616)) (some (Zf (Yh k),[]))) fun (r:AV×Blocks)=>onNilB (Yu r) (Wk (Yj r) fun b=>sel (!b) (some (Zz .i64 0,[])) (some (Zz .i64 (Zj .i64 (Int.fdiv k (2 ^ min (Zm 56) (Xv .u64)))),[]))):Option (AV×Blocks))) (by kernel_rfl) ?_
  simp only [hpre,↓A0,A0]
  unfold Kerb.classOf
  cases hk:Yh k
  ·rfl
  simp only [Yz,Wn,sel_true,sel_false]
  simp only [Xw,decide_eq_true_eq] at hpre
  have h7:(min (Zm 56) (Xv .u64))=56:=rfl
  rw [h7,Int.fdiv_eq_ediv_of_nonneg _ (by decide),wrap_i64 (by omega) (by omega)]
  rfl
 ·cases h
theorem w116:Walked Tryz.prog G 116 3 sp116:=by
 refine ⟨Tryz.f116,Tryz.func116,by decide +kernel,rfl,fun xs bl r h=> ?_⟩
 unfold sp116 at h
 split at h
 ·rename_i b els
  obtain ⟨hpre,h2⟩:=chk_inv h;cases h2
  refine Eq.trans (b:=(sel (!Kerb.Head.err (Vz b)==0) (some (Yv [Zf false,Zz .i64 (Kerb.Head.err (Vz b))],[])) (Zq (chk (allInts els&&decide (Zx els≤1000)) (some (Zf (List.contains (intsIn els) (Kerb.Head.kind (Vz b))),[]))) fun (r:AV×Blocks)=>onNilB (Yu r) (Wk (Yj r) fun b_1=>sel (!b_1) (some (Yv [Zf false,Zz .i64 40],[])) (some (Yv [Zf (Kerb.Head.little (Vz b)),Zz .i64 0],[])))):Option (AV×Blocks))) (by kernel_rfl) ?_
  simp only [A0]
  unfold Kerb.headIs
  by_cases h:(Vz b).err=0
  ·rw [sel_neg (by simp [h]),chk_of hpre]
   cases hc:(intsIn els).contains (Vz b).kind<;>simp [sel,h,hc]
  ·rw [sel_pos (by simpa using h)]
   simp [h]
 ·cases h
theorem w118:Walked Tryz.prog G 118 3 sp118:=by
 refine ⟨Tryz.f118,Tryz.func118,by decide +kernel,rfl,fun xs bl r h=> ?_⟩
 unfold sp118 at h
 split at h
 ·rename_i n B at_ bad
  obtain ⟨hpre,h2⟩:=chk_inv h;cases h2
  show runFnH (G.env 118 3) G.rts (G.own 118) Tryz.f118 _ _ [0]=_
  refine Eq.trans (b:=(Zq (chk (decide (Zx B≤140737488355328)) (some (Yv [Zh (Wb (Xy B at_ n)),Zz .i64 (Wd (Xy B at_ n)),Zz .i64 (Xf (Xy B at_ n))],[]))) fun (r:AV×Blocks)=>onNilB (Yu r) (Xb (Yj r) fun vs=>onCons vs fun x r=>AV.onBs x fun b=>onCons r fun x r=>Yq .i64 x fun n=>onCons r fun x r=>Yq .i64 x fun n_1=>onNil r (sel (!!(bad || !n_1==0)) (some (Zh [],[[Zh B,Zz .i64 (bif bad || !n_1==0 then at_ else n),Zf (bad || !n_1==0)]])) (some (Zh b,[[Zh B,Zz .i64 (bif bad || !n_1==0 then at_ else n),Zf (bad || !n_1==0)]])))):Option (AV×Blocks))) (by kernel_rfl) ?_
  have hb:=of_decide_eq_true hpre
  simp only [A0]
  rw [chk_of (by simp;omega)]
  unfold Kerb.pBytes
  cases bad
  ·simp only [Vg]
   generalize hq:(!(_==(0:Int)))=q
   cases q<;>rfl
  ·rfl
 ·cases h
theorem w152:Walked Tryz.prog G 152 3 sp152:=by
 refine ⟨Tryz.f152,Tryz.func152,by decide +kernel,rfl,fun xs bl r h=> ?_⟩
 unfold sp152 at h
 split at h
 ·rename_i n w els
  obtain ⟨hpre,h2⟩:=chk_inv h;cases h2
  refine Eq.trans (b:=(sel (!Yw n 4294967295) (some (Yv [Zz .i64 0,Zf false],[])) (sel (decide (Kerb.least w [255]<0)) (some (Yv [Zz .i64 0,Zf false],[])) (Zq (chk (allInts els&&decide (Zx els≤1000000)) (some (Zz .i64 (Kerb.least (Kerb.tEnd n (Kerb.least w [255])) (intsIn els)),[]))) fun (r:AV×Blocks)=>onNilB (Yu r) (Yq .i64 (Yj r) fun n_1=>sel (decide (n_1<n)) (some (Yv [Zz .i64 0,Zf false],[])) (Zq (chk (decide ((-9223372036854775808:Int)≤Zj .i64 (n_1-n))&&decide (Zj .i64 (n_1-n)≤9223372036854775807)) (some (Yv [Zz .i64 (bif decide (Zj .i64 (n_1-n)<300) then 0 else Kerb.fromSec (Zj .i64 (n_1-n))),Zf !decide (Zj .i64 (n_1-n)<300)],[]))) fun (r:AV×Blocks)=>onNilB (Yu r) (Xb (Yj r) fun vs=>onCons vs fun x r=>Yq .i64 x fun n=>onCons r fun x r=>Wk x fun b=>onNil r (some (Yv [Zz .i64 n,Zf b],[]))))))):Option (AV×Blocks))) (by kernel_rfl) ?_
  simp only [Xw,decide_eq_true_eq] at hpre
  obtain ⟨⟨ha,hl⟩,hi⟩:=hpre
  have hl0:Kerb.least w [255]=Wf w 255:=rfl
  simp only [hl0,ha,hl,decide_true,Xu,↓A0,A0]
  unfold Kerb.grantLife
  cases hn:Yw n 4294967295
  ·rfl
  rw [sel_neg (by rfl)]
  have n1:=Kerb.within_iff.1 hn
  by_cases hw:w<0
  ·have h5:Wf w 255<0:=by unfold Wf;split<;>omega
   rw [sel_pos (by simpa using h5),if_pos (by simp [hw])]
  have hm:0≤Wf w 255∧Wf w 255≤255:=by unfold Wf;split<;>omega
  rw [sel_neg (by simp;omega),if_neg (by simp [hw])]
  have ht:Kerb.tEnd n (Wf w 255)=n+300*(Wf w 255+1):=by
   unfold Kerb.tEnd
   rw [if_pos (by rw [hn,Kerb.within_iff.2 hm];rfl)]
  rw [ht]
  have hle:=Kerb.least_le (intsIn els) (n+300*(Wf w 255+1))
  generalize Kerb.least (n+300*(Wf w 255+1)) (intsIn els)=L at hle ⊢
  by_cases h1:L<n
  ·rw [sel_pos (by simpa using h1),if_pos (by omega)]
  rw [sel_neg (by simpa using h1),wrap_i64 (by omega) (by omega),chk_of (by simp;omega)]
  by_cases h2:L-n<300
  ·rw [if_pos h2,show decide (L-n<300)=true from by simpa using h2];rfl
  ·rw [if_neg h2,show decide (L-n<300)=false from by simpa using h2]
   unfold Kerb.fromSec
   rw [Int.tdiv_eq_ediv_of_nonneg (by omega)]
   rfl
 ·cases h
theorem w153:Walked Tryz.prog G 153 3 sp153:=by
 refine ⟨Tryz.f153,Tryz.func153,by decide +kernel,rfl,fun xs bl r h=> ?_⟩
 unfold sp153 at h
 split at h
 ·rename_i k
  obtain ⟨hpre,h2⟩:=chk_inv h;cases h2
  refine Eq.trans (b:=(Zq (chk (decide (0≤k)&&decide (k<18446744073709551616)) (some (Yv [Zz .i64 (bif Yh k then Kerb.keyClass k else 0),Zz .i64 (bif Yh k then Kerb.keySerial k else 0),Zf (Yh k)],[]))) fun (r:AV×Blocks)=>onNilB (Yu r) (Xb (Yj r) fun vs=>onCons vs fun x r=>Yq .i64 x fun n=>onCons r fun x r=>Yq .i64 x fun n_1=>onCons r fun x r=>Wk x fun b=>onNil r (some (Zz .i64 n,[]))):Option (AV×Blocks))) (by kernel_rfl) ?_
  simp only [hpre,↓A0,A0]
  rfl
 ·cases h
theorem w162:Walked Tryz.prog G 162 3 sp162:=by
 refine ⟨Tryz.f162,Tryz.func162,by decide +kernel,rfl,fun xs bl r h=> ?_⟩
 unfold sp162 at h
 split at h
 ·rename_i b pos
  obtain ⟨hpre,h2⟩:=chk_inv h;cases h2
  refine Eq.trans (b:=(Zq (chk (decide (Zx b≤140737488355328)&&true&&true) (some (Yv [Zz .i64 (Yb (Yx b pos 1 false)),Zz .i64 (Yf (Yx b pos 1 false)),Zz .i64 (Yk (Yx b pos 1 false))],[]))) fun (r:AV×Blocks)=>onNilB (Yu r) (Xb (Yj r) fun vs=>onCons vs fun x r=>Yq .i64 x fun n=>onCons r fun x r=>Yq .i64 x fun n_1=>onCons r fun x r=>Yq .i64 x fun n_2=>onNil r (some (Yv [Zz .i64 n,Zz .i64 n_1,Zz .i64 n_2],[]))):Option (AV×Blocks))) (by kernel_rfl) ?_
  simp only [A0]
  rw [chk_of (by rw [hpre];rfl)]
 ·cases h
theorem w166:Walked Tryz.prog G 166 3 sp166:=by
 refine ⟨Tryz.f166,Tryz.func166,by decide +kernel,rfl,fun xs bl r h=> ?_⟩
 unfold sp166 at h
 split at h
 ·rename_i b pos little
  obtain ⟨hpre,h2⟩:=chk_inv h;cases h2
  refine Eq.trans (b:=(Zq (chk (decide (Zx b≤140737488355328)&&true&&true) (some (Yv [Zz .i64 (Yb (Yx b pos 2 little)),Zz .i64 (Yf (Yx b pos 2 little)),Zz .i64 (Yk (Yx b pos 2 little))],[]))) fun (r:AV×Blocks)=>onNilB (Yu r) (Xb (Yj r) fun vs=>onCons vs fun x r=>Yq .i64 x fun n=>onCons r fun x r=>Yq .i64 x fun n_1=>onCons r fun x r=>Yq .i64 x fun n_2=>onNil r (some (Yv [Zz .i64 n,Zz .i64 n_1,Zz .i64 n_2],[]))):Option (AV×Blocks))) (by kernel_rfl) ?_
  simp only [A0]
  rw [chk_of (by rw [hpre];rfl)]
 ·cases h
theorem w169:Walked Tryz.prog G 169 3 sp169:=by
 refine ⟨Tryz.f169,Tryz.func169,by decide +kernel,rfl,fun xs bl r h=> ?_⟩
 unfold sp169 at h
 split at h
 ·rename_i b pos little
  obtain ⟨hpre,h2⟩:=chk_inv h;cases h2
  refine Eq.trans (b:=(Zq (chk (decide (Zx b≤140737488355328)&&true&&true) (some (Yv [Zz .i64 (Yb (Yx b pos 4 little)),Zz .i64 (Yf (Yx b pos 4 little)),Zz .i64 (Yk (Yx b pos 4 little))],[]))) fun (r:AV×Blocks)=>onNilB (Yu r) (Xb (Yj r) fun vs=>onCons vs fun x r=>Yq .i64 x fun n=>onCons r fun x r=>Yq .i64 x fun n_1=>onCons r fun x r=>Yq .i64 x fun n_2=>onNil r (some (Yv [Zz .i64 n,Zz .i64 n_1,Zz .i64 n_2],[]))):Option (AV×Blocks))) (by kernel_rfl) ?_
  simp only [A0]
  rw [chk_of (by rw [hpre];rfl)]
 ·cases h
theorem w182:Walked Tryz.prog G 182 3 sp182:=by
 refine ⟨Tryz.f182,Tryz.func182,by decide +kernel,rfl,fun xs bl r h=> ?_⟩
 unfold sp182 at h
 split at h
 ·rename_i b
  obtain ⟨hpre,h2⟩:=chk_inv h;cases h2
  refine Eq.trans (b:=(chk (decide (0≤Xp (Zj .i64 (8-Xp (↑(Zx b):Int) 8)) 8)&&decide (Xp (Zj .i64 (8-Xp (↑(Zx b):Int) 8)) 8≤Xp (Zj .i64 (8-Xp (↑(Zx b):Int) 8)) 8)&&decide (Xp (Zj .i64 (8-Xp (↑(Zx b):Int) 8)) 8≤140737488355328)) (Zq (chk (decide (Zx (Xq b (Xq (Vw (Zm (Xp (Zj .i64 (8-Xp (↑(Zx b):Int) 8)) 8)) (0:UInt8)) []))≤140737488355328)&&decide (Zx [Zh b,Zh (Vw (Zm (Xp (Zj .i64 (8-Xp (↑(Zx b):Int) 8)) 8)) (0:UInt8))]≤1000)) (some (Ym (Xq b (Xq (Vw (Zm (Xp (Zj .i64 (8-Xp (↑(Zx b):Int) 8)) 8)) (0:UInt8)) [])),[]))) fun (r:AV×Blocks)=>onNilB (Yu r) (AV.onOwnB (Yj r) fun l=>some (Zh l,[]))):Option (AV×Blocks))) (by kernel_rfl) ?_
  have hb:=of_decide_eq_true hpre
  rw [Kerb.pad_eq hb]
  simp only [A0]
  rw [chk_of (by simp;omega),chk_of (by simp;omega)]
  simp [Kerb.pad]
  omega
 ·cases h
theorem w187:Walked Tryz.prog G 187 3 sp187:=by
 refine ⟨Tryz.f187,Tryz.func187,by decide +kernel,rfl,fun xs bl r h=> ?_⟩
 unfold sp187 at h
 split at h
 ·rename_i b s
  obtain ⟨hpre,h2⟩:=chk_inv h;cases h2
  refine Eq.trans (b:=(Zq (chk (decide (Zx (Xq b (Xq s ((0:UInt8)::Xq [] [])))≤140737488355328)&&decide (Zx [Zh b,Zh s,Zh [(0:UInt8)]]≤1000)) (some (Ym (Xq b (Xq s ((0:UInt8)::Xq [] []))),[]))) fun (r:AV×Blocks)=>onNilB (Yu r) (AV.onOwnB (Yj r) fun l=>some (Zh l,[])):Option (AV×Blocks))) (by kernel_rfl) ?_
  simp only [decide_eq_true_eq] at hpre
  simp only [A0]
  rw [chk_of (by simp;omega)]
  simp [Yg]
 ·cases h
theorem w198:Walked Tryz.prog G 198 3 sp198:=by
 refine ⟨Tryz.f198,Tryz.func198,by decide +kernel,rfl,fun xs bl r h=> ?_⟩
 unfold sp198 at h
 split at h
 ·rename_i b pos
  obtain ⟨hpre,h2⟩:=chk_inv h;cases h2
  refine Eq.trans (b:=(Zq (chk (decide (Zx b≤4611686018427387904)&&true&&true) (some (Yv [Zz .i64 (Yb (Yx b pos 1 false)),Zz .i64 (Yf (Yx b pos 1 false)),Zz .i64 (Yk (Yx b pos 1 false))],[]))) fun (r:AV×Blocks)=>onNilB (Yu r) (Xb (Yj r) fun vs=>onCons vs fun x r=>Yq .i64 x fun n=>onCons r fun x r=>Yq .i64 x fun n_1=>onCons r fun x r=>Yq .i64 x fun n_2=>onNil r (some (Yv [Zz .i64 n,Zz .i64 n_1,Zz .i64 n_2],[]))):Option (AV×Blocks))) (by kernel_rfl) ?_
  simp only [A0]
  rw [chk_of (by rw [hpre];rfl)]
 ·cases h
theorem w201:Walked Tryz.prog G 201 3 sp201:=by
 refine ⟨Tryz.f201,Tryz.func201,by decide +kernel,rfl,fun xs bl r h=> ?_⟩
 unfold sp201 at h
 split at h
 ·rename_i b pos little
  obtain ⟨hpre,h2⟩:=chk_inv h;cases h2
  refine Eq.trans (b:=(Zq (chk (decide (Zx b≤4611686018427387904)&&true&&true) (some (Yv [Zz .i64 (Yb (Yx b pos 2 little)),Zz .i64 (Yf (Yx b pos 2 little)),Zz .i64 (Yk (Yx b pos 2 little))],[]))) fun (r:AV×Blocks)=>onNilB (Yu r) (Xb (Yj r) fun vs=>onCons vs fun x r=>Yq .i64 x fun n=>onCons r fun x r=>Yq .i64 x fun n_1=>onCons r fun x r=>Yq .i64 x fun n_2=>onNil r (some (Yv [Zz .i64 n,Zz .i64 n_1,Zz .i64 n_2],[]))):Option (AV×Blocks))) (by kernel_rfl) ?_
  simp only [A0]
  rw [chk_of (by rw [hpre];rfl)]
 ·cases h
theorem w214:Walked Tryz.prog G 214 3 sp214:=by
 refine ⟨Tryz.f214,Tryz.func214,by decide +kernel,rfl,fun xs bl r h=> ?_⟩
 unfold sp214 at h
 split at h
 ·rename_i b pos
  obtain ⟨hpre,h2⟩:=chk_inv h;cases h2
  refine Eq.trans (b:=(let t5:List UInt8:=Xn (Zm pos) (Xg (Zm (↑(Zx b):Int)) b);let t6:Option (AV×Blocks):=some (Yv [Zy [],Zz .i64 0,Zz .i64 105],[]);let t7:Option (AV×Blocks):=some (Yv [Zy [],Zz .i64 0,Zz .i64 101],[]);let t1:Int:=Yn (0:UInt8) t5;let t2:Int:=(↑(Zx t5):Int);let t4:List UInt8:=Xn (Zm (↑(0:Nat):Int)) (Xg (Zm 40) t5);let t0:Int:=Yn (0:UInt8) t4;let t3:Int:=(↑(Zx t4):Int);Zq (chk (decide (Zx b≤4611686018427387904)) (some (Zz .i64 (Kerb.room b pos 0),[]))) (kI .i64 fun n=>sel (!n==0) (some (Yv [Zy [],Zz .i64 0,Zz .i64 n],[])) (chk (decide (0≤pos)&&decide (pos≤(↑(Zx b):Int))&&decide ((↑(Zx b):Int)≤(↑(Zx b):Int))) (sel (decide (t2>40)) (chk (decide (40≤t2)) (sel (decide (t0≥0)) (chk (decide ((↑(0:Nat):Int)≤t0)&&decide (t0≤t3)) (some (Yv [Zy (Xn (Zm (↑(0:Nat):Int)) (Xg (Zm t0) t4)),Zz .i64 (Zj .i64 (Zj .i64 (pos+t0)+1)),Zz .i64 0],[]))) (sel (t3==40) t6 t7))) (sel (decide (t1≥0)) (chk (decide ((↑(0:Nat):Int)≤t1)&&decide (t1≤t2)) (some (Yv [Zy (Xn (Zm (↑(0:Nat):Int)) (Xg (Zm t1) t5)),Zz .i64 (Zj .i64 (Zj .i64 (pos+t1)+1)),Zz .i64 0],[]))) (sel (t2==40) t6 t7))))):Option (AV×Blocks))) (by kernel_rfl) ?_
  delta kI
  try dsimp only [cStr,cBs,cBool,cU8,cInt,cSl,l63]
  simp only [decide_eq_true_eq] at hpre
  simp only [A0]
  rw [chk_of (by simpa using hpre)]
  have ht:(Xg (Zm (b.length:Int)) b)=b:=by simp
  rw [ht]
  unfold Kerb.text
  by_cases hr:Kerb.room b pos 0=0
  case neg =>
   have h104:Kerb.room b pos 0=104:=by
    unfold Kerb.room at hr ⊢
    split at hr
    ·rw [if_pos (by assumption)]
    ·split at hr<;>omega
   rw [sel_pos (by simpa using hr),if_neg hr,h104]
  obtain ⟨q1,q2,_,_⟩:=Kerb.room_zero.1 hr
  rw [sel_neg (by simp [hr]),if_pos hr,chk_of (by simp;omega)]
  obtain ⟨R,hR⟩:∃ R,R=b.drop pos.toNat:=⟨_,rfl⟩
  have hRl:R.length=b.length-pos.toNat:=by rw [hR];simp
  rw [← hR]
  obtain ⟨T,hT⟩:∃ T,T=R.take 40:=⟨_,rfl⟩
  have hix:=Kerb.indexOf_bd 0 T
  have key:(sel (decide (Yn (0:UInt8) T≥(0:Int)))
    (chk (decide (((0:Nat):Int)≤Yn (0:UInt8) T)&&decide (Yn (0:UInt8) T≤(T.length:Int)))
     (some (Yv [Zy (Xn (Zm ((0:Nat):Int)) (Xg (Zm (Yn (0:UInt8) T)) T)),Zz Zw (Zj Zw (Zj Zw (pos+Yn (0:UInt8) T)+(1:Int))),Zz Zw (0:Int)],([]:Blocks))))
    (sel (((T.length:Int))==(40:Int)) (some (Yv [Zy [],Zz Zw (0:Int),Zz Zw (105:Int)],[]))
     (some (Yv [Zy [],Zz Zw (0:Int),Zz Zw (101:Int)],[])))) =
    some (Yv [Zy (if 0≤Yn 0 T then (⟨T.take (Yn 0 T).toNat,pos+Yn 0 T+1,0⟩:Kerb.GotB) else if T.length=40 then ⟨[],0,105⟩ else ⟨[],0,101⟩).val,
     Zz Zw (if 0≤Yn 0 T then (⟨T.take (Yn 0 T).toNat,pos+Yn 0 T+1,0⟩:Kerb.GotB) else if T.length=40 then ⟨[],0,105⟩ else ⟨[],0,101⟩).next,
     Zz Zw (if 0≤Yn 0 T then (⟨T.take (Yn 0 T).toNat,pos+Yn 0 T+1,0⟩:Kerb.GotB) else if T.length=40 then ⟨[],0,105⟩ else ⟨[],0,101⟩).err],[]):=by
   have hTl:T.length≤b.length-pos.toNat:=by rw [hT];simp;omega
   by_cases hi:0≤Yn 0 T
   ·rw [sel_pos (by simpa using hi),chk_of (by simp;omega),if_pos hi,wrap_i64 (n:=pos+Yn 0 T) (by omega) (by omega),wrap_i64 (by omega) (by omega)]
    rfl
   ·rw [sel_neg (by simp;omega),if_neg hi]
    by_cases h40:T.length=40
    ·rw [sel_pos (by simp [h40]),if_pos h40]
    ·rw [sel_neg (by simp;omega),if_neg h40]
  by_cases hlong:40<R.length
  ·rw [sel_pos (by simp;omega),chk_of (by simp;omega)]
   have e1:Xn (Zm ((0:Nat):Int)) (Xg (Zm (40:Int)) R)=T:=by rw [hT];rfl
   rw [e1]
   rw [← hT]
   exact key
  ·rw [sel_neg (by simp;omega)]
   have e1:R=T:=by rw [hT,List.take_of_length_le (by omega)]
   rw [← hT,e1]
   exact key
 ·cases h
theorem w218:Walked Tryz.prog G 218 3 sp218:=by
 refine ⟨Tryz.f218,Tryz.func218,by decide +kernel,rfl,fun xs bl r h=> ?_⟩
 unfold sp218 at h
 split at h
 ·rename_i i l n s
  cases h
  refine Eq.trans (b:=(sel (!Yw i 4294967295) (some (Zz .i64 104,[])) (sel (!Yw n 4294967295) (some (Zz .i64 104,[])) (sel (!Yw l 255) (some (Zz .i64 104,[])) (sel (!Yw s 4294967295) (some (Zz .i64 104,[])) (sel (decide (i>Zj .i64 (n+s))) (some (Zz .i64 33,[])) (sel (decide (n>Zj .i64 (Kerb.tEnd i l+s))) (some (Zz .i64 32,[])) (some (Zz .i64 0,[]))))))):Option (AV×Blocks))) (by kernel_rfl) ?_
  unfold Kerb.stateErr
  cases h1:Yw i 4294967295
  ·rfl
  cases h2:Yw n 4294967295
  ·rfl
  cases h3:Yw l 255
  ·rfl
  cases h4:Yw s 4294967295
  ·rfl
  have b1:=Kerb.within_iff.1 h1
  have b2:=Kerb.within_iff.1 h2
  have b3:=Kerb.within_iff.1 h3
  have b4:=Kerb.within_iff.1 h4
  have he:Kerb.tEnd i l=i+300*(l+1):=by simp [Kerb.tEnd,h1,h3]
  simp only [Yz,sel_false,Xu,Bool.false_eq_true,if_false,he]
  rw [wrap_i64 (by omega) (by omega),wrap_i64 (by omega) (by omega)]
  by_cases h5:n+s<i
  ·rw [sel_pos (by simpa using h5),if_pos h5]
  rw [sel_neg (by simpa using h5),if_neg h5]
  by_cases h6:i+300*(l+1)+s<n
  ·rw [sel_pos (by simpa using h6),if_pos h6]
  rw [sel_neg (by simpa using h6),if_neg h6]
 ·cases h
theorem w235:Walked Tryz.prog G 235 3 sp235:=by
 refine ⟨Tryz.f235,Tryz.func235,by decide +kernel,rfl,fun xs bl r h=> ?_⟩
 unfold sp235 at h
 split at h
 ·rename_i b n k little
  obtain ⟨hpre,h2⟩:=chk_inv h;cases h2
  refine Eq.trans (b:=(Zq (loopM (fun (st:List AV)=>cBs st fun b r=>cInt .i64 r fun n r=>cInt .i64 r fun n_1 r=>cBool r fun b_1 r=>cBs r fun c r=>cInt .i64 r fun n_2 r=>cInt .i64 r fun n_3 r=>let t0:Int:=Zj .i64 (Zj .i64 (n_1-1)-n_3);let t1:UInt8:=UInt8.ofNat (Zm (Zj .u8 (Int.fdiv n (2 ^ min (Zm (Zj .i64 (8*n_3))) (Xv .i64)))));onNil r (sel (decide (n_3<n_2)) (sel (!b_1) (chk (decide (0≤Zj .i64 (8*n_3))) (chk (decide (0≤t0)&&decide (t0<(↑(Zx c):Int))&&Nat.beq (Zx c) 4&&true) (chk (Nat.blt (Zm t0) (Zx c)&&true&&true&&true&&true) (some (Sum.inl [Zh b,Zz .i64 n,Zz .i64 n_1,Zf b_1,Zh (List.set c (Zm t0) t1),Zz .i64 n_2,Zz .i64 (Zj .i64 (n_3+1))]))))) (chk (decide (0≤Zj .i64 (8*n_3))) (chk (decide (0≤n_3)&&decide (n_3<(↑(Zx c):Int))&&Nat.beq (Zx c) 4&&true) (chk (Nat.blt (Zm n_3) (Zx c)&&true&&true&&true&&true) (some (Sum.inl [Zh b,Zz .i64 n,Zz .i64 n_1,Zf b_1,Zh (List.set c (Zm n_3) t1),Zz .i64 n_2,Zz .i64 (Zj .i64 (n_3+1))])))))) (some (Sum.inr (Vx 0,[Zh b,Zz .i64 n,Zz .i64 n_1,Zf b_1,Zh c,Zz .i64 n_2,Zz .i64 n_3]))))) [Zh b,Zz .i64 n,Zz .i64 k,Zf little,Zh [(0:UInt8),(0:UInt8),(0:UInt8),(0:UInt8)],Zz .i64 k,Zz .i64 0]) fun (r:Ex×List AV)=>cBs (Yu r) fun b r_1=>cInt .i64 r_1 fun n r_2=>cInt .i64 r_2 fun n r_3=>cBool r_3 fun b_1 r_4=>cBs r_4 fun c r_5=>let t2:Nat:=Zx [Zh b,Zh (Xn (Zm (↑(0:Nat):Int)) (Xg (Zm n) c))];let t3:Nat:=Zx (Xq b (Xq (Xn (Zm (↑(0:Nat):Int)) (Xg (Zm n) c)) []));cInt .i64 r_5 fun n_1 r_6=>cInt .i64 r_6 fun n_2 r_7=>onNil r_7 (exK r.1 none fun (j:Nat)=>sel (Nat.beq j 0) (chk (decide ((↑(0:Nat):Int)≤n)&&decide (n≤(↑(Zx c):Int))&&Nat.beq (Zx c) 4) (Zq (chk (decide (t3≤140737488355328)&&decide (t2≤1000)) (some (Ym (Xq b (Xq (Xn (Zm (↑(0:Nat):Int)) (Xg (Zm n) c)) [])),[]))) (kO fun l=>some (Ym l,[])))) none):Option (AV×Blocks))) (by kernel_rfl) ?_
  delta kO
  try dsimp only [cStr,cBs,cBool,cU8,cInt,cSl,l63]
  simp only [Xw,decide_eq_true_eq] at hpre
  obtain ⟨hk,hb⟩:=hpre
  rcases hk with rfl | rfl | rfl<;>cases little
  ·refine loop_unroll 2 (Vx 0,[Zh b,Zz Zw n,Zz Zw 1,Zf false,Zh [Wx n 0,(0:UInt8),(0:UInt8),(0:UInt8)],Zz Zw 1,Zz Zw 1]) (by kernel_rfl) ?_
   simp only [A0]
   rw [sel_pos (Wm _),chk_of (by simp),chk_of (by simp;omega)]
   simp [Vf,Yd,Vd,Wp]
  ·refine loop_unroll 2 (Vx 0,[Zh b,Zz Zw n,Zz Zw 1,Zf true,Zh [Wx n 0,(0:UInt8),(0:UInt8),(0:UInt8)],Zz Zw 1,Zz Zw 1]) (by kernel_rfl) ?_
   simp only [A0]
   rw [sel_pos (Wm _),chk_of (by simp),chk_of (by simp;omega)]
   simp [Vf,Yd,Vd,Wp]
  ·refine loop_unroll 3 (Vx 0,[Zh b,Zz Zw n,Zz Zw 2,Zf false,Zh [Wx n 8,Wx n 0,(0:UInt8),(0:UInt8)],Zz Zw 2,Zz Zw 2]) (by kernel_rfl) ?_
   simp only [A0]
   rw [sel_pos (Wm _),chk_of (by simp),chk_of (by simp;omega)]
   simp [Vf,Yd,Vd,Wp]
  ·refine loop_unroll 3 (Vx 0,[Zh b,Zz Zw n,Zz Zw 2,Zf true,Zh [Wx n 0,Wx n 8,(0:UInt8),(0:UInt8)],Zz Zw 2,Zz Zw 2]) (by kernel_rfl) ?_
   simp only [A0]
   rw [sel_pos (Wm _),chk_of (by simp),chk_of (by simp;omega)]
   simp [Vf,Yd,Vd,Wp]
  ·refine loop_unroll 5 (Vx 0,[Zh b,Zz Zw n,Zz Zw 4,Zf false,Zh [Wx n 24,Wx n 16,Wx n 8,Wx n 0],Zz Zw 4,Zz Zw 4]) (by kernel_rfl) ?_
   simp only [A0]
   rw [sel_pos (Wm _),chk_of (by simp),chk_of (by simp;omega)]
   simp [Vf,Yd,Vd,Wp]
  ·refine loop_unroll 5 (Vx 0,[Zh b,Zz Zw n,Zz Zw 4,Zf true,Zh [Wx n 0,Wx n 8,Wx n 16,Wx n 24],Zz Zw 4,Zz Zw 4]) (by kernel_rfl) ?_
   simp only [A0]
   rw [sel_pos (Wm _),chk_of (by simp),chk_of (by simp;omega)]
   simp [Vf,Yd,Vd,Wp]
 ·cases h
theorem w244:Walked Tryz.prog G 244 3 sp244:=by
 refine ⟨Tryz.f244,Tryz.func244,by decide +kernel,rfl,fun xs bl r h=> ?_⟩
 unfold sp244 at h
 split at h
 ·rename_i b pos little
  obtain ⟨hpre,h2⟩:=chk_inv h;cases h2
  refine Eq.trans (b:=(Zq (chk (decide (Zx b≤4611686018427387904)&&true&&true) (some (Yv [Zz .i64 (Yb (Yx b pos 4 little)),Zz .i64 (Yf (Yx b pos 4 little)),Zz .i64 (Yk (Yx b pos 4 little))],[]))) fun (r:AV×Blocks)=>onNilB (Yu r) (Xb (Yj r) fun vs=>onCons vs fun x r=>Yq .i64 x fun n=>onCons r fun x r=>Yq .i64 x fun n_1=>onCons r fun x r=>Yq .i64 x fun n_2=>onNil r (some (Yv [Zz .i64 n,Zz .i64 n_1,Zz .i64 n_2],[]))):Option (AV×Blocks))) (by kernel_rfl) ?_
  simp only [A0]
  rw [chk_of (by rw [hpre];rfl)]
 ·cases h
theorem w246:Walked Tryz.prog G 246 3 sp246:=by
 refine ⟨Tryz.f246,Tryz.func246,by decide +kernel,rfl,fun xs bl r h=> ?_⟩
 unfold sp246 at h
 split at h
 ·rename_i s c
  cases h
  refine Eq.trans (b:=(some (Zz .i64 (Yn c s),[]):Option (AV×Blocks))) (by kernel_rfl) ?_
  rfl
 ·cases h
theorem w256:Walked Tryz.prog G 256 3 sp256:=by
 refine ⟨Tryz.f256,Tryz.func256,by decide +kernel,rfl,fun xs bl r h=> ?_⟩
 unfold sp256 at h
 split at h
 ·rename_i a b
  cases h
  refine Eq.trans (b:=(some (Zz .i64 (Kerb.cmpB a b),[]):Option (AV×Blocks))) (by kernel_rfl) ?_
  rfl
 ·cases h
theorem w10:Walked Tryz.prog G 10 4 sp10:=by
 refine ⟨Tryz.f10,Tryz.func10,by decide +kernel,rfl,fun xs bl r h=> ?_⟩
 unfold sp10 at h
 split at h
 ·rename_i lf xp bd
  cases h
  refine Eq.trans (b:=(Zq (loopM (fun (st:List AV)=>cU8 st fun b r=>cU8 r fun b_1 r=>cU8 r fun b_2 r=>cStr r fun b_3 r=>cSl 9 r fun b_4 r=>cStr r fun b_5 r=>onCons r fun x r=>AV.onOwnL x fun y=>cSl 3 r fun b_6 r=>cInt .i64 r fun n r=>onNil r (sel (decide (n<(↑(Zx b_6):Int))) (chk (decide (0≤n)&&decide (n<(↑(Zx b_6):Int))&&true) (AV.onAgg (Xd b_6 (Zm n) Vk) fun cs=>cStr cs fun b_7 r=>cStr r fun b_8 r=>cStr r fun b_9 r=>onNil r (chk (decide (0≤n)&&decide (n<(↑(Zx b_6):Int))&&true) (AV.onAgg (Xd b_6 (Zm n) Vk) fun cs=>cStr cs fun b_10 r=>cStr r fun b_11 r=>cStr r fun b_12 r=>onNil r (Zq (chk (decide (0≤n)&&decide (n≤1000)) (some (Zz .u64 (Xz n),[]))) (kI .u64 fun n_1=>Zq (sel (Xp (Zj .i64 (↑(Xk b_2):Int)) 16==n) (some [Wu b,Wu b_1,Wu b_2,Zy b_3,Vy 9 b_4,Zy b_5,AV.ownL y,Vy 3 b_6,Zz .i64 n,Zy b_7,Zy b_11,Zz .u64 n_1,Zz .i64 (Zj .i64 (3+n)),Zz .i64 0,Zz .i64 (Zj .i64 (↑(Xk b):Int)),Zz .i64 (Zj .i64 (1+Xp (Zj .i64 (Int.tdiv (Zj .i64 (↑(Xk b_2):Int)) 16)) 3)),Zz .i64 0,Zz .i64 0]) (some [Wu b,Wu b_1,Wu b_2,Zy b_3,Vy 9 b_4,Zy b_5,AV.ownL y,Vy 3 b_6,Zz .i64 n,Zy b_7,Zy b_11,Zz .u64 n_1,Zz .i64 (Zj .i64 (3+n)),Zz .i64 0,Zz .i64 (Zj .i64 (↑(Xk b):Int)),Zz .i64 0,Zz .i64 0,Zz .i64 0])) fun l=>cU8 l fun b r=>cU8 r fun b_13 r=>cU8 r fun b_14 r=>cStr r fun b_15 r=>cSl 9 r fun b_16 r=>cStr r fun b_17 r=>onCons r fun x r=>AV.onOwnL x fun y=>cSl 3 r fun b_18 r=>cInt .i64 r fun n r=>cStr r fun b_19 r=>cStr r fun b_20 r=>cInt .u64 r fun n_2 r=>cInt .i64 r fun n_3 r=>cInt .i64 r fun n_4 r=>cInt .i64 r fun n_5 r=>cInt .i64 r fun n_6 r=>cInt .i64 r fun n_7 r=>cInt .i64 r fun n_8 r=>let t0:List AV:=[Zz .i64 n_5,Zz .i64 n_6,Zz .i64 n_7,Zz .i64 n_8];onNil r (Zq (sel (Xp (Zj .i64 (↑(Xk b_14):Int)) 16==Zj .i64 (8+n)) (some (Wu b::Wu b_13::Wu b_14::Zy b_15::Vy 9 b_16::Zy b_17::AV.ownL y::Vy 3 b_18::Zz .i64 n::Zy b_19::Zy b_20::Zz .u64 n_2::Zz .i64 n_3::Zz .i64 (Zj .i64 (1000+Zj .i64 (Zj .i64 (↑(Xk b_13):Int)*100)))::t0)) (some (Wu b::Wu b_13::Wu b_14::Zy b_15::Vy 9 b_16::Zy b_17::AV.ownL y::Vy 3 b_18::Zz .i64 n::Zy b_19::Zy b_20::Zz .u64 n_2::Zz .i64 n_3::Zz .i64 n_4::t0))) fun l=>cU8 l fun b r=>cU8 r fun b_21 r=>cU8 r fun b_22 r=>cStr r fun b_23 r=>cSl 9 r fun b_24 r=>cStr r fun b_25 r=>onCons r fun x r=>AV.onOwnL x fun y=>cSl 3 r fun b_26 r=>cInt .i64 r fun n r=>cStr r fun b_27 r=>cStr r fun b_28 r=>cInt .u64 r fun n_9 r=>cInt .i64 r fun n_10 r=>cInt .i64 r fun n_11 r=>cInt .i64 r fun n_12 r=>cInt .i64 r fun n_13 r=>cInt .i64 r fun n_14 r=>cInt .i64 r fun n_15 r=>let t1:List AV:=[Zn [Zy b_27,Zy b_28,Zz .u64 n_9,Zz .i64 n_10,Zz .i64 n_11,Zz .i64 n_12,Zz .i64 n_13,Zz .i64 n_14,Zz .i64 n_15]];onNil r (chk (room (Zx y+Zx t1) (nat_lit 88)) (some (Sum.inl [Wu b,Wu b_21,Wu b_22,Zy b_23,Vy 9 b_24,Zy b_25,AV.ownL (y++t1),Vy 3 b_26,Zz .i64 (Zj .i64 (n+1))])))))))))) (some (Sum.inr (Vx 0,[Wu b,Wu b_1,Wu b_2,Zy b_3,Vy 9 b_4,Zy b_5,AV.ownL y,Vy 3 b_6,Zz .i64 n]))))) [Wu lf,Wu xp,Wu bd,Zy [],Vy 9 [],Zy [(65:UInt8),(84:UInt8),(72:UInt8)],AV.ownL [],Vy 3 [Zn [Zy (Ww (Zu 0)),Zy (Wv (Zu 0)),Zy (Wy (Zu 0))],Zn [Zy (Ww (Zu 1)),Zy (Wv (Zu 1)),Zy (Wy (Zu 1))],Zn [Zy (Ww (Zu 2)),Zy (Wv (Zu 2)),Zy (Wy (Zu 2))],Zn [Zy (Ww (Zv 2)),Zy (Wv (Zv 2)),Zy (Wy (Zv 2))],Zn [Zy (Ww (Zv 0)),Zy (Wv (Zv 0)),Zy (Wy (Zv 0))],Zn [Zy (Ww (Zv 1)),Zy (Wv (Zv 1)),Zy (Wy (Zv 1))]],Zz .i64 0]) fun (r:Ex×List AV)=>cU8 (Yu r) fun b r_1=>cU8 r_1 fun b r_2=>cU8 r_2 fun b r_3=>cStr r_3 fun b r_4=>cSl 9 r_4 fun b_1 r_5=>cStr r_5 fun b_2 r_6=>onCons r_6 fun x r_7=>AV.onOwnL x fun y=>cSl 3 r_7 fun b_3 r_8=>cInt .i64 r_8 fun n r_9=>onNil r_9 (exK r.1 (some (Zn [Zy b,Vy 9 b_1],[])) fun (j:Nat)=>sel (Nat.beq j 0) (some (Zn [Zy b_2,Vy 9 y],[])) none):Option (AV×Blocks))) (by kernel_rfl) ?_
  delta kI
  try dsimp only [cStr,cBs,cBool,cU8,cInt,cSl,l63]
  have b0:=Kerb.u8i_bd lf
  have b1:=Kerb.u8i_bd xp
  have b2:=Kerb.u8i_bd bd
  have e0:=Kerb.wrap_u8i
  have e1:Xp (Yy bd) 16=Yy bd % 16:=Int.tmod_eq_emod_of_nonneg b2.1
  have e2:Zj .i64 (1000+Zj .i64 (Yy xp*100))=1000+Yy xp*100:=by rw [wrap_i64 (n:=Yy xp*100) (by omega) (by omega),wrap_i64 (by omega) (by omega)]
  have e3:Zj .i64 (1+Xp (Zj .i64 (Int.tdiv (Yy bd) 16)) 3)=1+Yy bd / 16 % 3:=by
   rw [Int.tdiv_eq_ediv_of_nonneg b2.1,wrap_i64 (n:=Yy bd / 16) (by omega) (by omega),Int.tmod_eq_emod_of_nonneg (by omega),wrap_i64 (by omega) (by omega)]
  refine loop_rounds (fun i:Nat=>[Wu lf,Wu xp,Wu bd,Zy [],Vy 9 [],Zy [65,84,72],AV.ownL (((Kerb.simpleDb lf xp bd).entries.take i).map Zg),Vy 3 [Zn [Zy (Zu 0).name,Zy (Zu 0).inst,Zy (Zu 0).realm],Zn [Zy (Zu 1).name,Zy (Zu 1).inst,Zy (Zu 1).realm],Zn [Zy (Zu 2).name,Zy (Zu 2).inst,Zy (Zu 2).realm],Zn [Zy (Zv 2).name,Zy (Zv 2).inst,Zy (Zv 2).realm],Zn [Zy (Zv 0).name,Zy (Zv 0).inst,Zy (Zv 0).realm],Zn [Zy (Zv 1).name,Zy (Zv 1).inst,Zy (Zv 1).realm]],Zz Zw (i:Int)]) (fun i=>i≤6) (fun i=>6-i)
   (fun r=>r=(Vx 0,[Wu lf,Wu xp,Wu bd,Zy [],Vy 9 [],Zy [65,84,72],AV.ownL ((Kerb.simpleDb lf xp bd).entries.map Zg),Vy 3 [Zn [Zy (Zu 0).name,Zy (Zu 0).inst,Zy (Zu 0).realm],Zn [Zy (Zu 1).name,Zy (Zu 1).inst,Zy (Zu 1).realm],Zn [Zy (Zu 2).name,Zy (Zu 2).inst,Zy (Zu 2).realm],Zn [Zy (Zv 2).name,Zy (Zv 2).inst,Zy (Zv 2).realm],Zn [Zy (Zv 0).name,Zy (Zv 0).inst,Zy (Zv 0).realm],Zn [Zy (Zv 1).name,Zy (Zv 1).inst,Zy (Zv 1).realm]],Zz Zw 6])) 0 (by decide) rfl ?_ ?_
  ·intro i hi
   have hc:i=0∨i=1∨i=2∨i=3∨i=4∨i=5∨i=6:=by omega
   rcases hc with rfl | rfl | rfl | rfl | rfl | rfl | rfl
   ·have g:Xd [Zn [Zy (Zu 0).name,Zy (Zu 0).inst,Zy (Zu 0).realm],Zn [Zy (Zu 1).name,Zy (Zu 1).inst,Zy (Zu 1).realm],Zn [Zy (Zu 2).name,Zy (Zu 2).inst,Zy (Zu 2).realm],Zn [Zy (Zv 2).name,Zy (Zv 2).inst,Zy (Zv 2).realm],Zn [Zy (Zv 0).name,Zy (Zv 0).inst,Zy (Zv 0).realm],Zn [Zy (Zv 1).name,Zy (Zv 1).inst,Zy (Zv 1).realm]] (Zm ((0:Nat):Int)) Vk=Zn [Zy (Zu 0).name,Zy (Zu 0).inst,Zy (Zu 0).realm]:=rfl
    have k0:decide (((0:Nat):Int)<((Zx [Zn [Zy (Zu 0).name,Zy (Zu 0).inst,Zy (Zu 0).realm],Zn [Zy (Zu 1).name,Zy (Zu 1).inst,Zy (Zu 1).realm],Zn [Zy (Zu 2).name,Zy (Zu 2).inst,Zy (Zu 2).realm],Zn [Zy (Zv 2).name,Zy (Zv 2).inst,Zy (Zv 2).realm],Zn [Zy (Zv 0).name,Zy (Zv 0).inst,Zy (Zv 0).realm],Zn [Zy (Zv 1).name,Zy (Zv 1).inst,Zy (Zv 1).realm]]:Nat):Int))=true:=rfl
    have k1:decide ((0:Int)≤((0:Nat):Int))=true:=rfl
    have k2:decide (((0:Nat):Int)≤1000)=true:=rfl
    have k3:Zj .i64 (3+((0:Nat):Int))=3+((0:Nat):Int):=rfl
    have k4:Zj .i64 (8+((0:Nat):Int))=8+((0:Nat):Int):=rfl
    simp only [g,k0,k1,k2,k3,k4,e0,e1,e2,e3,Xu,↓A0,A0]
    by_cases h1:Yy bd % 16=((0:Nat):Int)
    all_goals by_cases h2:Yy bd % 16=8+((0:Nat):Int)
    ·have hE:Zg (Zd ((0:Nat):Int) (Zu 0) lf xp bd)=Zn [Zy (Zu 0).name,Zy (Zu 0).inst,Zz Yp (Xz ((0:Nat):Int)),Zz Zw (3+((0:Nat):Int)),Zz Zw (1000+Yy xp*100),Zz Zw (Yy lf),Zz Zw (1+Yy bd / 16 % 3),Zz Zw 0,Zz Zw 0]:=by
      unfold Zg Zd
      dsimp only
      rw [if_pos h2,if_pos h1]
     rw [sel_pos (by simpa using h1),sel_pos (by simpa using h2),chk_of (by rfl),← hE]
     exact ⟨_,rfl,1,rfl,by decide,by decide⟩
    ·have hE:Zg (Zd ((0:Nat):Int) (Zu 0) lf xp bd)=Zn [Zy (Zu 0).name,Zy (Zu 0).inst,Zz Yp (Xz ((0:Nat):Int)),Zz Zw (3+((0:Nat):Int)),Zz Zw (0),Zz Zw (Yy lf),Zz Zw (1+Yy bd / 16 % 3),Zz Zw 0,Zz Zw 0]:=by
      unfold Zg Zd
      dsimp only
      rw [if_neg h2,if_pos h1]
     rw [sel_pos (by simpa using h1),sel_neg (by simpa using h2),chk_of (by rfl),← hE]
     exact ⟨_,rfl,1,rfl,by decide,by decide⟩
    ·have hE:Zg (Zd ((0:Nat):Int) (Zu 0) lf xp bd)=Zn [Zy (Zu 0).name,Zy (Zu 0).inst,Zz Yp (Xz ((0:Nat):Int)),Zz Zw (3+((0:Nat):Int)),Zz Zw (1000+Yy xp*100),Zz Zw (Yy lf),Zz Zw (0),Zz Zw 0,Zz Zw 0]:=by
      unfold Zg Zd
      dsimp only
      rw [if_pos h2,if_neg h1]
     rw [sel_neg (by simpa using h1),sel_pos (by simpa using h2),chk_of (by rfl),← hE]
     exact ⟨_,rfl,1,rfl,by decide,by decide⟩
    ·have hE:Zg (Zd ((0:Nat):Int) (Zu 0) lf xp bd)=Zn [Zy (Zu 0).name,Zy (Zu 0).inst,Zz Yp (Xz ((0:Nat):Int)),Zz Zw (3+((0:Nat):Int)),Zz Zw (0),Zz Zw (Yy lf),Zz Zw (0),Zz Zw 0,Zz Zw 0]:=by
      unfold Zg Zd
      dsimp only
      rw [if_neg h2,if_neg h1]
     rw [sel_neg (by simpa using h1),sel_neg (by simpa using h2),chk_of (by rfl),← hE]
     exact ⟨_,rfl,1,rfl,by decide,by decide⟩
   ·have g:Xd [Zn [Zy (Zu 0).name,Zy (Zu 0).inst,Zy (Zu 0).realm],Zn [Zy (Zu 1).name,Zy (Zu 1).inst,Zy (Zu 1).realm],Zn [Zy (Zu 2).name,Zy (Zu 2).inst,Zy (Zu 2).realm],Zn [Zy (Zv 2).name,Zy (Zv 2).inst,Zy (Zv 2).realm],Zn [Zy (Zv 0).name,Zy (Zv 0).inst,Zy (Zv 0).realm],Zn [Zy (Zv 1).name,Zy (Zv 1).inst,Zy (Zv 1).realm]] (Zm ((1:Nat):Int)) Vk=Zn [Zy (Zu 1).name,Zy (Zu 1).inst,Zy (Zu 1).realm]:=rfl
    have k0:decide (((1:Nat):Int)<((Zx [Zn [Zy (Zu 0).name,Zy (Zu 0).inst,Zy (Zu 0).realm],Zn [Zy (Zu 1).name,Zy (Zu 1).inst,Zy (Zu 1).realm],Zn [Zy (Zu 2).name,Zy (Zu 2).inst,Zy (Zu 2).realm],Zn [Zy (Zv 2).name,Zy (Zv 2).inst,Zy (Zv 2).realm],Zn [Zy (Zv 0).name,Zy (Zv 0).inst,Zy (Zv 0).realm],Zn [Zy (Zv 1).name,Zy (Zv 1).inst,Zy (Zv 1).realm]]:Nat):Int))=true:=rfl
    have k1:decide ((0:Int)≤((1:Nat):Int))=true:=rfl
    have k2:decide (((1:Nat):Int)≤1000)=true:=rfl
    have k3:Zj .i64 (3+((1:Nat):Int))=3+((1:Nat):Int):=rfl
    have k4:Zj .i64 (8+((1:Nat):Int))=8+((1:Nat):Int):=rfl
    simp only [g,k0,k1,k2,k3,k4,e0,e1,e2,e3,Xu,↓A0,A0]
    by_cases h1:Yy bd % 16=((1:Nat):Int)
    all_goals by_cases h2:Yy bd % 16=8+((1:Nat):Int)
    ·have hE:Zg (Zd ((1:Nat):Int) (Zu 1) lf xp bd)=Zn [Zy (Zu 1).name,Zy (Zu 1).inst,Zz Yp (Xz ((1:Nat):Int)),Zz Zw (3+((1:Nat):Int)),Zz Zw (1000+Yy xp*100),Zz Zw (Yy lf),Zz Zw (1+Yy bd / 16 % 3),Zz Zw 0,Zz Zw 0]:=by
      unfold Zg Zd
      dsimp only
      rw [if_pos h2,if_pos h1]
     rw [sel_pos (by simpa using h1),sel_pos (by simpa using h2),chk_of (by rfl),← hE]
     exact ⟨_,rfl,2,rfl,by decide,by decide⟩
    ·have hE:Zg (Zd ((1:Nat):Int) (Zu 1) lf xp bd)=Zn [Zy (Zu 1).name,Zy (Zu 1).inst,Zz Yp (Xz ((1:Nat):Int)),Zz Zw (3+((1:Nat):Int)),Zz Zw (0),Zz Zw (Yy lf),Zz Zw (1+Yy bd / 16 % 3),Zz Zw 0,Zz Zw 0]:=by
      unfold Zg Zd
      dsimp only
      rw [if_neg h2,if_pos h1]
     rw [sel_pos (by simpa using h1),sel_neg (by simpa using h2),chk_of (by rfl),← hE]
     exact ⟨_,rfl,2,rfl,by decide,by decide⟩
    ·have hE:Zg (Zd ((1:Nat):Int) (Zu 1) lf xp bd)=Zn [Zy (Zu 1).name,Zy (Zu 1).inst,Zz Yp (Xz ((1:Nat):Int)),Zz Zw (3+((1:Nat):Int)),Zz Zw (1000+Yy xp*100),Zz Zw (Yy lf),Zz Zw (0),Zz Zw 0,Zz Zw 0]:=by
      unfold Zg Zd
      dsimp only
      rw [if_pos h2,if_neg h1]
     rw [sel_neg (by simpa using h1),sel_pos (by simpa using h2),chk_of (by rfl),← hE]
     exact ⟨_,rfl,2,rfl,by decide,by decide⟩
    ·have hE:Zg (Zd ((1:Nat):Int) (Zu 1) lf xp bd)=Zn [Zy (Zu 1).name,Zy (Zu 1).inst,Zz Yp (Xz ((1:Nat):Int)),Zz Zw (3+((1:Nat):Int)),Zz Zw (0),Zz Zw (Yy lf),Zz Zw (0),Zz Zw 0,Zz Zw 0]:=by
      unfold Zg Zd
      dsimp only
      rw [if_neg h2,if_neg h1]
     rw [sel_neg (by simpa using h1),sel_neg (by simpa using h2),chk_of (by rfl),← hE]
     exact ⟨_,rfl,2,rfl,by decide,by decide⟩
   ·have g:Xd [Zn [Zy (Zu 0).name,Zy (Zu 0).inst,Zy (Zu 0).realm],Zn [Zy (Zu 1).name,Zy (Zu 1).inst,Zy (Zu 1).realm],Zn [Zy (Zu 2).name,Zy (Zu 2).inst,Zy (Zu 2).realm],Zn [Zy (Zv 2).name,Zy (Zv 2).inst,Zy (Zv 2).realm],Zn [Zy (Zv 0).name,Zy (Zv 0).inst,Zy (Zv 0).realm],Zn [Zy (Zv 1).name,Zy (Zv 1).inst,Zy (Zv 1).realm]] (Zm ((2:Nat):Int)) Vk=Zn [Zy (Zu 2).name,Zy (Zu 2).inst,Zy (Zu 2).realm]:=rfl
    have k0:decide (((2:Nat):Int)<((Zx [Zn [Zy (Zu 0).name,Zy (Zu 0).inst,Zy (Zu 0).realm],Zn [Zy (Zu 1).name,Zy (Zu 1).inst,Zy (Zu 1).realm],Zn [Zy (Zu 2).name,Zy (Zu 2).inst,Zy (Zu 2).realm],Zn [Zy (Zv 2).name,Zy (Zv 2).inst,Zy (Zv 2).realm],Zn [Zy (Zv 0).name,Zy (Zv 0).inst,Zy (Zv 0).realm],Zn [Zy (Zv 1).name,Zy (Zv 1).inst,Zy (Zv 1).realm]]:Nat):Int))=true:=rfl
    have k1:decide ((0:Int)≤((2:Nat):Int))=true:=rfl
    have k2:decide (((2:Nat):Int)≤1000)=true:=rfl
    have k3:Zj .i64 (3+((2:Nat):Int))=3+((2:Nat):Int):=rfl
    have k4:Zj .i64 (8+((2:Nat):Int))=8+((2:Nat):Int):=rfl
    simp only [g,k0,k1,k2,k3,k4,e0,e1,e2,e3,Xu,↓A0,A0]
    by_cases h1:Yy bd % 16=((2:Nat):Int)
    all_goals by_cases h2:Yy bd % 16=8+((2:Nat):Int)
    ·have hE:Zg (Zd ((2:Nat):Int) (Zu 2) lf xp bd)=Zn [Zy (Zu 2).name,Zy (Zu 2).inst,Zz Yp (Xz ((2:Nat):Int)),Zz Zw (3+((2:Nat):Int)),Zz Zw (1000+Yy xp*100),Zz Zw (Yy lf),Zz Zw (1+Yy bd / 16 % 3),Zz Zw 0,Zz Zw 0]:=by
      unfold Zg Zd
      dsimp only
      rw [if_pos h2,if_pos h1]
     rw [sel_pos (by simpa using h1),sel_pos (by simpa using h2),chk_of (by rfl),← hE]
     exact ⟨_,rfl,3,rfl,by decide,by decide⟩
    ·have hE:Zg (Zd ((2:Nat):Int) (Zu 2) lf xp bd)=Zn [Zy (Zu 2).name,Zy (Zu 2).inst,Zz Yp (Xz ((2:Nat):Int)),Zz Zw (3+((2:Nat):Int)),Zz Zw (0),Zz Zw (Yy lf),Zz Zw (1+Yy bd / 16 % 3),Zz Zw 0,Zz Zw 0]:=by
      unfold Zg Zd
      dsimp only
      rw [if_neg h2,if_pos h1]
     rw [sel_pos (by simpa using h1),sel_neg (by simpa using h2),chk_of (by rfl),← hE]
     exact ⟨_,rfl,3,rfl,by decide,by decide⟩
    ·have hE:Zg (Zd ((2:Nat):Int) (Zu 2) lf xp bd)=Zn [Zy (Zu 2).name,Zy (Zu 2).inst,Zz Yp (Xz ((2:Nat):Int)),Zz Zw (3+((2:Nat):Int)),Zz Zw (1000+Yy xp*100),Zz Zw (Yy lf),Zz Zw (0),Zz Zw 0,Zz Zw 0]:=by
      unfold Zg Zd
      dsimp only
      rw [if_pos h2,if_neg h1]
     rw [sel_neg (by simpa using h1),sel_pos (by simpa using h2),chk_of (by rfl),← hE]
     exact ⟨_,rfl,3,rfl,by decide,by decide⟩
    ·have hE:Zg (Zd ((2:Nat):Int) (Zu 2) lf xp bd)=Zn [Zy (Zu 2).name,Zy (Zu 2).inst,Zz Yp (Xz ((2:Nat):Int)),Zz Zw (3+((2:Nat):Int)),Zz Zw (0),Zz Zw (Yy lf),Zz Zw (0),Zz Zw 0,Zz Zw 0]:=by
      unfold Zg Zd
      dsimp only
      rw [if_neg h2,if_neg h1]
     rw [sel_neg (by simpa using h1),sel_neg (by simpa using h2),chk_of (by rfl),← hE]
     exact ⟨_,rfl,3,rfl,by decide,by decide⟩
   ·have g:Xd [Zn [Zy (Zu 0).name,Zy (Zu 0).inst,Zy (Zu 0).realm],Zn [Zy (Zu 1).name,Zy (Zu 1).inst,Zy (Zu 1).realm],Zn [Zy (Zu 2).name,Zy (Zu 2).inst,Zy (Zu 2).realm],Zn [Zy (Zv 2).name,Zy (Zv 2).inst,Zy (Zv 2).realm],Zn [Zy (Zv 0).name,Zy (Zv 0).inst,Zy (Zv 0).realm],Zn [Zy (Zv 1).name,Zy (Zv 1).inst,Zy (Zv 1).realm]] (Zm ((3:Nat):Int)) Vk=Zn [Zy (Zv 2).name,Zy (Zv 2).inst,Zy (Zv 2).realm]:=rfl
    have k0:decide (((3:Nat):Int)<((Zx [Zn [Zy (Zu 0).name,Zy (Zu 0).inst,Zy (Zu 0).realm],Zn [Zy (Zu 1).name,Zy (Zu 1).inst,Zy (Zu 1).realm],Zn [Zy (Zu 2).name,Zy (Zu 2).inst,Zy (Zu 2).realm],Zn [Zy (Zv 2).name,Zy (Zv 2).inst,Zy (Zv 2).realm],Zn [Zy (Zv 0).name,Zy (Zv 0).inst,Zy (Zv 0).realm],Zn [Zy (Zv 1).name,Zy (Zv 1).inst,Zy (Zv 1).realm]]:Nat):Int))=true:=rfl
    have k1:decide ((0:Int)≤((3:Nat):Int))=true:=rfl
    have k2:decide (((3:Nat):Int)≤1000)=true:=rfl
    have k3:Zj .i64 (3+((3:Nat):Int))=3+((3:Nat):Int):=rfl
    have k4:Zj .i64 (8+((3:Nat):Int))=8+((3:Nat):Int):=rfl
    simp only [g,k0,k1,k2,k3,k4,e0,e1,e2,e3,Xu,↓A0,A0]
    by_cases h1:Yy bd % 16=((3:Nat):Int)
    all_goals by_cases h2:Yy bd % 16=8+((3:Nat):Int)
    ·have hE:Zg (Zd ((3:Nat):Int) (Zv 2) lf xp bd)=Zn [Zy (Zv 2).name,Zy (Zv 2).inst,Zz Yp (Xz ((3:Nat):Int)),Zz Zw (3+((3:Nat):Int)),Zz Zw (1000+Yy xp*100),Zz Zw (Yy lf),Zz Zw (1+Yy bd / 16 % 3),Zz Zw 0,Zz Zw 0]:=by
      unfold Zg Zd
      dsimp only
      rw [if_pos h2,if_pos h1]
     rw [sel_pos (by simpa using h1),sel_pos (by simpa using h2),chk_of (by rfl),← hE]
     exact ⟨_,rfl,4,rfl,by decide,by decide⟩
    ·have hE:Zg (Zd ((3:Nat):Int) (Zv 2) lf xp bd)=Zn [Zy (Zv 2).name,Zy (Zv 2).inst,Zz Yp (Xz ((3:Nat):Int)),Zz Zw (3+((3:Nat):Int)),Zz Zw (0),Zz Zw (Yy lf),Zz Zw (1+Yy bd / 16 % 3),Zz Zw 0,Zz Zw 0]:=by
      unfold Zg Zd
      dsimp only
      rw [if_neg h2,if_pos h1]
     rw [sel_pos (by simpa using h1),sel_neg (by simpa using h2),chk_of (by rfl),← hE]
     exact ⟨_,rfl,4,rfl,by decide,by decide⟩
    ·have hE:Zg (Zd ((3:Nat):Int) (Zv 2) lf xp bd)=Zn [Zy (Zv 2).name,Zy (Zv 2).inst,Zz Yp (Xz ((3:Nat):Int)),Zz Zw (3+((3:Nat):Int)),Zz Zw (1000+Yy xp*100),Zz Zw (Yy lf),Zz Zw (0),Zz Zw 0,Zz Zw 0]:=by
      unfold Zg Zd
      dsimp only
      rw [if_pos h2,if_neg h1]
     rw [sel_neg (by simpa using h1),sel_pos (by simpa using h2),chk_of (by rfl),← hE]
     exact ⟨_,rfl,4,rfl,by decide,by decide⟩
    ·have hE:Zg (Zd ((3:Nat):Int) (Zv 2) lf xp bd)=Zn [Zy (Zv 2).name,Zy (Zv 2).inst,Zz Yp (Xz ((3:Nat):Int)),Zz Zw (3+((3:Nat):Int)),Zz Zw (0),Zz Zw (Yy lf),Zz Zw (0),Zz Zw 0,Zz Zw 0]:=by
      unfold Zg Zd
      dsimp only
      rw [if_neg h2,if_neg h1]
     rw [sel_neg (by simpa using h1),sel_neg (by simpa using h2),chk_of (by rfl),← hE]
     exact ⟨_,rfl,4,rfl,by decide,by decide⟩
   ·have g:Xd [Zn [Zy (Zu 0).name,Zy (Zu 0).inst,Zy (Zu 0).realm],Zn [Zy (Zu 1).name,Zy (Zu 1).inst,Zy (Zu 1).realm],Zn [Zy (Zu 2).name,Zy (Zu 2).inst,Zy (Zu 2).realm],Zn [Zy (Zv 2).name,Zy (Zv 2).inst,Zy (Zv 2).realm],Zn [Zy (Zv 0).name,Zy (Zv 0).inst,Zy (Zv 0).realm],Zn [Zy (Zv 1).name,Zy (Zv 1).inst,Zy (Zv 1).realm]] (Zm ((4:Nat):Int)) Vk=Zn [Zy (Zv 0).name,Zy (Zv 0).inst,Zy (Zv 0).realm]:=rfl
    have k0:decide (((4:Nat):Int)<((Zx [Zn [Zy (Zu 0).name,Zy (Zu 0).inst,Zy (Zu 0).realm],Zn [Zy (Zu 1).name,Zy (Zu 1).inst,Zy (Zu 1).realm],Zn [Zy (Zu 2).name,Zy (Zu 2).inst,Zy (Zu 2).realm],Zn [Zy (Zv 2).name,Zy (Zv 2).inst,Zy (Zv 2).realm],Zn [Zy (Zv 0).name,Zy (Zv 0).inst,Zy (Zv 0).realm],Zn [Zy (Zv 1).name,Zy (Zv 1).inst,Zy (Zv 1).realm]]:Nat):Int))=true:=rfl
    have k1:decide ((0:Int)≤((4:Nat):Int))=true:=rfl
    have k2:decide (((4:Nat):Int)≤1000)=true:=rfl
    have k3:Zj .i64 (3+((4:Nat):Int))=3+((4:Nat):Int):=rfl
    have k4:Zj .i64 (8+((4:Nat):Int))=8+((4:Nat):Int):=rfl
    simp only [g,k0,k1,k2,k3,k4,e0,e1,e2,e3,Xu,↓A0,A0]
    by_cases h1:Yy bd % 16=((4:Nat):Int)
    all_goals by_cases h2:Yy bd % 16=8+((4:Nat):Int)
    ·have hE:Zg (Zd ((4:Nat):Int) (Zv 0) lf xp bd)=Zn [Zy (Zv 0).name,Zy (Zv 0).inst,Zz Yp (Xz ((4:Nat):Int)),Zz Zw (3+((4:Nat):Int)),Zz Zw (1000+Yy xp*100),Zz Zw (Yy lf),Zz Zw (1+Yy bd / 16 % 3),Zz Zw 0,Zz Zw 0]:=by
      unfold Zg Zd
      dsimp only
      rw [if_pos h2,if_pos h1]
     rw [sel_pos (by simpa using h1),sel_pos (by simpa using h2),chk_of (by rfl),← hE]
     exact ⟨_,rfl,5,rfl,by decide,by decide⟩
    ·have hE:Zg (Zd ((4:Nat):Int) (Zv 0) lf xp bd)=Zn [Zy (Zv 0).name,Zy (Zv 0).inst,Zz Yp (Xz ((4:Nat):Int)),Zz Zw (3+((4:Nat):Int)),Zz Zw (0),Zz Zw (Yy lf),Zz Zw (1+Yy bd / 16 % 3),Zz Zw 0,Zz Zw 0]:=by
      unfold Zg Zd
      dsimp only
      rw [if_neg h2,if_pos h1]
     rw [sel_pos (by simpa using h1),sel_neg (by simpa using h2),chk_of (by rfl),← hE]
     exact ⟨_,rfl,5,rfl,by decide,by decide⟩
    ·have hE:Zg (Zd ((4:Nat):Int) (Zv 0) lf xp bd)=Zn [Zy (Zv 0).name,Zy (Zv 0).inst,Zz Yp (Xz ((4:Nat):Int)),Zz Zw (3+((4:Nat):Int)),Zz Zw (1000+Yy xp*100),Zz Zw (Yy lf),Zz Zw (0),Zz Zw 0,Zz Zw 0]:=by
      unfold Zg Zd
      dsimp only
      rw [if_pos h2,if_neg h1]
     rw [sel_neg (by simpa using h1),sel_pos (by simpa using h2),chk_of (by rfl),← hE]
     exact ⟨_,rfl,5,rfl,by decide,by decide⟩
    ·have hE:Zg (Zd ((4:Nat):Int) (Zv 0) lf xp bd)=Zn [Zy (Zv 0).name,Zy (Zv 0).inst,Zz Yp (Xz ((4:Nat):Int)),Zz Zw (3+((4:Nat):Int)),Zz Zw (0),Zz Zw (Yy lf),Zz Zw (0),Zz Zw 0,Zz Zw 0]:=by
      unfold Zg Zd
      dsimp only
      rw [if_neg h2,if_neg h1]
     rw [sel_neg (by simpa using h1),sel_neg (by simpa using h2),chk_of (by rfl),← hE]
     exact ⟨_,rfl,5,rfl,by decide,by decide⟩
   ·have g:Xd [Zn [Zy (Zu 0).name,Zy (Zu 0).inst,Zy (Zu 0).realm],Zn [Zy (Zu 1).name,Zy (Zu 1).inst,Zy (Zu 1).realm],Zn [Zy (Zu 2).name,Zy (Zu 2).inst,Zy (Zu 2).realm],Zn [Zy (Zv 2).name,Zy (Zv 2).inst,Zy (Zv 2).realm],Zn [Zy (Zv 0).name,Zy (Zv 0).inst,Zy (Zv 0).realm],Zn [Zy (Zv 1).name,Zy (Zv 1).inst,Zy (Zv 1).realm]] (Zm ((5:Nat):Int)) Vk=Zn [Zy (Zv 1).name,Zy (Zv 1).inst,Zy (Zv 1).realm]:=rfl
    have k0:decide (((5:Nat):Int)<((Zx [Zn [Zy (Zu 0).name,Zy (Zu 0).inst,Zy (Zu 0).realm],Zn [Zy (Zu 1).name,Zy (Zu 1).inst,Zy (Zu 1).realm],Zn [Zy (Zu 2).name,Zy (Zu 2).inst,Zy (Zu 2).realm],Zn [Zy (Zv 2).name,Zy (Zv 2).inst,Zy (Zv 2).realm],Zn [Zy (Zv 0).name,Zy (Zv 0).inst,Zy (Zv 0).realm],Zn [Zy (Zv 1).name,Zy (Zv 1).inst,Zy (Zv 1).realm]]:Nat):Int))=true:=rfl
    have k1:decide ((0:Int)≤((5:Nat):Int))=true:=rfl
    have k2:decide (((5:Nat):Int)≤1000)=true:=rfl
    have k3:Zj .i64 (3+((5:Nat):Int))=3+((5:Nat):Int):=rfl
    have k4:Zj .i64 (8+((5:Nat):Int))=8+((5:Nat):Int):=rfl
    simp only [g,k0,k1,k2,k3,k4,e0,e1,e2,e3,Xu,↓A0,A0]
    by_cases h1:Yy bd % 16=((5:Nat):Int)
    all_goals by_cases h2:Yy bd % 16=8+((5:Nat):Int)
    ·have hE:Zg (Zd ((5:Nat):Int) (Zv 1) lf xp bd)=Zn [Zy (Zv 1).name,Zy (Zv 1).inst,Zz Yp (Xz ((5:Nat):Int)),Zz Zw (3+((5:Nat):Int)),Zz Zw (1000+Yy xp*100),Zz Zw (Yy lf),Zz Zw (1+Yy bd / 16 % 3),Zz Zw 0,Zz Zw 0]:=by
      unfold Zg Zd
      dsimp only
      rw [if_pos h2,if_pos h1]
     rw [sel_pos (by simpa using h1),sel_pos (by simpa using h2),chk_of (by rfl),← hE]
     exact ⟨_,rfl,6,rfl,by decide,by decide⟩
    ·have hE:Zg (Zd ((5:Nat):Int) (Zv 1) lf xp bd)=Zn [Zy (Zv 1).name,Zy (Zv 1).inst,Zz Yp (Xz ((5:Nat):Int)),Zz Zw (3+((5:Nat):Int)),Zz Zw (0),Zz Zw (Yy lf),Zz Zw (1+Yy bd / 16 % 3),Zz Zw 0,Zz Zw 0]:=by
      unfold Zg Zd
      dsimp only
      rw [if_neg h2,if_pos h1]
     rw [sel_pos (by simpa using h1),sel_neg (by simpa using h2),chk_of (by rfl),← hE]
     exact ⟨_,rfl,6,rfl,by decide,by decide⟩
    ·have hE:Zg (Zd ((5:Nat):Int) (Zv 1) lf xp bd)=Zn [Zy (Zv 1).name,Zy (Zv 1).inst,Zz Yp (Xz ((5:Nat):Int)),Zz Zw (3+((5:Nat):Int)),Zz Zw (1000+Yy xp*100),Zz Zw (Yy lf),Zz Zw (0),Zz Zw 0,Zz Zw 0]:=by
      unfold Zg Zd
      dsimp only
      rw [if_pos h2,if_neg h1]
     rw [sel_neg (by simpa using h1),sel_pos (by simpa using h2),chk_of (by rfl),← hE]
     exact ⟨_,rfl,6,rfl,by decide,by decide⟩
    ·have hE:Zg (Zd ((5:Nat):Int) (Zv 1) lf xp bd)=Zn [Zy (Zv 1).name,Zy (Zv 1).inst,Zz Yp (Xz ((5:Nat):Int)),Zz Zw (3+((5:Nat):Int)),Zz Zw (0),Zz Zw (Yy lf),Zz Zw (0),Zz Zw 0,Zz Zw 0]:=by
      unfold Zg Zd
      dsimp only
      rw [if_neg h2,if_neg h1]
     rw [sel_neg (by simpa using h1),sel_neg (by simpa using h2),chk_of (by rfl),← hE]
     exact ⟨_,rfl,6,rfl,by decide,by decide⟩
   ·exact ⟨_,rfl,rfl⟩
  ·rintro _ rfl
   rfl
 ·cases h
theorem w64:Walked Tryz.prog G 64 4 sp64:=by
 refine ⟨Tryz.f64,Tryz.func64,by decide +kernel,rfl,fun xs bl r h=> ?_⟩
 unfold sp64 at h
 split at h
 ·rename_i op ux uy uz kv rl tk sv ins bx
  obtain ⟨hpre,h2⟩:=chk_inv h;cases h2
  refine Eq.trans (b:=(Zq (sel (!(op==1||op==3)) (some [Zz .i64 op,Zy ux,Zy uy,Zy uz,Zz .i64 kv,Zy rl,Zh tk,Zy sv,Zy ins,Zh bx,Zf !op==2,Zz .i64 0]) (some [Zz .i64 op,Zy ux,Zy uy,Zy uz,Zz .i64 kv,Zy rl,Zh tk,Zy sv,Zy ins,Zh bx,Zf false,Zz .i64 0])) fun l=>cInt .i64 l fun n r=>cStr r fun b r=>cStr r fun b_1 r=>cStr r fun b_2 r=>cInt .i64 r fun n_1 r=>cStr r fun b_3 r=>cBs r fun b_4 r=>cStr r fun b_5 r=>cStr r fun b_6 r=>cBs r fun b_7 r=>cBool r fun b_8 r=>cInt .i64 r fun n_2 r=>let t1:Option (List AV):=some [Zz .i64 n,Zy b,Zy b_1,Zy b_2,Zz .i64 n_1,Zy b_3,Zh b_4,Zy b_5,Zy b_6,Zh b_7,Zf true,Zz .i64 n_2];let t0:Option (List AV):=sel (!(n==1||n==3)) (Zq (chk (l63 b_3) (some (Zf (Kerb.validRealm b_3),[]))) (kL fun b_9=>sel (!b_9) t1 (Zq (chk (l63 b_5) (some (Zf (Vv b_5),[]))) (kL fun b_10=>sel (!b_10) t1 (Zq (chk (l63 b_6) (some (Zf (Vu b_6),[]))) (kL fun b_11=>some [Zz .i64 n,Zy b,Zy b_1,Zy b_2,Zz .i64 n_1,Zy b_3,Zh b_4,Zy b_5,Zy b_6,Zh b_7,Zf !b_11,Zz .i64 n_2])))))) (some [Zz .i64 n,Zy b,Zy b_1,Zy b_2,Zz .i64 n_1,Zy b_3,Zh b_4,Zy b_5,Zy b_6,Zh b_7,Zf false,Zz .i64 n_2]);onNil r (sel b_8 (some (Yv [Zh [],Zz .i64 40],[])) (Zq (sel (n==1||n==3) (Zq (chk (l63 b&&l63 b_1&&l63 b_2) (some (Zf (Wz (Xj b b_1 b_2)),[]))) (kL fun b=>sel (!b) t1 t0)) t0) fun l=>cInt .i64 l fun n r=>cStr r fun b r=>cStr r fun b_9 r=>cStr r fun b_10 r=>cInt .i64 r fun n_3 r=>cStr r fun b_11 r=>cBs r fun b_12 r=>cStr r fun b_13 r=>cStr r fun b_14 r=>cBs r fun b_15 r=>cBool r fun b_16 r=>cInt .i64 r fun n_4 r=>onNil r (sel b_16 (some (Yv [Zh [],Zz .i64 103],[])) (Zq (sel (!(n==1||n==3)) (some [Zz .i64 n,Zy b,Zy b_9,Zy b_10,Zz .i64 n_3,Zy b_11,Zh b_12,Zy b_13,Zy b_14,Zh b_15,Zf !Yw n_3 255,Zz .i64 n_4]) (some [Zz .i64 n,Zy b,Zy b_9,Zy b_10,Zz .i64 n_3,Zy b_11,Zh b_12,Zy b_13,Zy b_14,Zh b_15,Zf false,Zz .i64 n_4])) fun l=>cInt .i64 l fun n r=>cStr r fun b r=>cStr r fun b_17 r=>cStr r fun b_18 r=>cInt .i64 r fun n_5 r=>cStr r fun b_19 r=>cBs r fun b_20 r=>cStr r fun b_21 r=>cStr r fun b_22 r=>cBs r fun b_23 r=>cBool r fun b_24 r=>cInt .i64 r fun n_6 r=>let t2:Option (List AV):=some [Zz .i64 n,Zy b,Zy b_17,Zy b_18,Zz .i64 n_5,Zy b_19,Zh b_20,Zy b_21,Zy b_22,Zh b_23,Zf (decide ((↑(Zx b_23):Int)>1012)),Zz .i64 n_6];onNil r (sel b_24 (some (Yv [Zh [],Zz .i64 104],[])) (Zq (sel (!(n==1||n==3)) (sel (decide ((↑(Zx b_20):Int)>255)) (some [Zz .i64 n,Zy b,Zy b_17,Zy b_18,Zz .i64 n_5,Zy b_19,Zh b_20,Zy b_21,Zy b_22,Zh b_23,Zf true,Zz .i64 n_6]) t2) t2) fun l=>cInt .i64 l fun n r=>cStr r fun b r=>cStr r fun b_25 r=>cStr r fun b_26 r=>cInt .i64 r fun n_7 r=>cStr r fun b_27 r=>cBs r fun b_28 r=>cStr r fun b_29 r=>cStr r fun b_30 r=>cBs r fun b_31 r=>cBool r fun b_32 r=>cInt .i64 r fun n_8 r=>let t3:Option (List AV):=some [Zz .i64 n,Zy b,Zy b_25,Zy b_26,Zz .i64 n_7,Zy b_27,Zh b_28,Zy b_29,Zy b_30,Zh b_31,Zf true,Zz .i64 n_8];let t4:Option (List AV):=sel (!(n==1||n==3)) (some [Zz .i64 n,Zy b,Zy b_25,Zy b_26,Zz .i64 n_7,Zy b_27,Zh b_28,Zy b_29,Zy b_30,Zh b_31,Zf !(b==[]&&(b_25==[]&&b_26==[])),Zz .i64 n_8]) (some [Zz .i64 n,Zy b,Zy b_25,Zy b_26,Zz .i64 n_7,Zy b_27,Zh b_28,Zy b_29,Zy b_30,Zh b_31,Zf false,Zz .i64 n_8]);onNil r (sel b_32 (some (Yv [Zh [],Zz .i64 105],[])) (Zq (sel (n==1||n==3) (sel (!n_7==0) t3 (sel (!b_27==[]) t3 (sel (decide ((↑(Zx b_28):Int)>0)) t3 (sel (!b_29==[]) t3 (sel (!b_30==[]) t3 t4))))) t4) fun l=>cInt .i64 l fun n r=>let t6:List UInt8:=Kerb.header 9 false++Yd n 1 false;let t5:Nat:=Zx t6;cStr r fun b r=>cStr r fun b_33 r=>cStr r fun b_34 r=>cInt .i64 r fun n_9 r=>cStr r fun b_35 r=>cBs r fun b_36 r=>cStr r fun b_37 r=>cStr r fun b_38 r=>cBs r fun b_39 r=>cBool r fun b_40 r=>cInt .i64 r fun n_10 r=>onNil r (sel b_40 (some (Yv [Zh [],Zz .i64 108],[])) (sel (n==1||n==3) (Zq (chk (decide (t5+Zx b+Zx b_33+Zx b_34≤70368744170000)) (some (Zh (Kerb.putPrin t6 (Xj b b_33 b_34)),[]))) (kB fun b=>Zq (chk (decide (Zx b≤70368744177664)) (some (Ym (b++Yd (↑(Zx b_39):Int) 2 false),[]))) (kO fun l=>chk (room (Zx l+Zx b_39) 1) (some (Yv [Zh (l++b_39),Zz .i64 0],[]))))) (Zq (chk (decide (t5≤70368744177664)) (some (Ym (t6++Yd n_9 1 false),[]))) (kO fun l=>Zq (chk (decide (Zx l+Zx b_35≤70368744177664)) (some (Zh (Yg l b_35),[]))) (kB fun b=>Zq (chk (decide (Zx b≤70368744177664)) (some (Ym (b++Yd (↑(Zx b_36):Int) 1 false),[]))) (kO fun l=>chk (room (Zx l+Zx b_36) 1) (Zq (chk (decide (Zx (l++b_36)+Zx b_37≤70368744177664)) (some (Zh (Yg (l++b_36) b_37),[]))) (kB fun b=>Zq (chk (decide (Zx b+Zx b_38≤70368744177664)) (some (Zh (Yg b b_38),[]))) (kB fun b=>Zq (chk (decide (Zx b≤70368744177664)) (some (Ym (b++Yd (↑(Zx b_39):Int) 2 false),[]))) (kO fun l=>chk (room (Zx l+Zx b_39) 1) (some (Yv [Zh (l++b_39),Zz .i64 0],[])))))))))))))))))))):Option (AV×Blocks))) (by kernel_rfl) ?_
  delta kB kO kL
  try dsimp only [cStr,cBs,cBool,cU8,cInt,cSl,l63]
  simp only [Xw,decide_eq_true_eq] at hpre
  have hl9:(Kerb.header 9 false).length=2:=rfl
  unfold Kerb.encodeKaRequest
  by_cases h13:op=1∨op=3
  ·have e1:(op==1||op==3)=true:=by simpa using h13
   have e2:(op==2)=false:=by simp;omega
   have e3:Kerb.kaOp op=true:=by simp [Kerb.kaOp];omega
   simp only [A0,e1,e2,e3,Yz,sel_true,sel_false,Bool.false_eq_true,if_false]
   rw [chk_of (by simp;omega)]
   cases h2:Wz ⟨ux,uy,uz⟩
   ·rfl
   rw [Yz,sel_false,if_neg (by simp)]
   by_cases h3:1012<bx.length
   ·rw [sel_pos (by simp;omega),if_pos h3]
   rw [sel_neg (by simp;omega),if_neg h3]
   by_cases h4:kv=0
   case neg=>rw [sel_pos (by simpa using h4),if_pos (.inl h4)]
   rw [sel_neg (by simp [h4])]
   by_cases h5:rl=[]
   case neg=>rw [sel_pos (by simpa using h5),if_pos (.inr (.inl h5))]
   rw [sel_neg (by simp [h5])]
   by_cases h6:tk=[]
   case neg=>rw [sel_pos (by have:=List.length_pos_iff.2 h6;simp;omega),if_pos (.inr (.inr (.inl h6)))]
   rw [sel_neg (by simp [h6])]
   by_cases h7:sv=[]
   case neg=>rw [sel_pos (by simpa using h7),if_pos (.inr (.inr (.inr (.inl h7))))]
   rw [sel_neg (by simp [h7])]
   by_cases h8:ins=[]
   case neg=>rw [sel_pos (by simpa using h8),if_pos (.inr (.inr (.inr (.inr h8))))]
   rw [sel_neg (by simp [h8]),if_neg (by simp [h4,h5,h6,h7,h8])]
   have l1:=Kerb.valid_len h2
   simp only at l1
   rw [chk_of (by simp [Zp,hl9];omega),chk_of (by simp [Zp,hl9,Zb];omega),chk_of (Xx (by simp [Zp,hl9,Zb];omega))]
   simp [Kerb.putBox,Kerb.kaHead]
  ·have e1:(op==1||op==3)=false:=by simpa using h13
   simp only [A0,e1,Wn,sel_true,sel_false]
   by_cases h2:op=2
   case neg =>
    have e3:Kerb.kaOp op=false:=by simp [Kerb.kaOp];omega
    rw [sel_pos (by simpa using h2),e3]
    rfl
   subst h2
   rw [sel_neg (by simp)]
   simp only [show Kerb.kaOp 2=true from rfl,Yz,Bool.false_eq_true,if_false,beq_self_eq_true,if_true]
   rw [chk_of (by simp;omega)]
   cases h2:Kerb.validRealm rl
   ·rfl
   rw [Yz,sel_false,chk_of (by simp;omega)]
   cases h3:Vv sv
   ·rfl
   rw [Yz,sel_false,chk_of (by simp;omega)]
   cases h4:Vu ins
   ·rfl
   rw [Yz,sel_false,if_neg (by simp)]
   cases h5:Yw kv 255
   ·rfl
   rw [Yz,sel_false,if_neg (by simp)]
   by_cases h6:255<tk.length
   ·rw [sel_pos (by simp;omega),if_pos (.inl h6)]
   rw [sel_neg (by simp;omega)]
   by_cases h7:1012<bx.length
   ·rw [sel_pos (by simp;omega),if_pos (.inr h7)]
   rw [sel_neg (by simp;omega),if_neg (by omega)]
   show sel (!(Kerb.Prin.isNo ⟨ux,uy,uz⟩)) _ _=_
   cases Kerb.Prin.isNo ⟨ux,uy,uz⟩
   ·rfl
   rw [Yz,sel_false,if_neg (by simp)]
   have l1:=Kerb.validRealm_len h2
   have l2:=Kerb.validName_len h3
   have l3:=Kerb.validInst_len h4
   rw [chk_of (by simp [Zp,hl9]),chk_of (by simp [Zp,hl9];omega),chk_of (by simp [Zp,hl9,Wq];omega),chk_of (Xx (by simp [Zp,hl9,Wq];omega)),chk_of (by simp [Zp,hl9,Wq];omega),chk_of (by simp [Zp,hl9,Wq];omega),chk_of (by simp [Zp,hl9,Wq];omega),chk_of (Xx (by simp [Zp,hl9,Wq];omega))]
   simp [Kerb.putBox,Kerb.kaHead,Kerb.putTick]
 ·cases h
theorem w70:Walked Tryz.prog G 70 4 sp70:=by
 refine ⟨Tryz.f70,Tryz.func70,by decide +kernel,rfl,fun xs bl r h=> ?_⟩
 unfold sp70 at h
 split at h
 ·rename_i B at_ li bad
  obtain ⟨hpre,h2⟩:=chk_inv h;cases h2
  show runFnH (G.env 70 4) G.rts (G.own 70) Tryz.f70 _ _ [0]=_
  refine Eq.trans (b:=(Zq (chk (decide (Zx B≤140737488355328)) (some (Yv [Zz .i64 (Yb (Yx B at_ 1 false)),Zz .i64 (Yf (Yx B at_ 1 false)),Zz .i64 (Yk (Yx B at_ 1 false))],[]))) fun (r:AV×Blocks)=>onNilB (Yu r) (Xb (Yj r) fun vs=>onCons vs fun x r=>Yq .i64 x fun n=>onCons r fun x r=>Yq .i64 x fun n_1=>onCons r fun x r=>Yq .i64 x fun n_2=>onNil r (some (Zz .i64 n,[[Zh B,Zz .i64 (bif bad || !n_2==0 then at_ else n_1),Zf li,Zf (bad || !n_2==0)]]))):Option (AV×Blocks))) (by kernel_rfl) ?_
  simp only [A0]
  rw [chk_of hpre]
 ·cases h
theorem w75:Walked Tryz.prog G 75 4 sp75:=by
 refine ⟨Tryz.f75,Tryz.func75,by decide +kernel,rfl,fun xs bl r h=> ?_⟩
 unfold sp75 at h
 split at h
 ·rename_i B at_ li bad
  obtain ⟨hpre,h2⟩:=chk_inv h;cases h2
  show runFnH (G.env 75 4) G.rts (G.own 75) Tryz.f75 _ _ [0]=_
  refine Eq.trans (b:=(Zq (chk (decide (Zx B≤140737488355328)) (some (Yv [Zz .i64 (Yb (Yx B at_ 2 li)),Zz .i64 (Yf (Yx B at_ 2 li)),Zz .i64 (Yk (Yx B at_ 2 li))],[]))) fun (r:AV×Blocks)=>onNilB (Yu r) (Xb (Yj r) fun vs=>onCons vs fun x r=>Yq .i64 x fun n=>onCons r fun x r=>Yq .i64 x fun n_1=>onCons r fun x r=>Yq .i64 x fun n_2=>onNil r (some (Zz .i64 n,[[Zh B,Zz .i64 (bif bad || !n_2==0 then at_ else n_1),Zf li,Zf (bad || !n_2==0)]]))):Option (AV×Blocks))) (by kernel_rfl) ?_
  simp only [A0]
  rw [chk_of hpre]
 ·cases h
theorem w80:Walked Tryz.prog G 80 4 sp80:=by
 refine ⟨Tryz.f80,Tryz.func80,by decide +kernel,rfl,fun xs bl r h=> ?_⟩
 unfold sp80 at h
 split at h
 ·rename_i b
  obtain ⟨hpre,h2⟩:=chk_inv h;cases h2
  refine Eq.trans (b:=(let t1:Option (AV×Blocks):=some (Yv [Zn [Zz .i64 0,Zz .u64 0,Zh []],Zz .i64 0,Zz .i64 100],[]);let t2:Int:=Zj .i64 (↑(BitVec.toNat (BitVec.ofInt (Xv .i64) (Zj .i64 (Zj .i64 (↑(Xk (Xd b (Zm 10) (0:UInt8))):Int)*2 ^ min (Zm 8) (Xv .i64))) ||| BitVec.ofInt (Xv .i64) (Zj .i64 (↑(Xk (Xd b (Zm 11) (0:UInt8))):Int)))):Int);let t3:Int:=Zj .i64 (↑(Xk (Xd b (Zm 1) (0:UInt8))):Int);let t4:Option (AV×Blocks):=some (Yv [Zn [Zz .i64 0,Zz .u64 0,Zh []],Zz .i64 0,Zz .i64 101],[]);let t0:Int:=Zj .i64 (12+t2);sel (decide ((↑(Zx b):Int)<12)) t4 (chk (decide (10≤(↑(Zx b):Int))) (Zq (chk (decide (Zx (Xn (Zm 2) (Xg (Zm 10) b))≤4611686018427387904)) (some (Yv [Zz .u64 (Yj (Wj (Xn (Zm 2) (Xg (Zm 10) b)))),Zf (Yu (Wj (Xn (Zm 2) (Xg (Zm 10) b))))],[]))) (kT fun vs=>cInt .u64 vs fun n r=>cBool r fun b_1 r=>onNil r (chk (decide (10<(↑(Zx b):Int))) (chk (decide (11<(↑(Zx b):Int))) (chk (decide (0<(↑(Zx b):Int))) (sel (!Xd b (Zm 0) (0:UInt8)==(66:UInt8)) t1 (chk (decide (1<(↑(Zx b):Int))) (sel (decide (t3<1)) t1 (chk (decide (1<(↑(Zx b):Int))) (sel (decide (t3>10)) t1 (sel (!b_1) t1 (sel (decide (t2>1000)) t1 (sel (decide ((↑(Zx b):Int)<t0)) t4 (chk (decide (1<(↑(Zx b):Int))) (chk (decide (12≤t0)&&decide (t0≤(↑(Zx b):Int))) (chk (room (Zx (Xn (Zm 12) (Xg (Zm t0) b))) 1) (some (Yv [Zn [Zz .i64 t3,Zz .u64 n,Zh (Xn (Zm 12) (Xg (Zm t0) b))],Zz .i64 t0,Zz .i64 0],[]))))))))))))))))))):Option (AV×Blocks))) (by kernel_rfl) ?_
  delta kT
  try dsimp only [cStr,cBs,cBool,cU8,cInt,cSl,l63]
  simp only [decide_eq_true_eq] at hpre
  unfold Wg
  by_cases h0:b.length<12
  ·rw [sel_pos (by simp;omega),if_pos h0];rfl
  rw [sel_neg (by simp;omega),if_neg h0]
  have hc:=Kerb.cut_len b 2 8
  have hs:(b.getD 10 0).toNat*256+(b.getD 11 0).toNat=Kerb.boxSize b:=rfl
  simp only [Kerb.cut_28,Kerb.size_or]
  simp only [show Zm 0=0 from rfl,show Zm 1=1 from rfl,show Zm 10=10 from rfl,show Zm 11=11 from rfl,Kerb.wrap_byte,hs]
  rw [chk_of (by simp;omega),chk_of (by simp;omega)]
  simp only [↓A0]
  rw [chk_of (by simp;omega),chk_of (by simp;omega),chk_of (by simp;omega)]
  by_cases h1:b.getD 0 0=66
  case neg=>rw [sel_pos (by simpa using h1),if_pos (.inl h1)];rfl
  rw [sel_neg (by simpa using h1),chk_of (by simp;omega)]
  cases h2:Vp ((b.getD 1 0).toNat:Int)
  ·rw [if_pos (.inr (.inl rfl))]
   by_cases h2a:((b.getD 1 0).toNat:Int)<1
   ·rw [sel_pos (by simpa using h2a)];rfl
   ·rw [sel_neg (by simpa using h2a),chk_of (by simp;omega),sel_pos (decide_eq_true (by simp only [Vp,Bool.and_eq_false_iff,decide_eq_false_iff_not] at h2;omega))];rfl
  have hk:1≤((b.getD 1 0).toNat:Int)∧((b.getD 1 0).toNat:Int)≤10:=by simp only [Vp,Xw,decide_eq_true_eq] at h2;exact h2
  rw [sel_neg (decide_eq_false (by omega)),chk_of (by simp;omega),sel_neg (decide_eq_false (by omega))]
  cases h3:(Wj (Kerb.cut b 2 8)).2
  ·rw [if_pos (.inr (.inr (.inl rfl)))];rfl
  rw [Yz,sel_false]
  by_cases h4:1000<Kerb.boxSize b
  ·rw [sel_pos (by simp;omega),if_pos (.inr (.inr (.inr h4)))];rfl
  rw [sel_neg (by simp;omega),if_neg (by rintro (h | h | h | h)<;>first | exact h h1 | cases h | omega),wrap_i64 (by omega) (by omega)]
  by_cases h5:b.length<12+Kerb.boxSize b
  ·rw [sel_pos (by simp;omega),if_pos h5];rfl
  have hc2:=Kerb.cut_len b 12 (Kerb.boxSize b)
  rw [sel_neg (by simp;omega),if_neg h5,Kerb.cut_12]
  repeat rw [chk_of (by first | (simp;omega) | exact Xx (by omega))]
  simp
 ·cases h
theorem w81:Walked Tryz.prog G 81 4 sp81:=by
 refine ⟨Tryz.f81,Tryz.func81,by decide +kernel,rfl,fun xs bl r h=> ?_⟩
 unfold sp81 at h
 split at h
 ·rename_i B at_ li bad
  obtain ⟨hpre,h2⟩:=chk_inv h;cases h2
  show runFnH (G.env 81 4) G.rts (G.own 81) Tryz.f81 _ _ [0]=_
  refine Eq.trans (b:=(Zq (chk (decide (Zx B≤140737488355328)) (some (Yv [Zz .i64 (Yb (Yx B at_ 4 li)),Zz .i64 (Yf (Yx B at_ 4 li)),Zz .i64 (Yk (Yx B at_ 4 li))],[]))) fun (r:AV×Blocks)=>onNilB (Yu r) (Xb (Yj r) fun vs=>onCons vs fun x r=>Yq .i64 x fun n=>onCons r fun x r=>Yq .i64 x fun n_1=>onCons r fun x r=>Yq .i64 x fun n_2=>onNil r (some (Zz .i64 n,[[Zh B,Zz .i64 (bif bad || !n_2==0 then at_ else n_1),Zf li,Zf (bad || !n_2==0)]]))):Option (AV×Blocks))) (by kernel_rfl) ?_
  simp only [A0]
  rw [chk_of hpre]
 ·cases h
theorem w83:Walked Tryz.prog G 83 4 sp83:=by
 refine ⟨Tryz.f83,Tryz.func83,by decide +kernel,rfl,fun xs bl r h=> ?_⟩
 unfold sp83 at h
 split at h
 ·rename_i lb t k st en kv x y z tk
  obtain ⟨hpre,h2⟩:=chk_inv h;cases h2
  refine Eq.trans (b:=(let t1:Option (AV×Blocks):=some (Yv [Zh [],Zz .i64 104],[]);let t2:Option (AV×Blocks):=some (Yv [Zh [],Zz .i64 108],[]);let t3:Option (AV×Blocks):=chk (l63 x&&l63 y&&l63 z) (some (Zf (Wz (Xj x y z)),[]));let t4:Option (AV×Blocks):=chk (decide (Zx lb≤70368744177664)) (some (Ym (lb++Yd t 4 false),[]));let t5:Option (AV×Blocks):=chk (decide (0≤k)&&decide (k<18446744073709551616)) (some (Zf (Yh k),[]));let t6:Option (AV×Blocks):=chk (decide (0≤k)&&decide (k<18446744073709551616)) (some (Zh (Kerb.keyBytes k),[]));let t0:Option (AV×Blocks):=sel (!Yw t 4294967295) t1 (Zq t4 (kO fun l=>sel (!lb==[(116:UInt8),(107:UInt8),(116:UInt8),(71:UInt8)]) (sel (!k==0) t2 (sel (!st==0) t2 (sel (!en==0) t2 (sel (!kv==0) t2 (sel (!(x==[]&&(y==[]&&z==[]))) t2 (sel (decide ((↑(Zx tk):Int)>0)) t2 (Zq (chk (decide (Zx l≤70368744177664)) (some (Ym (Kerb.pad l),[]))) (kO fun l=>some (Yv [Zh l,Zz .i64 0],[]))))))))) (Zq t5 (kL fun b=>sel (!b) (some (Yv [Zh [],Zz .i64 10],[])) (sel (!Yw st 4294967295) t1 (sel (!Yw en 4294967295) t1 (sel (!Yw kv 255) t1 (Zq t3 (kL fun b=>sel (!b) (some (Yv [Zh [],Zz .i64 103],[])) (sel (decide ((↑(Zx tk):Int)>255)) (some (Yv [Zh [],Zz .i64 105],[])) (Zq t6 (kB fun b=>chk (room (Zx l+Zx b) 1) (Zq (chk (decide (Zx (l++b)≤70368744177664)) (some (Ym (l++b++Yd st 4 false),[]))) (kO fun l=>Zq (chk (decide (Zx l≤70368744177664)) (some (Ym (l++Yd en 4 false),[]))) (kO fun l=>Zq (chk (decide (Zx l≤70368744177664)) (some (Ym (l++Yd kv 1 false),[]))) (kO fun l=>Zq (chk (decide (Zx l+Zx x+Zx y+Zx z≤70368744170000)) (some (Zh (Kerb.putPrin l (Xj x y z)),[]))) (kB fun b=>Zq (chk (decide (Zx b≤70368744177664)) (some (Ym (b++Yd (↑(Zx tk):Int) 1 false),[]))) (kO fun l=>chk (room (Zx l+Zx tk) 1) (Zq (chk (decide (Zx (l++tk)≤70368744177664)) (some (Ym (Kerb.pad (l++tk)),[]))) (kO fun l=>some (Yv [Zh l,Zz .i64 0],[])))))))))))))))))))));sel (lb==[(116:UInt8),(103:UInt8),(115:UInt8),(84:UInt8)]) (sel (!Yw t 4294967295) t1 (Zq t4 (kO fun l=>Zq t5 (kL fun b=>sel (!b) (some (Yv [Zh [],Zz .i64 10],[])) (sel (!Yw st 4294967295) t1 (sel (!Yw en 4294967295) t1 (sel (!Yw kv 255) t1 (Zq t3 (kL fun b=>sel (!b) (some (Yv [Zh [],Zz .i64 103],[])) (sel (decide ((↑(Zx tk):Int)>255)) (some (Yv [Zh [],Zz .i64 105],[])) (Zq t6 (kB fun b=>chk (room (Zx l+Zx b) 1) (Zq (chk (decide (Zx (l++b)≤70368744177664)) (some (Ym (l++b++Yd st 4 false),[]))) (kO fun l=>Zq (chk (decide (Zx l≤70368744177664)) (some (Ym (l++Yd en 4 false),[]))) (kO fun l=>Zq (chk (decide (Zx l≤70368744177664)) (some (Ym (l++Yd kv 1 false),[]))) (kO fun l=>Zq (chk (decide (Zx l+Zx x+Zx y+Zx z≤70368744170000)) (some (Zh (Kerb.putPrin l (Xj x y z)),[]))) (kB fun b=>Zq (chk (decide (Zx b≤70368744177664)) (some (Ym (b++Yd (↑(Zx tk):Int) 1 false),[]))) (kO fun l=>chk (room (Zx l+Zx tk) 1) (Zq (chk (decide (Zx (l++tk)≤70368744177664)) (some (Ym (Kerb.pad (l++tk)),[]))) (kO fun l=>some (Yv [Zh l,Zz .i64 0],[]))))))))))))))))))))) (sel (!lb==[(116:UInt8),(107:UInt8),(116:UInt8),(71:UInt8)]) (sel (!lb==[(67:UInt8),(80:UInt8),(87:UInt8),(100:UInt8)]) (some (Yv [Zh [],Zz .i64 80],[])) t0) t0):Option (AV×Blocks))) (by kernel_rfl) ?_
  delta kB kO kL
  try dsimp only [cStr,cBs,cBool,cU8,cInt,cSl,l63]
  have eGet:([103,84,71,83]:List UInt8)=Kerb.lGet:=rfl
  have eTick:([103,84,75,84]:List UInt8)=Kerb.lTicket:=rfl
  have eChg:([67,80,87,108]:List UInt8)=Kerb.lChange:=rfl
  have eDone:([67,80,87,100]:List UInt8)=Vq:=rfl
  have eGot:([116,103,115,84]:List UInt8)=Kerb.lGot:=rfl
  have eGiven:([116,107,116,71]:List UInt8)=Kerb.lGiven:=rfl
  have hpre':=hpre
  simp only [Xw,decide_eq_true_eq] at hpre
  have hk:(decide (0≤k)&&decide (k<18446744073709551616))=true:=by simp;omega
  have hv:(decide (x.length≤9223372036854775807)&&decide (y.length≤9223372036854775807)&&decide (z.length≤9223372036854775807))=true:=by simp;omega
  simp only [A0,eDone,eGot,eGiven,hk,hv]
  unfold Xm
  simp only
  cases hg:(lb==Kerb.lGot)
  case true =>
   have ht:Wh lb=true:=by simp [Wh,hg]
   have hl:lb.length=4:=by rw [eq_of_beq hg];rfl
   simp only [ht,sel_true,Yz,Bool.false_and]
   rw [if_neg (by simp)]
   cases h1:Yw t 4294967295
   ·rfl
   rw [Yz,sel_false,if_neg (by simp),if_pos trivial,chk_of (by simp;omega)]
   cases h2:Yh k
   ·rfl
   rw [Yz,sel_false,if_neg (by simp)]
   cases h3:Yw st 4294967295
   ·rfl
   rw [Yz,sel_false]
   cases h4:Yw en 4294967295
   ·rfl
   rw [Yz,sel_false]
   cases h5:Yw kv 255
   ·rfl
   rw [Yz,sel_false,if_neg (by simp)]
   cases h6:Wz ⟨x,y,z⟩
   ·rfl
   have l1:=Kerb.valid_len h6
   simp only at l1
   rw [Yz,sel_false,if_neg (by simp)]
   by_cases h7:255<tk.length
   ·rw [sel_pos (by simp;omega),if_pos h7]
   rw [sel_neg (by simp;omega),if_neg h7]
   rw [chk_of (Xx (by simp [Zp,Zk];omega)),chk_of (by simp [Zp,Zk];omega),chk_of (by simp [Zp,Zk];omega),chk_of (by simp [Zp,Zk];omega),chk_of (by simp [Zp,Zk];omega),chk_of (by simp [Zp,Zk,Zb];omega),chk_of (Xx (by simp [Zp,Zk,Zb];omega)),chk_of (by simp [Zp,Zk,Zb];omega)]
   simp [Kerb.putTick]
  cases hgv:(lb==Kerb.lGiven)
  case true =>
   have ht:Wh lb=true:=by simp [Wh,hgv]
   have hl:lb.length=4:=by rw [eq_of_beq hgv];rfl
   simp only [ht,sel_true,sel_false,Yz,Bool.false_and]
   rw [if_neg (by simp)]
   cases h1:Yw t 4294967295
   ·rfl
   rw [Yz,sel_false,if_neg (by simp),if_pos trivial,chk_of (by simp;omega)]
   cases h2:Yh k
   ·rfl
   rw [Yz,sel_false,if_neg (by simp)]
   cases h3:Yw st 4294967295
   ·rfl
   rw [Yz,sel_false]
   cases h4:Yw en 4294967295
   ·rfl
   rw [Yz,sel_false]
   cases h5:Yw kv 255
   ·rfl
   rw [Yz,sel_false,if_neg (by simp)]
   cases h6:Wz ⟨x,y,z⟩
   ·rfl
   have l1:=Kerb.valid_len h6
   simp only at l1
   rw [Yz,sel_false,if_neg (by simp)]
   by_cases h7:255<tk.length
   ·rw [sel_pos (by simp;omega),if_pos h7]
   rw [sel_neg (by simp;omega),if_neg h7]
   rw [chk_of (Xx (by simp [Zp,Zk];omega)),chk_of (by simp [Zp,Zk];omega),chk_of (by simp [Zp,Zk];omega),chk_of (by simp [Zp,Zk];omega),chk_of (by simp [Zp,Zk];omega),chk_of (by simp [Zp,Zk,Zb];omega),chk_of (Xx (by simp [Zp,Zk,Zb];omega)),chk_of (by simp [Zp,Zk,Zb];omega)]
   simp [Kerb.putTick]
  have ht:Wh lb=false:=by simp [Wh,hg,hgv]
  simp only [ht,sel_true,sel_false,Wn,Bool.true_and]
  cases hc:(lb==Vq)
  ·rfl
  have hl:lb.length=4:=by rw [eq_of_beq hc];rfl
  rw [Yz,sel_false,if_neg (by simp)]
  cases h1:Yw t 4294967295
  ·rfl
  rw [Yz,sel_false,if_neg (by simp),if_neg (by simp),chk_of (by simp;omega)]
  by_cases h2:k=0
  case neg=>rw [sel_pos (by simpa using h2),if_pos (.inl h2)]
  rw [sel_neg (by simp [h2])]
  by_cases h3:st=0
  case neg=>rw [sel_pos (by simpa using h3),if_pos (.inr (.inl h3))]
  rw [sel_neg (by simp [h3])]
  by_cases h4:en=0
  case neg=>rw [sel_pos (by simpa using h4),if_pos (.inr (.inr (.inl h4)))]
  rw [sel_neg (by simp [h4])]
  by_cases h5:kv=0
  case neg=>rw [sel_pos (by simpa using h5),if_pos (.inr (.inr (.inr (.inl h5))))]
  rw [sel_neg (by simp [h5])]
  show sel (!(Kerb.Prin.isNo ⟨x,y,z⟩)) _ _=_
  cases h6:Kerb.Prin.isNo ⟨x,y,z⟩
  ·rw [if_pos (.inr (.inr (.inr (.inr (.inl rfl)))))];rfl
  rw [Yz,sel_false]
  by_cases h7:tk=[]
  case neg=>rw [sel_pos (by have:=List.length_pos_iff.2 h7;simp;omega),if_pos (.inr (.inr (.inr (.inr (.inr h7)))))]
  rw [sel_neg (by simp [h7]),if_neg (by simp [h2,h3,h4,h5,h7]),chk_of (by simp [Zp];omega)]
 ·cases h
theorem w95:Walked Tryz.prog G 95 4 sp95:=by
 refine ⟨Tryz.f95,Tryz.func95,by decide +kernel,rfl,fun xs bl r h=> ?_⟩
 unfold sp95 at h
 split at h
 ·rename_i kd k bd
  obtain ⟨hpre,h2⟩:=chk_inv h;cases h2
  refine Eq.trans (b:=(let t0:List UInt8:=[UInt8.ofNat (Zm (Zj .u8 (Int.fdiv (↑(Zx bd):Int) (2 ^ min (Zm 8) (Xv .i64))))),UInt8.ofNat (Zm (Zj .u8 (↑(Zx bd):Int)))];let t1:List UInt8:=Vw (Zm 0) (0:UInt8)++[(66:UInt8),UInt8.ofNat (Zm (Zj .u8 kd))];let t2:Int:=Zj .i64 (12+(↑(Zx bd):Int));sel (!Vp kd) (some (Yv [Zh [],Zz .i64 104],[])) (Zq (chk (decide (0≤k)&&decide (k<18446744073709551616)) (some (Zf (Yh k),[]))) (kL fun b=>sel (!b) (some (Yv [Zh [],Zz .i64 10],[])) (sel (decide ((↑(Zx bd):Int)>1000)) (some (Yv [Zh [],Zz .i64 105],[])) (chk (decide (0≤t2)&&decide (t2≤140737488355328)) (chk (room (Zx (Vw (Zm 0) (0:UInt8))+Zx [(66:UInt8),UInt8.ofNat (Zm (Zj .u8 kd))]) 1) (Zq (chk (decide (0≤k)&&decide (k<18446744073709551616)) (some (Zh (Kerb.keyBytes k),[]))) (kB fun b=>chk (room (Zx t1+Zx b) 1) (chk (room (Zx (t1++b)+Zx t0) 1) (chk (room (Zx (t1++b++t0)+Zx bd) 1) (some (Yv [Zh (t1++b++t0++bd),Zz .i64 0],[]))))))))))):Option (AV×Blocks))) (by kernel_rfl) ?_
  delta kB kL
  try dsimp only [cStr,cBs,cBool,cU8,cInt,cSl,l63]
  simp only [A0,Kerb.Client.av,Kerb.Cache.av,Kerb.Cred.av,hpre]
  unfold Kerb.makeBox
  cases h1:Vp kd
  ·rfl
  rw [Yz,sel_false,if_neg (by simp)]
  cases h2:Yh k
  ·rfl
  rw [Yz,sel_false,if_neg (by simp)]
  by_cases h3:1000<bd.length
  ·rw [sel_pos (by simp;omega),if_pos h3]
  have hk:1≤kd∧kd≤10:=by simp [Vp] at h1;omega
  have lk:=Zk k
  rw [sel_neg (by simp;omega),if_neg h3,wrap_i64 (by omega) (by omega),chk_of (by simp;omega),chk_of (Xx (by simp)),chk_of (Xx (by simp;omega)),chk_of (Xx (by simp;omega)),chk_of (Xx (by simp;omega)),Kerb.two_bytes,Kerb.wrap_u8,Int.emod_eq_of_lt (by omega) (by omega)]
  rfl
 ·cases h
theorem w117:Walked Tryz.prog G 117 4 sp117:=by
 refine ⟨Tryz.f117,Tryz.func117,by decide +kernel,rfl,fun xs bl r h=> ?_⟩
 unfold sp117 at h
 split at h
 ·rename_i B at_ bad
  obtain ⟨hpre,h2⟩:=chk_inv h;cases h2
  show runFnH (G.env 117 4) G.rts (G.own 117) Tryz.f117 _ _ [0]=_
  refine Eq.trans (b:=(Zq (chk (decide (Zx B≤4611686018427387904)) (some (Yv [Zz .i64 (Yb (Yx B at_ 1 false)),Zz .i64 (Yf (Yx B at_ 1 false)),Zz .i64 (Yk (Yx B at_ 1 false))],[]))) fun (r:AV×Blocks)=>onNilB (Yu r) (Xb (Yj r) fun vs=>onCons vs fun x r=>Yq .i64 x fun n=>onCons r fun x r=>Yq .i64 x fun n_1=>onCons r fun x r=>Yq .i64 x fun n_2=>onNil r (sel (!!(bad || !n_2==0)) (some (Zz .i64 0,[[Zh B,Zz .i64 (bif bad || !n_2==0 then at_ else n_1),Zf (bad || !n_2==0)]])) (some (Zz .i64 n,[[Zh B,Zz .i64 (bif bad || !n_2==0 then at_ else n_1),Zf (bad || !n_2==0)]])))):Option (AV×Blocks))) (by kernel_rfl) ?_
  have hb:=of_decide_eq_true hpre
  simp only [A0]
  rw [chk_of (by simp;omega)]
  unfold Kerb.pGet
  cases bad
  ·simp only [Vg]
   generalize hq:(!(_==(0:Int)))=q
   cases q<;>rfl
  ·rfl
 ·cases h
theorem w119:Walked Tryz.prog G 119 4 sp119:=by
 refine ⟨Tryz.f119,Tryz.func119,by decide +kernel,rfl,fun xs bl r h=> ?_⟩
 unfold sp119 at h
 split at h
 ·rename_i B at_ bad
  obtain ⟨hpre,h2⟩:=chk_inv h;cases h2
  show runFnH (G.env 119 4) G.rts (G.own 119) Tryz.f119 _ _ [0]=_
  refine Eq.trans (b:=(Zq (chk (decide (Zx B≤4611686018427387904)) (some (Yv [Zz .i64 (Yb (Yx B at_ 2 false)),Zz .i64 (Yf (Yx B at_ 2 false)),Zz .i64 (Yk (Yx B at_ 2 false))],[]))) fun (r:AV×Blocks)=>onNilB (Yu r) (Xb (Yj r) fun vs=>onCons vs fun x r=>Yq .i64 x fun n=>onCons r fun x r=>Yq .i64 x fun n_1=>onCons r fun x r=>Yq .i64 x fun n_2=>onNil r (sel (!!(bad || !n_2==0)) (some (Zz .i64 0,[[Zh B,Zz .i64 (bif bad || !n_2==0 then at_ else n_1),Zf (bad || !n_2==0)]])) (some (Zz .i64 n,[[Zh B,Zz .i64 (bif bad || !n_2==0 then at_ else n_1),Zf (bad || !n_2==0)]])))):Option (AV×Blocks))) (by kernel_rfl) ?_
  have hb:=of_decide_eq_true hpre
  simp only [A0]
  rw [chk_of (by simp;omega)]
  unfold Kerb.pGet
  cases bad
  ·simp only [Vg]
   generalize hq:(!(_==(0:Int)))=q
   cases q<;>rfl
  ·rfl
 ·cases h
theorem w145:Walked Tryz.prog G 145 4 sp145:=by
 refine ⟨Tryz.f145,Tryz.func145,by decide +kernel,rfl,fun xs bl r h=> ?_⟩
 unfold sp145 at h
 split at h
 ·rename_i B at_ bad
  obtain ⟨hpre,h2⟩:=chk_inv h;cases h2
  show runFnH (G.env 145 4) G.rts (G.own 145) Tryz.f145 _ _ [0]=_
  refine Eq.trans (b:=(Zq (chk (decide (Zx B≤4611686018427387904)) (some (Yv [Zy (Wb (Kerb.text B at_)),Zz .i64 (Wd (Kerb.text B at_)),Zz .i64 (Xf (Kerb.text B at_))],[]))) fun (r:AV×Blocks)=>onNilB (Yu r) (Xb (Yj r) fun vs=>onCons vs fun x r=>AV.onStr x fun b=>onCons r fun x r=>Yq .i64 x fun n=>onCons r fun x r=>Yq .i64 x fun n_1=>onNil r (sel (!!(bad || !n_1==0)) (some (Zy [],[[Zh B,Zz .i64 (bif bad || !n_1==0 then at_ else n),Zf (bad || !n_1==0)]])) (some (Zy b,[[Zh B,Zz .i64 (bif bad || !n_1==0 then at_ else n),Zf (bad || !n_1==0)]])))):Option (AV×Blocks))) (by kernel_rfl) ?_
  have hb:=of_decide_eq_true hpre
  simp only [A0]
  rw [chk_of (by simp;omega)]
  unfold Kerb.pText
  cases bad
  ·simp only [Vg]
   generalize hq:(!(_==(0:Int)))=q
   cases q<;>rfl
  ·rfl
 ·cases h
theorem w178:Walked Tryz.prog G 178 4 sp178:=by
 refine ⟨Tryz.f178,Tryz.func178,by decide +kernel,rfl,fun xs bl r h=> ?_⟩
 unfold sp178 at h
 split at h
 ·rename_i lb t st en k
  obtain ⟨hpre,h2⟩:=chk_inv h;cases h2
  refine Eq.trans (b:=(sel (!Kerb.timed lb) (sel (!lb==[(67:UInt8),(80:UInt8),(87:UInt8),(108:UInt8)]) (some (Zz .i64 80,[])) (sel (!Yw t 4294967295) (some (Zz .i64 104,[])) (sel (Kerb.timed lb) (sel (!Yw st 4294967295) (some (Zz .i64 104,[])) (sel (!Yw en 4294967295) (some (Zz .i64 104,[])) (sel (!k==0) (some (Zz .i64 108,[])) (some (Zz .i64 0,[]))))) (Zq (chk (decide (0≤k)&&decide (k<18446744073709551616)) (some (Zf (Yh k),[]))) fun (r:AV×Blocks)=>onNilB (Yu r) (Wk (Yj r) fun b=>sel (!b) (some (Zz .i64 10,[])) (sel (!st==0) (some (Zz .i64 108,[])) (sel (!en==0) (some (Zz .i64 108,[])) (some (Zz .i64 0,[]))))))))) (sel (!Yw t 4294967295) (some (Zz .i64 104,[])) (sel (Kerb.timed lb) (sel (!Yw st 4294967295) (some (Zz .i64 104,[])) (sel (!Yw en 4294967295) (some (Zz .i64 104,[])) (sel (!k==0) (some (Zz .i64 108,[])) (some (Zz .i64 0,[]))))) (Zq (chk (decide (0≤k)&&decide (k<18446744073709551616)) (some (Zf (Yh k),[]))) fun (r:AV×Blocks)=>onNilB (Yu r) (Wk (Yj r) fun b=>sel (!b) (some (Zz .i64 10,[])) (sel (!st==0) (some (Zz .i64 108,[])) (sel (!en==0) (some (Zz .i64 108,[])) (some (Zz .i64 0,[])))))))):Option (AV×Blocks))) (by kernel_rfl) ?_
  have eGet:([103,84,71,83]:List UInt8)=Kerb.lGet:=rfl
  have eTick:([103,84,75,84]:List UInt8)=Kerb.lTicket:=rfl
  have eChg:([67,80,87,108]:List UInt8)=Kerb.lChange:=rfl
  have eDone:([67,80,87,100]:List UInt8)=Vq:=rfl
  have eGot:([116,103,115,84]:List UInt8)=Kerb.lGot:=rfl
  have eGiven:([116,107,116,71]:List UInt8)=Kerb.lGiven:=rfl
  simp only [A0,eChg,hpre]
  unfold Kerb.encodeKaSecret
  simp only
  cases ht:Kerb.timed lb
  ·rw [Wn,sel_true]
   cases hc:(lb==Kerb.lChange)
   ·rfl
   rw [Yz,sel_false,if_neg (by simp)]
   cases h1:Yw t 4294967295
   ·rfl
   rw [Yz,sel_false,if_neg (by simp),sel_false,if_neg (by simp)]
   cases h2:Yh k
   ·rfl
   rw [Yz,sel_false,if_neg (by simp)]
   by_cases h3:st=0
   case neg=>rw [sel_pos (by simpa using h3),if_pos (.inl h3)]
   rw [sel_neg (by simp [h3])]
   by_cases h4:en=0
   case neg=>rw [sel_pos (by simpa using h4),if_pos (.inr h4)]
   rw [sel_neg (by simp [h4]),if_neg (by simp [h3,h4])]
  ·rw [Yz,sel_false,if_neg (by simp)]
   cases h1:Yw t 4294967295
   ·rfl
   rw [Yz,sel_false,if_neg (by simp),sel_true,if_pos rfl]
   cases h2:Yw st 4294967295
   ·rfl
   rw [Yz,sel_false]
   cases h3:Yw en 4294967295
   ·rfl
   rw [Yz,sel_false,if_neg (by simp)]
   by_cases h4:k=0
   ·rw [sel_neg (by simp [h4]),if_neg (by simp [h4])]
   ·rw [sel_pos (by simpa using h4),if_pos h4]
 ·cases h
theorem w179:Walked Tryz.prog G 179 4 sp179:=by
 refine ⟨Tryz.f179,Tryz.func179,by decide +kernel,rfl,fun xs bl r h=> ?_⟩
 unfold sp179 at h
 split at h
 ·rename_i b n little
  obtain ⟨hpre,h2⟩:=chk_inv h;cases h2
  refine Eq.trans (b:=(Zq (chk (decide (Zx b≤70368744177664)) (some (Ym (b++Yd n (Zm 4) little),[]))) fun (r:AV×Blocks)=>onNilB (Yu r) (AV.onOwnB (Yj r) fun l=>some (Ym l,[])):Option (AV×Blocks))) (by kernel_rfl) ?_
  simp only [decide_eq_true_eq] at hpre
  simp only [A0]
  rw [chk_of (by simp;omega)]
  rfl
 ·cases h
theorem w186:Walked Tryz.prog G 186 4 sp186:=by
 refine ⟨Tryz.f186,Tryz.func186,by decide +kernel,rfl,fun xs bl r h=> ?_⟩
 unfold sp186 at h
 split at h
 ·rename_i b n
  obtain ⟨hpre,h2⟩:=chk_inv h;cases h2
  refine Eq.trans (b:=(Zq (chk (decide (Zx b≤70368744177664)) (some (Ym (b++Yd n (Zm 1) false),[]))) fun (r:AV×Blocks)=>onNilB (Yu r) (AV.onOwnB (Yj r) fun l=>some (Ym l,[])):Option (AV×Blocks))) (by kernel_rfl) ?_
  simp only [decide_eq_true_eq] at hpre
  simp only [A0]
  rw [chk_of (by simp;omega)]
  rfl
 ·cases h
theorem w189:Walked Tryz.prog G 189 4 sp189:=by
 refine ⟨Tryz.f189,Tryz.func189,by decide +kernel,rfl,fun xs bl r h=> ?_⟩
 unfold sp189 at h
 split at h
 ·rename_i b x y z
  obtain ⟨hpre,h2⟩:=chk_inv h;cases h2
  refine Eq.trans (b:=(Zq (chk (decide (Zx b+Zx x≤70368744177664)) (some (Zh (Yg b x),[]))) fun (r:AV×Blocks)=>onNilB (Yu r) (AV.onBs (Yj r) fun b=>Zq (chk (decide (Zx b+Zx y≤70368744177664)) (some (Zh (Yg b y),[]))) fun (r:AV×Blocks)=>onNilB (Yu r) (AV.onBs (Yj r) fun b=>Zq (chk (decide (Zx b+Zx z≤70368744177664)) (some (Zh (Yg b z),[]))) fun (r:AV×Blocks)=>onNilB (Yu r) (AV.onBs (Yj r) fun b=>some (Zh b,[])))):Option (AV×Blocks))) (by kernel_rfl) ?_
  simp only [decide_eq_true_eq] at hpre
  simp only [A0]
  rw [chk_of (by simp;omega),chk_of (by simp [Yg];omega),chk_of (by simp [Yg];omega)]
  rfl
 ·cases h
theorem w205:Walked Tryz.prog G 205 4 sp205:=by
 refine ⟨Tryz.f205,Tryz.func205,by decide +kernel,rfl,fun xs bl r h=> ?_⟩
 unfold sp205 at h
 split at h
 ·rename_i B at_ bad
  obtain ⟨hpre,h2⟩:=chk_inv h;cases h2
  show runFnH (G.env 205 4) G.rts (G.own 205) Tryz.f205 _ _ [0]=_
  refine Eq.trans (b:=(Zq (chk (decide (Zx B≤4611686018427387904)) (some (Yv [Zz .i64 (Yb (Yx B at_ 4 false)),Zz .i64 (Yf (Yx B at_ 4 false)),Zz .i64 (Yk (Yx B at_ 4 false))],[]))) fun (r:AV×Blocks)=>onNilB (Yu r) (Xb (Yj r) fun vs=>onCons vs fun x r=>Yq .i64 x fun n=>onCons r fun x r=>Yq .i64 x fun n_1=>onCons r fun x r=>Yq .i64 x fun n_2=>onNil r (sel (!!(bad || !n_2==0)) (some (Zz .i64 0,[[Zh B,Zz .i64 (bif bad || !n_2==0 then at_ else n_1),Zf (bad || !n_2==0)]])) (some (Zz .i64 n,[[Zh B,Zz .i64 (bif bad || !n_2==0 then at_ else n_1),Zf (bad || !n_2==0)]])))):Option (AV×Blocks))) (by kernel_rfl) ?_
  have hb:=of_decide_eq_true hpre
  simp only [A0]
  rw [chk_of (by simp;omega)]
  unfold Kerb.pGet
  cases bad
  ·simp only [Vg]
   generalize hq:(!(_==(0:Int)))=q
   cases q<;>rfl
  ·rfl
 ·cases h
theorem w210:Walked Tryz.prog G 210 4 sp210:=by
 refine ⟨Tryz.f210,Tryz.func210,by decide +kernel,rfl,fun xs bl r h=> ?_⟩
 unfold sp210 at h
 split at h
 ·rename_i s bad
  obtain ⟨hpre,h2⟩:=chk_inv h;cases h2
  refine Eq.trans (b:=(Zq (loopM (fun (st:List AV)=>cStr st fun b r=>cStr r fun b_1 r=>cBool r fun b_2 r=>cInt .i64 r fun n r=>cInt .i64 r fun n_1 r=>let t0:Option (List AV ⊕ Ex×List AV):=some (Sum.inr (Ex.ret,[Zy b,Zy b_1,Zf false,Zz .i64 n,Zz .i64 n_1]));let t1:Bool:=decide (0≤n_1)&&decide (n_1<(↑(Zx b):Int));let t2:Int:=(↑(Xk (Xd b (Zm n_1) (0:UInt8))):Int);onNil r (sel (decide (n_1<n)) (chk t1 (sel (decide (t2<(↑(Xk (33:UInt8)):Int))) t0 (chk t1 (sel (decide (t2>(↑(Xk (126:UInt8)):Int))) t0 (chk t1 (sel (decide (Yn (Xd b (Zm n_1) (0:UInt8)) b_1≥0)) t0 (some (Sum.inl [Zy b,Zy b_1,Zf b_2,Zz .i64 n,Zz .i64 (Zj .i64 (n_1+1))])))))))) (some (Sum.inr (Vx 0,[Zy b,Zy b_1,Zf b_2,Zz .i64 n,Zz .i64 n_1]))))) [Zy s,Zy bad,Zf false,Zz .i64 (↑(Zx s):Int),Zz .i64 0]) fun (r:Ex×List AV)=>cStr (Yu r) fun b r_1=>cStr r_1 fun b r_2=>cBool r_2 fun b r_3=>cInt .i64 r_3 fun n r_4=>cInt .i64 r_4 fun n r_5=>onNil r_5 (exK r.1 (some (Zf b,[])) fun (j:Nat)=>sel (Nat.beq j 0) (some (Zf true,[])) none):Option (AV×Blocks))) (by kernel_rfl) ?_
  try dsimp only [cStr,cBs,cBool,cU8,cInt,cSl,l63]
  simp only [decide_eq_true_eq] at hpre
  refine loop_rounds (fun i:Nat=>[Zy s,Zy bad,Zf false,Zz Zw (s.length:Int),Zz Zw (i:Int)]) (fun i=>i≤s.length∧Xh s bad=Xh (s.drop i) bad) (fun i=>s.length-i)
   (fun r=>∃ i:Nat,r.2=[Zy s,Zy bad,Zf false,Zz Zw (s.length:Int),Zz Zw (i:Int)]∧((r.1 = .ret∧Xh s bad=false)∨(r.1 = .exit 0∧Xh s bad=true))) 0 ⟨Nat.zero_le _,rfl⟩ rfl ?_ ?_
  ·rintro i ⟨hi,hp⟩
   simp only [A0]
   by_cases hlt:i<s.length
   ·have hc:(decide ((0:Int)≤(i:Int))&&decide ((i:Int)<(s.length:Int)))=true:=by simp;omega
    have hd:=Kerb.drop_all_cons hlt
    rw [sel_pos (by simp;omega),chk_of hc,Int.toNat_natCast]
    have hpr:Xh (s.drop i) bad=(Kerb.okB bad (s.getD i 0)&&Xh (s.drop (i+1)) bad):=by rw [hd];rfl
    generalize s.getD i 0=c at *
    by_cases h1:c.toNat<33
    ·rw [sel_pos (by simp;omega)]
     exact ⟨_,rfl,i,rfl,.inl ⟨rfl,by rw [hp,hpr];simp [Kerb.okB,h1]⟩⟩
    rw [sel_neg (by simp;omega),chk_of hc]
    by_cases h2:126<c.toNat
    ·rw [sel_pos (by simp;omega)]
     exact ⟨_,rfl,i,rfl,.inl ⟨rfl,by rw [hp,hpr];simp [Kerb.okB,h2]⟩⟩
    rw [sel_neg (by simp;omega),chk_of hc]
    have h4:=Kerb.indexOf_nonneg c bad
    by_cases h3:c∈bad
    ·rw [sel_pos (by simpa using h4.2 h3)]
     exact ⟨_,rfl,i,rfl,.inl ⟨rfl,by rw [hp,hpr];simp [Kerb.okB,h3]⟩⟩
    rw [sel_neg (by have:=mt h4.1 h3;simp;omega),wrap_i64 (by omega) (by omega)]
    exact ⟨_,rfl,i+1,rfl,⟨by omega,by rw [hp,hpr];simp [Kerb.okB,h1,h2,h3]⟩,by dsimp only;omega⟩
   ·rw [sel_neg (by simp;omega)]
    exact ⟨_,rfl,i,rfl,.inr ⟨rfl,by rw [hp,List.drop_eq_nil_of_le (by omega)];rfl⟩⟩
  ·rintro ⟨e,l⟩ ⟨i,rfl,⟨rfl,hp⟩ | ⟨rfl,hp⟩⟩
   ·simp only [A0,hp]
   ·simp only [A0,hp]
    rfl
 ·cases h
theorem w213:Walked Tryz.prog G 213 4 sp213:=by
 refine ⟨Tryz.f213,Tryz.func213,by decide +kernel,rfl,fun xs bl r h=> ?_⟩
 unfold sp213 at h
 split at h
 ·rename_i li x y z ad k lf iss sv ins
  obtain ⟨hpre,h2⟩:=chk_inv h;cases h2
  refine Eq.trans (b:=(Zq (chk (decide (Zx x≤9223372036854775807)&&decide (Zx y≤9223372036854775807)&&decide (Zx z≤9223372036854775807)) (some (Zf (Wz (Xj x y z)),[]))) fun (r:AV×Blocks)=>onNilB (Yu r) (Wk (Yj r) fun b=>sel (!b) (some (Zz .i64 103,[])) (Zq (chk (decide (Zx sv≤9223372036854775807)) (some (Zf (Vv sv),[]))) fun (r:AV×Blocks)=>onNilB (Yu r) (Wk (Yj r) fun b=>sel (!b) (some (Zz .i64 103,[])) (Zq (chk (decide (Zx ins≤9223372036854775807)) (some (Zf (Vu ins),[]))) fun (r:AV×Blocks)=>onNilB (Yu r) (Wk (Yj r) fun b=>sel (!b) (some (Zz .i64 103,[])) (Zq (chk (decide (0≤k)&&decide (k<18446744073709551616)) (some (Zz .i64 (Kerb.classOf k),[]))) fun (r:AV×Blocks)=>onNilB (Yu r) (Yq .i64 (Yj r) fun n=>sel (!n==2) (some (Zz .i64 10,[])) (sel (!Yw ad 4294967295) (some (Zz .i64 104,[])) (sel (!Yw lf 255) (some (Zz .i64 104,[])) (sel (!Yw iss 4294967295) (some (Zz .i64 104,[])) (some (Zz .i64 0,[])))))))))))):Option (AV×Blocks))) (by kernel_rfl) ?_
  simp only [Xw,decide_eq_true_eq] at hpre
  obtain ⟨⟨⟨⟨⟨⟨h1,h2⟩,h3⟩,h4⟩,h5⟩,h6⟩,h7⟩:=hpre
  simp only [h1,h2,h3,h4,h5,h6,h7,decide_true,Xu,↓A0,A0]
  unfold Kerb.Ticket.err
  dsimp only
  cases Wz ⟨x,y,z⟩
  ·rfl
  cases Vv sv
  ·rfl
  cases Vu ins
  ·rfl
  simp only [Yz,Xu,sel_false]
  by_cases hc:Kerb.classOf k=2
  case neg=>rw [sel_pos (by simpa using hc),if_neg (by simp),if_pos hc]
  rw [sel_neg (by simp [hc]),if_neg (by simp),if_neg (by simp [hc])]
  cases Yw ad 4294967295
  ·rfl
  cases Yw lf 255
  ·rfl
  cases Yw iss 4294967295
  ·rfl
  rfl
 ·cases h
theorem w227:Walked Tryz.prog G 227 4 sp227:=by
 refine ⟨Tryz.f227,Tryz.func227,by decide +kernel,rfl,fun xs bl r h=> ?_⟩
 unfold sp227 at h
 split at h
 ·rename_i rl els n i now bit xp br
  obtain ⟨hpre,h2⟩:=chk_inv h;cases h2
  refine Eq.trans (b:=(Zq (chk (List.all els Kerb.isEntry&&decide (Zx els≤1000000)) (some (Yv [Zz .i64 (Yj (Kerb.findEnt (List.map Kerb.toEntry els) n i)),Zz .i64 (Yu (Kerb.findEnt (List.map Kerb.toEntry els) n i))],[]))) (kT fun vs=>cInt .i64 vs fun n r=>cInt .i64 r fun n_1 r=>onNil r (sel (!n_1==0) (some (Yv [Zz .i64 0,Zz .i64 n_1],[])) (chk (decide (0≤n)&&decide (n<(↑(Zx els):Int))&&true) (AV.onAgg (Xd els (Zm n) Vk) fun cs=>cStr cs fun b r=>cStr r fun b r=>cInt .u64 r fun n_2 r=>cInt .i64 r fun n_3 r=>cInt .i64 r fun n_4 r=>cInt .i64 r fun n_5 r=>cInt .i64 r fun n_6 r=>let t0:Option (AV×Blocks):=sel (!Zj .i64 (↑(BitVec.toNat (BitVec.ofInt (Xv .i64) n_6 &&& BitVec.ofInt (Xv .i64) bit)):Int)==0) (some (Yv [Zz .i64 0,Zz .i64 br],[])) (some (Yv [Zz .i64 n,Zz .i64 0],[]));cInt .i64 r fun n r=>cInt .i64 r fun n r=>onNil r (Zq (chk (decide (0≤n_2)&&decide (n_2<18446744073709551616)) (some (Zf (Yh n_2),[]))) (kL fun b=>sel (!b) (some (Yv [Zz .i64 0,Zz .i64 10],[])) (sel (!n_4==0) (sel (decide (n_4≤now)) (some (Yv [Zz .i64 0,Zz .i64 xp],[])) t0) t0))))))):Option (AV×Blocks))) (by kernel_rfl) ?_
  delta kT kL
  try dsimp only [cStr,cBs,cBool,cU8,cInt,cSl,l63]
  simp only [Xw,decide_eq_true_eq] at hpre
  obtain ⟨hall,hlen⟩:=hpre
  obtain ⟨es,rfl,hok⟩:=Kerb.ents_of hall
  simp only [hall,hlen,Kerb.map_toEntry,decide_true,Xu,↓A0,A0]
  unfold Kerb.useEnt
  dsimp only
  have hf:=Kerb.find_count (es:=es) (n:=n) (i:=i)
  generalize Kerb.findEnt es n i=F at hf
  obtain ⟨j,e⟩:=F
  dsimp only at hf ⊢
  by_cases he:e=0
  case neg=>rw [sel_pos (by simpa using he),if_pos he]
  obtain ⟨_,f2,f3⟩:=hf he
  subst f2
  rw [sel_neg (by simpa using he),if_neg (by simpa using he),chk_of (by simp only [List.length_map,Bool.and_true,Xw,decide_eq_true_eq];omega),Int.toNat_natCast,Kerb.getD_ent f3]
  have hx:=hok _ (Kerb.ent_mem f3)
  generalize es.getD (es.findIdx (Kerb.Entry.named n i)) Kerb.noEntry=x at hx
  obtain ⟨_,_,x3,_⟩:=hx
  have h4:(decide (0≤x.key)&&decide (x.key<18446744073709551616))=true:=x3
  simp only [Zg,↓A0,A0,h4]
  cases hk:Yh x.key
  ·rfl
  simp only [Yz,Wn,sel_true,sel_false]
  rw [if_neg (by simp)]
  have hb:Zj .i64 (BitVec.toNat (BitVec.ofInt (Xv .i64) x.attr &&& BitVec.ofInt (Xv .i64) bit):Int)=Kerb.bitOf x.attr bit:=rfl
  rw [hb]
  by_cases h1:x.expires=0
  ·rw [sel_neg (by simp [h1]),if_neg (by simp [h1])]
   by_cases h2:Kerb.bitOf x.attr bit=0
   ·rw [sel_neg (by simp [h2]),if_neg (by simp [h2])]
   ·rw [sel_pos (by simpa using h2),if_pos h2]
  ·rw [sel_pos (by simpa using h1)]
   by_cases h3:x.expires≤now
   ·rw [sel_pos (by simpa using h3),if_pos ⟨h1,h3⟩]
   ·rw [sel_neg (by simpa using h3),if_neg (by simp [h3])]
    by_cases h2:Kerb.bitOf x.attr bit=0
    ·rw [sel_neg (by simp [h2]),if_neg (by simp [h2])]
    ·rw [sel_pos (by simpa using h2),if_pos h2]
 ·cases h
theorem w230:Walked Tryz.prog G 230 4 sp230:=by
 refine ⟨Tryz.f230,Tryz.func230,by decide +kernel,rfl,fun xs bl r h=> ?_⟩
 unfold sp230 at h
 split at h
 ·rename_i en ei ek ev ex em ea ef et fn fi fk fv fx fm fa ff ft
  cases h
  refine Eq.trans (b:=(some (Zz .i64 (if Kerb.cmpB en fn=0 then Kerb.cmpB ei fi else Kerb.cmpB en fn),[]):Option (AV×Blocks))) (by kernel_rfl) ?_
  rfl
 ·cases h
theorem w238:Walked Tryz.prog G 238 4 sp238:=by
 refine ⟨Tryz.f238,Tryz.func238,by decide +kernel,rfl,fun xs bl r h=> ?_⟩
 unfold sp238 at h
 split at h
 ·rename_i b n little
  obtain ⟨hpre,h2⟩:=chk_inv h;cases h2
  refine Eq.trans (b:=(Zq (chk (decide (Zx b≤70368744177664)) (some (Ym (b++Yd n (Zm 2) little),[]))) fun (r:AV×Blocks)=>onNilB (Yu r) (AV.onOwnB (Yj r) fun l=>some (Ym l,[])):Option (AV×Blocks))) (by kernel_rfl) ?_
  simp only [decide_eq_true_eq] at hpre
  simp only [A0]
  rw [chk_of (by simp;omega)]
  rfl
 ·cases h
theorem w243:Walked Tryz.prog G 243 4 sp243:=by
 refine ⟨Tryz.f243,Tryz.func243,by decide +kernel,rfl,fun xs bl r h=> ?_⟩
 unfold sp243 at h
 split at h
 ·rename_i b
  obtain ⟨hpre,h2⟩:=chk_inv h;cases h2
  refine Eq.trans (b:=(sel (!(↑(Zx b):Int)==8) (some (Yv [Zz .u64 0,Zf false],[])) (Zq (loopM (fun (st:List AV)=>cInt .u64 st fun n r=>cBs r fun b r=>cInt .i64 r fun n_1 r=>cInt .i64 r fun n_2 r=>onNil r (sel (decide (n_2<n_1)) (chk (decide (0≤n_2)&&decide (n_2<(↑(Zx b):Int))) (some (Sum.inl [Zz .u64 (Zj .u64 (↑(BitVec.toNat (BitVec.ofInt (Xv .u64) (Zj .u64 (n*2 ^ min (Zm 8) (Xv .u64))) ||| BitVec.ofInt (Xv .u64) (Zj .u64 (↑(Xk (Xd b (Zm n_2) (0:UInt8))):Int)))):Int)),Zh b,Zz .i64 n_1,Zz .i64 (Zj .i64 (n_2+1))]))) (some (Sum.inr (Vx 0,[Zz .u64 n,Zh b,Zz .i64 n_1,Zz .i64 n_2]))))) [Zz .u64 0,Zh b,Zz .i64 (↑(Zx b):Int),Zz .i64 0]) fun (r:Ex×List AV)=>cInt .u64 (Yu r) fun n r_1=>cBs r_1 fun b r_2=>cInt .i64 r_2 fun n_1 r_3=>cInt .i64 r_3 fun n_2 r_4=>onNil r_4 (exK r.1 none fun (j:Nat)=>sel (Nat.beq j 0) (Zq (chk (decide (0≤n)&&decide (n<18446744073709551616)) (some (Zf (Yh n),[]))) (kL fun b=>sel (!b) (some (Yv [Zz .u64 0,Zf false],[])) (some (Yv [Zz .u64 n,Zf true],[])))) none)):Option (AV×Blocks))) (by kernel_rfl) ?_
  delta kL
  try dsimp only [cStr,cBs,cBool,cU8,cInt,cSl,l63]
  have hb:=of_decide_eq_true hpre
  unfold Wj
  by_cases h8:b.length=8
  case neg =>
   rw [sel_pos (by simp;omega),if_neg (by omega)]
  rw [sel_neg (by simp [h8])]
  refine loop_rounds (fun i:Nat=>[Zz Yp (Kerb.valB (b.take i)),Zh b,Zz Zw (b.length:Int),Zz Zw (i:Int)]) (fun i=>i≤8) (fun i=>8-i)
   (fun r=>r=(Vx 0,[Zz Yp (Kerb.valB b),Zh b,Zz Zw (b.length:Int),Zz Zw 8])) 0 (by omega) rfl ?_ ?_
  ·intro i hi
   simp only [A0]
   by_cases hlt:i<8
   ·have hv:=Kerb.valB_take (l:=b) (i:=i) (by omega)
    have hbd:=Kerb.valB_bd7 (l:=b.take i) (by simp;omega)
    rw [sel_pos (by simp;omega),chk_of (by simp;omega),Int.toNat_natCast,Kerb.shl8_oru _ hbd.1 hbd.2,wrap_i64 (by omega) (by omega),← hv]
    exact ⟨_,rfl,i+1,rfl,by omega,by dsimp only;omega⟩
   ·rw [sel_neg (by simp;omega)]
    refine ⟨_,rfl,?_⟩
    show _=_
    rw [List.take_of_length_le (by omega),show i=8 from by omega]
    rfl
  rintro r rfl
  have hbd:=Kerb.valB_bd8 (l:=b) (by omega)
  simp only [A0]
  rw [sel_pos (Wm _),chk_of (by simp;omega)]
  cases hv:Yh (Kerb.valB b)
  ·rw [if_neg (by simp)]
   rfl
  ·rw [if_pos ⟨h8,rfl⟩]
   rfl
 ·cases h
theorem w30:Walked Tryz.prog G 30 5 sp30:=by
 refine ⟨Tryz.f30,Tryz.func30,by decide +kernel,rfl,fun xs bl r h=> ?_⟩
 unfold sp30 at h
 split at h
 ·rename_i b
  obtain ⟨hpre,h2⟩:=chk_inv h;cases h2
  refine Eq.trans (b:=(let t0:Option (AV×Blocks):=some (Yv [Zn [Zz .i64 0,Zz .i64 0,Zh []],Zz .i64 100],[]);sel (!Yu (Kerb.headIs b [9])==0) (some (Yv [Zn [Zz .i64 0,Zz .i64 0,Zh []],Zz .i64 (Yu (Kerb.headIs b [9]))],[])) (Zq (chk (decide (Zx b≤140737488355328)) (some (Zz .i64 (Yb (Yx b 2 1 false)),[[Zh b,Zz .i64 (bif false || !Yk (Yx b 2 1 false)==0 then 2 else Yf (Yx b 2 1 false)),Zf false,Zf !Yk (Yx b 2 1 false)==0]]))) fun (r:AV×Blocks)=>onConsB (Yu r) fun (x:List AV) (r_1:List (List AV))=>cBs x fun b_1 r_2=>cInt .i64 r_2 fun n r_3=>cBool r_3 fun b_2 r_4=>cBool r_4 fun b_3 r_5=>onNil r_5 (onNilB r_1 (Yq .i64 (Yj r) fun n_1=>Zq (chk (decide (Zx b_1≤140737488355328)) (some (Zz .i64 (Yb (Yx b_1 n 1 false)),[[Zh b_1,Zz .i64 (bif b_3 || !Yk (Yx b_1 n 1 false)==0 then n else Yf (Yx b_1 n 1 false)),Zf b_2,Zf (b_3 || !Yk (Yx b_1 n 1 false)==0)]]))) fun (r:AV×Blocks)=>onConsB (Yu r) fun (x:List AV) (r_6:List (List AV))=>cBs x fun b_4 r_7=>cInt .i64 r_7 fun n r_8=>cBool r_8 fun b_5 r_9=>cBool r_9 fun b_6 r_10=>onNil r_10 (onNilB r_6 (Yq .i64 (Yj r) fun n_2=>Zq (chk (decide (Zx b_4≤140737488355328)) (some (Zz .i64 (Yb (Yx b_4 n 2 b_5)),[[Zh b_4,Zz .i64 (bif b_6 || !Yk (Yx b_4 n 2 b_5)==0 then n else Yf (Yx b_4 n 2 b_5)),Zf b_5,Zf (b_6 || !Yk (Yx b_4 n 2 b_5)==0)]]))) fun (r:AV×Blocks)=>onConsB (Yu r) fun (x:List AV) (r_11:List (List AV))=>cBs x fun b_7 r_12=>cInt .i64 r_12 fun n r_13=>cBool r_13 fun b_8 r_14=>cBool r_14 fun b_9 r_15=>onNil r_15 (onNilB r_11 (Yq .i64 (Yj r) fun n_3=>Zq (chk (decide (Zx b_7≤140737488355328)) (some (Zh (Wb (Xy b_7 n n_3)),[[Zh b_7,Zz .i64 (bif b_9 || !Xf (Xy b_7 n n_3)==0 then n else Wd (Xy b_7 n n_3)),Zf b_8,Zf (b_9 || !Xf (Xy b_7 n n_3)==0)]]))) fun (r:AV×Blocks)=>onConsB (Yu r) fun (x:List AV) (r_16:List (List AV))=>cBs x fun b_10 r_17=>cInt .i64 r_17 fun n r_18=>cBool r_18 fun b_11 r_19=>cBool r_19 fun b_12 r_20=>onNil r_20 (onNilB r_16 (AV.onBs (Yj r) fun b_13=>sel b_12 t0 (sel (!Kerb.Enc.err (Vj (Kerb.KaReply.mk (Zj .i64 (n_1-128)) n_2 b_13))==0) t0 (sel (!Kerb.Enc.val (Vj (Kerb.KaReply.mk (Zj .i64 (n_1-128)) n_2 b_13))==b) t0 (some (Yv [Zn [Zz .i64 (Zj .i64 (n_1-128)),Zz .i64 n_2,Zh b_13],Zz .i64 0],[]))))))))))))):Option (AV×Blocks))) (by kernel_rfl) ?_
  try dsimp only [cStr,cBs,cBool,cU8,cInt,cSl,l63]
  have hb:=of_decide_eq_true hpre
  simp only [A0,hpre]
  by_cases h:(Kerb.headIs b [9]).2=0
  case neg =>
   rw [sel_pos (by simpa using h)]
   unfold Kerb.decodeKaReply
   rw [if_pos h]
   rfl
  have hd:Kerb.decodeKaReply b=Kerb.decBy Kerb.noKaReply Vj Kerb.rdKaRep b:=by unfold Kerb.decodeKaReply;rw [if_neg (by simpa using h),Kerb.decRep_ref]
  rw [sel_neg (by simp [h]),hd]
  have hg:=Kerb.get_bd b 2 1 false (by omega)
  rw [wrap_i64 (by omega) (by omega)]
  exact Kerb.decBy_fin (no:=Kerb.noKaReply) (enc:=Vj) (rd:=Kerb.rdKaRep) _ _ rfl (fun x e=>(Yv [Zn [Zz Zw (x).op,Zz Zw (x).code,Zh (x).box],Zz Zw e],([]:Blocks)))
 ·cases h
theorem w32:Walked Tryz.prog G 32 5 sp32:=by
 refine ⟨Tryz.f32,Tryz.func32,by decide +kernel,rfl,fun xs bl r h=> ?_⟩
 unfold sp32 at h
 split at h
 ·rename_i b kd k
  obtain ⟨hpre,h2⟩:=chk_inv h;cases h2
  refine Eq.trans (b:=(Zq (chk (decide (Zx b≤140737488355328)) (some (Yv [Zn [Zz .i64 (Kerb.Box.kind (Kerb.GotBox.box (Wg b))),Zz .u64 (Kerb.Box.key (Kerb.GotBox.box (Wg b))),Zh (Kerb.Box.body (Kerb.GotBox.box (Wg b)))],Zz .i64 (Kerb.GotBox.n (Wg b)),Zz .i64 (Kerb.GotBox.err (Wg b))],[]))) fun (r:AV×Blocks)=>onNilB (Yu r) (Xb (Yj r) fun vs=>onCons vs fun x r=>AV.onAgg x fun cs=>onCons cs fun x r_1=>Yq .i64 x fun n=>onCons r_1 fun x r_2=>Yq .u64 x fun n_1=>onCons r_2 fun x r_3=>AV.onBs x fun b_1=>onNil r_3 (onCons r fun x r=>Yq .i64 x fun n_2=>onCons r fun x r=>Yq .i64 x fun n_3=>onNil r (sel (!n_3==0) (some (Yv [Zh [],Zf false],[])) (sel (!n_2==(↑(Zx b):Int)) (some (Yv [Zh [],Zf false],[])) (sel (!n==kd) (some (Yv [Zh [],Zf false],[])) (sel (!n_1==k) (some (Yv [Zh [],Zf false],[])) (some (Yv [Zh b_1,Zf true],[])))))))):Option (AV×Blocks))) (by kernel_rfl) ?_
  simp only [↓A0,hpre]
  unfold Kerb.openBox
  generalize Wg b=r
  by_cases h1:r.err=0
  case neg=>rw [sel_pos (by simpa using h1),if_pos (.inl h1)]
  rw [sel_neg (by simpa using h1)]
  by_cases h2:r.n=b.length
  case neg=>rw [sel_pos (by simpa using h2),if_pos (.inr (.inl h2))]
  rw [sel_neg (by simpa using h2)]
  by_cases h3:r.box.kind=kd
  case neg=>rw [sel_pos (by simpa using h3),if_pos (.inr (.inr (.inl h3)))]
  rw [sel_neg (by simpa using h3)]
  by_cases h4:r.box.key=k
  case neg=>rw [sel_pos (by simpa using h4),if_pos (.inr (.inr (.inr h4)))]
  rw [sel_neg (by simpa using h4),if_neg (by simp [h1,h2,h3,h4])]
 ·cases h
set_option maxHeartbeats 1600000 in
theorem w33:Walked Tryz.prog G 33 5 sp33:=by
 refine ⟨Tryz.f33,Tryz.func33,by decide +kernel,rfl,fun xs bl r h=> ?_⟩
 unfold sp33 at h
 split at h
 ·rename_i b
  obtain ⟨hpre,h2⟩:=chk_inv h;cases h2
  refine Eq.trans (b:=(let t1:List AV:=[Zz .u64 0,Zz .i64 0,Zz .i64 0,Zz .i64 0,Zy [],Zy [],Zy [],Zh []];let t0:Option (AV×Blocks):=some (Yv [Zn (Zy []::Zz .i64 0::t1),Zz .i64 100],[]);Zq (chk (decide (Zx b≤140737488355328)) (some (Zh (Wb (Xy b 0 4)),[[Zh b,Zz .i64 (bif false || !Xf (Xy b 0 4)==0 then 0 else Wd (Xy b 0 4)),Zf false,Zf !Xf (Xy b 0 4)==0]]))) fun (r:AV×Blocks)=>onConsB (Yu r) fun (x:List AV) (r_1:List (List AV))=>cBs x fun b_1 r_2=>cInt .i64 r_2 fun n r_3=>cBool r_3 fun b_2 r_4=>cBool r_4 fun b_3 r_5=>onNil r_5 (onNilB r_1 (AV.onBs (Yj r) fun b_4=>Zq (chk (decide (Zx b_1≤140737488355328)) (some (Zz .i64 (Yb (Yx b_1 n 4 b_2)),[[Zh b_1,Zz .i64 (bif b_3 || !Yk (Yx b_1 n 4 b_2)==0 then n else Yf (Yx b_1 n 4 b_2)),Zf b_2,Zf (b_3 || !Yk (Yx b_1 n 4 b_2)==0)]]))) fun (r:AV×Blocks)=>onConsB (Yu r) fun (x:List AV) (r_6:List (List AV))=>cBs x fun b_5 r_7=>cInt .i64 r_7 fun n r_8=>cBool r_8 fun b_6 r_9=>cBool r_9 fun b_7 r_10=>onNil r_10 (onNilB r_6 (Yq .i64 (Yj r) fun n_1=>let t2:Kerb.Enc:=Xm (Kerb.KaAnswer.mk b_4 n_1 0 0 0 0 (Xj [] [] []) []);sel (!b_4==[(67:UInt8),(80:UInt8),(87:UInt8),(100:UInt8)]) (Zq (chk (decide (Zx b_5≤140737488355328)) (some (Zh (Wb (Xy b_5 n 8)),[[Zh b_5,Zz .i64 (bif b_7 || !Xf (Xy b_5 n 8)==0 then n else Wd (Xy b_5 n 8)),Zf b_6,Zf (b_7 || !Xf (Xy b_5 n 8)==0)]]))) fun (r:AV×Blocks)=>onConsB (Yu r) fun (x:List AV) (r_11:List (List AV))=>cBs x fun b_8 r_12=>cInt .i64 r_12 fun n r_13=>cBool r_13 fun b_9 r_14=>cBool r_14 fun b_10 r_15=>onNil r_15 (onNilB r_11 (AV.onBs (Yj r) fun b_11=>Zq (chk (decide (Zx b_11≤4611686018427387904)) (some (Yv [Zz .u64 (Yj (Wj b_11)),Zf (Yu (Wj b_11))],[]))) (kT fun vs=>cInt .u64 vs fun n_2 r=>cBool r fun b_12 r=>onNil r (Zq (chk (decide (Zx b_8≤140737488355328)) (some (Zz .i64 (Yb (Yx b_8 n 4 b_9)),[[Zh b_8,Zz .i64 (bif b_10 || !Yk (Yx b_8 n 4 b_9)==0 then n else Yf (Yx b_8 n 4 b_9)),Zf b_9,Zf (b_10 || !Yk (Yx b_8 n 4 b_9)==0)]]))) fun (r:AV×Blocks)=>onConsB (Yu r) fun (x:List AV) (r_16:List (List AV))=>cBs x fun b_13 r_17=>cInt .i64 r_17 fun n r_18=>cBool r_18 fun b_14 r_19=>cBool r_19 fun b_15 r_20=>onNil r_20 (onNilB r_16 (Yq .i64 (Yj r) fun n_3=>Zq (chk (decide (Zx b_13≤140737488355328)) (some (Zz .i64 (Yb (Yx b_13 n 4 b_14)),[[Zh b_13,Zz .i64 (bif b_15 || !Yk (Yx b_13 n 4 b_14)==0 then n else Yf (Yx b_13 n 4 b_14)),Zf b_14,Zf (b_15 || !Yk (Yx b_13 n 4 b_14)==0)]]))) fun (r:AV×Blocks)=>onConsB (Yu r) fun (x:List AV) (r_21:List (List AV))=>cBs x fun b_16 r_22=>cInt .i64 r_22 fun n r_23=>cBool r_23 fun b_17 r_24=>cBool r_24 fun b_18 r_25=>onNil r_25 (onNilB r_21 (Yq .i64 (Yj r) fun n_4=>Zq (chk (decide (Zx b_16≤140737488355328)) (some (Zz .i64 (Yb (Yx b_16 n 1 false)),[[Zh b_16,Zz .i64 (bif b_18 || !Yk (Yx b_16 n 1 false)==0 then n else Yf (Yx b_16 n 1 false)),Zf b_17,Zf (b_18 || !Yk (Yx b_16 n 1 false)==0)]]))) fun (r:AV×Blocks)=>onConsB (Yu r) fun (x:List AV) (r_26:List (List AV))=>cBs x fun b_19 r_27=>cInt .i64 r_27 fun n r_28=>cBool r_28 fun b_20 r_29=>cBool r_29 fun b_21 r_30=>onNil r_30 (onNilB r_26 (Yq .i64 (Yj r) fun n_5=>Zq (chk (decide (Zx b_19≤140737488355328)) (some (Zn [Zy (Ww (Kerb.RdP.p (Kerb.rdPrin b_19 n b_21))),Zy (Wv (Kerb.RdP.p (Kerb.rdPrin b_19 n b_21))),Zy (Wy (Kerb.RdP.p (Kerb.rdPrin b_19 n b_21)))],[[Zh b_19,Zz .i64 (Kerb.RdP.pos (Kerb.rdPrin b_19 n b_21)),Zf b_20,Zf (Kerb.RdP.bad (Kerb.rdPrin b_19 n b_21))]]))) fun (r:AV×Blocks)=>onConsB (Yu r) fun (x:List AV) (r_31:List (List AV))=>cBs x fun b_22 r_32=>cInt .i64 r_32 fun n r_33=>cBool r_33 fun b_23 r_34=>cBool r_34 fun b_24 r_35=>onNil r_35 (onNilB r_31 (AV.onAgg (Yj r) fun cs=>cStr cs fun b_25 r=>cStr r fun b_26 r=>cStr r fun b_27 r=>onNil r (Zq (chk (decide (Zx b_22≤140737488355328)) (some (Zz .i64 (Yb (Yx b_22 n 1 false)),[[Zh b_22,Zz .i64 (bif b_24 || !Yk (Yx b_22 n 1 false)==0 then n else Yf (Yx b_22 n 1 false)),Zf b_23,Zf (b_24 || !Yk (Yx b_22 n 1 false)==0)]]))) fun (r:AV×Blocks)=>onConsB (Yu r) fun (x:List AV) (r_36:List (List AV))=>cBs x fun b_28 r_37=>cInt .i64 r_37 fun n r_38=>cBool r_38 fun b_29 r_39=>cBool r_39 fun b_30 r_40=>onNil r_40 (onNilB r_36 (Yq .i64 (Yj r) fun n_6=>Zq (chk (decide (Zx b_28≤140737488355328)) (some (Zh (Wb (Xy b_28 n n_6)),[[Zh b_28,Zz .i64 (bif b_30 || !Xf (Xy b_28 n n_6)==0 then n else Wd (Xy b_28 n n_6)),Zf b_29,Zf (b_30 || !Xf (Xy b_28 n n_6)==0)]]))) fun (r:AV×Blocks)=>onConsB (Yu r) fun (x:List AV) (r_41:List (List AV))=>cBs x fun b_31 r_42=>cInt .i64 r_42 fun n r_43=>cBool r_43 fun b_32 r_44=>cBool r_44 fun b_33 r_45=>onNil r_45 (onNilB r_41 (AV.onBs (Yj r) fun b_34=>Zq (chk (l63 b_25&&l63 b_26&&l63 b_27&&decide (0≤n_2)&&decide (n_2<18446744073709551616)) (some (Yv [Zh (Kerb.Enc.val (Xm (Kerb.KaAnswer.mk b_4 n_1 n_2 n_3 n_4 n_5 (Xj b_25 b_26 b_27) b_34))),Zz .i64 (Kerb.Enc.err (Xm (Kerb.KaAnswer.mk b_4 n_1 n_2 n_3 n_4 n_5 (Xj b_25 b_26 b_27) b_34)))],[]))) (kT fun vs=>cBs vs fun b_35 r=>cInt .i64 r fun n r=>onNil r (sel b_33 t0 (sel (!n==0) t0 (sel (!b_35==b) t0 (some (Yv [Zn [Zy b_4,Zz .i64 n_1,Zz .u64 n_2,Zz .i64 n_3,Zz .i64 n_4,Zz .i64 n_5,Zy b_25,Zy b_26,Zy b_27,Zh b_34],Zz .i64 0],[])))))))))))))))))))))))) (sel b_7 t0 (sel (!Kerb.Enc.err t2==0) t0 (sel (!Kerb.Enc.val t2==b) t0 (some (Yv [Zn (Zy b_4::Zz .i64 n_1::t1),Zz .i64 0],[]))))))))):Option (AV×Blocks))) (by kernel_rfl) ?_
  delta kT
  try dsimp only [cStr,cBs,cBool,cU8,cInt,cSl,l63]
  have eGet:([103,84,71,83]:List UInt8)=Kerb.lGet:=rfl
  have eTick:([103,84,75,84]:List UInt8)=Kerb.lTicket:=rfl
  have eChg:([67,80,87,108]:List UInt8)=Kerb.lChange:=rfl
  have eDone:([67,80,87,100]:List UInt8)=Vq:=rfl
  have eGot:([116,103,115,84]:List UInt8)=Kerb.lGot:=rfl
  have eGiven:([116,107,116,71]:List UInt8)=Kerb.lGiven:=rfl
  have hb:=of_decide_eq_true hpre
  simp only [A0,hpre,eDone]
  rw [Kerb.decAns_ref]
  cases e2:((Xy b 0 4).val==Vq)
  ·have e3:((Kerb.rdBytes b 4 0 false).val==Vq)=false:=e2
   have hl:∀ p n,(Xy b p n).val.length≤4611686018427387904:=fun p n=>Nat.le_trans (Kerb.bytes_len b p n) (by omega)
   have hk:∀ q,0≤(Wj q).1∧(Wj q).1<18446744073709551616:=Kerb.keyRead_bd
   have lp:=Kerb.rdPrin_len b
   rw [Wn,sel_true,chk_of (by simp only [decide_eq_true_eq];exact hl _ _),chk_of (by simp only [Xw,decide_eq_true_eq];exact ⟨⟨⟨⟨Nat.le_trans (lp _ _).1 (by omega),Nat.le_trans (lp _ _).2.1 (by omega)⟩,Nat.le_trans (lp _ _).2.2 (by omega)⟩,(hk _).1⟩,(hk _).2⟩)]
   exact Kerb.decBy_fin (no:=Kerb.noKaAnswer) (enc:=Xm) (rd:=Kerb.rdKaAns) _ _ (by unfold Kerb.rdKaAns Kerb.rAns;dsimp only;rw [e3];rfl) (fun x e=>(Yv [Zn [Zy (x).label,Zz Zw (x).time,Zz Yp (x).session,Zz Zw (x).start,Zz Zw (x).stop,Zz Zw (x).kvno,Zy (x).service.name,Zy (x).service.inst,Zy (x).service.realm,Zh (x).ticket],Zz Zw e],([]:Blocks)))
  ·have e3:((Kerb.rdBytes b 4 0 false).val==Vq)=true:=e2
   refine Eq.trans (sel_neg rfl _ _) ?_
   exact Kerb.decBy_fin (no:=Kerb.noKaAnswer) (enc:=Xm) (rd:=Kerb.rdKaAns) _ _ (by unfold Kerb.rdKaAns Kerb.rAns;dsimp only;rw [e3];rfl) (fun x e=>(Yv [Zn [Zy (x).label,Zz Zw (x).time,Zz Yp (x).session,Zz Zw (x).start,Zz Zw (x).stop,Zz Zw (x).kvno,Zy (x).service.name,Zy (x).service.inst,Zy (x).service.realm,Zh (x).ticket],Zz Zw e],([]:Blocks)))
 ·cases h
theorem w94:Walked Tryz.prog G 94 5 sp94:=by
 refine ⟨Tryz.f94,Tryz.func94,by decide +kernel,rfl,fun xs bl r h=> ?_⟩
 unfold sp94 at h
 split at h
 ·rename_i lb t st en k
  obtain ⟨hpre,h2⟩:=chk_inv h;cases h2
  refine Eq.trans (b:=(Zq (chk (decide (0≤k)&&decide (k<18446744073709551616)) (some (Zz .i64 (Kerb.Enc.err (Kerb.encodeKaSecret (Kerb.KaSecret.mk lb t st en k))),[]))) (kI .i64 fun n=>sel (!n==0) (some (Yv [Zh [],Zz .i64 n],[])) (Zq (chk (decide (Zx lb≤70368744177664)) (some (Ym (lb++Yd t 4 false),[]))) (kO fun l=>sel (Kerb.timed lb) (Zq (chk (decide (Zx l≤70368744177664)) (some (Ym (l++Yd st 4 false),[]))) (kO fun l=>Zq (chk (decide (Zx l≤70368744177664)) (some (Ym (l++Yd en 4 false),[]))) (kO fun l=>Zq (chk (decide (Zx l≤70368744177664)) (some (Zh (Kerb.pad l),[]))) (kB fun b=>some (Yv [Zh b,Zz .i64 0],[]))))) (Zq (chk (decide (0≤k)&&decide (k<18446744073709551616)) (some (Zh (Kerb.keyBytes k),[]))) (kB fun b=>chk (room (Zx l+Zx b) 1) (Zq (chk (decide (Zx (l++b)≤70368744177664)) (some (Zh (Kerb.pad (l++b)),[]))) (kB fun b=>some (Yv [Zh b,Zz .i64 0],[])))))))):Option (AV×Blocks))) (by kernel_rfl) ?_
  delta kB kO kI
  try dsimp only [cStr,cBs,cBool,cU8,cInt,cSl,l63]
  simp only [A0,hpre]
  by_cases he:(Kerb.encodeKaSecret (Kerb.KaSecret.mk lb t st en k)).err=0
  case neg=>rw [sel_pos (by simpa using he),Kerb.encKaSec_no he]
  rw [sel_neg (by simp [he]),he]
  have hl:lb.length=4:=by
   obtain ⟨_,⟨_,h4,_⟩ | ⟨h4,_⟩⟩:=Kerb.encKaSec_inv he
   ·exact h4
   ·simp only at h4;rw [h4];rfl
  rw [chk_of (by simp;omega)]
  rcases Kerb.encKaSec_val he with ⟨ht,hv⟩ | ⟨ht,hv⟩
  ·rw [sel_pos ht,hv,chk_of (by simp [Zp];omega),chk_of (by simp [Zp];omega),chk_of (by simp [Zp];omega)]
  ·rw [sel_neg ht,hv,chk_of (Xx (by simp [Zp,Zk];omega)),chk_of (by simp [Zp,Zk];omega)]
 ·cases h
theorem w126:Walked Tryz.prog G 126 5 sp126:=by
 refine ⟨Tryz.f126,Tryz.func126,by decide +kernel,rfl,fun xs bl r h=> ?_⟩
 unfold sp126 at h
 split at h
 ·rename_i s
  obtain ⟨hpre,h2⟩:=chk_inv h;cases h2
  refine Eq.trans (b:=(sel (!s==[]) (sel (decide ((↑(Zx s):Int)≤39)) (Zq (chk (decide (Zx s≤9223372036854775807)) (some (Zf (Xh s [(46:UInt8),(64:UInt8)]),[]))) fun (r:AV×Blocks)=>onNilB (Yu r) (Wk (Yj r) fun b=>some (Zf b,[]))) (some (Zf false,[]))) (some (Zf false,[])):Option (AV×Blocks))) (by kernel_rfl) ?_
  simp only [A0]
  rw [chk_of hpre,decide_eq_decide.2 (show ((s.length:Int)≤39)↔s.length≤39 from by omega)]
  simp only [Vv]
  cases s with
  | nil=>rfl
  | cons x r=>cases decide ((x::r).length≤39)<;>rfl
 ·cases h
theorem w127:Walked Tryz.prog G 127 5 sp127:=by
 refine ⟨Tryz.f127,Tryz.func127,by decide +kernel,rfl,fun xs bl r h=> ?_⟩
 unfold sp127 at h
 split at h
 ·rename_i s
  obtain ⟨hpre,h2⟩:=chk_inv h;cases h2
  refine Eq.trans (b:=(sel (decide ((↑(Zx s):Int)≤39)) (Zq (chk (decide (Zx s≤9223372036854775807)) (some (Zf (Xh s [(64:UInt8)]),[]))) fun (r:AV×Blocks)=>onNilB (Yu r) (Wk (Yj r) fun b=>some (Zf b,[]))) (some (Zf false,[])):Option (AV×Blocks))) (by kernel_rfl) ?_
  simp only [A0]
  rw [chk_of hpre,decide_eq_decide.2 (show ((s.length:Int)≤39)↔s.length≤39 from by omega)]
  simp only [Vu]
  cases decide (s.length≤39)<;>rfl
 ·cases h
theorem w137:Walked Tryz.prog G 137 5 sp137:=by
 refine ⟨Tryz.f137,Tryz.func137,by decide +kernel,rfl,fun xs bl r h=> ?_⟩
 unfold sp137 at h
 split at h
 ·rename_i li x y z ad k lf iss sv ins
  obtain ⟨hpre,h2⟩:=chk_inv h;cases h2
  refine Eq.trans (b:=(let t0:Nat:=Zx ([]++Yd 0 1 false)+Zx x+Zx y+Zx z;let t1:Nat:=Zx ([]++Yd 1 1 false)+Zx x+Zx y+Zx z;let t2:Option (AV×Blocks):=chk (decide (0≤k)&&decide (k<18446744073709551616)) (some (Zh (Kerb.keyBytes k),[]));Zq (chk (l63 x&&l63 y&&l63 z&&l63 sv&&l63 ins&&decide (0≤k)&&decide (k<18446744073709551616)) (some (Zz .i64 (Kerb.Ticket.err (Kerb.Ticket.mk li (Xj x y z) ad k lf iss sv ins)),[]))) (kI .i64 fun n=>sel (!n==0) (some (Yv [Zh [],Zz .i64 n],[])) (sel li (Zq (chk (decide (t1≤70368744170000)) (some (Zh (Kerb.putPrin ([]++Yd 1 1 false) (Xj x y z)),[]))) (kB fun b=>Zq (chk (decide (Zx b≤70368744177664)) (some (Ym (b++Yd ad 4 li),[]))) (kO fun l=>Zq t2 (kB fun b=>chk (room (Zx l+Zx b) 1) (Zq (chk (decide (Zx (l++b)≤70368744177664)) (some (Ym (l++b++Yd lf 1 false),[]))) (kO fun l=>Zq (chk (decide (Zx l≤70368744177664)) (some (Ym (l++Yd iss 4 li),[]))) (kO fun l=>Zq (chk (decide (Zx l+Zx sv≤70368744177664)) (some (Zh (Yg l sv),[]))) (kB fun b=>Zq (chk (decide (Zx b+Zx ins≤70368744177664)) (some (Zh (Yg b ins),[]))) (kB fun b=>Zq (chk (decide (Zx b≤70368744177664)) (some (Ym (Kerb.pad b),[]))) (kO fun l=>some (Yv [Zh l,Zz .i64 0],[]))))))))))) (Zq (chk (decide (t0≤70368744170000)) (some (Zh (Kerb.putPrin ([]++Yd 0 1 false) (Xj x y z)),[]))) (kB fun b=>Zq (chk (decide (Zx b≤70368744177664)) (some (Ym (b++Yd ad 4 li),[]))) (kO fun l=>Zq t2 (kB fun b=>chk (room (Zx l+Zx b) 1) (Zq (chk (decide (Zx (l++b)≤70368744177664)) (some (Ym (l++b++Yd lf 1 false),[]))) (kO fun l=>Zq (chk (decide (Zx l≤70368744177664)) (some (Ym (l++Yd iss 4 li),[]))) (kO fun l=>Zq (chk (decide (Zx l+Zx sv≤70368744177664)) (some (Zh (Yg l sv),[]))) (kB fun b=>Zq (chk (decide (Zx b+Zx ins≤70368744177664)) (some (Zh (Yg b ins),[]))) (kB fun b=>Zq (chk (decide (Zx b≤70368744177664)) (some (Ym (Kerb.pad b),[]))) (kO fun l=>some (Yv [Zh l,Zz .i64 0],[]))))))))))))):Option (AV×Blocks))) (by kernel_rfl) ?_
  delta kB kO kI
  try dsimp only [cStr,cBs,cBool,cU8,cInt,cSl,l63]
  simp only [Xw,decide_eq_true_eq] at hpre
  obtain ⟨⟨⟨⟨⟨⟨h1,h2⟩,h3⟩,h4⟩,h5⟩,h6⟩,h7⟩:=hpre
  simp only [h1,h2,h3,h4,h5,h6,h7,decide_true,Xu,↓A0,A0]
  have hb := @Kerb.encTicket_inv ⟨li,⟨x,y,z⟩,ad,k,lf,iss,sv,ins⟩
  unfold Kerb.encodeTicket at hb ⊢
  dsimp only at hb ⊢
  generalize hE:Kerb.Ticket.err _=e at hb ⊢
  by_cases he:e=0
  case neg=>rw [sel_pos (by simpa using he),if_pos he]
  rw [if_neg (by simpa using he)] at hb
  obtain ⟨v1,v2,v3,_⟩:=hb rfl
  have l1:=Kerb.valid_len v1
  have l2:=(Kerb.name_ok v2).1
  have l3:=(Kerb.inst_ok v3).1
  dsimp only at l1
  rw [sel_neg (by simpa using he),if_neg (by simpa using he)]
  cases li
  ·rw [sel_false,chk_of (by first | (simp [Zb,Zp,Zk];done) | (simp [Zb,Zp,Zk];omega)),chk_of (by first | (simp [Zb,Zp,Zk];done) | (simp [Zb,Zp,Zk];omega)),chk_of (Xx (by first | (simp [Zb,Zp,Zk];done) | (simp [Zb,Zp,Zk];omega))),chk_of (by first | (simp [Zb,Zp,Zk];done) | (simp [Zb,Zp,Zk];omega)),chk_of (by first | (simp [Zb,Zp,Zk];done) | (simp [Zb,Zp,Zk];omega)),chk_of (by first | (simp [Zb,Zp,Zk];done) | (simp [Zb,Zp,Zk];omega)),chk_of (by first | (simp [Yg,Zb,Zp,Zk];done) | (simp [Yg,Zb,Zp,Zk];omega)),chk_of (by first | (simp [Yg,Zb,Zp,Zk];done) | (simp [Yg,Zb,Zp,Zk];omega))]
   simp
  ·rw [sel_true,chk_of (by first | (simp [Zb,Zp,Zk];done) | (simp [Zb,Zp,Zk];omega)),chk_of (by first | (simp [Zb,Zp,Zk];done) | (simp [Zb,Zp,Zk];omega)),chk_of (Xx (by first | (simp [Zb,Zp,Zk];done) | (simp [Zb,Zp,Zk];omega))),chk_of (by first | (simp [Zb,Zp,Zk];done) | (simp [Zb,Zp,Zk];omega)),chk_of (by first | (simp [Zb,Zp,Zk];done) | (simp [Zb,Zp,Zk];omega)),chk_of (by first | (simp [Zb,Zp,Zk];done) | (simp [Zb,Zp,Zk];omega)),chk_of (by first | (simp [Yg,Zb,Zp,Zk];done) | (simp [Yg,Zb,Zp,Zk];omega)),chk_of (by first | (simp [Yg,Zb,Zp,Zk];done) | (simp [Yg,Zb,Zp,Zk];omega))]
   simp
 ·cases h
end Go.Proofs.YtaikjfcgemjghaaGreat
