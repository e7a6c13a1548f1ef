/- What the functions of this seat compute. -/
import Derived.Test.YtaikjfcgemjghaaGreatTab
import Derived.Test.YtaikjfcgemjghaaGreatKerbPlain
import Derived.Test.YtaikjfcgemjghaaGreatAbsStep
import Derived.Test.YtaikjfcgemjghaaGreatKerbKaPlain
import Derived.Test.YtaikjfcgemjghaaGreatKerbKaRef
import Derived.Test.YtaikjfcgemjghaaGreatKerbCli3
import Derived.Test.YtaikjfcgemjghaaGreatKerbCli4
import Derived.Test.YtaikjfcgemjghaaGreatKerbCli5
import Derived.Test.YtaikjfcgemjghaaGreatKerbSrvL
import Derived.Test.YtaikjfcgemjghaaGreatKerbKac2
open Go.Abs.AV renaming int→Zz,str→Zy,agg→Zf,bool→Zg,bs→Zm,tup→Yv,onInt→Yu,ownB→Xw,onTup→Xn,u8→Wj,sl→Wk,onBool→Wd,undef→Wb,onBs→Vp
open Go.IntKind renaming i64→Zx,wrap→Zj,u64→Yp,bits→Xd
open List renaming length→Zw,getD→Xx,append→Xk,take→Xm,drop→Xh,range_succ→Wf,replicate→Vq
open Kerb renaming service→Zv,user→Zu,putN_len→Zp,simpleEnt→Zd,keyBytes_len→Zb,putPrin_len→Zh,u8i→Yy,get→Yx,within→Yj,putN→Yd,putText→Yf,indexOf→Yb,long→Ym,encodeKaRequest→Xv,keyValid→Xu,bytes→Xq,room_ok→Xf,text→Xb,printable→Wy,bfd→Wv,putText_len→Wp,encodeKaReply→Wg,imin→Wn,keyRead→Wm,toEntry→Vv,validName→Vj,validInst→Vk,headIs→Vd,encodeTicket→Vf,byteAt→Vg,bfd_eq→Vb
open Option renaming bind→Zq
open Kerb.Entry renaming av→Zk
open Int renaming toNat→Zn,tmod→Xg,toNat_natCast→Vz
open Prod renaming snd→Yz,fst→Yw
open Bool renaming not_true→Yq,and_self→Xz,and_eq_true→Xy
open Kerb.Got renaming err→Yk,next→Yg,val→Yn
open Kerb.GotB renaming err→Yh,next→Wz,val→Ww
open UInt8 renaming toNat→Xj
open Kerb.Prin renaming mk→Xp,realm→Wx,name→Wu,inst→Wq,valid→Vn
open Nat renaming beq_refl→Wh,le_trans→Vu
open Go.Abs.Ex renaming exit→Vy
open Kerb.KaRequest renaming mk→Vx
open Kerb.Enc renaming err→Vw,val→Vm
namespace Go.Proofs.YtaikjfcgemjghaaGreat
open Go Go.Abs Go.Proofs
set_option linter.unusedVariables false
set_option linter.unusedSimpArgs false
set_option maxRecDepth 100000
theorem w152:Walked Tryz.prog G 152 3 sp152:=by
 refine ⟨Tryz.f152,Tryz.func152,by decide +kernel,rfl,fun xs bl r h=> ?_⟩
 unfold sp152 at h
 split at h
 ·rename_i n w els
  obtain ⟨hpre,h2⟩:=chk_inv h;cases h2
  refine Eq.trans (b:=(sel (!Yj n 4294967295) (some (Yv [Zz .i64 0,Zg false],[])) (sel (decide (Kerb.least w [255]<0)) (some (Yv [Zz .i64 0,Zg false],[])) (Zq (chk (allInts els&&decide (Zw els≤1000000)) (some (Zz .i64 (Kerb.least (Kerb.tEnd n (Kerb.least w [255])) (intsIn els)),[]))) fun (r:AV×Blocks)=>onNilB (Yz r) (Yu .i64 (Yw r) fun n_1=>sel (decide (n_1<n)) (some (Yv [Zz .i64 0,Zg false],[])) (Zq (chk (decide ((-9223372036854775808:Int)≤Zj .i64 (n_1-n))&&decide (Zj .i64 (n_1-n)≤9223372036854775807)) (some (Yv [Zz .i64 (bif decide (Zj .i64 (n_1-n)<300) then 0 else Kerb.fromSec (Zj .i64 (n_1-n))),Zg !decide (Zj .i64 (n_1-n)<300)],[]))) fun (r:AV×Blocks)=>onNilB (Yz r) (Xn (Yw r) fun vs=>onCons vs fun x r=>Yu .i64 x fun n=>onCons r fun x r=>Wd x fun b=>onNil r (some (Yv [Zz .i64 n,Zg b],[]))))))):Option (AV×Blocks))) (by kernel_rfl) ?_
  simp only [Xy,decide_eq_true_eq] at hpre
  obtain ⟨⟨ha,hl⟩,hi⟩:=hpre
  have hl0:Kerb.least w [255]=Wn w 255:=rfl
  simp only [hl0,ha,hl,decide_true,Xz,↓A0,A0]
  unfold Kerb.grantLife
  cases hn:Yj n 4294967295
  ·rfl
  rw [sel_neg (by rfl)]
  have n1:=Kerb.within_iff.1 hn
  by_cases hw:w<0
  ·have h5:Wn w 255<0:=by unfold Wn;split<;>omega
   rw [sel_pos (by simpa using h5),if_pos (by simp [hw])]
  have hm:0≤Wn w 255∧Wn w 255≤255:=by unfold Wn;split<;>omega
  rw [sel_neg (by simp;omega),if_neg (by simp [hw])]
  have ht:Kerb.tEnd n (Wn w 255)=n+300*(Wn w 255+1):=by
   unfold Kerb.tEnd
   rw [if_pos (by rw [hn,Kerb.within_iff.2 hm];rfl)]
  rw [ht]
  have hle:=Kerb.least_le (intsIn els) (n+300*(Wn w 255+1))
  generalize Kerb.least (n+300*(Wn w 255+1)) (intsIn els)=L at hle ⊢
  by_cases h1:L<n
  ·rw [sel_pos (by simpa using h1),if_pos (by omega)]
  rw [sel_neg (by simpa using h1),wrap_i64 (by omega) (by omega),chk_of (by simp;omega)]
  by_cases h2:L-n<300
  ·rw [if_pos h2,show decide (L-n<300)=true from by simpa using h2];rfl
  ·rw [if_neg h2,show decide (L-n<300)=false from by simpa using h2]
   unfold Kerb.fromSec
   rw [Int.tdiv_eq_ediv_of_nonneg (by omega)]
   rfl
 ·cases h
theorem w153:Walked Tryz.prog G 153 3 sp153:=by
 refine ⟨Tryz.f153,Tryz.func153,by decide +kernel,rfl,fun xs bl r h=> ?_⟩
 unfold sp153 at h
 split at h
 ·rename_i k
  obtain ⟨hpre,h2⟩:=chk_inv h;cases h2
  refine Eq.trans (b:=(Zq (chk (decide (0≤k)&&decide (k<18446744073709551616)) (some (Yv [Zz .i64 (bif Xu k then Kerb.keyClass k else 0),Zz .i64 (bif Xu k then Kerb.keySerial k else 0),Zg (Xu k)],[]))) fun (r:AV×Blocks)=>onNilB (Yz r) (Xn (Yw r) fun vs=>onCons vs fun x r=>Yu .i64 x fun n=>onCons r fun x r=>Yu .i64 x fun n_1=>onCons r fun x r=>Wd x fun b=>onNil r (some (Zz .i64 n,[]))):Option (AV×Blocks))) (by kernel_rfl) ?_
  simp only [hpre,↓A0,A0]
  rfl
 ·cases h
theorem w162:Walked Tryz.prog G 162 3 sp162:=by
 refine ⟨Tryz.f162,Tryz.func162,by decide +kernel,rfl,fun xs bl r h=> ?_⟩
 unfold sp162 at h
 split at h
 ·rename_i b pos
  obtain ⟨hpre,h2⟩:=chk_inv h;cases h2
  refine Eq.trans (b:=(Zq (chk (decide (Zw b≤140737488355328)&&true&&true) (some (Yv [Zz .i64 (Yn (Yx b pos 1 false)),Zz .i64 (Yg (Yx b pos 1 false)),Zz .i64 (Yk (Yx b pos 1 false))],[]))) fun (r:AV×Blocks)=>onNilB (Yz r) (Xn (Yw r) fun vs=>onCons vs fun x r=>Yu .i64 x fun n=>onCons r fun x r=>Yu .i64 x fun n_1=>onCons r fun x r=>Yu .i64 x fun n_2=>onNil r (some (Yv [Zz .i64 n,Zz .i64 n_1,Zz .i64 n_2],[]))):Option (AV×Blocks))) (by kernel_rfl) ?_
  simp only [A0]
  rw [chk_of (by rw [hpre];rfl)]
 ·cases h
theorem w166:Walked Tryz.prog G 166 3 sp166:=by
 refine ⟨Tryz.f166,Tryz.func166,by decide +kernel,rfl,fun xs bl r h=> ?_⟩
 unfold sp166 at h
 split at h
 ·rename_i b pos little
  obtain ⟨hpre,h2⟩:=chk_inv h;cases h2
  refine Eq.trans (b:=(Zq (chk (decide (Zw b≤140737488355328)&&true&&true) (some (Yv [Zz .i64 (Yn (Yx b pos 2 little)),Zz .i64 (Yg (Yx b pos 2 little)),Zz .i64 (Yk (Yx b pos 2 little))],[]))) fun (r:AV×Blocks)=>onNilB (Yz r) (Xn (Yw r) fun vs=>onCons vs fun x r=>Yu .i64 x fun n=>onCons r fun x r=>Yu .i64 x fun n_1=>onCons r fun x r=>Yu .i64 x fun n_2=>onNil r (some (Yv [Zz .i64 n,Zz .i64 n_1,Zz .i64 n_2],[]))):Option (AV×Blocks))) (by kernel_rfl) ?_
  simp only [A0]
  rw [chk_of (by rw [hpre];rfl)]
 ·cases h
theorem w182:Walked Tryz.prog G 182 3 sp182:=by
 refine ⟨Tryz.f182,Tryz.func182,by decide +kernel,rfl,fun xs bl r h=> ?_⟩
 unfold sp182 at h
 split at h
 ·rename_i b
  obtain ⟨hpre,h2⟩:=chk_inv h;cases h2
  refine Eq.trans (b:=(chk (decide (0≤Xg (Zj .i64 (8-Xg (↑(Zw b):Int) 8)) 8)&&decide (Xg (Zj .i64 (8-Xg (↑(Zw b):Int) 8)) 8≤Xg (Zj .i64 (8-Xg (↑(Zw b):Int) 8)) 8)&&decide (Xg (Zj .i64 (8-Xg (↑(Zw b):Int) 8)) 8≤140737488355328)) (Zq (chk (decide (Zw (Xk b (Xk (Vq (Zn (Xg (Zj .i64 (8-Xg (↑(Zw b):Int) 8)) 8)) (0:UInt8)) []))≤140737488355328)&&decide (Zw [Zm b,Zm (Vq (Zn (Xg (Zj .i64 (8-Xg (↑(Zw b):Int) 8)) 8)) (0:UInt8))]≤1000)) (some (Xw (Xk b (Xk (Vq (Zn (Xg (Zj .i64 (8-Xg (↑(Zw b):Int) 8)) 8)) (0:UInt8)) [])),[]))) fun (r:AV×Blocks)=>onNilB (Yz r) (AV.onOwnB (Yw r) fun l=>some (Zm l,[]))):Option (AV×Blocks))) (by kernel_rfl) ?_
  have hb:=of_decide_eq_true hpre
  rw [Kerb.pad_eq hb]
  simp only [A0]
  rw [chk_of (by simp;omega),chk_of (by simp;omega)]
  simp [Kerb.pad]
  omega
 ·cases h
theorem w187:Walked Tryz.prog G 187 3 sp187:=by
 refine ⟨Tryz.f187,Tryz.func187,by decide +kernel,rfl,fun xs bl r h=> ?_⟩
 unfold sp187 at h
 split at h
 ·rename_i b s
  obtain ⟨hpre,h2⟩:=chk_inv h;cases h2
  refine Eq.trans (b:=(Zq (chk (decide (Zw (Xk b (Xk s ((0:UInt8)::Xk [] [])))≤140737488355328)&&decide (Zw [Zm b,Zm s,Zm [(0:UInt8)]]≤1000)) (some (Xw (Xk b (Xk s ((0:UInt8)::Xk [] []))),[]))) fun (r:AV×Blocks)=>onNilB (Yz r) (AV.onOwnB (Yw r) fun l=>some (Zm l,[])):Option (AV×Blocks))) (by kernel_rfl) ?_
  simp only [decide_eq_true_eq] at hpre
  simp only [A0]
  rw [chk_of (by simp;omega)]
  simp [Yf]
 ·cases h
theorem w198:Walked Tryz.prog G 198 3 sp198:=by
 refine ⟨Tryz.f198,Tryz.func198,by decide +kernel,rfl,fun xs bl r h=> ?_⟩
 unfold sp198 at h
 split at h
 ·rename_i b pos
  obtain ⟨hpre,h2⟩:=chk_inv h;cases h2
  refine Eq.trans (b:=(Zq (chk (decide (Zw b≤4611686018427387904)&&true&&true) (some (Yv [Zz .i64 (Yn (Yx b pos 1 false)),Zz .i64 (Yg (Yx b pos 1 false)),Zz .i64 (Yk (Yx b pos 1 false))],[]))) fun (r:AV×Blocks)=>onNilB (Yz r) (Xn (Yw r) fun vs=>onCons vs fun x r=>Yu .i64 x fun n=>onCons r fun x r=>Yu .i64 x fun n_1=>onCons r fun x r=>Yu .i64 x fun n_2=>onNil r (some (Yv [Zz .i64 n,Zz .i64 n_1,Zz .i64 n_2],[]))):Option (AV×Blocks))) (by kernel_rfl) ?_
  simp only [A0]
  rw [chk_of (by rw [hpre];rfl)]
 ·cases h
theorem w201:Walked Tryz.prog G 201 3 sp201:=by
 refine ⟨Tryz.f201,Tryz.func201,by decide +kernel,rfl,fun xs bl r h=> ?_⟩
 unfold sp201 at h
 split at h
 ·rename_i b pos little
  obtain ⟨hpre,h2⟩:=chk_inv h;cases h2
  refine Eq.trans (b:=(Zq (chk (decide (Zw b≤4611686018427387904)&&true&&true) (some (Yv [Zz .i64 (Yn (Yx b pos 2 little)),Zz .i64 (Yg (Yx b pos 2 little)),Zz .i64 (Yk (Yx b pos 2 little))],[]))) fun (r:AV×Blocks)=>onNilB (Yz r) (Xn (Yw r) fun vs=>onCons vs fun x r=>Yu .i64 x fun n=>onCons r fun x r=>Yu .i64 x fun n_1=>onCons r fun x r=>Yu .i64 x fun n_2=>onNil r (some (Yv [Zz .i64 n,Zz .i64 n_1,Zz .i64 n_2],[]))):Option (AV×Blocks))) (by kernel_rfl) ?_
  simp only [A0]
  rw [chk_of (by rw [hpre];rfl)]
 ·cases h
theorem w214:Walked Tryz.prog G 214 3 sp214:=by
 refine ⟨Tryz.f214,Tryz.func214,by decide +kernel,rfl,fun xs bl r h=> ?_⟩
 unfold sp214 at h
 split at h
 ·rename_i b pos
  obtain ⟨hpre,h2⟩:=chk_inv h;cases h2
  refine Eq.trans (b:=(let t5:List UInt8:=Xh (Zn pos) (Xm (Zn (↑(Zw b):Int)) b);let t6:Option (AV×Blocks):=some (Yv [Zy [],Zz .i64 0,Zz .i64 105],[]);let t7:Option (AV×Blocks):=some (Yv [Zy [],Zz .i64 0,Zz .i64 101],[]);let t1:Int:=Yb (0:UInt8) t5;let t2:Int:=(↑(Zw t5):Int);let t4:List UInt8:=Xh (Zn (↑(0:Nat):Int)) (Xm (Zn 40) t5);let t0:Int:=Yb (0:UInt8) t4;let t3:Int:=(↑(Zw t4):Int);Zq (chk (decide (Zw b≤4611686018427387904)) (some (Zz .i64 (Kerb.room b pos 0),[]))) (kI .i64 fun n=>sel (!n==0) (some (Yv [Zy [],Zz .i64 0,Zz .i64 n],[])) (chk (decide (0≤pos)&&decide (pos≤(↑(Zw b):Int))&&decide ((↑(Zw b):Int)≤(↑(Zw b):Int))) (sel (decide (t2>40)) (chk (decide (40≤t2)) (sel (decide (t0≥0)) (chk (decide ((↑(0:Nat):Int)≤t0)&&decide (t0≤t3)) (some (Yv [Zy (Xh (Zn (↑(0:Nat):Int)) (Xm (Zn t0) t4)),Zz .i64 (Zj .i64 (Zj .i64 (pos+t0)+1)),Zz .i64 0],[]))) (sel (t3==40) t6 t7))) (sel (decide (t1≥0)) (chk (decide ((↑(0:Nat):Int)≤t1)&&decide (t1≤t2)) (some (Yv [Zy (Xh (Zn (↑(0:Nat):Int)) (Xm (Zn t1) t5)),Zz .i64 (Zj .i64 (Zj .i64 (pos+t1)+1)),Zz .i64 0],[]))) (sel (t2==40) t6 t7))))):Option (AV×Blocks))) (by kernel_rfl) ?_
  delta kI
  try dsimp only [cStr,cBs,cBool,cU8,cInt,cSl,l63]
  simp only [decide_eq_true_eq] at hpre
  simp only [A0]
  rw [chk_of (by simpa using hpre)]
  have ht:(Xm (Zn (b.length:Int)) b)=b:=by simp
  rw [ht]
  unfold Xb
  by_cases hr:Kerb.room b pos 0=0
  case neg =>
   have h104:Kerb.room b pos 0=104:=by
    unfold Kerb.room at hr ⊢
    split at hr
    ·rw [if_pos (by assumption)]
    ·split at hr<;>omega
   rw [sel_pos (by simpa using hr),if_neg hr,h104]
  obtain ⟨q1,q2,_,_⟩:=Kerb.room_zero.1 hr
  rw [sel_neg (by simp [hr]),if_pos hr,chk_of (by simp;omega)]
  obtain ⟨R,hR⟩:∃ R,R=b.drop pos.toNat:=⟨_,rfl⟩
  have hRl:R.length=b.length-pos.toNat:=by rw [hR];simp
  rw [← hR]
  obtain ⟨T,hT⟩:∃ T,T=R.take 40:=⟨_,rfl⟩
  have hix:=Kerb.indexOf_bd 0 T
  have key:(sel (decide (Yb (0:UInt8) T≥(0:Int)))
    (chk (decide (((0:Nat):Int)≤Yb (0:UInt8) T)&&decide (Yb (0:UInt8) T≤(T.length:Int)))
     (some (Yv [Zy (Xh (Zn ((0:Nat):Int)) (Xm (Zn (Yb (0:UInt8) T)) T)),Zz Zx (Zj Zx (Zj Zx (pos+Yb (0:UInt8) T)+(1:Int))),Zz Zx (0:Int)],([]:Blocks))))
    (sel (((T.length:Int))==(40:Int)) (some (Yv [Zy [],Zz Zx (0:Int),Zz Zx (105:Int)],[]))
     (some (Yv [Zy [],Zz Zx (0:Int),Zz Zx (101:Int)],[])))) =
    some (Yv [Zy (if 0≤Yb 0 T then (⟨T.take (Yb 0 T).toNat,pos+Yb 0 T+1,0⟩:Kerb.GotB) else if T.length=40 then ⟨[],0,105⟩ else ⟨[],0,101⟩).val,
     Zz Zx (if 0≤Yb 0 T then (⟨T.take (Yb 0 T).toNat,pos+Yb 0 T+1,0⟩:Kerb.GotB) else if T.length=40 then ⟨[],0,105⟩ else ⟨[],0,101⟩).next,
     Zz Zx (if 0≤Yb 0 T then (⟨T.take (Yb 0 T).toNat,pos+Yb 0 T+1,0⟩:Kerb.GotB) else if T.length=40 then ⟨[],0,105⟩ else ⟨[],0,101⟩).err],[]):=by
   have hTl:T.length≤b.length-pos.toNat:=by rw [hT];simp;omega
   by_cases hi:0≤Yb 0 T
   ·rw [sel_pos (by simpa using hi),chk_of (by simp;omega),if_pos hi,wrap_i64 (n:=pos+Yb 0 T) (by omega) (by omega),wrap_i64 (by omega) (by omega)]
    rfl
   ·rw [sel_neg (by simp;omega),if_neg hi]
    by_cases h40:T.length=40
    ·rw [sel_pos (by simp [h40]),if_pos h40]
    ·rw [sel_neg (by simp;omega),if_neg h40]
  by_cases hlong:40<R.length
  ·rw [sel_pos (by simp;omega),chk_of (by simp;omega)]
   have e1:Xh (Zn ((0:Nat):Int)) (Xm (Zn (40:Int)) R)=T:=by rw [hT];rfl
   rw [e1]
   rw [← hT]
   exact key
  ·rw [sel_neg (by simp;omega)]
   have e1:R=T:=by rw [hT,List.take_of_length_le (by omega)]
   rw [← hT,e1]
   exact key
 ·cases h
theorem w218:Walked Tryz.prog G 218 3 sp218:=by
 refine ⟨Tryz.f218,Tryz.func218,by decide +kernel,rfl,fun xs bl r h=> ?_⟩
 unfold sp218 at h
 split at h
 ·rename_i i l n s
  cases h
  refine Eq.trans (b:=(sel (!Yj i 4294967295) (some (Zz .i64 104,[])) (sel (!Yj n 4294967295) (some (Zz .i64 104,[])) (sel (!Yj l 255) (some (Zz .i64 104,[])) (sel (!Yj s 4294967295) (some (Zz .i64 104,[])) (sel (decide (i>Zj .i64 (n+s))) (some (Zz .i64 33,[])) (sel (decide (n>Zj .i64 (Kerb.tEnd i l+s))) (some (Zz .i64 32,[])) (some (Zz .i64 0,[]))))))):Option (AV×Blocks))) (by kernel_rfl) ?_
  unfold Kerb.stateErr
  cases h1:Yj i 4294967295
  ·rfl
  cases h2:Yj n 4294967295
  ·rfl
  cases h3:Yj l 255
  ·rfl
  cases h4:Yj s 4294967295
  ·rfl
  have b1:=Kerb.within_iff.1 h1
  have b2:=Kerb.within_iff.1 h2
  have b3:=Kerb.within_iff.1 h3
  have b4:=Kerb.within_iff.1 h4
  have he:Kerb.tEnd i l=i+300*(l+1):=by simp [Kerb.tEnd,h1,h3]
  simp only [Yq,sel_false,Xz,Bool.false_eq_true,if_false,he]
  rw [wrap_i64 (by omega) (by omega),wrap_i64 (by omega) (by omega)]
  by_cases h5:n+s<i
  ·rw [sel_pos (by simpa using h5),if_pos h5]
  rw [sel_neg (by simpa using h5),if_neg h5]
  by_cases h6:i+300*(l+1)+s<n
  ·rw [sel_pos (by simpa using h6),if_pos h6]
  rw [sel_neg (by simpa using h6),if_neg h6]
 ·cases h
theorem w235:Walked Tryz.prog G 235 3 sp235:=by
 refine ⟨Tryz.f235,Tryz.func235,by decide +kernel,rfl,fun xs bl r h=> ?_⟩
 unfold sp235 at h
 split at h
 ·rename_i b n k little
  obtain ⟨hpre,h2⟩:=chk_inv h;cases h2
  refine Eq.trans (b:=(Zq (loopM (fun (st:List AV)=>cBs st fun b r=>cInt .i64 r fun n r=>cInt .i64 r fun n_1 r=>cBool r fun b_1 r=>cBs r fun c r=>cInt .i64 r fun n_2 r=>cInt .i64 r fun n_3 r=>let t0:Int:=Zj .i64 (Zj .i64 (n_1-1)-n_3);let t1:UInt8:=UInt8.ofNat (Zn (Zj .u8 (Int.fdiv n (2 ^ min (Zn (Zj .i64 (8*n_3))) (Xd .i64)))));onNil r (sel (decide (n_3<n_2)) (sel (!b_1) (chk (decide (0≤Zj .i64 (8*n_3))) (chk (decide (0≤t0)&&decide (t0<(↑(Zw c):Int))&&Nat.beq (Zw c) 4&&true) (chk (Nat.blt (Zn t0) (Zw c)&&true&&true&&true&&true) (some (Sum.inl [Zm b,Zz .i64 n,Zz .i64 n_1,Zg b_1,Zm (List.set c (Zn t0) t1),Zz .i64 n_2,Zz .i64 (Zj .i64 (n_3+1))]))))) (chk (decide (0≤Zj .i64 (8*n_3))) (chk (decide (0≤n_3)&&decide (n_3<(↑(Zw c):Int))&&Nat.beq (Zw c) 4&&true) (chk (Nat.blt (Zn n_3) (Zw c)&&true&&true&&true&&true) (some (Sum.inl [Zm b,Zz .i64 n,Zz .i64 n_1,Zg b_1,Zm (List.set c (Zn n_3) t1),Zz .i64 n_2,Zz .i64 (Zj .i64 (n_3+1))])))))) (some (Sum.inr (Vy 0,[Zm b,Zz .i64 n,Zz .i64 n_1,Zg b_1,Zm c,Zz .i64 n_2,Zz .i64 n_3]))))) [Zm b,Zz .i64 n,Zz .i64 k,Zg little,Zm [(0:UInt8),(0:UInt8),(0:UInt8),(0:UInt8)],Zz .i64 k,Zz .i64 0]) fun (r:Ex×List AV)=>cBs (Yz r) fun b r_1=>cInt .i64 r_1 fun n r_2=>cInt .i64 r_2 fun n r_3=>cBool r_3 fun b_1 r_4=>cBs r_4 fun c r_5=>let t2:Nat:=Zw [Zm b,Zm (Xh (Zn (↑(0:Nat):Int)) (Xm (Zn n) c))];let t3:Nat:=Zw (Xk b (Xk (Xh (Zn (↑(0:Nat):Int)) (Xm (Zn n) c)) []));cInt .i64 r_5 fun n_1 r_6=>cInt .i64 r_6 fun n_2 r_7=>onNil r_7 (exK r.1 none fun (j:Nat)=>sel (Nat.beq j 0) (chk (decide ((↑(0:Nat):Int)≤n)&&decide (n≤(↑(Zw c):Int))&&Nat.beq (Zw c) 4) (Zq (chk (decide (t3≤140737488355328)&&decide (t2≤1000)) (some (Xw (Xk b (Xk (Xh (Zn (↑(0:Nat):Int)) (Xm (Zn n) c)) [])),[]))) (kO fun l=>some (Xw l,[])))) none):Option (AV×Blocks))) (by kernel_rfl) ?_
  delta kO
  try dsimp only [cStr,cBs,cBool,cU8,cInt,cSl,l63]
  simp only [Xy,decide_eq_true_eq] at hpre
  obtain ⟨hk,hb⟩:=hpre
  rcases hk with rfl | rfl | rfl<;>cases little
  ·refine loop_unroll 2 (Vy 0,[Zm b,Zz Zx n,Zz Zx 1,Zg false,Zm [Wv n 0,(0:UInt8),(0:UInt8),(0:UInt8)],Zz Zx 1,Zz Zx 1]) (by kernel_rfl) ?_
   simp only [A0]
   rw [sel_pos (Wh _),chk_of (by simp),chk_of (by simp;omega)]
   simp [Vb,Yd,Vg,Wf]
  ·refine loop_unroll 2 (Vy 0,[Zm b,Zz Zx n,Zz Zx 1,Zg true,Zm [Wv n 0,(0:UInt8),(0:UInt8),(0:UInt8)],Zz Zx 1,Zz Zx 1]) (by kernel_rfl) ?_
   simp only [A0]
   rw [sel_pos (Wh _),chk_of (by simp),chk_of (by simp;omega)]
   simp [Vb,Yd,Vg,Wf]
  ·refine loop_unroll 3 (Vy 0,[Zm b,Zz Zx n,Zz Zx 2,Zg false,Zm [Wv n 8,Wv n 0,(0:UInt8),(0:UInt8)],Zz Zx 2,Zz Zx 2]) (by kernel_rfl) ?_
   simp only [A0]
   rw [sel_pos (Wh _),chk_of (by simp),chk_of (by simp;omega)]
   simp [Vb,Yd,Vg,Wf]
  ·refine loop_unroll 3 (Vy 0,[Zm b,Zz Zx n,Zz Zx 2,Zg true,Zm [Wv n 0,Wv n 8,(0:UInt8),(0:UInt8)],Zz Zx 2,Zz Zx 2]) (by kernel_rfl) ?_
   simp only [A0]
   rw [sel_pos (Wh _),chk_of (by simp),chk_of (by simp;omega)]
   simp [Vb,Yd,Vg,Wf]
  ·refine loop_unroll 5 (Vy 0,[Zm b,Zz Zx n,Zz Zx 4,Zg false,Zm [Wv n 24,Wv n 16,Wv n 8,Wv n 0],Zz Zx 4,Zz Zx 4]) (by kernel_rfl) ?_
   simp only [A0]
   rw [sel_pos (Wh _),chk_of (by simp),chk_of (by simp;omega)]
   simp [Vb,Yd,Vg,Wf]
  ·refine loop_unroll 5 (Vy 0,[Zm b,Zz Zx n,Zz Zx 4,Zg true,Zm [Wv n 0,Wv n 8,Wv n 16,Wv n 24],Zz Zx 4,Zz Zx 4]) (by kernel_rfl) ?_
   simp only [A0]
   rw [sel_pos (Wh _),chk_of (by simp),chk_of (by simp;omega)]
   simp [Vb,Yd,Vg,Wf]
 ·cases h
theorem w244:Walked Tryz.prog G 244 3 sp244:=by
 refine ⟨Tryz.f244,Tryz.func244,by decide +kernel,rfl,fun xs bl r h=> ?_⟩
 unfold sp244 at h
 split at h
 ·rename_i b pos little
  obtain ⟨hpre,h2⟩:=chk_inv h;cases h2
  refine Eq.trans (b:=(Zq (chk (decide (Zw b≤4611686018427387904)&&true&&true) (some (Yv [Zz .i64 (Yn (Yx b pos 4 little)),Zz .i64 (Yg (Yx b pos 4 little)),Zz .i64 (Yk (Yx b pos 4 little))],[]))) fun (r:AV×Blocks)=>onNilB (Yz r) (Xn (Yw r) fun vs=>onCons vs fun x r=>Yu .i64 x fun n=>onCons r fun x r=>Yu .i64 x fun n_1=>onCons r fun x r=>Yu .i64 x fun n_2=>onNil r (some (Yv [Zz .i64 n,Zz .i64 n_1,Zz .i64 n_2],[]))):Option (AV×Blocks))) (by kernel_rfl) ?_
  simp only [A0]
  rw [chk_of (by rw [hpre];rfl)]
 ·cases h
theorem w246:Walked Tryz.prog G 246 3 sp246:=by
 refine ⟨Tryz.f246,Tryz.func246,by decide +kernel,rfl,fun xs bl r h=> ?_⟩
 unfold sp246 at h
 split at h
 ·rename_i s c
  cases h
  refine Eq.trans (b:=(some (Zz .i64 (Yb c s),[]):Option (AV×Blocks))) (by kernel_rfl) ?_
  rfl
 ·cases h
theorem w256:Walked Tryz.prog G 256 3 sp256:=by
 refine ⟨Tryz.f256,Tryz.func256,by decide +kernel,rfl,fun xs bl r h=> ?_⟩
 unfold sp256 at h
 split at h
 ·rename_i a b
  cases h
  refine Eq.trans (b:=(some (Zz .i64 (Kerb.cmpB a b),[]):Option (AV×Blocks))) (by kernel_rfl) ?_
  rfl
 ·cases h
theorem w10:Walked Tryz.prog G 10 4 sp10:=by
 refine ⟨Tryz.f10,Tryz.func10,by decide +kernel,rfl,fun xs bl r h=> ?_⟩
 unfold sp10 at h
 split at h
 ·rename_i lf xp bd
  cases h
  refine Eq.trans (b:=(Zq (loopM (fun (st:List AV)=>cU8 st fun b r=>cU8 r fun b_1 r=>cU8 r fun b_2 r=>cStr r fun b_3 r=>cSl 9 r fun b_4 r=>cStr r fun b_5 r=>onCons r fun x r=>AV.onOwnL x fun y=>cSl 3 r fun b_6 r=>cInt .i64 r fun n r=>onNil r (sel (decide (n<(↑(Zw b_6):Int))) (chk (decide (0≤n)&&decide (n<(↑(Zw b_6):Int))&&true) (AV.onAgg (Xx b_6 (Zn n) Wb) fun cs=>cStr cs fun b_7 r=>cStr r fun b_8 r=>cStr r fun b_9 r=>onNil r (chk (decide (0≤n)&&decide (n<(↑(Zw b_6):Int))&&true) (AV.onAgg (Xx b_6 (Zn n) Wb) fun cs=>cStr cs fun b_10 r=>cStr r fun b_11 r=>cStr r fun b_12 r=>onNil r (Zq (chk (decide (0≤n)&&decide (n≤1000)) (some (Zz .u64 (Ym n),[]))) (kI .u64 fun n_1=>Zq (sel (Xg (Zj .i64 (↑(Xj b_2):Int)) 16==n) (some [Wj b,Wj b_1,Wj b_2,Zy b_3,Wk 9 b_4,Zy b_5,AV.ownL y,Wk 3 b_6,Zz .i64 n,Zy b_7,Zy b_11,Zz .u64 n_1,Zz .i64 (Zj .i64 (3+n)),Zz .i64 0,Zz .i64 (Zj .i64 (↑(Xj b):Int)),Zz .i64 (Zj .i64 (1+Xg (Zj .i64 (Int.tdiv (Zj .i64 (↑(Xj b_2):Int)) 16)) 3)),Zz .i64 0,Zz .i64 0]) (some [Wj b,Wj b_1,Wj b_2,Zy b_3,Wk 9 b_4,Zy b_5,AV.ownL y,Wk 3 b_6,Zz .i64 n,Zy b_7,Zy b_11,Zz .u64 n_1,Zz .i64 (Zj .i64 (3+n)),Zz .i64 0,Zz .i64 (Zj .i64 (↑(Xj b):Int)),Zz .i64 0,Zz .i64 0,Zz .i64 0])) fun l=>cU8 l fun b r=>cU8 r fun b_13 r=>cU8 r fun b_14 r=>cStr r fun b_15 r=>cSl 9 r fun b_16 r=>cStr r fun b_17 r=>onCons r fun x r=>AV.onOwnL x fun y=>cSl 3 r fun b_18 r=>cInt .i64 r fun n r=>cStr r fun b_19 r=>cStr r fun b_20 r=>cInt .u64 r fun n_2 r=>cInt .i64 r fun n_3 r=>cInt .i64 r fun n_4 r=>cInt .i64 r fun n_5 r=>cInt .i64 r fun n_6 r=>cInt .i64 r fun n_7 r=>cInt .i64 r fun n_8 r=>let t0:List AV:=[Zz .i64 n_5,Zz .i64 n_6,Zz .i64 n_7,Zz .i64 n_8];onNil r (Zq (sel (Xg (Zj .i64 (↑(Xj b_14):Int)) 16==Zj .i64 (8+n)) (some (Wj b::Wj b_13::Wj b_14::Zy b_15::Wk 9 b_16::Zy b_17::AV.ownL y::Wk 3 b_18::Zz .i64 n::Zy b_19::Zy b_20::Zz .u64 n_2::Zz .i64 n_3::Zz .i64 (Zj .i64 (1000+Zj .i64 (Zj .i64 (↑(Xj b_13):Int)*100)))::t0)) (some (Wj b::Wj b_13::Wj b_14::Zy b_15::Wk 9 b_16::Zy b_17::AV.ownL y::Wk 3 b_18::Zz .i64 n::Zy b_19::Zy b_20::Zz .u64 n_2::Zz .i64 n_3::Zz .i64 n_4::t0))) fun l=>cU8 l fun b r=>cU8 r fun b_21 r=>cU8 r fun b_22 r=>cStr r fun b_23 r=>cSl 9 r fun b_24 r=>cStr r fun b_25 r=>onCons r fun x r=>AV.onOwnL x fun y=>cSl 3 r fun b_26 r=>cInt .i64 r fun n r=>cStr r fun b_27 r=>cStr r fun b_28 r=>cInt .u64 r fun n_9 r=>cInt .i64 r fun n_10 r=>cInt .i64 r fun n_11 r=>cInt .i64 r fun n_12 r=>cInt .i64 r fun n_13 r=>cInt .i64 r fun n_14 r=>cInt .i64 r fun n_15 r=>let t1:List AV:=[Zf [Zy b_27,Zy b_28,Zz .u64 n_9,Zz .i64 n_10,Zz .i64 n_11,Zz .i64 n_12,Zz .i64 n_13,Zz .i64 n_14,Zz .i64 n_15]];onNil r (chk (room (Zw y+Zw t1) (nat_lit 88)) (some (Sum.inl [Wj b,Wj b_21,Wj b_22,Zy b_23,Wk 9 b_24,Zy b_25,AV.ownL (y++t1),Wk 3 b_26,Zz .i64 (Zj .i64 (n+1))])))))))))) (some (Sum.inr (Vy 0,[Wj b,Wj b_1,Wj b_2,Zy b_3,Wk 9 b_4,Zy b_5,AV.ownL y,Wk 3 b_6,Zz .i64 n]))))) [Wj lf,Wj xp,Wj bd,Zy [],Wk 9 [],Zy [(65:UInt8),(84:UInt8),(72:UInt8)],AV.ownL [],Wk 3 [Zf [Zy (Wu (Zu 0)),Zy (Wq (Zu 0)),Zy (Wx (Zu 0))],Zf [Zy (Wu (Zu 1)),Zy (Wq (Zu 1)),Zy (Wx (Zu 1))],Zf [Zy (Wu (Zu 2)),Zy (Wq (Zu 2)),Zy (Wx (Zu 2))],Zf [Zy (Wu (Zv 2)),Zy (Wq (Zv 2)),Zy (Wx (Zv 2))],Zf [Zy (Wu (Zv 0)),Zy (Wq (Zv 0)),Zy (Wx (Zv 0))],Zf [Zy (Wu (Zv 1)),Zy (Wq (Zv 1)),Zy (Wx (Zv 1))]],Zz .i64 0]) fun (r:Ex×List AV)=>cU8 (Yz r) fun b r_1=>cU8 r_1 fun b r_2=>cU8 r_2 fun b r_3=>cStr r_3 fun b r_4=>cSl 9 r_4 fun b_1 r_5=>cStr r_5 fun b_2 r_6=>onCons r_6 fun x r_7=>AV.onOwnL x fun y=>cSl 3 r_7 fun b_3 r_8=>cInt .i64 r_8 fun n r_9=>onNil r_9 (exK r.1 (some (Zf [Zy b,Wk 9 b_1],[])) fun (j:Nat)=>sel (Nat.beq j 0) (some (Zf [Zy b_2,Wk 9 y],[])) none):Option (AV×Blocks))) (by kernel_rfl) ?_
  delta kI
  try dsimp only [cStr,cBs,cBool,cU8,cInt,cSl,l63]
  have b0:=Kerb.u8i_bd lf
  have b1:=Kerb.u8i_bd xp
  have b2:=Kerb.u8i_bd bd
  have e0:=Kerb.wrap_u8i
  have e1:Xg (Yy bd) 16=Yy bd % 16:=Int.tmod_eq_emod_of_nonneg b2.1
  have e2:Zj .i64 (1000+Zj .i64 (Yy xp*100))=1000+Yy xp*100:=by rw [wrap_i64 (n:=Yy xp*100) (by omega) (by omega),wrap_i64 (by omega) (by omega)]
  have e3:Zj .i64 (1+Xg (Zj .i64 (Int.tdiv (Yy bd) 16)) 3)=1+Yy bd / 16 % 3:=by
   rw [Int.tdiv_eq_ediv_of_nonneg b2.1,wrap_i64 (n:=Yy bd / 16) (by omega) (by omega),Int.tmod_eq_emod_of_nonneg (by omega),wrap_i64 (by omega) (by omega)]
  refine loop_rounds (fun i:Nat=>[Wj lf,Wj xp,Wj bd,Zy [],Wk 9 [],Zy [65,84,72],AV.ownL (((Kerb.simpleDb lf xp bd).entries.take i).map Zk),Wk 3 [Zf [Zy (Zu 0).name,Zy (Zu 0).inst,Zy (Zu 0).realm],Zf [Zy (Zu 1).name,Zy (Zu 1).inst,Zy (Zu 1).realm],Zf [Zy (Zu 2).name,Zy (Zu 2).inst,Zy (Zu 2).realm],Zf [Zy (Zv 2).name,Zy (Zv 2).inst,Zy (Zv 2).realm],Zf [Zy (Zv 0).name,Zy (Zv 0).inst,Zy (Zv 0).realm],Zf [Zy (Zv 1).name,Zy (Zv 1).inst,Zy (Zv 1).realm]],Zz Zx (i:Int)]) (fun i=>i≤6) (fun i=>6-i)
   (fun r=>r=(Vy 0,[Wj lf,Wj xp,Wj bd,Zy [],Wk 9 [],Zy [65,84,72],AV.ownL ((Kerb.simpleDb lf xp bd).entries.map Zk),Wk 3 [Zf [Zy (Zu 0).name,Zy (Zu 0).inst,Zy (Zu 0).realm],Zf [Zy (Zu 1).name,Zy (Zu 1).inst,Zy (Zu 1).realm],Zf [Zy (Zu 2).name,Zy (Zu 2).inst,Zy (Zu 2).realm],Zf [Zy (Zv 2).name,Zy (Zv 2).inst,Zy (Zv 2).realm],Zf [Zy (Zv 0).name,Zy (Zv 0).inst,Zy (Zv 0).realm],Zf [Zy (Zv 1).name,Zy (Zv 1).inst,Zy (Zv 1).realm]],Zz Zx 6])) 0 (by decide) rfl ?_ ?_
  ·intro i hi
   have hc:i=0∨i=1∨i=2∨i=3∨i=4∨i=5∨i=6:=by omega
   rcases hc with rfl | rfl | rfl | rfl | rfl | rfl | rfl
   ·have g:Xx [Zf [Zy (Zu 0).name,Zy (Zu 0).inst,Zy (Zu 0).realm],Zf [Zy (Zu 1).name,Zy (Zu 1).inst,Zy (Zu 1).realm],Zf [Zy (Zu 2).name,Zy (Zu 2).inst,Zy (Zu 2).realm],Zf [Zy (Zv 2).name,Zy (Zv 2).inst,Zy (Zv 2).realm],Zf [Zy (Zv 0).name,Zy (Zv 0).inst,Zy (Zv 0).realm],Zf [Zy (Zv 1).name,Zy (Zv 1).inst,Zy (Zv 1).realm]] (Zn ((0:Nat):Int)) Wb=Zf [Zy (Zu 0).name,Zy (Zu 0).inst,Zy (Zu 0).realm]:=rfl
    have k0:decide (((0:Nat):Int)<((Zw [Zf [Zy (Zu 0).name,Zy (Zu 0).inst,Zy (Zu 0).realm],Zf [Zy (Zu 1).name,Zy (Zu 1).inst,Zy (Zu 1).realm],Zf [Zy (Zu 2).name,Zy (Zu 2).inst,Zy (Zu 2).realm],Zf [Zy (Zv 2).name,Zy (Zv 2).inst,Zy (Zv 2).realm],Zf [Zy (Zv 0).name,Zy (Zv 0).inst,Zy (Zv 0).realm],Zf [Zy (Zv 1).name,Zy (Zv 1).inst,Zy (Zv 1).realm]]:Nat):Int))=true:=rfl
    have k1:decide ((0:Int)≤((0:Nat):Int))=true:=rfl
    have k2:decide (((0:Nat):Int)≤1000)=true:=rfl
    have k3:Zj .i64 (3+((0:Nat):Int))=3+((0:Nat):Int):=rfl
    have k4:Zj .i64 (8+((0:Nat):Int))=8+((0:Nat):Int):=rfl
    simp only [g,k0,k1,k2,k3,k4,e0,e1,e2,e3,Xz,↓A0,A0]
    by_cases h1:Yy bd % 16=((0:Nat):Int)
    all_goals by_cases h2:Yy bd % 16=8+((0:Nat):Int)
    ·have hE:Zk (Zd ((0:Nat):Int) (Zu 0) lf xp bd)=Zf [Zy (Zu 0).name,Zy (Zu 0).inst,Zz Yp (Ym ((0:Nat):Int)),Zz Zx (3+((0:Nat):Int)),Zz Zx (1000+Yy xp*100),Zz Zx (Yy lf),Zz Zx (1+Yy bd / 16 % 3),Zz Zx 0,Zz Zx 0]:=by
      unfold Zk Zd
      dsimp only
      rw [if_pos h2,if_pos h1]
     rw [sel_pos (by simpa using h1),sel_pos (by simpa using h2),chk_of (by rfl),← hE]
     exact ⟨_,rfl,1,rfl,by decide,by decide⟩
    ·have hE:Zk (Zd ((0:Nat):Int) (Zu 0) lf xp bd)=Zf [Zy (Zu 0).name,Zy (Zu 0).inst,Zz Yp (Ym ((0:Nat):Int)),Zz Zx (3+((0:Nat):Int)),Zz Zx (0),Zz Zx (Yy lf),Zz Zx (1+Yy bd / 16 % 3),Zz Zx 0,Zz Zx 0]:=by
      unfold Zk Zd
      dsimp only
      rw [if_neg h2,if_pos h1]
     rw [sel_pos (by simpa using h1),sel_neg (by simpa using h2),chk_of (by rfl),← hE]
     exact ⟨_,rfl,1,rfl,by decide,by decide⟩
    ·have hE:Zk (Zd ((0:Nat):Int) (Zu 0) lf xp bd)=Zf [Zy (Zu 0).name,Zy (Zu 0).inst,Zz Yp (Ym ((0:Nat):Int)),Zz Zx (3+((0:Nat):Int)),Zz Zx (1000+Yy xp*100),Zz Zx (Yy lf),Zz Zx (0),Zz Zx 0,Zz Zx 0]:=by
      unfold Zk Zd
      dsimp only
      rw [if_pos h2,if_neg h1]
     rw [sel_neg (by simpa using h1),sel_pos (by simpa using h2),chk_of (by rfl),← hE]
     exact ⟨_,rfl,1,rfl,by decide,by decide⟩
    ·have hE:Zk (Zd ((0:Nat):Int) (Zu 0) lf xp bd)=Zf [Zy (Zu 0).name,Zy (Zu 0).inst,Zz Yp (Ym ((0:Nat):Int)),Zz Zx (3+((0:Nat):Int)),Zz Zx (0),Zz Zx (Yy lf),Zz Zx (0),Zz Zx 0,Zz Zx 0]:=by
      unfold Zk Zd
      dsimp only
      rw [if_neg h2,if_neg h1]
     rw [sel_neg (by simpa using h1),sel_neg (by simpa using h2),chk_of (by rfl),← hE]
     exact ⟨_,rfl,1,rfl,by decide,by decide⟩
   ·have g:Xx [Zf [Zy (Zu 0).name,Zy (Zu 0).inst,Zy (Zu 0).realm],Zf [Zy (Zu 1).name,Zy (Zu 1).inst,Zy (Zu 1).realm],Zf [Zy (Zu 2).name,Zy (Zu 2).inst,Zy (Zu 2).realm],Zf [Zy (Zv 2).name,Zy (Zv 2).inst,Zy (Zv 2).realm],Zf [Zy (Zv 0).name,Zy (Zv 0).inst,Zy (Zv 0).realm],Zf [Zy (Zv 1).name,Zy (Zv 1).inst,Zy (Zv 1).realm]] (Zn ((1:Nat):Int)) Wb=Zf [Zy (Zu 1).name,Zy (Zu 1).inst,Zy (Zu 1).realm]:=rfl
    have k0:decide (((1:Nat):Int)<((Zw [Zf [Zy (Zu 0).name,Zy (Zu 0).inst,Zy (Zu 0).realm],Zf [Zy (Zu 1).name,Zy (Zu 1).inst,Zy (Zu 1).realm],Zf [Zy (Zu 2).name,Zy (Zu 2).inst,Zy (Zu 2).realm],Zf [Zy (Zv 2).name,Zy (Zv 2).inst,Zy (Zv 2).realm],Zf [Zy (Zv 0).name,Zy (Zv 0).inst,Zy (Zv 0).realm],Zf [Zy (Zv 1).name,Zy (Zv 1).inst,Zy (Zv 1).realm]]:Nat):Int))=true:=rfl
    have k1:decide ((0:Int)≤((1:Nat):Int))=true:=rfl
    have k2:decide (((1:Nat):Int)≤1000)=true:=rfl
    have k3:Zj .i64 (3+((1:Nat):Int))=3+((1:Nat):Int):=rfl
    have k4:Zj .i64 (8+((1:Nat):Int))=8+((1:Nat):Int):=rfl
    simp only [g,k0,k1,k2,k3,k4,e0,e1,e2,e3,Xz,↓A0,A0]
    by_cases h1:Yy bd % 16=((1:Nat):Int)
    all_goals by_cases h2:Yy bd % 16=8+((1:Nat):Int)
    ·have hE:Zk (Zd ((1:Nat):Int) (Zu 1) lf xp bd)=Zf [Zy (Zu 1).name,Zy (Zu 1).inst,Zz Yp (Ym ((1:Nat):Int)),Zz Zx (3+((1:Nat):Int)),Zz Zx (1000+Yy xp*100),Zz Zx (Yy lf),Zz Zx (1+Yy bd / 16 % 3),Zz Zx 0,Zz Zx 0]:=by
      unfold Zk Zd
      dsimp only
      rw [if_pos h2,if_pos h1]
     rw [sel_pos (by simpa using h1),sel_pos (by simpa using h2),chk_of (by rfl),← hE]
     exact ⟨_,rfl,2,rfl,by decide,by decide⟩
    ·have hE:Zk (Zd ((1:Nat):Int) (Zu 1) lf xp bd)=Zf [Zy (Zu 1).name,Zy (Zu 1).inst,Zz Yp (Ym ((1:Nat):Int)),Zz Zx (3+((1:Nat):Int)),Zz Zx (0),Zz Zx (Yy lf),Zz Zx (1+Yy bd / 16 % 3),Zz Zx 0,Zz Zx 0]:=by
      unfold Zk Zd
      dsimp only
      rw [if_neg h2,if_pos h1]
     rw [sel_pos (by simpa using h1),sel_neg (by simpa using h2),chk_of (by rfl),← hE]
     exact ⟨_,rfl,2,rfl,by decide,by decide⟩
    ·have hE:Zk (Zd ((1:Nat):Int) (Zu 1) lf xp bd)=Zf [Zy (Zu 1).name,Zy (Zu 1).inst,Zz Yp (Ym ((1:Nat):Int)),Zz Zx (3+((1:Nat):Int)),Zz Zx (1000+Yy xp*100),Zz Zx (Yy lf),Zz Zx (0),Zz Zx 0,Zz Zx 0]:=by
      unfold Zk Zd
      dsimp only
      rw [if_pos h2,if_neg h1]
     rw [sel_neg (by simpa using h1),sel_pos (by simpa using h2),chk_of (by rfl),← hE]
     exact ⟨_,rfl,2,rfl,by decide,by decide⟩
    ·have hE:Zk (Zd ((1:Nat):Int) (Zu 1) lf xp bd)=Zf [Zy (Zu 1).name,Zy (Zu 1).inst,Zz Yp (Ym ((1:Nat):Int)),Zz Zx (3+((1:Nat):Int)),Zz Zx (0),Zz Zx (Yy lf),Zz Zx (0),Zz Zx 0,Zz Zx 0]:=by
      unfold Zk Zd
      dsimp only
      rw [if_neg h2,if_neg h1]
     rw [sel_neg (by simpa using h1),sel_neg (by simpa using h2),chk_of (by rfl),← hE]
     exact ⟨_,rfl,2,rfl,by decide,by decide⟩
   ·have g:Xx [Zf [Zy (Zu 0).name,Zy (Zu 0).inst,Zy (Zu 0).realm],Zf [Zy (Zu 1).name,Zy (Zu 1).inst,Zy (Zu 1).realm],Zf [Zy (Zu 2).name,Zy (Zu 2).inst,Zy (Zu 2).realm],Zf [Zy (Zv 2).name,Zy (Zv 2).inst,Zy (Zv 2).realm],Zf [Zy (Zv 0).name,Zy (Zv 0).inst,Zy (Zv 0).realm],Zf [Zy (Zv 1).name,Zy (Zv 1).inst,Zy (Zv 1).realm]] (Zn ((2:Nat):Int)) Wb=Zf [Zy (Zu 2).name,Zy (Zu 2).inst,Zy (Zu 2).realm]:=rfl
    have k0:decide (((2:Nat):Int)<((Zw [Zf [Zy (Zu 0).name,Zy (Zu 0).inst,Zy (Zu 0).realm],Zf [Zy (Zu 1).name,Zy (Zu 1).inst,Zy (Zu 1).realm],Zf [Zy (Zu 2).name,Zy (Zu 2).inst,Zy (Zu 2).realm],Zf [Zy (Zv 2).name,Zy (Zv 2).inst,Zy (Zv 2).realm],Zf [Zy (Zv 0).name,Zy (Zv 0).inst,Zy (Zv 0).realm],Zf [Zy (Zv 1).name,Zy (Zv 1).inst,Zy (Zv 1).realm]]:Nat):Int))=true:=rfl
    have k1:decide ((0:Int)≤((2:Nat):Int))=true:=rfl
    have k2:decide (((2:Nat):Int)≤1000)=true:=rfl
    have k3:Zj .i64 (3+((2:Nat):Int))=3+((2:Nat):Int):=rfl
    have k4:Zj .i64 (8+((2:Nat):Int))=8+((2:Nat):Int):=rfl
    simp only [g,k0,k1,k2,k3,k4,e0,e1,e2,e3,Xz,↓A0,A0]
    by_cases h1:Yy bd % 16=((2:Nat):Int)
    all_goals by_cases h2:Yy bd % 16=8+((2:Nat):Int)
    ·have hE:Zk (Zd ((2:Nat):Int) (Zu 2) lf xp bd)=Zf [Zy (Zu 2).name,Zy (Zu 2).inst,Zz Yp (Ym ((2:Nat):Int)),Zz Zx (3+((2:Nat):Int)),Zz Zx (1000+Yy xp*100),Zz Zx (Yy lf),Zz Zx (1+Yy bd / 16 % 3),Zz Zx 0,Zz Zx 0]:=by
      unfold Zk Zd
      dsimp only
      rw [if_pos h2,if_pos h1]
     rw [sel_pos (by simpa using h1),sel_pos (by simpa using h2),chk_of (by rfl),← hE]
     exact ⟨_,rfl,3,rfl,by decide,by decide⟩
    ·have hE:Zk (Zd ((2:Nat):Int) (Zu 2) lf xp bd)=Zf [Zy (Zu 2).name,Zy (Zu 2).inst,Zz Yp (Ym ((2:Nat):Int)),Zz Zx (3+((2:Nat):Int)),Zz Zx (0),Zz Zx (Yy lf),Zz Zx (1+Yy bd / 16 % 3),Zz Zx 0,Zz Zx 0]:=by
      unfold Zk Zd
      dsimp only
      rw [if_neg h2,if_pos h1]
     rw [sel_pos (by simpa using h1),sel_neg (by simpa using h2),chk_of (by rfl),← hE]
     exact ⟨_,rfl,3,rfl,by decide,by decide⟩
    ·have hE:Zk (Zd ((2:Nat):Int) (Zu 2) lf xp bd)=Zf [Zy (Zu 2).name,Zy (Zu 2).inst,Zz Yp (Ym ((2:Nat):Int)),Zz Zx (3+((2:Nat):Int)),Zz Zx (1000+Yy xp*100),Zz Zx (Yy lf),Zz Zx (0),Zz Zx 0,Zz Zx 0]:=by
      unfold Zk Zd
      dsimp only
      rw [if_pos h2,if_neg h1]
     rw [sel_neg (by simpa using h1),sel_pos (by simpa using h2),chk_of (by rfl),← hE]
     exact ⟨_,rfl,3,rfl,by decide,by decide⟩
    ·have hE:Zk (Zd ((2:Nat):Int) (Zu 2) lf xp bd)=Zf [Zy (Zu 2).name,Zy (Zu 2).inst,Zz Yp (Ym ((2:Nat):Int)),Zz Zx (3+((2:Nat):Int)),Zz Zx (0),Zz Zx (Yy lf),Zz Zx (0),Zz Zx 0,Zz Zx 0]:=by
      unfold Zk Zd
      dsimp only
      rw [if_neg h2,if_neg h1]
     rw [sel_neg (by simpa using h1),sel_neg (by simpa using h2),chk_of (by rfl),← hE]
     exact ⟨_,rfl,3,rfl,by decide,by decide⟩
   ·have g:Xx [Zf [Zy (Zu 0).name,Zy (Zu 0).inst,Zy (Zu 0).realm],Zf [Zy (Zu 1).name,Zy (Zu 1).inst,Zy (Zu 1).realm],Zf [Zy (Zu 2).name,Zy (Zu 2).inst,Zy (Zu 2).realm],Zf [Zy (Zv 2).name,Zy (Zv 2).inst,Zy (Zv 2).realm],Zf [Zy (Zv 0).name,Zy (Zv 0).inst,Zy (Zv 0).realm],Zf [Zy (Zv 1).name,Zy (Zv 1).inst,Zy (Zv 1).realm]] (Zn ((3:Nat):Int)) Wb=Zf [Zy (Zv 2).name,Zy (Zv 2).inst,Zy (Zv 2).realm]:=rfl
    have k0:decide (((3:Nat):Int)<((Zw [Zf [Zy (Zu 0).name,Zy (Zu 0).inst,Zy (Zu 0).realm],Zf [Zy (Zu 1).name,Zy (Zu 1).inst,Zy (Zu 1).realm],Zf [Zy (Zu 2).name,Zy (Zu 2).inst,Zy (Zu 2).realm],Zf [Zy (Zv 2).name,Zy (Zv 2).inst,Zy (Zv 2).realm],Zf [Zy (Zv 0).name,Zy (Zv 0).inst,Zy (Zv 0).realm],Zf [Zy (Zv 1).name,Zy (Zv 1).inst,Zy (Zv 1).realm]]:Nat):Int))=true:=rfl
    have k1:decide ((0:Int)≤((3:Nat):Int))=true:=rfl
    have k2:decide (((3:Nat):Int)≤1000)=true:=rfl
    have k3:Zj .i64 (3+((3:Nat):Int))=3+((3:Nat):Int):=rfl
    have k4:Zj .i64 (8+((3:Nat):Int))=8+((3:Nat):Int):=rfl
    simp only [g,k0,k1,k2,k3,k4,e0,e1,e2,e3,Xz,↓A0,A0]
    by_cases h1:Yy bd % 16=((3:Nat):Int)
    all_goals by_cases h2:Yy bd % 16=8+((3:Nat):Int)
    ·have hE:Zk (Zd ((3:Nat):Int) (Zv 2) lf xp bd)=Zf [Zy (Zv 2).name,Zy (Zv 2).inst,Zz Yp (Ym ((3:Nat):Int)),Zz Zx (3+((3:Nat):Int)),Zz Zx (1000+Yy xp*100),Zz Zx (Yy lf),Zz Zx (1+Yy bd / 16 % 3),Zz Zx 0,Zz Zx 0]:=by
      unfold Zk Zd
      dsimp only
      rw [if_pos h2,if_pos h1]
     rw [sel_pos (by simpa using h1),sel_pos (by simpa using h2),chk_of (by rfl),← hE]
     exact ⟨_,rfl,4,rfl,by decide,by decide⟩
    ·have hE:Zk (Zd ((3:Nat):Int) (Zv 2) lf xp bd)=Zf [Zy (Zv 2).name,Zy (Zv 2).inst,Zz Yp (Ym ((3:Nat):Int)),Zz Zx (3+((3:Nat):Int)),Zz Zx (0),Zz Zx (Yy lf),Zz Zx (1+Yy bd / 16 % 3),Zz Zx 0,Zz Zx 0]:=by
      unfold Zk Zd
      dsimp only
      rw [if_neg h2,if_pos h1]
     rw [sel_pos (by simpa using h1),sel_neg (by simpa using h2),chk_of (by rfl),← hE]
     exact ⟨_,rfl,4,rfl,by decide,by decide⟩
    ·have hE:Zk (Zd ((3:Nat):Int) (Zv 2) lf xp bd)=Zf [Zy (Zv 2).name,Zy (Zv 2).inst,Zz Yp (Ym ((3:Nat):Int)),Zz Zx (3+((3:Nat):Int)),Zz Zx (1000+Yy xp*100),Zz Zx (Yy lf),Zz Zx (0),Zz Zx 0,Zz Zx 0]:=by
      unfold Zk Zd
      dsimp only
      rw [if_pos h2,if_neg h1]
     rw [sel_neg (by simpa using h1),sel_pos (by simpa using h2),chk_of (by rfl),← hE]
     exact ⟨_,rfl,4,rfl,by decide,by decide⟩
    ·have hE:Zk (Zd ((3:Nat):Int) (Zv 2) lf xp bd)=Zf [Zy (Zv 2).name,Zy (Zv 2).inst,Zz Yp (Ym ((3:Nat):Int)),Zz Zx (3+((3:Nat):Int)),Zz Zx (0),Zz Zx (Yy lf),Zz Zx (0),Zz Zx 0,Zz Zx 0]:=by
      unfold Zk Zd
      dsimp only
      rw [if_neg h2,if_neg h1]
     rw [sel_neg (by simpa using h1),sel_neg (by simpa using h2),chk_of (by rfl),← hE]
     exact ⟨_,rfl,4,rfl,by decide,by decide⟩
   ·have g:Xx [Zf [Zy (Zu 0).name,Zy (Zu 0).inst,Zy (Zu 0).realm],Zf [Zy (Zu 1).name,Zy (Zu 1).inst,Zy (Zu 1).realm],Zf [Zy (Zu 2).name,Zy (Zu 2).inst,Zy (Zu 2).realm],Zf [Zy (Zv 2).name,Zy (Zv 2).inst,Zy (Zv 2).realm],Zf [Zy (Zv 0).name,Zy (Zv 0).inst,Zy (Zv 0).realm],Zf [Zy (Zv 1).name,Zy (Zv 1).inst,Zy (Zv 1).realm]] (Zn ((4:Nat):Int)) Wb=Zf [Zy (Zv 0).name,Zy (Zv 0).inst,Zy (Zv 0).realm]:=rfl
    have k0:decide (((4:Nat):Int)<((Zw [Zf [Zy (Zu 0).name,Zy (Zu 0).inst,Zy (Zu 0).realm],Zf [Zy (Zu 1).name,Zy (Zu 1).inst,Zy (Zu 1).realm],Zf [Zy (Zu 2).name,Zy (Zu 2).inst,Zy (Zu 2).realm],Zf [Zy (Zv 2).name,Zy (Zv 2).inst,Zy (Zv 2).realm],Zf [Zy (Zv 0).name,Zy (Zv 0).inst,Zy (Zv 0).realm],Zf [Zy (Zv 1).name,Zy (Zv 1).inst,Zy (Zv 1).realm]]:Nat):Int))=true:=rfl
    have k1:decide ((0:Int)≤((4:Nat):Int))=true:=rfl
    have k2:decide (((4:Nat):Int)≤1000)=true:=rfl
    have k3:Zj .i64 (3+((4:Nat):Int))=3+((4:Nat):Int):=rfl
    have k4:Zj .i64 (8+((4:Nat):Int))=8+((4:Nat):Int):=rfl
    simp only [g,k0,k1,k2,k3,k4,e0,e1,e2,e3,Xz,↓A0,A0]
    by_cases h1:Yy bd % 16=((4:Nat):Int)
    all_goals by_cases h2:Yy bd % 16=8+((4:Nat):Int)
    ·have hE:Zk (Zd ((4:Nat):Int) (Zv 0) lf xp bd)=Zf [Zy (Zv 0).name,Zy (Zv 0).inst,Zz Yp (Ym ((4:Nat):Int)),Zz Zx (3+((4:Nat):Int)),Zz Zx (1000+Yy xp*100),Zz Zx (Yy lf),Zz Zx (1+Yy bd / 16 % 3),Zz Zx 0,Zz Zx 0]:=by
      unfold Zk Zd
      dsimp only
      rw [if_pos h2,if_pos h1]
     rw [sel_pos (by simpa using h1),sel_pos (by simpa using h2),chk_of (by rfl),← hE]
     exact ⟨_,rfl,5,rfl,by decide,by decide⟩
    ·have hE:Zk (Zd ((4:Nat):Int) (Zv 0) lf xp bd)=Zf [Zy (Zv 0).name,Zy (Zv 0).inst,Zz Yp (Ym ((4:Nat):Int)),Zz Zx (3+((4:Nat):Int)),Zz Zx (0),Zz Zx (Yy lf),Zz Zx (1+Yy bd / 16 % 3),Zz Zx 0,Zz Zx 0]:=by
      unfold Zk Zd
      dsimp only
      rw [if_neg h2,if_pos h1]
     rw [sel_pos (by simpa using h1),sel_neg (by simpa using h2),chk_of (by rfl),← hE]
     exact ⟨_,rfl,5,rfl,by decide,by decide⟩
    ·have hE:Zk (Zd ((4:Nat):Int) (Zv 0) lf xp bd)=Zf [Zy (Zv 0).name,Zy (Zv 0).inst,Zz Yp (Ym ((4:Nat):Int)),Zz Zx (3+((4:Nat):Int)),Zz Zx (1000+Yy xp*100),Zz Zx (Yy lf),Zz Zx (0),Zz Zx 0,Zz Zx 0]:=by
      unfold Zk Zd
      dsimp only
      rw [if_pos h2,if_neg h1]
     rw [sel_neg (by simpa using h1),sel_pos (by simpa using h2),chk_of (by rfl),← hE]
     exact ⟨_,rfl,5,rfl,by decide,by decide⟩
    ·have hE:Zk (Zd ((4:Nat):Int) (Zv 0) lf xp bd)=Zf [Zy (Zv 0).name,Zy (Zv 0).inst,Zz Yp (Ym ((4:Nat):Int)),Zz Zx (3+((4:Nat):Int)),Zz Zx (0),Zz Zx (Yy lf),Zz Zx (0),Zz Zx 0,Zz Zx 0]:=by
      unfold Zk Zd
      dsimp only
      rw [if_neg h2,if_neg h1]
     rw [sel_neg (by simpa using h1),sel_neg (by simpa using h2),chk_of (by rfl),← hE]
     exact ⟨_,rfl,5,rfl,by decide,by decide⟩
   ·have g:Xx [Zf [Zy (Zu 0).name,Zy (Zu 0).inst,Zy (Zu 0).realm],Zf [Zy (Zu 1).name,Zy (Zu 1).inst,Zy (Zu 1).realm],Zf [Zy (Zu 2).name,Zy (Zu 2).inst,Zy (Zu 2).realm],Zf [Zy (Zv 2).name,Zy (Zv 2).inst,Zy (Zv 2).realm],Zf [Zy (Zv 0).name,Zy (Zv 0).inst,Zy (Zv 0).realm],Zf [Zy (Zv 1).name,Zy (Zv 1).inst,Zy (Zv 1).realm]] (Zn ((5:Nat):Int)) Wb=Zf [Zy (Zv 1).name,Zy (Zv 1).inst,Zy (Zv 1).realm]:=rfl
    have k0:decide (((5:Nat):Int)<((Zw [Zf [Zy (Zu 0).name,Zy (Zu 0).inst,Zy (Zu 0).realm],Zf [Zy (Zu 1).name,Zy (Zu 1).inst,Zy (Zu 1).realm],Zf [Zy (Zu 2).name,Zy (Zu 2).inst,Zy (Zu 2).realm],Zf [Zy (Zv 2).name,Zy (Zv 2).inst,Zy (Zv 2).realm],Zf [Zy (Zv 0).name,Zy (Zv 0).inst,Zy (Zv 0).realm],Zf [Zy (Zv 1).name,Zy (Zv 1).inst,Zy (Zv 1).realm]]:Nat):Int))=true:=rfl
    have k1:decide ((0:Int)≤((5:Nat):Int))=true:=rfl
    have k2:decide (((5:Nat):Int)≤1000)=true:=rfl
    have k3:Zj .i64 (3+((5:Nat):Int))=3+((5:Nat):Int):=rfl
    have k4:Zj .i64 (8+((5:Nat):Int))=8+((5:Nat):Int):=rfl
    simp only [g,k0,k1,k2,k3,k4,e0,e1,e2,e3,Xz,↓A0,A0]
    by_cases h1:Yy bd % 16=((5:Nat):Int)
    all_goals by_cases h2:Yy bd % 16=8+((5:Nat):Int)
    ·have hE:Zk (Zd ((5:Nat):Int) (Zv 1) lf xp bd)=Zf [Zy (Zv 1).name,Zy (Zv 1).inst,Zz Yp (Ym ((5:Nat):Int)),Zz Zx (3+((5:Nat):Int)),Zz Zx (1000+Yy xp*100),Zz Zx (Yy lf),Zz Zx (1+Yy bd / 16 % 3),Zz Zx 0,Zz Zx 0]:=by
      unfold Zk Zd
      dsimp only
      rw [if_pos h2,if_pos h1]
     rw [sel_pos (by simpa using h1),sel_pos (by simpa using h2),chk_of (by rfl),← hE]
     exact ⟨_,rfl,6,rfl,by decide,by decide⟩
    ·have hE:Zk (Zd ((5:Nat):Int) (Zv 1) lf xp bd)=Zf [Zy (Zv 1).name,Zy (Zv 1).inst,Zz Yp (Ym ((5:Nat):Int)),Zz Zx (3+((5:Nat):Int)),Zz Zx (0),Zz Zx (Yy lf),Zz Zx (1+Yy bd / 16 % 3),Zz Zx 0,Zz Zx 0]:=by
      unfold Zk Zd
      dsimp only
      rw [if_neg h2,if_pos h1]
     rw [sel_pos (by simpa using h1),sel_neg (by simpa using h2),chk_of (by rfl),← hE]
     exact ⟨_,rfl,6,rfl,by decide,by decide⟩
    ·have hE:Zk (Zd ((5:Nat):Int) (Zv 1) lf xp bd)=Zf [Zy (Zv 1).name,Zy (Zv 1).inst,Zz Yp (Ym ((5:Nat):Int)),Zz Zx (3+((5:Nat):Int)),Zz Zx (1000+Yy xp*100),Zz Zx (Yy lf),Zz Zx (0),Zz Zx 0,Zz Zx 0]:=by
      unfold Zk Zd
      dsimp only
      rw [if_pos h2,if_neg h1]
     rw [sel_neg (by simpa using h1),sel_pos (by simpa using h2),chk_of (by rfl),← hE]
     exact ⟨_,rfl,6,rfl,by decide,by decide⟩
    ·have hE:Zk (Zd ((5:Nat):Int) (Zv 1) lf xp bd)=Zf [Zy (Zv 1).name,Zy (Zv 1).inst,Zz Yp (Ym ((5:Nat):Int)),Zz Zx (3+((5:Nat):Int)),Zz Zx (0),Zz Zx (Yy lf),Zz Zx (0),Zz Zx 0,Zz Zx 0]:=by
      unfold Zk Zd
      dsimp only
      rw [if_neg h2,if_neg h1]
     rw [sel_neg (by simpa using h1),sel_neg (by simpa using h2),chk_of (by rfl),← hE]
     exact ⟨_,rfl,6,rfl,by decide,by decide⟩
   ·exact ⟨_,rfl,rfl⟩
  ·rintro _ rfl
   rfl
 ·cases h
theorem w29:Walked Tryz.prog G 29 4 sp29:=by
 refine ⟨Tryz.f29,Tryz.func29,by decide +kernel,rfl,fun xs bl r h=> ?_⟩
 unfold sp29 at h
 split at h
 ·rename_i rl els
  obtain ⟨hpre,h2⟩:=chk_inv h;cases h2
  refine Eq.trans (b:=(Zq (chk (l63 rl) (some (Zg (Kerb.validRealm rl),[]))) (kL fun b=>sel (!b) (some (Zz .i64 103,[])) (sel (decide ((↑(Zw els):Int)>60)) (some (Zz .i64 106,[])) (Zq (loopM (fun (st:List AV)=>cStr st fun b r=>cSl 9 r fun b_1 r=>cInt .i64 r fun n r=>cInt .i64 r fun n_1 r=>let t0:Option (List AV ⊕ Ex×List AV):=some (Sum.inl [Zy b,Wk 9 b_1,Zz .i64 n,Zz .i64 (Zj .i64 (n_1+1))]);onNil r (sel (decide (n_1<(↑(Zw b_1):Int))) (chk (decide (0≤n_1)&&decide (n_1<(↑(Zw b_1):Int))&&true) (AV.onAgg (Xx b_1 (Zn n_1) Wb) fun cs=>cStr cs fun b_2 r=>cStr r fun b_3 r=>cInt .u64 r fun n r=>cInt .i64 r fun n_2 r=>cInt .i64 r fun n_3 r=>cInt .i64 r fun n_4 r=>cInt .i64 r fun n_5 r=>cInt .i64 r fun n_6 r=>cInt .i64 r fun n_7 r=>onNil r (Zq (chk (l63 b_2&&l63 b_3&&Kerb.isU64 n) (some (Zz .i64 (Kerb.Entry.err (Kerb.Entry.mk b_2 b_3 n n_2 n_3 n_4 n_5 n_6 n_7)),[]))) (kI .i64 fun n=>sel (!n==0) (some (Sum.inr (Ex.ret,[Zy b,Wk 9 b_1,Zz .i64 n,Zz .i64 n_1]))) (sel (decide (n_1>0)) (chk (decide (0≤n_1)&&decide (n_1<(↑(Zw b_1):Int))&&true) (AV.onAgg (Xx b_1 (Zn n_1) Wb) fun cs=>cStr cs fun b_4 r=>cStr r fun b_5 r=>cInt .u64 r fun n r=>cInt .i64 r fun n_8 r=>cInt .i64 r fun n_9 r=>cInt .i64 r fun n_10 r=>cInt .i64 r fun n_11 r=>cInt .i64 r fun n_12 r=>cInt .i64 r fun n_13 r=>onNil r (chk (decide (0≤Zj .i64 (n_1-1))&&decide (Zj .i64 (n_1-1)<(↑(Zw b_1):Int))&&true) (AV.onAgg (Xx b_1 (Zn (Zj .i64 (n_1-1))) Wb) fun cs=>cStr cs fun b_6 r=>cStr r fun b_7 r=>cInt .u64 r fun n_14 r=>cInt .i64 r fun n_15 r=>cInt .i64 r fun n_16 r=>cInt .i64 r fun n_17 r=>cInt .i64 r fun n_18 r=>cInt .i64 r fun n_19 r=>cInt .i64 r fun n_20 r=>onNil r (sel (Kerb.Entry.less (Kerb.Entry.mk b_4 b_5 n n_8 n_9 n_10 n_11 n_12 n_13) (Kerb.Entry.mk b_6 b_7 n_14 n_15 n_16 n_17 n_18 n_19 n_20)) (some (Sum.inr (Ex.ret,[Zy b,Wk 9 b_1,Zz .i64 110,Zz .i64 n_1]))) t0))))) t0))))) (some (Sum.inr (Vy 0,[Zy b,Wk 9 b_1,Zz .i64 n,Zz .i64 n_1]))))) [Zy rl,Wk 9 els,Zz .i64 0,Zz .i64 0]) fun (r:Ex×List AV)=>cStr (Yz r) fun b r_1=>cSl 9 r_1 fun b r_2=>cInt .i64 r_2 fun n r_3=>cInt .i64 r_3 fun n_1 r_4=>onNil r_4 (exK r.1 (some (Zz .i64 n,[])) fun (j:Nat)=>sel (Nat.beq j 0) (some (Zz .i64 0,[])) none)))):Option (AV×Blocks))) (by kernel_rfl) ?_
  delta kL kI
  try dsimp only [cStr,cBs,cBool,cU8,cInt,cSl,l63]
  simp only [Xy,decide_eq_true_eq] at hpre
  obtain ⟨⟨hr,hall⟩,hlen⟩:=hpre
  obtain ⟨es,rfl,hok⟩:=Kerb.ents_of hall
  rw [Kerb.map_toEntry]
  simp only [List.length_map] at hlen
  unfold Kerb.Db.err
  simp only [hr,decide_true,↓A0,A0,List.length_map]
  cases hv:Kerb.validRealm rl
  ·rfl
  simp only [Yq,Bool.not_false,sel_true,sel_false]
  rw [if_neg (by simp)]
  by_cases h60:60<es.length
  ·rw [sel_pos (by simp;omega),if_pos h60]
  rw [sel_neg (by simp;omega),if_neg h60]
  have hex:∃ z,Kerb.entriesErr none es=z:=⟨_,rfl⟩
  obtain ⟨z,hz⟩:=hex
  rw [hz]
  refine loop_rounds (fun i:Nat=>[Zy rl,Wk 9 (es.map Zk),Zz Zx 0,Zz Zx (i:Int)]) (fun i=>i≤es.length∧Kerb.entriesErr (Kerb.prevOf es i) (es.drop i)=z) (fun i=>es.length-i)
   (fun r=>∃ (e:Int) (i:Nat),r.2=[Zy rl,Wk 9 (es.map Zk),Zz Zx e,Zz Zx (i:Int)]∧((r.1 = .ret∧e=z)∨(r.1 = .exit 0∧z=0))) 0 ⟨Nat.zero_le _,hz⟩ rfl ?_ ?_
  ·rintro i ⟨hi,hinv⟩
   simp only [↓A0,A0,List.length_map]
   rcases Nat.lt_or_ge i es.length with h | h
   ·rw [Kerb.errs_step h] at hinv
    have hx:=hok _ (Kerb.ent_mem h)
    rw [sel_pos (by simp;omega),chk_of (by simp;omega),Vz,Kerb.getD_ent h]
    obtain ⟨n,hn⟩:∃ e,es.getD i Kerb.noEntry=e:=⟨_,rfl⟩
    rw [hn] at hinv hx ⊢
    obtain ⟨x1,x2,x3,_⟩:=hx
    simp only [Zk,↓A0,A0,x1,x2,x3,decide_true,Xz]
    by_cases he:n.err=0
    ·rw [sel_neg (by simpa using he)]
     rw [if_neg (by simpa using he)] at hinv
     by_cases h0:0<i
     ·have hp:Kerb.prevOf es i=some (es.getD (i-1) Kerb.noEntry):=by rw [Kerb.prevOf,if_neg (by omega)]
      rw [hp] at hinv
      have hw:Zj .i64 ((i:Int)-1)=((i-1:Nat):Int):=by rw [wrap_i64 (by omega) (by omega)];omega
      rw [sel_pos (by simpa using h0),hw]
      rw [chk_of (by simp;omega)]
      try simp only [↓A0,A0]
      rw [chk_of (by simp;omega),Vz,Kerb.getD_ent (by omega)]
      obtain ⟨m,hm⟩:∃ e,es.getD (i-1) Kerb.noEntry=e:=⟨_,rfl⟩
      rw [hm] at hinv ⊢
      simp only [Zk,↓A0,A0]
      by_cases hl:n.less m=true
      ·rw [sel_pos (by simpa using hl)]
       rw [if_pos hl] at hinv
       exact ⟨_,rfl,110,i,rfl,.inl ⟨rfl,hinv⟩⟩
      ·rw [sel_neg (by simpa using hl),wrap_i64 (by omega) (by omega)]
       rw [if_neg hl] at hinv
       exact ⟨_,rfl,i+1,rfl,⟨by omega,hinv⟩,by dsimp only;omega⟩
     ·have hp:Kerb.prevOf es i=none:=by rw [Kerb.prevOf,if_pos (by omega)]
      rw [hp] at hinv
      rw [sel_neg (by simpa using h0),wrap_i64 (by omega) (by omega)]
      rw [if_neg (by simp)] at hinv
      exact ⟨_,rfl,i+1,rfl,⟨by omega,hinv⟩,by dsimp only;omega⟩
    ·rw [sel_pos (by simpa using he)]
     rw [if_pos (by simpa using he)] at hinv
     exact ⟨_,rfl,n.err,i,rfl,.inl ⟨rfl,hinv⟩⟩
   ·rw [sel_neg (by simp;omega)]
    rw [List.drop_eq_nil_of_le h] at hinv
    exact ⟨_,rfl,0,i,rfl,.inr ⟨rfl,by rw [← hinv];rfl⟩⟩
  ·rintro ⟨e,l⟩ ⟨e2,i,rfl,⟨rfl,rfl⟩ | ⟨rfl,h⟩⟩
   ·rfl
   ·rw [h];rfl
 ·cases h
theorem w64:Walked Tryz.prog G 64 4 sp64:=by
 refine ⟨Tryz.f64,Tryz.func64,by decide +kernel,rfl,fun xs bl r h=> ?_⟩
 unfold sp64 at h
 split at h
 ·rename_i op ux uy uz kv rl tk sv ins bx
  obtain ⟨hpre,h2⟩:=chk_inv h;cases h2
  refine Eq.trans (b:=(Zq (sel (!(op==1||op==3)) (some [Zz .i64 op,Zy ux,Zy uy,Zy uz,Zz .i64 kv,Zy rl,Zm tk,Zy sv,Zy ins,Zm bx,Zg !op==2,Zz .i64 0]) (some [Zz .i64 op,Zy ux,Zy uy,Zy uz,Zz .i64 kv,Zy rl,Zm tk,Zy sv,Zy ins,Zm bx,Zg false,Zz .i64 0])) fun l=>cInt .i64 l fun n r=>cStr r fun b r=>cStr r fun b_1 r=>cStr r fun b_2 r=>cInt .i64 r fun n_1 r=>cStr r fun b_3 r=>cBs r fun b_4 r=>cStr r fun b_5 r=>cStr r fun b_6 r=>cBs r fun b_7 r=>cBool r fun b_8 r=>cInt .i64 r fun n_2 r=>let t1:Option (List AV):=some [Zz .i64 n,Zy b,Zy b_1,Zy b_2,Zz .i64 n_1,Zy b_3,Zm b_4,Zy b_5,Zy b_6,Zm b_7,Zg true,Zz .i64 n_2];let t0:Option (List AV):=sel (!(n==1||n==3)) (Zq (chk (l63 b_3) (some (Zg (Kerb.validRealm b_3),[]))) (kL fun b_9=>sel (!b_9) t1 (Zq (chk (l63 b_5) (some (Zg (Vj b_5),[]))) (kL fun b_10=>sel (!b_10) t1 (Zq (chk (l63 b_6) (some (Zg (Vk b_6),[]))) (kL fun b_11=>some [Zz .i64 n,Zy b,Zy b_1,Zy b_2,Zz .i64 n_1,Zy b_3,Zm b_4,Zy b_5,Zy b_6,Zm b_7,Zg !b_11,Zz .i64 n_2])))))) (some [Zz .i64 n,Zy b,Zy b_1,Zy b_2,Zz .i64 n_1,Zy b_3,Zm b_4,Zy b_5,Zy b_6,Zm b_7,Zg false,Zz .i64 n_2]);onNil r (sel b_8 (some (Yv [Zm [],Zz .i64 40],[])) (Zq (sel (n==1||n==3) (Zq (chk (l63 b&&l63 b_1&&l63 b_2) (some (Zg (Vn (Xp b b_1 b_2)),[]))) (kL fun b=>sel (!b) t1 t0)) t0) fun l=>cInt .i64 l fun n r=>cStr r fun b r=>cStr r fun b_9 r=>cStr r fun b_10 r=>cInt .i64 r fun n_3 r=>cStr r fun b_11 r=>cBs r fun b_12 r=>cStr r fun b_13 r=>cStr r fun b_14 r=>cBs r fun b_15 r=>cBool r fun b_16 r=>cInt .i64 r fun n_4 r=>onNil r (sel b_16 (some (Yv [Zm [],Zz .i64 103],[])) (Zq (sel (!(n==1||n==3)) (some [Zz .i64 n,Zy b,Zy b_9,Zy b_10,Zz .i64 n_3,Zy b_11,Zm b_12,Zy b_13,Zy b_14,Zm b_15,Zg !Yj n_3 255,Zz .i64 n_4]) (some [Zz .i64 n,Zy b,Zy b_9,Zy b_10,Zz .i64 n_3,Zy b_11,Zm b_12,Zy b_13,Zy b_14,Zm b_15,Zg false,Zz .i64 n_4])) fun l=>cInt .i64 l fun n r=>cStr r fun b r=>cStr r fun b_17 r=>cStr r fun b_18 r=>cInt .i64 r fun n_5 r=>cStr r fun b_19 r=>cBs r fun b_20 r=>cStr r fun b_21 r=>cStr r fun b_22 r=>cBs r fun b_23 r=>cBool r fun b_24 r=>cInt .i64 r fun n_6 r=>let t2:Option (List AV):=some [Zz .i64 n,Zy b,Zy b_17,Zy b_18,Zz .i64 n_5,Zy b_19,Zm b_20,Zy b_21,Zy b_22,Zm b_23,Zg (decide ((↑(Zw b_23):Int)>1012)),Zz .i64 n_6];onNil r (sel b_24 (some (Yv [Zm [],Zz .i64 104],[])) (Zq (sel (!(n==1||n==3)) (sel (decide ((↑(Zw b_20):Int)>255)) (some [Zz .i64 n,Zy b,Zy b_17,Zy b_18,Zz .i64 n_5,Zy b_19,Zm b_20,Zy b_21,Zy b_22,Zm b_23,Zg true,Zz .i64 n_6]) t2) t2) fun l=>cInt .i64 l fun n r=>cStr r fun b r=>cStr r fun b_25 r=>cStr r fun b_26 r=>cInt .i64 r fun n_7 r=>cStr r fun b_27 r=>cBs r fun b_28 r=>cStr r fun b_29 r=>cStr r fun b_30 r=>cBs r fun b_31 r=>cBool r fun b_32 r=>cInt .i64 r fun n_8 r=>let t3:Option (List AV):=some [Zz .i64 n,Zy b,Zy b_25,Zy b_26,Zz .i64 n_7,Zy b_27,Zm b_28,Zy b_29,Zy b_30,Zm b_31,Zg true,Zz .i64 n_8];let t4:Option (List AV):=sel (!(n==1||n==3)) (some [Zz .i64 n,Zy b,Zy b_25,Zy b_26,Zz .i64 n_7,Zy b_27,Zm b_28,Zy b_29,Zy b_30,Zm b_31,Zg !(b==[]&&(b_25==[]&&b_26==[])),Zz .i64 n_8]) (some [Zz .i64 n,Zy b,Zy b_25,Zy b_26,Zz .i64 n_7,Zy b_27,Zm b_28,Zy b_29,Zy b_30,Zm b_31,Zg false,Zz .i64 n_8]);onNil r (sel b_32 (some (Yv [Zm [],Zz .i64 105],[])) (Zq (sel (n==1||n==3) (sel (!n_7==0) t3 (sel (!b_27==[]) t3 (sel (decide ((↑(Zw b_28):Int)>0)) t3 (sel (!b_29==[]) t3 (sel (!b_30==[]) t3 t4))))) t4) fun l=>cInt .i64 l fun n r=>let t6:List UInt8:=Kerb.header 9 false++Yd n 1 false;let t5:Nat:=Zw t6;cStr r fun b r=>cStr r fun b_33 r=>cStr r fun b_34 r=>cInt .i64 r fun n_9 r=>cStr r fun b_35 r=>cBs r fun b_36 r=>cStr r fun b_37 r=>cStr r fun b_38 r=>cBs r fun b_39 r=>cBool r fun b_40 r=>cInt .i64 r fun n_10 r=>onNil r (sel b_40 (some (Yv [Zm [],Zz .i64 108],[])) (sel (n==1||n==3) (Zq (chk (decide (t5+Zw b+Zw b_33+Zw b_34≤70368744170000)) (some (Zm (Kerb.putPrin t6 (Xp b b_33 b_34)),[]))) (kB fun b=>Zq (chk (decide (Zw b≤70368744177664)) (some (Xw (b++Yd (↑(Zw b_39):Int) 2 false),[]))) (kO fun l=>chk (room (Zw l+Zw b_39) 1) (some (Yv [Zm (l++b_39),Zz .i64 0],[]))))) (Zq (chk (decide (t5≤70368744177664)) (some (Xw (t6++Yd n_9 1 false),[]))) (kO fun l=>Zq (chk (decide (Zw l+Zw b_35≤70368744177664)) (some (Zm (Yf l b_35),[]))) (kB fun b=>Zq (chk (decide (Zw b≤70368744177664)) (some (Xw (b++Yd (↑(Zw b_36):Int) 1 false),[]))) (kO fun l=>chk (room (Zw l+Zw b_36) 1) (Zq (chk (decide (Zw (l++b_36)+Zw b_37≤70368744177664)) (some (Zm (Yf (l++b_36) b_37),[]))) (kB fun b=>Zq (chk (decide (Zw b+Zw b_38≤70368744177664)) (some (Zm (Yf b b_38),[]))) (kB fun b=>Zq (chk (decide (Zw b≤70368744177664)) (some (Xw (b++Yd (↑(Zw b_39):Int) 2 false),[]))) (kO fun l=>chk (room (Zw l+Zw b_39) 1) (some (Yv [Zm (l++b_39),Zz .i64 0],[])))))))))))))))))))):Option (AV×Blocks))) (by kernel_rfl) ?_
  delta kB kO kL
  try dsimp only [cStr,cBs,cBool,cU8,cInt,cSl,l63]
  simp only [Xy,decide_eq_true_eq] at hpre
  have hl9:(Kerb.header 9 false).length=2:=rfl
  unfold Xv
  by_cases h13:op=1∨op=3
  ·have e1:(op==1||op==3)=true:=by simpa using h13
   have e2:(op==2)=false:=by simp;omega
   have e3:Kerb.kaOp op=true:=by simp [Kerb.kaOp];omega
   simp only [A0,e1,e2,e3,Yq,sel_true,sel_false,Bool.false_eq_true,if_false]
   rw [chk_of (by simp;omega)]
   cases h2:Vn ⟨ux,uy,uz⟩
   ·rfl
   rw [Yq,sel_false,if_neg (by simp)]
   by_cases h3:1012<bx.length
   ·rw [sel_pos (by simp;omega),if_pos h3]
   rw [sel_neg (by simp;omega),if_neg h3]
   by_cases h4:kv=0
   case neg=>rw [sel_pos (by simpa using h4),if_pos (.inl h4)]
   rw [sel_neg (by simp [h4])]
   by_cases h5:rl=[]
   case neg=>rw [sel_pos (by simpa using h5),if_pos (.inr (.inl h5))]
   rw [sel_neg (by simp [h5])]
   by_cases h6:tk=[]
   case neg=>rw [sel_pos (by have:=List.length_pos_iff.2 h6;simp;omega),if_pos (.inr (.inr (.inl h6)))]
   rw [sel_neg (by simp [h6])]
   by_cases h7:sv=[]
   case neg=>rw [sel_pos (by simpa using h7),if_pos (.inr (.inr (.inr (.inl h7))))]
   rw [sel_neg (by simp [h7])]
   by_cases h8:ins=[]
   case neg=>rw [sel_pos (by simpa using h8),if_pos (.inr (.inr (.inr (.inr h8))))]
   rw [sel_neg (by simp [h8]),if_neg (by simp [h4,h5,h6,h7,h8])]
   have l1:=Kerb.valid_len h2
   simp only at l1
   rw [chk_of (by simp [Zp,hl9];omega),chk_of (by simp [Zp,hl9,Zh];omega),chk_of (Xf (by simp [Zp,hl9,Zh];omega))]
   simp [Kerb.putBox,Kerb.kaHead]
  ·have e1:(op==1||op==3)=false:=by simpa using h13
   simp only [A0,e1,Bool.not_false,sel_true,sel_false]
   by_cases h2:op=2
   case neg =>
    have e3:Kerb.kaOp op=false:=by simp [Kerb.kaOp];omega
    rw [sel_pos (by simpa using h2),e3]
    rfl
   subst h2
   rw [sel_neg (by simp)]
   simp only [show Kerb.kaOp 2=true from rfl,Yq,Bool.false_eq_true,if_false,beq_self_eq_true,if_true]
   rw [chk_of (by simp;omega)]
   cases h2:Kerb.validRealm rl
   ·rfl
   rw [Yq,sel_false,chk_of (by simp;omega)]
   cases h3:Vj sv
   ·rfl
   rw [Yq,sel_false,chk_of (by simp;omega)]
   cases h4:Vk ins
   ·rfl
   rw [Yq,sel_false,if_neg (by simp)]
   cases h5:Yj kv 255
   ·rfl
   rw [Yq,sel_false,if_neg (by simp)]
   by_cases h6:255<tk.length
   ·rw [sel_pos (by simp;omega),if_pos (.inl h6)]
   rw [sel_neg (by simp;omega)]
   by_cases h7:1012<bx.length
   ·rw [sel_pos (by simp;omega),if_pos (.inr h7)]
   rw [sel_neg (by simp;omega),if_neg (by omega)]
   show sel (!(Kerb.Prin.isNo ⟨ux,uy,uz⟩)) _ _=_
   cases Kerb.Prin.isNo ⟨ux,uy,uz⟩
   ·rfl
   rw [Yq,sel_false,if_neg (by simp)]
   have l1:=Kerb.validRealm_len h2
   have l2:=Kerb.validName_len h3
   have l3:=Kerb.validInst_len h4
   rw [chk_of (by simp [Zp,hl9]),chk_of (by simp [Zp,hl9];omega),chk_of (by simp [Zp,hl9,Wp];omega),chk_of (Xf (by simp [Zp,hl9,Wp];omega)),chk_of (by simp [Zp,hl9,Wp];omega),chk_of (by simp [Zp,hl9,Wp];omega),chk_of (by simp [Zp,hl9,Wp];omega),chk_of (Xf (by simp [Zp,hl9,Wp];omega))]
   simp [Kerb.putBox,Kerb.kaHead,Kerb.putTick]
 ·cases h
theorem w70:Walked Tryz.prog G 70 4 sp70:=by
 refine ⟨Tryz.f70,Tryz.func70,by decide +kernel,rfl,fun xs bl r h=> ?_⟩
 unfold sp70 at h
 split at h
 ·rename_i B at_ li bad
  obtain ⟨hpre,h2⟩:=chk_inv h;cases h2
  show runFnH (G.env 70 4) G.rts (G.own 70) Tryz.f70 _ _ [0]=_
  refine Eq.trans (b:=(Zq (chk (decide (Zw B≤140737488355328)) (some (Yv [Zz .i64 (Yn (Yx B at_ 1 false)),Zz .i64 (Yg (Yx B at_ 1 false)),Zz .i64 (Yk (Yx B at_ 1 false))],[]))) fun (r:AV×Blocks)=>onNilB (Yz r) (Xn (Yw r) fun vs=>onCons vs fun x r=>Yu .i64 x fun n=>onCons r fun x r=>Yu .i64 x fun n_1=>onCons r fun x r=>Yu .i64 x fun n_2=>onNil r (some (Zz .i64 n,[[Zm B,Zz .i64 (bif bad || !n_2==0 then at_ else n_1),Zg li,Zg (bad || !n_2==0)]]))):Option (AV×Blocks))) (by kernel_rfl) ?_
  simp only [A0]
  rw [chk_of hpre]
 ·cases h
theorem w75:Walked Tryz.prog G 75 4 sp75:=by
 refine ⟨Tryz.f75,Tryz.func75,by decide +kernel,rfl,fun xs bl r h=> ?_⟩
 unfold sp75 at h
 split at h
 ·rename_i B at_ li bad
  obtain ⟨hpre,h2⟩:=chk_inv h;cases h2
  show runFnH (G.env 75 4) G.rts (G.own 75) Tryz.f75 _ _ [0]=_
  refine Eq.trans (b:=(Zq (chk (decide (Zw B≤140737488355328)) (some (Yv [Zz .i64 (Yn (Yx B at_ 2 li)),Zz .i64 (Yg (Yx B at_ 2 li)),Zz .i64 (Yk (Yx B at_ 2 li))],[]))) fun (r:AV×Blocks)=>onNilB (Yz r) (Xn (Yw r) fun vs=>onCons vs fun x r=>Yu .i64 x fun n=>onCons r fun x r=>Yu .i64 x fun n_1=>onCons r fun x r=>Yu .i64 x fun n_2=>onNil r (some (Zz .i64 n,[[Zm B,Zz .i64 (bif bad || !n_2==0 then at_ else n_1),Zg li,Zg (bad || !n_2==0)]]))):Option (AV×Blocks))) (by kernel_rfl) ?_
  simp only [A0]
  rw [chk_of hpre]
 ·cases h
theorem w95:Walked Tryz.prog G 95 4 sp95:=by
 refine ⟨Tryz.f95,Tryz.func95,by decide +kernel,rfl,fun xs bl r h=> ?_⟩
 unfold sp95 at h
 split at h
 ·rename_i kd k bd
  obtain ⟨hpre,h2⟩:=chk_inv h;cases h2
  refine Eq.trans (b:=(let t0:List UInt8:=[UInt8.ofNat (Zn (Zj .u8 (Int.fdiv (↑(Zw bd):Int) (2 ^ min (Zn 8) (Xd .i64))))),UInt8.ofNat (Zn (Zj .u8 (↑(Zw bd):Int)))];let t1:List UInt8:=Vq (Zn 0) (0:UInt8)++[(66:UInt8),UInt8.ofNat (Zn (Zj .u8 kd))];let t2:Int:=Zj .i64 (12+(↑(Zw bd):Int));sel (!Kerb.isKind kd) (some (Yv [Zm [],Zz .i64 104],[])) (Zq (chk (decide (0≤k)&&decide (k<18446744073709551616)) (some (Zg (Xu k),[]))) (kL fun b=>sel (!b) (some (Yv [Zm [],Zz .i64 10],[])) (sel (decide ((↑(Zw bd):Int)>1000)) (some (Yv [Zm [],Zz .i64 105],[])) (chk (decide (0≤t2)&&decide (t2≤140737488355328)) (chk (room (Zw (Vq (Zn 0) (0:UInt8))+Zw [(66:UInt8),UInt8.ofNat (Zn (Zj .u8 kd))]) 1) (Zq (chk (decide (0≤k)&&decide (k<18446744073709551616)) (some (Zm (Kerb.keyBytes k),[]))) (kB fun b=>chk (room (Zw t1+Zw b) 1) (chk (room (Zw (t1++b)+Zw t0) 1) (chk (room (Zw (t1++b++t0)+Zw bd) 1) (some (Yv [Zm (t1++b++t0++bd),Zz .i64 0],[]))))))))))):Option (AV×Blocks))) (by kernel_rfl) ?_
  delta kB kL
  try dsimp only [cStr,cBs,cBool,cU8,cInt,cSl,l63]
  simp only [A0,Kerb.Client.av,Kerb.Cache.av,Kerb.Cred.av,hpre]
  unfold Kerb.makeBox
  cases h1:Kerb.isKind kd
  ·rfl
  rw [Yq,sel_false,if_neg (by simp)]
  cases h2:Xu k
  ·rfl
  rw [Yq,sel_false,if_neg (by simp)]
  by_cases h3:1000<bd.length
  ·rw [sel_pos (by simp;omega),if_pos h3]
  have hk:1≤kd∧kd≤10:=by simp [Kerb.isKind] at h1;omega
  have lk:=Zb k
  rw [sel_neg (by simp;omega),if_neg h3,wrap_i64 (by omega) (by omega),chk_of (by simp;omega),chk_of (Xf (by simp)),chk_of (Xf (by simp;omega)),chk_of (Xf (by simp;omega)),chk_of (Xf (by simp;omega)),Kerb.two_bytes,Kerb.wrap_u8,Int.emod_eq_of_lt (by omega) (by omega)]
  rfl
 ·cases h
theorem w117:Walked Tryz.prog G 117 4 sp117:=by
 refine ⟨Tryz.f117,Tryz.func117,by decide +kernel,rfl,fun xs bl r h=> ?_⟩
 unfold sp117 at h
 split at h
 ·rename_i B at_ bad
  obtain ⟨hpre,h2⟩:=chk_inv h;cases h2
  show runFnH (G.env 117 4) G.rts (G.own 117) Tryz.f117 _ _ [0]=_
  refine Eq.trans (b:=(Zq (chk (decide (Zw B≤4611686018427387904)) (some (Yv [Zz .i64 (Yn (Yx B at_ 1 false)),Zz .i64 (Yg (Yx B at_ 1 false)),Zz .i64 (Yk (Yx B at_ 1 false))],[]))) fun (r:AV×Blocks)=>onNilB (Yz r) (Xn (Yw r) fun vs=>onCons vs fun x r=>Yu .i64 x fun n=>onCons r fun x r=>Yu .i64 x fun n_1=>onCons r fun x r=>Yu .i64 x fun n_2=>onNil r (sel (!!(bad || !n_2==0)) (some (Zz .i64 0,[[Zm B,Zz .i64 (bif bad || !n_2==0 then at_ else n_1),Zg (bad || !n_2==0)]])) (some (Zz .i64 n,[[Zm B,Zz .i64 (bif bad || !n_2==0 then at_ else n_1),Zg (bad || !n_2==0)]])))):Option (AV×Blocks))) (by kernel_rfl) ?_
  have hb:=of_decide_eq_true hpre
  simp only [A0]
  rw [chk_of (by simp;omega)]
  unfold Kerb.pGet
  cases bad
  ·simp only [Bool.false_or]
   generalize hq:(!(_==(0:Int)))=q
   cases q<;>rfl
  ·rfl
 ·cases h
theorem w119:Walked Tryz.prog G 119 4 sp119:=by
 refine ⟨Tryz.f119,Tryz.func119,by decide +kernel,rfl,fun xs bl r h=> ?_⟩
 unfold sp119 at h
 split at h
 ·rename_i B at_ bad
  obtain ⟨hpre,h2⟩:=chk_inv h;cases h2
  show runFnH (G.env 119 4) G.rts (G.own 119) Tryz.f119 _ _ [0]=_
  refine Eq.trans (b:=(Zq (chk (decide (Zw B≤4611686018427387904)) (some (Yv [Zz .i64 (Yn (Yx B at_ 2 false)),Zz .i64 (Yg (Yx B at_ 2 false)),Zz .i64 (Yk (Yx B at_ 2 false))],[]))) fun (r:AV×Blocks)=>onNilB (Yz r) (Xn (Yw r) fun vs=>onCons vs fun x r=>Yu .i64 x fun n=>onCons r fun x r=>Yu .i64 x fun n_1=>onCons r fun x r=>Yu .i64 x fun n_2=>onNil r (sel (!!(bad || !n_2==0)) (some (Zz .i64 0,[[Zm B,Zz .i64 (bif bad || !n_2==0 then at_ else n_1),Zg (bad || !n_2==0)]])) (some (Zz .i64 n,[[Zm B,Zz .i64 (bif bad || !n_2==0 then at_ else n_1),Zg (bad || !n_2==0)]])))):Option (AV×Blocks))) (by kernel_rfl) ?_
  have hb:=of_decide_eq_true hpre
  simp only [A0]
  rw [chk_of (by simp;omega)]
  unfold Kerb.pGet
  cases bad
  ·simp only [Bool.false_or]
   generalize hq:(!(_==(0:Int)))=q
   cases q<;>rfl
  ·rfl
 ·cases h
theorem w145:Walked Tryz.prog G 145 4 sp145:=by
 refine ⟨Tryz.f145,Tryz.func145,by decide +kernel,rfl,fun xs bl r h=> ?_⟩
 unfold sp145 at h
 split at h
 ·rename_i B at_ bad
  obtain ⟨hpre,h2⟩:=chk_inv h;cases h2
  show runFnH (G.env 145 4) G.rts (G.own 145) Tryz.f145 _ _ [0]=_
  refine Eq.trans (b:=(Zq (chk (decide (Zw B≤4611686018427387904)) (some (Yv [Zy (Ww (Xb B at_)),Zz .i64 (Wz (Xb B at_)),Zz .i64 (Yh (Xb B at_))],[]))) fun (r:AV×Blocks)=>onNilB (Yz r) (Xn (Yw r) fun vs=>onCons vs fun x r=>AV.onStr x fun b=>onCons r fun x r=>Yu .i64 x fun n=>onCons r fun x r=>Yu .i64 x fun n_1=>onNil r (sel (!!(bad || !n_1==0)) (some (Zy [],[[Zm B,Zz .i64 (bif bad || !n_1==0 then at_ else n),Zg (bad || !n_1==0)]])) (some (Zy b,[[Zm B,Zz .i64 (bif bad || !n_1==0 then at_ else n),Zg (bad || !n_1==0)]])))):Option (AV×Blocks))) (by kernel_rfl) ?_
  have hb:=of_decide_eq_true hpre
  simp only [A0]
  rw [chk_of (by simp;omega)]
  unfold Kerb.pText
  cases bad
  ·simp only [Bool.false_or]
   generalize hq:(!(_==(0:Int)))=q
   cases q<;>rfl
  ·rfl
 ·cases h
theorem w178:Walked Tryz.prog G 178 4 sp178:=by
 refine ⟨Tryz.f178,Tryz.func178,by decide +kernel,rfl,fun xs bl r h=> ?_⟩
 unfold sp178 at h
 split at h
 ·rename_i lb t st en k
  obtain ⟨hpre,h2⟩:=chk_inv h;cases h2
  refine Eq.trans (b:=(sel (!Kerb.timed lb) (sel (!lb==[(67:UInt8),(80:UInt8),(87:UInt8),(108:UInt8)]) (some (Zz .i64 80,[])) (sel (!Yj t 4294967295) (some (Zz .i64 104,[])) (sel (Kerb.timed lb) (sel (!Yj st 4294967295) (some (Zz .i64 104,[])) (sel (!Yj en 4294967295) (some (Zz .i64 104,[])) (sel (!k==0) (some (Zz .i64 108,[])) (some (Zz .i64 0,[]))))) (Zq (chk (decide (0≤k)&&decide (k<18446744073709551616)) (some (Zg (Xu k),[]))) fun (r:AV×Blocks)=>onNilB (Yz r) (Wd (Yw r) fun b=>sel (!b) (some (Zz .i64 10,[])) (sel (!st==0) (some (Zz .i64 108,[])) (sel (!en==0) (some (Zz .i64 108,[])) (some (Zz .i64 0,[]))))))))) (sel (!Yj t 4294967295) (some (Zz .i64 104,[])) (sel (Kerb.timed lb) (sel (!Yj st 4294967295) (some (Zz .i64 104,[])) (sel (!Yj en 4294967295) (some (Zz .i64 104,[])) (sel (!k==0) (some (Zz .i64 108,[])) (some (Zz .i64 0,[]))))) (Zq (chk (decide (0≤k)&&decide (k<18446744073709551616)) (some (Zg (Xu k),[]))) fun (r:AV×Blocks)=>onNilB (Yz r) (Wd (Yw r) fun b=>sel (!b) (some (Zz .i64 10,[])) (sel (!st==0) (some (Zz .i64 108,[])) (sel (!en==0) (some (Zz .i64 108,[])) (some (Zz .i64 0,[])))))))):Option (AV×Blocks))) (by kernel_rfl) ?_
  have eGet:([103,84,71,83]:List UInt8)=Kerb.lGet:=rfl
  have eTick:([103,84,75,84]:List UInt8)=Kerb.lTicket:=rfl
  have eChg:([67,80,87,108]:List UInt8)=Kerb.lChange:=rfl
  have eDone:([67,80,87,100]:List UInt8)=Kerb.lDone:=rfl
  have eGot:([116,103,115,84]:List UInt8)=Kerb.lGot:=rfl
  have eGiven:([116,107,116,71]:List UInt8)=Kerb.lGiven:=rfl
  simp only [A0,eChg,hpre]
  unfold Kerb.encodeKaSecret
  simp only
  cases ht:Kerb.timed lb
  ·rw [Bool.not_false,sel_true]
   cases hc:(lb==Kerb.lChange)
   ·rfl
   rw [Yq,sel_false,if_neg (by simp)]
   cases h1:Yj t 4294967295
   ·rfl
   rw [Yq,sel_false,if_neg (by simp),sel_false,if_neg (by simp)]
   cases h2:Xu k
   ·rfl
   rw [Yq,sel_false,if_neg (by simp)]
   by_cases h3:st=0
   case neg=>rw [sel_pos (by simpa using h3),if_pos (.inl h3)]
   rw [sel_neg (by simp [h3])]
   by_cases h4:en=0
   case neg=>rw [sel_pos (by simpa using h4),if_pos (.inr h4)]
   rw [sel_neg (by simp [h4]),if_neg (by simp [h3,h4])]
  ·rw [Yq,sel_false,if_neg (by simp)]
   cases h1:Yj t 4294967295
   ·rfl
   rw [Yq,sel_false,if_neg (by simp),sel_true,if_pos rfl]
   cases h2:Yj st 4294967295
   ·rfl
   rw [Yq,sel_false]
   cases h3:Yj en 4294967295
   ·rfl
   rw [Yq,sel_false,if_neg (by simp)]
   by_cases h4:k=0
   ·rw [sel_neg (by simp [h4]),if_neg (by simp [h4])]
   ·rw [sel_pos (by simpa using h4),if_pos h4]
 ·cases h
theorem w179:Walked Tryz.prog G 179 4 sp179:=by
 refine ⟨Tryz.f179,Tryz.func179,by decide +kernel,rfl,fun xs bl r h=> ?_⟩
 unfold sp179 at h
 split at h
 ·rename_i b n little
  obtain ⟨hpre,h2⟩:=chk_inv h;cases h2
  refine Eq.trans (b:=(Zq (chk (decide (Zw b≤70368744177664)) (some (Xw (b++Yd n (Zn 4) little),[]))) fun (r:AV×Blocks)=>onNilB (Yz r) (AV.onOwnB (Yw r) fun l=>some (Xw l,[])):Option (AV×Blocks))) (by kernel_rfl) ?_
  simp only [decide_eq_true_eq] at hpre
  simp only [A0]
  rw [chk_of (by simp;omega)]
  rfl
 ·cases h
theorem w186:Walked Tryz.prog G 186 4 sp186:=by
 refine ⟨Tryz.f186,Tryz.func186,by decide +kernel,rfl,fun xs bl r h=> ?_⟩
 unfold sp186 at h
 split at h
 ·rename_i b n
  obtain ⟨hpre,h2⟩:=chk_inv h;cases h2
  refine Eq.trans (b:=(Zq (chk (decide (Zw b≤70368744177664)) (some (Xw (b++Yd n (Zn 1) false),[]))) fun (r:AV×Blocks)=>onNilB (Yz r) (AV.onOwnB (Yw r) fun l=>some (Xw l,[])):Option (AV×Blocks))) (by kernel_rfl) ?_
  simp only [decide_eq_true_eq] at hpre
  simp only [A0]
  rw [chk_of (by simp;omega)]
  rfl
 ·cases h
theorem w189:Walked Tryz.prog G 189 4 sp189:=by
 refine ⟨Tryz.f189,Tryz.func189,by decide +kernel,rfl,fun xs bl r h=> ?_⟩
 unfold sp189 at h
 split at h
 ·rename_i b x y z
  obtain ⟨hpre,h2⟩:=chk_inv h;cases h2
  refine Eq.trans (b:=(Zq (chk (decide (Zw b+Zw x≤70368744177664)) (some (Zm (Yf b x),[]))) fun (r:AV×Blocks)=>onNilB (Yz r) (Vp (Yw r) fun b=>Zq (chk (decide (Zw b+Zw y≤70368744177664)) (some (Zm (Yf b y),[]))) fun (r:AV×Blocks)=>onNilB (Yz r) (Vp (Yw r) fun b=>Zq (chk (decide (Zw b+Zw z≤70368744177664)) (some (Zm (Yf b z),[]))) fun (r:AV×Blocks)=>onNilB (Yz r) (Vp (Yw r) fun b=>some (Zm b,[])))):Option (AV×Blocks))) (by kernel_rfl) ?_
  simp only [decide_eq_true_eq] at hpre
  simp only [A0]
  rw [chk_of (by simp;omega),chk_of (by simp [Yf];omega),chk_of (by simp [Yf];omega)]
  rfl
 ·cases h
theorem w205:Walked Tryz.prog G 205 4 sp205:=by
 refine ⟨Tryz.f205,Tryz.func205,by decide +kernel,rfl,fun xs bl r h=> ?_⟩
 unfold sp205 at h
 split at h
 ·rename_i B at_ bad
  obtain ⟨hpre,h2⟩:=chk_inv h;cases h2
  show runFnH (G.env 205 4) G.rts (G.own 205) Tryz.f205 _ _ [0]=_
  refine Eq.trans (b:=(Zq (chk (decide (Zw B≤4611686018427387904)) (some (Yv [Zz .i64 (Yn (Yx B at_ 4 false)),Zz .i64 (Yg (Yx B at_ 4 false)),Zz .i64 (Yk (Yx B at_ 4 false))],[]))) fun (r:AV×Blocks)=>onNilB (Yz r) (Xn (Yw r) fun vs=>onCons vs fun x r=>Yu .i64 x fun n=>onCons r fun x r=>Yu .i64 x fun n_1=>onCons r fun x r=>Yu .i64 x fun n_2=>onNil r (sel (!!(bad || !n_2==0)) (some (Zz .i64 0,[[Zm B,Zz .i64 (bif bad || !n_2==0 then at_ else n_1),Zg (bad || !n_2==0)]])) (some (Zz .i64 n,[[Zm B,Zz .i64 (bif bad || !n_2==0 then at_ else n_1),Zg (bad || !n_2==0)]])))):Option (AV×Blocks))) (by kernel_rfl) ?_
  have hb:=of_decide_eq_true hpre
  simp only [A0]
  rw [chk_of (by simp;omega)]
  unfold Kerb.pGet
  cases bad
  ·simp only [Bool.false_or]
   generalize hq:(!(_==(0:Int)))=q
   cases q<;>rfl
  ·rfl
 ·cases h
theorem w210:Walked Tryz.prog G 210 4 sp210:=by
 refine ⟨Tryz.f210,Tryz.func210,by decide +kernel,rfl,fun xs bl r h=> ?_⟩
 unfold sp210 at h
 split at h
 ·rename_i s bad
  obtain ⟨hpre,h2⟩:=chk_inv h;cases h2
  refine Eq.trans (b:=(Zq (loopM (fun (st:List AV)=>cStr st fun b r=>cStr r fun b_1 r=>cBool r fun b_2 r=>cInt .i64 r fun n r=>cInt .i64 r fun n_1 r=>let t0:Option (List AV ⊕ Ex×List AV):=some (Sum.inr (Ex.ret,[Zy b,Zy b_1,Zg false,Zz .i64 n,Zz .i64 n_1]));let t1:Bool:=decide (0≤n_1)&&decide (n_1<(↑(Zw b):Int));let t2:Int:=(↑(Xj (Xx b (Zn n_1) (0:UInt8))):Int);onNil r (sel (decide (n_1<n)) (chk t1 (sel (decide (t2<(↑(Xj (33:UInt8)):Int))) t0 (chk t1 (sel (decide (t2>(↑(Xj (126:UInt8)):Int))) t0 (chk t1 (sel (decide (Yb (Xx b (Zn n_1) (0:UInt8)) b_1≥0)) t0 (some (Sum.inl [Zy b,Zy b_1,Zg b_2,Zz .i64 n,Zz .i64 (Zj .i64 (n_1+1))])))))))) (some (Sum.inr (Vy 0,[Zy b,Zy b_1,Zg b_2,Zz .i64 n,Zz .i64 n_1]))))) [Zy s,Zy bad,Zg false,Zz .i64 (↑(Zw s):Int),Zz .i64 0]) fun (r:Ex×List AV)=>cStr (Yz r) fun b r_1=>cStr r_1 fun b r_2=>cBool r_2 fun b r_3=>cInt .i64 r_3 fun n r_4=>cInt .i64 r_4 fun n r_5=>onNil r_5 (exK r.1 (some (Zg b,[])) fun (j:Nat)=>sel (Nat.beq j 0) (some (Zg true,[])) none):Option (AV×Blocks))) (by kernel_rfl) ?_
  try dsimp only [cStr,cBs,cBool,cU8,cInt,cSl,l63]
  simp only [decide_eq_true_eq] at hpre
  refine loop_rounds (fun i:Nat=>[Zy s,Zy bad,Zg false,Zz Zx (s.length:Int),Zz Zx (i:Int)]) (fun i=>i≤s.length∧Wy s bad=Wy (s.drop i) bad) (fun i=>s.length-i)
   (fun r=>∃ i:Nat,r.2=[Zy s,Zy bad,Zg false,Zz Zx (s.length:Int),Zz Zx (i:Int)]∧((r.1 = .ret∧Wy s bad=false)∨(r.1 = .exit 0∧Wy s bad=true))) 0 ⟨Nat.zero_le _,rfl⟩ rfl ?_ ?_
  ·rintro i ⟨hi,hp⟩
   simp only [A0]
   by_cases hlt:i<s.length
   ·have hc:(decide ((0:Int)≤(i:Int))&&decide ((i:Int)<(s.length:Int)))=true:=by simp;omega
    have hd:=Kerb.drop_all_cons hlt
    rw [sel_pos (by simp;omega),chk_of hc,Vz]
    have hpr:Wy (s.drop i) bad=(Kerb.okB bad (s.getD i 0)&&Wy (s.drop (i+1)) bad):=by rw [hd];rfl
    generalize s.getD i 0=c at *
    by_cases h1:c.toNat<33
    ·rw [sel_pos (by simp;omega)]
     exact ⟨_,rfl,i,rfl,.inl ⟨rfl,by rw [hp,hpr];simp [Kerb.okB,h1]⟩⟩
    rw [sel_neg (by simp;omega),chk_of hc]
    by_cases h2:126<c.toNat
    ·rw [sel_pos (by simp;omega)]
     exact ⟨_,rfl,i,rfl,.inl ⟨rfl,by rw [hp,hpr];simp [Kerb.okB,h2]⟩⟩
    rw [sel_neg (by simp;omega),chk_of hc]
    have h4:=Kerb.indexOf_nonneg c bad
    by_cases h3:c∈bad
    ·rw [sel_pos (by simpa using h4.2 h3)]
     exact ⟨_,rfl,i,rfl,.inl ⟨rfl,by rw [hp,hpr];simp [Kerb.okB,h3]⟩⟩
    rw [sel_neg (by have:=mt h4.1 h3;simp;omega),wrap_i64 (by omega) (by omega)]
    exact ⟨_,rfl,i+1,rfl,⟨by omega,by rw [hp,hpr];simp [Kerb.okB,h1,h2,h3]⟩,by dsimp only;omega⟩
   ·rw [sel_neg (by simp;omega)]
    exact ⟨_,rfl,i,rfl,.inr ⟨rfl,by rw [hp,List.drop_eq_nil_of_le (by omega)];rfl⟩⟩
  ·rintro ⟨e,l⟩ ⟨i,rfl,⟨rfl,hp⟩ | ⟨rfl,hp⟩⟩
   ·simp only [A0,hp]
   ·simp only [A0,hp]
    rfl
 ·cases h
theorem w213:Walked Tryz.prog G 213 4 sp213:=by
 refine ⟨Tryz.f213,Tryz.func213,by decide +kernel,rfl,fun xs bl r h=> ?_⟩
 unfold sp213 at h
 split at h
 ·rename_i li x y z ad k lf iss sv ins
  obtain ⟨hpre,h2⟩:=chk_inv h;cases h2
  refine Eq.trans (b:=(Zq (chk (decide (Zw x≤9223372036854775807)&&decide (Zw y≤9223372036854775807)&&decide (Zw z≤9223372036854775807)) (some (Zg (Vn (Xp x y z)),[]))) fun (r:AV×Blocks)=>onNilB (Yz r) (Wd (Yw r) fun b=>sel (!b) (some (Zz .i64 103,[])) (Zq (chk (decide (Zw sv≤9223372036854775807)) (some (Zg (Vj sv),[]))) fun (r:AV×Blocks)=>onNilB (Yz r) (Wd (Yw r) fun b=>sel (!b) (some (Zz .i64 103,[])) (Zq (chk (decide (Zw ins≤9223372036854775807)) (some (Zg (Vk ins),[]))) fun (r:AV×Blocks)=>onNilB (Yz r) (Wd (Yw r) fun b=>sel (!b) (some (Zz .i64 103,[])) (Zq (chk (decide (0≤k)&&decide (k<18446744073709551616)) (some (Zz .i64 (Kerb.classOf k),[]))) fun (r:AV×Blocks)=>onNilB (Yz r) (Yu .i64 (Yw r) fun n=>sel (!n==2) (some (Zz .i64 10,[])) (sel (!Yj ad 4294967295) (some (Zz .i64 104,[])) (sel (!Yj lf 255) (some (Zz .i64 104,[])) (sel (!Yj iss 4294967295) (some (Zz .i64 104,[])) (some (Zz .i64 0,[])))))))))))):Option (AV×Blocks))) (by kernel_rfl) ?_
  simp only [Xy,decide_eq_true_eq] at hpre
  obtain ⟨⟨⟨⟨⟨⟨h1,h2⟩,h3⟩,h4⟩,h5⟩,h6⟩,h7⟩:=hpre
  simp only [h1,h2,h3,h4,h5,h6,h7,decide_true,Xz,↓A0,A0]
  unfold Kerb.Ticket.err
  dsimp only
  cases Vn ⟨x,y,z⟩
  ·rfl
  cases Vj sv
  ·rfl
  cases Vk ins
  ·rfl
  simp only [Yq,Xz,sel_false]
  by_cases hc:Kerb.classOf k=2
  case neg=>rw [sel_pos (by simpa using hc),if_neg (by simp),if_pos hc]
  rw [sel_neg (by simp [hc]),if_neg (by simp),if_neg (by simp [hc])]
  cases Yj ad 4294967295
  ·rfl
  cases Yj lf 255
  ·rfl
  cases Yj iss 4294967295
  ·rfl
  rfl
 ·cases h
theorem w227:Walked Tryz.prog G 227 4 sp227:=by
 refine ⟨Tryz.f227,Tryz.func227,by decide +kernel,rfl,fun xs bl r h=> ?_⟩
 unfold sp227 at h
 split at h
 ·rename_i rl els n i now bit xp br
  obtain ⟨hpre,h2⟩:=chk_inv h;cases h2
  refine Eq.trans (b:=(Zq (chk (List.all els Kerb.isEntry&&decide (Zw els≤1000000)) (some (Yv [Zz .i64 (Yw (Kerb.findEnt (List.map Vv els) n i)),Zz .i64 (Yz (Kerb.findEnt (List.map Vv els) n i))],[]))) (kT fun vs=>cInt .i64 vs fun n r=>cInt .i64 r fun n_1 r=>onNil r (sel (!n_1==0) (some (Yv [Zz .i64 0,Zz .i64 n_1],[])) (chk (decide (0≤n)&&decide (n<(↑(Zw els):Int))&&true) (AV.onAgg (Xx els (Zn n) Wb) fun cs=>cStr cs fun b r=>cStr r fun b r=>cInt .u64 r fun n_2 r=>cInt .i64 r fun n_3 r=>cInt .i64 r fun n_4 r=>cInt .i64 r fun n_5 r=>cInt .i64 r fun n_6 r=>let t0:Option (AV×Blocks):=sel (!Zj .i64 (↑(BitVec.toNat (BitVec.ofInt (Xd .i64) n_6 &&& BitVec.ofInt (Xd .i64) bit)):Int)==0) (some (Yv [Zz .i64 0,Zz .i64 br],[])) (some (Yv [Zz .i64 n,Zz .i64 0],[]));cInt .i64 r fun n r=>cInt .i64 r fun n r=>onNil r (Zq (chk (decide (0≤n_2)&&decide (n_2<18446744073709551616)) (some (Zg (Xu n_2),[]))) (kL fun b=>sel (!b) (some (Yv [Zz .i64 0,Zz .i64 10],[])) (sel (!n_4==0) (sel (decide (n_4≤now)) (some (Yv [Zz .i64 0,Zz .i64 xp],[])) t0) t0))))))):Option (AV×Blocks))) (by kernel_rfl) ?_
  delta kT kL
  try dsimp only [cStr,cBs,cBool,cU8,cInt,cSl,l63]
  simp only [Xy,decide_eq_true_eq] at hpre
  obtain ⟨hall,hlen⟩:=hpre
  obtain ⟨es,rfl,hok⟩:=Kerb.ents_of hall
  simp only [hall,hlen,Kerb.map_toEntry,decide_true,Xz,↓A0,A0]
  unfold Kerb.useEnt
  dsimp only
  have hf:=Kerb.find_count (es:=es) (n:=n) (i:=i)
  generalize Kerb.findEnt es n i=F at hf
  obtain ⟨j,e⟩:=F
  dsimp only at hf ⊢
  by_cases he:e=0
  case neg=>rw [sel_pos (by simpa using he),if_pos he]
  obtain ⟨_,f2,f3⟩:=hf he
  subst f2
  rw [sel_neg (by simpa using he),if_neg (by simpa using he),chk_of (by simp only [List.length_map,Bool.and_true,Xy,decide_eq_true_eq];omega),Vz,Kerb.getD_ent f3]
  have hx:=hok _ (Kerb.ent_mem f3)
  generalize es.getD (es.findIdx (Kerb.Entry.named n i)) Kerb.noEntry=x at hx
  obtain ⟨_,_,x3,_⟩:=hx
  have h4:(decide (0≤x.key)&&decide (x.key<18446744073709551616))=true:=x3
  simp only [Zk,↓A0,A0,h4]
  cases hk:Xu x.key
  ·rfl
  simp only [Yq,Bool.not_false,sel_true,sel_false]
  rw [if_neg (by simp)]
  have hb:Zj .i64 (BitVec.toNat (BitVec.ofInt (Xd .i64) x.attr &&& BitVec.ofInt (Xd .i64) bit):Int)=Kerb.bitOf x.attr bit:=rfl
  rw [hb]
  by_cases h1:x.expires=0
  ·rw [sel_neg (by simp [h1]),if_neg (by simp [h1])]
   by_cases h2:Kerb.bitOf x.attr bit=0
   ·rw [sel_neg (by simp [h2]),if_neg (by simp [h2])]
   ·rw [sel_pos (by simpa using h2),if_pos h2]
  ·rw [sel_pos (by simpa using h1)]
   by_cases h3:x.expires≤now
   ·rw [sel_pos (by simpa using h3),if_pos ⟨h1,h3⟩]
   ·rw [sel_neg (by simpa using h3),if_neg (by simp [h3])]
    by_cases h2:Kerb.bitOf x.attr bit=0
    ·rw [sel_neg (by simp [h2]),if_neg (by simp [h2])]
    ·rw [sel_pos (by simpa using h2),if_pos h2]
 ·cases h
theorem w230:Walked Tryz.prog G 230 4 sp230:=by
 refine ⟨Tryz.f230,Tryz.func230,by decide +kernel,rfl,fun xs bl r h=> ?_⟩
 unfold sp230 at h
 split at h
 ·rename_i en ei ek ev ex em ea ef et fn fi fk fv fx fm fa ff ft
  cases h
  refine Eq.trans (b:=(some (Zz .i64 (if Kerb.cmpB en fn=0 then Kerb.cmpB ei fi else Kerb.cmpB en fn),[]):Option (AV×Blocks))) (by kernel_rfl) ?_
  rfl
 ·cases h
theorem w238:Walked Tryz.prog G 238 4 sp238:=by
 refine ⟨Tryz.f238,Tryz.func238,by decide +kernel,rfl,fun xs bl r h=> ?_⟩
 unfold sp238 at h
 split at h
 ·rename_i b n little
  obtain ⟨hpre,h2⟩:=chk_inv h;cases h2
  refine Eq.trans (b:=(Zq (chk (decide (Zw b≤70368744177664)) (some (Xw (b++Yd n (Zn 2) little),[]))) fun (r:AV×Blocks)=>onNilB (Yz r) (AV.onOwnB (Yw r) fun l=>some (Xw l,[])):Option (AV×Blocks))) (by kernel_rfl) ?_
  simp only [decide_eq_true_eq] at hpre
  simp only [A0]
  rw [chk_of (by simp;omega)]
  rfl
 ·cases h
theorem w243:Walked Tryz.prog G 243 4 sp243:=by
 refine ⟨Tryz.f243,Tryz.func243,by decide +kernel,rfl,fun xs bl r h=> ?_⟩
 unfold sp243 at h
 split at h
 ·rename_i b
  obtain ⟨hpre,h2⟩:=chk_inv h;cases h2
  refine Eq.trans (b:=(sel (!(↑(Zw b):Int)==8) (some (Yv [Zz .u64 0,Zg false],[])) (Zq (loopM (fun (st:List AV)=>cInt .u64 st fun n r=>cBs r fun b r=>cInt .i64 r fun n_1 r=>cInt .i64 r fun n_2 r=>onNil r (sel (decide (n_2<n_1)) (chk (decide (0≤n_2)&&decide (n_2<(↑(Zw b):Int))) (some (Sum.inl [Zz .u64 (Zj .u64 (↑(BitVec.toNat (BitVec.ofInt (Xd .u64) (Zj .u64 (n*2 ^ min (Zn 8) (Xd .u64))) ||| BitVec.ofInt (Xd .u64) (Zj .u64 (↑(Xj (Xx b (Zn n_2) (0:UInt8))):Int)))):Int)),Zm b,Zz .i64 n_1,Zz .i64 (Zj .i64 (n_2+1))]))) (some (Sum.inr (Vy 0,[Zz .u64 n,Zm b,Zz .i64 n_1,Zz .i64 n_2]))))) [Zz .u64 0,Zm b,Zz .i64 (↑(Zw b):Int),Zz .i64 0]) fun (r:Ex×List AV)=>cInt .u64 (Yz r) fun n r_1=>cBs r_1 fun b r_2=>cInt .i64 r_2 fun n_1 r_3=>cInt .i64 r_3 fun n_2 r_4=>onNil r_4 (exK r.1 none fun (j:Nat)=>sel (Nat.beq j 0) (Zq (chk (decide (0≤n)&&decide (n<18446744073709551616)) (some (Zg (Xu n),[]))) (kL fun b=>sel (!b) (some (Yv [Zz .u64 0,Zg false],[])) (some (Yv [Zz .u64 n,Zg true],[])))) none)):Option (AV×Blocks))) (by kernel_rfl) ?_
  delta kL
  try dsimp only [cStr,cBs,cBool,cU8,cInt,cSl,l63]
  have hb:=of_decide_eq_true hpre
  unfold Wm
  by_cases h8:b.length=8
  case neg =>
   rw [sel_pos (by simp;omega),if_neg (by omega)]
  rw [sel_neg (by simp [h8])]
  refine loop_rounds (fun i:Nat=>[Zz Yp (Kerb.valB (b.take i)),Zm b,Zz Zx (b.length:Int),Zz Zx (i:Int)]) (fun i=>i≤8) (fun i=>8-i)
   (fun r=>r=(Vy 0,[Zz Yp (Kerb.valB b),Zm b,Zz Zx (b.length:Int),Zz Zx 8])) 0 (by omega) rfl ?_ ?_
  ·intro i hi
   simp only [A0]
   by_cases hlt:i<8
   ·have hv:=Kerb.valB_take (l:=b) (i:=i) (by omega)
    have hbd:=Kerb.valB_bd7 (l:=b.take i) (by simp;omega)
    rw [sel_pos (by simp;omega),chk_of (by simp;omega),Vz,Kerb.shl8_oru _ hbd.1 hbd.2,wrap_i64 (by omega) (by omega),← hv]
    exact ⟨_,rfl,i+1,rfl,by omega,by dsimp only;omega⟩
   ·rw [sel_neg (by simp;omega)]
    refine ⟨_,rfl,?_⟩
    show _=_
    rw [List.take_of_length_le (by omega),show i=8 from by omega]
    rfl
  rintro r rfl
  have hbd:=Kerb.valB_bd8 (l:=b) (by omega)
  simp only [A0]
  rw [sel_pos (Wh _),chk_of (by simp;omega)]
  cases hv:Xu (Kerb.valB b)
  ·rw [if_neg (by simp)]
   rfl
  ·rw [if_pos ⟨h8,rfl⟩]
   rfl
 ·cases h
theorem w28:Walked Tryz.prog G 28 5 sp28:=by
 refine ⟨Tryz.f28,Tryz.func28,by decide +kernel,rfl,fun xs bl r h=> ?_⟩
 unfold sp28 at h
 split at h
 ·rename_i b
  obtain ⟨hpre,h2⟩:=chk_inv h;cases h2
  refine Eq.trans (b:=(let t1:AV:=Zf [Zz .i64 0,Zy [],Zy [],Zy [],Zz .i64 0,Zy [],Zm [],Zy [],Zy [],Zm []];let t0:Option (AV×Blocks):=some (Yv [t1,Zz .i64 100],[]);sel (!Yz (Vd b [9])==0) (some (Yv [t1,Zz .i64 (Yz (Vd b [9]))],[])) (Zq (chk (decide (Zw b≤140737488355328)) (some (Zz .i64 (Yn (Yx b 2 1 false)),[[Zm b,Zz .i64 (bif false || !Yk (Yx b 2 1 false)==0 then 2 else Yg (Yx b 2 1 false)),Zg false,Zg !Yk (Yx b 2 1 false)==0]]))) fun (r:AV×Blocks)=>onConsB (Yz r) fun (x:List AV) (r_1:List (List AV))=>cBs x fun b_1 r_2=>cInt .i64 r_2 fun n r_3=>cBool r_3 fun b_2 r_4=>cBool r_4 fun b_3 r_5=>onNil r_5 (onNilB r_1 (Yu .i64 (Yw r) fun n_1=>sel (n_1==1||n_1==3) (Zq (chk (decide (Zw b_1≤140737488355328)) (some (Zf [Zy (Wu (Kerb.RdP.p (Kerb.rdPrin b_1 n b_3))),Zy (Wq (Kerb.RdP.p (Kerb.rdPrin b_1 n b_3))),Zy (Wx (Kerb.RdP.p (Kerb.rdPrin b_1 n b_3)))],[[Zm b_1,Zz .i64 (Kerb.RdP.pos (Kerb.rdPrin b_1 n b_3)),Zg b_2,Zg (Kerb.RdP.bad (Kerb.rdPrin b_1 n b_3))]]))) fun (r:AV×Blocks)=>onConsB (Yz r) fun (x:List AV) (r_6:List (List AV))=>cBs x fun b_4 r_7=>cInt .i64 r_7 fun n r_8=>cBool r_8 fun b_5 r_9=>cBool r_9 fun b_6 r_10=>onNil r_10 (onNilB r_6 (AV.onAgg (Yw r) fun cs=>cStr cs fun b_7 r=>cStr r fun b_8 r=>cStr r fun b_9 r=>onNil r (Zq (chk (decide (Zw b_4≤140737488355328)) (some (Zz .i64 (Yn (Yx b_4 n 2 b_5)),[[Zm b_4,Zz .i64 (bif b_6 || !Yk (Yx b_4 n 2 b_5)==0 then n else Yg (Yx b_4 n 2 b_5)),Zg b_5,Zg (b_6 || !Yk (Yx b_4 n 2 b_5)==0)]]))) fun (r:AV×Blocks)=>onConsB (Yz r) fun (x:List AV) (r_11:List (List AV))=>cBs x fun b_10 r_12=>cInt .i64 r_12 fun n r_13=>cBool r_13 fun b_11 r_14=>cBool r_14 fun b_12 r_15=>onNil r_15 (onNilB r_11 (Yu .i64 (Yw r) fun n_2=>Zq (chk (decide (Zw b_10≤140737488355328)) (some (Zm (Ww (Xq b_10 n n_2)),[[Zm b_10,Zz .i64 (bif b_12 || !Yh (Xq b_10 n n_2)==0 then n else Wz (Xq b_10 n n_2)),Zg b_11,Zg (b_12 || !Yh (Xq b_10 n n_2)==0)]]))) fun (r:AV×Blocks)=>onConsB (Yz r) fun (x:List AV) (r_16:List (List AV))=>cBs x fun b_13 r_17=>cInt .i64 r_17 fun n r_18=>cBool r_18 fun b_14 r_19=>cBool r_19 fun b_15 r_20=>onNil r_20 (onNilB r_16 (Vp (Yw r) fun b_16=>Zq (chk (l63 b_7&&l63 b_8&&l63 b_9&&true&&true&&true) (some (Yv [Zm (Vm (Xv (Vx n_1 (Xp b_7 b_8 b_9) 0 [] [] [] [] b_16))),Zz .i64 (Vw (Xv (Vx n_1 (Xp b_7 b_8 b_9) 0 [] [] [] [] b_16)))],[]))) (kT fun vs=>cBs vs fun b_17 r=>cInt .i64 r fun n r=>onNil r (sel b_15 t0 (sel (!n==0) t0 (sel (!b_17==b) t0 (some (Yv [Zf [Zz .i64 n_1,Zy b_7,Zy b_8,Zy b_9,Zz .i64 0,Zy [],Zm [],Zy [],Zy [],Zm b_16],Zz .i64 0],[])))))))))))))) (Zq (chk (decide (Zw b_1≤140737488355328)) (some (Zz .i64 (Yn (Yx b_1 n 1 false)),[[Zm b_1,Zz .i64 (bif b_3 || !Yk (Yx b_1 n 1 false)==0 then n else Yg (Yx b_1 n 1 false)),Zg b_2,Zg (b_3 || !Yk (Yx b_1 n 1 false)==0)]]))) fun (r:AV×Blocks)=>onConsB (Yz r) fun (x:List AV) (r_6:List (List AV))=>cBs x fun b_4 r_7=>cInt .i64 r_7 fun n r_8=>cBool r_8 fun b_5 r_9=>cBool r_9 fun b_6 r_10=>onNil r_10 (onNilB r_6 (Yu .i64 (Yw r) fun n_2=>Zq (chk (decide (Zw b_4≤140737488355328)) (some (Zy (Ww (Xb b_4 n)),[[Zm b_4,Zz .i64 (bif b_6 || !Yh (Xb b_4 n)==0 then n else Wz (Xb b_4 n)),Zg b_5,Zg (b_6 || !Yh (Xb b_4 n)==0)]]))) fun (r:AV×Blocks)=>onConsB (Yz r) fun (x:List AV) (r_11:List (List AV))=>cBs x fun b_7 r_12=>cInt .i64 r_12 fun n r_13=>cBool r_13 fun b_8 r_14=>cBool r_14 fun b_9 r_15=>onNil r_15 (onNilB r_11 (AV.onStr (Yw r) fun b_10=>Zq (chk (decide (Zw b_7≤140737488355328)) (some (Zz .i64 (Yn (Yx b_7 n 1 false)),[[Zm b_7,Zz .i64 (bif b_9 || !Yk (Yx b_7 n 1 false)==0 then n else Yg (Yx b_7 n 1 false)),Zg b_8,Zg (b_9 || !Yk (Yx b_7 n 1 false)==0)]]))) fun (r:AV×Blocks)=>onConsB (Yz r) fun (x:List AV) (r_16:List (List AV))=>cBs x fun b_11 r_17=>cInt .i64 r_17 fun n r_18=>cBool r_18 fun b_12 r_19=>cBool r_19 fun b_13 r_20=>onNil r_20 (onNilB r_16 (Yu .i64 (Yw r) fun n_3=>Zq (chk (decide (Zw b_11≤140737488355328)) (some (Zm (Ww (Xq b_11 n n_3)),[[Zm b_11,Zz .i64 (bif b_13 || !Yh (Xq b_11 n n_3)==0 then n else Wz (Xq b_11 n n_3)),Zg b_12,Zg (b_13 || !Yh (Xq b_11 n n_3)==0)]]))) fun (r:AV×Blocks)=>onConsB (Yz r) fun (x:List AV) (r_21:List (List AV))=>cBs x fun b_14 r_22=>cInt .i64 r_22 fun n r_23=>cBool r_23 fun b_15 r_24=>cBool r_24 fun b_16 r_25=>onNil r_25 (onNilB r_21 (Vp (Yw r) fun b_17=>Zq (chk (decide (Zw b_14≤140737488355328)) (some (Zy (Ww (Xb b_14 n)),[[Zm b_14,Zz .i64 (bif b_16 || !Yh (Xb b_14 n)==0 then n else Wz (Xb b_14 n)),Zg b_15,Zg (b_16 || !Yh (Xb b_14 n)==0)]]))) fun (r:AV×Blocks)=>onConsB (Yz r) fun (x:List AV) (r_26:List (List AV))=>cBs x fun b_18 r_27=>cInt .i64 r_27 fun n r_28=>cBool r_28 fun b_19 r_29=>cBool r_29 fun b_20 r_30=>onNil r_30 (onNilB r_26 (AV.onStr (Yw r) fun b_21=>Zq (chk (decide (Zw b_18≤140737488355328)) (some (Zy (Ww (Xb b_18 n)),[[Zm b_18,Zz .i64 (bif b_20 || !Yh (Xb b_18 n)==0 then n else Wz (Xb b_18 n)),Zg b_19,Zg (b_20 || !Yh (Xb b_18 n)==0)]]))) fun (r:AV×Blocks)=>onConsB (Yz r) fun (x:List AV) (r_31:List (List AV))=>cBs x fun b_22 r_32=>cInt .i64 r_32 fun n r_33=>cBool r_33 fun b_23 r_34=>cBool r_34 fun b_24 r_35=>onNil r_35 (onNilB r_31 (AV.onStr (Yw r) fun b_25=>Zq (chk (decide (Zw b_22≤140737488355328)) (some (Zz .i64 (Yn (Yx b_22 n 2 b_23)),[[Zm b_22,Zz .i64 (bif b_24 || !Yk (Yx b_22 n 2 b_23)==0 then n else Yg (Yx b_22 n 2 b_23)),Zg b_23,Zg (b_24 || !Yk (Yx b_22 n 2 b_23)==0)]]))) fun (r:AV×Blocks)=>onConsB (Yz r) fun (x:List AV) (r_36:List (List AV))=>cBs x fun b_26 r_37=>cInt .i64 r_37 fun n r_38=>cBool r_38 fun b_27 r_39=>cBool r_39 fun b_28 r_40=>onNil r_40 (onNilB r_36 (Yu .i64 (Yw r) fun n_4=>Zq (chk (decide (Zw b_26≤140737488355328)) (some (Zm (Ww (Xq b_26 n n_4)),[[Zm b_26,Zz .i64 (bif b_28 || !Yh (Xq b_26 n n_4)==0 then n else Wz (Xq b_26 n n_4)),Zg b_27,Zg (b_28 || !Yh (Xq b_26 n n_4)==0)]]))) fun (r:AV×Blocks)=>onConsB (Yz r) fun (x:List AV) (r_41:List (List AV))=>cBs x fun b_29 r_42=>cInt .i64 r_42 fun n r_43=>cBool r_43 fun b_30 r_44=>cBool r_44 fun b_31 r_45=>onNil r_45 (onNilB r_41 (Vp (Yw r) fun b_32=>Zq (chk (l63 b_10&&l63 b_21&&l63 b_25) (some (Yv [Zm (Vm (Xv (Vx n_1 (Xp [] [] []) n_2 b_10 b_17 b_21 b_25 b_32))),Zz .i64 (Vw (Xv (Vx n_1 (Xp [] [] []) n_2 b_10 b_17 b_21 b_25 b_32)))],[]))) (kT fun vs=>cBs vs fun b_33 r=>cInt .i64 r fun n r=>onNil r (sel b_31 t0 (sel (!n==0) t0 (sel (!b_33==b) t0 (some (Yv [Zf [Zz .i64 n_1,Zy [],Zy [],Zy [],Zz .i64 n_2,Zy b_10,Zm b_17,Zy b_21,Zy b_25,Zm b_32],Zz .i64 0],[])))))))))))))))))))))))))):Option (AV×Blocks))) (by kernel_rfl) ?_
  delta kT
  try dsimp only [cStr,cBs,cBool,cU8,cInt,cSl,l63]
  have hb:=of_decide_eq_true hpre
  simp only [A0,hpre]
  by_cases h:(Vd b [9]).2=0
  case neg =>
   rw [sel_pos (by simpa using h)]
   unfold Kerb.decodeKaRequest
   rw [if_pos h]
   rfl
  have hd:Kerb.decodeKaRequest b=Kerb.decBy Kerb.noKaReq Xv Kerb.rdKaReq b:=by unfold Kerb.decodeKaRequest;rw [if_neg (by simpa using h),Kerb.decReq_ref]
  rw [sel_neg (by simp [h]),hd]
  have lt:=Kerb.text_len b
  have lp:=Kerb.rdPrin_len b
  cases e2:((Yx b 2 1 false).val==1||(Yx b 2 1 false).val==3)
  ·have e3:((Kerb.rdGet b 1 false 2 false).val==1||(Kerb.rdGet b 1 false 2 false).val==3)=false:=e2
   rw [sel_false,chk_of (by simp only [Xy,decide_eq_true_eq,true_and];exact ⟨⟨Vu (lt _) (by omega),Vu (lt _) (by omega)⟩,Vu (lt _) (by omega)⟩)]
   exact Kerb.decBy_fin (no:=Kerb.noKaReq) (enc:=Xv) (rd:=Kerb.rdKaReq) _ _ (by unfold Kerb.rdKaReq Kerb.rReq;dsimp only;rw [e3];rfl) (fun x e=>(Yv [Zf [Zz Zx (x).op,Zy (x).user.name,Zy (x).user.inst,Zy (x).user.realm,Zz Zx (x).kvno,Zy (x).realm,Zm (x).ticket,Zy (x).service,Zy (x).inst,Zm (x).box],Zz Zx e],([]:Blocks)))
  ·have e3:((Kerb.rdGet b 1 false 2 false).val==1||(Kerb.rdGet b 1 false 2 false).val==3)=true:=e2
   rw [sel_true,chk_of (by simp only [Xy,decide_eq_true_eq,and_true];exact ⟨⟨Vu (lp _ _).1 (by omega),Vu (lp _ _).2.1 (by omega)⟩,Vu (lp _ _).2.2 (by omega)⟩)]
   exact Kerb.decBy_fin (no:=Kerb.noKaReq) (enc:=Xv) (rd:=Kerb.rdKaReq) _ _ (by unfold Kerb.rdKaReq Kerb.rReq;dsimp only;rw [e3];rfl) (fun x e=>(Yv [Zf [Zz Zx (x).op,Zy (x).user.name,Zy (x).user.inst,Zy (x).user.realm,Zz Zx (x).kvno,Zy (x).realm,Zm (x).ticket,Zy (x).service,Zy (x).inst,Zm (x).box],Zz Zx e],([]:Blocks)))
 ·cases h
theorem w30:Walked Tryz.prog G 30 5 sp30:=by
 refine ⟨Tryz.f30,Tryz.func30,by decide +kernel,rfl,fun xs bl r h=> ?_⟩
 unfold sp30 at h
 split at h
 ·rename_i b
  obtain ⟨hpre,h2⟩:=chk_inv h;cases h2
  refine Eq.trans (b:=(let t0:Option (AV×Blocks):=some (Yv [Zf [Zz .i64 0,Zz .i64 0,Zm []],Zz .i64 100],[]);sel (!Yz (Vd b [9])==0) (some (Yv [Zf [Zz .i64 0,Zz .i64 0,Zm []],Zz .i64 (Yz (Vd b [9]))],[])) (Zq (chk (decide (Zw b≤140737488355328)) (some (Zz .i64 (Yn (Yx b 2 1 false)),[[Zm b,Zz .i64 (bif false || !Yk (Yx b 2 1 false)==0 then 2 else Yg (Yx b 2 1 false)),Zg false,Zg !Yk (Yx b 2 1 false)==0]]))) fun (r:AV×Blocks)=>onConsB (Yz r) fun (x:List AV) (r_1:List (List AV))=>cBs x fun b_1 r_2=>cInt .i64 r_2 fun n r_3=>cBool r_3 fun b_2 r_4=>cBool r_4 fun b_3 r_5=>onNil r_5 (onNilB r_1 (Yu .i64 (Yw r) fun n_1=>Zq (chk (decide (Zw b_1≤140737488355328)) (some (Zz .i64 (Yn (Yx b_1 n 1 false)),[[Zm b_1,Zz .i64 (bif b_3 || !Yk (Yx b_1 n 1 false)==0 then n else Yg (Yx b_1 n 1 false)),Zg b_2,Zg (b_3 || !Yk (Yx b_1 n 1 false)==0)]]))) fun (r:AV×Blocks)=>onConsB (Yz r) fun (x:List AV) (r_6:List (List AV))=>cBs x fun b_4 r_7=>cInt .i64 r_7 fun n r_8=>cBool r_8 fun b_5 r_9=>cBool r_9 fun b_6 r_10=>onNil r_10 (onNilB r_6 (Yu .i64 (Yw r) fun n_2=>Zq (chk (decide (Zw b_4≤140737488355328)) (some (Zz .i64 (Yn (Yx b_4 n 2 b_5)),[[Zm b_4,Zz .i64 (bif b_6 || !Yk (Yx b_4 n 2 b_5)==0 then n else Yg (Yx b_4 n 2 b_5)),Zg b_5,Zg (b_6 || !Yk (Yx b_4 n 2 b_5)==0)]]))) fun (r:AV×Blocks)=>onConsB (Yz r) fun (x:List AV) (r_11:List (List AV))=>cBs x fun b_7 r_12=>cInt .i64 r_12 fun n r_13=>cBool r_13 fun b_8 r_14=>cBool r_14 fun b_9 r_15=>onNil r_15 (onNilB r_11 (Yu .i64 (Yw r) fun n_3=>Zq (chk (decide (Zw b_7≤140737488355328)) (some (Zm (Ww (Xq b_7 n n_3)),[[Zm b_7,Zz .i64 (bif b_9 || !Yh (Xq b_7 n n_3)==0 then n else Wz (Xq b_7 n n_3)),Zg b_8,Zg (b_9 || !Yh (Xq b_7 n n_3)==0)]]))) fun (r:AV×Blocks)=>onConsB (Yz r) fun (x:List AV) (r_16:List (List AV))=>cBs x fun b_10 r_17=>cInt .i64 r_17 fun n r_18=>cBool r_18 fun b_11 r_19=>cBool r_19 fun b_12 r_20=>onNil r_20 (onNilB r_16 (Vp (Yw r) fun b_13=>sel b_12 t0 (sel (!Vw (Wg (Kerb.KaReply.mk (Zj .i64 (n_1-128)) n_2 b_13))==0) t0 (sel (!Vm (Wg (Kerb.KaReply.mk (Zj .i64 (n_1-128)) n_2 b_13))==b) t0 (some (Yv [Zf [Zz .i64 (Zj .i64 (n_1-128)),Zz .i64 n_2,Zm b_13],Zz .i64 0],[]))))))))))))):Option (AV×Blocks))) (by kernel_rfl) ?_
  try dsimp only [cStr,cBs,cBool,cU8,cInt,cSl,l63]
  have hb:=of_decide_eq_true hpre
  simp only [A0,hpre]
  by_cases h:(Vd b [9]).2=0
  case neg =>
   rw [sel_pos (by simpa using h)]
   unfold Kerb.decodeKaReply
   rw [if_pos h]
   rfl
  have hd:Kerb.decodeKaReply b=Kerb.decBy Kerb.noKaReply Wg Kerb.rdKaRep b:=by unfold Kerb.decodeKaReply;rw [if_neg (by simpa using h),Kerb.decRep_ref]
  rw [sel_neg (by simp [h]),hd]
  have hg:=Kerb.get_bd b 2 1 false (by omega)
  rw [wrap_i64 (by omega) (by omega)]
  exact Kerb.decBy_fin (no:=Kerb.noKaReply) (enc:=Wg) (rd:=Kerb.rdKaRep) _ _ rfl (fun x e=>(Yv [Zf [Zz Zx (x).op,Zz Zx (x).code,Zm (x).box],Zz Zx e],([]:Blocks)))
 ·cases h
theorem w94:Walked Tryz.prog G 94 5 sp94:=by
 refine ⟨Tryz.f94,Tryz.func94,by decide +kernel,rfl,fun xs bl r h=> ?_⟩
 unfold sp94 at h
 split at h
 ·rename_i lb t st en k
  obtain ⟨hpre,h2⟩:=chk_inv h;cases h2
  refine Eq.trans (b:=(Zq (chk (decide (0≤k)&&decide (k<18446744073709551616)) (some (Zz .i64 (Vw (Kerb.encodeKaSecret (Kerb.KaSecret.mk lb t st en k))),[]))) (kI .i64 fun n=>sel (!n==0) (some (Yv [Zm [],Zz .i64 n],[])) (Zq (chk (decide (Zw lb≤70368744177664)) (some (Xw (lb++Yd t 4 false),[]))) (kO fun l=>sel (Kerb.timed lb) (Zq (chk (decide (Zw l≤70368744177664)) (some (Xw (l++Yd st 4 false),[]))) (kO fun l=>Zq (chk (decide (Zw l≤70368744177664)) (some (Xw (l++Yd en 4 false),[]))) (kO fun l=>Zq (chk (decide (Zw l≤70368744177664)) (some (Zm (Kerb.pad l),[]))) (kB fun b=>some (Yv [Zm b,Zz .i64 0],[]))))) (Zq (chk (decide (0≤k)&&decide (k<18446744073709551616)) (some (Zm (Kerb.keyBytes k),[]))) (kB fun b=>chk (room (Zw l+Zw b) 1) (Zq (chk (decide (Zw (l++b)≤70368744177664)) (some (Zm (Kerb.pad (l++b)),[]))) (kB fun b=>some (Yv [Zm b,Zz .i64 0],[])))))))):Option (AV×Blocks))) (by kernel_rfl) ?_
  delta kB kO kI
  try dsimp only [cStr,cBs,cBool,cU8,cInt,cSl,l63]
  simp only [A0,hpre]
  by_cases he:(Kerb.encodeKaSecret (Kerb.KaSecret.mk lb t st en k)).err=0
  case neg=>rw [sel_pos (by simpa using he),Kerb.encKaSec_no he]
  rw [sel_neg (by simp [he]),he]
  have hl:lb.length=4:=by
   obtain ⟨_,⟨_,h4,_⟩ | ⟨h4,_⟩⟩:=Kerb.encKaSec_inv he
   ·exact h4
   ·simp only at h4;rw [h4];rfl
  rw [chk_of (by simp;omega)]
  rcases Kerb.encKaSec_val he with ⟨ht,hv⟩ | ⟨ht,hv⟩
  ·rw [sel_pos ht,hv,chk_of (by simp [Zp];omega),chk_of (by simp [Zp];omega),chk_of (by simp [Zp];omega)]
  ·rw [sel_neg ht,hv,chk_of (Xf (by simp [Zp,Zb];omega)),chk_of (by simp [Zp,Zb];omega)]
 ·cases h
theorem w126:Walked Tryz.prog G 126 5 sp126:=by
 refine ⟨Tryz.f126,Tryz.func126,by decide +kernel,rfl,fun xs bl r h=> ?_⟩
 unfold sp126 at h
 split at h
 ·rename_i s
  obtain ⟨hpre,h2⟩:=chk_inv h;cases h2
  refine Eq.trans (b:=(sel (!s==[]) (sel (decide ((↑(Zw s):Int)≤39)) (Zq (chk (decide (Zw s≤9223372036854775807)) (some (Zg (Wy s [(46:UInt8),(64:UInt8)]),[]))) fun (r:AV×Blocks)=>onNilB (Yz r) (Wd (Yw r) fun b=>some (Zg b,[]))) (some (Zg false,[]))) (some (Zg false,[])):Option (AV×Blocks))) (by kernel_rfl) ?_
  simp only [A0]
  rw [chk_of hpre,decide_eq_decide.2 (show ((s.length:Int)≤39)↔s.length≤39 from by omega)]
  simp only [Vj]
  cases s with
  | nil=>rfl
  | cons x r=>cases decide ((x::r).length≤39)<;>rfl
 ·cases h
theorem w127:Walked Tryz.prog G 127 5 sp127:=by
 refine ⟨Tryz.f127,Tryz.func127,by decide +kernel,rfl,fun xs bl r h=> ?_⟩
 unfold sp127 at h
 split at h
 ·rename_i s
  obtain ⟨hpre,h2⟩:=chk_inv h;cases h2
  refine Eq.trans (b:=(sel (decide ((↑(Zw s):Int)≤39)) (Zq (chk (decide (Zw s≤9223372036854775807)) (some (Zg (Wy s [(64:UInt8)]),[]))) fun (r:AV×Blocks)=>onNilB (Yz r) (Wd (Yw r) fun b=>some (Zg b,[]))) (some (Zg false,[])):Option (AV×Blocks))) (by kernel_rfl) ?_
  simp only [A0]
  rw [chk_of hpre,decide_eq_decide.2 (show ((s.length:Int)≤39)↔s.length≤39 from by omega)]
  simp only [Vk]
  cases decide (s.length≤39)<;>rfl
 ·cases h
theorem w137:Walked Tryz.prog G 137 5 sp137:=by
 refine ⟨Tryz.f137,Tryz.func137,by decide +kernel,rfl,fun xs bl r h=> ?_⟩
 unfold sp137 at h
 split at h
 ·rename_i li x y z ad k lf iss sv ins
  obtain ⟨hpre,h2⟩:=chk_inv h;cases h2
  refine Eq.trans (b:=(let t0:Nat:=Zw ([]++Yd 0 1 false)+Zw x+Zw y+Zw z;let t1:Nat:=Zw ([]++Yd 1 1 false)+Zw x+Zw y+Zw z;let t2:Option (AV×Blocks):=chk (decide (0≤k)&&decide (k<18446744073709551616)) (some (Zm (Kerb.keyBytes k),[]));Zq (chk (l63 x&&l63 y&&l63 z&&l63 sv&&l63 ins&&decide (0≤k)&&decide (k<18446744073709551616)) (some (Zz .i64 (Kerb.Ticket.err (Kerb.Ticket.mk li (Xp x y z) ad k lf iss sv ins)),[]))) (kI .i64 fun n=>sel (!n==0) (some (Yv [Zm [],Zz .i64 n],[])) (sel li (Zq (chk (decide (t1≤70368744170000)) (some (Zm (Kerb.putPrin ([]++Yd 1 1 false) (Xp x y z)),[]))) (kB fun b=>Zq (chk (decide (Zw b≤70368744177664)) (some (Xw (b++Yd ad 4 li),[]))) (kO fun l=>Zq t2 (kB fun b=>chk (room (Zw l+Zw b) 1) (Zq (chk (decide (Zw (l++b)≤70368744177664)) (some (Xw (l++b++Yd lf 1 false),[]))) (kO fun l=>Zq (chk (decide (Zw l≤70368744177664)) (some (Xw (l++Yd iss 4 li),[]))) (kO fun l=>Zq (chk (decide (Zw l+Zw sv≤70368744177664)) (some (Zm (Yf l sv),[]))) (kB fun b=>Zq (chk (decide (Zw b+Zw ins≤70368744177664)) (some (Zm (Yf b ins),[]))) (kB fun b=>Zq (chk (decide (Zw b≤70368744177664)) (some (Xw (Kerb.pad b),[]))) (kO fun l=>some (Yv [Zm l,Zz .i64 0],[]))))))))))) (Zq (chk (decide (t0≤70368744170000)) (some (Zm (Kerb.putPrin ([]++Yd 0 1 false) (Xp x y z)),[]))) (kB fun b=>Zq (chk (decide (Zw b≤70368744177664)) (some (Xw (b++Yd ad 4 li),[]))) (kO fun l=>Zq t2 (kB fun b=>chk (room (Zw l+Zw b) 1) (Zq (chk (decide (Zw (l++b)≤70368744177664)) (some (Xw (l++b++Yd lf 1 false),[]))) (kO fun l=>Zq (chk (decide (Zw l≤70368744177664)) (some (Xw (l++Yd iss 4 li),[]))) (kO fun l=>Zq (chk (decide (Zw l+Zw sv≤70368744177664)) (some (Zm (Yf l sv),[]))) (kB fun b=>Zq (chk (decide (Zw b+Zw ins≤70368744177664)) (some (Zm (Yf b ins),[]))) (kB fun b=>Zq (chk (decide (Zw b≤70368744177664)) (some (Xw (Kerb.pad b),[]))) (kO fun l=>some (Yv [Zm l,Zz .i64 0],[]))))))))))))):Option (AV×Blocks))) (by kernel_rfl) ?_
  delta kB kO kI
  try dsimp only [cStr,cBs,cBool,cU8,cInt,cSl,l63]
  simp only [Xy,decide_eq_true_eq] at hpre
  obtain ⟨⟨⟨⟨⟨⟨h1,h2⟩,h3⟩,h4⟩,h5⟩,h6⟩,h7⟩:=hpre
  simp only [h1,h2,h3,h4,h5,h6,h7,decide_true,Xz,↓A0,A0]
  have hb := @Kerb.encTicket_inv ⟨li,⟨x,y,z⟩,ad,k,lf,iss,sv,ins⟩
  unfold Vf at hb ⊢
  dsimp only at hb ⊢
  generalize hE:Kerb.Ticket.err _=e at hb ⊢
  by_cases he:e=0
  case neg=>rw [sel_pos (by simpa using he),if_pos he]
  rw [if_neg (by simpa using he)] at hb
  obtain ⟨v1,v2,v3,_⟩:=hb rfl
  have l1:=Kerb.valid_len v1
  have l2:=(Kerb.name_ok v2).1
  have l3:=(Kerb.inst_ok v3).1
  dsimp only at l1
  rw [sel_neg (by simpa using he),if_neg (by simpa using he)]
  cases li
  ·rw [sel_false,chk_of (by first | (simp [Zh,Zp,Zb];done) | (simp [Zh,Zp,Zb];omega)),chk_of (by first | (simp [Zh,Zp,Zb];done) | (simp [Zh,Zp,Zb];omega)),chk_of (Xf (by first | (simp [Zh,Zp,Zb];done) | (simp [Zh,Zp,Zb];omega))),chk_of (by first | (simp [Zh,Zp,Zb];done) | (simp [Zh,Zp,Zb];omega)),chk_of (by first | (simp [Zh,Zp,Zb];done) | (simp [Zh,Zp,Zb];omega)),chk_of (by first | (simp [Zh,Zp,Zb];done) | (simp [Zh,Zp,Zb];omega)),chk_of (by first | (simp [Yf,Zh,Zp,Zb];done) | (simp [Yf,Zh,Zp,Zb];omega)),chk_of (by first | (simp [Yf,Zh,Zp,Zb];done) | (simp [Yf,Zh,Zp,Zb];omega))]
   simp
  ·rw [sel_true,chk_of (by first | (simp [Zh,Zp,Zb];done) | (simp [Zh,Zp,Zb];omega)),chk_of (by first | (simp [Zh,Zp,Zb];done) | (simp [Zh,Zp,Zb];omega)),chk_of (Xf (by first | (simp [Zh,Zp,Zb];done) | (simp [Zh,Zp,Zb];omega))),chk_of (by first | (simp [Zh,Zp,Zb];done) | (simp [Zh,Zp,Zb];omega)),chk_of (by first | (simp [Zh,Zp,Zb];done) | (simp [Zh,Zp,Zb];omega)),chk_of (by first | (simp [Zh,Zp,Zb];done) | (simp [Zh,Zp,Zb];omega)),chk_of (by first | (simp [Yf,Zh,Zp,Zb];done) | (simp [Yf,Zh,Zp,Zb];omega)),chk_of (by first | (simp [Yf,Zh,Zp,Zb];done) | (simp [Yf,Zh,Zp,Zb];omega))]
   simp
 ·cases h
theorem w155:Walked Tryz.prog G 155 5 sp155:=by
 refine ⟨Tryz.f155,Tryz.func155,by decide +kernel,rfl,fun xs bl r h=> ?_⟩
 unfold sp155 at h
 split at h
 ·rename_i rl els n i now
  obtain ⟨hpre,h2⟩:=chk_inv h;cases h2
  refine Eq.trans (b:=(Zq (chk (List.all els Kerb.isEntry&&decide (Zw els≤1000000)) (some (Yv [Zz .i64 (Yw (Kerb.useEnt (Kerb.Db.mk rl (List.map Vv els)) n i now 1 1 5)),Zz .i64 (Yz (Kerb.useEnt (Kerb.Db.mk rl (List.map Vv els)) n i now 1 1 5))],[]))) fun (r:AV×Blocks)=>onNilB (Yz r) (Xn (Yw r) fun vs=>onCons vs fun x r=>Yu .i64 x fun n=>onCons r fun x r=>Yu .i64 x fun n_1=>onNil r (some (Yv [Zz .i64 n,Zz .i64 n_1],[]))):Option (AV×Blocks))) (by kernel_rfl) ?_
  simp only [hpre,↓A0,A0]
  rfl
 ·cases h
theorem w188:Walked Tryz.prog G 188 5 sp188:=by
 refine ⟨Tryz.f188,Tryz.func188,by decide +kernel,rfl,fun xs bl r h=> ?_⟩
 unfold sp188 at h
 split at h
 ·rename_i b t
  obtain ⟨hpre,h2⟩:=chk_inv h;cases h2
  refine Eq.trans (b:=(Zq (chk (decide (Zw b≤70368744177664)) (some (Xw (b++Yd (↑(Zw t):Int) 1 false),[]))) fun (r:AV×Blocks)=>onNilB (Yz r) (AV.onOwnB (Yw r) fun l=>chk (room (Zw l+Zw t) 1) (some (Zm (l++t),[]))):Option (AV×Blocks))) (by kernel_rfl) ?_
  simp only [decide_eq_true_eq] at hpre
  simp only [A0]
  rw [chk_of (by simp;omega),chk_of (Xf (by simp [Zp];omega))]
  rfl
 ·cases h
theorem w190:Walked Tryz.prog G 190 5 sp190:=by
 refine ⟨Tryz.f190,Tryz.func190,by decide +kernel,rfl,fun xs bl r h=> ?_⟩
 unfold sp190 at h
 split at h
 ·rename_i b t
  obtain ⟨hpre,h2⟩:=chk_inv h;cases h2
  refine Eq.trans (b:=(Zq (chk (decide (Zw b≤70368744177664)) (some (Xw (b++Yd (↑(Zw t):Int) 2 false),[]))) fun (r:AV×Blocks)=>onNilB (Yz r) (AV.onOwnB (Yw r) fun l=>chk (room (Zw l+Zw t) 1) (some (Zm (l++t),[]))):Option (AV×Blocks))) (by kernel_rfl) ?_
  simp only [decide_eq_true_eq] at hpre
  simp only [A0]
  rw [chk_of (by simp;omega),chk_of (Xf (by simp [Zp];omega))]
  rfl
 ·cases h
theorem w204:Walked Tryz.prog G 204 5 sp204:=by
 refine ⟨Tryz.f204,Tryz.func204,by decide +kernel,rfl,fun xs bl r h=> ?_⟩
 unfold sp204 at h
 split at h
 ·rename_i b
  obtain ⟨hpre,h2⟩:=chk_inv h;cases h2
  refine Eq.trans (b:=(let t1:Int:=Zj .i64 (↑(BitVec.toNat (BitVec.ofInt (Xd .i64) (Zj .i64 (Zj .i64 (↑(Xj (Xx b (Zn 10) (0:UInt8))):Int)*2 ^ min (Zn 8) (Xd .i64))) ||| BitVec.ofInt (Xd .i64) (Zj .i64 (↑(Xj (Xx b (Zn 11) (0:UInt8))):Int)))):Int);let t2:Option (AV×Blocks):=some (Yv [Zf [Zz .i64 0,Zz .u64 0,Zm []],Zz .i64 0,Zz .i64 100],[]);let t3:Option (AV×Blocks):=some (Yv [Zf [Zz .i64 0,Zz .u64 0,Zm []],Zz .i64 0,Zz .i64 101],[]);let t0:Int:=Zj .i64 (12+t1);sel (decide ((↑(Zw b):Int)<12)) t3 (chk (decide (1<(↑(Zw b):Int))) (chk (decide (10≤(↑(Zw b):Int))) (Zq (chk (decide (Zw (Xh (Zn 2) (Xm (Zn 10) b))≤4611686018427387904)) (some (Yv [Zz .u64 (Yw (Wm (Xh (Zn 2) (Xm (Zn 10) b)))),Zg (Yz (Wm (Xh (Zn 2) (Xm (Zn 10) b))))],[]))) (kT fun vs=>cInt .u64 vs fun n r=>cBool r fun b_1 r=>onNil r (chk (decide (10<(↑(Zw b):Int))) (chk (decide (11<(↑(Zw b):Int))) (chk (decide (0<(↑(Zw b):Int))) (sel (!Xx b (Zn 0) (0:UInt8)==(66:UInt8)) t2 (sel (!Kerb.isKind (Zj .i64 (↑(Xj (Xx b (Zn 1) (0:UInt8))):Int))) t2 (sel (!b_1) t2 (sel (decide (t1>1000)) t2 (sel (decide ((↑(Zw b):Int)<t0)) t3 (chk (decide (12≤t0)&&decide (t0≤t0)&&decide (t0≤(↑(Zw b):Int))) (Zq (chk (decide (Zw (Xh (Zn 12) (Xm (Zn t0) b))≤140737488355328)) (some (Zm (Xh (Zn 12) (Xm (Zn t0) b)),[]))) (kB fun b_2=>some (Yv [Zf [Zz .i64 (Zj .i64 (↑(Xj (Xx b (Zn 1) (0:UInt8))):Int)),Zz .u64 n,Zm b_2],Zz .i64 t0,Zz .i64 0],[])))))))))))))))):Option (AV×Blocks))) (by kernel_rfl) ?_
  delta kT kB
  try dsimp only [cStr,cBs,cBool,cU8,cInt,cSl,l63]
  simp only [decide_eq_true_eq] at hpre
  unfold Kerb.readBox
  by_cases h0:b.length<12
  ·rw [sel_pos (by simp;omega),if_pos h0];rfl
  rw [sel_neg (by simp;omega),if_neg h0]
  have hc:=Kerb.cut_len b 2 8
  have hs:(b.getD 10 0).toNat*256+(b.getD 11 0).toNat=Kerb.boxSize b:=rfl
  simp only [Kerb.cut_28,Kerb.size_or]
  simp only [show Zn 0=0 from rfl,show Zn 1=1 from rfl,show Zn 10=10 from rfl,show Zn 11=11 from rfl,Kerb.wrap_byte,hs]
  rw [chk_of (by simp;omega),chk_of (by simp;omega),chk_of (by simp;omega)]
  simp only [↓A0]
  rw [chk_of (by simp;omega),chk_of (by simp;omega),chk_of (by simp;omega)]
  by_cases h1:b.getD 0 0=66
  case neg=>rw [sel_pos (by simpa using h1),if_pos (.inl h1)];rfl
  rw [sel_neg (by simpa using h1)]
  cases h2:Kerb.isKind ((b.getD 1 0).toNat:Int)
  ·rw [if_pos (.inr (.inl rfl))];rfl
  rw [Yq,sel_false]
  cases h3:(Wm (Kerb.cut b 2 8)).2
  ·rw [if_pos (.inr (.inr (.inl rfl)))];rfl
  rw [Yq,sel_false]
  by_cases h4:1000<Kerb.boxSize b
  ·rw [sel_pos (by simp;omega),if_pos (.inr (.inr (.inr h4)))];rfl
  rw [sel_neg (by simp;omega),if_neg (by rintro (h | h | h | h)<;>first | exact h h1 | cases h | omega),wrap_i64 (by omega) (by omega)]
  by_cases h5:b.length<12+Kerb.boxSize b
  ·rw [sel_pos (by simp;omega),if_pos h5];rfl
  have hc2:=Kerb.cut_len b 12 (Kerb.boxSize b)
  rw [sel_neg (by simp;omega),if_neg h5,Kerb.cut_12,chk_of (by simp;omega)]
  simp only [↓A0]
  rw [chk_of (by simp;omega)]
  simp
 ·cases h
theorem w207:Walked Tryz.prog G 207 5 sp207:=by
 refine ⟨Tryz.f207,Tryz.func207,by decide +kernel,rfl,fun xs bl r h=> ?_⟩
 unfold sp207 at h
 split at h
 ·rename_i B at_ bad
  obtain ⟨hpre,h2⟩:=chk_inv h;cases h2
  show runFnH (G.env 207 5) G.rts (G.own 207) Tryz.f207 _ _ [0]=_
  refine Eq.trans (b:=(Zq (chk (decide (Zw B≤140737488355328)) (some (Zm (Kerb.Rd.val (Kerb.pBytes B 8 at_ bad)),[[Zm B,Zz .i64 (Kerb.Rd.pos (Kerb.pBytes B 8 at_ bad)),Zg (Kerb.Rd.bad (Kerb.pBytes B 8 at_ bad))]]))) fun (r:AV×Blocks)=>onConsB (Yz r) fun (x:List AV) (r_1:List (List AV))=>onCons x fun x r_2=>Vp x fun b=>onCons r_2 fun x r_3=>Yu .i64 x fun n=>onCons r_3 fun x r_4=>Wd x fun b_1=>onNil r_4 (onNilB r_1 (Vp (Yw r) fun b_2=>Zq (chk (decide (Zw b_2≤4611686018427387904)) (some (Yv [Zz .u64 (Yw (Wm b_2)),Zg (Yz (Wm b_2))],[]))) fun (r:AV×Blocks)=>onNilB (Yz r) (Xn (Yw r) fun vs=>onCons vs fun x r=>Yu .u64 x fun n_1=>onCons r fun x r=>Wd x fun b_3=>onNil r (sel (!b_3) (some (Zz .u64 0,[[Zm b,Zz .i64 n,Zg true]])) (some (Zz .u64 n_1,[[Zm b,Zz .i64 n,Zg b_1]])))))):Option (AV×Blocks))) (by kernel_rfl) ?_
  have hb:=of_decide_eq_true hpre
  simp only [A0]
  have hl:(Kerb.pBytes B 8 at_ bad).val.length≤B.length:=Kerb.pBytes_len B 8 at_ bad
  rw [chk_of hpre,chk_of (by simp;omega)]
  unfold Kerb.pKey
  cases (Wm (Kerb.pBytes B 8 at_ bad).val).2
  ·simp [sel]
  ·simp [sel]
 ·cases h
theorem w216:Walked Tryz.prog G 216 5 sp216:=by
 refine ⟨Tryz.f216,Tryz.func216,by decide +kernel,rfl,fun xs bl r h=> ?_⟩
 unfold sp216 at h
 split at h
 ·rename_i rl els n i now
  obtain ⟨hpre,h2⟩:=chk_inv h;cases h2
  refine Eq.trans (b:=(Zq (chk (List.all els Kerb.isEntry&&decide (Zw els≤1000000)) (some (Yv [Zz .i64 (Yw (Kerb.useEnt (Kerb.Db.mk rl (List.map Vv els)) n i now 2 2 6)),Zz .i64 (Yz (Kerb.useEnt (Kerb.Db.mk rl (List.map Vv els)) n i now 2 2 6))],[]))) fun (r:AV×Blocks)=>onNilB (Yz r) (Xn (Yw r) fun vs=>onCons vs fun x r=>Yu .i64 x fun n=>onCons r fun x r=>Yu .i64 x fun n_1=>onNil r (some (Yv [Zz .i64 n,Zz .i64 n_1],[]))):Option (AV×Blocks))) (by kernel_rfl) ?_
  simp only [hpre,↓A0,A0]
  rfl
 ·cases h
theorem w61:Walked Tryz.prog G 61 6 sp61:=by
 refine ⟨Tryz.f61,Tryz.func61,by decide +kernel,rfl,fun xs bl r h=> ?_⟩
 unfold sp61 at h
 split at h
 ·rename_i li x y z ad k lf iss sv ins key
  obtain ⟨hpre,h2⟩:=chk_inv h;cases h2
  refine Eq.trans (b:=(Zq (chk (decide (Zw x≤9223372036854775807)&&decide (Zw y≤9223372036854775807)&&decide (Zw z≤9223372036854775807)&&decide (Zw sv≤9223372036854775807)&&decide (Zw ins≤9223372036854775807)&&decide (0≤k)&&decide (k<18446744073709551616)) (some (Yv [Zm (Vm (Vf (Kerb.Ticket.mk li (Xp x y z) ad k lf iss sv ins))),Zz .i64 (Vw (Vf (Kerb.Ticket.mk li (Xp x y z) ad k lf iss sv ins)))],[]))) fun (r:AV×Blocks)=>onNilB (Yz r) (Xn (Yw r) fun vs=>onCons vs fun x r=>Vp x fun b=>onCons r fun x r=>Yu .i64 x fun n=>onNil r (sel (!n==0) (some (Yv [Zm [],Zz .i64 n],[])) (Zq (chk (decide (0≤key)&&decide (key<18446744073709551616)) (some (Yv [Zm (Vm (Kerb.makeBox 1 key b)),Zz .i64 (Vw (Kerb.makeBox 1 key b))],[]))) fun (r:AV×Blocks)=>onNilB (Yz r) (Xn (Yw r) fun vs=>onCons vs fun x r=>Vp x fun b=>onCons r fun x r=>Yu .i64 x fun n=>onNil r (some (Yv [Zm b,Zz .i64 n],[])))))):Option (AV×Blocks))) (by kernel_rfl) ?_
  simp only [Xy,decide_eq_true_eq] at hpre
  obtain ⟨⟨⟨⟨⟨⟨⟨⟨h1,h2⟩,h3⟩,h4⟩,h5⟩,h6⟩,h7⟩,h8⟩,h9⟩:=hpre
  simp only [h1,h2,h3,h4,h5,h6,h7,h8,h9,decide_true,Xz,↓A0,A0]
  unfold Kerb.sealTicket
  generalize Vf _=E
  by_cases he:E.err=0
  ·rw [sel_neg (by simpa using he),if_neg (by simpa using he)]
  ·rw [sel_pos (by simpa using he),if_pos he]
 ·cases h
theorem w120:Walked Tryz.prog G 120 6 sp120:=by
 refine ⟨Tryz.f120,Tryz.func120,by decide +kernel,rfl,fun xs bl r h=> ?_⟩
 unfold sp120 at h
 split at h
 ·rename_i op cd bx
  cases h
  refine Eq.trans (b:=(let t2:List UInt8:=Kerb.header 9 false++Yd (Zj .i64 (op+128)) 1 false;let t1:Nat:=Zw t2;let t0:Option (AV×Blocks):=Zq (chk (decide (t1≤70368744177664)) (some (Xw (t2++Yd cd 1 false),[]))) (kO fun l=>Zq (chk (decide (Zw l+Zw bx≤70368744170000)) (some (Zm (Kerb.putBox l bx),[]))) (kB fun b=>some (Yv [Zm b,Zz .i64 0],[])));sel (!Kerb.kaOp op) (some (Yv [Zm [],Zz .i64 40],[])) (sel (!Yj cd 99) (some (Yv [Zm [],Zz .i64 104],[])) (sel (decide ((↑(Zw bx):Int)>1012)) (some (Yv [Zm [],Zz .i64 105],[])) (sel (!cd==0) (sel (decide ((↑(Zw bx):Int)>0)) (some (Yv [Zm [],Zz .i64 108],[])) t0) t0))):Option (AV×Blocks))) (by kernel_rfl) ?_
  delta kB kO
  try dsimp only [cStr,cBs,cBool,cU8,cInt,cSl,l63]
  simp only [A0]
  have hl9:(Kerb.header 9 false).length=2:=rfl
  unfold Wg
  simp only
  cases h0:Kerb.kaOp op
  ·rfl
  rw [Yq,sel_false,if_neg (by simp)]
  have ho:=Kerb.kaOp_iff.1 h0
  cases h1:Yj cd 99
  ·rfl
  rw [Yq,sel_false,if_neg (by simp)]
  by_cases h2:1012<bx.length
  ·rw [sel_pos (by simp;omega),if_pos h2]
  rw [sel_neg (by simp;omega),if_neg h2,wrap_i64 (by omega) (by omega)]
  by_cases h3:cd=0
  ·rw [sel_neg (by simp [h3]),if_neg (by simp [h3]),chk_of (by simp [Zp,hl9]),chk_of (by simp [Zp,hl9];omega)]
   rfl
  rw [sel_pos (by simpa using h3)]
  by_cases h4:bx=[]
  ·rw [sel_neg (by simp [h4]),if_neg (by simp [h4]),chk_of (by simp [Zp,hl9]),chk_of (by simp [Zp,hl9];omega)]
   rfl
  ·rw [sel_pos (by have:=List.length_pos_iff.2 h4;simp;omega),if_pos ⟨h3,h4⟩]
 ·cases h
end Go.Proofs.YtaikjfcgemjghaaGreat
