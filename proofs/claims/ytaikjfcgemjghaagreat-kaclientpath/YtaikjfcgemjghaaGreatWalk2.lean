/- What the functions of this seat compute. -/
import Derived.Test.YtaikjfcgemjghaaGreatTab
import Derived.Test.YtaikjfcgemjghaaGreatKerbPlain
import Derived.Test.YtaikjfcgemjghaaGreatAbsStep
import Derived.Test.YtaikjfcgemjghaaGreatKerbKaPlain
import Derived.Test.YtaikjfcgemjghaaGreatKerbKaRef
import Derived.Test.YtaikjfcgemjghaaGreatKerbCli4
import Derived.Test.YtaikjfcgemjghaaGreatKerbCli5
import Derived.Test.YtaikjfcgemjghaaGreatKerbKac2
import Derived.Test.YtaikjfcgemjghaaGreatKerbCli3
import Derived.Test.YtaikjfcgemjghaaGreatKerbCli4
import Derived.Test.YtaikjfcgemjghaaGreatKerbCli5
import Derived.Test.YtaikjfcgemjghaaGreatKerbSrvL
import Derived.Test.YtaikjfcgemjghaaGreatKerbPath
import Derived.Test.YtaikjfcgemjghaaGreatKerbPath
open Go.Abs.AV renaming int→Zz,str→Zy,agg→Zf,bs→Zm,bool→Yz,tup→Yy,onInt→Yw,ownB→Yj,sl→Wq,onTup→Wj,u8→Wd,undef→Wn
open Kerb renaming service→Zx,user→Zu,simpleEnt→Zp,within→Zd,putN_len→Zn,u8i→Zh,keyBytes_len→Yx,keyValid→Yk,putN→Yp,get→Yd,room_ok→Yf,indexOf→Yg,long→Yb,nextPos→Yn,dataCred→Ym,putPrin_len→Xf,text→Wv,bfd→Wk,next→Wp,isKind→Wf,putText_len→Wb,validName→Vz,validInst→Vy,kaOp→Vv,ticketed→Vu,readHead→Vq,validRealm→Vk,toEntry→Vp,getCred→Vd,toCred→Vb,byteAt→Vn,bfd_eq→Vm
open Go.IntKind renaming i64→Zw,wrap→Zj,u64→Yu,bits→Xz
open List renaming length→Zv,getD→Xy,append→Xx,take→Xd,drop→Wy,range_succ→Wh,length_map→Vj,replicate→Vf,map→Vg
open Option renaming bind→Zq
open Kerb.Entry renaming av→Zk
open Int renaming toNat→Zg,tmod→Xq,toNat_natCast→Vx
open Bool renaming not_true→Zb,and_eq_true→Yh,and_self→Xv,not_false→Xu
open Prod renaming snd→Yv,fst→Yq
open Kerb.Got renaming next→Xw,val→Xj,err→Xk
open Kerb.Client renaming av→Xp
open Kerb.Prin renaming valid→Xg,realm→Xb,mk→Xn,name→Wx,inst→Ww
open Kerb.Cred renaming av→Xm
open Kerb.Cache renaming av→Xh
open UInt8 renaming ofNat→Wz,toNat→Wu
open Kerb.GotB renaming err→Wg
open Nat renaming beq_refl→Wm
open Go.Abs.Ex renaming exit→Vw
namespace Go.Proofs.YtaikjfcgemjghaaGreat
open Go Go.Abs Go.Proofs
set_option linter.unusedVariables false
set_option linter.unusedSimpArgs false
set_option maxRecDepth 100000
theorem w40:Walked Tryz.prog G 40 3 sp40:=by
 refine ⟨Tryz.f40,Tryz.func40,by decide +kernel,rfl,fun xs bl r h=> ?_⟩
 unfold sp40 at h
 split at h
 ·rename_i k
  obtain ⟨hpre,h2⟩:=chk_inv h;cases h2
  refine Eq.trans (b:=(Zq (chk (decide (0≤k)&&decide (k<18446744073709551616)) (some (Yy [Zz .i64 (bif Yk k then Kerb.keyClass k else 0),Zz .i64 (bif Yk k then Kerb.keySerial k else 0),Yz (Yk k)],[]))) fun (r:AV×Blocks)=>onNilB (Yv r) (Wj (Yq r) fun vs=>onCons vs fun x r=>Yw .i64 x fun n=>onCons r fun x r=>Yw .i64 x fun n=>onCons r fun x r=>AV.onBool x fun b=>onNil r (some (Yz b,[]))):Option (AV×Blocks))) (by kernel_rfl) ?_
  simp only [A0]
  rw [chk_of hpre]
 ·cases h
theorem w41:Walked Tryz.prog G 41 3 sp41:=by
 refine ⟨Tryz.f41,Tryz.func41,by decide +kernel,rfl,fun xs bl r h=> ?_⟩
 unfold sp41 at h
 split at h
 ·rename_i n l
  cases h
  refine Eq.trans (b:=(some (Zz .i64 (Kerb.imin (Kerb.tEnd n l) 4294967295),[]):Option (AV×Blocks))) (by kernel_rfl) ?_
  rfl
 ·cases h
theorem w60:Walked Tryz.prog G 60 3 sp60:=by
 refine ⟨Tryz.f60,Tryz.func60,by decide +kernel,rfl,fun xs bl r h=> ?_⟩
 unfold sp60 at h
 split at h
 ·rename_i lb t st en k
  obtain ⟨hpre,h2⟩:=chk_inv h;cases h2
  refine Eq.trans (b:=(let t5:Option (AV×Blocks):=some (Yy [Yj [],Zz .i64 104],[]);let t6:Option (AV×Blocks):=some (Yy [Yj [],Zz .i64 108],[]);let t7:Bool:=lb==[(103:UInt8),(84:UInt8),(75:UInt8),(84:UInt8)];let t8:Option (AV×Blocks):=chk (decide (Zv lb≤70368744177664)) (some (Yj (lb++Yp t 4 false),[]));let t4:Option (AV×Blocks):=Zq t8 (kO fun l=>sel t7 (Zq (chk (decide (Zv l≤70368744177664)) (some (Yj (l++Yp st 4 false),[]))) (kO fun l=>Zq (chk (decide (Zv l≤70368744177664)) (some (Yj (l++Yp en 4 false),[]))) (kO fun l=>Zq (chk (decide (Zv l≤70368744177664)) (some (Yj (Kerb.pad l),[]))) (kO fun l=>some (Yy [Yj l,Zz .i64 0],[]))))) (Zq (chk (decide (0≤k)&&decide (k<18446744073709551616)) (some (Zm (Kerb.keyBytes k),[]))) (kB fun b=>chk (room (Zv l+Zv b) 1) (Zq (chk (decide (Zv (l++b)≤70368744177664)) (some (Yj (Kerb.pad (l++b)),[]))) (kO fun l=>some (Yy [Yj l,Zz .i64 0],[]))))));let t3:Option (AV×Blocks):=sel (!t7) (sel (!st==0) t6 (sel (!en==0) t6 t4)) t4;let t2:Option (AV×Blocks):=sel t7 (sel (!k==0) t6 t3) t3;let t1:Option (AV×Blocks):=sel (!t7) (Zq (chk (decide (0≤k)&&decide (k<18446744073709551616)) (some (Yz (Yk k),[]))) (kL fun b=>sel (!b) (some (Yy [Yj [],Zz .i64 10],[])) t2)) t2;let t0:Option (AV×Blocks):=sel (!Zd t 4294967295) t5 (sel t7 (sel (!Zd st 4294967295) t5 (sel (!Zd en 4294967295) t5 t1)) t1);sel (lb==[(103:UInt8),(84:UInt8),(71:UInt8),(83:UInt8)]) (sel (!Zd t 4294967295) t5 (sel (!Zd st 4294967295) t5 (sel (!Zd en 4294967295) t5 (sel (!k==0) t6 (Zq t8 (kO fun l=>Zq (chk (decide (Zv l≤70368744177664)) (some (Yj (l++Yp st 4 false),[]))) (kO fun l=>Zq (chk (decide (Zv l≤70368744177664)) (some (Yj (l++Yp en 4 false),[]))) (kO fun l=>Zq (chk (decide (Zv l≤70368744177664)) (some (Yj (Kerb.pad l),[]))) (kO fun l=>some (Yy [Yj l,Zz .i64 0],[])))))))))) (sel (!t7) (sel (!lb==[(67:UInt8),(80:UInt8),(87:UInt8),(108:UInt8)]) (some (Yy [Yj [],Zz .i64 80],[])) t0) t0):Option (AV×Blocks))) (by kernel_rfl) ?_
  delta kB kO kL
  try dsimp only [cStr,cBs,cBool,cU8,cInt,cSl,l63]
  have eGet:([103,84,71,83]:List UInt8)=Kerb.lGet:=rfl
  have eTick:([103,84,75,84]:List UInt8)=Kerb.lTicket:=rfl
  have eChg:([67,80,87,108]:List UInt8)=Kerb.lChange:=rfl
  have eDone:([67,80,87,100]:List UInt8)=Kerb.lDone:=rfl
  have eGot:([116,103,115,84]:List UInt8)=Kerb.lGot:=rfl
  have eGiven:([116,107,116,71]:List UInt8)=Kerb.lGiven:=rfl
  simp only [A0,eChg,eGet,eTick,hpre]
  unfold Kerb.encodeKaSecret
  simp only
  cases hg:(lb==Kerb.lGet)
  case true =>
   have ht:Kerb.timed lb=true:=by simp [Kerb.timed,hg]
   have hl:lb.length=4:=by rw [eq_of_beq hg];rfl
   simp only [ht,sel_true,Zb,Bool.false_and]
   rw [if_neg (by simp)]
   cases h1:Zd t 4294967295
   ·rfl
   rw [Zb,sel_false,if_neg (by simp),if_pos trivial]
   cases h2:Zd st 4294967295
   ·rfl
   rw [Zb,sel_false]
   cases h3:Zd en 4294967295
   ·rfl
   rw [Zb,sel_false,if_neg (by simp)]
   by_cases h4:k=0
   case neg=>rw [sel_pos (by simpa using h4),if_pos h4]
   rw [sel_neg (by simp [h4]),if_neg (by simp [h4]),chk_of (by simp;omega),chk_of (by simp [Zn];omega),chk_of (by simp [Zn];omega),chk_of (by simp [Zn];omega)]
  cases hk:(lb==Kerb.lTicket)
  case true =>
   have ht:Kerb.timed lb=true:=by simp [Kerb.timed,hk]
   have hl:lb.length=4:=by rw [eq_of_beq hk];rfl
   simp only [ht,sel_true,sel_false,Zb,Bool.false_and]
   rw [if_neg (by simp)]
   cases h1:Zd t 4294967295
   ·rfl
   rw [Zb,sel_false,if_neg (by simp),if_pos trivial]
   cases h2:Zd st 4294967295
   ·rfl
   rw [Zb,sel_false]
   cases h3:Zd en 4294967295
   ·rfl
   rw [Zb,sel_false,if_neg (by simp)]
   by_cases h4:k=0
   case neg=>rw [sel_pos (by simpa using h4),if_pos h4]
   rw [sel_neg (by simp [h4]),if_neg (by simp [h4]),chk_of (by simp;omega),chk_of (by simp [Zn];omega),chk_of (by simp [Zn];omega),chk_of (by simp [Zn];omega)]
  have ht:Kerb.timed lb=false:=by simp [Kerb.timed,hg,hk]
  simp only [ht,sel_true,sel_false,Xu,Bool.true_and]
  cases hc:(lb==Kerb.lChange)
  ·rfl
  have hl:lb.length=4:=by rw [eq_of_beq hc];rfl
  rw [Zb,sel_false,if_neg (by simp)]
  cases h1:Zd t 4294967295
  ·rfl
  rw [Zb,sel_false,if_neg (by simp),if_neg (by simp)]
  cases h2:Yk k
  ·rfl
  rw [Zb,sel_false,if_neg (by simp)]
  by_cases h3:st=0
  case neg=>rw [sel_pos (by simpa using h3),if_pos (.inl h3)]
  rw [sel_neg (by simp [h3])]
  by_cases h4:en=0
  case neg=>rw [sel_pos (by simpa using h4),if_pos (.inr h4)]
  rw [sel_neg (by simp [h4]),if_neg (by simp [h3,h4]),chk_of (by simp;omega),chk_of (Yf (by simp [Zn,Yx];omega)),chk_of (by simp [Zn,Yx];omega)]
 ·cases h
theorem w63:Walked Tryz.prog G 63 3 sp63:=by
 refine ⟨Tryz.f63,Tryz.func63,by decide +kernel,rfl,fun xs bl r h=> ?_⟩
 unfold sp63 at h
 split at h
 ·rename_i kd k bd
  obtain ⟨hpre,h2⟩:=chk_inv h;cases h2
  refine Eq.trans (b:=(let t0:List UInt8:=[Wz (Zg (Zj .u8 (Int.fdiv (↑(Zv bd):Int) (2 ^ min (Zg 8) (Xz .i64))))),Wz (Zg (Zj .u8 (↑(Zv bd):Int)))];let t1:List UInt8:=[(66:UInt8),Wz (Zg (Zj .u8 kd))];sel (decide (kd<1)) (some (Yy [Zm [],Zz .i64 104],[])) (sel (decide (kd>10)) (some (Yy [Zm [],Zz .i64 104],[])) (Zq (chk (decide (0≤k)&&decide (k<18446744073709551616)) (some (Yz (Yk k),[]))) (kL fun b=>sel (!b) (some (Yy [Zm [],Zz .i64 10],[])) (sel (decide ((↑(Zv bd):Int)>1000)) (some (Yy [Zm [],Zz .i64 105],[])) (Zq (chk (decide (0≤k)&&decide (k<18446744073709551616)) (some (Zm (Kerb.keyBytes k),[]))) (kB fun b=>chk (room (Zv t1+Zv b) 1) (chk (room (Zv (t1++b)+Zv t0) 1) (chk (room (Zv (t1++b++t0)+Zv bd) 1) (some (Yy [Zm (t1++b++t0++bd),Zz .i64 0],[])))))))))):Option (AV×Blocks))) (by kernel_rfl) ?_
  delta kB kL
  try dsimp only [cStr,cBs,cBool,cU8,cInt,cSl,l63]
  simp only [A0,Xp,Xh,Xm,hpre]
  unfold Kerb.makeBox
  by_cases k1:1≤kd
  case neg =>
   rw [sel_pos (by simp;omega),if_pos (by simp [Wf];omega)]
  by_cases k2:kd≤10
  case neg =>
   rw [sel_neg (by simp;omega),sel_pos (by simp;omega),if_pos (by simp [Wf];omega)]
  rw [sel_neg (by simp;omega),sel_neg (by simp;omega),if_neg (by simp [Wf];omega)]
  cases h2:Yk k
  ·rfl
  rw [Zb,sel_false,if_neg (by simp)]
  by_cases h3:1000<bd.length
  ·rw [sel_pos (by simp;omega),if_pos h3]
  have lk:=Yx k
  rw [sel_neg (by simp;omega),if_neg h3,chk_of (Yf (by simp;omega)),chk_of (Yf (by simp;omega)),chk_of (Yf (by simp;omega)),Kerb.two_bytes,Kerb.wrap_u8,Int.emod_eq_of_lt (by omega) (by omega)]
 ·cases h
theorem w72:Walked Tryz.prog G 72 3 sp72:=by
 refine ⟨Tryz.f72,Tryz.func72,by decide +kernel,rfl,fun xs bl r h=> ?_⟩
 unfold sp72 at h
 split at h
 ·rename_i B at_ li bad
  obtain ⟨hpre,h2⟩:=chk_inv h;cases h2
  show runFnH (G.env 72 3) G.rts (G.own 72) Tryz.f72 _ _ [0]=_
  refine Eq.trans (b:=(Zq (chk (decide (Zv B≤140737488355328)) (some (Zy (Kerb.GotB.val (Wv B at_)),[[Zm B,Zz .i64 (bif bad || !Wg (Wv B at_)==0 then at_ else Kerb.GotB.next (Wv B at_)),Yz li,Yz (bad || !Wg (Wv B at_)==0)]]))) fun (r:AV×Blocks)=>onConsB (Yv r) fun (x:List AV) (r_1:List (List AV))=>cBs x fun b r_2=>cInt .i64 r_2 fun n r_3=>cBool r_3 fun b_1 r_4=>cBool r_4 fun b_2 r_5=>onNil r_5 (onNilB r_1 (AV.onStr (Yq r) fun b_3=>Zq (chk (decide (Zv b≤140737488355328)) (some (Zy (Kerb.GotB.val (Wv b n)),[[Zm b,Zz .i64 (bif b_2 || !Wg (Wv b n)==0 then n else Kerb.GotB.next (Wv b n)),Yz b_1,Yz (b_2 || !Wg (Wv b n)==0)]]))) fun (r:AV×Blocks)=>onConsB (Yv r) fun (x:List AV) (r_6:List (List AV))=>cBs x fun b r_7=>cInt .i64 r_7 fun n r_8=>cBool r_8 fun b_4 r_9=>cBool r_9 fun b_5 r_10=>onNil r_10 (onNilB r_6 (AV.onStr (Yq r) fun b_6=>Zq (chk (decide (Zv b≤140737488355328)) (some (Zy (Kerb.GotB.val (Wv b n)),[[Zm b,Zz .i64 (bif b_5 || !Wg (Wv b n)==0 then n else Kerb.GotB.next (Wv b n)),Yz b_4,Yz (b_5 || !Wg (Wv b n)==0)]]))) fun (r:AV×Blocks)=>onConsB (Yv r) fun (x:List AV) (r_11:List (List AV))=>cBs x fun b r_12=>cInt .i64 r_12 fun n r_13=>cBool r_13 fun b_7 r_14=>cBool r_14 fun b_8 r_15=>onNil r_15 (onNilB r_11 (AV.onStr (Yq r) fun b_9=>some (Zf [Zy b_3,Zy b_6,Zy b_9],[[Zm b,Zz .i64 n,Yz b_7,Yz b_8]]))))))):Option (AV×Blocks))) (by kernel_rfl) ?_
  try dsimp only [cStr,cBs,cBool,cU8,cInt,cSl,l63]
  simp only [A0]
  rw [chk_of hpre,chk_of hpre,chk_of hpre]
  rfl
 ·cases h
theorem w77:Walked Tryz.prog G 77 3 sp77:=by
 refine ⟨Tryz.f77,Tryz.func77,by decide +kernel,rfl,fun xs bl r h=> ?_⟩
 unfold sp77 at h
 split at h
 ·rename_i en ei ek ev ex em ea ef et
  obtain ⟨hpre,h2⟩:=chk_inv h;cases h2
  refine Eq.trans (b:=(let t0:Option (AV×Blocks):=sel (!Zd ev 255) (some (Zz .i64 104,[])) (sel (!Zd ex 4294967295) (some (Zz .i64 104,[])) (sel (!Zd et 4294967295) (some (Zz .i64 104,[])) (sel (!Zd em 255) (some (Zz .i64 104,[])) (sel (!Zd ea 3) (some (Zz .i64 104,[])) (sel (!Zd ef 20) (some (Zz .i64 104,[])) (some (Zz .i64 0,[])))))));Zq (chk (l63 en) (some (Yz (Vz en),[]))) (kL fun b=>sel (!b) (some (Zz .i64 103,[])) (Zq (chk (l63 ei) (some (Yz (Vy ei),[]))) (kL fun b=>sel (!b) (some (Zz .i64 103,[])) (sel (!ek==0) (Zq (chk (decide (0≤ek)&&decide (ek<18446744073709551616)) (some (Yz (Yk ek),[]))) (kL fun b=>sel (!b) (some (Zz .i64 10,[])) t0)) t0)))):Option (AV×Blocks))) (by kernel_rfl) ?_
  delta kL
  try dsimp only [cStr,cBs,cBool,cU8,cInt,cSl,l63]
  simp only [Yh,decide_eq_true_eq] at hpre
  obtain ⟨⟨h1,h2⟩,h3⟩:=hpre
  have h4:(decide (0≤ek)&&decide (ek<18446744073709551616))=true:=h3
  simp only [h1,h2,h4,decide_true,↓A0,A0]
  unfold Kerb.Entry.err
  dsimp only
  cases Vz en
  ·rfl
  cases Vy ei
  ·rfl
  simp only [Zb,Xu,sel_true,sel_false]
  rw [if_neg (by simp)]
  by_cases hk:ek=0
  ·rw [sel_neg (by simp [hk]),if_neg (by simp [hk])]
   cases Zd ev 255<;>cases Zd ex 4294967295<;>cases Zd et 4294967295<;>cases Zd em 255<;>cases Zd ea 3<;>cases Zd ef 20<;>rfl
  rw [sel_pos (by simpa using hk)]
  cases hv:Yk ek
  ·rw [if_pos ⟨hk,rfl⟩];rfl
  simp only [Zb,Xu,sel_true,sel_false]
  rw [if_neg (by simp)]
  cases Zd ev 255<;>cases Zd ex 4294967295<;>cases Zd et 4294967295<;>cases Zd em 255<;>cases Zd ea 3<;>cases Zd ef 20<;>rfl
 ·cases h
theorem w79:Walked Tryz.prog G 79 3 sp79:=by
 refine ⟨Tryz.f79,Tryz.func79,by decide +kernel,rfl,fun xs bl r h=> ?_⟩
 unfold sp79 at h
 split at h
 ·rename_i op cd bx
  cases h
  refine Eq.trans (b:=(let t2:List UInt8:=Kerb.header 9 false++Yp (Zj .i64 (op+128)) 1 false;let t1:Nat:=Zv t2;let t0:Option (AV×Blocks):=Zq (chk (decide (t1≤70368744177664)) (some (Yj (t2++Yp cd 1 false),[]))) (kO fun l=>Zq (chk (decide (Zv l≤70368744177664)) (some (Yj (l++Yp (↑(Zv bx):Int) 2 false),[]))) (kO fun l=>chk (room (Zv l+Zv bx) 1) (some (Yy [Zm (l++bx),Zz .i64 0],[]))));sel (decide (op<1)) (some (Yy [Zm [],Zz .i64 40],[])) (sel (decide (op>3)) (some (Yy [Zm [],Zz .i64 40],[])) (sel (decide (cd<0)) (some (Yy [Zm [],Zz .i64 104],[])) (sel (decide (cd>99)) (some (Yy [Zm [],Zz .i64 104],[])) (sel (decide ((↑(Zv bx):Int)>1012)) (some (Yy [Zm [],Zz .i64 105],[])) (sel (!cd==0) (sel (decide ((↑(Zv bx):Int)>0)) (some (Yy [Zm [],Zz .i64 108],[])) t0) t0))))):Option (AV×Blocks))) (by kernel_rfl) ?_
  delta kO
  try dsimp only [cStr,cBs,cBool,cU8,cInt,cSl,l63]
  simp only [A0]
  have hl9:(Kerb.header 9 false).length=2:=rfl
  unfold Kerb.encodeKaReply
  simp only
  by_cases h0:1≤op∧op≤3
  case neg =>
   have e:Vv op=false:=by simp [Vv];omega
   rw [e]
   by_cases h1:op<1
   ·rw [sel_pos (by simpa using h1)];rfl
   ·rw [sel_neg (by simpa using h1),sel_pos (by simp;omega)];rfl
  have e:Vv op=true:=by simp [Vv];omega
  rw [e,sel_neg (by simp;omega),sel_neg (by simp;omega),if_neg (by simp)]
  by_cases h1:0≤cd∧cd≤99
  case neg =>
   have e:Zd cd 99=false:=by simp [Zd];omega
   rw [e]
   by_cases h2:cd<0
   ·rw [sel_pos (by simpa using h2)];rfl
   ·rw [sel_neg (by simpa using h2),sel_pos (by simp;omega)];rfl
  have e:Zd cd 99=true:=by simp [Zd];omega
  rw [e,sel_neg (by simp;omega),sel_neg (by simp;omega),if_neg (by simp)]
  by_cases h2:1012<bx.length
  ·rw [sel_pos (by simp;omega),if_pos h2]
  rw [sel_neg (by simp;omega),if_neg h2,wrap_i64 (by omega) (by omega)]
  by_cases h3:cd=0
  ·rw [sel_neg (by simp [h3]),if_neg (by simp [h3]),chk_of (by simp [Zn,hl9]),chk_of (by simp [Zn,hl9]),chk_of (Yf (by simp [Zn,hl9];omega))]
   rfl
  rw [sel_pos (by simpa using h3)]
  by_cases h4:bx=[]
  ·rw [sel_neg (by simp [h4]),if_neg (by simp [h4]),chk_of (by simp [Zn,hl9]),chk_of (by simp [Zn,hl9]),chk_of (Yf (by simp [Zn,hl9];omega))]
   rfl
  ·rw [sel_pos (by have:=List.length_pos_iff.2 h4;simp;omega),if_pos ⟨h3,h4⟩]
 ·cases h
theorem w82:Walked Tryz.prog G 82 3 sp82:=by
 refine ⟨Tryz.f82,Tryz.func82,by decide +kernel,rfl,fun xs bl r h=> ?_⟩
 unfold sp82 at h
 split at h
 ·rename_i b
  obtain ⟨hpre,h2⟩:=chk_inv h;cases h2
  refine Eq.trans (b:=(sel (!(↑(Zv b):Int)==8) (some (Yy [Zz .u64 0,Yz false],[])) (Zq (loopM (fun (st:List AV)=>cBs st fun b r=>cInt .u64 r fun n r=>cInt .i64 r fun n_1 r=>onNil r (sel (decide (n_1<8)) (chk (decide (0≤n_1)&&decide (n_1<(↑(Zv b):Int))) (some (Sum.inl [Zm b,Zz .u64 (Zj .u64 (↑(BitVec.toNat (BitVec.ofInt (Xz .u64) (Zj .u64 (n*2 ^ min (Zg 8) (Xz .u64))) ||| BitVec.ofInt (Xz .u64) (Zj .u64 (↑(Wu (Xy b (Zg n_1) (0:UInt8))):Int)))):Int)),Zz .i64 (Zj .i64 (n_1+1))]))) (some (Sum.inr (Vw 0,[Zm b,Zz .u64 n,Zz .i64 n_1]))))) [Zm b,Zz .u64 0,Zz .i64 0]) fun (r:Ex×List AV)=>cBs (Yv r) fun b r_1=>cInt .u64 r_1 fun n r_2=>cInt .i64 r_2 fun n_1 r_3=>onNil r_3 (exK r.1 none fun (j:Nat)=>sel (Nat.beq j 0) (Zq (chk (decide (0≤n)&&decide (n<18446744073709551616)) (some (Yz (Yk n),[]))) (kL fun b=>sel (!b) (some (Yy [Zz .u64 0,Yz false],[])) (some (Yy [Zz .u64 n,Yz true],[])))) none)):Option (AV×Blocks))) (by kernel_rfl) ?_
  delta kL
  try dsimp only [cStr,cBs,cBool,cU8,cInt,cSl,l63]
  have hb:=of_decide_eq_true hpre
  unfold Kerb.keyRead
  by_cases h8:b.length=8
  case neg =>
   rw [sel_pos (by simp;omega),if_neg (by omega)]
  rw [sel_neg (by simp [h8])]
  refine loop_rounds (fun i:Nat=>[Zm b,Zz Yu (Kerb.valB (b.take i)),Zz Zw (i:Int)]) (fun i=>i≤8) (fun i=>8-i)
   (fun r=>r=(Vw 0,[Zm b,Zz Yu (Kerb.valB b),Zz Zw 8])) 0 (by omega) rfl ?_ ?_
  ·intro i hi
   simp only [A0]
   by_cases hlt:i<8
   ·have hv:=Kerb.valB_take (l:=b) (i:=i) (by omega)
    have hbd:=Kerb.valB_bd7 (l:=b.take i) (by simp;omega)
    rw [sel_pos (by simp;omega),chk_of (by simp;omega),Vx,Kerb.shl8_oru _ hbd.1 hbd.2,wrap_i64 (by omega) (by omega),← hv]
    exact ⟨_,rfl,i+1,rfl,by omega,by dsimp only;omega⟩
   ·rw [sel_neg (by simp;omega)]
    refine ⟨_,rfl,?_⟩
    show _=_
    rw [List.take_of_length_le (by omega),show i=8 from by omega]
    rfl
  rintro r rfl
  have hbd:=Kerb.valB_bd8 (l:=b) (by omega)
  simp only [A0]
  rw [sel_pos (Wm _),chk_of (by simp;omega)]
  cases hv:Yk (Kerb.valB b)
  ·rw [if_neg (by simp)]
   rfl
  ·rw [if_pos ⟨h8,rfl⟩]
   rfl
 ·cases h
theorem w88:Walked Tryz.prog G 88 3 sp88:=by
 refine ⟨Tryz.f88,Tryz.func88,by decide +kernel,rfl,fun xs bl r h=> ?_⟩
 unfold sp88 at h
 split at h
 ·rename_i a b c
  obtain ⟨hpre,h2⟩:=chk_inv h;cases h2
  refine Eq.trans (b:=(Zq (chk (decide (Zv a≤9223372036854775807)) (some (Yz (Vz a),[]))) fun (r:AV×Blocks)=>onNilB (Yv r) (AV.onBool (Yq r) fun b_1=>sel b_1 (Zq (chk (decide (Zv b≤9223372036854775807)) (some (Yz (Vy b),[]))) fun (r:AV×Blocks)=>onNilB (Yv r) (AV.onBool (Yq r) fun b=>sel b (Zq (chk (decide (Zv c≤9223372036854775807)) (some (Yz (Vk c),[]))) fun (r:AV×Blocks)=>onNilB (Yv r) (AV.onBool (Yq r) fun b=>some (Yz b,[]))) (some (Yz false,[])))) (some (Yz false,[]))):Option (AV×Blocks))) (by kernel_rfl) ?_
  simp only [Yh,decide_eq_true_eq] at hpre
  simp only [A0]
  rw [chk_of (by simp;omega),chk_of (by simp;omega),chk_of (by simp;omega)]
  simp only [Xg]
  cases Vz a<;>cases Vy b<;>rfl
 ·cases h
theorem w99:Walked Tryz.prog G 99 3 sp99:=by
 refine ⟨Tryz.f99,Tryz.func99,by decide +kernel,rfl,fun xs bl r h=> ?_⟩
 unfold sp99 at h
 split at h
 ·rename_i i l n s
  cases h
  refine Eq.trans (b:=(sel (!Zd i 4294967295) (some (Zz .i64 104,[])) (sel (!Zd n 4294967295) (some (Zz .i64 104,[])) (sel (decide (l<0)) (some (Zz .i64 104,[])) (sel (decide (l>255)) (some (Zz .i64 104,[])) (sel (decide (s<0)) (some (Zz .i64 104,[])) (sel (decide (s>4294967295)) (some (Zz .i64 104,[])) (sel (decide (i>Zj .i64 (n+s))) (some (Zz .i64 33,[])) (sel (decide (n>Zj .i64 (Kerb.tEnd i l+s))) (some (Zz .i64 32,[])) (some (Zz .i64 0,[]))))))))):Option (AV×Blocks))) (by kernel_rfl) ?_
  unfold Kerb.stateErr
  cases h1:Zd i 4294967295
  ·rfl
  cases h2:Zd n 4294967295
  ·rfl
  cases h3:Zd l 255
  ·simp only [Zb,Xu,sel_true,sel_false]
   rw [if_pos (by simp)]
   by_cases q:l<0
   ·rw [sel_pos (by simpa using q)]
   ·rw [sel_neg (by simpa using q)]
    have:255<l:=by
     simp only [Zd,Bool.and_eq_false_iff,decide_eq_false_iff_not] at h3
     omega
    rw [sel_pos (by simpa using this)]
  cases h4:Zd s 4294967295
  ·have b3:=Kerb.within_iff.1 h3
   simp only [Zb,Xu,sel_true,sel_false]
   rw [sel_neg (by simp;omega),sel_neg (by simp;omega),if_pos (by simp)]
   by_cases q:s<0
   ·rw [sel_pos (by simpa using q)]
   ·rw [sel_neg (by simpa using q)]
    have:4294967295<s:=by
     simp only [Zd,Bool.and_eq_false_iff,decide_eq_false_iff_not] at h4
     omega
    rw [sel_pos (by simpa using this)]
  have b1:=Kerb.within_iff.1 h1
  have b2:=Kerb.within_iff.1 h2
  have b3:=Kerb.within_iff.1 h3
  have b4:=Kerb.within_iff.1 h4
  have he:Kerb.tEnd i l=i+300*(l+1):=by simp [Kerb.tEnd,h1,h3]
  simp only [Zb,sel_false,Xv,Bool.false_eq_true,if_false,he]
  rw [sel_neg (by simp;omega),sel_neg (by simp;omega),sel_neg (by simp;omega),sel_neg (by simp;omega),wrap_i64 (by omega) (by omega),wrap_i64 (by omega) (by omega)]
  by_cases h5:n+s<i
  ·rw [sel_pos (by simpa using h5),if_pos h5]
  rw [sel_neg (by simpa using h5),if_neg h5]
  by_cases h6:i+300*(l+1)+s<n
  ·rw [sel_pos (by simpa using h6),if_pos h6]
  rw [sel_neg (by simpa using h6),if_neg h6]
 ·cases h
theorem w106:Walked Tryz.prog G 106 3 sp106:=by
 refine ⟨Tryz.f106,Tryz.func106,by decide +kernel,rfl,fun xs bl r h=> ?_⟩
 unfold sp106 at h
 split at h
 ·rename_i k
  obtain ⟨hpre,h2⟩:=chk_inv h;cases h2
  refine Eq.trans (b:=(Zq (chk (decide (0≤k)&&decide (k<18446744073709551616)) (some (Yz (Yk k),[]))) fun (r:AV×Blocks)=>onNilB (Yv r) (AV.onBool (Yq r) fun b=>sel (!b) (some (Zz .i64 0,[])) (some (Zz .i64 (Zj .i64 (Int.fdiv k (2 ^ min (Zg 56) (Xz .u64)))),[]))):Option (AV×Blocks))) (by kernel_rfl) ?_
  simp only [hpre,↓A0,A0]
  unfold Kerb.classOf
  cases hk:Yk k
  ·rfl
  simp only [Zb,Xu,sel_true,sel_false]
  simp only [Yh,decide_eq_true_eq] at hpre
  have h7:(min (Zg 56) (Xz .u64))=56:=rfl
  rw [h7,Int.fdiv_eq_ediv_of_nonneg _ (by decide),wrap_i64 (by omega) (by omega)]
  rfl
 ·cases h
theorem w109:Walked Tryz.prog G 109 3 sp109:=by
 refine ⟨Tryz.f109,Tryz.func109,by decide +kernel,rfl,fun xs bl r h=> ?_⟩
 unfold sp109 at h
 split at h
 ·rename_i rl els n i now bit xp br
  obtain ⟨hpre,h2⟩:=chk_inv h;cases h2
  refine Eq.trans (b:=(Zq (chk (List.all els Kerb.isEntry&&decide (Zv els≤1000000)) (some (Yy [Zz .i64 (Yq (Kerb.findEnt (Vg Vp els) n i)),Zz .i64 (Yv (Kerb.findEnt (Vg Vp els) n i))],[]))) (kT fun vs=>cInt .i64 vs fun n r=>cInt .i64 r fun n_1 r=>onNil r (sel (!n_1==0) (some (Yy [Zz .i64 0,Zz .i64 n_1],[])) (chk (decide (0≤n)&&decide (n<(↑(Zv els):Int))&&true) (AV.onAgg (Xy els (Zg n) Wn) fun cs=>cStr cs fun b r=>cStr r fun b r=>cInt .u64 r fun n_2 r=>cInt .i64 r fun n_3 r=>cInt .i64 r fun n_4 r=>cInt .i64 r fun n_5 r=>cInt .i64 r fun n_6 r=>let t0:Option (AV×Blocks):=sel (!Zj .i64 (↑(BitVec.toNat (BitVec.ofInt (Xz .i64) n_6 &&& BitVec.ofInt (Xz .i64) bit)):Int)==0) (some (Yy [Zz .i64 0,Zz .i64 br],[])) (some (Yy [Zz .i64 n,Zz .i64 0],[]));cInt .i64 r fun n r=>cInt .i64 r fun n r=>onNil r (Zq (chk (decide (0≤n_2)&&decide (n_2<18446744073709551616)) (some (Yz (Yk n_2),[]))) (kL fun b=>sel (!b) (some (Yy [Zz .i64 0,Zz .i64 10],[])) (sel (!n_4==0) (sel (decide (n_4≤now)) (some (Yy [Zz .i64 0,Zz .i64 xp],[])) t0) t0))))))):Option (AV×Blocks))) (by kernel_rfl) ?_
  delta kT kL
  try dsimp only [cStr,cBs,cBool,cU8,cInt,cSl,l63]
  simp only [Yh,decide_eq_true_eq] at hpre
  obtain ⟨hall,hlen⟩:=hpre
  obtain ⟨es,rfl,hok⟩:=Kerb.ents_of hall
  simp only [hall,hlen,Kerb.map_toEntry,decide_true,Xv,↓A0,A0]
  unfold Kerb.useEnt
  dsimp only
  have hf:=Kerb.find_count (es:=es) (n:=n) (i:=i)
  generalize Kerb.findEnt es n i=F at hf
  obtain ⟨j,e⟩:=F
  dsimp only at hf ⊢
  by_cases he:e=0
  case neg=>rw [sel_pos (by simpa using he),if_pos he]
  obtain ⟨_,f2,f3⟩:=hf he
  subst f2
  rw [sel_neg (by simpa using he),if_neg (by simpa using he),chk_of (by simp only [Vj,Bool.and_true,Yh,decide_eq_true_eq];omega),Vx,Kerb.getD_ent f3]
  have hx:=hok _ (Kerb.ent_mem f3)
  generalize es.getD (es.findIdx (Kerb.Entry.named n i)) Kerb.noEntry=x at hx
  obtain ⟨_,_,x3,_⟩:=hx
  have h4:(decide (0≤x.key)&&decide (x.key<18446744073709551616))=true:=x3
  simp only [Zk,↓A0,A0,h4]
  cases hk:Yk x.key
  ·rfl
  simp only [Zb,Xu,sel_true,sel_false]
  rw [if_neg (by simp)]
  have hb:Zj .i64 (BitVec.toNat (BitVec.ofInt (Xz .i64) x.attr &&& BitVec.ofInt (Xz .i64) bit):Int)=Kerb.bitOf x.attr bit:=rfl
  rw [hb]
  by_cases h1:x.expires=0
  ·rw [sel_neg (by simp [h1]),if_neg (by simp [h1])]
   by_cases h2:Kerb.bitOf x.attr bit=0
   ·rw [sel_neg (by simp [h2]),if_neg (by simp [h2])]
   ·rw [sel_pos (by simpa using h2),if_pos h2]
  ·rw [sel_pos (by simpa using h1)]
   by_cases h3:x.expires≤now
   ·rw [sel_pos (by simpa using h3),if_pos ⟨h1,h3⟩]
   ·rw [sel_neg (by simpa using h3),if_neg (by simp [h3])]
    by_cases h2:Kerb.bitOf x.attr bit=0
    ·rw [sel_neg (by simp [h2]),if_neg (by simp [h2])]
    ·rw [sel_pos (by simpa using h2),if_pos h2]
 ·cases h
theorem w116:Walked Tryz.prog G 116 3 sp116:=by
 refine ⟨Tryz.f116,Tryz.func116,by decide +kernel,rfl,fun xs bl r h=> ?_⟩
 unfold sp116 at h
 split at h
 ·rename_i b els
  obtain ⟨hpre,h2⟩:=chk_inv h;cases h2
  refine Eq.trans (b:=(sel (!Kerb.Head.err (Vq b)==0) (some (Yy [Yz false,Zz .i64 (Kerb.Head.err (Vq b))],[])) (Zq (chk (allInts els&&decide (Zv els≤1000)) (some (Yz (List.contains (intsIn els) (Kerb.Head.kind (Vq b))),[]))) fun (r:AV×Blocks)=>onNilB (Yv r) (AV.onBool (Yq r) fun b_1=>sel (!b_1) (some (Yy [Yz false,Zz .i64 40],[])) (some (Yy [Yz (Kerb.Head.little (Vq b)),Zz .i64 0],[])))):Option (AV×Blocks))) (by kernel_rfl) ?_
  simp only [A0]
  unfold Kerb.headIs
  by_cases h:(Vq b).err=0
  ·rw [sel_neg (by simp [h]),chk_of hpre]
   cases hc:(intsIn els).contains (Vq b).kind<;>simp [sel,h,hc]
  ·rw [sel_pos (by simpa using h)]
   simp [h]
 ·cases h
theorem w118:Walked Tryz.prog G 118 3 sp118:=by
 refine ⟨Tryz.f118,Tryz.func118,by decide +kernel,rfl,fun xs bl r h=> ?_⟩
 unfold sp118 at h
 split at h
 ·rename_i n B at_ bad
  obtain ⟨hpre,h2⟩:=chk_inv h;cases h2
  show runFnH (G.env 118 3) G.rts (G.own 118) Tryz.f118 _ _ [0]=_
  refine Eq.trans (b:=(Zq (chk (decide (Zv B≤140737488355328)) (some (Yy [Zm (Kerb.GotB.val (Kerb.bytes B at_ n)),Zz .i64 (Kerb.GotB.next (Kerb.bytes B at_ n)),Zz .i64 (Wg (Kerb.bytes B at_ n))],[]))) fun (r:AV×Blocks)=>onNilB (Yv r) (Wj (Yq r) fun vs=>onCons vs fun x r=>AV.onBs x fun b=>onCons r fun x r=>Yw .i64 x fun n=>onCons r fun x r=>Yw .i64 x fun n_1=>onNil r (sel (!!(bad || !n_1==0)) (some (Zm [],[[Zm B,Zz .i64 (bif bad || !n_1==0 then at_ else n),Yz (bad || !n_1==0)]])) (some (Zm b,[[Zm B,Zz .i64 (bif bad || !n_1==0 then at_ else n),Yz (bad || !n_1==0)]])))):Option (AV×Blocks))) (by kernel_rfl) ?_
  have hb:=of_decide_eq_true hpre
  simp only [A0]
  rw [chk_of (by simp;omega)]
  unfold Kerb.pBytes
  cases bad
  ·simp only [Bool.false_or]
   generalize hq:(!(_==(0:Int)))=q
   cases q<;>rfl
  ·rfl
 ·cases h
theorem w129:Walked Tryz.prog G 129 3 sp129:=by
 refine ⟨Tryz.f129,Tryz.func129,by decide +kernel,rfl,fun xs bl r h=> ?_⟩
 unfold sp129 at h
 split at h
 ·rename_i o1 o2 o3 els x y z
  obtain ⟨hpre,h2⟩:=chk_inv h;cases h2
  refine Eq.trans (b:=(Zq (chk (List.all els Kerb.isCred&&decide (Zv els≤1000000)) (some (Zz .i64 (↑(Kerb.credAt (Vg Vb els) (Xn x y z)):Int),[]))) (kI .i64 fun n=>sel (n==(↑(Zv els):Int)) (some (Yy [Zf [Zy [],Zy [],Zy [],Zz .u64 0,Zz .i64 0,Zz .i64 0,Zz .i64 0,Zm []],Yz false],[])) (chk (decide (0≤n)&&decide (n<(↑(Zv els):Int))&&true) (AV.onAgg (Xy els (Zg n) Wn) fun cs=>cStr cs fun b r=>cStr r fun b_1 r=>cStr r fun b_2 r=>cInt .u64 r fun n r=>cInt .i64 r fun n_1 r=>cInt .i64 r fun n_2 r=>cInt .i64 r fun n_3 r=>cBs r fun b_3 r=>onNil r (Zq (chk (decide (Zv b_3≤140737488355328)) (some (Zf [Zy b,Zy b_1,Zy b_2,Zz .u64 n,Zz .i64 n_1,Zz .i64 n_2,Zz .i64 n_3,Zm b_3],[]))) (kA fun cs=>cStr cs fun b r=>cStr r fun b_4 r=>cStr r fun b_5 r=>cInt .u64 r fun n r=>cInt .i64 r fun n_4 r=>cInt .i64 r fun n_5 r=>cInt .i64 r fun n_6 r=>cBs r fun b_6 r=>onNil r (some (Yy [Zf [Zy b,Zy b_4,Zy b_5,Zz .u64 n,Zz .i64 n_4,Zz .i64 n_5,Zz .i64 n_6,Zm b_6],Yz true],[]))))))):Option (AV×Blocks))) (by kernel_rfl) ?_
  delta kA kI
  try dsimp only [cStr,cBs,cBool,cU8,cInt,cSl,l63]
  simp only [Yh,decide_eq_true_eq] at hpre
  obtain ⟨⟨hall,hlen⟩,hfit⟩:=hpre
  obtain ⟨cs,rfl,hok⟩:=Kerb.creds_of hall
  have hf:=Kerb.fit_of hfit
  simp only [A0,Xp,Xh,Xm,Kerb.map_toCred,Vj] at hlen ⊢
  rw [chk_of (by rw [hall];simp;omega)]
  have hle:=Kerb.credAt_le cs ⟨x,y,z⟩
  unfold Vd
  by_cases h:Kerb.credAt cs ⟨x,y,z⟩<cs.length
  ·rw [sel_neg (by simp;omega),chk_of (by simp;omega),Vx,Kerb.getD_av h,if_pos h]
   obtain ⟨c,hcc⟩:∃ c,cs.getD (Kerb.credAt cs ⟨x,y,z⟩) Kerb.noCred=c:=⟨_,rfl⟩
   have hm:c∈cs:=by rw [← hcc];simp [List.getD_eq_getElem?_getD,h]
   have ht:=hf c hm
   rw [hcc]
   simp only [Xm,A0,Xp,Xh,Xm]
   rw [chk_of (by simpa using ht)]
  ·rw [sel_pos (by simp;omega),if_neg h]
   rfl
 ·cases h
theorem w130:Walked Tryz.prog G 130 3 sp130:=by
 refine ⟨Tryz.f130,Tryz.func130,by decide +kernel,rfl,fun xs bl r h=> ?_⟩
 unfold sp130 at h
 split at h
 ·rename_i x y z k lf kv iss tk now
  cases h
  refine Eq.trans (b:=(some (Yz (decide (now>Kerb.tEnd iss lf)),[]):Option (AV×Blocks))) (by kernel_rfl) ?_
  rfl
 ·cases h
theorem w162:Walked Tryz.prog G 162 3 sp162:=by
 refine ⟨Tryz.f162,Tryz.func162,by decide +kernel,rfl,fun xs bl r h=> ?_⟩
 unfold sp162 at h
 split at h
 ·rename_i b pos
  obtain ⟨hpre,h2⟩:=chk_inv h;cases h2
  refine Eq.trans (b:=(Zq (chk (decide (Zv b≤140737488355328)&&true&&true) (some (Yy [Zz .i64 (Xj (Yd b pos 1 false)),Zz .i64 (Xw (Yd b pos 1 false)),Zz .i64 (Xk (Yd b pos 1 false))],[]))) fun (r:AV×Blocks)=>onNilB (Yv r) (Wj (Yq r) fun vs=>onCons vs fun x r=>Yw .i64 x fun n=>onCons r fun x r=>Yw .i64 x fun n_1=>onCons r fun x r=>Yw .i64 x fun n_2=>onNil r (some (Yy [Zz .i64 n,Zz .i64 n_1,Zz .i64 n_2],[]))):Option (AV×Blocks))) (by kernel_rfl) ?_
  simp only [A0]
  rw [chk_of (by rw [hpre];rfl)]
 ·cases h
theorem w166:Walked Tryz.prog G 166 3 sp166:=by
 refine ⟨Tryz.f166,Tryz.func166,by decide +kernel,rfl,fun xs bl r h=> ?_⟩
 unfold sp166 at h
 split at h
 ·rename_i b pos little
  obtain ⟨hpre,h2⟩:=chk_inv h;cases h2
  refine Eq.trans (b:=(Zq (chk (decide (Zv b≤140737488355328)&&true&&true) (some (Yy [Zz .i64 (Xj (Yd b pos 2 little)),Zz .i64 (Xw (Yd b pos 2 little)),Zz .i64 (Xk (Yd b pos 2 little))],[]))) fun (r:AV×Blocks)=>onNilB (Yv r) (Wj (Yq r) fun vs=>onCons vs fun x r=>Yw .i64 x fun n=>onCons r fun x r=>Yw .i64 x fun n_1=>onCons r fun x r=>Yw .i64 x fun n_2=>onNil r (some (Yy [Zz .i64 n,Zz .i64 n_1,Zz .i64 n_2],[]))):Option (AV×Blocks))) (by kernel_rfl) ?_
  simp only [A0]
  rw [chk_of (by rw [hpre];rfl)]
 ·cases h
theorem w169:Walked Tryz.prog G 169 3 sp169:=by
 refine ⟨Tryz.f169,Tryz.func169,by decide +kernel,rfl,fun xs bl r h=> ?_⟩
 unfold sp169 at h
 split at h
 ·rename_i b pos little
  obtain ⟨hpre,h2⟩:=chk_inv h;cases h2
  refine Eq.trans (b:=(Zq (chk (decide (Zv b≤140737488355328)&&true&&true) (some (Yy [Zz .i64 (Xj (Yd b pos 4 little)),Zz .i64 (Xw (Yd b pos 4 little)),Zz .i64 (Xk (Yd b pos 4 little))],[]))) fun (r:AV×Blocks)=>onNilB (Yv r) (Wj (Yq r) fun vs=>onCons vs fun x r=>Yw .i64 x fun n=>onCons r fun x r=>Yw .i64 x fun n_1=>onCons r fun x r=>Yw .i64 x fun n_2=>onNil r (some (Yy [Zz .i64 n,Zz .i64 n_1,Zz .i64 n_2],[]))):Option (AV×Blocks))) (by kernel_rfl) ?_
  simp only [A0]
  rw [chk_of (by rw [hpre];rfl)]
 ·cases h
theorem w182:Walked Tryz.prog G 182 3 sp182:=by
 refine ⟨Tryz.f182,Tryz.func182,by decide +kernel,rfl,fun xs bl r h=> ?_⟩
 unfold sp182 at h
 split at h
 ·rename_i b
  obtain ⟨hpre,h2⟩:=chk_inv h;cases h2
  refine Eq.trans (b:=(chk (decide (0≤Xq (Zj .i64 (8-Xq (↑(Zv b):Int) 8)) 8)&&decide (Xq (Zj .i64 (8-Xq (↑(Zv b):Int) 8)) 8≤Xq (Zj .i64 (8-Xq (↑(Zv b):Int) 8)) 8)&&decide (Xq (Zj .i64 (8-Xq (↑(Zv b):Int) 8)) 8≤140737488355328)) (Zq (chk (decide (Zv (Xx b (Xx (Vf (Zg (Xq (Zj .i64 (8-Xq (↑(Zv b):Int) 8)) 8)) (0:UInt8)) []))≤140737488355328)&&decide (Zv [Zm b,Zm (Vf (Zg (Xq (Zj .i64 (8-Xq (↑(Zv b):Int) 8)) 8)) (0:UInt8))]≤1000)) (some (Yj (Xx b (Xx (Vf (Zg (Xq (Zj .i64 (8-Xq (↑(Zv b):Int) 8)) 8)) (0:UInt8)) [])),[]))) fun (r:AV×Blocks)=>onNilB (Yv r) (AV.onOwnB (Yq r) fun l=>some (Zm l,[]))):Option (AV×Blocks))) (by kernel_rfl) ?_
  have hb:=of_decide_eq_true hpre
  rw [Kerb.pad_eq hb]
  simp only [A0]
  rw [chk_of (by simp;omega),chk_of (by simp;omega)]
  simp [Kerb.pad]
  omega
 ·cases h
theorem w187:Walked Tryz.prog G 187 3 sp187:=by
 refine ⟨Tryz.f187,Tryz.func187,by decide +kernel,rfl,fun xs bl r h=> ?_⟩
 unfold sp187 at h
 split at h
 ·rename_i b s
  obtain ⟨hpre,h2⟩:=chk_inv h;cases h2
  refine Eq.trans (b:=(Zq (chk (decide (Zv (Xx b (Xx s ((0:UInt8)::Xx [] [])))≤140737488355328)&&decide (Zv [Zm b,Zm s,Zm [(0:UInt8)]]≤1000)) (some (Yj (Xx b (Xx s ((0:UInt8)::Xx [] []))),[]))) fun (r:AV×Blocks)=>onNilB (Yv r) (AV.onOwnB (Yq r) fun l=>some (Zm l,[])):Option (AV×Blocks))) (by kernel_rfl) ?_
  simp only [decide_eq_true_eq] at hpre
  simp only [A0]
  rw [chk_of (by simp;omega)]
  simp [Kerb.putText]
 ·cases h
theorem w198:Walked Tryz.prog G 198 3 sp198:=by
 refine ⟨Tryz.f198,Tryz.func198,by decide +kernel,rfl,fun xs bl r h=> ?_⟩
 unfold sp198 at h
 split at h
 ·rename_i b pos
  obtain ⟨hpre,h2⟩:=chk_inv h;cases h2
  refine Eq.trans (b:=(Zq (chk (decide (Zv b≤4611686018427387904)&&true&&true) (some (Yy [Zz .i64 (Xj (Yd b pos 1 false)),Zz .i64 (Xw (Yd b pos 1 false)),Zz .i64 (Xk (Yd b pos 1 false))],[]))) fun (r:AV×Blocks)=>onNilB (Yv r) (Wj (Yq r) fun vs=>onCons vs fun x r=>Yw .i64 x fun n=>onCons r fun x r=>Yw .i64 x fun n_1=>onCons r fun x r=>Yw .i64 x fun n_2=>onNil r (some (Yy [Zz .i64 n,Zz .i64 n_1,Zz .i64 n_2],[]))):Option (AV×Blocks))) (by kernel_rfl) ?_
  simp only [A0]
  rw [chk_of (by rw [hpre];rfl)]
 ·cases h
theorem w201:Walked Tryz.prog G 201 3 sp201:=by
 refine ⟨Tryz.f201,Tryz.func201,by decide +kernel,rfl,fun xs bl r h=> ?_⟩
 unfold sp201 at h
 split at h
 ·rename_i b pos little
  obtain ⟨hpre,h2⟩:=chk_inv h;cases h2
  refine Eq.trans (b:=(Zq (chk (decide (Zv b≤4611686018427387904)&&true&&true) (some (Yy [Zz .i64 (Xj (Yd b pos 2 little)),Zz .i64 (Xw (Yd b pos 2 little)),Zz .i64 (Xk (Yd b pos 2 little))],[]))) fun (r:AV×Blocks)=>onNilB (Yv r) (Wj (Yq r) fun vs=>onCons vs fun x r=>Yw .i64 x fun n=>onCons r fun x r=>Yw .i64 x fun n_1=>onCons r fun x r=>Yw .i64 x fun n_2=>onNil r (some (Yy [Zz .i64 n,Zz .i64 n_1,Zz .i64 n_2],[]))):Option (AV×Blocks))) (by kernel_rfl) ?_
  simp only [A0]
  rw [chk_of (by rw [hpre];rfl)]
 ·cases h
theorem w214:Walked Tryz.prog G 214 3 sp214:=by
 refine ⟨Tryz.f214,Tryz.func214,by decide +kernel,rfl,fun xs bl r h=> ?_⟩
 unfold sp214 at h
 split at h
 ·rename_i b pos
  obtain ⟨hpre,h2⟩:=chk_inv h;cases h2
  refine Eq.trans (b:=(let t5:List UInt8:=Wy (Zg pos) (Xd (Zg (↑(Zv b):Int)) b);let t6:Option (AV×Blocks):=some (Yy [Zy [],Zz .i64 0,Zz .i64 105],[]);let t7:Option (AV×Blocks):=some (Yy [Zy [],Zz .i64 0,Zz .i64 101],[]);let t1:Int:=Yg (0:UInt8) t5;let t2:Int:=(↑(Zv t5):Int);let t4:List UInt8:=Wy (Zg (↑(0:Nat):Int)) (Xd (Zg 40) t5);let t0:Int:=Yg (0:UInt8) t4;let t3:Int:=(↑(Zv t4):Int);Zq (chk (decide (Zv b≤4611686018427387904)) (some (Zz .i64 (Kerb.room b pos 0),[]))) (kI .i64 fun n=>sel (!n==0) (some (Yy [Zy [],Zz .i64 0,Zz .i64 n],[])) (chk (decide (0≤pos)&&decide (pos≤(↑(Zv b):Int))&&decide ((↑(Zv b):Int)≤(↑(Zv b):Int))) (sel (decide (t2>40)) (chk (decide (40≤t2)) (sel (decide (t0≥0)) (chk (decide ((↑(0:Nat):Int)≤t0)&&decide (t0≤t3)) (some (Yy [Zy (Wy (Zg (↑(0:Nat):Int)) (Xd (Zg t0) t4)),Zz .i64 (Zj .i64 (Zj .i64 (pos+t0)+1)),Zz .i64 0],[]))) (sel (t3==40) t6 t7))) (sel (decide (t1≥0)) (chk (decide ((↑(0:Nat):Int)≤t1)&&decide (t1≤t2)) (some (Yy [Zy (Wy (Zg (↑(0:Nat):Int)) (Xd (Zg t1) t5)),Zz .i64 (Zj .i64 (Zj .i64 (pos+t1)+1)),Zz .i64 0],[]))) (sel (t2==40) t6 t7))))):Option (AV×Blocks))) (by kernel_rfl) ?_
  delta kI
  try dsimp only [cStr,cBs,cBool,cU8,cInt,cSl,l63]
  simp only [decide_eq_true_eq] at hpre
  simp only [A0]
  rw [chk_of (by simpa using hpre)]
  have ht:(Xd (Zg (b.length:Int)) b)=b:=by simp
  rw [ht]
  unfold Wv
  by_cases hr:Kerb.room b pos 0=0
  case neg =>
   have h104:Kerb.room b pos 0=104:=by
    unfold Kerb.room at hr ⊢
    split at hr
    ·rw [if_pos (by assumption)]
    ·split at hr<;>omega
   rw [sel_pos (by simpa using hr),if_neg hr,h104]
  obtain ⟨q1,q2,_,_⟩:=Kerb.room_zero.1 hr
  rw [sel_neg (by simp [hr]),if_pos hr,chk_of (by simp;omega)]
  obtain ⟨R,hR⟩:∃ R,R=b.drop pos.toNat:=⟨_,rfl⟩
  have hRl:R.length=b.length-pos.toNat:=by rw [hR];simp
  rw [← hR]
  obtain ⟨T,hT⟩:∃ T,T=R.take 40:=⟨_,rfl⟩
  have hix:=Kerb.indexOf_bd 0 T
  have key:(sel (decide (Yg (0:UInt8) T≥(0:Int)))
    (chk (decide (((0:Nat):Int)≤Yg (0:UInt8) T)&&decide (Yg (0:UInt8) T≤(T.length:Int)))
     (some (Yy [Zy (Wy (Zg ((0:Nat):Int)) (Xd (Zg (Yg (0:UInt8) T)) T)),Zz Zw (Zj Zw (Zj Zw (pos+Yg (0:UInt8) T)+(1:Int))),Zz Zw (0:Int)],([]:Blocks))))
    (sel (((T.length:Int))==(40:Int)) (some (Yy [Zy [],Zz Zw (0:Int),Zz Zw (105:Int)],[]))
     (some (Yy [Zy [],Zz Zw (0:Int),Zz Zw (101:Int)],[])))) =
    some (Yy [Zy (if 0≤Yg 0 T then (⟨T.take (Yg 0 T).toNat,pos+Yg 0 T+1,0⟩:Kerb.GotB) else if T.length=40 then ⟨[],0,105⟩ else ⟨[],0,101⟩).val,
     Zz Zw (if 0≤Yg 0 T then (⟨T.take (Yg 0 T).toNat,pos+Yg 0 T+1,0⟩:Kerb.GotB) else if T.length=40 then ⟨[],0,105⟩ else ⟨[],0,101⟩).next,
     Zz Zw (if 0≤Yg 0 T then (⟨T.take (Yg 0 T).toNat,pos+Yg 0 T+1,0⟩:Kerb.GotB) else if T.length=40 then ⟨[],0,105⟩ else ⟨[],0,101⟩).err],[]):=by
   have hTl:T.length≤b.length-pos.toNat:=by rw [hT];simp;omega
   by_cases hi:0≤Yg 0 T
   ·rw [sel_pos (by simpa using hi),chk_of (by simp;omega),if_pos hi,wrap_i64 (n:=pos+Yg 0 T) (by omega) (by omega),wrap_i64 (by omega) (by omega)]
    rfl
   ·rw [sel_neg (by simp;omega),if_neg hi]
    by_cases h40:T.length=40
    ·rw [sel_pos (by simp [h40]),if_pos h40]
    ·rw [sel_neg (by simp;omega),if_neg h40]
  by_cases hlong:40<R.length
  ·rw [sel_pos (by simp;omega),chk_of (by simp;omega)]
   have e1:Wy (Zg ((0:Nat):Int)) (Xd (Zg (40:Int)) R)=T:=by rw [hT];rfl
   rw [e1]
   rw [← hT]
   exact key
  ·rw [sel_neg (by simp;omega)]
   have e1:R=T:=by rw [hT,List.take_of_length_le (by omega)]
   rw [← hT,e1]
   exact key
 ·cases h
theorem w235:Walked Tryz.prog G 235 3 sp235:=by
 refine ⟨Tryz.f235,Tryz.func235,by decide +kernel,rfl,fun xs bl r h=> ?_⟩
 unfold sp235 at h
 split at h
 ·rename_i b n k little
  obtain ⟨hpre,h2⟩:=chk_inv h;cases h2
  refine Eq.trans (b:=(Zq (loopM (fun (st:List AV)=>cBs st fun b r=>cInt .i64 r fun n r=>cInt .i64 r fun n_1 r=>cBool r fun b_1 r=>cBs r fun c r=>cInt .i64 r fun n_2 r=>cInt .i64 r fun n_3 r=>let t0:Int:=Zj .i64 (Zj .i64 (n_1-1)-n_3);let t1:UInt8:=Wz (Zg (Zj .u8 (Int.fdiv n (2 ^ min (Zg (Zj .i64 (8*n_3))) (Xz .i64)))));onNil r (sel (decide (n_3<n_2)) (sel (!b_1) (chk (decide (0≤Zj .i64 (8*n_3))) (chk (decide (0≤t0)&&decide (t0<(↑(Zv c):Int))&&Nat.beq (Zv c) 4&&true) (chk (Nat.blt (Zg t0) (Zv c)&&true&&true&&true&&true) (some (Sum.inl [Zm b,Zz .i64 n,Zz .i64 n_1,Yz b_1,Zm (List.set c (Zg t0) t1),Zz .i64 n_2,Zz .i64 (Zj .i64 (n_3+1))]))))) (chk (decide (0≤Zj .i64 (8*n_3))) (chk (decide (0≤n_3)&&decide (n_3<(↑(Zv c):Int))&&Nat.beq (Zv c) 4&&true) (chk (Nat.blt (Zg n_3) (Zv c)&&true&&true&&true&&true) (some (Sum.inl [Zm b,Zz .i64 n,Zz .i64 n_1,Yz b_1,Zm (List.set c (Zg n_3) t1),Zz .i64 n_2,Zz .i64 (Zj .i64 (n_3+1))])))))) (some (Sum.inr (Vw 0,[Zm b,Zz .i64 n,Zz .i64 n_1,Yz b_1,Zm c,Zz .i64 n_2,Zz .i64 n_3]))))) [Zm b,Zz .i64 n,Zz .i64 k,Yz little,Zm [(0:UInt8),(0:UInt8),(0:UInt8),(0:UInt8)],Zz .i64 k,Zz .i64 0]) fun (r:Ex×List AV)=>cBs (Yv r) fun b r_1=>cInt .i64 r_1 fun n r_2=>cInt .i64 r_2 fun n r_3=>cBool r_3 fun b_1 r_4=>cBs r_4 fun c r_5=>let t2:Nat:=Zv [Zm b,Zm (Wy (Zg (↑(0:Nat):Int)) (Xd (Zg n) c))];let t3:Nat:=Zv (Xx b (Xx (Wy (Zg (↑(0:Nat):Int)) (Xd (Zg n) c)) []));cInt .i64 r_5 fun n_1 r_6=>cInt .i64 r_6 fun n_2 r_7=>onNil r_7 (exK r.1 none fun (j:Nat)=>sel (Nat.beq j 0) (chk (decide ((↑(0:Nat):Int)≤n)&&decide (n≤(↑(Zv c):Int))&&Nat.beq (Zv c) 4) (Zq (chk (decide (t3≤140737488355328)&&decide (t2≤1000)) (some (Yj (Xx b (Xx (Wy (Zg (↑(0:Nat):Int)) (Xd (Zg n) c)) [])),[]))) (kO fun l=>some (Yj l,[])))) none):Option (AV×Blocks))) (by kernel_rfl) ?_
  delta kO
  try dsimp only [cStr,cBs,cBool,cU8,cInt,cSl,l63]
  simp only [Yh,decide_eq_true_eq] at hpre
  obtain ⟨hk,hb⟩:=hpre
  rcases hk with rfl | rfl | rfl<;>cases little
  ·refine loop_unroll 2 (Vw 0,[Zm b,Zz Zw n,Zz Zw 1,Yz false,Zm [Wk n 0,(0:UInt8),(0:UInt8),(0:UInt8)],Zz Zw 1,Zz Zw 1]) (by kernel_rfl) ?_
   simp only [A0]
   rw [sel_pos (Wm _),chk_of (by simp),chk_of (by simp;omega)]
   simp [Vm,Yp,Vn,Wh]
  ·refine loop_unroll 2 (Vw 0,[Zm b,Zz Zw n,Zz Zw 1,Yz true,Zm [Wk n 0,(0:UInt8),(0:UInt8),(0:UInt8)],Zz Zw 1,Zz Zw 1]) (by kernel_rfl) ?_
   simp only [A0]
   rw [sel_pos (Wm _),chk_of (by simp),chk_of (by simp;omega)]
   simp [Vm,Yp,Vn,Wh]
  ·refine loop_unroll 3 (Vw 0,[Zm b,Zz Zw n,Zz Zw 2,Yz false,Zm [Wk n 8,Wk n 0,(0:UInt8),(0:UInt8)],Zz Zw 2,Zz Zw 2]) (by kernel_rfl) ?_
   simp only [A0]
   rw [sel_pos (Wm _),chk_of (by simp),chk_of (by simp;omega)]
   simp [Vm,Yp,Vn,Wh]
  ·refine loop_unroll 3 (Vw 0,[Zm b,Zz Zw n,Zz Zw 2,Yz true,Zm [Wk n 0,Wk n 8,(0:UInt8),(0:UInt8)],Zz Zw 2,Zz Zw 2]) (by kernel_rfl) ?_
   simp only [A0]
   rw [sel_pos (Wm _),chk_of (by simp),chk_of (by simp;omega)]
   simp [Vm,Yp,Vn,Wh]
  ·refine loop_unroll 5 (Vw 0,[Zm b,Zz Zw n,Zz Zw 4,Yz false,Zm [Wk n 24,Wk n 16,Wk n 8,Wk n 0],Zz Zw 4,Zz Zw 4]) (by kernel_rfl) ?_
   simp only [A0]
   rw [sel_pos (Wm _),chk_of (by simp),chk_of (by simp;omega)]
   simp [Vm,Yp,Vn,Wh]
  ·refine loop_unroll 5 (Vw 0,[Zm b,Zz Zw n,Zz Zw 4,Yz true,Zm [Wk n 0,Wk n 8,Wk n 16,Wk n 24],Zz Zw 4,Zz Zw 4]) (by kernel_rfl) ?_
   simp only [A0]
   rw [sel_pos (Wm _),chk_of (by simp),chk_of (by simp;omega)]
   simp [Vm,Yp,Vn,Wh]
 ·cases h
theorem w240:Walked Tryz.prog G 240 3 sp240:=by
 refine ⟨Tryz.f240,Tryz.func240,by decide +kernel,rfl,fun xs bl r h=> ?_⟩
 unfold sp240 at h
 split at h
 ·rename_i b little
  obtain ⟨hpre,h2⟩:=chk_inv h;cases h2
  refine Eq.trans (b:=(sel little (Zq (chk (decide (Zv b≤70368744177664)) (some (Yj (b++Yp 1 1 false),[]))) fun (r:AV×Blocks)=>onNilB (Yv r) (AV.onOwnB (Yq r) fun l=>some (Yj l,[]))) (Zq (chk (decide (Zv b≤70368744177664)) (some (Yj (b++Yp 0 1 false),[]))) fun (r:AV×Blocks)=>onNilB (Yv r) (AV.onOwnB (Yq r) fun l=>some (Yj l,[]))):Option (AV×Blocks))) (by kernel_rfl) ?_
  simp only [A0]
  rw [chk_of hpre,chk_of hpre]
  cases little<;>rfl
 ·cases h
theorem w244:Walked Tryz.prog G 244 3 sp244:=by
 refine ⟨Tryz.f244,Tryz.func244,by decide +kernel,rfl,fun xs bl r h=> ?_⟩
 unfold sp244 at h
 split at h
 ·rename_i b pos little
  obtain ⟨hpre,h2⟩:=chk_inv h;cases h2
  refine Eq.trans (b:=(Zq (chk (decide (Zv b≤4611686018427387904)&&true&&true) (some (Yy [Zz .i64 (Xj (Yd b pos 4 little)),Zz .i64 (Xw (Yd b pos 4 little)),Zz .i64 (Xk (Yd b pos 4 little))],[]))) fun (r:AV×Blocks)=>onNilB (Yv r) (Wj (Yq r) fun vs=>onCons vs fun x r=>Yw .i64 x fun n=>onCons r fun x r=>Yw .i64 x fun n_1=>onCons r fun x r=>Yw .i64 x fun n_2=>onNil r (some (Yy [Zz .i64 n,Zz .i64 n_1,Zz .i64 n_2],[]))):Option (AV×Blocks))) (by kernel_rfl) ?_
  simp only [A0]
  rw [chk_of (by rw [hpre];rfl)]
 ·cases h
theorem w246:Walked Tryz.prog G 246 3 sp246:=by
 refine ⟨Tryz.f246,Tryz.func246,by decide +kernel,rfl,fun xs bl r h=> ?_⟩
 unfold sp246 at h
 split at h
 ·rename_i s c
  cases h
  refine Eq.trans (b:=(some (Zz .i64 (Yg c s),[]):Option (AV×Blocks))) (by kernel_rfl) ?_
  rfl
 ·cases h
theorem w10:Walked Tryz.prog G 10 4 sp10:=by
 refine ⟨Tryz.f10,Tryz.func10,by decide +kernel,rfl,fun xs bl r h=> ?_⟩
 unfold sp10 at h
 split at h
 ·rename_i lf xp bd
  cases h
  refine Eq.trans (b:=(Zq (loopM (fun (st:List AV)=>cU8 st fun b r=>cU8 r fun b_1 r=>cU8 r fun b_2 r=>cStr r fun b_3 r=>cSl 9 r fun b_4 r=>cStr r fun b_5 r=>onCons r fun x r=>AV.onOwnL x fun y=>cSl 3 r fun b_6 r=>cInt .i64 r fun n r=>onNil r (sel (decide (n<(↑(Zv b_6):Int))) (chk (decide (0≤n)&&decide (n<(↑(Zv b_6):Int))&&true) (AV.onAgg (Xy b_6 (Zg n) Wn) fun cs=>cStr cs fun b_7 r=>cStr r fun b_8 r=>cStr r fun b_9 r=>onNil r (chk (decide (0≤n)&&decide (n<(↑(Zv b_6):Int))&&true) (AV.onAgg (Xy b_6 (Zg n) Wn) fun cs=>cStr cs fun b_10 r=>cStr r fun b_11 r=>cStr r fun b_12 r=>onNil r (Zq (chk (decide (0≤n)&&decide (n≤1000)) (some (Zz .u64 (Yb n),[]))) (kI .u64 fun n_1=>Zq (sel (Xq (Zj .i64 (↑(Wu b_2):Int)) 16==n) (some [Wd b,Wd b_1,Wd b_2,Zy b_3,Wq 9 b_4,Zy b_5,AV.ownL y,Wq 3 b_6,Zz .i64 n,Zy b_7,Zy b_11,Zz .u64 n_1,Zz .i64 (Zj .i64 (3+n)),Zz .i64 0,Zz .i64 (Zj .i64 (↑(Wu b):Int)),Zz .i64 (Zj .i64 (1+Xq (Zj .i64 (Int.tdiv (Zj .i64 (↑(Wu b_2):Int)) 16)) 3)),Zz .i64 0,Zz .i64 0]) (some [Wd b,Wd b_1,Wd b_2,Zy b_3,Wq 9 b_4,Zy b_5,AV.ownL y,Wq 3 b_6,Zz .i64 n,Zy b_7,Zy b_11,Zz .u64 n_1,Zz .i64 (Zj .i64 (3+n)),Zz .i64 0,Zz .i64 (Zj .i64 (↑(Wu b):Int)),Zz .i64 0,Zz .i64 0,Zz .i64 0])) fun l=>cU8 l fun b r=>cU8 r fun b_13 r=>cU8 r fun b_14 r=>cStr r fun b_15 r=>cSl 9 r fun b_16 r=>cStr r fun b_17 r=>onCons r fun x r=>AV.onOwnL x fun y=>cSl 3 r fun b_18 r=>cInt .i64 r fun n r=>cStr r fun b_19 r=>cStr r fun b_20 r=>cInt .u64 r fun n_2 r=>cInt .i64 r fun n_3 r=>cInt .i64 r fun n_4 r=>cInt .i64 r fun n_5 r=>cInt .i64 r fun n_6 r=>cInt .i64 r fun n_7 r=>cInt .i64 r fun n_8 r=>let t0:List AV:=[Zz .i64 n_5,Zz .i64 n_6,Zz .i64 n_7,Zz .i64 n_8];onNil r (Zq (sel (Xq (Zj .i64 (↑(Wu b_14):Int)) 16==Zj .i64 (8+n)) (some (Wd b::Wd b_13::Wd b_14::Zy b_15::Wq 9 b_16::Zy b_17::AV.ownL y::Wq 3 b_18::Zz .i64 n::Zy b_19::Zy b_20::Zz .u64 n_2::Zz .i64 n_3::Zz .i64 (Zj .i64 (1000+Zj .i64 (Zj .i64 (↑(Wu b_13):Int)*100)))::t0)) (some (Wd b::Wd b_13::Wd b_14::Zy b_15::Wq 9 b_16::Zy b_17::AV.ownL y::Wq 3 b_18::Zz .i64 n::Zy b_19::Zy b_20::Zz .u64 n_2::Zz .i64 n_3::Zz .i64 n_4::t0))) fun l=>cU8 l fun b r=>cU8 r fun b_21 r=>cU8 r fun b_22 r=>cStr r fun b_23 r=>cSl 9 r fun b_24 r=>cStr r fun b_25 r=>onCons r fun x r=>AV.onOwnL x fun y=>cSl 3 r fun b_26 r=>cInt .i64 r fun n r=>cStr r fun b_27 r=>cStr r fun b_28 r=>cInt .u64 r fun n_9 r=>cInt .i64 r fun n_10 r=>cInt .i64 r fun n_11 r=>cInt .i64 r fun n_12 r=>cInt .i64 r fun n_13 r=>cInt .i64 r fun n_14 r=>cInt .i64 r fun n_15 r=>let t1:List AV:=[Zf [Zy b_27,Zy b_28,Zz .u64 n_9,Zz .i64 n_10,Zz .i64 n_11,Zz .i64 n_12,Zz .i64 n_13,Zz .i64 n_14,Zz .i64 n_15]];onNil r (chk (room (Zv y+Zv t1) (nat_lit 88)) (some (Sum.inl [Wd b,Wd b_21,Wd b_22,Zy b_23,Wq 9 b_24,Zy b_25,AV.ownL (y++t1),Wq 3 b_26,Zz .i64 (Zj .i64 (n+1))])))))))))) (some (Sum.inr (Vw 0,[Wd b,Wd b_1,Wd b_2,Zy b_3,Wq 9 b_4,Zy b_5,AV.ownL y,Wq 3 b_6,Zz .i64 n]))))) [Wd lf,Wd xp,Wd bd,Zy [],Wq 9 [],Zy [(65:UInt8),(84:UInt8),(72:UInt8)],AV.ownL [],Wq 3 [Zf [Zy (Wx (Zu 0)),Zy (Ww (Zu 0)),Zy (Xb (Zu 0))],Zf [Zy (Wx (Zu 1)),Zy (Ww (Zu 1)),Zy (Xb (Zu 1))],Zf [Zy (Wx (Zu 2)),Zy (Ww (Zu 2)),Zy (Xb (Zu 2))],Zf [Zy (Wx (Zx 2)),Zy (Ww (Zx 2)),Zy (Xb (Zx 2))],Zf [Zy (Wx (Zx 0)),Zy (Ww (Zx 0)),Zy (Xb (Zx 0))],Zf [Zy (Wx (Zx 1)),Zy (Ww (Zx 1)),Zy (Xb (Zx 1))]],Zz .i64 0]) fun (r:Ex×List AV)=>cU8 (Yv r) fun b r_1=>cU8 r_1 fun b r_2=>cU8 r_2 fun b r_3=>cStr r_3 fun b r_4=>cSl 9 r_4 fun b_1 r_5=>cStr r_5 fun b_2 r_6=>onCons r_6 fun x r_7=>AV.onOwnL x fun y=>cSl 3 r_7 fun b_3 r_8=>cInt .i64 r_8 fun n r_9=>onNil r_9 (exK r.1 (some (Zf [Zy b,Wq 9 b_1],[])) fun (j:Nat)=>sel (Nat.beq j 0) (some (Zf [Zy b_2,Wq 9 y],[])) none):Option (AV×Blocks))) (by kernel_rfl) ?_
  delta kI
  try dsimp only [cStr,cBs,cBool,cU8,cInt,cSl,l63]
  have b0:=Kerb.u8i_bd lf
  have b1:=Kerb.u8i_bd xp
  have b2:=Kerb.u8i_bd bd
  have e0:=Kerb.wrap_u8i
  have e1:Xq (Zh bd) 16=Zh bd % 16:=Int.tmod_eq_emod_of_nonneg b2.1
  have e2:Zj .i64 (1000+Zj .i64 (Zh xp*100))=1000+Zh xp*100:=by rw [wrap_i64 (n:=Zh xp*100) (by omega) (by omega),wrap_i64 (by omega) (by omega)]
  have e3:Zj .i64 (1+Xq (Zj .i64 (Int.tdiv (Zh bd) 16)) 3)=1+Zh bd / 16 % 3:=by
   rw [Int.tdiv_eq_ediv_of_nonneg b2.1,wrap_i64 (n:=Zh bd / 16) (by omega) (by omega),Int.tmod_eq_emod_of_nonneg (by omega),wrap_i64 (by omega) (by omega)]
  refine loop_rounds (fun i:Nat=>[Wd lf,Wd xp,Wd bd,Zy [],Wq 9 [],Zy [65,84,72],AV.ownL (((Kerb.simpleDb lf xp bd).entries.take i).map Zk),Wq 3 [Zf [Zy (Zu 0).name,Zy (Zu 0).inst,Zy (Zu 0).realm],Zf [Zy (Zu 1).name,Zy (Zu 1).inst,Zy (Zu 1).realm],Zf [Zy (Zu 2).name,Zy (Zu 2).inst,Zy (Zu 2).realm],Zf [Zy (Zx 2).name,Zy (Zx 2).inst,Zy (Zx 2).realm],Zf [Zy (Zx 0).name,Zy (Zx 0).inst,Zy (Zx 0).realm],Zf [Zy (Zx 1).name,Zy (Zx 1).inst,Zy (Zx 1).realm]],Zz Zw (i:Int)]) (fun i=>i≤6) (fun i=>6-i)
   (fun r=>r=(Vw 0,[Wd lf,Wd xp,Wd bd,Zy [],Wq 9 [],Zy [65,84,72],AV.ownL ((Kerb.simpleDb lf xp bd).entries.map Zk),Wq 3 [Zf [Zy (Zu 0).name,Zy (Zu 0).inst,Zy (Zu 0).realm],Zf [Zy (Zu 1).name,Zy (Zu 1).inst,Zy (Zu 1).realm],Zf [Zy (Zu 2).name,Zy (Zu 2).inst,Zy (Zu 2).realm],Zf [Zy (Zx 2).name,Zy (Zx 2).inst,Zy (Zx 2).realm],Zf [Zy (Zx 0).name,Zy (Zx 0).inst,Zy (Zx 0).realm],Zf [Zy (Zx 1).name,Zy (Zx 1).inst,Zy (Zx 1).realm]],Zz Zw 6])) 0 (by decide) rfl ?_ ?_
  ·intro i hi
   have hc:i=0∨i=1∨i=2∨i=3∨i=4∨i=5∨i=6:=by omega
   rcases hc with rfl | rfl | rfl | rfl | rfl | rfl | rfl
   ·have g:Xy [Zf [Zy (Zu 0).name,Zy (Zu 0).inst,Zy (Zu 0).realm],Zf [Zy (Zu 1).name,Zy (Zu 1).inst,Zy (Zu 1).realm],Zf [Zy (Zu 2).name,Zy (Zu 2).inst,Zy (Zu 2).realm],Zf [Zy (Zx 2).name,Zy (Zx 2).inst,Zy (Zx 2).realm],Zf [Zy (Zx 0).name,Zy (Zx 0).inst,Zy (Zx 0).realm],Zf [Zy (Zx 1).name,Zy (Zx 1).inst,Zy (Zx 1).realm]] (Zg ((0:Nat):Int)) Wn=Zf [Zy (Zu 0).name,Zy (Zu 0).inst,Zy (Zu 0).realm]:=rfl
    have k0:decide (((0:Nat):Int)<((Zv [Zf [Zy (Zu 0).name,Zy (Zu 0).inst,Zy (Zu 0).realm],Zf [Zy (Zu 1).name,Zy (Zu 1).inst,Zy (Zu 1).realm],Zf [Zy (Zu 2).name,Zy (Zu 2).inst,Zy (Zu 2).realm],Zf [Zy (Zx 2).name,Zy (Zx 2).inst,Zy (Zx 2).realm],Zf [Zy (Zx 0).name,Zy (Zx 0).inst,Zy (Zx 0).realm],Zf [Zy (Zx 1).name,Zy (Zx 1).inst,Zy (Zx 1).realm]]:Nat):Int))=true:=rfl
    have k1:decide ((0:Int)≤((0:Nat):Int))=true:=rfl
    have k2:decide (((0:Nat):Int)≤1000)=true:=rfl
    have k3:Zj .i64 (3+((0:Nat):Int))=3+((0:Nat):Int):=rfl
    have k4:Zj .i64 (8+((0:Nat):Int))=8+((0:Nat):Int):=rfl
    simp only [g,k0,k1,k2,k3,k4,e0,e1,e2,e3,Xv,↓A0,A0]
    by_cases h1:Zh bd % 16=((0:Nat):Int)
    all_goals by_cases h2:Zh bd % 16=8+((0:Nat):Int)
    ·have hE:Zk (Zp ((0:Nat):Int) (Zu 0) lf xp bd)=Zf [Zy (Zu 0).name,Zy (Zu 0).inst,Zz Yu (Yb ((0:Nat):Int)),Zz Zw (3+((0:Nat):Int)),Zz Zw (1000+Zh xp*100),Zz Zw (Zh lf),Zz Zw (1+Zh bd / 16 % 3),Zz Zw 0,Zz Zw 0]:=by
      unfold Zk Zp
      dsimp only
      rw [if_pos h2,if_pos h1]
     rw [sel_pos (by simpa using h1),sel_pos (by simpa using h2),chk_of (by rfl),← hE]
     exact ⟨_,rfl,1,rfl,by decide,by decide⟩
    ·have hE:Zk (Zp ((0:Nat):Int) (Zu 0) lf xp bd)=Zf [Zy (Zu 0).name,Zy (Zu 0).inst,Zz Yu (Yb ((0:Nat):Int)),Zz Zw (3+((0:Nat):Int)),Zz Zw (0),Zz Zw (Zh lf),Zz Zw (1+Zh bd / 16 % 3),Zz Zw 0,Zz Zw 0]:=by
      unfold Zk Zp
      dsimp only
      rw [if_neg h2,if_pos h1]
     rw [sel_pos (by simpa using h1),sel_neg (by simpa using h2),chk_of (by rfl),← hE]
     exact ⟨_,rfl,1,rfl,by decide,by decide⟩
    ·have hE:Zk (Zp ((0:Nat):Int) (Zu 0) lf xp bd)=Zf [Zy (Zu 0).name,Zy (Zu 0).inst,Zz Yu (Yb ((0:Nat):Int)),Zz Zw (3+((0:Nat):Int)),Zz Zw (1000+Zh xp*100),Zz Zw (Zh lf),Zz Zw (0),Zz Zw 0,Zz Zw 0]:=by
      unfold Zk Zp
      dsimp only
      rw [if_pos h2,if_neg h1]
     rw [sel_neg (by simpa using h1),sel_pos (by simpa using h2),chk_of (by rfl),← hE]
     exact ⟨_,rfl,1,rfl,by decide,by decide⟩
    ·have hE:Zk (Zp ((0:Nat):Int) (Zu 0) lf xp bd)=Zf [Zy (Zu 0).name,Zy (Zu 0).inst,Zz Yu (Yb ((0:Nat):Int)),Zz Zw (3+((0:Nat):Int)),Zz Zw (0),Zz Zw (Zh lf),Zz Zw (0),Zz Zw 0,Zz Zw 0]:=by
      unfold Zk Zp
      dsimp only
      rw [if_neg h2,if_neg h1]
     rw [sel_neg (by simpa using h1),sel_neg (by simpa using h2),chk_of (by rfl),← hE]
     exact ⟨_,rfl,1,rfl,by decide,by decide⟩
   ·have g:Xy [Zf [Zy (Zu 0).name,Zy (Zu 0).inst,Zy (Zu 0).realm],Zf [Zy (Zu 1).name,Zy (Zu 1).inst,Zy (Zu 1).realm],Zf [Zy (Zu 2).name,Zy (Zu 2).inst,Zy (Zu 2).realm],Zf [Zy (Zx 2).name,Zy (Zx 2).inst,Zy (Zx 2).realm],Zf [Zy (Zx 0).name,Zy (Zx 0).inst,Zy (Zx 0).realm],Zf [Zy (Zx 1).name,Zy (Zx 1).inst,Zy (Zx 1).realm]] (Zg ((1:Nat):Int)) Wn=Zf [Zy (Zu 1).name,Zy (Zu 1).inst,Zy (Zu 1).realm]:=rfl
    have k0:decide (((1:Nat):Int)<((Zv [Zf [Zy (Zu 0).name,Zy (Zu 0).inst,Zy (Zu 0).realm],Zf [Zy (Zu 1).name,Zy (Zu 1).inst,Zy (Zu 1).realm],Zf [Zy (Zu 2).name,Zy (Zu 2).inst,Zy (Zu 2).realm],Zf [Zy (Zx 2).name,Zy (Zx 2).inst,Zy (Zx 2).realm],Zf [Zy (Zx 0).name,Zy (Zx 0).inst,Zy (Zx 0).realm],Zf [Zy (Zx 1).name,Zy (Zx 1).inst,Zy (Zx 1).realm]]:Nat):Int))=true:=rfl
    have k1:decide ((0:Int)≤((1:Nat):Int))=true:=rfl
    have k2:decide (((1:Nat):Int)≤1000)=true:=rfl
    have k3:Zj .i64 (3+((1:Nat):Int))=3+((1:Nat):Int):=rfl
    have k4:Zj .i64 (8+((1:Nat):Int))=8+((1:Nat):Int):=rfl
    simp only [g,k0,k1,k2,k3,k4,e0,e1,e2,e3,Xv,↓A0,A0]
    by_cases h1:Zh bd % 16=((1:Nat):Int)
    all_goals by_cases h2:Zh bd % 16=8+((1:Nat):Int)
    ·have hE:Zk (Zp ((1:Nat):Int) (Zu 1) lf xp bd)=Zf [Zy (Zu 1).name,Zy (Zu 1).inst,Zz Yu (Yb ((1:Nat):Int)),Zz Zw (3+((1:Nat):Int)),Zz Zw (1000+Zh xp*100),Zz Zw (Zh lf),Zz Zw (1+Zh bd / 16 % 3),Zz Zw 0,Zz Zw 0]:=by
      unfold Zk Zp
      dsimp only
      rw [if_pos h2,if_pos h1]
     rw [sel_pos (by simpa using h1),sel_pos (by simpa using h2),chk_of (by rfl),← hE]
     exact ⟨_,rfl,2,rfl,by decide,by decide⟩
    ·have hE:Zk (Zp ((1:Nat):Int) (Zu 1) lf xp bd)=Zf [Zy (Zu 1).name,Zy (Zu 1).inst,Zz Yu (Yb ((1:Nat):Int)),Zz Zw (3+((1:Nat):Int)),Zz Zw (0),Zz Zw (Zh lf),Zz Zw (1+Zh bd / 16 % 3),Zz Zw 0,Zz Zw 0]:=by
      unfold Zk Zp
      dsimp only
      rw [if_neg h2,if_pos h1]
     rw [sel_pos (by simpa using h1),sel_neg (by simpa using h2),chk_of (by rfl),← hE]
     exact ⟨_,rfl,2,rfl,by decide,by decide⟩
    ·have hE:Zk (Zp ((1:Nat):Int) (Zu 1) lf xp bd)=Zf [Zy (Zu 1).name,Zy (Zu 1).inst,Zz Yu (Yb ((1:Nat):Int)),Zz Zw (3+((1:Nat):Int)),Zz Zw (1000+Zh xp*100),Zz Zw (Zh lf),Zz Zw (0),Zz Zw 0,Zz Zw 0]:=by
      unfold Zk Zp
      dsimp only
      rw [if_pos h2,if_neg h1]
     rw [sel_neg (by simpa using h1),sel_pos (by simpa using h2),chk_of (by rfl),← hE]
     exact ⟨_,rfl,2,rfl,by decide,by decide⟩
    ·have hE:Zk (Zp ((1:Nat):Int) (Zu 1) lf xp bd)=Zf [Zy (Zu 1).name,Zy (Zu 1).inst,Zz Yu (Yb ((1:Nat):Int)),Zz Zw (3+((1:Nat):Int)),Zz Zw (0),Zz Zw (Zh lf),Zz Zw (0),Zz Zw 0,Zz Zw 0]:=by
      unfold Zk Zp
      dsimp only
      rw [if_neg h2,if_neg h1]
     rw [sel_neg (by simpa using h1),sel_neg (by simpa using h2),chk_of (by rfl),← hE]
     exact ⟨_,rfl,2,rfl,by decide,by decide⟩
   ·have g:Xy [Zf [Zy (Zu 0).name,Zy (Zu 0).inst,Zy (Zu 0).realm],Zf [Zy (Zu 1).name,Zy (Zu 1).inst,Zy (Zu 1).realm],Zf [Zy (Zu 2).name,Zy (Zu 2).inst,Zy (Zu 2).realm],Zf [Zy (Zx 2).name,Zy (Zx 2).inst,Zy (Zx 2).realm],Zf [Zy (Zx 0).name,Zy (Zx 0).inst,Zy (Zx 0).realm],Zf [Zy (Zx 1).name,Zy (Zx 1).inst,Zy (Zx 1).realm]] (Zg ((2:Nat):Int)) Wn=Zf [Zy (Zu 2).name,Zy (Zu 2).inst,Zy (Zu 2).realm]:=rfl
    have k0:decide (((2:Nat):Int)<((Zv [Zf [Zy (Zu 0).name,Zy (Zu 0).inst,Zy (Zu 0).realm],Zf [Zy (Zu 1).name,Zy (Zu 1).inst,Zy (Zu 1).realm],Zf [Zy (Zu 2).name,Zy (Zu 2).inst,Zy (Zu 2).realm],Zf [Zy (Zx 2).name,Zy (Zx 2).inst,Zy (Zx 2).realm],Zf [Zy (Zx 0).name,Zy (Zx 0).inst,Zy (Zx 0).realm],Zf [Zy (Zx 1).name,Zy (Zx 1).inst,Zy (Zx 1).realm]]:Nat):Int))=true:=rfl
    have k1:decide ((0:Int)≤((2:Nat):Int))=true:=rfl
    have k2:decide (((2:Nat):Int)≤1000)=true:=rfl
    have k3:Zj .i64 (3+((2:Nat):Int))=3+((2:Nat):Int):=rfl
    have k4:Zj .i64 (8+((2:Nat):Int))=8+((2:Nat):Int):=rfl
    simp only [g,k0,k1,k2,k3,k4,e0,e1,e2,e3,Xv,↓A0,A0]
    by_cases h1:Zh bd % 16=((2:Nat):Int)
    all_goals by_cases h2:Zh bd % 16=8+((2:Nat):Int)
    ·have hE:Zk (Zp ((2:Nat):Int) (Zu 2) lf xp bd)=Zf [Zy (Zu 2).name,Zy (Zu 2).inst,Zz Yu (Yb ((2:Nat):Int)),Zz Zw (3+((2:Nat):Int)),Zz Zw (1000+Zh xp*100),Zz Zw (Zh lf),Zz Zw (1+Zh bd / 16 % 3),Zz Zw 0,Zz Zw 0]:=by
      unfold Zk Zp
      dsimp only
      rw [if_pos h2,if_pos h1]
     rw [sel_pos (by simpa using h1),sel_pos (by simpa using h2),chk_of (by rfl),← hE]
     exact ⟨_,rfl,3,rfl,by decide,by decide⟩
    ·have hE:Zk (Zp ((2:Nat):Int) (Zu 2) lf xp bd)=Zf [Zy (Zu 2).name,Zy (Zu 2).inst,Zz Yu (Yb ((2:Nat):Int)),Zz Zw (3+((2:Nat):Int)),Zz Zw (0),Zz Zw (Zh lf),Zz Zw (1+Zh bd / 16 % 3),Zz Zw 0,Zz Zw 0]:=by
      unfold Zk Zp
      dsimp only
      rw [if_neg h2,if_pos h1]
     rw [sel_pos (by simpa using h1),sel_neg (by simpa using h2),chk_of (by rfl),← hE]
     exact ⟨_,rfl,3,rfl,by decide,by decide⟩
    ·have hE:Zk (Zp ((2:Nat):Int) (Zu 2) lf xp bd)=Zf [Zy (Zu 2).name,Zy (Zu 2).inst,Zz Yu (Yb ((2:Nat):Int)),Zz Zw (3+((2:Nat):Int)),Zz Zw (1000+Zh xp*100),Zz Zw (Zh lf),Zz Zw (0),Zz Zw 0,Zz Zw 0]:=by
      unfold Zk Zp
      dsimp only
      rw [if_pos h2,if_neg h1]
     rw [sel_neg (by simpa using h1),sel_pos (by simpa using h2),chk_of (by rfl),← hE]
     exact ⟨_,rfl,3,rfl,by decide,by decide⟩
    ·have hE:Zk (Zp ((2:Nat):Int) (Zu 2) lf xp bd)=Zf [Zy (Zu 2).name,Zy (Zu 2).inst,Zz Yu (Yb ((2:Nat):Int)),Zz Zw (3+((2:Nat):Int)),Zz Zw (0),Zz Zw (Zh lf),Zz Zw (0),Zz Zw 0,Zz Zw 0]:=by
      unfold Zk Zp
      dsimp only
      rw [if_neg h2,if_neg h1]
     rw [sel_neg (by simpa using h1),sel_neg (by simpa using h2),chk_of (by rfl),← hE]
     exact ⟨_,rfl,3,rfl,by decide,by decide⟩
   ·have g:Xy [Zf [Zy (Zu 0).name,Zy (Zu 0).inst,Zy (Zu 0).realm],Zf [Zy (Zu 1).name,Zy (Zu 1).inst,Zy (Zu 1).realm],Zf [Zy (Zu 2).name,Zy (Zu 2).inst,Zy (Zu 2).realm],Zf [Zy (Zx 2).name,Zy (Zx 2).inst,Zy (Zx 2).realm],Zf [Zy (Zx 0).name,Zy (Zx 0).inst,Zy (Zx 0).realm],Zf [Zy (Zx 1).name,Zy (Zx 1).inst,Zy (Zx 1).realm]] (Zg ((3:Nat):Int)) Wn=Zf [Zy (Zx 2).name,Zy (Zx 2).inst,Zy (Zx 2).realm]:=rfl
    have k0:decide (((3:Nat):Int)<((Zv [Zf [Zy (Zu 0).name,Zy (Zu 0).inst,Zy (Zu 0).realm],Zf [Zy (Zu 1).name,Zy (Zu 1).inst,Zy (Zu 1).realm],Zf [Zy (Zu 2).name,Zy (Zu 2).inst,Zy (Zu 2).realm],Zf [Zy (Zx 2).name,Zy (Zx 2).inst,Zy (Zx 2).realm],Zf [Zy (Zx 0).name,Zy (Zx 0).inst,Zy (Zx 0).realm],Zf [Zy (Zx 1).name,Zy (Zx 1).inst,Zy (Zx 1).realm]]:Nat):Int))=true:=rfl
    have k1:decide ((0:Int)≤((3:Nat):Int))=true:=rfl
    have k2:decide (((3:Nat):Int)≤1000)=true:=rfl
    have k3:Zj .i64 (3+((3:Nat):Int))=3+((3:Nat):Int):=rfl
    have k4:Zj .i64 (8+((3:Nat):Int))=8+((3:Nat):Int):=rfl
    simp only [g,k0,k1,k2,k3,k4,e0,e1,e2,e3,Xv,↓A0,A0]
    by_cases h1:Zh bd % 16=((3:Nat):Int)
    all_goals by_cases h2:Zh bd % 16=8+((3:Nat):Int)
    ·have hE:Zk (Zp ((3:Nat):Int) (Zx 2) lf xp bd)=Zf [Zy (Zx 2).name,Zy (Zx 2).inst,Zz Yu (Yb ((3:Nat):Int)),Zz Zw (3+((3:Nat):Int)),Zz Zw (1000+Zh xp*100),Zz Zw (Zh lf),Zz Zw (1+Zh bd / 16 % 3),Zz Zw 0,Zz Zw 0]:=by
      unfold Zk Zp
      dsimp only
      rw [if_pos h2,if_pos h1]
     rw [sel_pos (by simpa using h1),sel_pos (by simpa using h2),chk_of (by rfl),← hE]
     exact ⟨_,rfl,4,rfl,by decide,by decide⟩
    ·have hE:Zk (Zp ((3:Nat):Int) (Zx 2) lf xp bd)=Zf [Zy (Zx 2).name,Zy (Zx 2).inst,Zz Yu (Yb ((3:Nat):Int)),Zz Zw (3+((3:Nat):Int)),Zz Zw (0),Zz Zw (Zh lf),Zz Zw (1+Zh bd / 16 % 3),Zz Zw 0,Zz Zw 0]:=by
      unfold Zk Zp
      dsimp only
      rw [if_neg h2,if_pos h1]
     rw [sel_pos (by simpa using h1),sel_neg (by simpa using h2),chk_of (by rfl),← hE]
     exact ⟨_,rfl,4,rfl,by decide,by decide⟩
    ·have hE:Zk (Zp ((3:Nat):Int) (Zx 2) lf xp bd)=Zf [Zy (Zx 2).name,Zy (Zx 2).inst,Zz Yu (Yb ((3:Nat):Int)),Zz Zw (3+((3:Nat):Int)),Zz Zw (1000+Zh xp*100),Zz Zw (Zh lf),Zz Zw (0),Zz Zw 0,Zz Zw 0]:=by
      unfold Zk Zp
      dsimp only
      rw [if_pos h2,if_neg h1]
     rw [sel_neg (by simpa using h1),sel_pos (by simpa using h2),chk_of (by rfl),← hE]
     exact ⟨_,rfl,4,rfl,by decide,by decide⟩
    ·have hE:Zk (Zp ((3:Nat):Int) (Zx 2) lf xp bd)=Zf [Zy (Zx 2).name,Zy (Zx 2).inst,Zz Yu (Yb ((3:Nat):Int)),Zz Zw (3+((3:Nat):Int)),Zz Zw (0),Zz Zw (Zh lf),Zz Zw (0),Zz Zw 0,Zz Zw 0]:=by
      unfold Zk Zp
      dsimp only
      rw [if_neg h2,if_neg h1]
     rw [sel_neg (by simpa using h1),sel_neg (by simpa using h2),chk_of (by rfl),← hE]
     exact ⟨_,rfl,4,rfl,by decide,by decide⟩
   ·have g:Xy [Zf [Zy (Zu 0).name,Zy (Zu 0).inst,Zy (Zu 0).realm],Zf [Zy (Zu 1).name,Zy (Zu 1).inst,Zy (Zu 1).realm],Zf [Zy (Zu 2).name,Zy (Zu 2).inst,Zy (Zu 2).realm],Zf [Zy (Zx 2).name,Zy (Zx 2).inst,Zy (Zx 2).realm],Zf [Zy (Zx 0).name,Zy (Zx 0).inst,Zy (Zx 0).realm],Zf [Zy (Zx 1).name,Zy (Zx 1).inst,Zy (Zx 1).realm]] (Zg ((4:Nat):Int)) Wn=Zf [Zy (Zx 0).name,Zy (Zx 0).inst,Zy (Zx 0).realm]:=rfl
    have k0:decide (((4:Nat):Int)<((Zv [Zf [Zy (Zu 0).name,Zy (Zu 0).inst,Zy (Zu 0).realm],Zf [Zy (Zu 1).name,Zy (Zu 1).inst,Zy (Zu 1).realm],Zf [Zy (Zu 2).name,Zy (Zu 2).inst,Zy (Zu 2).realm],Zf [Zy (Zx 2).name,Zy (Zx 2).inst,Zy (Zx 2).realm],Zf [Zy (Zx 0).name,Zy (Zx 0).inst,Zy (Zx 0).realm],Zf [Zy (Zx 1).name,Zy (Zx 1).inst,Zy (Zx 1).realm]]:Nat):Int))=true:=rfl
    have k1:decide ((0:Int)≤((4:Nat):Int))=true:=rfl
    have k2:decide (((4:Nat):Int)≤1000)=true:=rfl
    have k3:Zj .i64 (3+((4:Nat):Int))=3+((4:Nat):Int):=rfl
    have k4:Zj .i64 (8+((4:Nat):Int))=8+((4:Nat):Int):=rfl
    simp only [g,k0,k1,k2,k3,k4,e0,e1,e2,e3,Xv,↓A0,A0]
    by_cases h1:Zh bd % 16=((4:Nat):Int)
    all_goals by_cases h2:Zh bd % 16=8+((4:Nat):Int)
    ·have hE:Zk (Zp ((4:Nat):Int) (Zx 0) lf xp bd)=Zf [Zy (Zx 0).name,Zy (Zx 0).inst,Zz Yu (Yb ((4:Nat):Int)),Zz Zw (3+((4:Nat):Int)),Zz Zw (1000+Zh xp*100),Zz Zw (Zh lf),Zz Zw (1+Zh bd / 16 % 3),Zz Zw 0,Zz Zw 0]:=by
      unfold Zk Zp
      dsimp only
      rw [if_pos h2,if_pos h1]
     rw [sel_pos (by simpa using h1),sel_pos (by simpa using h2),chk_of (by rfl),← hE]
     exact ⟨_,rfl,5,rfl,by decide,by decide⟩
    ·have hE:Zk (Zp ((4:Nat):Int) (Zx 0) lf xp bd)=Zf [Zy (Zx 0).name,Zy (Zx 0).inst,Zz Yu (Yb ((4:Nat):Int)),Zz Zw (3+((4:Nat):Int)),Zz Zw (0),Zz Zw (Zh lf),Zz Zw (1+Zh bd / 16 % 3),Zz Zw 0,Zz Zw 0]:=by
      unfold Zk Zp
      dsimp only
      rw [if_neg h2,if_pos h1]
     rw [sel_pos (by simpa using h1),sel_neg (by simpa using h2),chk_of (by rfl),← hE]
     exact ⟨_,rfl,5,rfl,by decide,by decide⟩
    ·have hE:Zk (Zp ((4:Nat):Int) (Zx 0) lf xp bd)=Zf [Zy (Zx 0).name,Zy (Zx 0).inst,Zz Yu (Yb ((4:Nat):Int)),Zz Zw (3+((4:Nat):Int)),Zz Zw (1000+Zh xp*100),Zz Zw (Zh lf),Zz Zw (0),Zz Zw 0,Zz Zw 0]:=by
      unfold Zk Zp
      dsimp only
      rw [if_pos h2,if_neg h1]
     rw [sel_neg (by simpa using h1),sel_pos (by simpa using h2),chk_of (by rfl),← hE]
     exact ⟨_,rfl,5,rfl,by decide,by decide⟩
    ·have hE:Zk (Zp ((4:Nat):Int) (Zx 0) lf xp bd)=Zf [Zy (Zx 0).name,Zy (Zx 0).inst,Zz Yu (Yb ((4:Nat):Int)),Zz Zw (3+((4:Nat):Int)),Zz Zw (0),Zz Zw (Zh lf),Zz Zw (0),Zz Zw 0,Zz Zw 0]:=by
      unfold Zk Zp
      dsimp only
      rw [if_neg h2,if_neg h1]
     rw [sel_neg (by simpa using h1),sel_neg (by simpa using h2),chk_of (by rfl),← hE]
     exact ⟨_,rfl,5,rfl,by decide,by decide⟩
   ·have g:Xy [Zf [Zy (Zu 0).name,Zy (Zu 0).inst,Zy (Zu 0).realm],Zf [Zy (Zu 1).name,Zy (Zu 1).inst,Zy (Zu 1).realm],Zf [Zy (Zu 2).name,Zy (Zu 2).inst,Zy (Zu 2).realm],Zf [Zy (Zx 2).name,Zy (Zx 2).inst,Zy (Zx 2).realm],Zf [Zy (Zx 0).name,Zy (Zx 0).inst,Zy (Zx 0).realm],Zf [Zy (Zx 1).name,Zy (Zx 1).inst,Zy (Zx 1).realm]] (Zg ((5:Nat):Int)) Wn=Zf [Zy (Zx 1).name,Zy (Zx 1).inst,Zy (Zx 1).realm]:=rfl
    have k0:decide (((5:Nat):Int)<((Zv [Zf [Zy (Zu 0).name,Zy (Zu 0).inst,Zy (Zu 0).realm],Zf [Zy (Zu 1).name,Zy (Zu 1).inst,Zy (Zu 1).realm],Zf [Zy (Zu 2).name,Zy (Zu 2).inst,Zy (Zu 2).realm],Zf [Zy (Zx 2).name,Zy (Zx 2).inst,Zy (Zx 2).realm],Zf [Zy (Zx 0).name,Zy (Zx 0).inst,Zy (Zx 0).realm],Zf [Zy (Zx 1).name,Zy (Zx 1).inst,Zy (Zx 1).realm]]:Nat):Int))=true:=rfl
    have k1:decide ((0:Int)≤((5:Nat):Int))=true:=rfl
    have k2:decide (((5:Nat):Int)≤1000)=true:=rfl
    have k3:Zj .i64 (3+((5:Nat):Int))=3+((5:Nat):Int):=rfl
    have k4:Zj .i64 (8+((5:Nat):Int))=8+((5:Nat):Int):=rfl
    simp only [g,k0,k1,k2,k3,k4,e0,e1,e2,e3,Xv,↓A0,A0]
    by_cases h1:Zh bd % 16=((5:Nat):Int)
    all_goals by_cases h2:Zh bd % 16=8+((5:Nat):Int)
    ·have hE:Zk (Zp ((5:Nat):Int) (Zx 1) lf xp bd)=Zf [Zy (Zx 1).name,Zy (Zx 1).inst,Zz Yu (Yb ((5:Nat):Int)),Zz Zw (3+((5:Nat):Int)),Zz Zw (1000+Zh xp*100),Zz Zw (Zh lf),Zz Zw (1+Zh bd / 16 % 3),Zz Zw 0,Zz Zw 0]:=by
      unfold Zk Zp
      dsimp only
      rw [if_pos h2,if_pos h1]
     rw [sel_pos (by simpa using h1),sel_pos (by simpa using h2),chk_of (by rfl),← hE]
     exact ⟨_,rfl,6,rfl,by decide,by decide⟩
    ·have hE:Zk (Zp ((5:Nat):Int) (Zx 1) lf xp bd)=Zf [Zy (Zx 1).name,Zy (Zx 1).inst,Zz Yu (Yb ((5:Nat):Int)),Zz Zw (3+((5:Nat):Int)),Zz Zw (0),Zz Zw (Zh lf),Zz Zw (1+Zh bd / 16 % 3),Zz Zw 0,Zz Zw 0]:=by
      unfold Zk Zp
      dsimp only
      rw [if_neg h2,if_pos h1]
     rw [sel_pos (by simpa using h1),sel_neg (by simpa using h2),chk_of (by rfl),← hE]
     exact ⟨_,rfl,6,rfl,by decide,by decide⟩
    ·have hE:Zk (Zp ((5:Nat):Int) (Zx 1) lf xp bd)=Zf [Zy (Zx 1).name,Zy (Zx 1).inst,Zz Yu (Yb ((5:Nat):Int)),Zz Zw (3+((5:Nat):Int)),Zz Zw (1000+Zh xp*100),Zz Zw (Zh lf),Zz Zw (0),Zz Zw 0,Zz Zw 0]:=by
      unfold Zk Zp
      dsimp only
      rw [if_pos h2,if_neg h1]
     rw [sel_neg (by simpa using h1),sel_pos (by simpa using h2),chk_of (by rfl),← hE]
     exact ⟨_,rfl,6,rfl,by decide,by decide⟩
    ·have hE:Zk (Zp ((5:Nat):Int) (Zx 1) lf xp bd)=Zf [Zy (Zx 1).name,Zy (Zx 1).inst,Zz Yu (Yb ((5:Nat):Int)),Zz Zw (3+((5:Nat):Int)),Zz Zw (0),Zz Zw (Zh lf),Zz Zw (0),Zz Zw 0,Zz Zw 0]:=by
      unfold Zk Zp
      dsimp only
      rw [if_neg h2,if_neg h1]
     rw [sel_neg (by simpa using h1),sel_neg (by simpa using h2),chk_of (by rfl),← hE]
     exact ⟨_,rfl,6,rfl,by decide,by decide⟩
   ·exact ⟨_,rfl,rfl⟩
  ·rintro _ rfl
   rfl
 ·cases h
theorem w29:Walked Tryz.prog G 29 4 sp29:=by
 refine ⟨Tryz.f29,Tryz.func29,by decide +kernel,rfl,fun xs bl r h=> ?_⟩
 unfold sp29 at h
 split at h
 ·rename_i rl els
  obtain ⟨hpre,h2⟩:=chk_inv h;cases h2
  refine Eq.trans (b:=(Zq (chk (l63 rl) (some (Yz (Vk rl),[]))) (kL fun b=>sel (!b) (some (Zz .i64 103,[])) (sel (decide ((↑(Zv els):Int)>60)) (some (Zz .i64 106,[])) (Zq (loopM (fun (st:List AV)=>cStr st fun b r=>cSl 9 r fun b_1 r=>cInt .i64 r fun n r=>cInt .i64 r fun n_1 r=>let t0:Option (List AV ⊕ Ex×List AV):=some (Sum.inl [Zy b,Wq 9 b_1,Zz .i64 n,Zz .i64 (Zj .i64 (n_1+1))]);onNil r (sel (decide (n_1<(↑(Zv b_1):Int))) (chk (decide (0≤n_1)&&decide (n_1<(↑(Zv b_1):Int))&&true) (AV.onAgg (Xy b_1 (Zg n_1) Wn) fun cs=>cStr cs fun b_2 r=>cStr r fun b_3 r=>cInt .u64 r fun n r=>cInt .i64 r fun n_2 r=>cInt .i64 r fun n_3 r=>cInt .i64 r fun n_4 r=>cInt .i64 r fun n_5 r=>cInt .i64 r fun n_6 r=>cInt .i64 r fun n_7 r=>onNil r (Zq (chk (l63 b_2&&l63 b_3&&Kerb.isU64 n) (some (Zz .i64 (Kerb.Entry.err (Kerb.Entry.mk b_2 b_3 n n_2 n_3 n_4 n_5 n_6 n_7)),[]))) (kI .i64 fun n=>sel (!n==0) (some (Sum.inr (Ex.ret,[Zy b,Wq 9 b_1,Zz .i64 n,Zz .i64 n_1]))) (sel (decide (n_1>0)) (chk (decide (0≤n_1)&&decide (n_1<(↑(Zv b_1):Int))&&true) (AV.onAgg (Xy b_1 (Zg n_1) Wn) fun cs=>cStr cs fun b_4 r=>cStr r fun b_5 r=>cInt .u64 r fun n r=>cInt .i64 r fun n_8 r=>cInt .i64 r fun n_9 r=>cInt .i64 r fun n_10 r=>cInt .i64 r fun n_11 r=>cInt .i64 r fun n_12 r=>cInt .i64 r fun n_13 r=>onNil r (chk (decide (0≤Zj .i64 (n_1-1))&&decide (Zj .i64 (n_1-1)<(↑(Zv b_1):Int))&&true) (AV.onAgg (Xy b_1 (Zg (Zj .i64 (n_1-1))) Wn) fun cs=>cStr cs fun b_6 r=>cStr r fun b_7 r=>cInt .u64 r fun n_14 r=>cInt .i64 r fun n_15 r=>cInt .i64 r fun n_16 r=>cInt .i64 r fun n_17 r=>cInt .i64 r fun n_18 r=>cInt .i64 r fun n_19 r=>cInt .i64 r fun n_20 r=>onNil r (sel (Kerb.Entry.less (Kerb.Entry.mk b_4 b_5 n n_8 n_9 n_10 n_11 n_12 n_13) (Kerb.Entry.mk b_6 b_7 n_14 n_15 n_16 n_17 n_18 n_19 n_20)) (some (Sum.inr (Ex.ret,[Zy b,Wq 9 b_1,Zz .i64 110,Zz .i64 n_1]))) t0))))) t0))))) (some (Sum.inr (Vw 0,[Zy b,Wq 9 b_1,Zz .i64 n,Zz .i64 n_1]))))) [Zy rl,Wq 9 els,Zz .i64 0,Zz .i64 0]) fun (r:Ex×List AV)=>cStr (Yv r) fun b r_1=>cSl 9 r_1 fun b r_2=>cInt .i64 r_2 fun n r_3=>cInt .i64 r_3 fun n_1 r_4=>onNil r_4 (exK r.1 (some (Zz .i64 n,[])) fun (j:Nat)=>sel (Nat.beq j 0) (some (Zz .i64 0,[])) none)))):Option (AV×Blocks))) (by kernel_rfl) ?_
  delta kL kI
  try dsimp only [cStr,cBs,cBool,cU8,cInt,cSl,l63]
  simp only [Yh,decide_eq_true_eq] at hpre
  obtain ⟨⟨hr,hall⟩,hlen⟩:=hpre
  obtain ⟨es,rfl,hok⟩:=Kerb.ents_of hall
  rw [Kerb.map_toEntry]
  simp only [Vj] at hlen
  unfold Kerb.Db.err
  simp only [hr,decide_true,↓A0,A0,Vj]
  cases hv:Vk rl
  ·rfl
  simp only [Zb,Xu,sel_true,sel_false]
  rw [if_neg (by simp)]
  by_cases h60:60<es.length
  ·rw [sel_pos (by simp;omega),if_pos h60]
  rw [sel_neg (by simp;omega),if_neg h60]
  have hex:∃ z,Kerb.entriesErr none es=z:=⟨_,rfl⟩
  obtain ⟨z,hz⟩:=hex
  rw [hz]
  refine loop_rounds (fun i:Nat=>[Zy rl,Wq 9 (es.map Zk),Zz Zw 0,Zz Zw (i:Int)]) (fun i=>i≤es.length∧Kerb.entriesErr (Kerb.prevOf es i) (es.drop i)=z) (fun i=>es.length-i)
   (fun r=>∃ (e:Int) (i:Nat),r.2=[Zy rl,Wq 9 (es.map Zk),Zz Zw e,Zz Zw (i:Int)]∧((r.1 = .ret∧e=z)∨(r.1 = .exit 0∧z=0))) 0 ⟨Nat.zero_le _,hz⟩ rfl ?_ ?_
  ·rintro i ⟨hi,hinv⟩
   simp only [↓A0,A0,Vj]
   rcases Nat.lt_or_ge i es.length with h | h
   ·rw [Kerb.errs_step h] at hinv
    have hx:=hok _ (Kerb.ent_mem h)
    rw [sel_pos (by simp;omega),chk_of (by simp;omega),Vx,Kerb.getD_ent h]
    obtain ⟨n,hn⟩:∃ e,es.getD i Kerb.noEntry=e:=⟨_,rfl⟩
    rw [hn] at hinv hx ⊢
    obtain ⟨x1,x2,x3,_⟩:=hx
    simp only [Zk,↓A0,A0,x1,x2,x3,decide_true,Xv]
    by_cases he:n.err=0
    ·rw [sel_neg (by simpa using he)]
     rw [if_neg (by simpa using he)] at hinv
     by_cases h0:0<i
     ·have hp:Kerb.prevOf es i=some (es.getD (i-1) Kerb.noEntry):=by rw [Kerb.prevOf,if_neg (by omega)]
      rw [hp] at hinv
      have hw:Zj .i64 ((i:Int)-1)=((i-1:Nat):Int):=by rw [wrap_i64 (by omega) (by omega)];omega
      rw [sel_pos (by simpa using h0),hw]
      rw [chk_of (by simp;omega)]
      try simp only [↓A0,A0]
      rw [chk_of (by simp;omega),Vx,Kerb.getD_ent (by omega)]
      obtain ⟨m,hm⟩:∃ e,es.getD (i-1) Kerb.noEntry=e:=⟨_,rfl⟩
      rw [hm] at hinv ⊢
      simp only [Zk,↓A0,A0]
      by_cases hl:n.less m=true
      ·rw [sel_pos (by simpa using hl)]
       rw [if_pos hl] at hinv
       exact ⟨_,rfl,110,i,rfl,.inl ⟨rfl,hinv⟩⟩
      ·rw [sel_neg (by simpa using hl),wrap_i64 (by omega) (by omega)]
       rw [if_neg hl] at hinv
       exact ⟨_,rfl,i+1,rfl,⟨by omega,hinv⟩,by dsimp only;omega⟩
     ·have hp:Kerb.prevOf es i=none:=by rw [Kerb.prevOf,if_pos (by omega)]
      rw [hp] at hinv
      rw [sel_neg (by simpa using h0),wrap_i64 (by omega) (by omega)]
      rw [if_neg (by simp)] at hinv
      exact ⟨_,rfl,i+1,rfl,⟨by omega,hinv⟩,by dsimp only;omega⟩
    ·rw [sel_pos (by simpa using he)]
     rw [if_pos (by simpa using he)] at hinv
     exact ⟨_,rfl,n.err,i,rfl,.inl ⟨rfl,hinv⟩⟩
   ·rw [sel_neg (by simp;omega)]
    rw [List.drop_eq_nil_of_le h] at hinv
    exact ⟨_,rfl,0,i,rfl,.inr ⟨rfl,by rw [← hinv];rfl⟩⟩
  ·rintro ⟨e,l⟩ ⟨e2,i,rfl,⟨rfl,rfl⟩ | ⟨rfl,h⟩⟩
   ·rfl
   ·rw [h];rfl
 ·cases h
theorem w36:Walked Tryz.prog G 36 4 sp36:=by
 refine ⟨Tryz.f36,Tryz.func36,by decide +kernel,rfl,fun xs bl r h=> ?_⟩
 unfold sp36 at h
 split at h
 ·rename_i x y z
  obtain ⟨hpre,h2⟩:=chk_inv h;cases h2
  refine Eq.trans (b:=(Zq (chk (decide (Zv x≤9223372036854775807)&&decide (Zv y≤9223372036854775807)&&decide (Zv z≤9223372036854775807)) (some (Yz (Xg (Xn x y z)),[]))) fun (r:AV×Blocks)=>onNilB (Yv r) (AV.onBool (Yq r) fun b=>sel (!b) (some (Yy [Zf [Zy [],Zy [],Zy [],Wq 8 []],Zz .i64 103],[])) (some (Yy [Zf [Zy x,Zy y,Zy z,Wq 8 []],Zz .i64 0],[]))):Option (AV×Blocks))) (by kernel_rfl) ?_
  simp only [A0,Xp,Xh,Xm,hpre]
  cases Xg ⟨x,y,z⟩<;>rfl
 ·cases h
theorem w46:Walked Tryz.prog G 46 4 sp46:=by
 refine ⟨Tryz.f46,Tryz.func46,by decide +kernel,rfl,fun xs bl r h=> ?_⟩
 unfold sp46 at h
 split at h
 ·rename_i op e
  cases h
  refine Eq.trans (b:=(some (Zm (Kerb.Enc.val (Kerb.encodeKaReply (Kerb.KaReply.mk op e []))),[]):Option (AV×Blocks))) (by kernel_rfl) ?_
  rfl
 ·cases h
theorem w47:Walked Tryz.prog G 47 4 sp47:=by
 refine ⟨Tryz.f47,Tryz.func47,by decide +kernel,rfl,fun xs bl r h=> ?_⟩
 unfold sp47 at h
 split at h
 ·rename_i rl els n i now
  obtain ⟨hpre,h2⟩:=chk_inv h;cases h2
  refine Eq.trans (b:=(Zq (chk (List.all els Kerb.isEntry&&decide (Zv els≤1000000)) (some (Yy [Zz .i64 (Yq (Kerb.useEnt (Kerb.Db.mk rl (Vg Vp els)) n i now 1 1 5)),Zz .i64 (Yv (Kerb.useEnt (Kerb.Db.mk rl (Vg Vp els)) n i now 1 1 5))],[]))) fun (r:AV×Blocks)=>onNilB (Yv r) (Wj (Yq r) fun vs=>onCons vs fun x r=>Yw .i64 x fun n=>onCons r fun x r=>Yw .i64 x fun n_1=>onNil r (some (Yy [Zz .i64 n,Zz .i64 n_1],[]))):Option (AV×Blocks))) (by kernel_rfl) ?_
  simp only [hpre,↓A0,A0]
  rfl
 ·cases h
theorem w57:Walked Tryz.prog G 57 4 sp57:=by
 refine ⟨Tryz.f57,Tryz.func57,by decide +kernel,rfl,fun xs bl r h=> ?_⟩
 unfold sp57 at h
 split at h
 ·rename_i o1 o2 o3 els x y z now
  obtain ⟨hpre,h2⟩:=chk_inv h;cases h2
  refine Eq.trans (b:=(let t0:Kerb.Cred:=Yq (Vd (Vg Vb els) (Xn x y z));let t1:AV:=Zf [Zy [],Zy [],Zy [],Zz .u64 0,Zz .i64 0,Zz .i64 0,Zz .i64 0,Zm []];Zq (chk (List.all els Kerb.isCred&&decide (Zv els≤1000000)&&List.all els Kerb.fitCred) (some (Yy [Zf [Zy (Wx (Kerb.Cred.service t0)),Zy (Ww (Kerb.Cred.service t0)),Zy (Xb (Kerb.Cred.service t0)),Zz .u64 (Kerb.Cred.session t0),Zz .i64 (Kerb.Cred.life t0),Zz .i64 (Kerb.Cred.kvno t0),Zz .i64 (Kerb.Cred.issued t0),Zm (Kerb.Cred.ticket t0)],Yz (Yv (Vd (Vg Vb els) (Xn x y z)))],[]))) (kT fun vs=>onCons vs fun x r=>AV.onAgg x fun cs=>cStr cs fun b r_1=>cStr r_1 fun b_1 r_2=>cStr r_2 fun b_2 r_3=>cInt .u64 r_3 fun n r_4=>cInt .i64 r_4 fun n_1 r_5=>cInt .i64 r_5 fun n_2 r_6=>cInt .i64 r_6 fun n_3 r_7=>cBs r_7 fun b_3 r_8=>onNil r_8 (cBool r fun b_4 r=>onNil r (sel (!b_4) (some (Yy [t1,Zz .i64 76],[])) (sel (Kerb.Cred.expired (Kerb.Cred.mk (Xn b b_1 b_2) n n_1 n_2 n_3 b_3) now) (some (Yy [t1,Zz .i64 26],[])) (some (Yy [Zf [Zy b,Zy b_1,Zy b_2,Zz .u64 n,Zz .i64 n_1,Zz .i64 n_2,Zz .i64 n_3,Zm b_3],Zz .i64 0],[])))))):Option (AV×Blocks))) (by kernel_rfl) ?_
  delta kT
  try dsimp only [cStr,cBs,cBool,cU8,cInt,cSl,l63]
  simp only [A0,Xp,Xh,Xm,hpre]
  unfold Kerb.liveCred
  cases h:(Vd (els.map Vb) ⟨x,y,z⟩).2
  ·rfl
  rw [Zb,sel_false,if_neg (by simp)]
  show sel ((Vd (els.map Vb) ⟨x,y,z⟩).1.expired now) _ _=_
  cases (Vd (els.map Vb) ⟨x,y,z⟩).1.expired now<;>rfl
 ·cases h
theorem w64:Walked Tryz.prog G 64 4 sp64:=by
 refine ⟨Tryz.f64,Tryz.func64,by decide +kernel,rfl,fun xs bl r h=> ?_⟩
 unfold sp64 at h
 split at h
 ·rename_i op ux uy uz kv rl tk sv ins bx
  obtain ⟨hpre,h2⟩:=chk_inv h;cases h2
  refine Eq.trans (b:=(Zq (sel (!(op==1||op==3)) (some [Zz .i64 op,Zy ux,Zy uy,Zy uz,Zz .i64 kv,Zy rl,Zm tk,Zy sv,Zy ins,Zm bx,Yz !op==2,Zz .i64 0]) (some [Zz .i64 op,Zy ux,Zy uy,Zy uz,Zz .i64 kv,Zy rl,Zm tk,Zy sv,Zy ins,Zm bx,Yz false,Zz .i64 0])) fun l=>cInt .i64 l fun n r=>cStr r fun b r=>cStr r fun b_1 r=>cStr r fun b_2 r=>cInt .i64 r fun n_1 r=>cStr r fun b_3 r=>cBs r fun b_4 r=>cStr r fun b_5 r=>cStr r fun b_6 r=>cBs r fun b_7 r=>cBool r fun b_8 r=>cInt .i64 r fun n_2 r=>let t1:Option (List AV):=some [Zz .i64 n,Zy b,Zy b_1,Zy b_2,Zz .i64 n_1,Zy b_3,Zm b_4,Zy b_5,Zy b_6,Zm b_7,Yz true,Zz .i64 n_2];let t0:Option (List AV):=sel (!(n==1||n==3)) (Zq (chk (l63 b_3) (some (Yz (Vk b_3),[]))) (kL fun b_9=>sel (!b_9) t1 (Zq (chk (l63 b_5) (some (Yz (Vz b_5),[]))) (kL fun b_10=>sel (!b_10) t1 (Zq (chk (l63 b_6) (some (Yz (Vy b_6),[]))) (kL fun b_11=>some [Zz .i64 n,Zy b,Zy b_1,Zy b_2,Zz .i64 n_1,Zy b_3,Zm b_4,Zy b_5,Zy b_6,Zm b_7,Yz !b_11,Zz .i64 n_2])))))) (some [Zz .i64 n,Zy b,Zy b_1,Zy b_2,Zz .i64 n_1,Zy b_3,Zm b_4,Zy b_5,Zy b_6,Zm b_7,Yz false,Zz .i64 n_2]);onNil r (sel b_8 (some (Yy [Zm [],Zz .i64 40],[])) (Zq (sel (n==1||n==3) (Zq (chk (l63 b&&l63 b_1&&l63 b_2) (some (Yz (Xg (Xn b b_1 b_2)),[]))) (kL fun b=>sel (!b) t1 t0)) t0) fun l=>cInt .i64 l fun n r=>cStr r fun b r=>cStr r fun b_9 r=>cStr r fun b_10 r=>cInt .i64 r fun n_3 r=>cStr r fun b_11 r=>cBs r fun b_12 r=>cStr r fun b_13 r=>cStr r fun b_14 r=>cBs r fun b_15 r=>cBool r fun b_16 r=>cInt .i64 r fun n_4 r=>onNil r (sel b_16 (some (Yy [Zm [],Zz .i64 103],[])) (Zq (sel (!(n==1||n==3)) (some [Zz .i64 n,Zy b,Zy b_9,Zy b_10,Zz .i64 n_3,Zy b_11,Zm b_12,Zy b_13,Zy b_14,Zm b_15,Yz !Zd n_3 255,Zz .i64 n_4]) (some [Zz .i64 n,Zy b,Zy b_9,Zy b_10,Zz .i64 n_3,Zy b_11,Zm b_12,Zy b_13,Zy b_14,Zm b_15,Yz false,Zz .i64 n_4])) fun l=>cInt .i64 l fun n r=>cStr r fun b r=>cStr r fun b_17 r=>cStr r fun b_18 r=>cInt .i64 r fun n_5 r=>cStr r fun b_19 r=>cBs r fun b_20 r=>cStr r fun b_21 r=>cStr r fun b_22 r=>cBs r fun b_23 r=>cBool r fun b_24 r=>cInt .i64 r fun n_6 r=>let t2:Option (List AV):=some [Zz .i64 n,Zy b,Zy b_17,Zy b_18,Zz .i64 n_5,Zy b_19,Zm b_20,Zy b_21,Zy b_22,Zm b_23,Yz (decide ((↑(Zv b_23):Int)>1012)),Zz .i64 n_6];onNil r (sel b_24 (some (Yy [Zm [],Zz .i64 104],[])) (Zq (sel (!(n==1||n==3)) (sel (decide ((↑(Zv b_20):Int)>255)) (some [Zz .i64 n,Zy b,Zy b_17,Zy b_18,Zz .i64 n_5,Zy b_19,Zm b_20,Zy b_21,Zy b_22,Zm b_23,Yz true,Zz .i64 n_6]) t2) t2) fun l=>cInt .i64 l fun n r=>cStr r fun b r=>cStr r fun b_25 r=>cStr r fun b_26 r=>cInt .i64 r fun n_7 r=>cStr r fun b_27 r=>cBs r fun b_28 r=>cStr r fun b_29 r=>cStr r fun b_30 r=>cBs r fun b_31 r=>cBool r fun b_32 r=>cInt .i64 r fun n_8 r=>let t3:Option (List AV):=some [Zz .i64 n,Zy b,Zy b_25,Zy b_26,Zz .i64 n_7,Zy b_27,Zm b_28,Zy b_29,Zy b_30,Zm b_31,Yz true,Zz .i64 n_8];let t4:Option (List AV):=sel (!(n==1||n==3)) (some [Zz .i64 n,Zy b,Zy b_25,Zy b_26,Zz .i64 n_7,Zy b_27,Zm b_28,Zy b_29,Zy b_30,Zm b_31,Yz !(b==[]&&(b_25==[]&&b_26==[])),Zz .i64 n_8]) (some [Zz .i64 n,Zy b,Zy b_25,Zy b_26,Zz .i64 n_7,Zy b_27,Zm b_28,Zy b_29,Zy b_30,Zm b_31,Yz false,Zz .i64 n_8]);onNil r (sel b_32 (some (Yy [Zm [],Zz .i64 105],[])) (Zq (sel (n==1||n==3) (sel (!n_7==0) t3 (sel (!b_27==[]) t3 (sel (decide ((↑(Zv b_28):Int)>0)) t3 (sel (!b_29==[]) t3 (sel (!b_30==[]) t3 t4))))) t4) fun l=>cInt .i64 l fun n r=>let t6:List UInt8:=Kerb.header 9 false++Yp n 1 false;let t5:Nat:=Zv t6;cStr r fun b r=>cStr r fun b_33 r=>cStr r fun b_34 r=>cInt .i64 r fun n_9 r=>cStr r fun b_35 r=>cBs r fun b_36 r=>cStr r fun b_37 r=>cStr r fun b_38 r=>cBs r fun b_39 r=>cBool r fun b_40 r=>cInt .i64 r fun n_10 r=>onNil r (sel b_40 (some (Yy [Zm [],Zz .i64 108],[])) (sel (n==1||n==3) (Zq (chk (decide (t5+Zv b+Zv b_33+Zv b_34≤70368744170000)) (some (Zm (Kerb.putPrin t6 (Xn b b_33 b_34)),[]))) (kB fun b=>Zq (chk (decide (Zv b≤70368744177664)) (some (Yj (b++Yp (↑(Zv b_39):Int) 2 false),[]))) (kO fun l=>chk (room (Zv l+Zv b_39) 1) (some (Yy [Zm (l++b_39),Zz .i64 0],[]))))) (Zq (chk (decide (t5≤70368744177664)) (some (Yj (t6++Yp n_9 1 false),[]))) (kO fun l=>Zq (chk (decide (Zv l+Zv b_35≤70368744177664)) (some (Zm (Kerb.putText l b_35),[]))) (kB fun b=>Zq (chk (decide (Zv b≤70368744177664)) (some (Yj (b++Yp (↑(Zv b_36):Int) 1 false),[]))) (kO fun l=>chk (room (Zv l+Zv b_36) 1) (Zq (chk (decide (Zv (l++b_36)+Zv b_37≤70368744177664)) (some (Zm (Kerb.putText (l++b_36) b_37),[]))) (kB fun b=>Zq (chk (decide (Zv b+Zv b_38≤70368744177664)) (some (Zm (Kerb.putText b b_38),[]))) (kB fun b=>Zq (chk (decide (Zv b≤70368744177664)) (some (Yj (b++Yp (↑(Zv b_39):Int) 2 false),[]))) (kO fun l=>chk (room (Zv l+Zv b_39) 1) (some (Yy [Zm (l++b_39),Zz .i64 0],[])))))))))))))))))))):Option (AV×Blocks))) (by kernel_rfl) ?_
  delta kB kO kL
  try dsimp only [cStr,cBs,cBool,cU8,cInt,cSl,l63]
  simp only [Yh,decide_eq_true_eq] at hpre
  have hl9:(Kerb.header 9 false).length=2:=rfl
  unfold Kerb.encodeKaRequest
  by_cases h13:op=1∨op=3
  ·have e1:(op==1||op==3)=true:=by simpa using h13
   have e2:(op==2)=false:=by simp;omega
   have e3:Vv op=true:=by simp [Vv];omega
   simp only [A0,e1,e2,e3,Zb,sel_true,sel_false,Bool.false_eq_true,if_false]
   rw [chk_of (by simp;omega)]
   cases h2:Xg ⟨ux,uy,uz⟩
   ·rfl
   rw [Zb,sel_false,if_neg (by simp)]
   by_cases h3:1012<bx.length
   ·rw [sel_pos (by simp;omega),if_pos h3]
   rw [sel_neg (by simp;omega),if_neg h3]
   by_cases h4:kv=0
   case neg=>rw [sel_pos (by simpa using h4),if_pos (.inl h4)]
   rw [sel_neg (by simp [h4])]
   by_cases h5:rl=[]
   case neg=>rw [sel_pos (by simpa using h5),if_pos (.inr (.inl h5))]
   rw [sel_neg (by simp [h5])]
   by_cases h6:tk=[]
   case neg=>rw [sel_pos (by have:=List.length_pos_iff.2 h6;simp;omega),if_pos (.inr (.inr (.inl h6)))]
   rw [sel_neg (by simp [h6])]
   by_cases h7:sv=[]
   case neg=>rw [sel_pos (by simpa using h7),if_pos (.inr (.inr (.inr (.inl h7))))]
   rw [sel_neg (by simp [h7])]
   by_cases h8:ins=[]
   case neg=>rw [sel_pos (by simpa using h8),if_pos (.inr (.inr (.inr (.inr h8))))]
   rw [sel_neg (by simp [h8]),if_neg (by simp [h4,h5,h6,h7,h8])]
   have l1:=Kerb.valid_len h2
   simp only at l1
   rw [chk_of (by simp [Zn,hl9];omega),chk_of (by simp [Zn,hl9,Xf];omega),chk_of (Yf (by simp [Zn,hl9,Xf];omega))]
   simp [Kerb.putBox,Kerb.kaHead]
  ·have e1:(op==1||op==3)=false:=by simpa using h13
   simp only [A0,e1,Xu,sel_true,sel_false]
   by_cases h2:op=2
   case neg =>
    have e3:Vv op=false:=by simp [Vv];omega
    rw [sel_pos (by simpa using h2),e3]
    rfl
   subst h2
   rw [sel_neg (by simp)]
   simp only [show Vv 2=true from rfl,Zb,Bool.false_eq_true,if_false,beq_self_eq_true,if_true]
   rw [chk_of (by simp;omega)]
   cases h2:Vk rl
   ·rfl
   rw [Zb,sel_false,chk_of (by simp;omega)]
   cases h3:Vz sv
   ·rfl
   rw [Zb,sel_false,chk_of (by simp;omega)]
   cases h4:Vy ins
   ·rfl
   rw [Zb,sel_false,if_neg (by simp)]
   cases h5:Zd kv 255
   ·rfl
   rw [Zb,sel_false,if_neg (by simp)]
   by_cases h6:255<tk.length
   ·rw [sel_pos (by simp;omega),if_pos (.inl h6)]
   rw [sel_neg (by simp;omega)]
   by_cases h7:1012<bx.length
   ·rw [sel_pos (by simp;omega),if_pos (.inr h7)]
   rw [sel_neg (by simp;omega),if_neg (by omega)]
   show sel (!(Kerb.Prin.isNo ⟨ux,uy,uz⟩)) _ _=_
   cases Kerb.Prin.isNo ⟨ux,uy,uz⟩
   ·rfl
   rw [Zb,sel_false,if_neg (by simp)]
   have l1:=Kerb.validRealm_len h2
   have l2:=Kerb.validName_len h3
   have l3:=Kerb.validInst_len h4
   rw [chk_of (by simp [Zn,hl9]),chk_of (by simp [Zn,hl9];omega),chk_of (by simp [Zn,hl9,Wb];omega),chk_of (Yf (by simp [Zn,hl9,Wb];omega)),chk_of (by simp [Zn,hl9,Wb];omega),chk_of (by simp [Zn,hl9,Wb];omega),chk_of (by simp [Zn,hl9,Wb];omega),chk_of (Yf (by simp [Zn,hl9,Wb];omega))]
   simp [Kerb.putBox,Kerb.kaHead,Kerb.putTick]
 ·cases h
theorem w70:Walked Tryz.prog G 70 4 sp70:=by
 refine ⟨Tryz.f70,Tryz.func70,by decide +kernel,rfl,fun xs bl r h=> ?_⟩
 unfold sp70 at h
 split at h
 ·rename_i B at_ li bad
  obtain ⟨hpre,h2⟩:=chk_inv h;cases h2
  show runFnH (G.env 70 4) G.rts (G.own 70) Tryz.f70 _ _ [0]=_
  refine Eq.trans (b:=(Zq (chk (decide (Zv B≤140737488355328)) (some (Yy [Zz .i64 (Xj (Yd B at_ 1 false)),Zz .i64 (Xw (Yd B at_ 1 false)),Zz .i64 (Xk (Yd B at_ 1 false))],[]))) fun (r:AV×Blocks)=>onNilB (Yv r) (Wj (Yq r) fun vs=>onCons vs fun x r=>Yw .i64 x fun n=>onCons r fun x r=>Yw .i64 x fun n_1=>onCons r fun x r=>Yw .i64 x fun n_2=>onNil r (some (Zz .i64 n,[[Zm B,Zz .i64 (bif bad || !n_2==0 then at_ else n_1),Yz li,Yz (bad || !n_2==0)]]))):Option (AV×Blocks))) (by kernel_rfl) ?_
  simp only [A0]
  rw [chk_of hpre]
 ·cases h
theorem w75:Walked Tryz.prog G 75 4 sp75:=by
 refine ⟨Tryz.f75,Tryz.func75,by decide +kernel,rfl,fun xs bl r h=> ?_⟩
 unfold sp75 at h
 split at h
 ·rename_i B at_ li bad
  obtain ⟨hpre,h2⟩:=chk_inv h;cases h2
  show runFnH (G.env 75 4) G.rts (G.own 75) Tryz.f75 _ _ [0]=_
  refine Eq.trans (b:=(Zq (chk (decide (Zv B≤140737488355328)) (some (Yy [Zz .i64 (Xj (Yd B at_ 2 li)),Zz .i64 (Xw (Yd B at_ 2 li)),Zz .i64 (Xk (Yd B at_ 2 li))],[]))) fun (r:AV×Blocks)=>onNilB (Yv r) (Wj (Yq r) fun vs=>onCons vs fun x r=>Yw .i64 x fun n=>onCons r fun x r=>Yw .i64 x fun n_1=>onCons r fun x r=>Yw .i64 x fun n_2=>onNil r (some (Zz .i64 n,[[Zm B,Zz .i64 (bif bad || !n_2==0 then at_ else n_1),Yz li,Yz (bad || !n_2==0)]]))):Option (AV×Blocks))) (by kernel_rfl) ?_
  simp only [A0]
  rw [chk_of hpre]
 ·cases h
theorem w80:Walked Tryz.prog G 80 4 sp80:=by
 refine ⟨Tryz.f80,Tryz.func80,by decide +kernel,rfl,fun xs bl r h=> ?_⟩
 unfold sp80 at h
 split at h
 ·rename_i b
  obtain ⟨hpre,h2⟩:=chk_inv h;cases h2
  refine Eq.trans (b:=(let t1:Option (AV×Blocks):=some (Yy [Zf [Zz .i64 0,Zz .u64 0,Zm []],Zz .i64 0,Zz .i64 100],[]);let t2:Int:=Zj .i64 (↑(BitVec.toNat (BitVec.ofInt (Xz .i64) (Zj .i64 (Zj .i64 (↑(Wu (Xy b (Zg 10) (0:UInt8))):Int)*2 ^ min (Zg 8) (Xz .i64))) ||| BitVec.ofInt (Xz .i64) (Zj .i64 (↑(Wu (Xy b (Zg 11) (0:UInt8))):Int)))):Int);let t3:Int:=Zj .i64 (↑(Wu (Xy b (Zg 1) (0:UInt8))):Int);let t4:Option (AV×Blocks):=some (Yy [Zf [Zz .i64 0,Zz .u64 0,Zm []],Zz .i64 0,Zz .i64 101],[]);let t0:Int:=Zj .i64 (12+t2);sel (decide ((↑(Zv b):Int)<12)) t4 (chk (decide (10≤(↑(Zv b):Int))) (Zq (chk (decide (Zv (Wy (Zg 2) (Xd (Zg 10) b))≤4611686018427387904)) (some (Yy [Zz .u64 (Yq (Kerb.keyRead (Wy (Zg 2) (Xd (Zg 10) b)))),Yz (Yv (Kerb.keyRead (Wy (Zg 2) (Xd (Zg 10) b))))],[]))) (kT fun vs=>cInt .u64 vs fun n r=>cBool r fun b_1 r=>onNil r (chk (decide (10<(↑(Zv b):Int))) (chk (decide (11<(↑(Zv b):Int))) (chk (decide (0<(↑(Zv b):Int))) (sel (!Xy b (Zg 0) (0:UInt8)==(66:UInt8)) t1 (chk (decide (1<(↑(Zv b):Int))) (sel (decide (t3<1)) t1 (chk (decide (1<(↑(Zv b):Int))) (sel (decide (t3>10)) t1 (sel (!b_1) t1 (sel (decide (t2>1000)) t1 (sel (decide ((↑(Zv b):Int)<t0)) t4 (chk (decide (1<(↑(Zv b):Int))) (chk (decide (12≤t0)&&decide (t0≤(↑(Zv b):Int))) (chk (room (Zv (Wy (Zg 12) (Xd (Zg t0) b))) 1) (some (Yy [Zf [Zz .i64 t3,Zz .u64 n,Zm (Wy (Zg 12) (Xd (Zg t0) b))],Zz .i64 t0,Zz .i64 0],[]))))))))))))))))))):Option (AV×Blocks))) (by kernel_rfl) ?_
  delta kT
  try dsimp only [cStr,cBs,cBool,cU8,cInt,cSl,l63]
  simp only [decide_eq_true_eq] at hpre
  unfold Kerb.readBox
  by_cases h0:b.length<12
  ·rw [sel_pos (by simp;omega),if_pos h0];rfl
  rw [sel_neg (by simp;omega),if_neg h0]
  have hc:=Kerb.cut_len b 2 8
  have hs:(b.getD 10 0).toNat*256+(b.getD 11 0).toNat=Kerb.boxSize b:=rfl
  simp only [Kerb.cut_28,Kerb.size_or]
  simp only [show Zg 0=0 from rfl,show Zg 1=1 from rfl,show Zg 10=10 from rfl,show Zg 11=11 from rfl,Kerb.wrap_byte,hs]
  rw [chk_of (by simp;omega),chk_of (by simp;omega)]
  simp only [↓A0]
  rw [chk_of (by simp;omega),chk_of (by simp;omega),chk_of (by simp;omega)]
  by_cases h1:b.getD 0 0=66
  case neg=>rw [sel_pos (by simpa using h1),if_pos (.inl h1)];rfl
  rw [sel_neg (by simpa using h1),chk_of (by simp;omega)]
  cases h2:Wf ((b.getD 1 0).toNat:Int)
  ·rw [if_pos (.inr (.inl rfl))]
   by_cases h2a:((b.getD 1 0).toNat:Int)<1
   ·rw [sel_pos (by simpa using h2a)];rfl
   ·rw [sel_neg (by simpa using h2a),chk_of (by simp;omega),sel_pos (decide_eq_true (by simp only [Wf,Bool.and_eq_false_iff,decide_eq_false_iff_not] at h2;omega))];rfl
  have hk:1≤((b.getD 1 0).toNat:Int)∧((b.getD 1 0).toNat:Int)≤10:=by simp only [Wf,Yh,decide_eq_true_eq] at h2;exact h2
  rw [sel_neg (decide_eq_false (by omega)),chk_of (by simp;omega),sel_neg (decide_eq_false (by omega))]
  cases h3:(Kerb.keyRead (Kerb.cut b 2 8)).2
  ·rw [if_pos (.inr (.inr (.inl rfl)))];rfl
  rw [Zb,sel_false]
  by_cases h4:1000<Kerb.boxSize b
  ·rw [sel_pos (by simp;omega),if_pos (.inr (.inr (.inr h4)))];rfl
  rw [sel_neg (by simp;omega),if_neg (by rintro (h | h | h | h)<;>first | exact h h1 | cases h | omega),wrap_i64 (by omega) (by omega)]
  by_cases h5:b.length<12+Kerb.boxSize b
  ·rw [sel_pos (by simp;omega),if_pos h5];rfl
  have hc2:=Kerb.cut_len b 12 (Kerb.boxSize b)
  rw [sel_neg (by simp;omega),if_neg h5,Kerb.cut_12]
  repeat rw [chk_of (by first | (simp;omega) | exact Yf (by omega))]
  simp
 ·cases h
theorem w81:Walked Tryz.prog G 81 4 sp81:=by
 refine ⟨Tryz.f81,Tryz.func81,by decide +kernel,rfl,fun xs bl r h=> ?_⟩
 unfold sp81 at h
 split at h
 ·rename_i B at_ li bad
  obtain ⟨hpre,h2⟩:=chk_inv h;cases h2
  show runFnH (G.env 81 4) G.rts (G.own 81) Tryz.f81 _ _ [0]=_
  refine Eq.trans (b:=(Zq (chk (decide (Zv B≤140737488355328)) (some (Yy [Zz .i64 (Xj (Yd B at_ 4 li)),Zz .i64 (Xw (Yd B at_ 4 li)),Zz .i64 (Xk (Yd B at_ 4 li))],[]))) fun (r:AV×Blocks)=>onNilB (Yv r) (Wj (Yq r) fun vs=>onCons vs fun x r=>Yw .i64 x fun n=>onCons r fun x r=>Yw .i64 x fun n_1=>onCons r fun x r=>Yw .i64 x fun n_2=>onNil r (some (Zz .i64 n,[[Zm B,Zz .i64 (bif bad || !n_2==0 then at_ else n_1),Yz li,Yz (bad || !n_2==0)]]))):Option (AV×Blocks))) (by kernel_rfl) ?_
  simp only [A0]
  rw [chk_of hpre]
 ·cases h
theorem w83:Walked Tryz.prog G 83 4 sp83:=by
 refine ⟨Tryz.f83,Tryz.func83,by decide +kernel,rfl,fun xs bl r h=> ?_⟩
 unfold sp83 at h
 split at h
 ·rename_i lb t k st en kv x y z tk
  obtain ⟨hpre,h2⟩:=chk_inv h;cases h2
  refine Eq.trans (b:=(let t1:Option (AV×Blocks):=some (Yy [Zm [],Zz .i64 104],[]);let t2:Option (AV×Blocks):=some (Yy [Zm [],Zz .i64 108],[]);let t3:Option (AV×Blocks):=chk (l63 x&&l63 y&&l63 z) (some (Yz (Xg (Xn x y z)),[]));let t4:Option (AV×Blocks):=chk (decide (Zv lb≤70368744177664)) (some (Yj (lb++Yp t 4 false),[]));let t5:Option (AV×Blocks):=chk (decide (0≤k)&&decide (k<18446744073709551616)) (some (Yz (Yk k),[]));let t6:Option (AV×Blocks):=chk (decide (0≤k)&&decide (k<18446744073709551616)) (some (Zm (Kerb.keyBytes k),[]));let t0:Option (AV×Blocks):=sel (!Zd t 4294967295) t1 (Zq t4 (kO fun l=>sel (!lb==[(116:UInt8),(107:UInt8),(116:UInt8),(71:UInt8)]) (sel (!k==0) t2 (sel (!st==0) t2 (sel (!en==0) t2 (sel (!kv==0) t2 (sel (!(x==[]&&(y==[]&&z==[]))) t2 (sel (decide ((↑(Zv tk):Int)>0)) t2 (Zq (chk (decide (Zv l≤70368744177664)) (some (Yj (Kerb.pad l),[]))) (kO fun l=>some (Yy [Zm l,Zz .i64 0],[]))))))))) (Zq t5 (kL fun b=>sel (!b) (some (Yy [Zm [],Zz .i64 10],[])) (sel (!Zd st 4294967295) t1 (sel (!Zd en 4294967295) t1 (sel (!Zd kv 255) t1 (Zq t3 (kL fun b=>sel (!b) (some (Yy [Zm [],Zz .i64 103],[])) (sel (decide ((↑(Zv tk):Int)>255)) (some (Yy [Zm [],Zz .i64 105],[])) (Zq t6 (kB fun b=>chk (room (Zv l+Zv b) 1) (Zq (chk (decide (Zv (l++b)≤70368744177664)) (some (Yj (l++b++Yp st 4 false),[]))) (kO fun l=>Zq (chk (decide (Zv l≤70368744177664)) (some (Yj (l++Yp en 4 false),[]))) (kO fun l=>Zq (chk (decide (Zv l≤70368744177664)) (some (Yj (l++Yp kv 1 false),[]))) (kO fun l=>Zq (chk (decide (Zv l+Zv x+Zv y+Zv z≤70368744170000)) (some (Zm (Kerb.putPrin l (Xn x y z)),[]))) (kB fun b=>Zq (chk (decide (Zv b≤70368744177664)) (some (Yj (b++Yp (↑(Zv tk):Int) 1 false),[]))) (kO fun l=>chk (room (Zv l+Zv tk) 1) (Zq (chk (decide (Zv (l++tk)≤70368744177664)) (some (Yj (Kerb.pad (l++tk)),[]))) (kO fun l=>some (Yy [Zm l,Zz .i64 0],[])))))))))))))))))))));sel (lb==[(116:UInt8),(103:UInt8),(115:UInt8),(84:UInt8)]) (sel (!Zd t 4294967295) t1 (Zq t4 (kO fun l=>Zq t5 (kL fun b=>sel (!b) (some (Yy [Zm [],Zz .i64 10],[])) (sel (!Zd st 4294967295) t1 (sel (!Zd en 4294967295) t1 (sel (!Zd kv 255) t1 (Zq t3 (kL fun b=>sel (!b) (some (Yy [Zm [],Zz .i64 103],[])) (sel (decide ((↑(Zv tk):Int)>255)) (some (Yy [Zm [],Zz .i64 105],[])) (Zq t6 (kB fun b=>chk (room (Zv l+Zv b) 1) (Zq (chk (decide (Zv (l++b)≤70368744177664)) (some (Yj (l++b++Yp st 4 false),[]))) (kO fun l=>Zq (chk (decide (Zv l≤70368744177664)) (some (Yj (l++Yp en 4 false),[]))) (kO fun l=>Zq (chk (decide (Zv l≤70368744177664)) (some (Yj (l++Yp kv 1 false),[]))) (kO fun l=>Zq (chk (decide (Zv l+Zv x+Zv y+Zv z≤70368744170000)) (some (Zm (Kerb.putPrin l (Xn x y z)),[]))) (kB fun b=>Zq (chk (decide (Zv b≤70368744177664)) (some (Yj (b++Yp (↑(Zv tk):Int) 1 false),[]))) (kO fun l=>chk (room (Zv l+Zv tk) 1) (Zq (chk (decide (Zv (l++tk)≤70368744177664)) (some (Yj (Kerb.pad (l++tk)),[]))) (kO fun l=>some (Yy [Zm l,Zz .i64 0],[]))))))))))))))))))))) (sel (!lb==[(116:UInt8),(107:UInt8),(116:UInt8),(71:UInt8)]) (sel (!lb==[(67:UInt8),(80:UInt8),(87:UInt8),(100:UInt8)]) (some (Yy [Zm [],Zz .i64 80],[])) t0) t0):Option (AV×Blocks))) (by kernel_rfl) ?_
  delta kB kO kL
  try dsimp only [cStr,cBs,cBool,cU8,cInt,cSl,l63]
  have eGet:([103,84,71,83]:List UInt8)=Kerb.lGet:=rfl
  have eTick:([103,84,75,84]:List UInt8)=Kerb.lTicket:=rfl
  have eChg:([67,80,87,108]:List UInt8)=Kerb.lChange:=rfl
  have eDone:([67,80,87,100]:List UInt8)=Kerb.lDone:=rfl
  have eGot:([116,103,115,84]:List UInt8)=Kerb.lGot:=rfl
  have eGiven:([116,107,116,71]:List UInt8)=Kerb.lGiven:=rfl
  have hpre':=hpre
  simp only [Yh,decide_eq_true_eq] at hpre
  have hk:(decide (0≤k)&&decide (k<18446744073709551616))=true:=by simp;omega
  have hv:(decide (x.length≤9223372036854775807)&&decide (y.length≤9223372036854775807)&&decide (z.length≤9223372036854775807))=true:=by simp;omega
  simp only [A0,eDone,eGot,eGiven,hk,hv]
  unfold Kerb.encodeKaAnswer
  simp only
  cases hg:(lb==Kerb.lGot)
  case true =>
   have ht:Vu lb=true:=by simp [Vu,hg]
   have hl:lb.length=4:=by rw [eq_of_beq hg];rfl
   simp only [ht,sel_true,Zb,Bool.false_and]
   rw [if_neg (by simp)]
   cases h1:Zd t 4294967295
   ·rfl
   rw [Zb,sel_false,if_neg (by simp),if_pos trivial,chk_of (by simp;omega)]
   cases h2:Yk k
   ·rfl
   rw [Zb,sel_false,if_neg (by simp)]
   cases h3:Zd st 4294967295
   ·rfl
   rw [Zb,sel_false]
   cases h4:Zd en 4294967295
   ·rfl
   rw [Zb,sel_false]
   cases h5:Zd kv 255
   ·rfl
   rw [Zb,sel_false,if_neg (by simp)]
   cases h6:Xg ⟨x,y,z⟩
   ·rfl
   have l1:=Kerb.valid_len h6
   simp only at l1
   rw [Zb,sel_false,if_neg (by simp)]
   by_cases h7:255<tk.length
   ·rw [sel_pos (by simp;omega),if_pos h7]
   rw [sel_neg (by simp;omega),if_neg h7]
   rw [chk_of (Yf (by simp [Zn,Yx];omega)),chk_of (by simp [Zn,Yx];omega),chk_of (by simp [Zn,Yx];omega),chk_of (by simp [Zn,Yx];omega),chk_of (by simp [Zn,Yx];omega),chk_of (by simp [Zn,Yx,Xf];omega),chk_of (Yf (by simp [Zn,Yx,Xf];omega)),chk_of (by simp [Zn,Yx,Xf];omega)]
   simp [Kerb.putTick]
  cases hgv:(lb==Kerb.lGiven)
  case true =>
   have ht:Vu lb=true:=by simp [Vu,hgv]
   have hl:lb.length=4:=by rw [eq_of_beq hgv];rfl
   simp only [ht,sel_true,sel_false,Zb,Bool.false_and]
   rw [if_neg (by simp)]
   cases h1:Zd t 4294967295
   ·rfl
   rw [Zb,sel_false,if_neg (by simp),if_pos trivial,chk_of (by simp;omega)]
   cases h2:Yk k
   ·rfl
   rw [Zb,sel_false,if_neg (by simp)]
   cases h3:Zd st 4294967295
   ·rfl
   rw [Zb,sel_false]
   cases h4:Zd en 4294967295
   ·rfl
   rw [Zb,sel_false]
   cases h5:Zd kv 255
   ·rfl
   rw [Zb,sel_false,if_neg (by simp)]
   cases h6:Xg ⟨x,y,z⟩
   ·rfl
   have l1:=Kerb.valid_len h6
   simp only at l1
   rw [Zb,sel_false,if_neg (by simp)]
   by_cases h7:255<tk.length
   ·rw [sel_pos (by simp;omega),if_pos h7]
   rw [sel_neg (by simp;omega),if_neg h7]
   rw [chk_of (Yf (by simp [Zn,Yx];omega)),chk_of (by simp [Zn,Yx];omega),chk_of (by simp [Zn,Yx];omega),chk_of (by simp [Zn,Yx];omega),chk_of (by simp [Zn,Yx];omega),chk_of (by simp [Zn,Yx,Xf];omega),chk_of (Yf (by simp [Zn,Yx,Xf];omega)),chk_of (by simp [Zn,Yx,Xf];omega)]
   simp [Kerb.putTick]
  have ht:Vu lb=false:=by simp [Vu,hg,hgv]
  simp only [ht,sel_true,sel_false,Xu,Bool.true_and]
  cases hc:(lb==Kerb.lDone)
  ·rfl
  have hl:lb.length=4:=by rw [eq_of_beq hc];rfl
  rw [Zb,sel_false,if_neg (by simp)]
  cases h1:Zd t 4294967295
  ·rfl
  rw [Zb,sel_false,if_neg (by simp),if_neg (by simp),chk_of (by simp;omega)]
  by_cases h2:k=0
  case neg=>rw [sel_pos (by simpa using h2),if_pos (.inl h2)]
  rw [sel_neg (by simp [h2])]
  by_cases h3:st=0
  case neg=>rw [sel_pos (by simpa using h3),if_pos (.inr (.inl h3))]
  rw [sel_neg (by simp [h3])]
  by_cases h4:en=0
  case neg=>rw [sel_pos (by simpa using h4),if_pos (.inr (.inr (.inl h4)))]
  rw [sel_neg (by simp [h4])]
  by_cases h5:kv=0
  case neg=>rw [sel_pos (by simpa using h5),if_pos (.inr (.inr (.inr (.inl h5))))]
  rw [sel_neg (by simp [h5])]
  show sel (!(Kerb.Prin.isNo ⟨x,y,z⟩)) _ _=_
  cases h6:Kerb.Prin.isNo ⟨x,y,z⟩
  ·rw [if_pos (.inr (.inr (.inr (.inr (.inl rfl)))))];rfl
  rw [Zb,sel_false]
  by_cases h7:tk=[]
  case neg=>rw [sel_pos (by have:=List.length_pos_iff.2 h7;simp;omega),if_pos (.inr (.inr (.inr (.inr (.inr h7)))))]
  rw [sel_neg (by simp [h7]),if_neg (by simp [h2,h3,h4,h5,h7]),chk_of (by simp [Zn];omega)]
 ·cases h
theorem w95:Walked Tryz.prog G 95 4 sp95:=by
 refine ⟨Tryz.f95,Tryz.func95,by decide +kernel,rfl,fun xs bl r h=> ?_⟩
 unfold sp95 at h
 split at h
 ·rename_i kd k bd
  obtain ⟨hpre,h2⟩:=chk_inv h;cases h2
  refine Eq.trans (b:=(let t0:List UInt8:=[Wz (Zg (Zj .u8 (Int.fdiv (↑(Zv bd):Int) (2 ^ min (Zg 8) (Xz .i64))))),Wz (Zg (Zj .u8 (↑(Zv bd):Int)))];let t1:List UInt8:=Vf (Zg 0) (0:UInt8)++[(66:UInt8),Wz (Zg (Zj .u8 kd))];let t2:Int:=Zj .i64 (12+(↑(Zv bd):Int));sel (!Wf kd) (some (Yy [Zm [],Zz .i64 104],[])) (Zq (chk (decide (0≤k)&&decide (k<18446744073709551616)) (some (Yz (Yk k),[]))) (kL fun b=>sel (!b) (some (Yy [Zm [],Zz .i64 10],[])) (sel (decide ((↑(Zv bd):Int)>1000)) (some (Yy [Zm [],Zz .i64 105],[])) (chk (decide (0≤t2)&&decide (t2≤140737488355328)) (chk (room (Zv (Vf (Zg 0) (0:UInt8))+Zv [(66:UInt8),Wz (Zg (Zj .u8 kd))]) 1) (Zq (chk (decide (0≤k)&&decide (k<18446744073709551616)) (some (Zm (Kerb.keyBytes k),[]))) (kB fun b=>chk (room (Zv t1+Zv b) 1) (chk (room (Zv (t1++b)+Zv t0) 1) (chk (room (Zv (t1++b++t0)+Zv bd) 1) (some (Yy [Zm (t1++b++t0++bd),Zz .i64 0],[]))))))))))):Option (AV×Blocks))) (by kernel_rfl) ?_
  delta kB kL
  try dsimp only [cStr,cBs,cBool,cU8,cInt,cSl,l63]
  simp only [A0,Xp,Xh,Xm,hpre]
  unfold Kerb.makeBox
  cases h1:Wf kd
  ·rfl
  rw [Zb,sel_false,if_neg (by simp)]
  cases h2:Yk k
  ·rfl
  rw [Zb,sel_false,if_neg (by simp)]
  by_cases h3:1000<bd.length
  ·rw [sel_pos (by simp;omega),if_pos h3]
  have hk:1≤kd∧kd≤10:=by simp [Wf] at h1;omega
  have lk:=Yx k
  rw [sel_neg (by simp;omega),if_neg h3,wrap_i64 (by omega) (by omega),chk_of (by simp;omega),chk_of (Yf (by simp)),chk_of (Yf (by simp;omega)),chk_of (Yf (by simp;omega)),chk_of (Yf (by simp;omega)),Kerb.two_bytes,Kerb.wrap_u8,Int.emod_eq_of_lt (by omega) (by omega)]
  rfl
 ·cases h
theorem w97:Walked Tryz.prog G 97 4 sp97:=by
 refine ⟨Tryz.f97,Tryz.func97,by decide +kernel,rfl,fun xs bl r h=> ?_⟩
 unfold sp97 at h
 split at h
 ·rename_i rl els n i now
  obtain ⟨hpre,h2⟩:=chk_inv h;cases h2
  refine Eq.trans (b:=(Zq (chk (List.all els Kerb.isEntry&&decide (Zv els≤1000000)) (some (Yy [Zz .i64 (Yq (Kerb.useEnt (Kerb.Db.mk rl (Vg Vp els)) n i now 2 2 6)),Zz .i64 (Yv (Kerb.useEnt (Kerb.Db.mk rl (Vg Vp els)) n i now 2 2 6))],[]))) fun (r:AV×Blocks)=>onNilB (Yv r) (Wj (Yq r) fun vs=>onCons vs fun x r=>Yw .i64 x fun n=>onCons r fun x r=>Yw .i64 x fun n_1=>onNil r (some (Yy [Zz .i64 n,Zz .i64 n_1],[]))):Option (AV×Blocks))) (by kernel_rfl) ?_
  simp only [hpre,↓A0,A0]
  rfl
 ·cases h
theorem w117:Walked Tryz.prog G 117 4 sp117:=by
 refine ⟨Tryz.f117,Tryz.func117,by decide +kernel,rfl,fun xs bl r h=> ?_⟩
 unfold sp117 at h
 split at h
 ·rename_i B at_ bad
  obtain ⟨hpre,h2⟩:=chk_inv h;cases h2
  show runFnH (G.env 117 4) G.rts (G.own 117) Tryz.f117 _ _ [0]=_
  refine Eq.trans (b:=(Zq (chk (decide (Zv B≤4611686018427387904)) (some (Yy [Zz .i64 (Xj (Yd B at_ 1 false)),Zz .i64 (Xw (Yd B at_ 1 false)),Zz .i64 (Xk (Yd B at_ 1 false))],[]))) fun (r:AV×Blocks)=>onNilB (Yv r) (Wj (Yq r) fun vs=>onCons vs fun x r=>Yw .i64 x fun n=>onCons r fun x r=>Yw .i64 x fun n_1=>onCons r fun x r=>Yw .i64 x fun n_2=>onNil r (sel (!!(bad || !n_2==0)) (some (Zz .i64 0,[[Zm B,Zz .i64 (bif bad || !n_2==0 then at_ else n_1),Yz (bad || !n_2==0)]])) (some (Zz .i64 n,[[Zm B,Zz .i64 (bif bad || !n_2==0 then at_ else n_1),Yz (bad || !n_2==0)]])))):Option (AV×Blocks))) (by kernel_rfl) ?_
  have hb:=of_decide_eq_true hpre
  simp only [A0]
  rw [chk_of (by simp;omega)]
  unfold Kerb.pGet
  cases bad
  ·simp only [Bool.false_or]
   generalize hq:(!(_==(0:Int)))=q
   cases q<;>rfl
  ·rfl
 ·cases h
theorem w119:Walked Tryz.prog G 119 4 sp119:=by
 refine ⟨Tryz.f119,Tryz.func119,by decide +kernel,rfl,fun xs bl r h=> ?_⟩
 unfold sp119 at h
 split at h
 ·rename_i B at_ bad
  obtain ⟨hpre,h2⟩:=chk_inv h;cases h2
  show runFnH (G.env 119 4) G.rts (G.own 119) Tryz.f119 _ _ [0]=_
  refine Eq.trans (b:=(Zq (chk (decide (Zv B≤4611686018427387904)) (some (Yy [Zz .i64 (Xj (Yd B at_ 2 false)),Zz .i64 (Xw (Yd B at_ 2 false)),Zz .i64 (Xk (Yd B at_ 2 false))],[]))) fun (r:AV×Blocks)=>onNilB (Yv r) (Wj (Yq r) fun vs=>onCons vs fun x r=>Yw .i64 x fun n=>onCons r fun x r=>Yw .i64 x fun n_1=>onCons r fun x r=>Yw .i64 x fun n_2=>onNil r (sel (!!(bad || !n_2==0)) (some (Zz .i64 0,[[Zm B,Zz .i64 (bif bad || !n_2==0 then at_ else n_1),Yz (bad || !n_2==0)]])) (some (Zz .i64 n,[[Zm B,Zz .i64 (bif bad || !n_2==0 then at_ else n_1),Yz (bad || !n_2==0)]])))):Option (AV×Blocks))) (by kernel_rfl) ?_
  have hb:=of_decide_eq_true hpre
  simp only [A0]
  rw [chk_of (by simp;omega)]
  unfold Kerb.pGet
  cases bad
  ·simp only [Bool.false_or]
   generalize hq:(!(_==(0:Int)))=q
   cases q<;>rfl
  ·rfl
 ·cases h
theorem w170:Walked Tryz.prog G 170 4 sp170:=by
 refine ⟨Tryz.f170,Tryz.func170,by decide +kernel,rfl,fun xs bl r h=> ?_⟩
 unfold sp170 at h
 split at h
 ·rename_i l pos
  obtain ⟨hpre,h2⟩:=chk_inv h;cases h2
  show runFnH (G.env 170 4) G.rts (G.own 170) Tryz.f170 _ _ [0]=_
  refine Eq.trans (b:=(Zq (chk (decide (Zv l≤4611686018427387904)&&decide (0≤pos)) (some (Zz .i64 (Wp l pos 9),[[Zm l,Zz .i64 (Yn l pos 9)]]))) fun (r:AV×Blocks)=>onConsB (Yv r) fun (x:List AV) (r_1:List (List AV))=>cBs x fun b r_2=>cInt .i64 r_2 fun n r_3=>onNil r_3 (onNilB r_1 (Yw .i64 (Yq r) fun n_1=>Zq (chk (decide (0≤n_1)&&decide (n_1≤4611686018427387904)) (some (Zf [Zy (Wx (Zx n_1)),Zy (Ww (Zx n_1)),Zy (Xb (Zx n_1))],[]))) (kA fun cs=>cStr cs fun b_1 r=>cStr r fun b_2 r=>cStr r fun b_3 r=>onNil r (Zq (chk (decide (Zv b≤4611686018427387904)&&decide (0≤n)) (some (Zz .i64 (Wp b n 9),[[Zm b,Zz .i64 (Yn b n 9)]]))) fun (r:AV×Blocks)=>onConsB (Yv r) fun (x:List AV) (r_4:List (List AV))=>cBs x fun b r_5=>cInt .i64 r_5 fun n r_6=>onNil r_6 (onNilB r_4 (Yw .i64 (Yq r) fun n_2=>Zq (chk (decide (0≤n_2)&&decide (n_2≤1000)) (some (Zz .u64 (Kerb.session n_2),[]))) (kI .u64 fun n_3=>Zq (chk (decide (Zv b≤4611686018427387904)&&decide (0≤n)) (some (Zz .i64 (Wp b n 256),[[Zm b,Zz .i64 (Yn b n 256)]]))) fun (r:AV×Blocks)=>onConsB (Yv r) fun (x:List AV) (r_7:List (List AV))=>cBs x fun b r_8=>cInt .i64 r_8 fun n r_9=>onNil r_9 (onNilB r_7 (Yw .i64 (Yq r) fun n_4=>Zq (chk (decide (Zv b≤4611686018427387904)&&decide (0≤n)) (some (Zz .i64 (Wp b n 256),[[Zm b,Zz .i64 (Yn b n 256)]]))) fun (r:AV×Blocks)=>onConsB (Yv r) fun (x:List AV) (r_10:List (List AV))=>cBs x fun b r_11=>cInt .i64 r_11 fun n r_12=>onNil r_12 (onNilB r_10 (Yw .i64 (Yq r) fun n_5=>Zq (chk (decide (Zv b≤4611686018427387904)&&decide (0≤n)) (some (Zz .i64 (Wp b n 256),[[Zm b,Zz .i64 (Yn b n 256)]]))) fun (r:AV×Blocks)=>onConsB (Yv r) fun (x:List AV) (r_13:List (List AV))=>cBs x fun b r_14=>cInt .i64 r_14 fun n r_15=>onNil r_15 (onNilB r_13 (Yw .i64 (Yq r) fun n_6=>Zq (loopM (fun (st:List AV)=>cBs st fun b r=>cInt .i64 r fun n r=>cStr r fun b_4 r=>cStr r fun b_5 r=>cStr r fun b_6 r=>cInt .u64 r fun n_7 r=>cInt .i64 r fun n_8 r=>cInt .i64 r fun n_9 r=>cInt .i64 r fun n_10 r=>cBs r fun b_7 r=>cStr r fun b_8 r=>cStr r fun b_9 r=>cStr r fun b_10 r=>cInt .u64 r fun n_11 r=>cInt .i64 r fun n_12 r=>cInt .i64 r fun n_13 r=>cInt .i64 r fun n_14 r=>onCons r fun x r=>AV.onOwnB x fun y=>cInt .i64 r fun n_15 r=>onNil r (Zq (chk (decide (Zv b≤4611686018427387904)&&decide (0≤n)) (some (Zz .i64 (Wp b n 30),[[Zm b,Zz .i64 (Yn b n 30)]]))) fun (r:AV×Blocks)=>onConsB (Yv r) fun (x:List AV) (r_16:List (List AV))=>cBs x fun b r_17=>cInt .i64 r_17 fun n r_18=>onNil r_18 (onNilB r_16 (Yw .i64 (Yq r) fun n_16=>sel (decide (n_15<n_16)) (Zq (chk (decide (Zv b≤4611686018427387904)&&decide (0≤n)) (some (Zz .i64 (Wp b n 256),[[Zm b,Zz .i64 (Yn b n 256)]]))) fun (r:AV×Blocks)=>onConsB (Yv r) fun (x:List AV) (r_19:List (List AV))=>cBs x fun b r_20=>cInt .i64 r_20 fun n r_21=>onNil r_21 (onNilB r_19 (Yw .i64 (Yq r) fun n_17=>chk (room (Zv y+Zv [Wz (Zg (Zj .u8 n_17))]) 1) (some (Sum.inl [Zm b,Zz .i64 n,Zy b_4,Zy b_5,Zy b_6,Zz .u64 n_7,Zz .i64 n_8,Zz .i64 n_9,Zz .i64 n_10,Zm b_7,Zy b_8,Zy b_9,Zy b_10,Zz .u64 n_11,Zz .i64 n_12,Zz .i64 n_13,Zz .i64 n_14,Yj (y++[Wz (Zg (Zj .u8 n_17))]),Zz .i64 (Zj .i64 (n_15+1))]))))) (some (Sum.inr (Vw 0,[Zm b,Zz .i64 n,Zy b_4,Zy b_5,Zy b_6,Zz .u64 n_7,Zz .i64 n_8,Zz .i64 n_9,Zz .i64 n_10,Zm b_7,Zy b_8,Zy b_9,Zy b_10,Zz .u64 n_11,Zz .i64 n_12,Zz .i64 n_13,Zz .i64 n_14,Yj y,Zz .i64 n_15]))))))) [Zm b,Zz .i64 n,Zy [],Zy [],Zy [],Zz .u64 0,Zz .i64 0,Zz .i64 0,Zz .i64 0,Zm [],Zy b_1,Zy b_2,Zy b_3,Zz .u64 n_3,Zz .i64 n_4,Zz .i64 n_5,Zz .i64 (Zj .i64 (n_6*100)),Yj [],Zz .i64 0]) fun (r:Ex×List AV)=>cBs (Yv r) fun b r_16=>cInt .i64 r_16 fun n r_17=>cStr r_17 fun b_4 r_18=>cStr r_18 fun b_5 r_19=>cStr r_19 fun b_6 r_20=>cInt .u64 r_20 fun n_7 r_21=>cInt .i64 r_21 fun n_8 r_22=>cInt .i64 r_22 fun n_9 r_23=>cInt .i64 r_23 fun n_10 r_24=>cBs r_24 fun b_7 r_25=>cStr r_25 fun b_8 r_26=>cStr r_26 fun b_9 r_27=>cStr r_27 fun b_10 r_28=>cInt .u64 r_28 fun n_11 r_29=>cInt .i64 r_29 fun n_12 r_30=>cInt .i64 r_30 fun n_13 r_31=>cInt .i64 r_31 fun n_14 r_32=>onCons r_32 fun x r_33=>AV.onOwnB x fun y=>cInt .i64 r_33 fun n_15 r_34=>onNil r_34 (exK r.1 (some (Zf [Zy b_4,Zy b_5,Zy b_6,Zz .u64 n_7,Zz .i64 n_8,Zz .i64 n_9,Zz .i64 n_10,Zm b_7],[[Zm b,Zz .i64 n]])) fun (j:Nat)=>sel (Nat.beq j 0) (some (Zf [Zy b_8,Zy b_9,Zy b_10,Zz .u64 n_11,Zz .i64 n_12,Zz .i64 n_13,Zz .i64 n_14,Zm y],[[Zm b,Zz .i64 n]])) none)))))))))))))):Option (AV×Blocks))) (by kernel_rfl) ?_
  delta kA kI
  try dsimp only [cStr,cBs,cBool,cU8,cInt,cSl,l63]
  simp only [Yh,decide_eq_true_eq] at hpre
  obtain ⟨hl,hp0⟩:=hpre
  have c:decide (l.length≤4611686018427387904)=true:=by simp;omega
  have c0:decide (0≤pos)=true:=by simpa using hp0
  simp only [A0,Xp,Xh,Xm,c,c0,Kerb.nextPos_dec,Kerb.next_dec,Kerb.next_dec62,Kerb.next_dec1000,Xv]
  have hn:=Kerb.next_bd l (Kerb.cp4 l pos) 256
  have hw:Zj .i64 (Wp l (Kerb.cp4 l pos) 256*100)=Wp l (Kerb.cp4 l pos) 256*100:=wrap_i64 (by omega) (by omega)
  refine loop_rounds (fun s:Nat×Int×Int×List UInt8=>[Zm l,Zz Zw s.2.2.1,Zy [],Zy [],Zy [],Zz Yu 0,Zz Zw 0,Zz Zw 0,Zz Zw 0,Zm [],Zy (Ym l pos).service.name,Zy (Ym l pos).service.inst,Zy (Ym l pos).service.realm,Zz Yu (Ym l pos).session,Zz Zw (Ym l pos).life,Zz Zw (Ym l pos).kvno,Zz Zw (Ym l pos).issued,Yj s.2.2.2,Zz Zw s.2.1])
   (fun s=>0≤s.2.1∧s.2.1≤255∧0≤s.2.2.1∧(l.length:Int)-s.2.2.1<s.1∧(s.2.2.2.length:Int)=s.2.1∧Kerb.tickLoop l s.1 s.2.1 s.2.2.1 s.2.2.2=Kerb.dataTick l pos) (fun s=>s.1)
   (fun r=>∃ i:Int,r=(.exit 0,[Zm l,Zz Zw (Kerb.dataPos l pos),Zy [],Zy [],Zy [],Zz Yu 0,Zz Zw 0,Zz Zw 0,Zz Zw 0,Zm [],Zy (Ym l pos).service.name,Zy (Ym l pos).service.inst,Zy (Ym l pos).service.realm,Zz Yu (Ym l pos).session,Zz Zw (Ym l pos).life,Zz Zw (Ym l pos).kvno,Zz Zw (Ym l pos).issued,Yj (Kerb.dataTick l pos).1,Zz Zw i])) (l.length+1,0,Kerb.cp5 l pos,[]) ⟨by simp,by simp,Int.natCast_nonneg _,by have:(0:Int)≤Kerb.cp5 l pos:=Int.natCast_nonneg _;simp only;omega,rfl,rfl⟩ ?_ ?_ ?_
  ·have hw':Zj .i64 (Wp l (Yn l (Yn l (Yn l (Yn l pos 9) 9) 256) 256) 256*100)=(Ym l pos).issued:=hw
   rw [hw'];rfl
  ·rintro ⟨f,i,q,t⟩ ⟨hi0,hi,hq,hf,ht,he⟩
   simp only at hi0 hi hq hf ht he
   have cq:decide (0≤q)=true:=by simpa using hq
   simp only [A0,Xp,Xh,Xm,c,cq,Kerb.nextPos_dec,Xv]
   have b:=Kerb.next_bd l q 30
   by_cases hlt:i<Wp l q 30
   ·have hql:q<l.length:=Kerb.next_in (n:=30) (by omega)
    cases f with
    | zero=>simp at hf;omega
    | succ f =>
     rw [Kerb.tickLoop,if_pos hlt] at he
     have b2:=Kerb.next_bd l (Yn l q 30) 256
     rw [sel_pos (by simpa using hlt),chk_of (Yf (by simp;omega)),wrap_i64 (by omega) (by omega),Kerb.wrap_u8,Int.emod_eq_of_lt (by omega) (by omega)]
     have hs:=Kerb.nextPos_step (l:=l) (p:=q) (n:=30) hq hql (by decide)
     have hs2:=Kerb.nextPos_ge l (Yn l q 30) 256
     exact ⟨_,rfl,(f,i+1,Yn l (Yn l q 30) 256,t++[Wz (Wp l (Yn l q 30) 256).toNat]),rfl,⟨by simp only;omega,by simp only;omega,by simp only;omega,by simp only;omega,by simp;omega,he⟩,by simp⟩
   ·rw [sel_neg (by simpa using hlt)]
    have ht2:Kerb.dataTick l pos=(t,Yn l q 30):=by
     rw [← he]
     cases f with
     | zero=>rfl
     | succ f=>rw [Kerb.tickLoop,if_neg hlt]
    refine ⟨_,rfl,i,?_⟩
    unfold Kerb.dataPos
    rw [ht2]
  ·rintro _ ⟨i,rfl⟩
   simp only [A0,Xp,Xh,Xm]
   rw [sel_pos (Wm _)]
   rfl
 ·cases h
end Go.Proofs.YtaikjfcgemjghaaGreat
