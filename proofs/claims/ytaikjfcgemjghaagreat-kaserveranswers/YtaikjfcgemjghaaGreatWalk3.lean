/- What the functions of this seat compute. -/
import Derived.Test.YtaikjfcgemjghaaGreatTab
import Derived.Test.YtaikjfcgemjghaaGreatKerbPlain
import Derived.Test.YtaikjfcgemjghaaGreatAbsStep
import Derived.Test.YtaikjfcgemjghaaGreatKerbKaPlain
import Derived.Test.YtaikjfcgemjghaaGreatKerbKaRef
import Derived.Test.YtaikjfcgemjghaaGreatKerbCli3
import Derived.Test.YtaikjfcgemjghaaGreatKerbCli4
import Derived.Test.YtaikjfcgemjghaaGreatKerbCli5
import Derived.Test.YtaikjfcgemjghaaGreatKerbSrvL
import Derived.Test.YtaikjfcgemjghaaGreatKerbKac2
open List renaming length→Zz,map→Yn,getD→Xx,take→Xn,drop→Xm,length_map→Wq,all→Vb
open Go.Abs.AV renaming int→Zy,str→Zu,bool→Zj,bs→Zk,tup→Zd,onInt→Yy,ownB→Yk,agg→Xy,sl→Xp,onTup→Wy,onBs→Wp,onAgg→Wd,onBool→Vj,undef→Uz
open Option renaming bind→Zx
open Kerb renaming keyBytes_len→Zw,putN_len→Zv,putPrin_len→Zq,within→Zm,get→Zh,putN→Yw,bytes→Yp,putText→Yd,room_ok→Yf,toEntry→Yb,keyValid→Ym,decodeKaSecret→Xz,encodeKaSecret→Xw,readBox→Xq,keyRead→Xj,encodeKaRequest→Xk,text→Wx,encodeKaReply→Ww,dataEnt→Wj,printable→Wk,lChange→Wf,isEntry→Wg,getD_ent→Wn,putText_len→Vz,kaReplySeal→Vy,boxSize→Vx,serviceEnt→Vw,isKind→Vq,findCross→Vk,map_toEntry→Vd,ticketed→Vf,useEnt→Vn,validRealm→Vm,dataEntPos→Vh,encodeKaAnswer→Uy,putPrin→Ux,makeBox→Uw,dataDbL→Uv,valid_len→Uu,validName→Uq,validInst→Uj,decBy_fin→Uk,headIs→Uf,encodeTicket→Ug,keyBytes→Ub
open Bool renaming not_true→Zp,and_eq_true→Yv,and_self→Xu,not_false→Xb,false_or→Un
open Int renaming toNat→Zf,toNat_natCast→Wm
open Prod renaming snd→Zg,fst→Zb
open Go.IntKind renaming i64→Zn,wrap→Yz,bits→Xv,u64→Up
open Kerb.Got renaming err→Yx,next→Yg,val→Yh
open Kerb.Entry renaming av→Yu
open Kerb.Prin renaming mk→Yq,valid→Xg
open Kerb.GotB renaming err→Yj,next→Xf,val→Xh
open Kerb.Db renaming mk→Xd
open Kerb.Enc renaming err→Wz,val→Wv
open UInt8 renaming toNat→Wu
open Kerb.KaSecret renaming mk→Wb
open Kerb.GotBox renaming box→Wh
open Kerb.KaAnswer renaming mk→Vv
open Kerb.Dec renaming val→Vu
open Nat renaming le_trans→Vp
open Kerb.KaRequest renaming mk→Vg
open Kerb.KaReply renaming mk→Ud
namespace Go.Proofs.YtaikjfcgemjghaaGreat
open Go Go.Abs Go.Proofs
set_option linter.unusedVariables false
set_option linter.unusedSimpArgs false
set_option maxRecDepth 100000
theorem w64:Walked Tryz.prog G 64 4 sp64:=by
 refine ⟨Tryz.f64,Tryz.func64,by decide +kernel,rfl,fun xs bl r h=> ?_⟩
 unfold sp64 at h
 split at h
 ·rename_i op ux uy uz kv rl tk sv ins bx
  obtain ⟨hpre,h2⟩:=chk_inv h;cases h2
  refine Eq.trans (b:=(Zx (sel (!(op==1||op==3)) (some [Zy .i64 op,Zu ux,Zu uy,Zu uz,Zy .i64 kv,Zu rl,Zk tk,Zu sv,Zu ins,Zk bx,Zj !op==2,Zy .i64 0]) (some [Zy .i64 op,Zu ux,Zu uy,Zu uz,Zy .i64 kv,Zu rl,Zk tk,Zu sv,Zu ins,Zk bx,Zj false,Zy .i64 0])) fun l=>cInt .i64 l fun n r=>cStr r fun b r=>cStr r fun b_1 r=>cStr r fun b_2 r=>cInt .i64 r fun n_1 r=>cStr r fun b_3 r=>cBs r fun b_4 r=>cStr r fun b_5 r=>cStr r fun b_6 r=>cBs r fun b_7 r=>cBool r fun b_8 r=>cInt .i64 r fun n_2 r=>let t1:Option (List AV):=some [Zy .i64 n,Zu b,Zu b_1,Zu b_2,Zy .i64 n_1,Zu b_3,Zk b_4,Zu b_5,Zu b_6,Zk b_7,Zj true,Zy .i64 n_2];let t0:Option (List AV):=sel (!(n==1||n==3)) (Zx (chk (l63 b_3) (some (Zj (Vm b_3),[]))) (kL fun b_9=>sel (!b_9) t1 (Zx (chk (l63 b_5) (some (Zj (Uq b_5),[]))) (kL fun b_10=>sel (!b_10) t1 (Zx (chk (l63 b_6) (some (Zj (Uj b_6),[]))) (kL fun b_11=>some [Zy .i64 n,Zu b,Zu b_1,Zu b_2,Zy .i64 n_1,Zu b_3,Zk b_4,Zu b_5,Zu b_6,Zk b_7,Zj !b_11,Zy .i64 n_2])))))) (some [Zy .i64 n,Zu b,Zu b_1,Zu b_2,Zy .i64 n_1,Zu b_3,Zk b_4,Zu b_5,Zu b_6,Zk b_7,Zj false,Zy .i64 n_2]);onNil r (sel b_8 (some (Zd [Zk [],Zy .i64 40],[])) (Zx (sel (n==1||n==3) (Zx (chk (l63 b&&l63 b_1&&l63 b_2) (some (Zj (Xg (Yq b b_1 b_2)),[]))) (kL fun b=>sel (!b) t1 t0)) t0) fun l=>cInt .i64 l fun n r=>cStr r fun b r=>cStr r fun b_9 r=>cStr r fun b_10 r=>cInt .i64 r fun n_3 r=>cStr r fun b_11 r=>cBs r fun b_12 r=>cStr r fun b_13 r=>cStr r fun b_14 r=>cBs r fun b_15 r=>cBool r fun b_16 r=>cInt .i64 r fun n_4 r=>onNil r (sel b_16 (some (Zd [Zk [],Zy .i64 103],[])) (Zx (sel (!(n==1||n==3)) (some [Zy .i64 n,Zu b,Zu b_9,Zu b_10,Zy .i64 n_3,Zu b_11,Zk b_12,Zu b_13,Zu b_14,Zk b_15,Zj !Zm n_3 255,Zy .i64 n_4]) (some [Zy .i64 n,Zu b,Zu b_9,Zu b_10,Zy .i64 n_3,Zu b_11,Zk b_12,Zu b_13,Zu b_14,Zk b_15,Zj false,Zy .i64 n_4])) fun l=>cInt .i64 l fun n r=>cStr r fun b r=>cStr r fun b_17 r=>cStr r fun b_18 r=>cInt .i64 r fun n_5 r=>cStr r fun b_19 r=>cBs r fun b_20 r=>cStr r fun b_21 r=>cStr r fun b_22 r=>cBs r fun b_23 r=>cBool r fun b_24 r=>cInt .i64 r fun n_6 r=>let t2:Option (List AV):=some [Zy .i64 n,Zu b,Zu b_17,Zu b_18,Zy .i64 n_5,Zu b_19,Zk b_20,Zu b_21,Zu b_22,Zk b_23,Zj (decide ((↑(Zz b_23):Int)>1012)),Zy .i64 n_6];onNil r (sel b_24 (some (Zd [Zk [],Zy .i64 104],[])) (Zx (sel (!(n==1||n==3)) (sel (decide ((↑(Zz b_20):Int)>255)) (some [Zy .i64 n,Zu b,Zu b_17,Zu b_18,Zy .i64 n_5,Zu b_19,Zk b_20,Zu b_21,Zu b_22,Zk b_23,Zj true,Zy .i64 n_6]) t2) t2) fun l=>cInt .i64 l fun n r=>cStr r fun b r=>cStr r fun b_25 r=>cStr r fun b_26 r=>cInt .i64 r fun n_7 r=>cStr r fun b_27 r=>cBs r fun b_28 r=>cStr r fun b_29 r=>cStr r fun b_30 r=>cBs r fun b_31 r=>cBool r fun b_32 r=>cInt .i64 r fun n_8 r=>let t3:Option (List AV):=some [Zy .i64 n,Zu b,Zu b_25,Zu b_26,Zy .i64 n_7,Zu b_27,Zk b_28,Zu b_29,Zu b_30,Zk b_31,Zj true,Zy .i64 n_8];let t4:Option (List AV):=sel (!(n==1||n==3)) (some [Zy .i64 n,Zu b,Zu b_25,Zu b_26,Zy .i64 n_7,Zu b_27,Zk b_28,Zu b_29,Zu b_30,Zk b_31,Zj !(b==[]&&(b_25==[]&&b_26==[])),Zy .i64 n_8]) (some [Zy .i64 n,Zu b,Zu b_25,Zu b_26,Zy .i64 n_7,Zu b_27,Zk b_28,Zu b_29,Zu b_30,Zk b_31,Zj false,Zy .i64 n_8]);onNil r (sel b_32 (some (Zd [Zk [],Zy .i64 105],[])) (Zx (sel (n==1||n==3) (sel (!n_7==0) t3 (sel (!b_27==[]) t3 (sel (decide ((↑(Zz b_28):Int)>0)) t3 (sel (!b_29==[]) t3 (sel (!b_30==[]) t3 t4))))) t4) fun l=>cInt .i64 l fun n r=>let t6:List UInt8:=Kerb.header 9 false++Yw n 1 false;let t5:Nat:=Zz t6;cStr r fun b r=>cStr r fun b_33 r=>cStr r fun b_34 r=>cInt .i64 r fun n_9 r=>cStr r fun b_35 r=>cBs r fun b_36 r=>cStr r fun b_37 r=>cStr r fun b_38 r=>cBs r fun b_39 r=>cBool r fun b_40 r=>cInt .i64 r fun n_10 r=>onNil r (sel b_40 (some (Zd [Zk [],Zy .i64 108],[])) (sel (n==1||n==3) (Zx (chk (decide (t5+Zz b+Zz b_33+Zz b_34≤70368744170000)) (some (Zk (Ux t6 (Yq b b_33 b_34)),[]))) (kB fun b=>Zx (chk (decide (Zz b≤70368744177664)) (some (Yk (b++Yw (↑(Zz b_39):Int) 2 false),[]))) (kO fun l=>chk (room (Zz l+Zz b_39) 1) (some (Zd [Zk (l++b_39),Zy .i64 0],[]))))) (Zx (chk (decide (t5≤70368744177664)) (some (Yk (t6++Yw n_9 1 false),[]))) (kO fun l=>Zx (chk (decide (Zz l+Zz b_35≤70368744177664)) (some (Zk (Yd l b_35),[]))) (kB fun b=>Zx (chk (decide (Zz b≤70368744177664)) (some (Yk (b++Yw (↑(Zz b_36):Int) 1 false),[]))) (kO fun l=>chk (room (Zz l+Zz b_36) 1) (Zx (chk (decide (Zz (l++b_36)+Zz b_37≤70368744177664)) (some (Zk (Yd (l++b_36) b_37),[]))) (kB fun b=>Zx (chk (decide (Zz b+Zz b_38≤70368744177664)) (some (Zk (Yd b b_38),[]))) (kB fun b=>Zx (chk (decide (Zz b≤70368744177664)) (some (Yk (b++Yw (↑(Zz b_39):Int) 2 false),[]))) (kO fun l=>chk (room (Zz l+Zz b_39) 1) (some (Zd [Zk (l++b_39),Zy .i64 0],[])))))))))))))))))))):Option (AV×Blocks))) (by kernel_rfl) ?_
  delta kB kO kL
  try dsimp only [cStr,cBs,cBool,cU8,cInt,cSl,l63]
  simp only [Yv,decide_eq_true_eq] at hpre
  have hl9:(Kerb.header 9 false).length=2:=rfl
  unfold Xk
  by_cases h13:op=1∨op=3
  ·have e1:(op==1||op==3)=true:=by simpa using h13
   have e2:(op==2)=false:=by simp;omega
   have e3:Kerb.kaOp op=true:=by simp [Kerb.kaOp];omega
   simp only [A0,e1,e2,e3,Zp,sel_true,sel_false,Bool.false_eq_true,if_false]
   rw [chk_of (by simp;omega)]
   cases h2:Xg ⟨ux,uy,uz⟩
   ·rfl
   rw [Zp,sel_false,if_neg (by simp)]
   by_cases h3:1012<bx.length
   ·rw [sel_pos (by simp;omega),if_pos h3]
   rw [sel_neg (by simp;omega),if_neg h3]
   by_cases h4:kv=0
   case neg=>rw [sel_pos (by simpa using h4),if_pos (.inl h4)]
   rw [sel_neg (by simp [h4])]
   by_cases h5:rl=[]
   case neg=>rw [sel_pos (by simpa using h5),if_pos (.inr (.inl h5))]
   rw [sel_neg (by simp [h5])]
   by_cases h6:tk=[]
   case neg=>rw [sel_pos (by have:=List.length_pos_iff.2 h6;simp;omega),if_pos (.inr (.inr (.inl h6)))]
   rw [sel_neg (by simp [h6])]
   by_cases h7:sv=[]
   case neg=>rw [sel_pos (by simpa using h7),if_pos (.inr (.inr (.inr (.inl h7))))]
   rw [sel_neg (by simp [h7])]
   by_cases h8:ins=[]
   case neg=>rw [sel_pos (by simpa using h8),if_pos (.inr (.inr (.inr (.inr h8))))]
   rw [sel_neg (by simp [h8]),if_neg (by simp [h4,h5,h6,h7,h8])]
   have l1:=Uu h2
   simp only at l1
   rw [chk_of (by simp [Zv,hl9];omega),chk_of (by simp [Zv,hl9,Zq];omega),chk_of (Yf (by simp [Zv,hl9,Zq];omega))]
   simp [Kerb.putBox,Kerb.kaHead]
  ·have e1:(op==1||op==3)=false:=by simpa using h13
   simp only [A0,e1,Xb,sel_true,sel_false]
   by_cases h2:op=2
   case neg =>
    have e3:Kerb.kaOp op=false:=by simp [Kerb.kaOp];omega
    rw [sel_pos (by simpa using h2),e3]
    rfl
   subst h2
   rw [sel_neg (by simp)]
   simp only [show Kerb.kaOp 2=true from rfl,Zp,Bool.false_eq_true,if_false,beq_self_eq_true,if_true]
   rw [chk_of (by simp;omega)]
   cases h2:Vm rl
   ·rfl
   rw [Zp,sel_false,chk_of (by simp;omega)]
   cases h3:Uq sv
   ·rfl
   rw [Zp,sel_false,chk_of (by simp;omega)]
   cases h4:Uj ins
   ·rfl
   rw [Zp,sel_false,if_neg (by simp)]
   cases h5:Zm kv 255
   ·rfl
   rw [Zp,sel_false,if_neg (by simp)]
   by_cases h6:255<tk.length
   ·rw [sel_pos (by simp;omega),if_pos (.inl h6)]
   rw [sel_neg (by simp;omega)]
   by_cases h7:1012<bx.length
   ·rw [sel_pos (by simp;omega),if_pos (.inr h7)]
   rw [sel_neg (by simp;omega),if_neg (by omega)]
   show sel (!(Kerb.Prin.isNo ⟨ux,uy,uz⟩)) _ _=_
   cases Kerb.Prin.isNo ⟨ux,uy,uz⟩
   ·rfl
   rw [Zp,sel_false,if_neg (by simp)]
   have l1:=Kerb.validRealm_len h2
   have l2:=Kerb.validName_len h3
   have l3:=Kerb.validInst_len h4
   rw [chk_of (by simp [Zv,hl9]),chk_of (by simp [Zv,hl9];omega),chk_of (by simp [Zv,hl9,Vz];omega),chk_of (Yf (by simp [Zv,hl9,Vz];omega)),chk_of (by simp [Zv,hl9,Vz];omega),chk_of (by simp [Zv,hl9,Vz];omega),chk_of (by simp [Zv,hl9,Vz];omega),chk_of (Yf (by simp [Zv,hl9,Vz];omega))]
   simp [Kerb.putBox,Kerb.kaHead,Kerb.putTick]
 ·cases h
theorem w70:Walked Tryz.prog G 70 4 sp70:=by
 refine ⟨Tryz.f70,Tryz.func70,by decide +kernel,rfl,fun xs bl r h=> ?_⟩
 unfold sp70 at h
 split at h
 ·rename_i B at_ li bad
  obtain ⟨hpre,h2⟩:=chk_inv h;cases h2
  show runFnH (G.env 70 4) G.rts (G.own 70) Tryz.f70 _ _ [0]=_
  refine Eq.trans (b:=(Zx (chk (decide (Zz B≤140737488355328)) (some (Zd [Zy .i64 (Yh (Zh B at_ 1 false)),Zy .i64 (Yg (Zh B at_ 1 false)),Zy .i64 (Yx (Zh B at_ 1 false))],[]))) fun (r:AV×Blocks)=>onNilB (Zg r) (Wy (Zb r) fun vs=>onCons vs fun x r=>Yy .i64 x fun n=>onCons r fun x r=>Yy .i64 x fun n_1=>onCons r fun x r=>Yy .i64 x fun n_2=>onNil r (some (Zy .i64 n,[[Zk B,Zy .i64 (bif bad || !n_2==0 then at_ else n_1),Zj li,Zj (bad || !n_2==0)]]))):Option (AV×Blocks))) (by kernel_rfl) ?_
  simp only [A0]
  rw [chk_of hpre]
 ·cases h
theorem w75:Walked Tryz.prog G 75 4 sp75:=by
 refine ⟨Tryz.f75,Tryz.func75,by decide +kernel,rfl,fun xs bl r h=> ?_⟩
 unfold sp75 at h
 split at h
 ·rename_i B at_ li bad
  obtain ⟨hpre,h2⟩:=chk_inv h;cases h2
  show runFnH (G.env 75 4) G.rts (G.own 75) Tryz.f75 _ _ [0]=_
  refine Eq.trans (b:=(Zx (chk (decide (Zz B≤140737488355328)) (some (Zd [Zy .i64 (Yh (Zh B at_ 2 li)),Zy .i64 (Yg (Zh B at_ 2 li)),Zy .i64 (Yx (Zh B at_ 2 li))],[]))) fun (r:AV×Blocks)=>onNilB (Zg r) (Wy (Zb r) fun vs=>onCons vs fun x r=>Yy .i64 x fun n=>onCons r fun x r=>Yy .i64 x fun n_1=>onCons r fun x r=>Yy .i64 x fun n_2=>onNil r (some (Zy .i64 n,[[Zk B,Zy .i64 (bif bad || !n_2==0 then at_ else n_1),Zj li,Zj (bad || !n_2==0)]]))):Option (AV×Blocks))) (by kernel_rfl) ?_
  simp only [A0]
  rw [chk_of hpre]
 ·cases h
theorem w80:Walked Tryz.prog G 80 4 sp80:=by
 refine ⟨Tryz.f80,Tryz.func80,by decide +kernel,rfl,fun xs bl r h=> ?_⟩
 unfold sp80 at h
 split at h
 ·rename_i b
  obtain ⟨hpre,h2⟩:=chk_inv h;cases h2
  refine Eq.trans (b:=(let t1:Option (AV×Blocks):=some (Zd [Xy [Zy .i64 0,Zy .u64 0,Zk []],Zy .i64 0,Zy .i64 100],[]);let t2:Int:=Yz .i64 (↑(BitVec.toNat (BitVec.ofInt (Xv .i64) (Yz .i64 (Yz .i64 (↑(Wu (Xx b (Zf 10) (0:UInt8))):Int)*2 ^ min (Zf 8) (Xv .i64))) ||| BitVec.ofInt (Xv .i64) (Yz .i64 (↑(Wu (Xx b (Zf 11) (0:UInt8))):Int)))):Int);let t3:Int:=Yz .i64 (↑(Wu (Xx b (Zf 1) (0:UInt8))):Int);let t4:Option (AV×Blocks):=some (Zd [Xy [Zy .i64 0,Zy .u64 0,Zk []],Zy .i64 0,Zy .i64 101],[]);let t0:Int:=Yz .i64 (12+t2);sel (decide ((↑(Zz b):Int)<12)) t4 (chk (decide (10≤(↑(Zz b):Int))) (Zx (chk (decide (Zz (Xm (Zf 2) (Xn (Zf 10) b))≤4611686018427387904)) (some (Zd [Zy .u64 (Zb (Xj (Xm (Zf 2) (Xn (Zf 10) b)))),Zj (Zg (Xj (Xm (Zf 2) (Xn (Zf 10) b))))],[]))) (kT fun vs=>cInt .u64 vs fun n r=>cBool r fun b_1 r=>onNil r (chk (decide (10<(↑(Zz b):Int))) (chk (decide (11<(↑(Zz b):Int))) (chk (decide (0<(↑(Zz b):Int))) (sel (!Xx b (Zf 0) (0:UInt8)==(66:UInt8)) t1 (chk (decide (1<(↑(Zz b):Int))) (sel (decide (t3<1)) t1 (chk (decide (1<(↑(Zz b):Int))) (sel (decide (t3>10)) t1 (sel (!b_1) t1 (sel (decide (t2>1000)) t1 (sel (decide ((↑(Zz b):Int)<t0)) t4 (chk (decide (1<(↑(Zz b):Int))) (chk (decide (12≤t0)&&decide (t0≤(↑(Zz b):Int))) (chk (room (Zz (Xm (Zf 12) (Xn (Zf t0) b))) 1) (some (Zd [Xy [Zy .i64 t3,Zy .u64 n,Zk (Xm (Zf 12) (Xn (Zf t0) b))],Zy .i64 t0,Zy .i64 0],[]))))))))))))))))))):Option (AV×Blocks))) (by kernel_rfl) ?_
  delta kT
  try dsimp only [cStr,cBs,cBool,cU8,cInt,cSl,l63]
  simp only [decide_eq_true_eq] at hpre
  unfold Xq
  by_cases h0:b.length<12
  ·rw [sel_pos (by simp;omega),if_pos h0];rfl
  rw [sel_neg (by simp;omega),if_neg h0]
  have hc:=Kerb.cut_len b 2 8
  have hs:(b.getD 10 0).toNat*256+(b.getD 11 0).toNat=Vx b:=rfl
  simp only [Kerb.cut_28,Kerb.size_or]
  simp only [show Zf 0=0 from rfl,show Zf 1=1 from rfl,show Zf 10=10 from rfl,show Zf 11=11 from rfl,Kerb.wrap_byte,hs]
  rw [chk_of (by simp;omega),chk_of (by simp;omega)]
  simp only [↓A0]
  rw [chk_of (by simp;omega),chk_of (by simp;omega),chk_of (by simp;omega)]
  by_cases h1:b.getD 0 0=66
  case neg=>rw [sel_pos (by simpa using h1),if_pos (.inl h1)];rfl
  rw [sel_neg (by simpa using h1),chk_of (by simp;omega)]
  cases h2:Vq ((b.getD 1 0).toNat:Int)
  ·rw [if_pos (.inr (.inl rfl))]
   by_cases h2a:((b.getD 1 0).toNat:Int)<1
   ·rw [sel_pos (by simpa using h2a)];rfl
   ·rw [sel_neg (by simpa using h2a),chk_of (by simp;omega),sel_pos (decide_eq_true (by simp only [Vq,Bool.and_eq_false_iff,decide_eq_false_iff_not] at h2;omega))];rfl
  have hk:1≤((b.getD 1 0).toNat:Int)∧((b.getD 1 0).toNat:Int)≤10:=by simp only [Vq,Yv,decide_eq_true_eq] at h2;exact h2
  rw [sel_neg (decide_eq_false (by omega)),chk_of (by simp;omega),sel_neg (decide_eq_false (by omega))]
  cases h3:(Xj (Kerb.cut b 2 8)).2
  ·rw [if_pos (.inr (.inr (.inl rfl)))];rfl
  rw [Zp,sel_false]
  by_cases h4:1000<Vx b
  ·rw [sel_pos (by simp;omega),if_pos (.inr (.inr (.inr h4)))];rfl
  rw [sel_neg (by simp;omega),if_neg (by rintro (h | h | h | h)<;>first | exact h h1 | cases h | omega),wrap_i64 (by omega) (by omega)]
  by_cases h5:b.length<12+Vx b
  ·rw [sel_pos (by simp;omega),if_pos h5];rfl
  have hc2:=Kerb.cut_len b 12 (Vx b)
  rw [sel_neg (by simp;omega),if_neg h5,Kerb.cut_12]
  repeat rw [chk_of (by first | (simp;omega) | exact Yf (by omega))]
  simp
 ·cases h
theorem w81:Walked Tryz.prog G 81 4 sp81:=by
 refine ⟨Tryz.f81,Tryz.func81,by decide +kernel,rfl,fun xs bl r h=> ?_⟩
 unfold sp81 at h
 split at h
 ·rename_i B at_ li bad
  obtain ⟨hpre,h2⟩:=chk_inv h;cases h2
  show runFnH (G.env 81 4) G.rts (G.own 81) Tryz.f81 _ _ [0]=_
  refine Eq.trans (b:=(Zx (chk (decide (Zz B≤140737488355328)) (some (Zd [Zy .i64 (Yh (Zh B at_ 4 li)),Zy .i64 (Yg (Zh B at_ 4 li)),Zy .i64 (Yx (Zh B at_ 4 li))],[]))) fun (r:AV×Blocks)=>onNilB (Zg r) (Wy (Zb r) fun vs=>onCons vs fun x r=>Yy .i64 x fun n=>onCons r fun x r=>Yy .i64 x fun n_1=>onCons r fun x r=>Yy .i64 x fun n_2=>onNil r (some (Zy .i64 n,[[Zk B,Zy .i64 (bif bad || !n_2==0 then at_ else n_1),Zj li,Zj (bad || !n_2==0)]]))):Option (AV×Blocks))) (by kernel_rfl) ?_
  simp only [A0]
  rw [chk_of hpre]
 ·cases h
theorem w83:Walked Tryz.prog G 83 4 sp83:=by
 refine ⟨Tryz.f83,Tryz.func83,by decide +kernel,rfl,fun xs bl r h=> ?_⟩
 unfold sp83 at h
 split at h
 ·rename_i lb t k st en kv x y z tk
  obtain ⟨hpre,h2⟩:=chk_inv h;cases h2
  refine Eq.trans (b:=(let t1:Option (AV×Blocks):=some (Zd [Zk [],Zy .i64 104],[]);let t2:Option (AV×Blocks):=some (Zd [Zk [],Zy .i64 108],[]);let t3:Option (AV×Blocks):=chk (l63 x&&l63 y&&l63 z) (some (Zj (Xg (Yq x y z)),[]));let t4:Option (AV×Blocks):=chk (decide (Zz lb≤70368744177664)) (some (Yk (lb++Yw t 4 false),[]));let t5:Option (AV×Blocks):=chk (decide (0≤k)&&decide (k<18446744073709551616)) (some (Zj (Ym k),[]));let t6:Option (AV×Blocks):=chk (decide (0≤k)&&decide (k<18446744073709551616)) (some (Zk (Ub k),[]));let t0:Option (AV×Blocks):=sel (!Zm t 4294967295) t1 (Zx t4 (kO fun l=>sel (!lb==[(116:UInt8),(107:UInt8),(116:UInt8),(71:UInt8)]) (sel (!k==0) t2 (sel (!st==0) t2 (sel (!en==0) t2 (sel (!kv==0) t2 (sel (!(x==[]&&(y==[]&&z==[]))) t2 (sel (decide ((↑(Zz tk):Int)>0)) t2 (Zx (chk (decide (Zz l≤70368744177664)) (some (Yk (Kerb.pad l),[]))) (kO fun l=>some (Zd [Zk l,Zy .i64 0],[]))))))))) (Zx t5 (kL fun b=>sel (!b) (some (Zd [Zk [],Zy .i64 10],[])) (sel (!Zm st 4294967295) t1 (sel (!Zm en 4294967295) t1 (sel (!Zm kv 255) t1 (Zx t3 (kL fun b=>sel (!b) (some (Zd [Zk [],Zy .i64 103],[])) (sel (decide ((↑(Zz tk):Int)>255)) (some (Zd [Zk [],Zy .i64 105],[])) (Zx t6 (kB fun b=>chk (room (Zz l+Zz b) 1) (Zx (chk (decide (Zz (l++b)≤70368744177664)) (some (Yk (l++b++Yw st 4 false),[]))) (kO fun l=>Zx (chk (decide (Zz l≤70368744177664)) (some (Yk (l++Yw en 4 false),[]))) (kO fun l=>Zx (chk (decide (Zz l≤70368744177664)) (some (Yk (l++Yw kv 1 false),[]))) (kO fun l=>Zx (chk (decide (Zz l+Zz x+Zz y+Zz z≤70368744170000)) (some (Zk (Ux l (Yq x y z)),[]))) (kB fun b=>Zx (chk (decide (Zz b≤70368744177664)) (some (Yk (b++Yw (↑(Zz tk):Int) 1 false),[]))) (kO fun l=>chk (room (Zz l+Zz tk) 1) (Zx (chk (decide (Zz (l++tk)≤70368744177664)) (some (Yk (Kerb.pad (l++tk)),[]))) (kO fun l=>some (Zd [Zk l,Zy .i64 0],[])))))))))))))))))))));sel (lb==[(116:UInt8),(103:UInt8),(115:UInt8),(84:UInt8)]) (sel (!Zm t 4294967295) t1 (Zx t4 (kO fun l=>Zx t5 (kL fun b=>sel (!b) (some (Zd [Zk [],Zy .i64 10],[])) (sel (!Zm st 4294967295) t1 (sel (!Zm en 4294967295) t1 (sel (!Zm kv 255) t1 (Zx t3 (kL fun b=>sel (!b) (some (Zd [Zk [],Zy .i64 103],[])) (sel (decide ((↑(Zz tk):Int)>255)) (some (Zd [Zk [],Zy .i64 105],[])) (Zx t6 (kB fun b=>chk (room (Zz l+Zz b) 1) (Zx (chk (decide (Zz (l++b)≤70368744177664)) (some (Yk (l++b++Yw st 4 false),[]))) (kO fun l=>Zx (chk (decide (Zz l≤70368744177664)) (some (Yk (l++Yw en 4 false),[]))) (kO fun l=>Zx (chk (decide (Zz l≤70368744177664)) (some (Yk (l++Yw kv 1 false),[]))) (kO fun l=>Zx (chk (decide (Zz l+Zz x+Zz y+Zz z≤70368744170000)) (some (Zk (Ux l (Yq x y z)),[]))) (kB fun b=>Zx (chk (decide (Zz b≤70368744177664)) (some (Yk (b++Yw (↑(Zz tk):Int) 1 false),[]))) (kO fun l=>chk (room (Zz l+Zz tk) 1) (Zx (chk (decide (Zz (l++tk)≤70368744177664)) (some (Yk (Kerb.pad (l++tk)),[]))) (kO fun l=>some (Zd [Zk l,Zy .i64 0],[]))))))))))))))))))))) (sel (!lb==[(116:UInt8),(107:UInt8),(116:UInt8),(71:UInt8)]) (sel (!lb==[(67:UInt8),(80:UInt8),(87:UInt8),(100:UInt8)]) (some (Zd [Zk [],Zy .i64 80],[])) t0) t0):Option (AV×Blocks))) (by kernel_rfl) ?_
  delta kB kO kL
  try dsimp only [cStr,cBs,cBool,cU8,cInt,cSl,l63]
  have eGet:([103,84,71,83]:List UInt8)=Kerb.lGet:=rfl
  have eTick:([103,84,75,84]:List UInt8)=Kerb.lTicket:=rfl
  have eChg:([67,80,87,108]:List UInt8)=Wf:=rfl
  have eDone:([67,80,87,100]:List UInt8)=Kerb.lDone:=rfl
  have eGot:([116,103,115,84]:List UInt8)=Kerb.lGot:=rfl
  have eGiven:([116,107,116,71]:List UInt8)=Kerb.lGiven:=rfl
  have hpre':=hpre
  simp only [Yv,decide_eq_true_eq] at hpre
  have hk:(decide (0≤k)&&decide (k<18446744073709551616))=true:=by simp;omega
  have hv:(decide (x.length≤9223372036854775807)&&decide (y.length≤9223372036854775807)&&decide (z.length≤9223372036854775807))=true:=by simp;omega
  simp only [A0,eDone,eGot,eGiven,hk,hv]
  unfold Uy
  simp only
  cases hg:(lb==Kerb.lGot)
  case true =>
   have ht:Vf lb=true:=by simp [Vf,hg]
   have hl:lb.length=4:=by rw [eq_of_beq hg];rfl
   simp only [ht,sel_true,Zp,Bool.false_and]
   rw [if_neg (by simp)]
   cases h1:Zm t 4294967295
   ·rfl
   rw [Zp,sel_false,if_neg (by simp),if_pos trivial,chk_of (by simp;omega)]
   cases h2:Ym k
   ·rfl
   rw [Zp,sel_false,if_neg (by simp)]
   cases h3:Zm st 4294967295
   ·rfl
   rw [Zp,sel_false]
   cases h4:Zm en 4294967295
   ·rfl
   rw [Zp,sel_false]
   cases h5:Zm kv 255
   ·rfl
   rw [Zp,sel_false,if_neg (by simp)]
   cases h6:Xg ⟨x,y,z⟩
   ·rfl
   have l1:=Uu h6
   simp only at l1
   rw [Zp,sel_false,if_neg (by simp)]
   by_cases h7:255<tk.length
   ·rw [sel_pos (by simp;omega),if_pos h7]
   rw [sel_neg (by simp;omega),if_neg h7]
   rw [chk_of (Yf (by simp [Zv,Zw];omega)),chk_of (by simp [Zv,Zw];omega),chk_of (by simp [Zv,Zw];omega),chk_of (by simp [Zv,Zw];omega),chk_of (by simp [Zv,Zw];omega),chk_of (by simp [Zv,Zw,Zq];omega),chk_of (Yf (by simp [Zv,Zw,Zq];omega)),chk_of (by simp [Zv,Zw,Zq];omega)]
   simp [Kerb.putTick]
  cases hgv:(lb==Kerb.lGiven)
  case true =>
   have ht:Vf lb=true:=by simp [Vf,hgv]
   have hl:lb.length=4:=by rw [eq_of_beq hgv];rfl
   simp only [ht,sel_true,sel_false,Zp,Bool.false_and]
   rw [if_neg (by simp)]
   cases h1:Zm t 4294967295
   ·rfl
   rw [Zp,sel_false,if_neg (by simp),if_pos trivial,chk_of (by simp;omega)]
   cases h2:Ym k
   ·rfl
   rw [Zp,sel_false,if_neg (by simp)]
   cases h3:Zm st 4294967295
   ·rfl
   rw [Zp,sel_false]
   cases h4:Zm en 4294967295
   ·rfl
   rw [Zp,sel_false]
   cases h5:Zm kv 255
   ·rfl
   rw [Zp,sel_false,if_neg (by simp)]
   cases h6:Xg ⟨x,y,z⟩
   ·rfl
   have l1:=Uu h6
   simp only at l1
   rw [Zp,sel_false,if_neg (by simp)]
   by_cases h7:255<tk.length
   ·rw [sel_pos (by simp;omega),if_pos h7]
   rw [sel_neg (by simp;omega),if_neg h7]
   rw [chk_of (Yf (by simp [Zv,Zw];omega)),chk_of (by simp [Zv,Zw];omega),chk_of (by simp [Zv,Zw];omega),chk_of (by simp [Zv,Zw];omega),chk_of (by simp [Zv,Zw];omega),chk_of (by simp [Zv,Zw,Zq];omega),chk_of (Yf (by simp [Zv,Zw,Zq];omega)),chk_of (by simp [Zv,Zw,Zq];omega)]
   simp [Kerb.putTick]
  have ht:Vf lb=false:=by simp [Vf,hg,hgv]
  simp only [ht,sel_true,sel_false,Xb,Bool.true_and]
  cases hc:(lb==Kerb.lDone)
  ·rfl
  have hl:lb.length=4:=by rw [eq_of_beq hc];rfl
  rw [Zp,sel_false,if_neg (by simp)]
  cases h1:Zm t 4294967295
  ·rfl
  rw [Zp,sel_false,if_neg (by simp),if_neg (by simp),chk_of (by simp;omega)]
  by_cases h2:k=0
  case neg=>rw [sel_pos (by simpa using h2),if_pos (.inl h2)]
  rw [sel_neg (by simp [h2])]
  by_cases h3:st=0
  case neg=>rw [sel_pos (by simpa using h3),if_pos (.inr (.inl h3))]
  rw [sel_neg (by simp [h3])]
  by_cases h4:en=0
  case neg=>rw [sel_pos (by simpa using h4),if_pos (.inr (.inr (.inl h4)))]
  rw [sel_neg (by simp [h4])]
  by_cases h5:kv=0
  case neg=>rw [sel_pos (by simpa using h5),if_pos (.inr (.inr (.inr (.inl h5))))]
  rw [sel_neg (by simp [h5])]
  show sel (!(Kerb.Prin.isNo ⟨x,y,z⟩)) _ _=_
  cases h6:Kerb.Prin.isNo ⟨x,y,z⟩
  ·rw [if_pos (.inr (.inr (.inr (.inr (.inl rfl)))))];rfl
  rw [Zp,sel_false]
  by_cases h7:tk=[]
  case neg=>rw [sel_pos (by have:=List.length_pos_iff.2 h7;simp;omega),if_pos (.inr (.inr (.inr (.inr (.inr h7)))))]
  rw [sel_neg (by simp [h7]),if_neg (by simp [h2,h3,h4,h5,h7]),chk_of (by simp [Zv];omega)]
 ·cases h
theorem w95:Walked Tryz.prog G 95 4 sp95:=by
 refine ⟨Tryz.f95,Tryz.func95,by decide +kernel,rfl,fun xs bl r h=> ?_⟩
 unfold sp95 at h
 split at h
 ·rename_i kd k bd
  obtain ⟨hpre,h2⟩:=chk_inv h;cases h2
  refine Eq.trans (b:=(let t0:List UInt8:=[UInt8.ofNat (Zf (Yz .u8 (Int.fdiv (↑(Zz bd):Int) (2 ^ min (Zf 8) (Xv .i64))))),UInt8.ofNat (Zf (Yz .u8 (↑(Zz bd):Int)))];let t1:List UInt8:=List.replicate (Zf 0) (0:UInt8)++[(66:UInt8),UInt8.ofNat (Zf (Yz .u8 kd))];let t2:Int:=Yz .i64 (12+(↑(Zz bd):Int));sel (!Vq kd) (some (Zd [Zk [],Zy .i64 104],[])) (Zx (chk (decide (0≤k)&&decide (k<18446744073709551616)) (some (Zj (Ym k),[]))) (kL fun b=>sel (!b) (some (Zd [Zk [],Zy .i64 10],[])) (sel (decide ((↑(Zz bd):Int)>1000)) (some (Zd [Zk [],Zy .i64 105],[])) (chk (decide (0≤t2)&&decide (t2≤140737488355328)) (chk (room (Zz (List.replicate (Zf 0) (0:UInt8))+Zz [(66:UInt8),UInt8.ofNat (Zf (Yz .u8 kd))]) 1) (Zx (chk (decide (0≤k)&&decide (k<18446744073709551616)) (some (Zk (Ub k),[]))) (kB fun b=>chk (room (Zz t1+Zz b) 1) (chk (room (Zz (t1++b)+Zz t0) 1) (chk (room (Zz (t1++b++t0)+Zz bd) 1) (some (Zd [Zk (t1++b++t0++bd),Zy .i64 0],[]))))))))))):Option (AV×Blocks))) (by kernel_rfl) ?_
  delta kB kL
  try dsimp only [cStr,cBs,cBool,cU8,cInt,cSl,l63]
  simp only [A0,Kerb.Client.av,Kerb.Cache.av,Kerb.Cred.av,hpre]
  unfold Uw
  cases h1:Vq kd
  ·rfl
  rw [Zp,sel_false,if_neg (by simp)]
  cases h2:Ym k
  ·rfl
  rw [Zp,sel_false,if_neg (by simp)]
  by_cases h3:1000<bd.length
  ·rw [sel_pos (by simp;omega),if_pos h3]
  have hk:1≤kd∧kd≤10:=by simp [Vq] at h1;omega
  have lk:=Zw k
  rw [sel_neg (by simp;omega),if_neg h3,wrap_i64 (by omega) (by omega),chk_of (by simp;omega),chk_of (Yf (by simp)),chk_of (Yf (by simp;omega)),chk_of (Yf (by simp;omega)),chk_of (Yf (by simp;omega)),Kerb.two_bytes,Kerb.wrap_u8,Int.emod_eq_of_lt (by omega) (by omega)]
  rfl
 ·cases h
theorem w97:Walked Tryz.prog G 97 4 sp97:=by
 refine ⟨Tryz.f97,Tryz.func97,by decide +kernel,rfl,fun xs bl r h=> ?_⟩
 unfold sp97 at h
 split at h
 ·rename_i rl els n i now
  obtain ⟨hpre,h2⟩:=chk_inv h;cases h2
  refine Eq.trans (b:=(Zx (chk (Vb els Wg&&decide (Zz els≤1000000)) (some (Zd [Zy .i64 (Zb (Vn (Xd rl (Yn Yb els)) n i now 2 2 6)),Zy .i64 (Zg (Vn (Xd rl (Yn Yb els)) n i now 2 2 6))],[]))) fun (r:AV×Blocks)=>onNilB (Zg r) (Wy (Zb r) fun vs=>onCons vs fun x r=>Yy .i64 x fun n=>onCons r fun x r=>Yy .i64 x fun n_1=>onNil r (some (Zd [Zy .i64 n,Zy .i64 n_1],[]))):Option (AV×Blocks))) (by kernel_rfl) ?_
  simp only [hpre,↓A0,A0]
  rfl
 ·cases h
theorem w117:Walked Tryz.prog G 117 4 sp117:=by
 refine ⟨Tryz.f117,Tryz.func117,by decide +kernel,rfl,fun xs bl r h=> ?_⟩
 unfold sp117 at h
 split at h
 ·rename_i B at_ bad
  obtain ⟨hpre,h2⟩:=chk_inv h;cases h2
  show runFnH (G.env 117 4) G.rts (G.own 117) Tryz.f117 _ _ [0]=_
  refine Eq.trans (b:=(Zx (chk (decide (Zz B≤4611686018427387904)) (some (Zd [Zy .i64 (Yh (Zh B at_ 1 false)),Zy .i64 (Yg (Zh B at_ 1 false)),Zy .i64 (Yx (Zh B at_ 1 false))],[]))) fun (r:AV×Blocks)=>onNilB (Zg r) (Wy (Zb r) fun vs=>onCons vs fun x r=>Yy .i64 x fun n=>onCons r fun x r=>Yy .i64 x fun n_1=>onCons r fun x r=>Yy .i64 x fun n_2=>onNil r (sel (!!(bad || !n_2==0)) (some (Zy .i64 0,[[Zk B,Zy .i64 (bif bad || !n_2==0 then at_ else n_1),Zj (bad || !n_2==0)]])) (some (Zy .i64 n,[[Zk B,Zy .i64 (bif bad || !n_2==0 then at_ else n_1),Zj (bad || !n_2==0)]])))):Option (AV×Blocks))) (by kernel_rfl) ?_
  have hb:=of_decide_eq_true hpre
  simp only [A0]
  rw [chk_of (by simp;omega)]
  unfold Kerb.pGet
  cases bad
  ·simp only [Un]
   generalize hq:(!(_==(0:Int)))=q
   cases q<;>rfl
  ·rfl
 ·cases h
theorem w119:Walked Tryz.prog G 119 4 sp119:=by
 refine ⟨Tryz.f119,Tryz.func119,by decide +kernel,rfl,fun xs bl r h=> ?_⟩
 unfold sp119 at h
 split at h
 ·rename_i B at_ bad
  obtain ⟨hpre,h2⟩:=chk_inv h;cases h2
  show runFnH (G.env 119 4) G.rts (G.own 119) Tryz.f119 _ _ [0]=_
  refine Eq.trans (b:=(Zx (chk (decide (Zz B≤4611686018427387904)) (some (Zd [Zy .i64 (Yh (Zh B at_ 2 false)),Zy .i64 (Yg (Zh B at_ 2 false)),Zy .i64 (Yx (Zh B at_ 2 false))],[]))) fun (r:AV×Blocks)=>onNilB (Zg r) (Wy (Zb r) fun vs=>onCons vs fun x r=>Yy .i64 x fun n=>onCons r fun x r=>Yy .i64 x fun n_1=>onCons r fun x r=>Yy .i64 x fun n_2=>onNil r (sel (!!(bad || !n_2==0)) (some (Zy .i64 0,[[Zk B,Zy .i64 (bif bad || !n_2==0 then at_ else n_1),Zj (bad || !n_2==0)]])) (some (Zy .i64 n,[[Zk B,Zy .i64 (bif bad || !n_2==0 then at_ else n_1),Zj (bad || !n_2==0)]])))):Option (AV×Blocks))) (by kernel_rfl) ?_
  have hb:=of_decide_eq_true hpre
  simp only [A0]
  rw [chk_of (by simp;omega)]
  unfold Kerb.pGet
  cases bad
  ·simp only [Un]
   generalize hq:(!(_==(0:Int)))=q
   cases q<;>rfl
  ·rfl
 ·cases h
theorem w145:Walked Tryz.prog G 145 4 sp145:=by
 refine ⟨Tryz.f145,Tryz.func145,by decide +kernel,rfl,fun xs bl r h=> ?_⟩
 unfold sp145 at h
 split at h
 ·rename_i B at_ bad
  obtain ⟨hpre,h2⟩:=chk_inv h;cases h2
  show runFnH (G.env 145 4) G.rts (G.own 145) Tryz.f145 _ _ [0]=_
  refine Eq.trans (b:=(Zx (chk (decide (Zz B≤4611686018427387904)) (some (Zd [Zu (Xh (Wx B at_)),Zy .i64 (Xf (Wx B at_)),Zy .i64 (Yj (Wx B at_))],[]))) fun (r:AV×Blocks)=>onNilB (Zg r) (Wy (Zb r) fun vs=>onCons vs fun x r=>AV.onStr x fun b=>onCons r fun x r=>Yy .i64 x fun n=>onCons r fun x r=>Yy .i64 x fun n_1=>onNil r (sel (!!(bad || !n_1==0)) (some (Zu [],[[Zk B,Zy .i64 (bif bad || !n_1==0 then at_ else n),Zj (bad || !n_1==0)]])) (some (Zu b,[[Zk B,Zy .i64 (bif bad || !n_1==0 then at_ else n),Zj (bad || !n_1==0)]])))):Option (AV×Blocks))) (by kernel_rfl) ?_
  have hb:=of_decide_eq_true hpre
  simp only [A0]
  rw [chk_of (by simp;omega)]
  unfold Kerb.pText
  cases bad
  ·simp only [Un]
   generalize hq:(!(_==(0:Int)))=q
   cases q<;>rfl
  ·rfl
 ·cases h
theorem w178:Walked Tryz.prog G 178 4 sp178:=by
 refine ⟨Tryz.f178,Tryz.func178,by decide +kernel,rfl,fun xs bl r h=> ?_⟩
 unfold sp178 at h
 split at h
 ·rename_i lb t st en k
  obtain ⟨hpre,h2⟩:=chk_inv h;cases h2
  refine Eq.trans (b:=(sel (!Kerb.timed lb) (sel (!lb==[(67:UInt8),(80:UInt8),(87:UInt8),(108:UInt8)]) (some (Zy .i64 80,[])) (sel (!Zm t 4294967295) (some (Zy .i64 104,[])) (sel (Kerb.timed lb) (sel (!Zm st 4294967295) (some (Zy .i64 104,[])) (sel (!Zm en 4294967295) (some (Zy .i64 104,[])) (sel (!k==0) (some (Zy .i64 108,[])) (some (Zy .i64 0,[]))))) (Zx (chk (decide (0≤k)&&decide (k<18446744073709551616)) (some (Zj (Ym k),[]))) fun (r:AV×Blocks)=>onNilB (Zg r) (Vj (Zb r) fun b=>sel (!b) (some (Zy .i64 10,[])) (sel (!st==0) (some (Zy .i64 108,[])) (sel (!en==0) (some (Zy .i64 108,[])) (some (Zy .i64 0,[]))))))))) (sel (!Zm t 4294967295) (some (Zy .i64 104,[])) (sel (Kerb.timed lb) (sel (!Zm st 4294967295) (some (Zy .i64 104,[])) (sel (!Zm en 4294967295) (some (Zy .i64 104,[])) (sel (!k==0) (some (Zy .i64 108,[])) (some (Zy .i64 0,[]))))) (Zx (chk (decide (0≤k)&&decide (k<18446744073709551616)) (some (Zj (Ym k),[]))) fun (r:AV×Blocks)=>onNilB (Zg r) (Vj (Zb r) fun b=>sel (!b) (some (Zy .i64 10,[])) (sel (!st==0) (some (Zy .i64 108,[])) (sel (!en==0) (some (Zy .i64 108,[])) (some (Zy .i64 0,[])))))))):Option (AV×Blocks))) (by kernel_rfl) ?_
  have eGet:([103,84,71,83]:List UInt8)=Kerb.lGet:=rfl
  have eTick:([103,84,75,84]:List UInt8)=Kerb.lTicket:=rfl
  have eChg:([67,80,87,108]:List UInt8)=Wf:=rfl
  have eDone:([67,80,87,100]:List UInt8)=Kerb.lDone:=rfl
  have eGot:([116,103,115,84]:List UInt8)=Kerb.lGot:=rfl
  have eGiven:([116,107,116,71]:List UInt8)=Kerb.lGiven:=rfl
  simp only [A0,eChg,hpre]
  unfold Xw
  simp only
  cases ht:Kerb.timed lb
  ·rw [Xb,sel_true]
   cases hc:(lb==Wf)
   ·rfl
   rw [Zp,sel_false,if_neg (by simp)]
   cases h1:Zm t 4294967295
   ·rfl
   rw [Zp,sel_false,if_neg (by simp),sel_false,if_neg (by simp)]
   cases h2:Ym k
   ·rfl
   rw [Zp,sel_false,if_neg (by simp)]
   by_cases h3:st=0
   case neg=>rw [sel_pos (by simpa using h3),if_pos (.inl h3)]
   rw [sel_neg (by simp [h3])]
   by_cases h4:en=0
   case neg=>rw [sel_pos (by simpa using h4),if_pos (.inr h4)]
   rw [sel_neg (by simp [h4]),if_neg (by simp [h3,h4])]
  ·rw [Zp,sel_false,if_neg (by simp)]
   cases h1:Zm t 4294967295
   ·rfl
   rw [Zp,sel_false,if_neg (by simp),sel_true,if_pos rfl]
   cases h2:Zm st 4294967295
   ·rfl
   rw [Zp,sel_false]
   cases h3:Zm en 4294967295
   ·rfl
   rw [Zp,sel_false,if_neg (by simp)]
   by_cases h4:k=0
   ·rw [sel_neg (by simp [h4]),if_neg (by simp [h4])]
   ·rw [sel_pos (by simpa using h4),if_pos h4]
 ·cases h
theorem w179:Walked Tryz.prog G 179 4 sp179:=by
 refine ⟨Tryz.f179,Tryz.func179,by decide +kernel,rfl,fun xs bl r h=> ?_⟩
 unfold sp179 at h
 split at h
 ·rename_i b n little
  obtain ⟨hpre,h2⟩:=chk_inv h;cases h2
  refine Eq.trans (b:=(Zx (chk (decide (Zz b≤70368744177664)) (some (Yk (b++Yw n (Zf 4) little),[]))) fun (r:AV×Blocks)=>onNilB (Zg r) (AV.onOwnB (Zb r) fun l=>some (Yk l,[])):Option (AV×Blocks))) (by kernel_rfl) ?_
  simp only [decide_eq_true_eq] at hpre
  simp only [A0]
  rw [chk_of (by simp;omega)]
  rfl
 ·cases h
theorem w186:Walked Tryz.prog G 186 4 sp186:=by
 refine ⟨Tryz.f186,Tryz.func186,by decide +kernel,rfl,fun xs bl r h=> ?_⟩
 unfold sp186 at h
 split at h
 ·rename_i b n
  obtain ⟨hpre,h2⟩:=chk_inv h;cases h2
  refine Eq.trans (b:=(Zx (chk (decide (Zz b≤70368744177664)) (some (Yk (b++Yw n (Zf 1) false),[]))) fun (r:AV×Blocks)=>onNilB (Zg r) (AV.onOwnB (Zb r) fun l=>some (Yk l,[])):Option (AV×Blocks))) (by kernel_rfl) ?_
  simp only [decide_eq_true_eq] at hpre
  simp only [A0]
  rw [chk_of (by simp;omega)]
  rfl
 ·cases h
theorem w189:Walked Tryz.prog G 189 4 sp189:=by
 refine ⟨Tryz.f189,Tryz.func189,by decide +kernel,rfl,fun xs bl r h=> ?_⟩
 unfold sp189 at h
 split at h
 ·rename_i b x y z
  obtain ⟨hpre,h2⟩:=chk_inv h;cases h2
  refine Eq.trans (b:=(Zx (chk (decide (Zz b+Zz x≤70368744177664)) (some (Zk (Yd b x),[]))) fun (r:AV×Blocks)=>onNilB (Zg r) (Wp (Zb r) fun b=>Zx (chk (decide (Zz b+Zz y≤70368744177664)) (some (Zk (Yd b y),[]))) fun (r:AV×Blocks)=>onNilB (Zg r) (Wp (Zb r) fun b=>Zx (chk (decide (Zz b+Zz z≤70368744177664)) (some (Zk (Yd b z),[]))) fun (r:AV×Blocks)=>onNilB (Zg r) (Wp (Zb r) fun b=>some (Zk b,[])))):Option (AV×Blocks))) (by kernel_rfl) ?_
  simp only [decide_eq_true_eq] at hpre
  simp only [A0]
  rw [chk_of (by simp;omega),chk_of (by simp [Yd];omega),chk_of (by simp [Yd];omega)]
  rfl
 ·cases h
theorem w194:Walked Tryz.prog G 194 4 sp194:=by
 refine ⟨Tryz.f194,Tryz.func194,by decide +kernel,rfl,fun xs bl r h=> ?_⟩
 unfold sp194 at h
 split at h
 ·rename_i k x y z lf kv tk t little
  obtain ⟨hpre,h2⟩:=chk_inv h;cases h2
  refine Eq.trans (b:=(let t0:List UInt8:=[]++Yw (bif little then 1 else 0) 1 false;let t1:Option (AV×Blocks):=some (Zd [Zk [],Zy .i64 104],[]);Zx (chk (decide (0≤k)&&decide (k<18446744073709551616)) (some (Zj (Ym k),[]))) (kL fun b=>sel (!b) (some (Zd [Zk [],Zy .i64 10],[])) (Zx (chk (l63 x&&l63 y&&l63 z) (some (Zj (Xg (Yq x y z)),[]))) (kL fun b=>sel (!b) (some (Zd [Zk [],Zy .i64 103],[])) (sel (!Zm lf 255) t1 (sel (!Zm kv 255) t1 (sel (!Zm t 4294967295) t1 (sel (decide ((↑(Zz tk):Int)>255)) (some (Zd [Zk [],Zy .i64 105],[])) (Zx (chk (decide (0≤k)&&decide (k<18446744073709551616)) (some (Zk (Ub k),[]))) (kB fun b=>let t2:Nat:=Zz (t0++b)+Zz x+Zz y+Zz z;chk (room (Zz t0+Zz b) 1) (Zx (chk (decide (t2≤70368744170000)) (some (Zk (Ux (t0++b) (Yq x y z)),[]))) (kB fun b=>Zx (chk (decide (Zz b≤70368744177664)) (some (Yk (b++Yw lf 1 false),[]))) (kO fun l=>Zx (chk (decide (Zz l≤70368744177664)) (some (Yk (l++Yw kv 1 false),[]))) (kO fun l=>Zx (chk (decide (Zz l≤70368744177664)) (some (Yk (l++Yw (↑(Zz tk):Int) 1 false),[]))) (kO fun l=>chk (room (Zz l+Zz tk) 1) (Zx (chk (decide (Zz (l++tk)≤70368744177664)) (some (Yk (l++tk++Yw t 4 little),[]))) (kO fun l=>Zx (chk (decide (Zz l≤70368744177664)) (some (Yk (Kerb.pad l),[]))) (kO fun l=>some (Zd [Zk l,Zy .i64 0],[])))))))))))))))))):Option (AV×Blocks))) (by kernel_rfl) ?_
  delta kB kO kL
  try dsimp only [cStr,cBs,cBool,cU8,cInt,cSl,l63]
  simp only [Yv,decide_eq_true_eq] at hpre
  obtain ⟨⟨⟨⟨q1,q2⟩,q3⟩,h0⟩,h1⟩:=hpre
  simp only [A0]
  unfold Kerb.encodePart
  rw [chk_of (by simp [h0,h1])]
  cases hk:Ym k
  ·rfl
  rw [Zp,sel_false,chk_of (by simp [q1,q2,q3])]
  cases h1:Xg ⟨x,y,z⟩
  ·rfl
  rw [Zp,sel_false]
  cases h4:Zm lf 255
  ·rfl
  rw [Zp,sel_false]
  cases h5:Zm kv 255
  ·rfl
  rw [Zp,sel_false]
  cases h6:Zm t 4294967295
  ·rfl
  rw [Zp,sel_false]
  by_cases h7:255<tk.length
  ·rw [sel_pos (by simp;omega),if_neg (by simp),if_neg (by simp),if_neg (by simp),if_pos h7]
  have l1:=Uu h1
  simp only at l1
  rw [sel_neg (by simp;omega),if_neg (by simp),if_neg (by simp),if_neg (by simp),if_neg h7]
  rw [chk_of (by simp;omega),chk_of (Yf (by first | (simp [Zq,Zv,Zw];done) | (simp [Zq,Zv,Zw];omega))),chk_of (by first | (simp [Zq,Zv,Zw];done) | (simp [Zq,Zv,Zw];omega)),chk_of (by first | (simp [Zq,Zv,Zw];done) | (simp [Zq,Zv,Zw];omega)),chk_of (by first | (simp [Zq,Zv,Zw];done) | (simp [Zq,Zv,Zw];omega)),chk_of (by first | (simp [Zq,Zv,Zw];done) | (simp [Zq,Zv,Zw];omega)),chk_of (Yf (by first | (simp [Zq,Zv,Zw];done) | (simp [Zq,Zv,Zw];omega))),chk_of (by first | (simp [Zq,Zv,Zw];done) | (simp [Zq,Zv,Zw];omega)),chk_of (by first | (simp [Zq,Zv,Zw];done) | (simp [Zq,Zv,Zw];omega))]
  simp
 ·cases h
theorem w205:Walked Tryz.prog G 205 4 sp205:=by
 refine ⟨Tryz.f205,Tryz.func205,by decide +kernel,rfl,fun xs bl r h=> ?_⟩
 unfold sp205 at h
 split at h
 ·rename_i B at_ bad
  obtain ⟨hpre,h2⟩:=chk_inv h;cases h2
  show runFnH (G.env 205 4) G.rts (G.own 205) Tryz.f205 _ _ [0]=_
  refine Eq.trans (b:=(Zx (chk (decide (Zz B≤4611686018427387904)) (some (Zd [Zy .i64 (Yh (Zh B at_ 4 false)),Zy .i64 (Yg (Zh B at_ 4 false)),Zy .i64 (Yx (Zh B at_ 4 false))],[]))) fun (r:AV×Blocks)=>onNilB (Zg r) (Wy (Zb r) fun vs=>onCons vs fun x r=>Yy .i64 x fun n=>onCons r fun x r=>Yy .i64 x fun n_1=>onCons r fun x r=>Yy .i64 x fun n_2=>onNil r (sel (!!(bad || !n_2==0)) (some (Zy .i64 0,[[Zk B,Zy .i64 (bif bad || !n_2==0 then at_ else n_1),Zj (bad || !n_2==0)]])) (some (Zy .i64 n,[[Zk B,Zy .i64 (bif bad || !n_2==0 then at_ else n_1),Zj (bad || !n_2==0)]])))):Option (AV×Blocks))) (by kernel_rfl) ?_
  have hb:=of_decide_eq_true hpre
  simp only [A0]
  rw [chk_of (by simp;omega)]
  unfold Kerb.pGet
  cases bad
  ·simp only [Un]
   generalize hq:(!(_==(0:Int)))=q
   cases q<;>rfl
  ·rfl
 ·cases h
theorem w210:Walked Tryz.prog G 210 4 sp210:=by
 refine ⟨Tryz.f210,Tryz.func210,by decide +kernel,rfl,fun xs bl r h=> ?_⟩
 unfold sp210 at h
 split at h
 ·rename_i s bad
  obtain ⟨hpre,h2⟩:=chk_inv h;cases h2
  refine Eq.trans (b:=(Zx (loopM (fun (st:List AV)=>cStr st fun b r=>cStr r fun b_1 r=>cBool r fun b_2 r=>cInt .i64 r fun n r=>cInt .i64 r fun n_1 r=>let t0:Option (List AV ⊕ Ex×List AV):=some (Sum.inr (Ex.ret,[Zu b,Zu b_1,Zj false,Zy .i64 n,Zy .i64 n_1]));let t1:Bool:=decide (0≤n_1)&&decide (n_1<(↑(Zz b):Int));let t2:Int:=(↑(Wu (Xx b (Zf n_1) (0:UInt8))):Int);onNil r (sel (decide (n_1<n)) (chk t1 (sel (decide (t2<(↑(Wu (33:UInt8)):Int))) t0 (chk t1 (sel (decide (t2>(↑(Wu (126:UInt8)):Int))) t0 (chk t1 (sel (decide (Kerb.indexOf (Xx b (Zf n_1) (0:UInt8)) b_1≥0)) t0 (some (Sum.inl [Zu b,Zu b_1,Zj b_2,Zy .i64 n,Zy .i64 (Yz .i64 (n_1+1))])))))))) (some (Sum.inr (Ex.exit 0,[Zu b,Zu b_1,Zj b_2,Zy .i64 n,Zy .i64 n_1]))))) [Zu s,Zu bad,Zj false,Zy .i64 (↑(Zz s):Int),Zy .i64 0]) fun (r:Ex×List AV)=>cStr (Zg r) fun b r_1=>cStr r_1 fun b r_2=>cBool r_2 fun b r_3=>cInt .i64 r_3 fun n r_4=>cInt .i64 r_4 fun n r_5=>onNil r_5 (exK r.1 (some (Zj b,[])) fun (j:Nat)=>sel (Nat.beq j 0) (some (Zj true,[])) none):Option (AV×Blocks))) (by kernel_rfl) ?_
  try dsimp only [cStr,cBs,cBool,cU8,cInt,cSl,l63]
  simp only [decide_eq_true_eq] at hpre
  refine loop_rounds (fun i:Nat=>[Zu s,Zu bad,Zj false,Zy Zn (s.length:Int),Zy Zn (i:Int)]) (fun i=>i≤s.length∧Wk s bad=Wk (s.drop i) bad) (fun i=>s.length-i)
   (fun r=>∃ i:Nat,r.2=[Zu s,Zu bad,Zj false,Zy Zn (s.length:Int),Zy Zn (i:Int)]∧((r.1 = .ret∧Wk s bad=false)∨(r.1 = .exit 0∧Wk s bad=true))) 0 ⟨Nat.zero_le _,rfl⟩ rfl ?_ ?_
  ·rintro i ⟨hi,hp⟩
   simp only [A0]
   by_cases hlt:i<s.length
   ·have hc:(decide ((0:Int)≤(i:Int))&&decide ((i:Int)<(s.length:Int)))=true:=by simp;omega
    have hd:=Kerb.drop_all_cons hlt
    rw [sel_pos (by simp;omega),chk_of hc,Wm]
    have hpr:Wk (s.drop i) bad=(Kerb.okB bad (s.getD i 0)&&Wk (s.drop (i+1)) bad):=by rw [hd];rfl
    generalize s.getD i 0=c at *
    by_cases h1:c.toNat<33
    ·rw [sel_pos (by simp;omega)]
     exact ⟨_,rfl,i,rfl,.inl ⟨rfl,by rw [hp,hpr];simp [Kerb.okB,h1]⟩⟩
    rw [sel_neg (by simp;omega),chk_of hc]
    by_cases h2:126<c.toNat
    ·rw [sel_pos (by simp;omega)]
     exact ⟨_,rfl,i,rfl,.inl ⟨rfl,by rw [hp,hpr];simp [Kerb.okB,h2]⟩⟩
    rw [sel_neg (by simp;omega),chk_of hc]
    have h4:=Kerb.indexOf_nonneg c bad
    by_cases h3:c∈bad
    ·rw [sel_pos (by simpa using h4.2 h3)]
     exact ⟨_,rfl,i,rfl,.inl ⟨rfl,by rw [hp,hpr];simp [Kerb.okB,h3]⟩⟩
    rw [sel_neg (by have:=mt h4.1 h3;simp;omega),wrap_i64 (by omega) (by omega)]
    exact ⟨_,rfl,i+1,rfl,⟨by omega,by rw [hp,hpr];simp [Kerb.okB,h1,h2,h3]⟩,by dsimp only;omega⟩
   ·rw [sel_neg (by simp;omega)]
    exact ⟨_,rfl,i,rfl,.inr ⟨rfl,by rw [hp,List.drop_eq_nil_of_le (by omega)];rfl⟩⟩
  ·rintro ⟨e,l⟩ ⟨i,rfl,⟨rfl,hp⟩ | ⟨rfl,hp⟩⟩
   ·simp only [A0,hp]
   ·simp only [A0,hp]
    rfl
 ·cases h
theorem w213:Walked Tryz.prog G 213 4 sp213:=by
 refine ⟨Tryz.f213,Tryz.func213,by decide +kernel,rfl,fun xs bl r h=> ?_⟩
 unfold sp213 at h
 split at h
 ·rename_i li x y z ad k lf iss sv ins
  obtain ⟨hpre,h2⟩:=chk_inv h;cases h2
  refine Eq.trans (b:=(Zx (chk (decide (Zz x≤9223372036854775807)&&decide (Zz y≤9223372036854775807)&&decide (Zz z≤9223372036854775807)) (some (Zj (Xg (Yq x y z)),[]))) fun (r:AV×Blocks)=>onNilB (Zg r) (Vj (Zb r) fun b=>sel (!b) (some (Zy .i64 103,[])) (Zx (chk (decide (Zz sv≤9223372036854775807)) (some (Zj (Uq sv),[]))) fun (r:AV×Blocks)=>onNilB (Zg r) (Vj (Zb r) fun b=>sel (!b) (some (Zy .i64 103,[])) (Zx (chk (decide (Zz ins≤9223372036854775807)) (some (Zj (Uj ins),[]))) fun (r:AV×Blocks)=>onNilB (Zg r) (Vj (Zb r) fun b=>sel (!b) (some (Zy .i64 103,[])) (Zx (chk (decide (0≤k)&&decide (k<18446744073709551616)) (some (Zy .i64 (Kerb.classOf k),[]))) fun (r:AV×Blocks)=>onNilB (Zg r) (Yy .i64 (Zb r) fun n=>sel (!n==2) (some (Zy .i64 10,[])) (sel (!Zm ad 4294967295) (some (Zy .i64 104,[])) (sel (!Zm lf 255) (some (Zy .i64 104,[])) (sel (!Zm iss 4294967295) (some (Zy .i64 104,[])) (some (Zy .i64 0,[])))))))))))):Option (AV×Blocks))) (by kernel_rfl) ?_
  simp only [Yv,decide_eq_true_eq] at hpre
  obtain ⟨⟨⟨⟨⟨⟨h1,h2⟩,h3⟩,h4⟩,h5⟩,h6⟩,h7⟩:=hpre
  simp only [h1,h2,h3,h4,h5,h6,h7,decide_true,Xu,↓A0,A0]
  unfold Kerb.Ticket.err
  dsimp only
  cases Xg ⟨x,y,z⟩
  ·rfl
  cases Uq sv
  ·rfl
  cases Uj ins
  ·rfl
  simp only [Zp,Xu,sel_false]
  by_cases hc:Kerb.classOf k=2
  case neg=>rw [sel_pos (by simpa using hc),if_neg (by simp),if_pos hc]
  rw [sel_neg (by simp [hc]),if_neg (by simp),if_neg (by simp [hc])]
  cases Zm ad 4294967295
  ·rfl
  cases Zm lf 255
  ·rfl
  cases Zm iss 4294967295
  ·rfl
  rfl
 ·cases h
theorem w227:Walked Tryz.prog G 227 4 sp227:=by
 refine ⟨Tryz.f227,Tryz.func227,by decide +kernel,rfl,fun xs bl r h=> ?_⟩
 unfold sp227 at h
 split at h
 ·rename_i rl els n i now bit xp br
  obtain ⟨hpre,h2⟩:=chk_inv h;cases h2
  refine Eq.trans (b:=(Zx (chk (Vb els Wg&&decide (Zz els≤1000000)) (some (Zd [Zy .i64 (Zb (Kerb.findEnt (Yn Yb els) n i)),Zy .i64 (Zg (Kerb.findEnt (Yn Yb els) n i))],[]))) (kT fun vs=>cInt .i64 vs fun n r=>cInt .i64 r fun n_1 r=>onNil r (sel (!n_1==0) (some (Zd [Zy .i64 0,Zy .i64 n_1],[])) (chk (decide (0≤n)&&decide (n<(↑(Zz els):Int))&&true) (Wd (Xx els (Zf n) Uz) fun cs=>cStr cs fun b r=>cStr r fun b r=>cInt .u64 r fun n_2 r=>cInt .i64 r fun n_3 r=>cInt .i64 r fun n_4 r=>cInt .i64 r fun n_5 r=>cInt .i64 r fun n_6 r=>let t0:Option (AV×Blocks):=sel (!Yz .i64 (↑(BitVec.toNat (BitVec.ofInt (Xv .i64) n_6 &&& BitVec.ofInt (Xv .i64) bit)):Int)==0) (some (Zd [Zy .i64 0,Zy .i64 br],[])) (some (Zd [Zy .i64 n,Zy .i64 0],[]));cInt .i64 r fun n r=>cInt .i64 r fun n r=>onNil r (Zx (chk (decide (0≤n_2)&&decide (n_2<18446744073709551616)) (some (Zj (Ym n_2),[]))) (kL fun b=>sel (!b) (some (Zd [Zy .i64 0,Zy .i64 10],[])) (sel (!n_4==0) (sel (decide (n_4≤now)) (some (Zd [Zy .i64 0,Zy .i64 xp],[])) t0) t0))))))):Option (AV×Blocks))) (by kernel_rfl) ?_
  delta kT kL
  try dsimp only [cStr,cBs,cBool,cU8,cInt,cSl,l63]
  simp only [Yv,decide_eq_true_eq] at hpre
  obtain ⟨hall,hlen⟩:=hpre
  obtain ⟨es,rfl,hok⟩:=Kerb.ents_of hall
  simp only [hall,hlen,Vd,decide_true,Xu,↓A0,A0]
  unfold Vn
  dsimp only
  have hf:=Kerb.find_count (es:=es) (n:=n) (i:=i)
  generalize Kerb.findEnt es n i=F at hf
  obtain ⟨j,e⟩:=F
  dsimp only at hf ⊢
  by_cases he:e=0
  case neg=>rw [sel_pos (by simpa using he),if_pos he]
  obtain ⟨_,f2,f3⟩:=hf he
  subst f2
  rw [sel_neg (by simpa using he),if_neg (by simpa using he),chk_of (by simp only [Wq,Bool.and_true,Yv,decide_eq_true_eq];omega),Wm,Wn f3]
  have hx:=hok _ (Kerb.ent_mem f3)
  generalize es.getD (es.findIdx (Kerb.Entry.named n i)) Kerb.noEntry=x at hx
  obtain ⟨_,_,x3,_⟩:=hx
  have h4:(decide (0≤x.key)&&decide (x.key<18446744073709551616))=true:=x3
  simp only [Yu,↓A0,A0,h4]
  cases hk:Ym x.key
  ·rfl
  simp only [Zp,Xb,sel_true,sel_false]
  rw [if_neg (by simp)]
  have hb:Yz .i64 (BitVec.toNat (BitVec.ofInt (Xv .i64) x.attr &&& BitVec.ofInt (Xv .i64) bit):Int)=Kerb.bitOf x.attr bit:=rfl
  rw [hb]
  by_cases h1:x.expires=0
  ·rw [sel_neg (by simp [h1]),if_neg (by simp [h1])]
   by_cases h2:Kerb.bitOf x.attr bit=0
   ·rw [sel_neg (by simp [h2]),if_neg (by simp [h2])]
   ·rw [sel_pos (by simpa using h2),if_pos h2]
  ·rw [sel_pos (by simpa using h1)]
   by_cases h3:x.expires≤now
   ·rw [sel_pos (by simpa using h3),if_pos ⟨h1,h3⟩]
   ·rw [sel_neg (by simpa using h3),if_neg (by simp [h3])]
    by_cases h2:Kerb.bitOf x.attr bit=0
    ·rw [sel_neg (by simp [h2]),if_neg (by simp [h2])]
    ·rw [sel_pos (by simpa using h2),if_pos h2]
 ·cases h
theorem w230:Walked Tryz.prog G 230 4 sp230:=by
 refine ⟨Tryz.f230,Tryz.func230,by decide +kernel,rfl,fun xs bl r h=> ?_⟩
 unfold sp230 at h
 split at h
 ·rename_i en ei ek ev ex em ea ef et fn fi fk fv fx fm fa ff ft
  cases h
  refine Eq.trans (b:=(some (Zy .i64 (if Kerb.cmpB en fn=0 then Kerb.cmpB ei fi else Kerb.cmpB en fn),[]):Option (AV×Blocks))) (by kernel_rfl) ?_
  rfl
 ·cases h
theorem w238:Walked Tryz.prog G 238 4 sp238:=by
 refine ⟨Tryz.f238,Tryz.func238,by decide +kernel,rfl,fun xs bl r h=> ?_⟩
 unfold sp238 at h
 split at h
 ·rename_i b n little
  obtain ⟨hpre,h2⟩:=chk_inv h;cases h2
  refine Eq.trans (b:=(Zx (chk (decide (Zz b≤70368744177664)) (some (Yk (b++Yw n (Zf 2) little),[]))) fun (r:AV×Blocks)=>onNilB (Zg r) (AV.onOwnB (Zb r) fun l=>some (Yk l,[])):Option (AV×Blocks))) (by kernel_rfl) ?_
  simp only [decide_eq_true_eq] at hpre
  simp only [A0]
  rw [chk_of (by simp;omega)]
  rfl
 ·cases h
theorem w243:Walked Tryz.prog G 243 4 sp243:=by
 refine ⟨Tryz.f243,Tryz.func243,by decide +kernel,rfl,fun xs bl r h=> ?_⟩
 unfold sp243 at h
 split at h
 ·rename_i b
  obtain ⟨hpre,h2⟩:=chk_inv h;cases h2
  refine Eq.trans (b:=(sel (!(↑(Zz b):Int)==8) (some (Zd [Zy .u64 0,Zj false],[])) (Zx (loopM (fun (st:List AV)=>cInt .u64 st fun n r=>cBs r fun b r=>cInt .i64 r fun n_1 r=>cInt .i64 r fun n_2 r=>onNil r (sel (decide (n_2<n_1)) (chk (decide (0≤n_2)&&decide (n_2<(↑(Zz b):Int))) (some (Sum.inl [Zy .u64 (Yz .u64 (↑(BitVec.toNat (BitVec.ofInt (Xv .u64) (Yz .u64 (n*2 ^ min (Zf 8) (Xv .u64))) ||| BitVec.ofInt (Xv .u64) (Yz .u64 (↑(Wu (Xx b (Zf n_2) (0:UInt8))):Int)))):Int)),Zk b,Zy .i64 n_1,Zy .i64 (Yz .i64 (n_2+1))]))) (some (Sum.inr (Ex.exit 0,[Zy .u64 n,Zk b,Zy .i64 n_1,Zy .i64 n_2]))))) [Zy .u64 0,Zk b,Zy .i64 (↑(Zz b):Int),Zy .i64 0]) fun (r:Ex×List AV)=>cInt .u64 (Zg r) fun n r_1=>cBs r_1 fun b r_2=>cInt .i64 r_2 fun n_1 r_3=>cInt .i64 r_3 fun n_2 r_4=>onNil r_4 (exK r.1 none fun (j:Nat)=>sel (Nat.beq j 0) (Zx (chk (decide (0≤n)&&decide (n<18446744073709551616)) (some (Zj (Ym n),[]))) (kL fun b=>sel (!b) (some (Zd [Zy .u64 0,Zj false],[])) (some (Zd [Zy .u64 n,Zj true],[])))) none)):Option (AV×Blocks))) (by kernel_rfl) ?_
  delta kL
  try dsimp only [cStr,cBs,cBool,cU8,cInt,cSl,l63]
  have hb:=of_decide_eq_true hpre
  unfold Xj
  by_cases h8:b.length=8
  case neg =>
   rw [sel_pos (by simp;omega),if_neg (by omega)]
  rw [sel_neg (by simp [h8])]
  refine loop_rounds (fun i:Nat=>[Zy Up (Kerb.valB (b.take i)),Zk b,Zy Zn (b.length:Int),Zy Zn (i:Int)]) (fun i=>i≤8) (fun i=>8-i)
   (fun r=>r=(Ex.exit 0,[Zy Up (Kerb.valB b),Zk b,Zy Zn (b.length:Int),Zy Zn 8])) 0 (by omega) rfl ?_ ?_
  ·intro i hi
   simp only [A0]
   by_cases hlt:i<8
   ·have hv:=Kerb.valB_take (l:=b) (i:=i) (by omega)
    have hbd:=Kerb.valB_bd7 (l:=b.take i) (by simp;omega)
    rw [sel_pos (by simp;omega),chk_of (by simp;omega),Wm,Kerb.shl8_oru _ hbd.1 hbd.2,wrap_i64 (by omega) (by omega),← hv]
    exact ⟨_,rfl,i+1,rfl,by omega,by dsimp only;omega⟩
   ·rw [sel_neg (by simp;omega)]
    refine ⟨_,rfl,?_⟩
    show _=_
    rw [List.take_of_length_le (by omega),show i=8 from by omega]
    rfl
  rintro r rfl
  have hbd:=Kerb.valB_bd8 (l:=b) (by omega)
  simp only [A0]
  rw [sel_pos (Nat.beq_refl _),chk_of (by simp;omega)]
  cases hv:Ym (Kerb.valB b)
  ·rw [if_neg (by simp)]
   rfl
  ·rw [if_pos ⟨h8,rfl⟩]
   rfl
 ·cases h
theorem w23:Walked Tryz.prog G 23 5 sp23:=by
 refine ⟨Tryz.f23,Tryz.func23,by decide +kernel,rfl,fun xs bl r h=> ?_⟩
 unfold sp23 at h
 split at h
 ·rename_i l n
  obtain ⟨hpre,h2⟩:=chk_inv h;cases h2
  refine Eq.trans (b:=(Zx (chk (decide (0≤n)) (some (Zu (Kerb.realm n),[]))) (kS fun b=>Zx (loopM (fun (st:List AV)=>cStr st fun b r=>cSl 9 r fun b_1 r=>cBs r fun b_2 r=>cInt .i64 r fun n r=>cStr r fun b_3 r=>cSl 9 r fun b_4 r=>onNil r (Zx (sel (decide (n<(↑(Zz b_2):Int))) (some [Zu b,Xp 9 b_1,Zk b_2,Zy .i64 n,Zu b_3,Xp 9 b_4,Zj (decide ((↑(Zz b_4):Int)<60))]) (some [Zu b,Xp 9 b_1,Zk b_2,Zy .i64 n,Zu b_3,Xp 9 b_4,Zj false])) fun l=>cStr l fun b r=>cSl 9 r fun b_5 r=>cBs r fun b_6 r=>cInt .i64 r fun n r=>cStr r fun b_7 r=>cSl 9 r fun b_8 r=>cBool r fun b_9 r=>onNil r (sel b_9 (Zx (chk (decide (Zz b_6≤100000)&&decide (0≤n)) (some (Xy [Zu (Kerb.Entry.name (Wj b_6 n)),Zu (Kerb.Entry.inst (Wj b_6 n)),Zy .u64 (Kerb.Entry.key (Wj b_6 n)),Zy .i64 (Kerb.Entry.kvno (Wj b_6 n)),Zy .i64 (Kerb.Entry.expires (Wj b_6 n)),Zy .i64 (Kerb.Entry.maxLife (Wj b_6 n)),Zy .i64 (Kerb.Entry.attr (Wj b_6 n)),Zy .i64 (Kerb.Entry.fails (Wj b_6 n)),Zy .i64 (Kerb.Entry.till (Wj b_6 n))],[[Zk b_6,Zy .i64 (Vh b_6 n)]]))) fun (r:AV×Blocks)=>onConsB (Zg r) fun (x:List AV) (r_1:List (List AV))=>cBs x fun b_10 r_2=>cInt .i64 r_2 fun n r_3=>onNil r_3 (onNilB r_1 (Wd (Zb r) fun cs=>cStr cs fun b_11 r=>cStr r fun b_12 r=>cInt .u64 r fun n_1 r=>cInt .i64 r fun n_2 r=>cInt .i64 r fun n_3 r=>cInt .i64 r fun n_4 r=>cInt .i64 r fun n_5 r=>cInt .i64 r fun n_6 r=>cInt .i64 r fun n_7 r=>onNil r (Zx (loopM (fun (st:List AV)=>cStr st fun b r=>cSl 9 r fun b_13 r=>cBs r fun b_14 r=>cInt .i64 r fun n r=>cStr r fun b_15 r=>cSl 9 r fun b_16 r=>cStr r fun b_17 r=>cStr r fun b_18 r=>cInt .u64 r fun n_8 r=>cInt .i64 r fun n_9 r=>cInt .i64 r fun n_10 r=>cInt .i64 r fun n_11 r=>cInt .i64 r fun n_12 r=>cInt .i64 r fun n_13 r=>cInt .i64 r fun n_14 r=>cInt .i64 r fun n_15 r=>let t0:Option (List AV):=some [Zu b,Xp 9 b_13,Zk b_14,Zy .i64 n,Zu b_15,Xp 9 b_16,Zu b_17,Zu b_18,Zy .u64 n_8,Zy .i64 n_9,Zy .i64 n_10,Zy .i64 n_11,Zy .i64 n_12,Zy .i64 n_13,Zy .i64 n_14,Zy .i64 n_15,Zj false];let t1:Bool:=decide (0≤n_15)&&decide (n_15<(↑(Zz b_16):Int))&&true;onNil r (Zx (sel (decide (n_15<(↑(Zz b_16):Int))) (chk t1 (Wd (Xx b_16 (Zf n_15) Uz) fun cs=>cStr cs fun b_19 r=>cStr r fun b_20 r=>cInt .u64 r fun n_16 r=>cInt .i64 r fun n_17 r=>cInt .i64 r fun n_18 r=>cInt .i64 r fun n_19 r=>cInt .i64 r fun n_20 r=>cInt .i64 r fun n_21 r=>cInt .i64 r fun n_22 r=>onNil r (sel (Op.bytesLess b_19 b_17) (some [Zu b,Xp 9 b_13,Zk b_14,Zy .i64 n,Zu b_15,Xp 9 b_16,Zu b_17,Zu b_18,Zy .u64 n_8,Zy .i64 n_9,Zy .i64 n_10,Zy .i64 n_11,Zy .i64 n_12,Zy .i64 n_13,Zy .i64 n_14,Zy .i64 n_15,Zj true]) (chk t1 (Wd (Xx b_16 (Zf n_15) Uz) fun cs=>cStr cs fun b_21 r=>cStr r fun b_22 r=>cInt .u64 r fun n_23 r=>cInt .i64 r fun n_24 r=>cInt .i64 r fun n_25 r=>cInt .i64 r fun n_26 r=>cInt .i64 r fun n_27 r=>cInt .i64 r fun n_28 r=>cInt .i64 r fun n_29 r=>onNil r (sel (b_21==b_17) (chk t1 (Wd (Xx b_16 (Zf n_15) Uz) fun cs=>cStr cs fun b_23 r=>cStr r fun b_24 r=>cInt .u64 r fun n_30 r=>cInt .i64 r fun n_31 r=>cInt .i64 r fun n_32 r=>cInt .i64 r fun n_33 r=>cInt .i64 r fun n_34 r=>cInt .i64 r fun n_35 r=>cInt .i64 r fun n_36 r=>onNil r (some [Zu b,Xp 9 b_13,Zk b_14,Zy .i64 n,Zu b_15,Xp 9 b_16,Zu b_17,Zu b_18,Zy .u64 n_8,Zy .i64 n_9,Zy .i64 n_10,Zy .i64 n_11,Zy .i64 n_12,Zy .i64 n_13,Zy .i64 n_14,Zy .i64 n_15,Zj (Op.bytesLess b_24 b_18||b_24==b_18)]))) t0)))))) t0) fun l=>cStr l fun b r=>cSl 9 r fun b_19 r=>cBs r fun b_20 r=>cInt .i64 r fun n r=>cStr r fun b_21 r=>cSl 9 r fun b_22 r=>cStr r fun b_23 r=>cStr r fun b_24 r=>cInt .u64 r fun n_16 r=>cInt .i64 r fun n_17 r=>cInt .i64 r fun n_18 r=>cInt .i64 r fun n_19 r=>cInt .i64 r fun n_20 r=>cInt .i64 r fun n_21 r=>cInt .i64 r fun n_22 r=>cInt .i64 r fun n_23 r=>cBool r fun b_25 r=>onNil r (sel b_25 (some (Sum.inl [Zu b,Xp 9 b_19,Zk b_20,Zy .i64 n,Zu b_21,Xp 9 b_22,Zu b_23,Zu b_24,Zy .u64 n_16,Zy .i64 n_17,Zy .i64 n_18,Zy .i64 n_19,Zy .i64 n_20,Zy .i64 n_21,Zy .i64 n_22,Zy .i64 (Yz .i64 (n_23+1))])) (some (Sum.inr (Ex.exit 2,[Zu b,Xp 9 b_19,Zk b_20,Zy .i64 n,Zu b_21,Xp 9 b_22,Zu b_23,Zu b_24,Zy .u64 n_16,Zy .i64 n_17,Zy .i64 n_18,Zy .i64 n_19,Zy .i64 n_20,Zy .i64 n_21,Zy .i64 n_22,Zy .i64 n_23])))))) [Zu b,Xp 9 b_5,Zk b_10,Zy .i64 n,Zu b_7,Xp 9 b_8,Zu b_11,Zu b_12,Zy .u64 n_1,Zy .i64 n_2,Zy .i64 n_3,Zy .i64 n_4,Zy .i64 n_5,Zy .i64 n_6,Zy .i64 n_7,Zy .i64 0]) fun (r:Ex×List AV)=>cStr (Zg r) fun b r_4=>cSl 9 r_4 fun b_13 r_5=>cBs r_5 fun b_14 r_6=>cInt .i64 r_6 fun n r_7=>cStr r_7 fun b_15 r_8=>cSl 9 r_8 fun b_16 r_9=>cStr r_9 fun b_17 r_10=>cStr r_10 fun b_18 r_11=>cInt .u64 r_11 fun n_8 r_12=>cInt .i64 r_12 fun n_9 r_13=>cInt .i64 r_13 fun n_10 r_14=>cInt .i64 r_14 fun n_11 r_15=>cInt .i64 r_15 fun n_12 r_16=>cInt .i64 r_16 fun n_13 r_17=>cInt .i64 r_17 fun n_14 r_18=>let t2:List AV:=[Xy [Zu b_17,Zu b_18,Zy .u64 n_8,Zy .i64 n_9,Zy .i64 n_10,Zy .i64 n_11,Zy .i64 n_12,Zy .i64 n_13,Zy .i64 n_14]];cInt .i64 r_18 fun n_15 r_19=>onNil r_19 (exK r.1 (some (Sum.inr (Ex.ret,[Zu b,Xp 9 b_13,Zk b_14,Zy .i64 n,Zu b_15,Xp 9 b_16]))) fun (j:Nat)=>sel (Nat.beq j 2) (chk (decide ((↑(0:Nat):Int)≤n_15)&&decide (n_15≤(↑(Zz b_16):Int))) (chk (room (Zz (Xm (Zf (↑(0:Nat):Int)) (Xn (Zf n_15) b_16))) (nat_lit 88)) (chk (room (Zz (Xm (Zf (↑(0:Nat):Int)) (Xn (Zf n_15) b_16))+Zz t2) (nat_lit 88)) (chk (decide (0≤n_15)&&decide (n_15≤(↑(Zz b_16):Int))&&decide ((↑(Zz b_16):Int)≤(↑(Zz b_16):Int))) (chk (room (Zz (Xm (Zf (↑(0:Nat):Int)) (Xn (Zf n_15) b_16)++t2)+Zz (Xm (Zf n_15) (Xn (Zf (↑(Zz b_16):Int)) b_16))) (nat_lit 88)) (some (Sum.inl [Zu b,Xp 9 b_13,Zk b_14,Zy .i64 n,Zu b_15,Xp 9 (Xm (Zf (↑(0:Nat):Int)) (Xn (Zf n_15) b_16)++t2++Xm (Zf n_15) (Xn (Zf (↑(Zz b_16):Int)) b_16))]))))))) none))))) (some (Sum.inr (Ex.exit 0,[Zu b,Xp 9 b_5,Zk b_6,Zy .i64 n,Zu b_7,Xp 9 b_8])))))) [Zu [],Xp 9 [],Zk l,Zy .i64 0,Zu b,Xp 9 []]) fun (r:Ex×List AV)=>cStr (Zg r) fun b r_1=>cSl 9 r_1 fun b_1 r_2=>cBs r_2 fun b_2 r_3=>cInt .i64 r_3 fun n r_4=>cStr r_4 fun b_3 r_5=>cSl 9 r_5 fun b_4 r_6=>onNil r_6 (exK r.1 (some (Xy [Zu b,Xp 9 b_1],[])) fun (j:Nat)=>sel (Nat.beq j 0) (some (Xy [Zu b_3,Xp 9 b_4],[])) none)):Option (AV×Blocks))) (by kernel_rfl) ?_
  delta kS
  try dsimp only [cStr,cBs,cBool,cU8,cInt,cSl,l63]
  simp only [Yv,decide_eq_true_eq] at hpre
  obtain ⟨hl,hn0⟩:=hpre
  have c:decide (l.length≤100000)=true:=by simpa using hl
  rw [chk_of (by simp;omega)]
  simp only [↓A0,A0]
  refine loop_rounds (fun s:Nat×Int×List Kerb.Entry=>[Zu [],Xp 9 [],Zk l,Zy Zn s.2.1,Zu (Kerb.realm n),Xp 9 (s.2.2.map Yu)])
   (fun s=>0≤s.2.1∧(l.length:Int)-s.2.1<s.1∧s.2.2.length≤60∧Uv l s.1 s.2.1 s.2.2=Uv l (l.length+1) 0 []) (fun s=>s.1)
   (fun r=>∃ q:Int,r=(.exit 0,[Zu [],Xp 9 [],Zk l,Zy Zn q,Zu (Kerb.realm n),Xp 9 ((Uv l (l.length+1) 0 []).map Yu)])) (l.length+1,0,[]) ⟨by simp,by simp only;omega,by simp,rfl⟩ rfl ?_ ?_
  ·rintro ⟨f,q,es⟩ ⟨hq,hf,hc,he⟩
   simp only at hq hf hc he
   have cq:decide (0≤q)=true:=by simpa using hq
   simp only [c,cq,Wq,Xu,↓A0,A0]
   by_cases hlt:q<l.length
   case neg =>
    rw [sel_neg (by simpa using hlt)]
    refine ⟨_,rfl,q,?_⟩
    rw [← he]
    cases f with
    | zero=>rfl
    | succ f=>rw [Uv,if_neg (by simp [hlt])]
   rw [sel_pos (by simpa using hlt)]
   by_cases h60:es.length<60
   case neg =>
    rw [sel_neg (by simp;omega)]
    refine ⟨_,rfl,q,?_⟩
    rw [← he]
    cases f with
    | zero=>rfl
    | succ f=>rw [Uv,if_neg (by simp [h60])]
   rw [sel_pos (by simp;omega)]
   cases f with
   | zero=>simp at hf;omega
   | succ f =>
    rw [Uv,if_pos ⟨hlt,h60⟩] at he
    have hp1:q<Vh l q:=Kerb.dataEntPos_step hq hlt
    obtain ⟨E,hE⟩:∃ E,Wj l q=E:=⟨_,rfl⟩
    rw [hE] at he ⊢
    have hsp:=Kerb.spot_le es E
    have hil:=Kerb.ins_len es E
    refine loop_ex (Q:=Round _ _ _ _ _) (fun j:Nat=>[Zu [],Xp 9 [],Zk l,Zy Zn (Vh l q),Zu (Kerb.realm n),Xp 9 (es.map Yu),Zu E.name,Zu E.inst,Zy Up E.key,Zy Zn E.kvno,Zy Zn E.expires,Zy Zn E.maxLife,Zy Zn E.attr,Zy Zn E.fails,Zy Zn E.till,Zy Zn (j:Int)]) (fun j=>j≤Kerb.spotOf es E) (fun j=>es.length-j)
     (fun r=>r=(Ex.exit 2,[Zu [],Xp 9 [],Zk l,Zy Zn (Vh l q),Zu (Kerb.realm n),Xp 9 (es.map Yu),Zu E.name,Zu E.inst,Zy Up E.key,Zy Zn E.kvno,Zy Zn E.expires,Zy Zn E.maxLife,Zy Zn E.attr,Zy Zn E.fails,Zy Zn E.till,Zy Zn (Kerb.spotOf es E:Int)])) 0 (Nat.zero_le _) rfl ?_ ?_
    ·intro j hj
     simp only [Wq,↓A0,A0]
     rcases Nat.lt_or_ge j es.length with h | h
     ·have hk1:(decide ((0:Int)≤(j:Int))&&decide ((j:Int)<(es.length:Int))&&true)=true:=by simp;omega
      have hg:(Yn Yu es).getD j Uz=(es.getD j Kerb.noEntry).av:=Wn h
      have hyes:=Kerb.spot_next hj h
      have hno:=Kerb.spot_here hj h
      rw [sel_pos (by simp;omega)]
      simp only [hk1,Wm,hg,Yu,↓A0,A0]
      generalize es.getD j Kerb.noEntry=x at hyes hno ⊢
      unfold Kerb.Entry.leq at hyes hno
      rw [wrap_i64 (by omega) (by omega)]
      cases h1:Op.bytesLess x.name E.name
      ·rw [h1,Un] at hyes hno
       rw [sel_false]
       cases h2:x.name==E.name
       ·simp only [sel_false]
        refine ⟨_,rfl,?_⟩
        show _=_
        rw [hno (by rw [h2];rfl)]
       ·rw [h2,Bool.true_and] at hyes hno
        rw [sel_true]
        cases h3:(Op.bytesLess x.inst E.inst||x.inst==E.inst)
        ·rw [sel_false]
         refine ⟨_,rfl,?_⟩
         show _=_
         rw [hno h3]
        ·rw [sel_true]
         exact ⟨_,rfl,j+1,rfl,hyes h3,by dsimp only;omega⟩
      ·rw [h1,Bool.true_or] at hyes
       simp only [sel_true]
       exact ⟨_,rfl,j+1,rfl,hyes rfl,by dsimp only;omega⟩
     ·rw [sel_neg (by simp;omega)]
      try rw [sel_false]
      refine ⟨_,rfl,?_⟩
      show _=_
      rw [show j=Kerb.spotOf es E from by omega]
    ·rintro _ rfl
     simp only [Wq,↓A0,A0]
     rw [sel_pos (Nat.beq_refl _)]
     have r88:∀ {m:Nat},m≤1000→Go.Abs.room m 88=true:=fun h=>Kerb.room_ok2 (by omega)
     rw [chk_of (by simp;omega),chk_of (r88 (by simp;omega)),chk_of (r88 (by simp;omega)),chk_of (by simp;omega),chk_of (r88 (by simp;omega))]
     refine ⟨_,rfl,(f,Vh l q,Kerb.insEnt es E),?_,⟨by simp only;omega,by simp only;push_cast at hf;omega,by simp only;omega,he⟩,by simp⟩
     have hl2:Yn Yu (Kerb.insEnt es E)=(Yn Yu es).take (Kerb.spotOf es E)++[E.av]++(Yn Yu es).drop (Kerb.spotOf es E):=by
      unfold Kerb.insEnt
      simp [List.map_take,List.map_drop]
     dsimp only
     rw [hl2]
     have hz:Zf ((0:Nat):Int)=0:=rfl
     rw [hz,List.drop_zero,Wm,Wm,List.take_of_length_le (l:=Yn Yu es) (i:=es.length) (by simp)]
     rfl
  ·rintro _ ⟨q,rfl⟩
   simp only [↓A0,A0]
   rw [sel_pos (Nat.beq_refl _)]
   rfl
 ·cases h
theorem w28:Walked Tryz.prog G 28 5 sp28:=by
 refine ⟨Tryz.f28,Tryz.func28,by decide +kernel,rfl,fun xs bl r h=> ?_⟩
 unfold sp28 at h
 split at h
 ·rename_i b
  obtain ⟨hpre,h2⟩:=chk_inv h;cases h2
  refine Eq.trans (b:=(let t1:AV:=Xy [Zy .i64 0,Zu [],Zu [],Zu [],Zy .i64 0,Zu [],Zk [],Zu [],Zu [],Zk []];let t0:Option (AV×Blocks):=some (Zd [t1,Zy .i64 100],[]);sel (!Zg (Uf b [9])==0) (some (Zd [t1,Zy .i64 (Zg (Uf b [9]))],[])) (Zx (chk (decide (Zz b≤140737488355328)) (some (Zy .i64 (Yh (Zh b 2 1 false)),[[Zk b,Zy .i64 (bif false || !Yx (Zh b 2 1 false)==0 then 2 else Yg (Zh b 2 1 false)),Zj false,Zj !Yx (Zh b 2 1 false)==0]]))) fun (r:AV×Blocks)=>onConsB (Zg r) fun (x:List AV) (r_1:List (List AV))=>cBs x fun b_1 r_2=>cInt .i64 r_2 fun n r_3=>cBool r_3 fun b_2 r_4=>cBool r_4 fun b_3 r_5=>onNil r_5 (onNilB r_1 (Yy .i64 (Zb r) fun n_1=>sel (n_1==1||n_1==3) (Zx (chk (decide (Zz b_1≤140737488355328)) (some (Xy [Zu (Kerb.Prin.name (Kerb.RdP.p (Kerb.rdPrin b_1 n b_3))),Zu (Kerb.Prin.inst (Kerb.RdP.p (Kerb.rdPrin b_1 n b_3))),Zu (Kerb.Prin.realm (Kerb.RdP.p (Kerb.rdPrin b_1 n b_3)))],[[Zk b_1,Zy .i64 (Kerb.RdP.pos (Kerb.rdPrin b_1 n b_3)),Zj b_2,Zj (Kerb.RdP.bad (Kerb.rdPrin b_1 n b_3))]]))) fun (r:AV×Blocks)=>onConsB (Zg r) fun (x:List AV) (r_6:List (List AV))=>cBs x fun b_4 r_7=>cInt .i64 r_7 fun n r_8=>cBool r_8 fun b_5 r_9=>cBool r_9 fun b_6 r_10=>onNil r_10 (onNilB r_6 (Wd (Zb r) fun cs=>cStr cs fun b_7 r=>cStr r fun b_8 r=>cStr r fun b_9 r=>onNil r (Zx (chk (decide (Zz b_4≤140737488355328)) (some (Zy .i64 (Yh (Zh b_4 n 2 b_5)),[[Zk b_4,Zy .i64 (bif b_6 || !Yx (Zh b_4 n 2 b_5)==0 then n else Yg (Zh b_4 n 2 b_5)),Zj b_5,Zj (b_6 || !Yx (Zh b_4 n 2 b_5)==0)]]))) fun (r:AV×Blocks)=>onConsB (Zg r) fun (x:List AV) (r_11:List (List AV))=>cBs x fun b_10 r_12=>cInt .i64 r_12 fun n r_13=>cBool r_13 fun b_11 r_14=>cBool r_14 fun b_12 r_15=>onNil r_15 (onNilB r_11 (Yy .i64 (Zb r) fun n_2=>Zx (chk (decide (Zz b_10≤140737488355328)) (some (Zk (Xh (Yp b_10 n n_2)),[[Zk b_10,Zy .i64 (bif b_12 || !Yj (Yp b_10 n n_2)==0 then n else Xf (Yp b_10 n n_2)),Zj b_11,Zj (b_12 || !Yj (Yp b_10 n n_2)==0)]]))) fun (r:AV×Blocks)=>onConsB (Zg r) fun (x:List AV) (r_16:List (List AV))=>cBs x fun b_13 r_17=>cInt .i64 r_17 fun n r_18=>cBool r_18 fun b_14 r_19=>cBool r_19 fun b_15 r_20=>onNil r_20 (onNilB r_16 (Wp (Zb r) fun b_16=>Zx (chk (l63 b_7&&l63 b_8&&l63 b_9&&true&&true&&true) (some (Zd [Zk (Wv (Xk (Vg n_1 (Yq b_7 b_8 b_9) 0 [] [] [] [] b_16))),Zy .i64 (Wz (Xk (Vg n_1 (Yq b_7 b_8 b_9) 0 [] [] [] [] b_16)))],[]))) (kT fun vs=>cBs vs fun b_17 r=>cInt .i64 r fun n r=>onNil r (sel b_15 t0 (sel (!n==0) t0 (sel (!b_17==b) t0 (some (Zd [Xy [Zy .i64 n_1,Zu b_7,Zu b_8,Zu b_9,Zy .i64 0,Zu [],Zk [],Zu [],Zu [],Zk b_16],Zy .i64 0],[])))))))))))))) (Zx (chk (decide (Zz b_1≤140737488355328)) (some (Zy .i64 (Yh (Zh b_1 n 1 false)),[[Zk b_1,Zy .i64 (bif b_3 || !Yx (Zh b_1 n 1 false)==0 then n else Yg (Zh b_1 n 1 false)),Zj b_2,Zj (b_3 || !Yx (Zh b_1 n 1 false)==0)]]))) fun (r:AV×Blocks)=>onConsB (Zg r) fun (x:List AV) (r_6:List (List AV))=>cBs x fun b_4 r_7=>cInt .i64 r_7 fun n r_8=>cBool r_8 fun b_5 r_9=>cBool r_9 fun b_6 r_10=>onNil r_10 (onNilB r_6 (Yy .i64 (Zb r) fun n_2=>Zx (chk (decide (Zz b_4≤140737488355328)) (some (Zu (Xh (Wx b_4 n)),[[Zk b_4,Zy .i64 (bif b_6 || !Yj (Wx b_4 n)==0 then n else Xf (Wx b_4 n)),Zj b_5,Zj (b_6 || !Yj (Wx b_4 n)==0)]]))) fun (r:AV×Blocks)=>onConsB (Zg r) fun (x:List AV) (r_11:List (List AV))=>cBs x fun b_7 r_12=>cInt .i64 r_12 fun n r_13=>cBool r_13 fun b_8 r_14=>cBool r_14 fun b_9 r_15=>onNil r_15 (onNilB r_11 (AV.onStr (Zb r) fun b_10=>Zx (chk (decide (Zz b_7≤140737488355328)) (some (Zy .i64 (Yh (Zh b_7 n 1 false)),[[Zk b_7,Zy .i64 (bif b_9 || !Yx (Zh b_7 n 1 false)==0 then n else Yg (Zh b_7 n 1 false)),Zj b_8,Zj (b_9 || !Yx (Zh b_7 n 1 false)==0)]]))) fun (r:AV×Blocks)=>onConsB (Zg r) fun (x:List AV) (r_16:List (List AV))=>cBs x fun b_11 r_17=>cInt .i64 r_17 fun n r_18=>cBool r_18 fun b_12 r_19=>cBool r_19 fun b_13 r_20=>onNil r_20 (onNilB r_16 (Yy .i64 (Zb r) fun n_3=>Zx (chk (decide (Zz b_11≤140737488355328)) (some (Zk (Xh (Yp b_11 n n_3)),[[Zk b_11,Zy .i64 (bif b_13 || !Yj (Yp b_11 n n_3)==0 then n else Xf (Yp b_11 n n_3)),Zj b_12,Zj (b_13 || !Yj (Yp b_11 n n_3)==0)]]))) fun (r:AV×Blocks)=>onConsB (Zg r) fun (x:List AV) (r_21:List (List AV))=>cBs x fun b_14 r_22=>cInt .i64 r_22 fun n r_23=>cBool r_23 fun b_15 r_24=>cBool r_24 fun b_16 r_25=>onNil r_25 (onNilB r_21 (Wp (Zb r) fun b_17=>Zx (chk (decide (Zz b_14≤140737488355328)) (some (Zu (Xh (Wx b_14 n)),[[Zk b_14,Zy .i64 (bif b_16 || !Yj (Wx b_14 n)==0 then n else Xf (Wx b_14 n)),Zj b_15,Zj (b_16 || !Yj (Wx b_14 n)==0)]]))) fun (r:AV×Blocks)=>onConsB (Zg r) fun (x:List AV) (r_26:List (List AV))=>cBs x fun b_18 r_27=>cInt .i64 r_27 fun n r_28=>cBool r_28 fun b_19 r_29=>cBool r_29 fun b_20 r_30=>onNil r_30 (onNilB r_26 (AV.onStr (Zb r) fun b_21=>Zx (chk (decide (Zz b_18≤140737488355328)) (some (Zu (Xh (Wx b_18 n)),[[Zk b_18,Zy .i64 (bif b_20 || !Yj (Wx b_18 n)==0 then n else Xf (Wx b_18 n)),Zj b_19,Zj (b_20 || !Yj (Wx b_18 n)==0)]]))) fun (r:AV×Blocks)=>onConsB (Zg r) fun (x:List AV) (r_31:List (List AV))=>cBs x fun b_22 r_32=>cInt .i64 r_32 fun n r_33=>cBool r_33 fun b_23 r_34=>cBool r_34 fun b_24 r_35=>onNil r_35 (onNilB r_31 (AV.onStr (Zb r) fun b_25=>Zx (chk (decide (Zz b_22≤140737488355328)) (some (Zy .i64 (Yh (Zh b_22 n 2 b_23)),[[Zk b_22,Zy .i64 (bif b_24 || !Yx (Zh b_22 n 2 b_23)==0 then n else Yg (Zh b_22 n 2 b_23)),Zj b_23,Zj (b_24 || !Yx (Zh b_22 n 2 b_23)==0)]]))) fun (r:AV×Blocks)=>onConsB (Zg r) fun (x:List AV) (r_36:List (List AV))=>cBs x fun b_26 r_37=>cInt .i64 r_37 fun n r_38=>cBool r_38 fun b_27 r_39=>cBool r_39 fun b_28 r_40=>onNil r_40 (onNilB r_36 (Yy .i64 (Zb r) fun n_4=>Zx (chk (decide (Zz b_26≤140737488355328)) (some (Zk (Xh (Yp b_26 n n_4)),[[Zk b_26,Zy .i64 (bif b_28 || !Yj (Yp b_26 n n_4)==0 then n else Xf (Yp b_26 n n_4)),Zj b_27,Zj (b_28 || !Yj (Yp b_26 n n_4)==0)]]))) fun (r:AV×Blocks)=>onConsB (Zg r) fun (x:List AV) (r_41:List (List AV))=>cBs x fun b_29 r_42=>cInt .i64 r_42 fun n r_43=>cBool r_43 fun b_30 r_44=>cBool r_44 fun b_31 r_45=>onNil r_45 (onNilB r_41 (Wp (Zb r) fun b_32=>Zx (chk (l63 b_10&&l63 b_21&&l63 b_25) (some (Zd [Zk (Wv (Xk (Vg n_1 (Yq [] [] []) n_2 b_10 b_17 b_21 b_25 b_32))),Zy .i64 (Wz (Xk (Vg n_1 (Yq [] [] []) n_2 b_10 b_17 b_21 b_25 b_32)))],[]))) (kT fun vs=>cBs vs fun b_33 r=>cInt .i64 r fun n r=>onNil r (sel b_31 t0 (sel (!n==0) t0 (sel (!b_33==b) t0 (some (Zd [Xy [Zy .i64 n_1,Zu [],Zu [],Zu [],Zy .i64 n_2,Zu b_10,Zk b_17,Zu b_21,Zu b_25,Zk b_32],Zy .i64 0],[])))))))))))))))))))))))))):Option (AV×Blocks))) (by kernel_rfl) ?_
  delta kT
  try dsimp only [cStr,cBs,cBool,cU8,cInt,cSl,l63]
  have hb:=of_decide_eq_true hpre
  simp only [A0,hpre]
  by_cases h:(Uf b [9]).2=0
  case neg =>
   rw [sel_pos (by simpa using h)]
   unfold Kerb.decodeKaRequest
   rw [if_pos h]
   rfl
  have hd:Kerb.decodeKaRequest b=Kerb.decBy Kerb.noKaReq Xk Kerb.rdKaReq b:=by unfold Kerb.decodeKaRequest;rw [if_neg (by simpa using h),Kerb.decReq_ref]
  rw [sel_neg (by simp [h]),hd]
  have lt:=Kerb.text_len b
  have lp:=Kerb.rdPrin_len b
  cases e2:((Zh b 2 1 false).val==1||(Zh b 2 1 false).val==3)
  ·have e3:((Kerb.rdGet b 1 false 2 false).val==1||(Kerb.rdGet b 1 false 2 false).val==3)=false:=e2
   rw [sel_false,chk_of (by simp only [Yv,decide_eq_true_eq,true_and];exact ⟨⟨Vp (lt _) (by omega),Vp (lt _) (by omega)⟩,Vp (lt _) (by omega)⟩)]
   exact Uk (no:=Kerb.noKaReq) (enc:=Xk) (rd:=Kerb.rdKaReq) _ _ (by unfold Kerb.rdKaReq Kerb.rReq;dsimp only;rw [e3];rfl) (fun x e=>(Zd [Xy [Zy Zn (x).op,Zu (x).user.name,Zu (x).user.inst,Zu (x).user.realm,Zy Zn (x).kvno,Zu (x).realm,Zk (x).ticket,Zu (x).service,Zu (x).inst,Zk (x).box],Zy Zn e],([]:Blocks)))
  ·have e3:((Kerb.rdGet b 1 false 2 false).val==1||(Kerb.rdGet b 1 false 2 false).val==3)=true:=e2
   rw [sel_true,chk_of (by simp only [Yv,decide_eq_true_eq,and_true];exact ⟨⟨Vp (lp _ _).1 (by omega),Vp (lp _ _).2.1 (by omega)⟩,Vp (lp _ _).2.2 (by omega)⟩)]
   exact Uk (no:=Kerb.noKaReq) (enc:=Xk) (rd:=Kerb.rdKaReq) _ _ (by unfold Kerb.rdKaReq Kerb.rReq;dsimp only;rw [e3];rfl) (fun x e=>(Zd [Xy [Zy Zn (x).op,Zu (x).user.name,Zu (x).user.inst,Zu (x).user.realm,Zy Zn (x).kvno,Zu (x).realm,Zk (x).ticket,Zu (x).service,Zu (x).inst,Zk (x).box],Zy Zn e],([]:Blocks)))
 ·cases h
theorem w30:Walked Tryz.prog G 30 5 sp30:=by
 refine ⟨Tryz.f30,Tryz.func30,by decide +kernel,rfl,fun xs bl r h=> ?_⟩
 unfold sp30 at h
 split at h
 ·rename_i b
  obtain ⟨hpre,h2⟩:=chk_inv h;cases h2
  refine Eq.trans (b:=(let t0:Option (AV×Blocks):=some (Zd [Xy [Zy .i64 0,Zy .i64 0,Zk []],Zy .i64 100],[]);sel (!Zg (Uf b [9])==0) (some (Zd [Xy [Zy .i64 0,Zy .i64 0,Zk []],Zy .i64 (Zg (Uf b [9]))],[])) (Zx (chk (decide (Zz b≤140737488355328)) (some (Zy .i64 (Yh (Zh b 2 1 false)),[[Zk b,Zy .i64 (bif false || !Yx (Zh b 2 1 false)==0 then 2 else Yg (Zh b 2 1 false)),Zj false,Zj !Yx (Zh b 2 1 false)==0]]))) fun (r:AV×Blocks)=>onConsB (Zg r) fun (x:List AV) (r_1:List (List AV))=>cBs x fun b_1 r_2=>cInt .i64 r_2 fun n r_3=>cBool r_3 fun b_2 r_4=>cBool r_4 fun b_3 r_5=>onNil r_5 (onNilB r_1 (Yy .i64 (Zb r) fun n_1=>Zx (chk (decide (Zz b_1≤140737488355328)) (some (Zy .i64 (Yh (Zh b_1 n 1 false)),[[Zk b_1,Zy .i64 (bif b_3 || !Yx (Zh b_1 n 1 false)==0 then n else Yg (Zh b_1 n 1 false)),Zj b_2,Zj (b_3 || !Yx (Zh b_1 n 1 false)==0)]]))) fun (r:AV×Blocks)=>onConsB (Zg r) fun (x:List AV) (r_6:List (List AV))=>cBs x fun b_4 r_7=>cInt .i64 r_7 fun n r_8=>cBool r_8 fun b_5 r_9=>cBool r_9 fun b_6 r_10=>onNil r_10 (onNilB r_6 (Yy .i64 (Zb r) fun n_2=>Zx (chk (decide (Zz b_4≤140737488355328)) (some (Zy .i64 (Yh (Zh b_4 n 2 b_5)),[[Zk b_4,Zy .i64 (bif b_6 || !Yx (Zh b_4 n 2 b_5)==0 then n else Yg (Zh b_4 n 2 b_5)),Zj b_5,Zj (b_6 || !Yx (Zh b_4 n 2 b_5)==0)]]))) fun (r:AV×Blocks)=>onConsB (Zg r) fun (x:List AV) (r_11:List (List AV))=>cBs x fun b_7 r_12=>cInt .i64 r_12 fun n r_13=>cBool r_13 fun b_8 r_14=>cBool r_14 fun b_9 r_15=>onNil r_15 (onNilB r_11 (Yy .i64 (Zb r) fun n_3=>Zx (chk (decide (Zz b_7≤140737488355328)) (some (Zk (Xh (Yp b_7 n n_3)),[[Zk b_7,Zy .i64 (bif b_9 || !Yj (Yp b_7 n n_3)==0 then n else Xf (Yp b_7 n n_3)),Zj b_8,Zj (b_9 || !Yj (Yp b_7 n n_3)==0)]]))) fun (r:AV×Blocks)=>onConsB (Zg r) fun (x:List AV) (r_16:List (List AV))=>cBs x fun b_10 r_17=>cInt .i64 r_17 fun n r_18=>cBool r_18 fun b_11 r_19=>cBool r_19 fun b_12 r_20=>onNil r_20 (onNilB r_16 (Wp (Zb r) fun b_13=>sel b_12 t0 (sel (!Wz (Ww (Ud (Yz .i64 (n_1-128)) n_2 b_13))==0) t0 (sel (!Wv (Ww (Ud (Yz .i64 (n_1-128)) n_2 b_13))==b) t0 (some (Zd [Xy [Zy .i64 (Yz .i64 (n_1-128)),Zy .i64 n_2,Zk b_13],Zy .i64 0],[]))))))))))))):Option (AV×Blocks))) (by kernel_rfl) ?_
  try dsimp only [cStr,cBs,cBool,cU8,cInt,cSl,l63]
  have hb:=of_decide_eq_true hpre
  simp only [A0,hpre]
  by_cases h:(Uf b [9]).2=0
  case neg =>
   rw [sel_pos (by simpa using h)]
   unfold Kerb.decodeKaReply
   rw [if_pos h]
   rfl
  have hd:Kerb.decodeKaReply b=Kerb.decBy Kerb.noKaReply Ww Kerb.rdKaRep b:=by unfold Kerb.decodeKaReply;rw [if_neg (by simpa using h),Kerb.decRep_ref]
  rw [sel_neg (by simp [h]),hd]
  have hg:=Kerb.get_bd b 2 1 false (by omega)
  rw [wrap_i64 (by omega) (by omega)]
  exact Uk (no:=Kerb.noKaReply) (enc:=Ww) (rd:=Kerb.rdKaRep) _ _ rfl (fun x e=>(Zd [Xy [Zy Zn (x).op,Zy Zn (x).code,Zk (x).box],Zy Zn e],([]:Blocks)))
 ·cases h
theorem w32:Walked Tryz.prog G 32 5 sp32:=by
 refine ⟨Tryz.f32,Tryz.func32,by decide +kernel,rfl,fun xs bl r h=> ?_⟩
 unfold sp32 at h
 split at h
 ·rename_i b kd k
  obtain ⟨hpre,h2⟩:=chk_inv h;cases h2
  refine Eq.trans (b:=(Zx (chk (decide (Zz b≤140737488355328)) (some (Zd [Xy [Zy .i64 (Kerb.Box.kind (Wh (Xq b))),Zy .u64 (Kerb.Box.key (Wh (Xq b))),Zk (Kerb.Box.body (Wh (Xq b)))],Zy .i64 (Kerb.GotBox.n (Xq b)),Zy .i64 (Kerb.GotBox.err (Xq b))],[]))) fun (r:AV×Blocks)=>onNilB (Zg r) (Wy (Zb r) fun vs=>onCons vs fun x r=>Wd x fun cs=>onCons cs fun x r_1=>Yy .i64 x fun n=>onCons r_1 fun x r_2=>Yy .u64 x fun n_1=>onCons r_2 fun x r_3=>Wp x fun b_1=>onNil r_3 (onCons r fun x r=>Yy .i64 x fun n_2=>onCons r fun x r=>Yy .i64 x fun n_3=>onNil r (sel (!n_3==0) (some (Zd [Zk [],Zj false],[])) (sel (!n_2==(↑(Zz b):Int)) (some (Zd [Zk [],Zj false],[])) (sel (!n==kd) (some (Zd [Zk [],Zj false],[])) (sel (!n_1==k) (some (Zd [Zk [],Zj false],[])) (some (Zd [Zk b_1,Zj true],[])))))))):Option (AV×Blocks))) (by kernel_rfl) ?_
  simp only [↓A0,hpre]
  unfold Kerb.openBox
  generalize Xq b=r
  by_cases h1:r.err=0
  case neg=>rw [sel_pos (by simpa using h1),if_pos (.inl h1)]
  rw [sel_neg (by simpa using h1)]
  by_cases h2:r.n=b.length
  case neg=>rw [sel_pos (by simpa using h2),if_pos (.inr (.inl h2))]
  rw [sel_neg (by simpa using h2)]
  by_cases h3:r.box.kind=kd
  case neg=>rw [sel_pos (by simpa using h3),if_pos (.inr (.inr (.inl h3)))]
  rw [sel_neg (by simpa using h3)]
  by_cases h4:r.box.key=k
  case neg=>rw [sel_pos (by simpa using h4),if_pos (.inr (.inr (.inr h4)))]
  rw [sel_neg (by simpa using h4),if_neg (by simp [h1,h2,h3,h4])]
 ·cases h
theorem w94:Walked Tryz.prog G 94 5 sp94:=by
 refine ⟨Tryz.f94,Tryz.func94,by decide +kernel,rfl,fun xs bl r h=> ?_⟩
 unfold sp94 at h
 split at h
 ·rename_i lb t st en k
  obtain ⟨hpre,h2⟩:=chk_inv h;cases h2
  refine Eq.trans (b:=(Zx (chk (decide (0≤k)&&decide (k<18446744073709551616)) (some (Zy .i64 (Wz (Xw (Wb lb t st en k))),[]))) (kI .i64 fun n=>sel (!n==0) (some (Zd [Zk [],Zy .i64 n],[])) (Zx (chk (decide (Zz lb≤70368744177664)) (some (Yk (lb++Yw t 4 false),[]))) (kO fun l=>sel (Kerb.timed lb) (Zx (chk (decide (Zz l≤70368744177664)) (some (Yk (l++Yw st 4 false),[]))) (kO fun l=>Zx (chk (decide (Zz l≤70368744177664)) (some (Yk (l++Yw en 4 false),[]))) (kO fun l=>Zx (chk (decide (Zz l≤70368744177664)) (some (Zk (Kerb.pad l),[]))) (kB fun b=>some (Zd [Zk b,Zy .i64 0],[]))))) (Zx (chk (decide (0≤k)&&decide (k<18446744073709551616)) (some (Zk (Ub k),[]))) (kB fun b=>chk (room (Zz l+Zz b) 1) (Zx (chk (decide (Zz (l++b)≤70368744177664)) (some (Zk (Kerb.pad (l++b)),[]))) (kB fun b=>some (Zd [Zk b,Zy .i64 0],[])))))))):Option (AV×Blocks))) (by kernel_rfl) ?_
  delta kB kO kI
  try dsimp only [cStr,cBs,cBool,cU8,cInt,cSl,l63]
  simp only [A0,hpre]
  by_cases he:(Xw (Wb lb t st en k)).err=0
  case neg=>rw [sel_pos (by simpa using he),Kerb.encKaSec_no he]
  rw [sel_neg (by simp [he]),he]
  have hl:lb.length=4:=by
   obtain ⟨_,⟨_,h4,_⟩ | ⟨h4,_⟩⟩:=Kerb.encKaSec_inv he
   ·exact h4
   ·simp only at h4;rw [h4];rfl
  rw [chk_of (by simp;omega)]
  rcases Kerb.encKaSec_val he with ⟨ht,hv⟩ | ⟨ht,hv⟩
  ·rw [sel_pos ht,hv,chk_of (by simp [Zv];omega),chk_of (by simp [Zv];omega),chk_of (by simp [Zv];omega)]
  ·rw [sel_neg ht,hv,chk_of (Yf (by simp [Zv,Zw];omega)),chk_of (by simp [Zv,Zw];omega)]
 ·cases h
theorem w100:Walked Tryz.prog G 100 5 sp100:=by
 refine ⟨Tryz.f100,Tryz.func100,by decide +kernel,rfl,fun xs bl r h=> ?_⟩
 unfold sp100 at h
 split at h
 ·rename_i b
  obtain ⟨hpre,h2⟩:=chk_inv h;cases h2
  refine Eq.trans (b:=(let t0:Option (AV×Blocks):=some (Zd [Xy [Zu [],Zy .i64 0,Zy .i64 0,Zy .i64 0,Zy .u64 0],Zy .i64 100],[]);Zx (chk (decide (Zz b≤140737488355328)) (some (Zk (Xh (Yp b 0 4)),[[Zk b,Zy .i64 (bif false || !Yj (Yp b 0 4)==0 then 0 else Xf (Yp b 0 4)),Zj false,Zj !Yj (Yp b 0 4)==0]]))) fun (r:AV×Blocks)=>onConsB (Zg r) fun (x:List AV) (r_1:List (List AV))=>cBs x fun b_1 r_2=>cInt .i64 r_2 fun n r_3=>cBool r_3 fun b_2 r_4=>cBool r_4 fun b_3 r_5=>onNil r_5 (onNilB r_1 (Wp (Zb r) fun b_4=>Zx (chk (decide (Zz b_1≤140737488355328)) (some (Zy .i64 (Yh (Zh b_1 n 4 b_2)),[[Zk b_1,Zy .i64 (bif b_3 || !Yx (Zh b_1 n 4 b_2)==0 then n else Yg (Zh b_1 n 4 b_2)),Zj b_2,Zj (b_3 || !Yx (Zh b_1 n 4 b_2)==0)]]))) fun (r:AV×Blocks)=>onConsB (Zg r) fun (x:List AV) (r_6:List (List AV))=>cBs x fun b_5 r_7=>cInt .i64 r_7 fun n r_8=>cBool r_8 fun b_6 r_9=>cBool r_9 fun b_7 r_10=>onNil r_10 (onNilB r_6 (Yy .i64 (Zb r) fun n_1=>sel (b_4==[(67:UInt8),(80:UInt8),(87:UInt8),(108:UInt8)]) (Zx (chk (decide (Zz b_5≤140737488355328)) (some (Zk (Xh (Yp b_5 n 8)),[[Zk b_5,Zy .i64 (bif b_7 || !Yj (Yp b_5 n 8)==0 then n else Xf (Yp b_5 n 8)),Zj b_6,Zj (b_7 || !Yj (Yp b_5 n 8)==0)]]))) fun (r:AV×Blocks)=>onConsB (Zg r) fun (x:List AV) (r_11:List (List AV))=>cBs x fun b_8 r_12=>cInt .i64 r_12 fun n r_13=>cBool r_13 fun b_9 r_14=>cBool r_14 fun b_10 r_15=>onNil r_15 (onNilB r_11 (Wp (Zb r) fun b_11=>Zx (chk (decide (Zz b_11≤4611686018427387904)) (some (Zd [Zy .u64 (Zb (Xj b_11)),Zj (Zg (Xj b_11))],[]))) (kT fun vs=>cInt .u64 vs fun n r=>cBool r fun b_12 r=>onNil r (Zx (chk (decide (0≤n)&&decide (n<18446744073709551616)) (some (Zd [Yk (Wv (Xw (Wb b_4 n_1 0 0 n))),Zy .i64 (Wz (Xw (Wb b_4 n_1 0 0 n)))],[]))) (kT fun vs=>onCons vs fun x r=>AV.onOwnB x fun l=>cInt .i64 r fun n_2 r=>onNil r (sel b_10 t0 (sel (!n_2==0) t0 (sel (!l==b) t0 (some (Zd [Xy [Zu b_4,Zy .i64 n_1,Zy .i64 0,Zy .i64 0,Zy .u64 n],Zy .i64 0],[]))))))))))) (Zx (chk (decide (Zz b_5≤140737488355328)) (some (Zy .i64 (Yh (Zh b_5 n 4 b_6)),[[Zk b_5,Zy .i64 (bif b_7 || !Yx (Zh b_5 n 4 b_6)==0 then n else Yg (Zh b_5 n 4 b_6)),Zj b_6,Zj (b_7 || !Yx (Zh b_5 n 4 b_6)==0)]]))) fun (r:AV×Blocks)=>onConsB (Zg r) fun (x:List AV) (r_11:List (List AV))=>cBs x fun b_8 r_12=>cInt .i64 r_12 fun n r_13=>cBool r_13 fun b_9 r_14=>cBool r_14 fun b_10 r_15=>onNil r_15 (onNilB r_11 (Yy .i64 (Zb r) fun n_2=>Zx (chk (decide (Zz b_8≤140737488355328)) (some (Zy .i64 (Yh (Zh b_8 n 4 b_9)),[[Zk b_8,Zy .i64 (bif b_10 || !Yx (Zh b_8 n 4 b_9)==0 then n else Yg (Zh b_8 n 4 b_9)),Zj b_9,Zj (b_10 || !Yx (Zh b_8 n 4 b_9)==0)]]))) fun (r:AV×Blocks)=>onConsB (Zg r) fun (x:List AV) (r_16:List (List AV))=>cBs x fun b_11 r_17=>cInt .i64 r_17 fun n r_18=>cBool r_18 fun b_12 r_19=>cBool r_19 fun b_13 r_20=>onNil r_20 (onNilB r_16 (Yy .i64 (Zb r) fun n=>sel b_13 t0 (sel (!Wz (Xw (Wb b_4 n_1 n_2 n 0))==0) t0 (sel (!Wv (Xw (Wb b_4 n_1 n_2 n 0))==b) t0 (some (Zd [Xy [Zu b_4,Zy .i64 n_1,Zy .i64 n_2,Zy .i64 n,Zy .u64 0],Zy .i64 0],[]))))))))))))):Option (AV×Blocks))) (by kernel_rfl) ?_
  delta kT
  try dsimp only [cStr,cBs,cBool,cU8,cInt,cSl,l63]
  have eGet:([103,84,71,83]:List UInt8)=Kerb.lGet:=rfl
  have eTick:([103,84,75,84]:List UInt8)=Kerb.lTicket:=rfl
  have eChg:([67,80,87,108]:List UInt8)=Wf:=rfl
  have eDone:([67,80,87,100]:List UInt8)=Kerb.lDone:=rfl
  have eGot:([116,103,115,84]:List UInt8)=Kerb.lGot:=rfl
  have eGiven:([116,107,116,71]:List UInt8)=Kerb.lGiven:=rfl
  have hb:=of_decide_eq_true hpre
  simp only [A0,hpre,eChg]
  rw [Kerb.decSec_ref]
  cases e2:((Yp b 0 4).val==Wf)
  ·have e3:((Kerb.rdBytes b 4 0 false).val==Wf)=false:=e2
   rw [sel_false]
   exact Uk (no:=Kerb.noKaSecret) (enc:=Xw) (rd:=Kerb.rdKaSec) _ _ (by unfold Kerb.rdKaSec Kerb.rSec;dsimp only;rw [e3];rfl) (fun x e=>(Zd [Xy [Zu (x).label,Zy Zn (x).time,Zy Zn (x).start,Zy Zn (x).stop,Zy Up (x).new],Zy Zn e],([]:Blocks)))
  ·have e3:((Kerb.rdBytes b 4 0 false).val==Wf)=true:=e2
   have hl:∀ p n,(Yp b p n).val.length≤4611686018427387904:=fun p n=>Vp (Kerb.bytes_len b p n) (by omega)
   have hk:∀ q,0≤(Xj q).1∧(Xj q).1<18446744073709551616:=Kerb.keyRead_bd
   rw [sel_true,chk_of (by simp only [decide_eq_true_eq];exact hl _ _),chk_of (by simp only [Yv,decide_eq_true_eq];exact hk _)]
   exact Uk (no:=Kerb.noKaSecret) (enc:=Xw) (rd:=Kerb.rdKaSec) _ _ (by unfold Kerb.rdKaSec Kerb.rSec;dsimp only;rw [e3];rfl) (fun x e=>(Zd [Xy [Zu (x).label,Zy Zn (x).time,Zy Zn (x).start,Zy Zn (x).stop,Zy Up (x).new],Zy Zn e],([]:Blocks)))
 ·cases h
theorem w102:Walked Tryz.prog G 102 5 sp102:=by
 refine ⟨Tryz.f102,Tryz.func102,by decide +kernel,rfl,fun xs bl r h=> ?_⟩
 unfold sp102 at h
 split at h
 ·rename_i rl els xls n i now
  obtain ⟨hpre,h2⟩:=chk_inv h;cases h2
  refine Eq.trans (b:=(let t0:Option (AV×Blocks):=Zx (chk (Vb els Wg&&decide (Zz els≤1000000)) (some (Zd [Zy .i64 (Zb (Vw (Xd rl (Yn Yb els)) n i now)),Zy .i64 (Zg (Vw (Xd rl (Yn Yb els)) n i now))],[]))) (kT fun vs=>cInt .i64 vs fun n r=>cInt .i64 r fun n_1 r=>onNil r (sel (!n_1==0) (some (Zd [Zy .u64 0,Zy .i64 0,Zy .i64 0,Zy .i64 0,Zy .i64 n_1],[])) (chk (decide (0≤n)&&decide (n<(↑(Zz els):Int))&&true) (Wd (Xx els (Zf n) Uz) fun cs=>cStr cs fun b r=>cStr r fun b r=>cInt .u64 r fun n r=>cInt .i64 r fun n_2 r=>cInt .i64 r fun n_3 r=>cInt .i64 r fun n_4 r=>cInt .i64 r fun n_5 r=>cInt .i64 r fun n_6 r=>cInt .i64 r fun n_7 r=>onNil r (some (Zd [Zy .u64 n,Zy .i64 n_2,Zy .i64 n_4,Zy .i64 n_3,Zy .i64 0],[]))))));sel (n==[(107:UInt8),(114:UInt8),(98:UInt8),(116:UInt8),(103:UInt8),(116:UInt8)]) (sel (!i==rl) (Zx (chk (l63 i) (some (Zj (Vm i),[]))) (kL fun b=>sel b (Zx (chk (Vb xls Kerb.isCross&&decide (Zz xls≤1000000)) (some (Zd [Zy .i64 (Zb (Vk (Yn Kerb.toCross xls) rl i)),Zj (Zg (Vk (Yn Kerb.toCross xls) rl i))],[]))) (kT fun vs=>cInt .i64 vs fun n r=>cBool r fun b r=>onNil r (sel (!b) (some (Zd [Zy .u64 0,Zy .i64 0,Zy .i64 0,Zy .i64 0,Zy .i64 8],[])) (chk (decide (0≤n)&&decide (n<(↑(Zz xls):Int))&&true) (Wd (Xx xls (Zf n) Uz) fun cs=>cStr cs fun b r=>cStr r fun b r=>cInt .i64 r fun n_1 r=>cInt .u64 r fun n_2 r=>onNil r (chk (decide (0≤n)&&decide (n<(↑(Zz xls):Int))&&true) (Wd (Xx xls (Zf n) Uz) fun cs=>cStr cs fun b r=>cStr r fun b r=>cInt .i64 r fun n r=>cInt .u64 r fun n_3 r=>onNil r (some (Zd [Zy .u64 n_2,Zy .i64 n,Zy .i64 255,Zy .i64 0,Zy .i64 0],[]))))))))) t0)) t0) t0:Option (AV×Blocks))) (by kernel_rfl) ?_
  delta kT kL
  try dsimp only [cStr,cBs,cBool,cU8,cInt,cSl,l63]
  simp only [Yv,decide_eq_true_eq] at hpre
  obtain ⟨⟨⟨⟨hall,hlen⟩,hx⟩,hxl⟩,hi⟩:=hpre
  obtain ⟨es,rfl,hok⟩:=Kerb.ents_of hall
  obtain ⟨cs,rfl⟩:=Kerb.cross_of hx
  rw [Vd,Kerb.map_toCross]
  simp only [hall,hlen,hx,hxl,hi,decide_true,Xu,↓A0,A0]
  simp only [Wq] at hlen hxl ⊢
  unfold Kerb.svc
  dsimp only
  have hkr:(n==[(107:UInt8),(114:UInt8),(98:UInt8),(116:UInt8),(103:UInt8),(116:UInt8)])=(n==Kerb.krbtgt):=rfl
  try rw [hkr]
  cases n==Kerb.krbtgt
  ·simp only [Zp,Xb,sel_true,sel_false]
   by_cases he:(Vw ⟨rl,es⟩ n i now).2=0
   case neg=>rw [sel_pos (by simpa using he),if_neg (by simp),if_pos he]
   obtain ⟨u1,u2⟩:=Kerb.serv_lt he
   dsimp only at u2
   rw [sel_neg (by simpa using he),if_neg (by simp),if_neg (by simpa using he),chk_of (by simp;omega),Wn u2]
   simp only [Yu,↓A0,A0]
  cases i==rl
  case true =>
   cases Vm i
   ·simp only [Zp,Xb,sel_true,sel_false]
    by_cases he:(Vw ⟨rl,es⟩ n i now).2=0
    case neg=>rw [sel_pos (by simpa using he),if_neg (by simp),if_pos he]
    obtain ⟨u1,u2⟩:=Kerb.serv_lt he
    dsimp only at u2
    rw [sel_neg (by simpa using he),if_neg (by simp),if_neg (by simpa using he),chk_of (by simp;omega),Wn u2]
    simp only [Yu,↓A0,A0]
   ·simp only [Zp,Xb,sel_true,sel_false]
    by_cases he:(Vw ⟨rl,es⟩ n i now).2=0
    case neg=>rw [sel_pos (by simpa using he),if_neg (by simp),if_pos he]
    obtain ⟨u1,u2⟩:=Kerb.serv_lt he
    dsimp only at u2
    rw [sel_neg (by simpa using he),if_neg (by simp),if_neg (by simpa using he),chk_of (by simp;omega),Wn u2]
    simp only [Yu,↓A0,A0]
  cases Vm i
  ·simp only [Zp,Xb,sel_true,sel_false]
   by_cases he:(Vw ⟨rl,es⟩ n i now).2=0
   case neg=>rw [sel_pos (by simpa using he),if_neg (by simp),if_pos he]
   obtain ⟨u1,u2⟩:=Kerb.serv_lt he
   dsimp only at u2
   rw [sel_neg (by simpa using he),if_neg (by simp),if_neg (by simpa using he),chk_of (by simp;omega),Wn u2]
   simp only [Yu,↓A0,A0]
  ·simp only [Zp,Xb,sel_true,sel_false]
   by_cases he:(Vk cs rl i).2=true
   ·obtain ⟨u1,u2⟩:=Kerb.findCross_lt he
    have hk:(decide (0≤(Vk cs rl i).1)&&decide ((Vk cs rl i).1<(cs.length:Int))&&true)=true:=by simp;omega
    simp only [he,hk,Kerb.getD_cross u2,Kerb.Cross.av,Zp,Xu,Xb,if_true,↓A0,A0]
   ·have he2:(Vk cs rl i).2=false:=by simpa using he
    rw [he2]
    rfl
 ·cases h
theorem w111:Walked Tryz.prog G 111 5 sp111:=by
 refine ⟨Tryz.f111,Tryz.func111,by decide +kernel,rfl,fun xs bl r h=> ?_⟩
 unfold sp111 at h
 split at h
 ·rename_i op al at_ ase ast aen akv a1 a2 a3 atk key
  obtain ⟨hpre,h2⟩:=chk_inv h;cases h2
  refine Eq.trans (b:=(Zx (chk (decide (Zz a1≤9223372036854775807)&&decide (Zz a2≤9223372036854775807)&&decide (Zz a3≤9223372036854775807)&&decide (0≤ase)&&decide (ase<18446744073709551616)) (some (Zd [Zk (Wv (Uy (Vv al at_ ase ast aen akv (Yq a1 a2 a3) atk))),Zy .i64 (Wz (Uy (Vv al at_ ase ast aen akv (Yq a1 a2 a3) atk)))],[]))) fun (r:AV×Blocks)=>onNilB (Zg r) (Wy (Zb r) fun vs=>onCons vs fun x r=>Wp x fun b=>onCons r fun x r=>Yy .i64 x fun n=>onNil r (sel (!n==0) (some (Zd [Zk [],Zj false],[])) (Zx (chk (decide (0≤key)&&decide (key<18446744073709551616)) (some (Zd [Zk (Wv (Uw 8 key b)),Zy .i64 (Wz (Uw 8 key b))],[]))) fun (r:AV×Blocks)=>onNilB (Zg r) (Wy (Zb r) fun vs=>onCons vs fun x r=>Wp x fun b=>onCons r fun x r=>Yy .i64 x fun n=>onNil r (sel (!n==0) (some (Zd [Zk [],Zj false],[])) (some (Zd [Zk (Wv (Ww (Ud op 0 b))),Zj (Wz (Ww (Ud op 0 b))==0)],[]))))))):Option (AV×Blocks))) (by kernel_rfl) ?_
  simp only [Yv,decide_eq_true_eq] at hpre
  simp only [Kerb.isU64_iff] at hpre
  obtain ⟨⟨⟨⟨⟨h1,h2⟩,h3⟩,h4⟩,h5,h6⟩,h7,h8⟩:=hpre
  simp only [h1,h2,h3,h4,h5,h6,h7,h8,decide_true,Xu,↓A0,A0]
  unfold Vy Kerb.kaReplyDec
  try dsimp only
  generalize Uy _=E
  by_cases he:E.err=0
  case neg=>rw [sel_pos (by simpa using he),if_pos he,show (E.err==0)=false from by simpa using he]
  rw [sel_neg (by simpa using he),if_neg (by simpa using he)]
  generalize Uw _ _ _=F
  by_cases hf:F.err=0
  case neg=>rw [sel_pos (by simpa using hf),if_pos hf,show (F.err==0)=false from by simpa using hf]
  rw [sel_neg (by simpa using hf),if_neg (by simpa using hf)]
 ·cases h
theorem w113:Walked Tryz.prog G 113 5 sp113:=by
 refine ⟨Tryz.f113,Tryz.func113,by decide +kernel,rfl,fun xs bl r h=> ?_⟩
 unfold sp113 at h
 split at h
 ·rename_i rl els i k
  obtain ⟨hpre,h2⟩:=chk_inv h;cases h2
  refine Eq.trans (b:=(let t0:Bool:=Vb els Wg&&decide (Zz els≤1000000)&&decide (0≤i)&&decide (i<(↑(Zz els):Int));let t2:AV:=Xy [Zu [],Xp 9 []];let t1:Option (AV×Blocks):=some (Zd [t2,Zy .i64 104],[]);Zx (chk (l63 rl&&Vb els Wg&&decide (Zz els≤1000000)) (some (Zy .i64 (Kerb.Db.err (Xd rl (Yn Yb els))),[]))) (kI .i64 fun n=>sel (!n==0) (some (Zd [t2,Zy .i64 n],[])) (sel (decide (i<0)) t1 (sel (decide (i≥(↑(Zz els):Int))) t1 (Zx (chk (decide (0≤k)&&decide (k<18446744073709551616)) (some (Zj (Ym k),[]))) (kL fun b=>sel (!b) (some (Zd [t2,Zy .i64 10],[])) (chk (decide (0≤i)&&decide (i<(↑(Zz els):Int))&&true) (Wd (Xx els (Zf i) Uz) fun cs=>cStr cs fun b r=>cStr r fun b_1 r=>cInt .u64 r fun n r=>cInt .i64 r fun n r=>cInt .i64 r fun n_1 r=>cInt .i64 r fun n_2 r=>cInt .i64 r fun n_3 r=>cInt .i64 r fun n_4 r=>cInt .i64 r fun n_5 r=>let t3:Kerb.Db:=Kerb.setEnt (Xd rl (Yn Yb els)) i (Kerb.Entry.mk b b_1 k (Yz .i64 (n+1)) n_1 n_2 n_3 n_4 n_5);let t4:Kerb.Db:=Kerb.setEnt (Xd rl (Yn Yb els)) i (Kerb.Entry.mk b b_1 k 1 n_1 n_2 n_3 n_4 n_5);onNil r (sel (decide (Yz .i64 (n+1)>255)) (Zx (chk t0 (some (Xy [Zu (Kerb.Db.realm t4),Xp 9 (Yn Yu (Kerb.Db.entries t4))],[]))) (kA fun cs=>cStr cs fun b r=>cSl 9 r fun b_2 r=>onNil r (some (Zd [Xy [Zu b,Xp 9 b_2],Zy .i64 0],[])))) (Zx (chk t0 (some (Xy [Zu (Kerb.Db.realm t3),Xp 9 (Yn Yu (Kerb.Db.entries t3))],[]))) (kA fun cs=>cStr cs fun b r=>cSl 9 r fun b_2 r=>onNil r (some (Zd [Xy [Zu b,Xp 9 b_2],Zy .i64 0],[])))))))))))):Option (AV×Blocks))) (by kernel_rfl) ?_
  delta kA kL kI
  try dsimp only [cStr,cBs,cBool,cU8,cInt,cSl,l63]
  simp only [Yv,decide_eq_true_eq] at hpre
  obtain ⟨⟨⟨⟨hr,hall⟩,hlen⟩,h0⟩,h1⟩:=hpre
  obtain ⟨es,rfl,hok⟩:=Kerb.ents_of hall
  rw [Vd]
  simp only [hr,hall,hlen,h0,h1,decide_true,Xu,↓A0,A0]
  simp only [Wq] at hlen ⊢
  unfold Kerb.rekey
  dsimp only
  generalize hz:Kerb.Db.err ⟨rl,es⟩=z
  by_cases hz0:z=0
  case neg=>rw [sel_pos (by simpa using hz0),if_pos hz0];rfl
  rw [sel_neg (by simpa using hz0),if_neg (by simpa using hz0)]
  by_cases hi:i<0
  ·rw [sel_pos (by simpa using hi),if_pos (.inl hi)];rfl
  rw [sel_neg (by simpa using hi)]
  by_cases hi2:(es.length:Int)≤i
  ·rw [sel_pos (by simpa using hi2),if_pos (.inr hi2)];rfl
  rw [sel_neg (by simpa using hi2),if_neg (by omega)]
  cases hk:Ym k
  ·rfl
  rw [sel_neg (by simp),if_neg (by simp)]
  have i0:decide (0≤i)=true:=by simp;omega
  have i1:decide (i<(es.length:Int))=true:=by simp;omega
  rw [chk_of (by rw [i0,i1];rfl),Wn (by omega)]
  have hx:=Kerb.errs_all (Kerb.Db.err_inv (hz.trans hz0)).2.2 _ (Kerb.ent_mem (es:=es) (i:=i.toNat) (by omega))
  generalize es.getD i.toNat Kerb.noEntry=e at hx
  have x4:=Kerb.within_iff.1 (Kerb.Entry.err_inv hx).2.2.2.1
  simp only [Yu,i0,i1,↓A0,A0]
  unfold Kerb.Entry.rekeyed
  try dsimp only
  by_cases hv:e.kvno<255
  ·rw [wrap_i64 (by omega) (by omega),sel_neg (by simp;omega),if_pos hv];rfl
  ·rw [wrap_i64 (by omega) (by omega),sel_pos (by simp;omega),if_neg hv];rfl
 ·cases h
theorem w126:Walked Tryz.prog G 126 5 sp126:=by
 refine ⟨Tryz.f126,Tryz.func126,by decide +kernel,rfl,fun xs bl r h=> ?_⟩
 unfold sp126 at h
 split at h
 ·rename_i s
  obtain ⟨hpre,h2⟩:=chk_inv h;cases h2
  refine Eq.trans (b:=(sel (!s==[]) (sel (decide ((↑(Zz s):Int)≤39)) (Zx (chk (decide (Zz s≤9223372036854775807)) (some (Zj (Wk s [(46:UInt8),(64:UInt8)]),[]))) fun (r:AV×Blocks)=>onNilB (Zg r) (Vj (Zb r) fun b=>some (Zj b,[]))) (some (Zj false,[]))) (some (Zj false,[])):Option (AV×Blocks))) (by kernel_rfl) ?_
  simp only [A0]
  rw [chk_of hpre,decide_eq_decide.2 (show ((s.length:Int)≤39)↔s.length≤39 from by omega)]
  simp only [Uq]
  cases s with
  | nil=>rfl
  | cons x r=>cases decide ((x::r).length≤39)<;>rfl
 ·cases h
theorem w127:Walked Tryz.prog G 127 5 sp127:=by
 refine ⟨Tryz.f127,Tryz.func127,by decide +kernel,rfl,fun xs bl r h=> ?_⟩
 unfold sp127 at h
 split at h
 ·rename_i s
  obtain ⟨hpre,h2⟩:=chk_inv h;cases h2
  refine Eq.trans (b:=(sel (decide ((↑(Zz s):Int)≤39)) (Zx (chk (decide (Zz s≤9223372036854775807)) (some (Zj (Wk s [(64:UInt8)]),[]))) fun (r:AV×Blocks)=>onNilB (Zg r) (Vj (Zb r) fun b=>some (Zj b,[]))) (some (Zj false,[])):Option (AV×Blocks))) (by kernel_rfl) ?_
  simp only [A0]
  rw [chk_of hpre,decide_eq_decide.2 (show ((s.length:Int)≤39)↔s.length≤39 from by omega)]
  simp only [Uj]
  cases decide (s.length≤39)<;>rfl
 ·cases h
theorem w137:Walked Tryz.prog G 137 5 sp137:=by
 refine ⟨Tryz.f137,Tryz.func137,by decide +kernel,rfl,fun xs bl r h=> ?_⟩
 unfold sp137 at h
 split at h
 ·rename_i li x y z ad k lf iss sv ins
  obtain ⟨hpre,h2⟩:=chk_inv h;cases h2
  refine Eq.trans (b:=(let t0:Nat:=Zz ([]++Yw 0 1 false)+Zz x+Zz y+Zz z;let t1:Nat:=Zz ([]++Yw 1 1 false)+Zz x+Zz y+Zz z;let t2:Option (AV×Blocks):=chk (decide (0≤k)&&decide (k<18446744073709551616)) (some (Zk (Ub k),[]));Zx (chk (l63 x&&l63 y&&l63 z&&l63 sv&&l63 ins&&decide (0≤k)&&decide (k<18446744073709551616)) (some (Zy .i64 (Kerb.Ticket.err (Kerb.Ticket.mk li (Yq x y z) ad k lf iss sv ins)),[]))) (kI .i64 fun n=>sel (!n==0) (some (Zd [Zk [],Zy .i64 n],[])) (sel li (Zx (chk (decide (t1≤70368744170000)) (some (Zk (Ux ([]++Yw 1 1 false) (Yq x y z)),[]))) (kB fun b=>Zx (chk (decide (Zz b≤70368744177664)) (some (Yk (b++Yw ad 4 li),[]))) (kO fun l=>Zx t2 (kB fun b=>chk (room (Zz l+Zz b) 1) (Zx (chk (decide (Zz (l++b)≤70368744177664)) (some (Yk (l++b++Yw lf 1 false),[]))) (kO fun l=>Zx (chk (decide (Zz l≤70368744177664)) (some (Yk (l++Yw iss 4 li),[]))) (kO fun l=>Zx (chk (decide (Zz l+Zz sv≤70368744177664)) (some (Zk (Yd l sv),[]))) (kB fun b=>Zx (chk (decide (Zz b+Zz ins≤70368744177664)) (some (Zk (Yd b ins),[]))) (kB fun b=>Zx (chk (decide (Zz b≤70368744177664)) (some (Yk (Kerb.pad b),[]))) (kO fun l=>some (Zd [Zk l,Zy .i64 0],[]))))))))))) (Zx (chk (decide (t0≤70368744170000)) (some (Zk (Ux ([]++Yw 0 1 false) (Yq x y z)),[]))) (kB fun b=>Zx (chk (decide (Zz b≤70368744177664)) (some (Yk (b++Yw ad 4 li),[]))) (kO fun l=>Zx t2 (kB fun b=>chk (room (Zz l+Zz b) 1) (Zx (chk (decide (Zz (l++b)≤70368744177664)) (some (Yk (l++b++Yw lf 1 false),[]))) (kO fun l=>Zx (chk (decide (Zz l≤70368744177664)) (some (Yk (l++Yw iss 4 li),[]))) (kO fun l=>Zx (chk (decide (Zz l+Zz sv≤70368744177664)) (some (Zk (Yd l sv),[]))) (kB fun b=>Zx (chk (decide (Zz b+Zz ins≤70368744177664)) (some (Zk (Yd b ins),[]))) (kB fun b=>Zx (chk (decide (Zz b≤70368744177664)) (some (Yk (Kerb.pad b),[]))) (kO fun l=>some (Zd [Zk l,Zy .i64 0],[]))))))))))))):Option (AV×Blocks))) (by kernel_rfl) ?_
  delta kB kO kI
  try dsimp only [cStr,cBs,cBool,cU8,cInt,cSl,l63]
  simp only [Yv,decide_eq_true_eq] at hpre
  obtain ⟨⟨⟨⟨⟨⟨h1,h2⟩,h3⟩,h4⟩,h5⟩,h6⟩,h7⟩:=hpre
  simp only [h1,h2,h3,h4,h5,h6,h7,decide_true,Xu,↓A0,A0]
  have hb := @Kerb.encTicket_inv ⟨li,⟨x,y,z⟩,ad,k,lf,iss,sv,ins⟩
  unfold Ug at hb ⊢
  dsimp only at hb ⊢
  generalize hE:Kerb.Ticket.err _=e at hb ⊢
  by_cases he:e=0
  case neg=>rw [sel_pos (by simpa using he),if_pos he]
  rw [if_neg (by simpa using he)] at hb
  obtain ⟨v1,v2,v3,_⟩:=hb rfl
  have l1:=Uu v1
  have l2:=(Kerb.name_ok v2).1
  have l3:=(Kerb.inst_ok v3).1
  dsimp only at l1
  rw [sel_neg (by simpa using he),if_neg (by simpa using he)]
  cases li
  ·rw [sel_false,chk_of (by first | (simp [Zq,Zv,Zw];done) | (simp [Zq,Zv,Zw];omega)),chk_of (by first | (simp [Zq,Zv,Zw];done) | (simp [Zq,Zv,Zw];omega)),chk_of (Yf (by first | (simp [Zq,Zv,Zw];done) | (simp [Zq,Zv,Zw];omega))),chk_of (by first | (simp [Zq,Zv,Zw];done) | (simp [Zq,Zv,Zw];omega)),chk_of (by first | (simp [Zq,Zv,Zw];done) | (simp [Zq,Zv,Zw];omega)),chk_of (by first | (simp [Zq,Zv,Zw];done) | (simp [Zq,Zv,Zw];omega)),chk_of (by first | (simp [Yd,Zq,Zv,Zw];done) | (simp [Yd,Zq,Zv,Zw];omega)),chk_of (by first | (simp [Yd,Zq,Zv,Zw];done) | (simp [Yd,Zq,Zv,Zw];omega))]
   simp
  ·rw [sel_true,chk_of (by first | (simp [Zq,Zv,Zw];done) | (simp [Zq,Zv,Zw];omega)),chk_of (by first | (simp [Zq,Zv,Zw];done) | (simp [Zq,Zv,Zw];omega)),chk_of (Yf (by first | (simp [Zq,Zv,Zw];done) | (simp [Zq,Zv,Zw];omega))),chk_of (by first | (simp [Zq,Zv,Zw];done) | (simp [Zq,Zv,Zw];omega)),chk_of (by first | (simp [Zq,Zv,Zw];done) | (simp [Zq,Zv,Zw];omega)),chk_of (by first | (simp [Zq,Zv,Zw];done) | (simp [Zq,Zv,Zw];omega)),chk_of (by first | (simp [Yd,Zq,Zv,Zw];done) | (simp [Yd,Zq,Zv,Zw];omega)),chk_of (by first | (simp [Yd,Zq,Zv,Zw];done) | (simp [Yd,Zq,Zv,Zw];omega))]
   simp
 ·cases h
theorem w155:Walked Tryz.prog G 155 5 sp155:=by
 refine ⟨Tryz.f155,Tryz.func155,by decide +kernel,rfl,fun xs bl r h=> ?_⟩
 unfold sp155 at h
 split at h
 ·rename_i rl els n i now
  obtain ⟨hpre,h2⟩:=chk_inv h;cases h2
  refine Eq.trans (b:=(Zx (chk (Vb els Wg&&decide (Zz els≤1000000)) (some (Zd [Zy .i64 (Zb (Vn (Xd rl (Yn Yb els)) n i now 1 1 5)),Zy .i64 (Zg (Vn (Xd rl (Yn Yb els)) n i now 1 1 5))],[]))) fun (r:AV×Blocks)=>onNilB (Zg r) (Wy (Zb r) fun vs=>onCons vs fun x r=>Yy .i64 x fun n=>onCons r fun x r=>Yy .i64 x fun n_1=>onNil r (some (Zd [Zy .i64 n,Zy .i64 n_1],[]))):Option (AV×Blocks))) (by kernel_rfl) ?_
  simp only [hpre,↓A0,A0]
  rfl
 ·cases h
theorem w188:Walked Tryz.prog G 188 5 sp188:=by
 refine ⟨Tryz.f188,Tryz.func188,by decide +kernel,rfl,fun xs bl r h=> ?_⟩
 unfold sp188 at h
 split at h
 ·rename_i b t
  obtain ⟨hpre,h2⟩:=chk_inv h;cases h2
  refine Eq.trans (b:=(Zx (chk (decide (Zz b≤70368744177664)) (some (Yk (b++Yw (↑(Zz t):Int) 1 false),[]))) fun (r:AV×Blocks)=>onNilB (Zg r) (AV.onOwnB (Zb r) fun l=>chk (room (Zz l+Zz t) 1) (some (Zk (l++t),[]))):Option (AV×Blocks))) (by kernel_rfl) ?_
  simp only [decide_eq_true_eq] at hpre
  simp only [A0]
  rw [chk_of (by simp;omega),chk_of (Yf (by simp [Zv];omega))]
  rfl
 ·cases h
theorem w190:Walked Tryz.prog G 190 5 sp190:=by
 refine ⟨Tryz.f190,Tryz.func190,by decide +kernel,rfl,fun xs bl r h=> ?_⟩
 unfold sp190 at h
 split at h
 ·rename_i b t
  obtain ⟨hpre,h2⟩:=chk_inv h;cases h2
  refine Eq.trans (b:=(Zx (chk (decide (Zz b≤70368744177664)) (some (Yk (b++Yw (↑(Zz t):Int) 2 false),[]))) fun (r:AV×Blocks)=>onNilB (Zg r) (AV.onOwnB (Zb r) fun l=>chk (room (Zz l+Zz t) 1) (some (Zk (l++t),[]))):Option (AV×Blocks))) (by kernel_rfl) ?_
  simp only [decide_eq_true_eq] at hpre
  simp only [A0]
  rw [chk_of (by simp;omega),chk_of (Yf (by simp [Zv];omega))]
  rfl
 ·cases h
theorem w204:Walked Tryz.prog G 204 5 sp204:=by
 refine ⟨Tryz.f204,Tryz.func204,by decide +kernel,rfl,fun xs bl r h=> ?_⟩
 unfold sp204 at h
 split at h
 ·rename_i b
  obtain ⟨hpre,h2⟩:=chk_inv h;cases h2
  refine Eq.trans (b:=(let t1:Int:=Yz .i64 (↑(BitVec.toNat (BitVec.ofInt (Xv .i64) (Yz .i64 (Yz .i64 (↑(Wu (Xx b (Zf 10) (0:UInt8))):Int)*2 ^ min (Zf 8) (Xv .i64))) ||| BitVec.ofInt (Xv .i64) (Yz .i64 (↑(Wu (Xx b (Zf 11) (0:UInt8))):Int)))):Int);let t2:Option (AV×Blocks):=some (Zd [Xy [Zy .i64 0,Zy .u64 0,Zk []],Zy .i64 0,Zy .i64 100],[]);let t3:Option (AV×Blocks):=some (Zd [Xy [Zy .i64 0,Zy .u64 0,Zk []],Zy .i64 0,Zy .i64 101],[]);let t0:Int:=Yz .i64 (12+t1);sel (decide ((↑(Zz b):Int)<12)) t3 (chk (decide (1<(↑(Zz b):Int))) (chk (decide (10≤(↑(Zz b):Int))) (Zx (chk (decide (Zz (Xm (Zf 2) (Xn (Zf 10) b))≤4611686018427387904)) (some (Zd [Zy .u64 (Zb (Xj (Xm (Zf 2) (Xn (Zf 10) b)))),Zj (Zg (Xj (Xm (Zf 2) (Xn (Zf 10) b))))],[]))) (kT fun vs=>cInt .u64 vs fun n r=>cBool r fun b_1 r=>onNil r (chk (decide (10<(↑(Zz b):Int))) (chk (decide (11<(↑(Zz b):Int))) (chk (decide (0<(↑(Zz b):Int))) (sel (!Xx b (Zf 0) (0:UInt8)==(66:UInt8)) t2 (sel (!Vq (Yz .i64 (↑(Wu (Xx b (Zf 1) (0:UInt8))):Int))) t2 (sel (!b_1) t2 (sel (decide (t1>1000)) t2 (sel (decide ((↑(Zz b):Int)<t0)) t3 (chk (decide (12≤t0)&&decide (t0≤t0)&&decide (t0≤(↑(Zz b):Int))) (Zx (chk (decide (Zz (Xm (Zf 12) (Xn (Zf t0) b))≤140737488355328)) (some (Zk (Xm (Zf 12) (Xn (Zf t0) b)),[]))) (kB fun b_2=>some (Zd [Xy [Zy .i64 (Yz .i64 (↑(Wu (Xx b (Zf 1) (0:UInt8))):Int)),Zy .u64 n,Zk b_2],Zy .i64 t0,Zy .i64 0],[])))))))))))))))):Option (AV×Blocks))) (by kernel_rfl) ?_
  delta kT kB
  try dsimp only [cStr,cBs,cBool,cU8,cInt,cSl,l63]
  simp only [decide_eq_true_eq] at hpre
  unfold Xq
  by_cases h0:b.length<12
  ·rw [sel_pos (by simp;omega),if_pos h0];rfl
  rw [sel_neg (by simp;omega),if_neg h0]
  have hc:=Kerb.cut_len b 2 8
  have hs:(b.getD 10 0).toNat*256+(b.getD 11 0).toNat=Vx b:=rfl
  simp only [Kerb.cut_28,Kerb.size_or]
  simp only [show Zf 0=0 from rfl,show Zf 1=1 from rfl,show Zf 10=10 from rfl,show Zf 11=11 from rfl,Kerb.wrap_byte,hs]
  rw [chk_of (by simp;omega),chk_of (by simp;omega),chk_of (by simp;omega)]
  simp only [↓A0]
  rw [chk_of (by simp;omega),chk_of (by simp;omega),chk_of (by simp;omega)]
  by_cases h1:b.getD 0 0=66
  case neg=>rw [sel_pos (by simpa using h1),if_pos (.inl h1)];rfl
  rw [sel_neg (by simpa using h1)]
  cases h2:Vq ((b.getD 1 0).toNat:Int)
  ·rw [if_pos (.inr (.inl rfl))];rfl
  rw [Zp,sel_false]
  cases h3:(Xj (Kerb.cut b 2 8)).2
  ·rw [if_pos (.inr (.inr (.inl rfl)))];rfl
  rw [Zp,sel_false]
  by_cases h4:1000<Vx b
  ·rw [sel_pos (by simp;omega),if_pos (.inr (.inr (.inr h4)))];rfl
  rw [sel_neg (by simp;omega),if_neg (by rintro (h | h | h | h)<;>first | exact h h1 | cases h | omega),wrap_i64 (by omega) (by omega)]
  by_cases h5:b.length<12+Vx b
  ·rw [sel_pos (by simp;omega),if_pos h5];rfl
  have hc2:=Kerb.cut_len b 12 (Vx b)
  rw [sel_neg (by simp;omega),if_neg h5,Kerb.cut_12,chk_of (by simp;omega)]
  simp only [↓A0]
  rw [chk_of (by simp;omega)]
  simp
 ·cases h
theorem w207:Walked Tryz.prog G 207 5 sp207:=by
 refine ⟨Tryz.f207,Tryz.func207,by decide +kernel,rfl,fun xs bl r h=> ?_⟩
 unfold sp207 at h
 split at h
 ·rename_i B at_ bad
  obtain ⟨hpre,h2⟩:=chk_inv h;cases h2
  show runFnH (G.env 207 5) G.rts (G.own 207) Tryz.f207 _ _ [0]=_
  refine Eq.trans (b:=(Zx (chk (decide (Zz B≤140737488355328)) (some (Zk (Kerb.Rd.val (Kerb.pBytes B 8 at_ bad)),[[Zk B,Zy .i64 (Kerb.Rd.pos (Kerb.pBytes B 8 at_ bad)),Zj (Kerb.Rd.bad (Kerb.pBytes B 8 at_ bad))]]))) fun (r:AV×Blocks)=>onConsB (Zg r) fun (x:List AV) (r_1:List (List AV))=>onCons x fun x r_2=>Wp x fun b=>onCons r_2 fun x r_3=>Yy .i64 x fun n=>onCons r_3 fun x r_4=>Vj x fun b_1=>onNil r_4 (onNilB r_1 (Wp (Zb r) fun b_2=>Zx (chk (decide (Zz b_2≤4611686018427387904)) (some (Zd [Zy .u64 (Zb (Xj b_2)),Zj (Zg (Xj b_2))],[]))) fun (r:AV×Blocks)=>onNilB (Zg r) (Wy (Zb r) fun vs=>onCons vs fun x r=>Yy .u64 x fun n_1=>onCons r fun x r=>Vj x fun b_3=>onNil r (sel (!b_3) (some (Zy .u64 0,[[Zk b,Zy .i64 n,Zj true]])) (some (Zy .u64 n_1,[[Zk b,Zy .i64 n,Zj b_1]])))))):Option (AV×Blocks))) (by kernel_rfl) ?_
  have hb:=of_decide_eq_true hpre
  simp only [A0]
  have hl:(Kerb.pBytes B 8 at_ bad).val.length≤B.length:=Kerb.pBytes_len B 8 at_ bad
  rw [chk_of hpre,chk_of (by simp;omega)]
  unfold Kerb.pKey
  cases (Xj (Kerb.pBytes B 8 at_ bad).val).2
  ·simp [sel]
  ·simp [sel]
 ·cases h
theorem w216:Walked Tryz.prog G 216 5 sp216:=by
 refine ⟨Tryz.f216,Tryz.func216,by decide +kernel,rfl,fun xs bl r h=> ?_⟩
 unfold sp216 at h
 split at h
 ·rename_i rl els n i now
  obtain ⟨hpre,h2⟩:=chk_inv h;cases h2
  refine Eq.trans (b:=(Zx (chk (Vb els Wg&&decide (Zz els≤1000000)) (some (Zd [Zy .i64 (Zb (Vn (Xd rl (Yn Yb els)) n i now 2 2 6)),Zy .i64 (Zg (Vn (Xd rl (Yn Yb els)) n i now 2 2 6))],[]))) fun (r:AV×Blocks)=>onNilB (Zg r) (Wy (Zb r) fun vs=>onCons vs fun x r=>Yy .i64 x fun n=>onCons r fun x r=>Yy .i64 x fun n_1=>onNil r (some (Zd [Zy .i64 n,Zy .i64 n_1],[]))):Option (AV×Blocks))) (by kernel_rfl) ?_
  simp only [hpre,↓A0,A0]
  rfl
 ·cases h
theorem w49:Walked Tryz.prog G 49 6 sp49:=by
 refine ⟨Tryz.f49,Tryz.func49,by decide +kernel,rfl,fun xs bl r h=> ?_⟩
 unfold sp49 at h
 split at h
 ·rename_i rl els i now sk bd
  obtain ⟨hpre,h2⟩:=chk_inv h;cases h2
  refine Eq.trans (b:=(let t0:List AV:=[Xy [Zy .i64 0,Zu [],Zu [],Zu [],Zu [],Zu [],Zu [],Zu [],Zu [],Zu [],Zy .u64 0,Zy .u64 0,Zy .u64 0,Zk [],Zy .i64 0,Zy .i64 0],Zj false];let t1:AV:=Xy [Zu rl,Xp 9 els];Zx (chk (decide (Zz bd≤140737488355328)) (some (Zd [Xy [Zu (Kerb.KaSecret.label (Vu (Xz bd))),Zy .i64 (Kerb.KaSecret.time (Vu (Xz bd))),Zy .i64 (Kerb.KaSecret.start (Vu (Xz bd))),Zy .i64 (Kerb.KaSecret.stop (Vu (Xz bd))),Zy .u64 (Kerb.KaSecret.new (Vu (Xz bd)))],Zy .i64 (Kerb.Dec.err (Xz bd))],[]))) (kT fun vs=>onCons vs fun x r=>Wd x fun cs=>cStr cs fun b r_1=>cInt .i64 r_1 fun n r_2=>cInt .i64 r_2 fun n_1 r_3=>cInt .i64 r_3 fun n_2 r_4=>cInt .u64 r_4 fun n_3 r_5=>onNil r_5 (cInt .i64 r fun n_4 r=>onNil r (sel (!n_4==0) (some (Zd (t1::Zk (Kerb.kaRefuse 3 80)::t0),[])) (sel (!b==[(67:UInt8),(80:UInt8),(87:UInt8),(108:UInt8)]) (some (Zd (t1::Zk (Kerb.kaRefuse 3 80)::t0),[])) (sel (!Kerb.near n now sk) (some (Zd (t1::Zk (Kerb.kaRefuse 3 37)::t0),[])) (Zx (chk (decide (0≤n_3)&&decide (n_3<18446744073709551616)) (some (Zy .i64 (Kerb.classOf n_3),[]))) (kI .i64 fun n_5=>sel (!n_5==1) (some (Zd (t1::Zk (Kerb.kaRefuse 3 10)::t0),[])) (Zx (chk (decide (0≤n)&&decide (n≤4294967295)) (some (Zy .i64 (Kerb.kaNext n),[]))) (kI .i64 fun n=>let t2:Kerb.KaAnswer:=Vv [(67:UInt8),(80:UInt8),(87:UInt8),(100:UInt8)] n 0 0 0 0 (Yq [] [] []) [];chk (decide (0≤i)&&decide (i<(↑(Zz els):Int))&&true) (Wd (Xx els (Zf i) Uz) fun cs=>cStr cs fun b r=>cStr r fun b r=>cInt .u64 r fun n r=>cInt .i64 r fun n_6 r=>cInt .i64 r fun n_7 r=>cInt .i64 r fun n_8 r=>cInt .i64 r fun n_9 r=>cInt .i64 r fun n_10 r=>cInt .i64 r fun n_11 r=>onNil r (Zx (chk (Kerb.isU64 n) (some (Zd [Zk (Zb (Vy 3 t2 n)),Zj (Zg (Vy 3 t2 n))],[]))) (kT fun vs=>cBs vs fun b r=>cBool r fun b_1 r=>onNil r (Zx (chk (l63 rl&&Vb els Wg&&decide (Zz els≤1000000)&&decide (0≤n_3)&&decide (n_3<18446744073709551616)) (some (Zd [Xy [Zu (Kerb.Db.realm (Vu (Kerb.rekey (Xd rl (Yn Yb els)) i n_3))),Xp 9 (Yn Yu (Kerb.Db.entries (Vu (Kerb.rekey (Xd rl (Yn Yb els)) i n_3))))],Zy .i64 (Kerb.Dec.err (Kerb.rekey (Xd rl (Yn Yb els)) i n_3))],[]))) (kT fun vs=>onCons vs fun x r=>Wd x fun cs=>cStr cs fun b_2 r_6=>cSl 9 r_6 fun b_3 r_7=>onNil r_7 (cInt .i64 r fun n r=>onNil r (sel (!b_1) (some (Zd (t1::Zk []::t0),[])) (sel (!n==0) (some (Zd (t1::Zk []::t0),[])) (Zx (chk (Vb b_3 Wg&&decide (Zz b_3≤1000000)&&decide (0≤i)&&decide (i<(↑(Zz b_3):Int))) (some (Xy [Zu (Kerb.Db.realm (Kerb.kaClear (Xd b_2 (Yn Yb b_3)) i)),Xp 9 (Yn Yu (Kerb.Db.entries (Kerb.kaClear (Xd b_2 (Yn Yb b_3)) i)))],[]))) (kA fun cs=>cStr cs fun b_4 r=>cSl 9 r fun b_5 r=>onNil r (some (Zd (Xy [Zu b_4,Xp 9 b_5]::Zk b::t0),[]))))))))))))))))))))):Option (AV×Blocks))) (by kernel_rfl) ?_
  delta kT kA kI
  try dsimp only [cStr,cBs,cBool,cU8,cInt,cSl,l63]
  simp only [Yv,decide_eq_true_eq] at hpre
  obtain ⟨⟨⟨⟨⟨⟨c7,hall⟩,hlen⟩,he⟩,hbl⟩,h0⟩,h1⟩:=hpre
  obtain ⟨es,rfl,hok⟩:=Kerb.ents_of hall
  rw [Vd] at *
  simp only [Wq] at hlen h1
  have i0:decide (0≤i)=true:=by simp;omega
  have i1:decide (i<(es.length:Int))=true:=by simp;omega
  have hlb:[(67:UInt8),(80:UInt8),(87:UInt8),(108:UInt8)]=Wf:=rfl
  have hlb2:[(67:UInt8),(80:UInt8),(87:UInt8),(100:UInt8)]=Kerb.lDone:=rfl
  have bl:decide (bd.length≤140737488355328)=true:=by simp;omega
  simp only [hlb,hlb2,Vd,hall,Wq,hlen,bl,c7,i0,i1,decide_true,Xu,List.map_nil,↓A0,A0]
  have hrk:=fun k=>Kerb.rekey_clear (d:=⟨rl,es⟩) (i:=i) (k:=k) he h0 h1
  unfold Kerb.kaChangePw
  dsimp only
  have sb:=Kerb.kaSec_bd bd
  by_cases h1:(Xz bd).err=0
  case neg=>rw [sel_pos (by simpa using h1),Kerb.kaSecOf_1 h1];rfl
  by_cases h2:(Xz bd).val.label=Wf
  case neg=>rw [sel_neg (by simpa using h1),sel_pos (by simpa using h2),Kerb.kaSecOf_2 h2];rfl
  rw [sel_neg (by simpa using h1),sel_neg (by simpa using h2)]
  cases h3:Kerb.near (Xz bd).val.time now sk
  ·rw [Kerb.kaSecOf_3 h1 h2 h3];rfl
  rw [sel_neg (by rfl),Kerb.kaSecOf_4 h1 h2 h3]
  generalize Xz bd=D at sb
  dsimp only
  rw [chk_of (by simp;exact sb.2.2)]
  by_cases h4:Kerb.classOf D.val.new=1
  case neg=>rw [sel_pos (by simpa using h4),if_neg (show ¬ ((0:Int)≠0) from by decide),if_pos h4];try rfl
  rw [sel_neg (by simpa using h4),if_neg (show ¬ ((0:Int)≠0) from by decide),if_neg (not_not_intro h4),chk_of (by simp;exact sb.1),Wn (by omega)]
  have ho:=hok _ (Kerb.ent_mem (es:=es) (i:=i.toNat) (by omega))
  unfold Kerb.entAt
  dsimp only
  generalize es.getD i.toNat Kerb.noEntry=w at ho ⊢
  have n0:decide (0≤D.val.new)=true:=decide_eq_true sb.2.2.1
  have n1:decide (D.val.new<18446744073709551616)=true:=decide_eq_true sb.2.2.2
  simp only [Yu,n0,n1,ho.2.2.1,Xu,↓A0,A0]
  rw [show Kerb.noPrin=⟨[],[],[]⟩ from rfl]
  generalize Vy 3 _ w.key=B
  obtain ⟨ans,ok⟩:=B
  dsimp only
  obtain ⟨k1,k2⟩:=hrk D.val.new
  rw [k1]
  cases ok
  ·rw [sel_pos (by rfl),if_pos (.inl rfl)];try rfl
  rw [sel_neg (by rfl)]
  by_cases h5:(Kerb.rekey ⟨rl,es⟩ i D.val.new).err=0
  case neg=>rw [sel_pos (by simpa using h5),if_pos (.inr h5)];try rfl
  rw [sel_neg (by simpa using h5),if_neg (by simp [h5])]
  obtain ⟨r1,r2,r3⟩:=Kerb.rekey_ok (d:=⟨rl,es⟩) (i:=i) (k:=D.val.new) hok (Kerb.isU64_iff.2 sb.2.2) h5
  have r4:=Kerb.all_ents r1
  dsimp only at r2
  rw [chk_of (by rw [r4,r2,i1,decide_eq_true hlen];rfl),k2 h5]
  rfl
 ·cases h
theorem w61:Walked Tryz.prog G 61 6 sp61:=by
 refine ⟨Tryz.f61,Tryz.func61,by decide +kernel,rfl,fun xs bl r h=> ?_⟩
 unfold sp61 at h
 split at h
 ·rename_i li x y z ad k lf iss sv ins key
  obtain ⟨hpre,h2⟩:=chk_inv h;cases h2
  refine Eq.trans (b:=(Zx (chk (decide (Zz x≤9223372036854775807)&&decide (Zz y≤9223372036854775807)&&decide (Zz z≤9223372036854775807)&&decide (Zz sv≤9223372036854775807)&&decide (Zz ins≤9223372036854775807)&&decide (0≤k)&&decide (k<18446744073709551616)) (some (Zd [Zk (Wv (Ug (Kerb.Ticket.mk li (Yq x y z) ad k lf iss sv ins))),Zy .i64 (Wz (Ug (Kerb.Ticket.mk li (Yq x y z) ad k lf iss sv ins)))],[]))) fun (r:AV×Blocks)=>onNilB (Zg r) (Wy (Zb r) fun vs=>onCons vs fun x r=>Wp x fun b=>onCons r fun x r=>Yy .i64 x fun n=>onNil r (sel (!n==0) (some (Zd [Zk [],Zy .i64 n],[])) (Zx (chk (decide (0≤key)&&decide (key<18446744073709551616)) (some (Zd [Zk (Wv (Uw 1 key b)),Zy .i64 (Wz (Uw 1 key b))],[]))) fun (r:AV×Blocks)=>onNilB (Zg r) (Wy (Zb r) fun vs=>onCons vs fun x r=>Wp x fun b=>onCons r fun x r=>Yy .i64 x fun n=>onNil r (some (Zd [Zk b,Zy .i64 n],[])))))):Option (AV×Blocks))) (by kernel_rfl) ?_
  simp only [Yv,decide_eq_true_eq] at hpre
  obtain ⟨⟨⟨⟨⟨⟨⟨⟨h1,h2⟩,h3⟩,h4⟩,h5⟩,h6⟩,h7⟩,h8⟩,h9⟩:=hpre
  simp only [h1,h2,h3,h4,h5,h6,h7,h8,h9,decide_true,Xu,↓A0,A0]
  unfold Kerb.sealTicket
  generalize Ug _=E
  by_cases he:E.err=0
  ·rw [sel_neg (by simpa using he),if_neg (by simpa using he)]
  ·rw [sel_pos (by simpa using he),if_pos he]
 ·cases h
theorem w108:Walked Tryz.prog G 108 6 sp108:=by
 refine ⟨Tryz.f108,Tryz.func108,by decide +kernel,rfl,fun xs bl r h=> ?_⟩
 unfold sp108 at h
 split at h
 ·rename_i op lb tm qk q1 q2 q3 q4 q5 q6 q7 q8 q9 qs ql qg qt qi qe pk p1 p2 p3 pl pv pt pm key
  obtain ⟨hpre,h2⟩:=chk_inv h;cases h2
  refine Eq.trans (b:=(Zx (chk (decide (0≤tm)&&decide (tm≤4294967295)) (some (Zy .i64 (Kerb.kaNext tm),[]))) fun (r:AV×Blocks)=>onNilB (Zg r) (Yy .i64 (Zb r) fun n=>Zx (chk (decide (Zz q7≤9223372036854775807)&&decide (Zz q8≤9223372036854775807)&&decide (Zz q9≤9223372036854775807)&&decide (Zz lb≤9223372036854775807)&&Kerb.isU64 qs&&Kerb.isU64 key) (some (Zd [Zk (Zb (Vy op (Vv lb n qs qi (Kerb.imin qe 4294967295) pv (Yq q7 q8 q9) qt) key)),Zj (Zg (Vy op (Vv lb n qs qi (Kerb.imin qe 4294967295) pv (Yq q7 q8 q9) qt) key))],[]))) fun (r:AV×Blocks)=>onNilB (Zg r) (Wy (Zb r) fun vs=>onCons vs fun x r=>Wp x fun b=>onCons r fun x r=>Vj x fun b_1=>onNil r (some (Zd [Zk b,Zj b_1],[])))):Option (AV×Blocks))) (by kernel_rfl) ?_
  simp only [Yv,decide_eq_true_eq] at hpre
  simp only [Kerb.isU64_iff] at hpre
  obtain ⟨⟨⟨⟨⟨⟨⟨h1,h2⟩,h3⟩,h4⟩,h5⟩,h6⟩,h7⟩,h8⟩:=hpre
  simp only [h1,h2,h3,h4,h7,h8,Kerb.isU64_iff.2 h5,Kerb.isU64_iff.2 h6,decide_true,Xu,↓A0,A0]
 ·cases h
theorem w120:Walked Tryz.prog G 120 6 sp120:=by
 refine ⟨Tryz.f120,Tryz.func120,by decide +kernel,rfl,fun xs bl r h=> ?_⟩
 unfold sp120 at h
 split at h
 ·rename_i op cd bx
  cases h
  refine Eq.trans (b:=(let t2:List UInt8:=Kerb.header 9 false++Yw (Yz .i64 (op+128)) 1 false;let t1:Nat:=Zz t2;let t0:Option (AV×Blocks):=Zx (chk (decide (t1≤70368744177664)) (some (Yk (t2++Yw cd 1 false),[]))) (kO fun l=>Zx (chk (decide (Zz l+Zz bx≤70368744170000)) (some (Zk (Kerb.putBox l bx),[]))) (kB fun b=>some (Zd [Zk b,Zy .i64 0],[])));sel (!Kerb.kaOp op) (some (Zd [Zk [],Zy .i64 40],[])) (sel (!Zm cd 99) (some (Zd [Zk [],Zy .i64 104],[])) (sel (decide ((↑(Zz bx):Int)>1012)) (some (Zd [Zk [],Zy .i64 105],[])) (sel (!cd==0) (sel (decide ((↑(Zz bx):Int)>0)) (some (Zd [Zk [],Zy .i64 108],[])) t0) t0))):Option (AV×Blocks))) (by kernel_rfl) ?_
  delta kB kO
  try dsimp only [cStr,cBs,cBool,cU8,cInt,cSl,l63]
  simp only [A0]
  have hl9:(Kerb.header 9 false).length=2:=rfl
  unfold Ww
  simp only
  cases h0:Kerb.kaOp op
  ·rfl
  rw [Zp,sel_false,if_neg (by simp)]
  have ho:=Kerb.kaOp_iff.1 h0
  cases h1:Zm cd 99
  ·rfl
  rw [Zp,sel_false,if_neg (by simp)]
  by_cases h2:1012<bx.length
  ·rw [sel_pos (by simp;omega),if_pos h2]
  rw [sel_neg (by simp;omega),if_neg h2,wrap_i64 (by omega) (by omega)]
  by_cases h3:cd=0
  ·rw [sel_neg (by simp [h3]),if_neg (by simp [h3]),chk_of (by simp [Zv,hl9]),chk_of (by simp [Zv,hl9];omega)]
   rfl
  rw [sel_pos (by simpa using h3)]
  by_cases h4:bx=[]
  ·rw [sel_neg (by simp [h4]),if_neg (by simp [h4]),chk_of (by simp [Zv,hl9]),chk_of (by simp [Zv,hl9];omega)]
   rfl
  ·rw [sel_pos (by have:=List.length_pos_iff.2 h4;simp;omega),if_pos ⟨h3,h4⟩]
 ·cases h
theorem w122:Walked Tryz.prog G 122 6 sp122:=by
 refine ⟨Tryz.f122,Tryz.func122,by decide +kernel,rfl,fun xs bl r h=> ?_⟩
 unfold sp122 at h
 split at h
 ·rename_i b kd k
  obtain ⟨hpre,h2⟩:=chk_inv h;cases h2
  refine Eq.trans (b:=(Zx (chk (decide (Zz b≤140737488355328)) (some (Zd [Xy [Zy .i64 (Kerb.Box.kind (Wh (Xq b))),Zy .u64 (Kerb.Box.key (Wh (Xq b))),Zk (Kerb.Box.body (Wh (Xq b)))],Zy .i64 (Kerb.GotBox.n (Xq b)),Zy .i64 (Kerb.GotBox.err (Xq b))],[]))) fun (r:AV×Blocks)=>onNilB (Zg r) (Wy (Zb r) fun vs=>onCons vs fun x r=>Wd x fun cs=>onCons cs fun x r_1=>Yy .i64 x fun n=>onCons r_1 fun x r_2=>Yy .u64 x fun n_1=>onCons r_2 fun x r_3=>Wp x fun b_1=>onNil r_3 (onCons r fun x r=>Yy .i64 x fun n_2=>onCons r fun x r=>Yy .i64 x fun n_3=>onNil r (sel (!n_3==0) (some (Zd [Zk [],Zj false],[])) (sel (!n_2==(↑(Zz b):Int)) (some (Zd [Zk [],Zj false],[])) (sel (!n==kd) (some (Zd [Zk [],Zj false],[])) (sel (!n_1==k) (some (Zd [Zk [],Zj false],[])) (some (Zd [Zk b_1,Zj true],[])))))))):Option (AV×Blocks))) (by kernel_rfl) ?_
  simp only [↓A0,hpre]
  unfold Kerb.openBox
  generalize Xq b=r
  by_cases h1:r.err=0
  case neg=>rw [sel_pos (by simpa using h1),if_pos (.inl h1)]
  rw [sel_neg (by simpa using h1)]
  by_cases h2:r.n=b.length
  case neg=>rw [sel_pos (by simpa using h2),if_pos (.inr (.inl h2))]
  rw [sel_neg (by simpa using h2)]
  by_cases h3:r.box.kind=kd
  case neg=>rw [sel_pos (by simpa using h3),if_pos (.inr (.inr (.inl h3)))]
  rw [sel_neg (by simpa using h3)]
  by_cases h4:r.box.key=k
  case neg=>rw [sel_pos (by simpa using h4),if_pos (.inr (.inr (.inr h4)))]
  rw [sel_neg (by simpa using h4),if_neg (by simp [h1,h2,h3,h4])]
 ·cases h
end Go.Proofs.YtaikjfcgemjghaaGreat
