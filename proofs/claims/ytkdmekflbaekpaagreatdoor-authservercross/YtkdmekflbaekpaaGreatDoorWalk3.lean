/- What the functions of this seat compute. -/
import Derived.Test.YtkdmekflbaekpaaGreatDoorTab
import Derived.Test.YtkdmekflbaekpaaGreatDoorKerbPlain
import Derived.Test.YtkdmekflbaekpaaGreatDoorAbsStep
import Derived.Test.YtkdmekflbaekpaaGreatDoorKerbCli3
import Derived.Test.YtkdmekflbaekpaaGreatDoorKerbCli4
import Derived.Test.YtkdmekflbaekpaaGreatDoorKerbCli5
import Derived.Test.YtkdmekflbaekpaaGreatDoorKerbSrvL
import Derived.Test.YtkdmekflbaekpaaGreatDoorKerbKac2
import Derived.Test.YtkdmekflbaekpaaGreatDoorKerbKac4
import Derived.Test.YtkdmekflbaekpaaGreatDoorKerbSrvB
import Derived.Test.YtkdmekflbaekpaaGreatDoorKerbVerL
import Derived.Test.YtkdmekflbaekpaaGreatDoorKerbVerL
import Derived.Test.YtkdmekflbaekpaaGreatDoorKerbAuthL
open List renaming length→Zz,append→Zp,map→Xh
open Kerb renaming putPrin_len→Zy,keyBytes_len→Zx,putN_len→Zv,decodeRequest→Zd,within→Zg,putN→Zb,openTicket→Yy,goodCross→Yu,putText→Yp,headIs→Yd,realm→Yn,encodeRequest→Ym,prin→Xz,encodePart→Xy,simpleDb→Xx,get→Xv,findCross→Xp,text→Xd,user→Xg,refuse→Wz,encodeTicket→Wu
open Option renaming bind→Zw
open Go.Abs.AV renaming int→Zu,str→Zq,bs→Zk,tup→Zf,ownB→Yz,bool→Yb,agg→Xb,onAgg→Wv
open Kerb.Prin renaming mk→Zj,realm→Zn,name→Zm,inst→Zh,valid→Xf
open Bool renaming and_eq_true→Yx,not_true→Yw,and_self→Yv
open Kerb.ReplyPart renaming mk→Yq,service→Wx
open Kerb.KdcRequest renaming client→Yj,mk→Xn
open Kerb.DecReq renaming val→Yk
open Kerb.Enc renaming val→Yf,err→Yg
open Kerb.Dec renaming val→Yh
open Kerb.Issue renaming service→Xw,server→Xu,client→Xq
open Prod renaming fst→Xj,snd→Xk
open Kerb.Ticket renaming mk→Xm
open Go.IntKind renaming wrap→Wy
open Int renaming toNat→Ww
namespace Go.Proofs.YtkdmekflbaekpaaGreatDoor
open Go Go.Abs Go.Proofs
set_option linter.unusedVariables false
set_option linter.unusedSimpArgs false
set_option maxRecDepth 100000
theorem w69:Walked Tryz.prog G 69 8 sp69:=by
 refine ⟨Tryz.f69,Tryz.func69,by decide +kernel,rfl,fun xs bl r h=> ?_⟩
 unfold sp69 at h
 split at h
 ·rename_i k x y z lf kv tk t little
  obtain ⟨hpre,h2⟩:=chk_inv h;cases h2
  refine Eq.trans (b:=(let t0:Option (AV×Blocks):=some (Zf [Zk [],Zu .i64 104],[]);let t1:List UInt8:=[]++Zb 0 1 false;let t2:List UInt8:=[]++Zb 1 1 false;let t3:Option (AV×Blocks):=chk (decide (0≤k)&&decide (k<18446744073709551616)) (some (Zk (Kerb.keyBytes k),[]));Zw (chk (decide (0≤k)&&decide (k<18446744073709551616)) (some (Yb (Kerb.keyValid k),[]))) (kL fun b=>sel (!b) (some (Zf [Zk [],Zu .i64 10],[])) (Zw (chk (l63 x&&l63 y&&l63 z) (some (Yb (Xf (Zj x y z)),[]))) (kL fun b=>sel (!b) (some (Zf [Zk [],Zu .i64 103],[])) (sel (!Zg lf 255) t0 (sel (!Zg kv 255) t0 (sel (!Zg t 4294967295) t0 (sel (decide ((↑(Zz tk):Int)>255)) (some (Zf [Zk [],Zu .i64 105],[])) (sel little (Zw t3 (kB fun b=>Zw (chk (decide (Zz (Zp t2 (Zp b []))≤140737488355328)&&decide (Zz [Zk t2,Zk b]≤1000)) (some (Yz (Zp t2 (Zp b [])),[]))) (kO fun l=>Zw (chk (decide (Zz l+Zz x+Zz y+Zz z≤70368744170000)) (some (Zk (Kerb.putPrin l (Zj x y z)),[]))) (kB fun b=>Zw (chk (decide (Zz b≤70368744177664)) (some (Yz (b++Zb lf 1 false),[]))) (kO fun l=>Zw (chk (decide (Zz l≤70368744177664)) (some (Yz (l++Zb kv 1 false),[]))) (kO fun l=>Zw (chk (decide (Zz l≤70368744177664)) (some (Yz (l++Zb (↑(Zz tk):Int) 1 false),[]))) (kO fun l=>Zw (chk (decide (Zz (Zp l (Zp tk []))≤140737488355328)&&decide (Zz [Zk l,Zk tk]≤1000)) (some (Yz (Zp l (Zp tk [])),[]))) (kO fun l=>Zw (chk (decide (Zz l≤70368744177664)) (some (Yz (l++Zb t 4 little),[]))) (kO fun l=>Zw (chk (decide (Zz l≤70368744177664)) (some (Zk (Kerb.pad l),[]))) (kB fun b=>some (Zf [Zk b,Zu .i64 0],[]))))))))))) (Zw t3 (kB fun b=>Zw (chk (decide (Zz (Zp t1 (Zp b []))≤140737488355328)&&decide (Zz [Zk t1,Zk b]≤1000)) (some (Yz (Zp t1 (Zp b [])),[]))) (kO fun l=>Zw (chk (decide (Zz l+Zz x+Zz y+Zz z≤70368744170000)) (some (Zk (Kerb.putPrin l (Zj x y z)),[]))) (kB fun b=>Zw (chk (decide (Zz b≤70368744177664)) (some (Yz (b++Zb lf 1 false),[]))) (kO fun l=>Zw (chk (decide (Zz l≤70368744177664)) (some (Yz (l++Zb kv 1 false),[]))) (kO fun l=>Zw (chk (decide (Zz l≤70368744177664)) (some (Yz (l++Zb (↑(Zz tk):Int) 1 false),[]))) (kO fun l=>Zw (chk (decide (Zz (Zp l (Zp tk []))≤140737488355328)&&decide (Zz [Zk l,Zk tk]≤1000)) (some (Yz (Zp l (Zp tk [])),[]))) (kO fun l=>Zw (chk (decide (Zz l≤70368744177664)) (some (Yz (l++Zb t 4 little),[]))) (kO fun l=>Zw (chk (decide (Zz l≤70368744177664)) (some (Zk (Kerb.pad l),[]))) (kB fun b=>some (Zf [Zk b,Zu .i64 0],[]))))))))))))))))))):Option (AV×Blocks))) (by kernel_rfl) ?_
  delta kB kO kL
  try dsimp only [cStr,cBs,cBool,cU8,cInt,cSl,l63]
  simp only [Yx,decide_eq_true_eq] at hpre
  obtain ⟨⟨⟨⟨q1,q2⟩,q3⟩,h0⟩,h1⟩:=hpre
  simp only [A0]
  unfold Xy
  rw [chk_of (by simp [h0,h1])]
  cases hk:Kerb.keyValid k
  ·rfl
  rw [Yw,sel_false,chk_of (by simp [q1,q2,q3])]
  cases h1:Xf ⟨x,y,z⟩
  ·rfl
  rw [Yw,sel_false]
  cases h4:Zg lf 255
  ·rfl
  rw [Yw,sel_false]
  cases h5:Zg kv 255
  ·rfl
  rw [Yw,sel_false]
  cases h6:Zg t 4294967295
  ·rfl
  rw [Yw,sel_false]
  by_cases h7:255<tk.length
  ·rw [sel_pos (by simp;omega),if_neg (by simp),if_neg (by simp),if_neg (by simp),if_pos h7]
  have l1:=Kerb.valid_len h1
  simp only at l1
  rw [sel_neg (by simp;omega),if_neg (by simp),if_neg (by simp),if_neg (by simp),if_neg h7]
  cases little
  ·rw [sel_false,chk_of (by simp;omega),chk_of (by first | (simp [Zy,Zv,Zx];done) | (simp [Zy,Zv,Zx];omega)),chk_of (by first | (simp [Zy,Zv,Zx];done) | (simp [Zy,Zv,Zx];omega)),chk_of (by first | (simp [Zy,Zv,Zx];done) | (simp [Zy,Zv,Zx];omega)),chk_of (by first | (simp [Zy,Zv,Zx];done) | (simp [Zy,Zv,Zx];omega)),chk_of (by first | (simp [Zy,Zv,Zx];done) | (simp [Zy,Zv,Zx];omega)),chk_of (by first | (simp [Zy,Zv,Zx];done) | (simp [Zy,Zv,Zx];omega)),chk_of (by first | (simp [Zy,Zv,Zx];done) | (simp [Zy,Zv,Zx];omega)),chk_of (by first | (simp [Zy,Zv,Zx];done) | (simp [Zy,Zv,Zx];omega))]
   simp
  ·rw [sel_true,chk_of (by simp;omega),chk_of (by first | (simp [Zy,Zv,Zx];done) | (simp [Zy,Zv,Zx];omega)),chk_of (by first | (simp [Zy,Zv,Zx];done) | (simp [Zy,Zv,Zx];omega)),chk_of (by first | (simp [Zy,Zv,Zx];done) | (simp [Zy,Zv,Zx];omega)),chk_of (by first | (simp [Zy,Zv,Zx];done) | (simp [Zy,Zv,Zx];omega)),chk_of (by first | (simp [Zy,Zv,Zx];done) | (simp [Zy,Zv,Zx];omega)),chk_of (by first | (simp [Zy,Zv,Zx];done) | (simp [Zy,Zv,Zx];omega)),chk_of (by first | (simp [Zy,Zv,Zx];done) | (simp [Zy,Zv,Zx];omega)),chk_of (by first | (simp [Zy,Zv,Zx];done) | (simp [Zy,Zv,Zx];omega))]
   simp
 ·cases h
theorem w73:Walked Tryz.prog G 73 8 sp73:=by
 refine ⟨Tryz.f73,Tryz.func73,by decide +kernel,rfl,fun xs bl r h=> ?_⟩
 unfold sp73 at h
 split at h
 ·rename_i li x y z t ex kv sd
  obtain ⟨hpre,h2⟩:=chk_inv h;cases h2
  refine Eq.trans (b:=(let t0:Option (AV×Blocks):=some (Zf [Zk [],Zu .i64 104],[]);let t1:Nat:=Zz (Kerb.header 2 li)+Zz x+Zz y+Zz z;Zw (chk (l63 x&&l63 y&&l63 z) (some (Yb (Xf (Zj x y z)),[]))) (kL fun b=>sel (!b) (some (Zf [Zk [],Zu .i64 103],[])) (sel (!Zg t 4294967295) t0 (sel (!Zg ex 4294967295) t0 (sel (!Zg kv 255) t0 (sel (decide ((↑(Zz sd):Int)>1012)) (some (Zf [Zk [],Zu .i64 105],[])) (Zw (chk (decide (t1≤70368744170000)) (some (Zk (Kerb.putPrin (Kerb.header 2 li) (Zj x y z)),[]))) (kB fun b=>Zw (chk (decide (Zz b≤70368744177664)) (some (Yz (b++Zb t 4 li),[]))) (kO fun l=>Zw (chk (decide (Zz l≤70368744177664)) (some (Yz (l++Zb 1 1 false),[]))) (kO fun l=>Zw (chk (decide (Zz l≤70368744177664)) (some (Yz (l++Zb ex 4 li),[]))) (kO fun l=>Zw (chk (decide (Zz l≤70368744177664)) (some (Yz (l++Zb kv 1 false),[]))) (kO fun l=>Zw (chk (decide (Zz l≤70368744177664)) (some (Yz (l++Zb (↑(Zz sd):Int) 2 li),[]))) (kO fun l=>Zw (chk (decide (Zz (Zp l (Zp sd []))≤140737488355328)&&decide (Zz [Zk l,Zk sd]≤1000)) (some (Yz (Zp l (Zp sd [])),[]))) (kO fun l=>some (Zf [Zk l,Zu .i64 0],[])))))))))))))):Option (AV×Blocks))) (by kernel_rfl) ?_
  delta kB kO kL
  try dsimp only [cStr,cBs,cBool,cU8,cInt,cSl,l63]
  simp only [Yx,decide_eq_true_eq] at hpre
  obtain ⟨⟨q1,q2⟩,q3⟩:=hpre
  simp only [A0]
  unfold Kerb.encodeReply
  rw [chk_of (by simp [q1,q2,q3])]
  cases h1:Xf ⟨x,y,z⟩
  ·rfl
  rw [Yw,sel_false]
  cases h4:Zg t 4294967295
  ·rfl
  rw [Yw,sel_false]
  cases h5:Zg ex 4294967295
  ·rfl
  rw [Yw,sel_false]
  cases h6:Zg kv 255
  ·rfl
  rw [Yw,sel_false]
  by_cases h7:1012<sd.length
  ·rw [sel_pos (by simp;omega),if_neg (by simp),if_neg (by simp),if_pos h7]
  have l1:=Kerb.valid_len h1
  have l4:=Kerb.header_len 2 li
  simp only at l1
  rw [sel_neg (by simp;omega),if_neg (by simp),if_neg (by simp),if_neg h7]
  rw [chk_of (by simp;omega),chk_of (by simp [Zy];omega),chk_of (by simp [Zy,Zv];omega),chk_of (by simp [Zy,Zv];omega),chk_of (by simp [Zy,Zv];omega),chk_of (by simp [Zy,Zv];omega),chk_of (by simp [Zy,Zv];omega)]
  simp
 ·cases h
theorem w124:Walked Tryz.prog G 124 8 sp124:=by
 refine ⟨Tryz.f124,Tryz.func124,by decide +kernel,rfl,fun xs bl r h=> ?_⟩
 unfold sp124 at h
 split at h
 ·rename_i li x y z ad k lf iss sv ins
  obtain ⟨hpre,h2⟩:=chk_inv h;cases h2
  refine Eq.trans (b:=(Zw (chk (decide (Zz x≤9223372036854775807)&&decide (Zz y≤9223372036854775807)&&decide (Zz z≤9223372036854775807)) (some (Yb (Xf (Zj x y z)),[]))) fun (r:AV×Blocks)=>onNilB (Xk r) (AV.onBool (Xj r) fun b=>sel (!b) (some (Zu .i64 103,[])) (Zw (chk (decide (Zz sv≤9223372036854775807)) (some (Yb (Kerb.validName sv),[]))) fun (r:AV×Blocks)=>onNilB (Xk r) (AV.onBool (Xj r) fun b=>sel (!b) (some (Zu .i64 103,[])) (Zw (chk (decide (Zz ins≤9223372036854775807)) (some (Yb (Kerb.validInst ins),[]))) fun (r:AV×Blocks)=>onNilB (Xk r) (AV.onBool (Xj r) fun b=>sel (!b) (some (Zu .i64 103,[])) (Zw (chk (decide (0≤k)&&decide (k<18446744073709551616)) (some (Zu .i64 (Kerb.classOf k),[]))) fun (r:AV×Blocks)=>onNilB (Xk r) (AV.onInt .i64 (Xj r) fun n=>sel (!n==2) (some (Zu .i64 10,[])) (sel (!Zg ad 4294967295) (some (Zu .i64 104,[])) (sel (!Zg lf 255) (some (Zu .i64 104,[])) (sel (!Zg iss 4294967295) (some (Zu .i64 104,[])) (some (Zu .i64 0,[])))))))))))):Option (AV×Blocks))) (by kernel_rfl) ?_
  simp only [Yx,decide_eq_true_eq] at hpre
  obtain ⟨⟨⟨⟨⟨⟨h1,h2⟩,h3⟩,h4⟩,h5⟩,h6⟩,h7⟩:=hpre
  simp only [h1,h2,h3,h4,h5,h6,h7,decide_true,Yv,↓A0,A0]
  unfold Kerb.Ticket.err
  dsimp only
  cases Xf ⟨x,y,z⟩
  ·rfl
  cases Kerb.validName sv
  ·rfl
  cases Kerb.validInst ins
  ·rfl
  simp only [Yw,Yv,sel_false]
  by_cases hc:Kerb.classOf k=2
  case neg=>rw [sel_pos (by simpa using hc),if_neg (by simp),if_pos hc]
  rw [sel_neg (by simp [hc]),if_neg (by simp),if_neg (by simp [hc])]
  cases Zg ad 4294967295
  ·rfl
  cases Zg lf 255
  ·rfl
  cases Zg iss 4294967295
  ·rfl
  rfl
 ·cases h
theorem w28:Walked Tryz.prog G 28 9 sp28:=by
 refine ⟨Tryz.f28,Tryz.func28,by decide +kernel,rfl,fun xs bl r h=> ?_⟩
 unfold sp28 at h
 split at h
 ·rename_i b
  obtain ⟨hpre,h2⟩:=chk_inv h;cases h2
  refine Eq.trans (b:=(let t1:AV:=Xb [Yb false,Zq [],Zq [],Zq [],Zu .i64 0,Zu .i64 0,Zq [],Zq []];let t0:Option (AV×Blocks):=some (Zf [t1,Zu .i64 100],[]);sel (!Xk (Yd b [1])==0) (some (Zf [t1,Zu .i64 (Xk (Yd b [1]))],[])) (Zw (chk (decide (Zz b≤4611686018427387904)) (some (Zf [Xb [Zq (Zm (Kerb.GotP.val (Xz b 2))),Zq (Zh (Kerb.GotP.val (Xz b 2))),Zq (Zn (Kerb.GotP.val (Xz b 2)))],Zu .i64 (Kerb.GotP.next (Xz b 2)),Zu .i64 (Kerb.GotP.err (Xz b 2))],[]))) (kT fun vs=>onCons vs fun x r=>Wv x fun cs=>cStr cs fun b_1 r_1=>cStr r_1 fun b_2 r_2=>cStr r_2 fun b_3 r_3=>onNil r_3 (cInt .i64 r fun n r=>let t2:Kerb.Got:=Xv b n 4 (Xj (Yd b [1]));cInt .i64 r fun n r=>onNil r (Zw (chk (decide (Zz b≤4611686018427387904)) (some (Zf [Zu .i64 (Kerb.Got.val t2),Zu .i64 (Kerb.Got.next t2),Zu .i64 (Kerb.Got.err t2)],[]))) (kT fun vs=>cInt .i64 vs fun n r=>cInt .i64 r fun n_1 r=>cInt .i64 r fun n_2 r=>onNil r (Zw (chk (decide (Zz b≤4611686018427387904)) (some (Zf [Zu .i64 (Kerb.Got.val (Xv b n_1 1 false)),Zu .i64 (Kerb.Got.next (Xv b n_1 1 false)),Zu .i64 (Kerb.Got.err (Xv b n_1 1 false))],[]))) (kT fun vs=>cInt .i64 vs fun n_3 r=>cInt .i64 r fun n_4 r=>cInt .i64 r fun n_5 r=>onNil r (Zw (chk (decide (Zz b≤4611686018427387904)) (some (Zf [Zq (Kerb.GotB.val (Xd b n_4)),Zu .i64 (Kerb.GotB.next (Xd b n_4)),Zu .i64 (Kerb.GotB.err (Xd b n_4))],[]))) (kT fun vs=>cStr vs fun b_4 r=>cInt .i64 r fun n_6 r=>cInt .i64 r fun n_7 r=>onNil r (Zw (chk (decide (Zz b≤4611686018427387904)) (some (Zf [Zq (Kerb.GotB.val (Xd b n_6)),Zu .i64 (Kerb.GotB.next (Xd b n_6)),Zu .i64 (Kerb.GotB.err (Xd b n_6))],[]))) (kT fun vs=>cStr vs fun b_5 r=>let t3:Kerb.Enc:=Ym (Xn (Xj (Yd b [1])) (Zj b_1 b_2 b_3) n n_3 b_4 b_5);cInt .i64 r fun n_8 r=>cInt .i64 r fun n_9 r=>onNil r (Zw (chk (l63 b_1&&l63 b_2&&l63 b_3&&l63 b_4&&l63 b_5) (some (Zf [Zk (Yf t3),Zu .i64 (Yg t3)],[]))) (kT fun vs=>cBs vs fun b_6 r=>cInt .i64 r fun n_10 r=>onNil r (sel (!n_10==0) t0 (sel (!b_6==b) t0 (some (Zf [Xb [Yb (Xj (Yd b [1])),Zq b_1,Zq b_2,Zq b_3,Zu .i64 n,Zu .i64 n_3,Zq b_4,Zq b_5],Zu .i64 0],[]))))))))))))))))):Option (AV×Blocks))) (by kernel_rfl) ?_
  delta kT
  try dsimp only [cStr,cBs,cBool,cU8,cInt,cSl,l63]
  have hb:=of_decide_eq_true hpre
  simp only [A0]
  unfold Zd
  by_cases h:(Yd b [1]).2=0
  ·have l1:=Kerb.prin_len b 2
   have hx:∀ q,(Xd b q).val.length≤40:=Kerb.text_len b
   rw [sel_neg (by simp [h]),chk_of hpre,chk_of hpre,chk_of hpre,chk_of hpre,chk_of hpre,chk_of (by simp;have:=hx (Xv b (Xv b (Xz b 2).next 4 (Yd b [1]).1).next 1 false).next;have:=hx (Xd b (Xv b (Xv b (Xz b 2).next 4 (Yd b [1]).1).next 1 false).next).next;omega),if_neg (by simpa using h)]
   have e:Xn (Yd b [1]).1 (Zj (Xz b 2).val.name (Xz b 2).val.inst (Xz b 2).val.realm) (Xv b (Xz b 2).next 4 (Yd b [1]).1).val (Xv b (Xv b (Xz b 2).next 4 (Yd b [1]).1).next 1 false).val (Xd b (Xv b (Xv b (Xz b 2).next 4 (Yd b [1]).1).next 1 false).next).val (Xd b (Xd b (Xv b (Xv b (Xz b 2).next 4 (Yd b [1]).1).next 1 false).next).next).val=Kerb.readRequest b:=rfl
   rw [e]
   by_cases h1:(Ym (Kerb.readRequest b)).err=0
   ·rw [sel_neg (by simp [h1])]
    by_cases h2:(Ym (Kerb.readRequest b)).val=b
    ·rw [sel_neg (by simp [h2]),if_neg (by simp [h1,h2])]
     rfl
    ·rw [sel_pos (by simpa using h2),if_pos (.inr h2)]
     rfl
   ·rw [sel_pos (by simpa using h1),if_pos (.inl h1)]
    rfl
  ·rw [sel_pos (by simpa using h),if_pos h]
   rfl
 ·cases h
theorem w31:Walked Tryz.prog G 31 9 sp31:=by
 refine ⟨Tryz.f31,Tryz.func31,by decide +kernel,rfl,fun xs bl r h=> ?_⟩
 unfold sp31 at h
 split at h
 ·rename_i x y z cd now li
  obtain ⟨hpre,h2⟩:=chk_inv h;cases h2
  refine Eq.trans (b:=(Zw (chk (decide (Zz x≤9223372036854775807)&&decide (Zz y≤9223372036854775807)&&decide (Zz z≤9223372036854775807)&&decide (Zz (Kerb.message cd)≤9223372036854775807)) (some (Zf [Zk (Yf (Kerb.encodeError (Kerb.ErrorReply.mk li (Zj x y z) now cd (Kerb.message cd)))),Zu .i64 (Yg (Kerb.encodeError (Kerb.ErrorReply.mk li (Zj x y z) now cd (Kerb.message cd))))],[]))) fun (r:AV×Blocks)=>onNilB (Xk r) (AV.onTup (Xj r) fun vs=>onCons vs fun x r=>AV.onBs x fun b=>onCons r fun x r=>AV.onInt .i64 x fun n=>onNil r (sel (!n==0) (some (Zk [],[])) (some (Zk b,[])))):Option (AV×Blocks))) (by kernel_rfl) ?_
  simp only [Yx,decide_eq_true_eq] at hpre
  obtain ⟨⟨l1,l2⟩,l3⟩:=hpre
  have hm:(Kerb.message cd).length≤9223372036854775807:=by have:=Kerb.message_len cd;omega
  simp only [l1,l2,l3,hm,decide_true,Yv,↓A0,A0]
  unfold Wz
  by_cases h:(Kerb.encodeError ⟨li,⟨x,y,z⟩,now,cd,Kerb.message cd⟩).err=0
  ·rw [sel_neg (by simpa using h)]
  ·rw [sel_pos (by simpa using h),Kerb.encError_no h]
 ·cases h
theorem w37:Walked Tryz.prog G 37 9 sp37:=by
 refine ⟨Tryz.f37,Tryz.func37,by decide +kernel,rfl,fun xs bl r h=> ?_⟩
 unfold sp37 at h
 split at h
 ·rename_i rl_ x y z rt_ rx rkv rsd pk p1 p2 p3 pl pv pt pm k
  obtain ⟨hpre,h2⟩:=chk_inv h;cases h2
  refine Eq.trans (b:=(Zw (chk (l63 p1&&l63 p2&&l63 p3&&decide (0≤pk)&&decide (pk<18446744073709551616)) (some (Zf [Zk (Yf (Xy (Yq pk (Zj p1 p2 p3) pl pv pt pm) rl_)),Zu .i64 (Yg (Xy (Yq pk (Zj p1 p2 p3) pl pv pt pm) rl_))],[]))) (kT fun vs=>onCons vs fun x_1 r=>AV.onBs x_1 fun b=>onCons r fun x_2 r=>AV.onInt .i64 x_2 fun n=>onNil r (sel (!n==0) (some (Zf [Zk [],Zu .i64 n],[])) (Zw (chk (decide (0≤k)&&decide (k<18446744073709551616)) (some (Zf [Zk (Yf (Kerb.makeBox 3 k b)),Zu .i64 (Yg (Kerb.makeBox 3 k b))],[]))) (kT fun vs=>onCons vs fun x_3 r=>AV.onBs x_3 fun b=>onCons r fun x_4 r=>AV.onInt .i64 x_4 fun n=>onNil r (sel (!n==0) (some (Zf [Zk [],Zu .i64 n],[])) (Zw (chk (l63 x&&l63 y&&l63 z) (some (Zf [Zk (Yf (Kerb.encodeReply (Kerb.KdcReply.mk rl_ (Zj x y z) rt_ rx rkv b))),Zu .i64 (Yg (Kerb.encodeReply (Kerb.KdcReply.mk rl_ (Zj x y z) rt_ rx rkv b)))],[]))) (kT fun vs=>cBs vs fun b r=>cInt .i64 r fun n r=>onNil r (some (Zf [Zk b,Zu .i64 n],[]))))))))):Option (AV×Blocks))) (by kernel_rfl) ?_
  delta kT
  try dsimp only [cStr,cBs,cBool,cU8,cInt,cSl,l63]
  simp only [Yx,decide_eq_true_eq] at hpre
  obtain ⟨⟨⟨⟨⟨⟨⟨l1,l2⟩,l3⟩,l4⟩,l5⟩,l6⟩,k1⟩,k2⟩:=hpre
  have k1:=Kerb.isU64_iff.1 k1
  have k2:=Kerb.isU64_iff.1 k2
  simp only [l1,l2,l3,l4,l5,l6,k1,k2,decide_true,Yv,↓A0,A0]
  unfold Kerb.sealReply
  by_cases h1:(Xy (Yq pk ⟨p1,p2,p3⟩ pl pv pt pm) rl_).err=0
  case neg=>rw [sel_pos (by simpa using h1),if_pos h1]
  rw [sel_neg (by simpa using h1),if_neg (by simpa using h1)]
  by_cases h2:(Kerb.makeBox 3 k (Xy (Yq pk ⟨p1,p2,p3⟩ pl pv pt pm) rl_).val).err=0
  case neg=>rw [sel_pos (by simpa using h2),if_pos h2]
  rw [sel_neg (by simpa using h2),if_neg (by simpa using h2)]
 ·cases h
theorem w105:Walked Tryz.prog G 105 9 sp105:=by
 refine ⟨Tryz.f105,Tryz.func105,by decide +kernel,rfl,fun xs bl r h=> ?_⟩
 unfold sp105 at h
 split at h
 ·rename_i li x y z ad k lf iss sv ins
  obtain ⟨hpre,h2⟩:=chk_inv h;cases h2
  refine Eq.trans (b:=(let t0:Nat:=Zz ([]++Zb 1 1 false)+Zz x+Zz y+Zz z;let t1:Nat:=Zz ([]++Zb 0 1 false)+Zz x+Zz y+Zz z;let t2:Option (AV×Blocks):=chk (decide (0≤k)&&decide (k<18446744073709551616)) (some (Zk (Kerb.keyBytes k),[]));Zw (chk (l63 x&&l63 y&&l63 z&&l63 sv&&l63 ins&&decide (0≤k)&&decide (k<18446744073709551616)) (some (Zu .i64 (Kerb.Ticket.err (Xm li (Zj x y z) ad k lf iss sv ins)),[]))) (kI .i64 fun n=>sel (!n==0) (some (Zf [Zk [],Zu .i64 n],[])) (sel li (Zw (chk (decide (t0≤70368744170000)) (some (Zk (Kerb.putPrin ([]++Zb 1 1 false) (Zj x y z)),[]))) (kB fun b=>Zw (chk (decide (Zz b≤70368744177664)) (some (Yz (b++Zb ad 4 li),[]))) (kO fun l=>Zw t2 (kB fun b=>Zw (chk (decide (Zz (Zp l (Zp b []))≤140737488355328)&&decide (Zz [Zk l,Zk b]≤1000)) (some (Yz (Zp l (Zp b [])),[]))) (kO fun l=>Zw (chk (decide (Zz l≤70368744177664)) (some (Yz (l++Zb lf 1 false),[]))) (kO fun l=>Zw (chk (decide (Zz l≤70368744177664)) (some (Yz (l++Zb iss 4 li),[]))) (kO fun l=>Zw (chk (decide (Zz l+Zz sv≤70368744177664)) (some (Zk (Yp l sv),[]))) (kB fun b=>Zw (chk (decide (Zz b+Zz ins≤70368744177664)) (some (Zk (Yp b ins),[]))) (kB fun b=>Zw (chk (decide (Zz b≤70368744177664)) (some (Zk (Kerb.pad b),[]))) (kB fun b=>some (Zf [Zk b,Zu .i64 0],[]))))))))))) (Zw (chk (decide (t1≤70368744170000)) (some (Zk (Kerb.putPrin ([]++Zb 0 1 false) (Zj x y z)),[]))) (kB fun b=>Zw (chk (decide (Zz b≤70368744177664)) (some (Yz (b++Zb ad 4 li),[]))) (kO fun l=>Zw t2 (kB fun b=>Zw (chk (decide (Zz (Zp l (Zp b []))≤140737488355328)&&decide (Zz [Zk l,Zk b]≤1000)) (some (Yz (Zp l (Zp b [])),[]))) (kO fun l=>Zw (chk (decide (Zz l≤70368744177664)) (some (Yz (l++Zb lf 1 false),[]))) (kO fun l=>Zw (chk (decide (Zz l≤70368744177664)) (some (Yz (l++Zb iss 4 li),[]))) (kO fun l=>Zw (chk (decide (Zz l+Zz sv≤70368744177664)) (some (Zk (Yp l sv),[]))) (kB fun b=>Zw (chk (decide (Zz b+Zz ins≤70368744177664)) (some (Zk (Yp b ins),[]))) (kB fun b=>Zw (chk (decide (Zz b≤70368744177664)) (some (Zk (Kerb.pad b),[]))) (kB fun b=>some (Zf [Zk b,Zu .i64 0],[]))))))))))))):Option (AV×Blocks))) (by kernel_rfl) ?_
  delta kB kO kI
  try dsimp only [cStr,cBs,cBool,cU8,cInt,cSl,l63]
  simp only [Yx,decide_eq_true_eq] at hpre
  obtain ⟨⟨⟨⟨⟨⟨h1,h2⟩,h3⟩,h4⟩,h5⟩,h6⟩,h7⟩:=hpre
  simp only [h1,h2,h3,h4,h5,h6,h7,decide_true,Yv,↓A0,A0]
  have hb := @Kerb.encTicket_inv ⟨li,⟨x,y,z⟩,ad,k,lf,iss,sv,ins⟩
  unfold Wu at hb ⊢
  dsimp only at hb ⊢
  generalize hE:Kerb.Ticket.err _=e at hb ⊢
  by_cases he:e=0
  case neg=>rw [sel_pos (by simpa using he),if_pos he]
  rw [if_neg (by simpa using he)] at hb
  obtain ⟨v1,v2,v3,_⟩:=hb rfl
  have l1:=Kerb.valid_len v1
  have l2:=(Kerb.name_ok v2).1
  have l3:=(Kerb.inst_ok v3).1
  dsimp only at l1
  rw [sel_neg (by simpa using he),if_neg (by simpa using he)]
  cases li
  ·rw [sel_false,chk_of (by first | (simp [Zy,Zv,Zx];done) | (simp [Zy,Zv,Zx];omega)),chk_of (by first | (simp [Zy,Zv,Zx];done) | (simp [Zy,Zv,Zx];omega)),chk_of (by first | (simp [Zy,Zv,Zx];done) | (simp [Zy,Zv,Zx];omega)),chk_of (by first | (simp [Zy,Zv,Zx];done) | (simp [Zy,Zv,Zx];omega)),chk_of (by first | (simp [Zy,Zv,Zx];done) | (simp [Zy,Zv,Zx];omega)),chk_of (by first | (simp [Zy,Zv,Zx];done) | (simp [Zy,Zv,Zx];omega)),chk_of (by first | (simp [Yp,Zy,Zv,Zx];done) | (simp [Yp,Zy,Zv,Zx];omega)),chk_of (by first | (simp [Yp,Zy,Zv,Zx];done) | (simp [Yp,Zy,Zv,Zx];omega))]
   simp
  ·rw [sel_true,chk_of (by first | (simp [Zy,Zv,Zx];done) | (simp [Zy,Zv,Zx];omega)),chk_of (by first | (simp [Zy,Zv,Zx];done) | (simp [Zy,Zv,Zx];omega)),chk_of (by first | (simp [Zy,Zv,Zx];done) | (simp [Zy,Zv,Zx];omega)),chk_of (by first | (simp [Zy,Zv,Zx];done) | (simp [Zy,Zv,Zx];omega)),chk_of (by first | (simp [Zy,Zv,Zx];done) | (simp [Zy,Zv,Zx];omega)),chk_of (by first | (simp [Zy,Zv,Zx];done) | (simp [Zy,Zv,Zx];omega)),chk_of (by first | (simp [Yp,Zy,Zv,Zx];done) | (simp [Yp,Zy,Zv,Zx];omega)),chk_of (by first | (simp [Yp,Zy,Zv,Zx];done) | (simp [Yp,Zy,Zv,Zx];omega))]
   simp
 ·cases h
theorem w29:Walked Tryz.prog G 29 10 sp29:=by
 refine ⟨Tryz.f29,Tryz.func29,by decide +kernel,rfl,fun xs bl r h=> ?_⟩
 unfold sp29 at h
 split at h
 ·rename_i msg now li
  obtain ⟨hpre,h2⟩:=chk_inv h;cases h2
  refine Eq.trans (b:=(sel ((↑(Zz msg):Int)==0) (some (Zk [],[])) (chk (decide (0<(↑(Zz msg):Int))) (sel (List.getD msg (Ww 0) (0:UInt8)==(4:UInt8)) (some (Zk [],[])) (Zw (chk (decide (Zz msg≤140737488355328)) (some (Yz msg,[]))) (kO fun l=>let t0:Kerb.KdcRequest:=Yk (Zd (List.set l (Ww 0) (4:UInt8)));chk (decide (0<(↑(Zz l):Int))) (chk (Nat.blt (Ww 0) (Zz l)&&true&&true&&true&&true) (Zw (chk (decide (Zz (List.set l (Ww 0) (4:UInt8))≤4611686018427387904)) (some (Zf [Xb [Yb (Kerb.KdcRequest.little t0),Zq (Zm (Yj t0)),Zq (Zh (Yj t0)),Zq (Zn (Yj t0)),Zu .i64 (Kerb.KdcRequest.time t0),Zu .i64 (Kerb.KdcRequest.life t0),Zq (Kerb.KdcRequest.service t0),Zq (Kerb.KdcRequest.inst t0)],Zu .i64 (Kerb.DecReq.err (Zd (List.set l (Ww 0) (4:UInt8))))],[]))) (kT fun vs=>onCons vs fun x r=>Wv x fun cs=>cBool cs fun b r_1=>cStr r_1 fun b r_2=>cStr r_2 fun b_1 r_3=>cStr r_3 fun b_2 r_4=>cInt .i64 r_4 fun n r_5=>cInt .i64 r_5 fun n r_6=>cStr r_6 fun b_3 r_7=>cStr r_7 fun b_4 r_8=>onNil r_8 (cInt .i64 r fun n r=>onNil r (sel (!n==0) (some (Zk [],[])) (Zw (chk (l63 b&&l63 b_1&&l63 b_2) (some (Zk (Wz (Zj b b_1 b_2) 4 now li),[]))) (kB fun b=>some (Zk b,[])))))))))))):Option (AV×Blocks))) (by kernel_rfl) ?_
  delta kT kB kO
  try dsimp only [cStr,cBs,cBool,cU8,cInt,cSl,l63]
  have lm:=of_decide_eq_true hpre
  unfold Kerb.refuseVer
  by_cases h1:msg.length=0
  ·rw [sel_pos (by simpa using h1),if_pos h1]
  rw [sel_neg (by simp;intro h;exact h1 (by rw [h];rfl)),if_neg h1,chk_of (by simp;omega)]
  have hz:Ww 0=0:=rfl
  rw [hz]
  by_cases h2:msg.getD 0 0=4
  ·rw [sel_pos (by simpa using h2),if_pos h2]
  rw [sel_neg (by simpa using h2),if_neg h2]
  have lm2:msg.length≤140737488355328:=by omega
  have lm3:(msg.set 0 4).length≤4611686018427387904:=by simp;omega
  have hb:Nat.blt 0 msg.length=true:=by simp [Nat.blt_eq];omega
  have hp:decide ((0:Int)<(msg.length:Int))=true:=by simp;omega
  obtain ⟨⟨n1,n2,n3⟩,_,_⟩:=Kerb.decReq_len (msg.set 0 4)
  simp only [hz,lm2,lm3,hb,hp,n1,n2,n3,decide_true,Yv,↓A0,A0]
  by_cases h3:(Zd (msg.set 0 4)).err=0
  ·rw [sel_neg (by simpa using h3),if_neg (by simpa using h3)]
  ·rw [sel_pos (by simpa using h3),if_pos h3]
 ·cases h
theorem w68:Walked Tryz.prog G 68 10 sp68:=by
 refine ⟨Tryz.f68,Tryz.func68,by decide +kernel,rfl,fun xs bl r h=> ?_⟩
 unfold sp68 at h
 split at h
 ·rename_i li x y z ad k lf iss sv ins key
  obtain ⟨hpre,h2⟩:=chk_inv h;cases h2
  refine Eq.trans (b:=(Zw (chk (decide (Zz x≤9223372036854775807)&&decide (Zz y≤9223372036854775807)&&decide (Zz z≤9223372036854775807)&&decide (Zz sv≤9223372036854775807)&&decide (Zz ins≤9223372036854775807)&&decide (0≤k)&&decide (k<18446744073709551616)) (some (Zf [Zk (Yf (Wu (Xm li (Zj x y z) ad k lf iss sv ins))),Zu .i64 (Yg (Wu (Xm li (Zj x y z) ad k lf iss sv ins)))],[]))) fun (r:AV×Blocks)=>onNilB (Xk r) (AV.onTup (Xj r) fun vs=>onCons vs fun x r=>AV.onBs x fun b=>onCons r fun x r=>AV.onInt .i64 x fun n=>onNil r (sel (!n==0) (some (Zf [Zk [],Zu .i64 n],[])) (Zw (chk (decide (0≤key)&&decide (key<18446744073709551616)) (some (Zf [Zk (Yf (Kerb.makeBox 1 key b)),Zu .i64 (Yg (Kerb.makeBox 1 key b))],[]))) fun (r:AV×Blocks)=>onNilB (Xk r) (AV.onTup (Xj r) fun vs=>onCons vs fun x r=>AV.onBs x fun b=>onCons r fun x r=>AV.onInt .i64 x fun n=>onNil r (some (Zf [Zk b,Zu .i64 n],[])))))):Option (AV×Blocks))) (by kernel_rfl) ?_
  simp only [Yx,decide_eq_true_eq] at hpre
  obtain ⟨⟨⟨⟨⟨⟨⟨⟨h1,h2⟩,h3⟩,h4⟩,h5⟩,h6⟩,h7⟩,h8⟩,h9⟩:=hpre
  simp only [h1,h2,h3,h4,h5,h6,h7,h8,h9,decide_true,Yv,↓A0,A0]
  unfold Kerb.sealTicket
  generalize Wu _=E
  by_cases he:E.err=0
  ·rw [sel_neg (by simpa using he),if_neg (by simpa using he)]
  ·rw [sel_pos (by simpa using he),if_pos he]
 ·cases h
theorem w36:Walked Tryz.prog G 36 11 sp36:=by
 refine ⟨Tryz.f36,Tryz.func36,by decide +kernel,rfl,fun xs bl r h=> ?_⟩
 unfold sp36 at h
 split at h
 ·rename_i rl els x y z u v w ad li now lf se sl tg kv
  obtain ⟨hpre,h2⟩:=chk_inv h;cases h2
  refine Eq.trans (b:=(let t0:AV:=Xb [Zu .i64 0,Zq [],Zq [],Zq [],Zq [],Zq [],Zq [],Zq [],Zq [],Zq [],Zu .u64 0,Zu .u64 0,Zu .u64 0,Zk [],Zu .i64 0,Zu .i64 0];let t1:AV:=Xb [Zu .u64 0,Zq [],Zq [],Zq [],Zu .i64 0,Zu .i64 0,Zk [],Zu .i64 0];Zw (chk (l63 x&&l63 y&&l63 z&&l63 u&&l63 v&&decide (0≤se)&&decide (se<18446744073709551616)&&decide (0≤tg)&&decide (tg<18446744073709551616)) (some (Zf [Zk (Yf (Kerb.sealTicket (Xm li (Zj x y z) ad se lf now u v) tg)),Zu .i64 (Yg (Kerb.sealTicket (Xm li (Zj x y z) ad se lf now u v) tg))],[]))) (kT fun vs=>onCons vs fun x_1 r=>AV.onBs x_1 fun b=>onCons r fun x_2 r=>AV.onInt .i64 x_2 fun n=>onNil r (sel (!n==0) (some (Zf [t0,t1,Zu .i64 n],[])) (Zw (chk (l63 u&&l63 v&&l63 w&&decide (0≤se)&&decide (se<18446744073709551616)) (some (Zf [Zk (Yf (Xy (Yq se (Zj u v w) lf kv b now) li)),Zu .i64 (Yg (Xy (Yq se (Zj u v w) lf kv b now) li))],[]))) (kT fun vs=>onCons vs fun x_3 r=>AV.onBs x_3 fun b_1=>onCons r fun x_4 r=>AV.onInt .i64 x_4 fun n=>onNil r (sel (!n==0) (some (Zf [t0,t1,Zu .i64 n],[])) (Zw (chk (decide (Zz b≤140737488355328)) (some (Yz b,[]))) (kO fun l=>some (Zf [Xb [Zu .i64 0,Zq [(107:UInt8),(114:UInt8),(98:UInt8),(116:UInt8),(103:UInt8),(116:UInt8)],Zq rl,Zq rl,Zq x,Zq y,Zq z,Zq u,Zq v,Zq w,Zu .u64 se,Zu .u64 sl,Zu .u64 0,Zk l,Zu .i64 now,Zu .i64 (Kerb.tEnd now lf)],Xb [Zu .u64 se,Zq u,Zq v,Zq w,Zu .i64 lf,Zu .i64 kv,Zk b,Zu .i64 now],Zu .i64 0],[])))))))):Option (AV×Blocks))) (by kernel_rfl) ?_
  delta kT kO
  try dsimp only [cStr,cBs,cBool,cU8,cInt,cSl,l63]
  simp only [Yx,decide_eq_true_eq] at hpre
  simp only [Kerb.isU64_iff] at hpre
  obtain ⟨⟨⟨⟨⟨⟨⟨h1,h2⟩,h3⟩,h4⟩,h5⟩,h6⟩,h7,h8⟩,h9,h10⟩:=hpre
  simp only [h1,h2,h3,h4,h5,h6,h7,h8,h9,h10,decide_true,Yv,↓A0,A0]
  unfold Kerb.grant Kerb.grantTkt
  dsimp only
  have hsl:=Kerb.sealTicket_len ⟨li,⟨x,y,z⟩,ad,se,lf,now,u,v⟩ tg
  generalize Kerb.sealTicket ⟨li,⟨x,y,z⟩,ad,se,lf,now,u,v⟩ tg=E at hsl
  by_cases he:E.err=0
  case neg=>rw [sel_pos (by simpa using he),if_pos he];rfl
  rw [sel_neg (by simpa using he),if_neg (by simpa using he)]
  generalize Xy ⟨se,⟨u,v,w⟩,lf,kv,E.val,now⟩ li=F
  by_cases hf:F.err=0
  case neg=>rw [sel_pos (by simpa using hf),if_pos hf];rfl
  rw [sel_neg (by simpa using hf),if_neg (by simpa using hf)]
  rw [chk_of (by simp;omega)]
  rfl
 ·cases h
set_option maxHeartbeats 4000000 in
theorem w10:Walked Tryz.prog G 10 12 sp10:=by
 refine ⟨Tryz.f10,Tryz.func10,by decide +kernel,rfl,fun xs bl r h=> ?_⟩
 unfold sp10 at h
 split at h
 ·rename_i rl els xls now ad li se msg
  obtain ⟨hpre,h2⟩:=chk_inv h;cases h2
  refine Eq.trans (b:=(let t0:List AV:=[Xb [Zu .i64 0,Zq [],Zq [],Zq [],Zq [],Zq [],Zq [],Zq [],Zq [],Zq [],Zu .u64 0,Zu .u64 0,Zu .u64 0,Zk [],Zu .i64 0,Zu .i64 0],Yb false];let t1:Option (AV×Blocks):=some (Zf (Zk []::t0),[]);sel (decide (now<0)) t1 (sel (decide (now>4294967295)) t1 (sel (decide (ad<0)) t1 (sel (decide (ad>4294967295)) t1 (Zw (chk (decide (Zz msg≤4611686018427387904)) (some (Zf [Xb [Yb (Kerb.KdcRequest.little (Yk (Zd msg))),Zq (Zm (Yj (Yk (Zd msg)))),Zq (Zh (Yj (Yk (Zd msg)))),Zq (Zn (Yj (Yk (Zd msg)))),Zu .i64 (Kerb.KdcRequest.time (Yk (Zd msg))),Zu .i64 (Kerb.KdcRequest.life (Yk (Zd msg))),Zq (Kerb.KdcRequest.service (Yk (Zd msg))),Zq (Kerb.KdcRequest.inst (Yk (Zd msg)))],Zu .i64 (Kerb.DecReq.err (Zd msg))],[]))) (kT fun vs=>onCons vs fun x r=>Wv x fun cs=>cBool cs fun b r_1=>cStr r_1 fun b r_2=>cStr r_2 fun b_1 r_3=>let t2:Bool:=l63 b&&l63 b_1;cStr r_3 fun b_2 r_4=>let t3:Bool:=t2&&l63 b_2;cInt .i64 r_4 fun n r_5=>cInt .i64 r_5 fun n_1 r_6=>cStr r_6 fun b_3 r_7=>cStr r_7 fun b_4 r_8=>let t4:Kerb.Svc:=Kerb.svc (Kerb.Db.mk rl (Xh Kerb.toEntry els)) (Xh Kerb.toCross xls) b_3 b_4 now;onNil r_8 (cInt .i64 r fun n_2 r=>onNil r (sel (!n_2==0) (Zw (chk (decide (Zz msg≤1000000)) (some (Zk (Kerb.refuseVer msg now li),[]))) (kB fun b=>some (Zf (Zk b::t0),[]))) (sel (!b_2==rl) (Zw (chk t3 (some (Zk (Wz (Zj b b_1 b_2) 8 now li),[]))) (kB fun b=>some (Zf (Zk b::t0),[]))) (Zw (chk (List.all els Kerb.isEntry&&decide (Zz els≤1000000)) (some (Zf [Zu .i64 (Xj (Kerb.clientEnt (Kerb.Db.mk rl (Xh Kerb.toEntry els)) b b_1 now)),Zu .i64 (Xk (Kerb.clientEnt (Kerb.Db.mk rl (Xh Kerb.toEntry els)) b b_1 now))],[]))) (kT fun vs=>cInt .i64 vs fun n_3 r=>cInt .i64 r fun n_4 r=>onNil r (sel (!n_4==0) (Zw (chk t3 (some (Zk (Wz (Zj b b_1 b_2) n_4 now li),[]))) (kB fun b=>some (Zf (Zk b::t0),[]))) (chk (decide (0≤n_3)&&decide (n_3<(↑(Zz els):Int))&&true) (Wv (List.getD els (Ww n_3) AV.undef) fun cs=>cStr cs fun b_5 r=>cStr r fun b_6 r=>cInt .u64 r fun n_5 r=>cInt .i64 r fun n_6 r=>cInt .i64 r fun n_7 r=>cInt .i64 r fun n_8 r=>cInt .i64 r fun n_9 r=>cInt .i64 r fun n_10 r=>cInt .i64 r fun n_11 r=>onNil r (Zw (chk (List.all els Kerb.isEntry&&decide (Zz els≤1000000)&&List.all xls Kerb.isCross&&decide (Zz xls≤1000000)&&l63 b_4) (some (Zf [Zu .u64 (Kerb.Svc.key t4),Zu .i64 (Kerb.Svc.kvno t4),Zu .i64 (Kerb.Svc.life t4),Zu .i64 (Kerb.Svc.expires t4),Zu .i64 (Kerb.Svc.err t4)],[]))) (kT fun vs=>cInt .u64 vs fun n_12 r=>cInt .i64 r fun n_13 r=>cInt .i64 r fun n_14 r=>cInt .i64 r fun n_15 r=>let t5:Int×Bool:=Kerb.grantLife now (Kerb.imin (Kerb.imin n_1 n_8) n_14) (List.filter (fun n => !n==0) [n_7,n_15]);cInt .i64 r fun n_16 r=>onNil r (sel (!n_16==0) (Zw (chk t3 (some (Zk (Wz (Zj b b_1 b_2) n_16 now li),[]))) (kB fun b=>some (Zf (Zk b::t0),[]))) (Zw (chk (decide (Zz [Zu .i64 n_7,Zu .i64 n_15]≤1000000)&&List.all [n_7,n_15] Kerb.isI64) (some (Zf [Zu .i64 (Xj t5),Yb (Xk t5)],[]))) (kT fun vs=>cInt .i64 vs fun n_17 r=>let t8:Kerb.Granted:=Kerb.grant rl (Zj b b_1 b_2) (Zj b_3 b_4 rl) ad li now n_17 se n_5 n_12 n_13;let t6:Kerb.Issue:=Kerb.Granted.issue t8;let t7:Kerb.ReplyPart:=Kerb.Granted.part t8;cBool r fun b_7 r=>onNil r (sel (!b_7) (Zw (chk t3 (some (Zk (Wz (Zj b b_1 b_2) 3 now li),[]))) (kB fun b=>some (Zf (Zk b::t0),[]))) (Zw (chk (decide (0≤se)&&decide (se<18446744073709551616)) (some (Zu .i64 (Kerb.classOf se),[]))) (kI .i64 fun n_18=>sel (!n_18==2) (Zw (chk t3 (some (Zk (Wz (Zj b b_1 b_2) 10 now li),[]))) (kB fun b=>some (Zf (Zk b::t0),[]))) (Zw (chk (t3&&l63 b_3&&l63 b_4&&l63 rl&&Kerb.isU64 se&&Kerb.isU64 n_12) (some (Zf [Xb [Zu .i64 (Kerb.Issue.kind t6),Zq (Zm (Xu t6)),Zq (Zh (Xu t6)),Zq (Zn (Xu t6)),Zq (Zm (Xq t6)),Zq (Zh (Xq t6)),Zq (Zn (Xq t6)),Zq (Zm (Xw t6)),Zq (Zh (Xw t6)),Zq (Zn (Xw t6)),Zu .u64 (Kerb.Issue.session t6),Zu .u64 (Kerb.Issue.sealer t6),Zu .u64 (Kerb.Issue.granter t6),Zk (Kerb.Issue.text t6),Zu .i64 (Kerb.Issue.issued t6),Zu .i64 (Kerb.Issue.stop t6)],Xb [Zu .u64 (Kerb.ReplyPart.session t7),Zq (Zm (Wx t7)),Zq (Zh (Wx t7)),Zq (Zn (Wx t7)),Zu .i64 (Kerb.ReplyPart.life t7),Zu .i64 (Kerb.ReplyPart.kvno t7),Zk (Kerb.ReplyPart.ticket t7),Zu .i64 (Kerb.ReplyPart.time t7)],Zu .i64 (Kerb.Granted.err t8)],[]))) (kT fun vs=>onCons vs fun x r=>Wv x fun cs=>cInt .i64 cs fun n_19 r_9=>cStr r_9 fun b_8 r_10=>cStr r_10 fun b_9 r_11=>cStr r_11 fun b_10 r_12=>cStr r_12 fun b_11 r_13=>cStr r_13 fun b_12 r_14=>cStr r_14 fun b_13 r_15=>cStr r_15 fun b_14 r_16=>cStr r_16 fun b_15 r_17=>cStr r_17 fun b_16 r_18=>cInt .u64 r_18 fun n_20 r_19=>cInt .u64 r_19 fun n_21 r_20=>cInt .u64 r_20 fun n_22 r_21=>cBs r_21 fun b_17 r_22=>cInt .i64 r_22 fun n_23 r_23=>cInt .i64 r_23 fun n_24 r_24=>onNil r_24 (onCons r fun x r=>Wv x fun cs=>cInt .u64 cs fun n_25 r_25=>cStr r_25 fun b_18 r_26=>cStr r_26 fun b_19 r_27=>cStr r_27 fun b_20 r_28=>cInt .i64 r_28 fun n_26 r_29=>cInt .i64 r_29 fun n_27 r_30=>cBs r_30 fun b_21 r_31=>cInt .i64 r_31 fun n_28 r_32=>let t9:Kerb.Enc:=Kerb.sealReply (Kerb.KdcReply.mk li (Zj b b_1 b_2) n n_7 n_6 []) (Yq n_25 (Zj b_18 b_19 b_20) n_26 n_27 b_21 n_28) n_5;onNil r_32 (cInt .i64 r fun n r=>onNil r (sel (!n==0) t1 (Zw (chk (t3&&l63 b_18&&l63 b_19&&l63 b_20&&Kerb.isU64 n_25&&Kerb.isU64 n_5) (some (Zf [Zk (Yf t9),Zu .i64 (Yg t9)],[]))) (kT fun vs=>cBs vs fun b r=>cInt .i64 r fun n r=>onNil r (sel (!n==0) t1 (some (Zf [Zk b,Xb [Zu .i64 1,Zq b_8,Zq b_9,Zq b_10,Zq b_11,Zq b_12,Zq b_13,Zq b_14,Zq b_15,Zq b_16,Zu .u64 n_20,Zu .u64 n_21,Zu .u64 n_22,Zk b_17,Zu .i64 n_23,Zu .i64 n_24],Yb true],[]))))))))))))))))))))))))))))))):Option (AV×Blocks))) (by kernel_rfl) ?_
  delta kT kB kI
  try dsimp only [cStr,cBs,cBool,cU8,cInt,cSl,l63]
  simp only [Yx,decide_eq_true_eq] at hpre
  obtain ⟨⟨⟨⟨⟨⟨ea,el⟩,xa⟩,xl⟩,lr⟩,hse⟩,lm⟩:=hpre
  have hse2:=Kerb.isU64_iff.1 hse
  obtain ⟨es,rfl,hok⟩:=Kerb.ents_of ea
  obtain ⟨cs,rfl,hcs⟩:=Kerb.cross_okof xa
  simp only [List.length_map] at el xl
  have lm2:msg.length≤4611686018427387904:=by omega
  obtain ⟨⟨n1,n2,n3⟩,n4,n5⟩:=Kerb.decReq_len msg
  obtain ⟨R,hR⟩:∃ R,(Zd msg).val=R:=⟨_,rfl⟩
  rw [hR] at n1 n2 n3 n4 n5
  obtain ⟨D,hD⟩:∃ D,Kerb.Db.mk rl es=D:=⟨_,rfl⟩
  have hDr:D.realm=rl:=by rw [← hD]
  have hDe:D.entries=es:=by rw [← hD]
  unfold Kerb.authAnswer
  by_cases q1:now<0
  ·rw [sel_pos (by simpa using q1),if_pos (by simp [Zg];omega)];rfl
  rw [sel_neg (by simpa using q1)]
  by_cases q2:now>4294967295
  ·rw [sel_pos (by simpa using q2),if_pos (by simp [Zg];omega)];rfl
  rw [sel_neg (by simpa using q2)]
  by_cases q3:ad<0
  ·rw [sel_pos (by simpa using q3),if_pos (by simp [Zg];omega)];rfl
  rw [sel_neg (by simpa using q3)]
  by_cases q4:ad>4294967295
  ·rw [sel_pos (by simpa using q4),if_pos (by simp [Zg];omega)];rfl
  rw [sel_neg (by simpa using q4),if_neg (by simp [Zg];omega)]
  have hRR:Zj R.client.name R.client.inst R.client.realm=R.client:=rfl
  simp (config:={maxSteps:=10000000}) only [Kerb.map_toEntry,Kerb.map_toCross,List.length_map,lm,lm2,ea,el,xa,xl,lr,hse,hse2,n1,n2,n3,n4,n5,hR,hRR,hD,decide_true,Yv,Bool.true_and,Bool.and_true,↓sInt,↓sU8,↓sBool,↓sStr,↓sBs,↓sSl,↓sAgg,↓sTup,↓sCons,↓sNil,↓sNilB,↓sChk,↓sChkBind,↓sSome]
  by_cases g1:(Zd msg).err=0
  case neg=>rw [sel_pos (by simpa using g1),if_pos g1];rfl
  rw [sel_neg (by simpa using g1),if_neg (by simpa using g1)]
  unfold Kerb.authAsk
  rw [hDr]
  by_cases g2:R.client.realm=rl
  case neg=>rw [sel_pos (by simpa using g2),if_pos g2];rfl
  rw [sel_neg (by simpa using g2),if_neg (by simpa using g2)]
  by_cases g3:(Kerb.clientEnt D R.client.name R.client.inst now).2=0
  case neg=>rw [sel_pos (by simpa using g3),if_pos g3];rfl
  rw [sel_neg (by simpa using g3),if_neg (by simpa using g3)]
  obtain ⟨i0,i1⟩:=Kerb.clie_lt g3
  obtain ⟨j,hj⟩:∃ j,(Kerb.clientEnt D R.client.name R.client.inst now).1=j:=⟨_,rfl⟩
  rw [hj] at i0 i1
  rw [hDe] at i1
  have hgj:(es.map Kerb.Entry.av).getD j.toNat AV.undef=(Kerb.entAt D j).av:=by
   rw [Kerb.getD_ent i1]
   unfold Kerb.entAt
   rw [hDe]
  have hkj:(decide ((0:Int)≤j)&&decide (j<(es.length:Int)))=true:=by simp;omega
  have hCo:(Kerb.entAt D j).ok:=by
   unfold Kerb.entAt
   rw [hDe]
   exact hok _ (Kerb.mem_row (d:=Kerb.noEntry) i1)
  obtain ⟨C,hC⟩:∃ C,Kerb.entAt D j=C:=⟨_,rfl⟩
  rw [hC] at hgj hCo
  obtain ⟨v1,v2,v3,v4⟩:=Kerb.svc_okX (d:=D) (cs:=cs) (n:=R.service) (i:=R.inst) (now:=now) (by rw [hDe];exact hok) hcs
  obtain ⟨V,hV⟩:∃ V,Kerb.svc D cs R.service R.inst now=V:=⟨_,rfl⟩
  rw [hV] at v1 v2 v3 v4
  have c1:=hCo.2.2.2.2.1
  have c2:=hCo.2.2.1
  have h2:∀ a b:AV,decide (Zz [a,b]≤1000000)=true:=fun _ _=>rfl
  rw [hj,hC,hV]
  unfold Kerb.authGive Kerb.authLife
  rw [hDr]
  have gp:=fun lf:Int=>Kerb.grant_part (realm:=rl) (client:=R.client) (service:=⟨R.service,R.inst,rl⟩) (address:=ad) (little:=li) (now:=now) (life:=lf) (session:=se) (sealer:=C.key) (target:=V.key) (kvno:=V.kvno) n4 n5 lr hse
  have gp1:=fun lf=>(gp lf).1
  have gp2:=fun lf=>(gp lf).2.1
  have gp3:=fun lf=>(gp lf).2.2.1
  have gp4:=fun lf=>(gp lf).2.2.2
  have gPe:∀ p:Kerb.ReplyPart,Yq p.session ⟨p.service.name,p.service.inst,p.service.realm⟩ p.life p.kvno p.ticket p.time=p:=fun _=>rfl
  simp (config:={maxSteps:=10000000}) only [hkj,hgj,Kerb.Entry.av,hV,v1,v4,c1,c2,h2,gp1,gp2,gp3,gp4,gPe,List.all_cons,List.all_nil,decide_true,Yv,Bool.true_and,Bool.and_true,↓sInt,↓sU8,↓sBool,↓sStr,↓sBs,↓sSl,↓sAgg,↓sTup,↓sCons,↓sNil,↓sNilB,↓sChk,↓sChkBind,↓sSome]
  by_cases g4:V.err=0
  case neg=>rw [sel_pos (by simpa using g4),if_pos g4];rfl
  rw [sel_neg (by simpa using g4),if_neg (by simpa using g4)]
  obtain ⟨L,hL⟩:∃ L,Kerb.grantLife now (Kerb.imin (Kerb.imin R.life C.maxLife) V.life) ([C.expires,V.expires].filter fun n => !(n==0))=L:=⟨_,rfl⟩
  rw [hL]
  cases g5:L.2
  ·rfl
  rw [Yw,sel_false,if_neg (by simp)]
  by_cases g6:Kerb.classOf se=2
  case neg=>rw [sel_pos (by simpa using g6),if_pos g6];rfl
  rw [sel_neg (by simpa using g6),if_neg (by simpa using g6)]
  obtain ⟨GG,hGG⟩:∃ GG,Kerb.grant rl R.client ⟨R.service,R.inst,rl⟩ ad li now L.1 se C.key V.key V.kvno=GG:=⟨_,rfl⟩
  rw [hGG]
  by_cases g7:GG.err=0
  case neg=>rw [sel_pos (by simpa using g7),if_pos g7];rfl
  rw [sel_neg (by simpa using g7),if_neg (by simpa using g7)]
  by_cases g8:(Kerb.sealReply ⟨li,R.client,R.time,C.expires,C.kvno,[]⟩ GG.part C.key).err=0
  case neg=>rw [sel_pos (by simpa using g8),if_pos g8];rfl
  rw [sel_neg (by simpa using g8),if_neg (by simpa using g8)]
 ·cases h
theorem p4  : runFn (G.env 4 13) G.rts (G.own 4) Tryz.f4 [] []=some (.bool true,[]):=by kernel_rfl
theorem w4:Walked Tryz.prog G 4 13 sp4:=by
 refine ⟨Tryz.f4,Tryz.func4,by decide +kernel,rfl,fun xs bl r h=> ?_⟩
 unfold sp4 at h
 split at h
 ·cases h;exact p4
 ·cases h
set_option maxHeartbeats 4000000 in
theorem w3:Walked Tryz.prog G 3 14 sp3:=by
 refine ⟨Tryz.f3,Tryz.func3,by decide +kernel,rfl,fun xs bl r h=> ?_⟩
 unfold sp3 at h
 split at h
 ·rename_i cx pe wh lf now
  obtain ⟨hpre,h2⟩:=chk_inv h;cases h2
  refine Eq.trans (b:=(let t1:Int:=Int.tmod (Wy .i64 (↑(UInt8.toNat wh):Int)) 3;let t2:Int:=Wy .i64 (1+Int.tmod (Wy .i64 (↑(UInt8.toNat pe):Int)) 2);let t3:List AV:=Xh Kerb.Entry.av (Kerb.Db.entries (Xx lf (0:UInt8) (255:UInt8)));let t0:Kerb.Db:=Kerb.Db.mk (Kerb.Db.realm (Xx lf (0:UInt8) (255:UInt8))) (Xh Kerb.toEntry t3);sel (decide ((↑(Zz cx):Int)>60)) (some (Yb true,[])) (Zw (chk (decide (Zz cx≤100000)) (some (AV.sl 4 (Xh Kerb.Cross.av (Yu cx)),[]))) fun (r:AV×Blocks)=>onNilB (Xk r) (AV.onSl 4 (Xj r) fun b=>Zw (chk (decide (0≤t2)) (some (Xb [Zq Kerb.krbtgt,Zq (Yn t2),Zq (Yn 0)],[]))) (kA fun cs=>cStr cs fun b_1 r=>cStr r fun b_2 r=>cStr r fun b_3 r=>onNil r (Zw (chk (decide (0≤t1)&&decide (t1≤4611686018427387904)) (some (Xb [Zq (Zm (Xg t1)),Zq (Zh (Xg t1)),Zq (Zn (Xg t1))],[]))) (kA fun cs=>cStr cs fun b_4 r=>cStr r fun b_5 r=>cStr r fun b_6 r=>onNil r (Zw (chk (l63 b_4&&l63 b_5&&l63 b_6&&l63 b_1&&l63 b_2) (some (Zf [Zk (Yf (Ym (Xn false (Zj b_4 b_5 b_6) 5 200 b_1 b_2))),Zu .i64 (Yg (Ym (Xn false (Zj b_4 b_5 b_6) 5 200 b_1 b_2)))],[]))) (kT fun vs=>cBs vs fun b_7 r=>let t5:Kerb.AuthOut:=Kerb.authAnswer t0 (Xh Kerb.toCross b) (Wy .i64 now) 7 true (Kerb.session 1) b_7;let t4:Kerb.Issue:=Kerb.AuthOut.issue t5;cInt .i64 r fun n r=>onNil r (Zw (chk (List.all t3 Kerb.isEntry&&decide (Zz t3≤1000000)&&List.all b Kerb.isCross&&decide (Zz b≤1000000)&&decide (Zz (Kerb.Db.realm (Xx lf (0:UInt8) (255:UInt8)))≤9223372036854775807)&&true&&decide (Zz b_7≤1000000)) (some (Zf [Zk (Kerb.AuthOut.answer t5),Xb [Zu .i64 (Kerb.Issue.kind t4),Zq (Zm (Xu t4)),Zq (Zh (Xu t4)),Zq (Zn (Xu t4)),Zq (Zm (Xq t4)),Zq (Zh (Xq t4)),Zq (Zn (Xq t4)),Zq (Zm (Xw t4)),Zq (Zh (Xw t4)),Zq (Zn (Xw t4)),Zu .u64 (Kerb.Issue.session t4),Zu .u64 (Kerb.Issue.sealer t4),Zu .u64 (Kerb.Issue.granter t4),Zk (Kerb.Issue.text t4),Zu .i64 (Kerb.Issue.issued t4),Zu .i64 (Kerb.Issue.stop t4)],Yb (Kerb.AuthOut.ok t5)],[]))) (kT fun vs=>cBs vs fun b_8 r=>onCons r fun x r=>Wv x fun cs=>cInt .i64 cs fun n r_1=>cStr r_1 fun b_9 r_2=>cStr r_2 fun b_10 r_3=>cStr r_3 fun b_11 r_4=>cStr r_4 fun b_12 r_5=>cStr r_5 fun b_13 r_6=>cStr r_6 fun b_14 r_7=>cStr r_7 fun b_15 r_8=>cStr r_8 fun b_16 r_9=>cStr r_9 fun b_17 r_10=>cInt .u64 r_10 fun n r_11=>cInt .u64 r_11 fun n r_12=>cInt .u64 r_12 fun n r_13=>cBs r_13 fun b_18 r_14=>cInt .i64 r_14 fun n r_15=>cInt .i64 r_15 fun n r_16=>onNil r_16 (cBool r fun b_19 r=>onNil r (Zw (chk (List.all b Kerb.isCross&&decide (Zz b≤1000000)) (some (Zf [Zu .i64 (Xj (Xp (Xh Kerb.toCross b) [(65:UInt8),(84:UInt8),(72:UInt8)] b_2)),Yb (Xk (Xp (Xh Kerb.toCross b) [(65:UInt8),(84:UInt8),(72:UInt8)] b_2))],[]))) (kT fun vs=>cInt .i64 vs fun n r=>cBool r fun b_20 r=>onNil r (sel (!b_20) (some (Yb (b_19==b_20),[])) (sel (!b_19) (some (Yb (b_19==b_20),[])) (chk (decide (0≤n)&&decide (n<(↑(Zz b):Int))&&true) (Wv (List.getD b (Ww n) AV.undef) fun cs=>cStr cs fun b r=>cStr r fun b r=>cInt .i64 r fun n r=>cInt .u64 r fun n r=>onNil r (Zw (chk (decide (Zz b_18≤140737488355328)) (some (Zf [Xb [Yb (Kerb.Ticket.little (Yh (Yy b_18 n))),Zq (Zm (Kerb.Ticket.client (Yh (Yy b_18 n)))),Zq (Zh (Kerb.Ticket.client (Yh (Yy b_18 n)))),Zq (Zn (Kerb.Ticket.client (Yh (Yy b_18 n)))),Zu .i64 (Kerb.Ticket.address (Yh (Yy b_18 n))),Zu .u64 (Kerb.Ticket.session (Yh (Yy b_18 n))),Zu .i64 (Kerb.Ticket.life (Yh (Yy b_18 n))),Zu .i64 (Kerb.Ticket.issued (Yh (Yy b_18 n))),Zq (Kerb.Ticket.service (Yh (Yy b_18 n))),Zq (Kerb.Ticket.inst (Yh (Yy b_18 n)))],Zu .i64 (Kerb.Dec.err (Yy b_18 n))],[]))) (kT fun vs=>onCons vs fun x r=>Wv x fun cs=>cBool cs fun b r_17=>cStr r_17 fun b r_18=>cStr r_18 fun b r_19=>cStr r_19 fun b r_20=>cInt .i64 r_20 fun n r_21=>cInt .u64 r_21 fun n r_22=>cInt .i64 r_22 fun n r_23=>cInt .i64 r_23 fun n r_24=>cStr r_24 fun b r_25=>cStr r_25 fun b r_26=>onNil r_26 (cInt .i64 r fun n r=>onNil r (sel (n==0) (sel (b==b_2) (some (Yb (b_15==b_1&&(b_16==b_2&&b_17==b_3)),[])) (some (Yb false,[]))) (some (Yb false,[])))))))))))))))))))))):Option (AV×Blocks))) (by kernel_rfl) ?_
  delta kT kA
  try dsimp only [cStr,cBs,cBool,cU8,cInt,cSl,l63]
  simp only [Yx,decide_eq_true_eq] at hpre
  by_cases q2:((cx.length:Nat):Int)>60
  ·rw [sel_pos (by simpa using q2)]
  rw [sel_neg (by simpa using q2)]
  have bw:=Kerb.u8i_bd wh
  have bp:=Kerb.u8i_bd pe
  have lcx:cx.length≤100000:=by omega
  obtain ⟨N,hN⟩:∃ N,1+Kerb.u8i pe % 2=N:=⟨_,rfl⟩
  obtain ⟨U,hU⟩:∃ U,Kerb.u8i wh % 3=U:=⟨_,rfl⟩
  have hN2:N=1∨N=2:=by omega
  have hU2:U=0∨U=1∨U=2:=by omega
  have z1:Wy .i64 (1+Int.tmod (Kerb.u8i pe) 2)=N:=by rw [Int.tmod_eq_emod_of_nonneg bp.1,hN];exact wrap_i64 (by omega) (by omega)
  have z2:Int.tmod (Kerb.u8i wh) 3=U:=by rw [Int.tmod_eq_emod_of_nonneg bw.1,hU]
  have z3:decide ((0:Int)≤N)=true:=by simp;omega
  have z4:(decide ((0:Int)≤U)&&decide (U≤4611686018427387904))=true:=by simp;omega
  have z5:Wy .i64 now=now:=wrap_i64 (by omega) (by omega)
  obtain ⟨l1,l2,l3⟩:=Kerb.user_dec U
  have l4:Kerb.krbtgt.length≤9223372036854775807:=by decide
  have l5:(Yn N).length≤9223372036854775807:=Kerb.realm_lenB N
  have hUe:Zj (Xg U).name (Xg U).inst (Xg U).realm=Xg U:=rfl
  have lM:=Kerb.encode_len ⟨false,Xg U,5,200,Kerb.krbtgt,Yn N⟩
  have lM2:(Ym ⟨false,Xg U,5,200,Kerb.krbtgt,Yn N⟩).val.length≤1000000:=by omega
  obtain ⟨A,hA⟩:∃ A,Kerb.authAnswer (Xx lf 0 255) (Yu cx) now 7 true (Kerb.session 1) (Ym ⟨false,Xg U,5,200,Kerb.krbtgt,Yn N⟩).val=A:=⟨_,rfl⟩
  obtain ⟨c1,c2⟩:=Kerb.cross_law cx lf hN2 hU2 hpre.1 hpre.2 hA
  obtain ⟨xl,xok⟩:=Kerb.goodCross_ok cx
  have xl2:(Yu cx).length≤1000000:=by omega
  have hxT:=Kerb.cross_all xok
  have hD:=Kerb.all_ents (Kerb.simpleDb_err lf 0 255).2
  have hDl:(Xx lf 0 255).entries.length≤1000000:=by have:=(Kerb.Db.err_inv (Kerb.simpleDb_err lf 0 255).1).2.1;omega
  have hDr:(Xx lf 0 255).realm.length≤9223372036854775807:=by show ([65,84,72]:List UInt8).length≤_;decide
  have hDe:Kerb.Db.mk (Xx lf 0 255).realm (Xx lf 0 255).entries=Xx lf 0 255:=rfl
  have lAt:A.issue.text.length≤140737488355328:=by rw [← hA];exact Kerb.issue_len _ _ _ _ _ _ _
  simp (config:={maxSteps:=10000000}) only [lcx,Kerb.wrap_u8i,z1,z2,z3,z4,z5,l1,l2,l3,l4,l5,hUe,lM2,hA,hxT,xl2,hD,hDl,hDr,hDe,lAt,Kerb.map_toEntry,Kerb.map_toCross,List.length_map,decide_true,Yv,Bool.true_and,Bool.and_true,↓sInt,↓sU8,↓sBool,↓sStr,↓sBs,↓sSl,↓sAgg,↓sTup,↓sCons,↓sNil,↓sNilB,↓sChk,↓sChkBind,↓sSome]
  rw [c1]
  cases hok:A.ok
  ·rfl
  rw [Yw,sel_false,sel_false]
  obtain ⟨T,t1,t2,t3⟩:=c2 hok
  have his:(Xp (Yu cx) [65,84,72] (Yn N)).2=true:=by rw [c1,hok]
  obtain ⟨f0,f1⟩:=Kerb.findCross_lt his
  have hk:(decide ((0:Int)≤(Xp (Yu cx) [65,84,72] (Yn N)).1)&&decide ((Xp (Yu cx) [65,84,72] (Yn N)).1<((Yu cx).length:Int)))=true:=by simp;omega
  have hg:((Yu cx).map Kerb.Cross.av).getD (Xp (Yu cx) [65,84,72] (Yn N)).1.toNat AV.undef=((Yu cx).getD (Xp (Yu cx) [65,84,72] (Yn N)).1.toNat Kerb.noCross).av:=Kerb.getD_cross f1
  have t3a:A.issue.service.name=Kerb.krbtgt:=by rw [t3]
  have t3b:A.issue.service.inst=Yn N:=by rw [t3]
  have t3c:A.issue.service.realm=Yn 0:=by rw [t3];rfl
  simp (config:={maxSteps:=10000000}) only [hk,hg,Kerb.Cross.av,t1,t2,t3a,t3b,t3c,lAt,BEq.rfl,Yv,decide_true,↓sTrue,↓sInt,↓sU8,↓sBool,↓sStr,↓sBs,↓sSl,↓sAgg,↓sTup,↓sCons,↓sNil,↓sNilB,↓sChk,↓sChkBind,↓sSome]
 ·cases h
end Go.Proofs.YtkdmekflbaekpaaGreatDoor
