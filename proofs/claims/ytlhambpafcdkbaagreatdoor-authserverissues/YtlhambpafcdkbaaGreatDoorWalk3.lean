/- What the functions of this seat compute. -/
import Derived.Test.YtlhambpafcdkbaaGreatDoorTab
import Derived.Test.YtlhambpafcdkbaaGreatDoorKerbPlain
import Derived.Test.YtlhambpafcdkbaaGreatDoorAbsStep
import Derived.Test.YtlhambpafcdkbaaGreatDoorKerbCli3
import Derived.Test.YtlhambpafcdkbaaGreatDoorKerbCli4
import Derived.Test.YtlhambpafcdkbaaGreatDoorKerbCli5
import Derived.Test.YtlhambpafcdkbaaGreatDoorKerbSrvL
import Derived.Test.YtlhambpafcdkbaaGreatDoorKerbKac2
import Derived.Test.YtlhambpafcdkbaaGreatDoorKerbKac4
import Derived.Test.YtlhambpafcdkbaaGreatDoorKerbSrvB
import Derived.Test.YtlhambpafcdkbaaGreatDoorKerbVerL
import Derived.Test.YtlhambpafcdkbaaGreatDoorKerbVerL
import Derived.Test.YtlhambpafcdkbaaGreatDoorKerbAuthL
open Go.Abs.AV renaming int→Zz,str→Zx,bs→Zp,bool→Zf,tup→Zg,ownB→Yp,onAgg→Xp,agg→Xm,undef→Wq,onInt→Vn
open List renaming length→Zy,append→Zm,map→Wy,getD→Wu,length_map→Wd
open Option renaming bind→Zw
open Kerb renaming putPrin_len→Zv,keyBytes_len→Zu,putN_len→Zq,decodeRequest→Zd,within→Zn,putN→Yz,decodeTicket→Yd,openTicket→Yf,putText→Yb,prin→Xy,text→Xv,decodeReply→Xu,headIs→Xj,decodePart→Xd,encodePart→Xb,toEntry→Xn,get→Wx,entAt→Wj,simpleDb→Wk,validName→Wg,validInst→Wb,putPrin→Wn,findCross→Wm,getD_ent→Vy,refuse→Vv,serviceEnt→Vq,valid_len→Vk,u8i→Vp,encodeRequest→Vd,header→Vm,encodeTicket→Vh
open Go.IntKind renaming i64→Zj,wrap→Yj,u64→Wp
open Kerb.Prin renaming mk→Zk,realm→Yx,valid→Yv,name→Yu,inst→Yq
open Bool renaming not_true→Zb,and_eq_true→Yw,and_self→Yg,not_false→Wh,and_true→Vw
open Kerb.DecReq renaming val→Zh
open Kerb.Dec renaming val→Yy
open Kerb.KdcRequest renaming client→Yk,service→Vu,little→Vj,time→Vf,life→Vg,inst→Vb
open Kerb.Entry renaming av→Yn
open Int renaming toNat→Ym
open Prod renaming snd→Yh,fst→Xz
open Kerb.ReplyPart renaming mk→Xx,service→Xq
open Kerb.DecReply renaming val→Xw
open Kerb.DecPart renaming val→Xk
open Kerb.Enc renaming val→Xf,err→Xg
open Kerb.Ticket renaming client→Xh,mk→Vx
open Kerb.Issue renaming service→Wz,server→Ww,client→Wv
open Kerb.AAsk renaming mk→Wf
open Kerb.Db renaming mk→Vz
open Kerb.KdcReply renaming client→Uz
namespace Go.Proofs.YtlhambpafcdkbaaGreatDoor
open Go Go.Abs Go.Proofs
set_option linter.unusedVariables false
set_option linter.unusedSimpArgs false
set_option maxRecDepth 100000
theorem w14:Walked Tryz.prog G 14 7 sp14:=by
 refine ⟨Tryz.f14,Tryz.func14,by decide +kernel,rfl,fun xs bl r h=> ?_⟩
 unfold sp14 at h
 split at h
 ·rename_i b k
  obtain ⟨hpre,h2⟩:=chk_inv h;cases h2
  refine Eq.trans (b:=(Zw (chk (decide (Zy b≤140737488355328)) (some (Zg [Zp (Xz (Kerb.openBox b 1 k)),Zf (Yh (Kerb.openBox b 1 k))],[]))) (kT fun vs=>cBs vs fun b r=>cBool r fun b_1 r=>onNil r (sel (!b_1) (some (Zg [Xm [Zf false,Zx [],Zx [],Zx [],Zz .i64 0,Zz .u64 0,Zz .i64 0,Zz .i64 0,Zx [],Zx []],Zz .i64 31],[])) (Zw (chk (decide (Zy b≤140737488355328)) (some (Zg [Xm [Zf (Kerb.Ticket.little (Yy (Yd b))),Zx (Yu (Xh (Yy (Yd b)))),Zx (Yq (Xh (Yy (Yd b)))),Zx (Yx (Xh (Yy (Yd b)))),Zz .i64 (Kerb.Ticket.address (Yy (Yd b))),Zz .u64 (Kerb.Ticket.session (Yy (Yd b))),Zz .i64 (Kerb.Ticket.life (Yy (Yd b))),Zz .i64 (Kerb.Ticket.issued (Yy (Yd b))),Zx (Kerb.Ticket.service (Yy (Yd b))),Zx (Kerb.Ticket.inst (Yy (Yd b)))],Zz .i64 (Kerb.Dec.err (Yd b))],[]))) (kT fun vs=>onCons vs fun x r=>Xp x fun cs=>cBool cs fun b r_1=>cStr r_1 fun b_2 r_2=>cStr r_2 fun b_3 r_3=>cStr r_3 fun b_4 r_4=>cInt .i64 r_4 fun n r_5=>cInt .u64 r_5 fun n_1 r_6=>cInt .i64 r_6 fun n_2 r_7=>cInt .i64 r_7 fun n_3 r_8=>cStr r_8 fun b_5 r_9=>cStr r_9 fun b_6 r_10=>onNil r_10 (cInt .i64 r fun n_4 r=>onNil r (some (Zg [Xm [Zf b,Zx b_2,Zx b_3,Zx b_4,Zz .i64 n,Zz .u64 n_1,Zz .i64 n_2,Zz .i64 n_3,Zx b_5,Zx b_6],Zz .i64 n_4],[]))))))):Option (AV×Blocks))) (by kernel_rfl) ?_
  delta kT
  try dsimp only [cStr,cBs,cBool,cU8,cInt,cSl,l63]
  have hb:=of_decide_eq_true hpre
  have hl:=Kerb.openBox_len b 1 k
  simp only [hpre,↓A0,A0]
  unfold Yf
  cases h:(Kerb.openBox b 1 k).2
  ·rfl
  ·rw [sel_neg (by simp),chk_of (by simp;omega)]
   rfl
 ·cases h
theorem w25:Walked Tryz.prog G 25 7 sp25:=by
 refine ⟨Tryz.f25,Tryz.func25,by decide +kernel,rfl,fun xs bl r h=> ?_⟩
 unfold sp25 at h
 split at h
 ·rename_i rl els xls n i now
  obtain ⟨hpre,h2⟩:=chk_inv h;cases h2
  refine Eq.trans (b:=(let t0:Option (AV×Blocks):=Zw (chk (List.all els Kerb.isEntry&&decide (Zy els≤1000000)) (some (Zg [Zz .i64 (Xz (Vq (Vz rl (Wy Xn els)) n i now)),Zz .i64 (Yh (Vq (Vz rl (Wy Xn els)) n i now))],[]))) (kT fun vs=>cInt .i64 vs fun n r=>cInt .i64 r fun n_1 r=>onNil r (sel (!n_1==0) (some (Zg [Zz .u64 0,Zz .i64 0,Zz .i64 0,Zz .i64 0,Zz .i64 n_1],[])) (chk (decide (0≤n)&&decide (n<(↑(Zy els):Int))&&true) (Xp (Wu els (Ym n) Wq) fun cs=>cStr cs fun b r=>cStr r fun b r=>cInt .u64 r fun n r=>cInt .i64 r fun n_2 r=>cInt .i64 r fun n_3 r=>cInt .i64 r fun n_4 r=>cInt .i64 r fun n_5 r=>cInt .i64 r fun n_6 r=>cInt .i64 r fun n_7 r=>onNil r (some (Zg [Zz .u64 n,Zz .i64 n_2,Zz .i64 n_4,Zz .i64 n_3,Zz .i64 0],[]))))));sel (n==Kerb.krbtgt) (Zw (chk (l63 i) (some (Zf (Kerb.validRealm i),[]))) (kL fun b=>sel b (sel (!i==rl) (Zw (chk (List.all xls Kerb.isCross&&decide (Zy xls≤1000000)) (some (Zg [Zz .i64 (Xz (Wm (Wy Kerb.toCross xls) rl i)),Zf (Yh (Wm (Wy Kerb.toCross xls) rl i))],[]))) (kT fun vs=>cInt .i64 vs fun n r=>cBool r fun b r=>onNil r (sel (!b) (some (Zg [Zz .u64 0,Zz .i64 0,Zz .i64 0,Zz .i64 0,Zz .i64 8],[])) (chk (decide (0≤n)&&decide (n<(↑(Zy xls):Int))&&true) (Xp (Wu xls (Ym n) Wq) fun cs=>cStr cs fun b r=>cStr r fun b r=>cInt .i64 r fun n_1 r=>cInt .u64 r fun n_2 r=>onNil r (chk (decide (0≤n)&&decide (n<(↑(Zy xls):Int))&&true) (Xp (Wu xls (Ym n) Wq) fun cs=>cStr cs fun b r=>cStr r fun b r=>cInt .i64 r fun n r=>cInt .u64 r fun n_3 r=>onNil r (some (Zg [Zz .u64 n_2,Zz .i64 n,Zz .i64 255,Zz .i64 0,Zz .i64 0],[]))))))))) t0) t0)) t0:Option (AV×Blocks))) (by kernel_rfl) ?_
  delta kT kL
  try dsimp only [cStr,cBs,cBool,cU8,cInt,cSl,l63]
  simp only [Yw,decide_eq_true_eq] at hpre
  obtain ⟨⟨⟨⟨hall,hlen⟩,hx⟩,hxl⟩,hi⟩:=hpre
  obtain ⟨es,rfl,hok⟩:=Kerb.ents_of hall
  obtain ⟨cs,rfl⟩:=Kerb.cross_of hx
  rw [Kerb.map_toEntry,Kerb.map_toCross]
  simp only [hall,hlen,hx,hxl,hi,decide_true,Yg,↓A0,A0]
  simp only [Wd] at hlen hxl ⊢
  unfold Kerb.svc
  dsimp only
  have hkr:(n==[(107:UInt8),(114:UInt8),(98:UInt8),(116:UInt8),(103:UInt8),(116:UInt8)])=(n==Kerb.krbtgt):=rfl
  try rw [hkr]
  cases n==Kerb.krbtgt
  ·simp only [Zb,Wh,sel_true,sel_false]
   by_cases he:(Vq ⟨rl,es⟩ n i now).2=0
   case neg=>rw [sel_pos (by simpa using he),if_neg (by simp),if_pos he]
   obtain ⟨u1,u2⟩:=Kerb.serv_lt he
   dsimp only at u2
   rw [sel_neg (by simpa using he),if_neg (by simp),if_neg (by simpa using he),chk_of (by simp;omega),Vy u2]
   simp only [Yn,↓A0,A0]
  cases Kerb.validRealm i
  ·simp only [Zb,Wh,sel_true,sel_false]
   by_cases he:(Vq ⟨rl,es⟩ n i now).2=0
   case neg=>rw [sel_pos (by simpa using he),if_neg (by simp),if_pos he]
   obtain ⟨u1,u2⟩:=Kerb.serv_lt he
   dsimp only at u2
   rw [sel_neg (by simpa using he),if_neg (by simp),if_neg (by simpa using he),chk_of (by simp;omega),Vy u2]
   simp only [Yn,↓A0,A0]
  cases i==rl
  ·simp only [Zb,Wh,sel_true,sel_false]
   by_cases he:(Wm cs rl i).2=true
   ·obtain ⟨u1,u2⟩:=Kerb.findCross_lt he
    have hk:(decide (0≤(Wm cs rl i).1)&&decide ((Wm cs rl i).1<(cs.length:Int))&&true)=true:=by simp;omega
    simp only [he,hk,Kerb.getD_cross u2,Kerb.Cross.av,Zb,Yg,Wh,if_true,↓A0,A0]
   ·have he2:(Wm cs rl i).2=false:=by simpa using he
    rw [he2]
    rfl
  ·simp only [Zb,Wh,sel_true,sel_false]
   by_cases he:(Vq ⟨rl,es⟩ n i now).2=0
   case neg=>rw [sel_pos (by simpa using he),if_neg (by simp),if_pos he]
   obtain ⟨u1,u2⟩:=Kerb.serv_lt he
   dsimp only at u2
   rw [sel_neg (by simpa using he),if_neg (by simp),if_neg (by simpa using he),chk_of (by simp;omega),Vy u2]
   simp only [Yn,↓A0,A0]
 ·cases h
theorem w97:Walked Tryz.prog G 97 7 sp97:=by
 refine ⟨Tryz.f97,Tryz.func97,by decide +kernel,rfl,fun xs bl r h=> ?_⟩
 unfold sp97 at h
 split at h
 ·rename_i a b c
  obtain ⟨hpre,h2⟩:=chk_inv h;cases h2
  refine Eq.trans (b:=(Zw (chk (decide (Zy a≤9223372036854775807)) (some (Zf (Wg a),[]))) fun (r:AV×Blocks)=>onNilB (Yh r) (AV.onBool (Xz r) fun b_1=>sel b_1 (Zw (chk (decide (Zy b≤9223372036854775807)) (some (Zf (Wb b),[]))) fun (r:AV×Blocks)=>onNilB (Yh r) (AV.onBool (Xz r) fun b=>sel b (Zw (chk (decide (Zy c≤9223372036854775807)) (some (Zf (Kerb.validRealm c),[]))) fun (r:AV×Blocks)=>onNilB (Yh r) (AV.onBool (Xz r) fun b=>some (Zf b,[]))) (some (Zf false,[])))) (some (Zf false,[]))):Option (AV×Blocks))) (by kernel_rfl) ?_
  simp only [Yw,decide_eq_true_eq] at hpre
  simp only [A0]
  rw [chk_of (by simp;omega),chk_of (by simp;omega),chk_of (by simp;omega)]
  simp only [Yv]
  cases Wg a<;>cases Wb b<;>rfl
 ·cases h
theorem w56:Walked Tryz.prog G 56 8 sp56:=by
 refine ⟨Tryz.f56,Tryz.func56,by decide +kernel,rfl,fun xs bl r h=> ?_⟩
 unfold sp56 at h
 split at h
 ·rename_i b pos
  obtain ⟨hpre,h2⟩:=chk_inv h;cases h2
  refine Eq.trans (b:=(Zw (loopM (fun (st:List AV)=>cBs st fun b r=>cInt .i64 r fun n r=>let t0:Option (AV×Blocks):=chk (decide (Zy b≤4611686018427387904)) (some (Zg [Zx (Kerb.GotB.val (Xv b n)),Zz .i64 (Kerb.GotB.next (Xv b n)),Zz .i64 (Kerb.GotB.err (Xv b n))],[]));cStr r fun b_1 r=>cStr r fun b_2 r=>cStr r fun b_3 r=>cInt .i64 r fun n_1 r=>cInt .i64 r fun n_2 r=>cStr r fun b_4 r=>cStr r fun b_5 r=>cStr r fun b_6 r=>cInt .i64 r fun n_3 r=>cInt .i64 r fun n_4 r=>let t1:List AV:=[Zx b_6,Zz .i64 n_3,Zz .i64 (Yj .i64 (n_4+1))];onNil r (sel (decide (n_4<n_3)) (chk (decide (0≤n_4)&&decide (n_4<(↑(Zy [0,1,2]):Int))&&true) (sel (Nat.beq (Ym n_4) 0) (Zw t0 (kT fun vs=>cStr vs fun b_7 r=>cInt .i64 r fun n r=>cInt .i64 r fun n_5 r=>onNil r (sel (!n_5==0) (some (Sum.inr (Ex.ret,[Zp b,Zz .i64 n,Zx [],Zx [],Zx [],Zz .i64 0,Zz .i64 n_5,Zx b_7,Zx b_5,Zx b_6,Zz .i64 n_3,Zz .i64 n_4]))) (some (Sum.inl (Zp b::Zz .i64 n::Zx b_1::Zx b_2::Zx b_3::Zz .i64 n_1::Zz .i64 n_2::Zx b_7::Zx b_5::t1)))))) (sel (Nat.beq (Ym n_4-1) 0) (Zw t0 (kT fun vs=>cStr vs fun b_7 r=>cInt .i64 r fun n r=>cInt .i64 r fun n_5 r=>onNil r (sel (!n_5==0) (some (Sum.inr (Ex.ret,[Zp b,Zz .i64 n,Zx [],Zx [],Zx [],Zz .i64 0,Zz .i64 n_5,Zx b_4,Zx b_7,Zx b_6,Zz .i64 n_3,Zz .i64 n_4]))) (some (Sum.inl (Zp b::Zz .i64 n::Zx b_1::Zx b_2::Zx b_3::Zz .i64 n_1::Zz .i64 n_2::Zx b_4::Zx b_7::t1)))))) (sel (Nat.beq (Ym n_4-1-1) 0) (Zw t0 (kT fun vs=>cStr vs fun b_7 r=>cInt .i64 r fun n r=>cInt .i64 r fun n_5 r=>onNil r (sel (!n_5==0) (some (Sum.inr (Ex.ret,[Zp b,Zz .i64 n,Zx [],Zx [],Zx [],Zz .i64 0,Zz .i64 n_5,Zx b_4,Zx b_5,Zx b_7,Zz .i64 n_3,Zz .i64 n_4]))) (some (Sum.inl [Zp b,Zz .i64 n,Zx b_1,Zx b_2,Zx b_3,Zz .i64 n_1,Zz .i64 n_2,Zx b_4,Zx b_5,Zx b_7,Zz .i64 n_3,Zz .i64 (Yj .i64 (n_4+1))]))))) none)))) (some (Sum.inr (Ex.exit 0,[Zp b,Zz .i64 n,Zx b_1,Zx b_2,Zx b_3,Zz .i64 n_1,Zz .i64 n_2,Zx b_4,Zx b_5,Zx b_6,Zz .i64 n_3,Zz .i64 n_4]))))) [Zp b,Zz .i64 pos,Zx [],Zx [],Zx [],Zz .i64 0,Zz .i64 0,Zx [],Zx [],Zx [],Zz .i64 (↑(Zy [0+0,0+1,0+2]):Int),Zz .i64 0]) fun (r:Ex×List AV)=>cBs (Yh r) fun b r_1=>cInt .i64 r_1 fun n r_2=>cStr r_2 fun b r_3=>cStr r_3 fun b_1 r_4=>cStr r_4 fun b_2 r_5=>cInt .i64 r_5 fun n_1 r_6=>cInt .i64 r_6 fun n_2 r_7=>cStr r_7 fun b_3 r_8=>cStr r_8 fun b_4 r_9=>cStr r_9 fun b_5 r_10=>cInt .i64 r_10 fun n_3 r_11=>cInt .i64 r_11 fun n_4 r_12=>onNil r_12 (exK r.1 (some (Zg [Xm [Zx b,Zx b_1,Zx b_2],Zz .i64 n_1,Zz .i64 n_2],[])) fun (j:Nat)=>sel (Nat.beq j 0) (Zw (chk (l63 b_3&&l63 b_4&&l63 b_5) (some (Zf (Yv (Zk b_3 b_4 b_5)),[]))) (kL fun b=>sel (!b) (some (Zg [Xm [Zx [],Zx [],Zx []],Zz .i64 0,Zz .i64 103],[])) (some (Zg [Xm [Zx b_3,Zx b_4,Zx b_5],Zz .i64 n,Zz .i64 0],[])))) none):Option (AV×Blocks))) (by kernel_rfl) ?_
  delta kT kL
  try dsimp only [cStr,cBs,cBool,cU8,cInt,cSl,l63]
  have hb:=of_decide_eq_true hpre
  obtain ⟨T0,hT0⟩:∃ T,T=Xv b pos:=⟨_,rfl⟩
  obtain ⟨T1,hT1⟩:∃ T,T=Xv b T0.next:=⟨_,rfl⟩
  obtain ⟨T2,hT2⟩:∃ T,T=Xv b T1.next:=⟨_,rfl⟩
  have hp:Xy b pos=if T0.err≠0 then ⟨Kerb.noPrin,0,T0.err⟩ else if T1.err≠0 then ⟨Kerb.noPrin,0,T1.err⟩ else if T2.err≠0 then ⟨Kerb.noPrin,0,T2.err⟩
    else if Yv ⟨T0.val,T1.val,T2.val⟩ then ⟨⟨T0.val,T1.val,T2.val⟩,T2.next,0⟩ else ⟨Kerb.noPrin,0,103⟩:=by
   rw [hT2,hT1,hT0];rfl
  have k0:=Kerb.text_len b pos
  rw [← hT0] at k0
  have k1:=Kerb.text_len b T0.next
  rw [← hT1] at k1
  have k2:=Kerb.text_len b T1.next
  rw [← hT2] at k2
  refine loop_rounds (fun i:Nat=>match i with
    | 0=>[Zp b,Zz Zj pos,Zx [],Zx [],Zx [],Zz Zj 0,Zz Zj 0,Zx [],Zx [],Zx [],Zz Zj 3,Zz Zj 0]
    | 1=>[Zp b,Zz Zj T0.next,Zx [],Zx [],Zx [],Zz Zj 0,Zz Zj 0,Zx T0.val,Zx [],Zx [],Zz Zj 3,Zz Zj 1]
    | 2=>[Zp b,Zz Zj T1.next,Zx [],Zx [],Zx [],Zz Zj 0,Zz Zj 0,Zx T0.val,Zx T1.val,Zx [],Zz Zj 3,Zz Zj 2]
    | _=>[Zp b,Zz Zj T2.next,Zx [],Zx [],Zx [],Zz Zj 0,Zz Zj 0,Zx T0.val,Zx T1.val,Zx T2.val,Zz Zj 3,Zz Zj 3])
   (fun i=>i≤3∧(1≤i→T0.err=0)∧(2≤i→T1.err=0)∧(3≤i→T2.err=0)) (fun i=>3-i)
   (fun r=>(T0.err=0∧T1.err=0∧T2.err=0∧r=(Ex.exit 0,[Zp b,Zz Zj T2.next,Zx [],Zx [],Zx [],Zz Zj 0,Zz Zj 0,Zx T0.val,Zx T1.val,Zx T2.val,Zz Zj 3,Zz Zj 3])) ∨
    ∃ n x y z i,Xy b pos=⟨Kerb.noPrin,0,(Xy b pos).err⟩∧r=(Ex.ret,[Zp b,Zz Zj n,Zx [],Zx [],Zx [],Zz Zj 0,Zz Zj (Xy b pos).err,Zx x,Zx y,Zx z,Zz Zj 3,Zz Zj i])) 0 ⟨by omega,by omega,by omega,by omega⟩ rfl ?_ ?_
  ·rintro i ⟨hi,g0,g1,g2⟩
   have hc:i=0∨i=1∨i=2∨i=3:=by omega
   rcases hc with rfl | rfl | rfl | rfl
   ·simp only [A0]
    rw [sel_pos (by decide),chk_of (by decide),sel_pos (by decide),chk_of hpre,← hT0]
    by_cases h:T0.err=0
    ·rw [sel_neg (by simp [h])]
     exact ⟨_,rfl,1,rfl,⟨by omega,fun _=>h,by omega,by omega⟩,by dsimp only;omega⟩
    ·rw [sel_pos (by simpa using h)]
     exact ⟨_,rfl,.inr ⟨_,_,_,_,_,by rw [hp,if_pos h],by rw [hp,if_pos h]⟩⟩
   ·simp only [A0]
    have e0:=g0 (by omega)
    rw [sel_pos (by decide),chk_of (by decide),sel_neg (by decide),sel_pos (by decide),chk_of hpre,← hT1]
    by_cases h:T1.err=0
    ·rw [sel_neg (by simp [h])]
     exact ⟨_,rfl,2,rfl,⟨by omega,fun _=>e0,fun _=>h,by omega⟩,by dsimp only;omega⟩
    ·rw [sel_pos (by simpa using h)]
     exact ⟨_,rfl,.inr ⟨_,_,_,_,_,by rw [hp,if_neg (by simp [e0]),if_pos h],by rw [hp,if_neg (by simp [e0]),if_pos h]⟩⟩
   ·simp only [A0]
    have e0:=g0 (by omega)
    have e1:=g1 (by omega)
    rw [sel_pos (by decide),chk_of (by decide),sel_neg (by decide),sel_neg (by decide),sel_pos (by decide),chk_of hpre,← hT2]
    by_cases h:T2.err=0
    ·rw [sel_neg (by simp [h])]
     exact ⟨_,rfl,3,rfl,⟨by omega,fun _=>e0,fun _=>e1,fun _=>h⟩,by dsimp only;omega⟩
    ·rw [sel_pos (by simpa using h)]
     exact ⟨_,rfl,.inr ⟨_,_,_,_,_,by rw [hp,if_neg (by simp [e0]),if_neg (by simp [e1]),if_pos h],by rw [hp,if_neg (by simp [e0]),if_neg (by simp [e1]),if_pos h]⟩⟩
   ·simp only [A0]
    rw [sel_neg (by decide)]
    exact ⟨_,rfl,.inl ⟨g0 (by omega),g1 (by omega),g2 (by omega),rfl⟩⟩
  ·rintro r (⟨e0,e1,e2,rfl⟩ | ⟨n,x,y,z,i,h,rfl⟩)
   ·simp only [A0]
    rw [sel_pos (Nat.beq_refl _),chk_of (by simp;omega),hp,if_neg (by simp [e0]),if_neg (by simp [e1]),if_neg (by simp [e2])]
    cases hv:Yv ⟨T0.val,T1.val,T2.val⟩
    ·rfl
    ·rfl
   ·simp only [A0]
    rw [h]
    rfl
 ·cases h
theorem w60:Walked Tryz.prog G 60 8 sp60:=by
 refine ⟨Tryz.f60,Tryz.func60,by decide +kernel,rfl,fun xs bl r h=> ?_⟩
 unfold sp60 at h
 split at h
 ·rename_i li x y z t lf sv ins
  obtain ⟨hpre,h2⟩:=chk_inv h;cases h2
  refine Eq.trans (b:=(let t0:Option (AV×Blocks):=some (Zg [Zp [],Zz .i64 103],[]);let t1:Nat:=Zy (Vm 1 li)+Zy x+Zy y+Zy z;Zw (chk (l63 x&&l63 y&&l63 z) (some (Zf (Yv (Zk x y z)),[]))) (kL fun b=>sel (!b) t0 (Zw (chk (l63 sv) (some (Zf (Wg sv),[]))) (kL fun b=>sel (!b) t0 (Zw (chk (l63 ins) (some (Zf (Wb ins),[]))) (kL fun b=>sel (!b) t0 (sel (!Zn t 4294967295) (some (Zg [Zp [],Zz .i64 104],[])) (sel (!Zn lf 255) (some (Zg [Zp [],Zz .i64 104],[])) (Zw (chk (decide (t1≤70368744170000)) (some (Zp (Wn (Vm 1 li) (Zk x y z)),[]))) (kB fun b=>Zw (chk (decide (Zy b≤70368744177664)) (some (Yp (b++Yz t 4 li),[]))) (kO fun l=>Zw (chk (decide (Zy l≤70368744177664)) (some (Yp (l++Yz lf 1 false),[]))) (kO fun l=>Zw (chk (decide (Zy l+Zy sv≤70368744177664)) (some (Zp (Yb l sv),[]))) (kB fun b=>Zw (chk (decide (Zy b+Zy ins≤70368744177664)) (some (Zp (Yb b ins),[]))) (kB fun b=>some (Zg [Zp b,Zz .i64 0],[])))))))))))))):Option (AV×Blocks))) (by kernel_rfl) ?_
  delta kB kO kL
  try dsimp only [cStr,cBs,cBool,cU8,cInt,cSl,l63]
  simp only [Yw,decide_eq_true_eq] at hpre
  obtain ⟨⟨⟨⟨q1,q2⟩,q3⟩,q4⟩,q5⟩:=hpre
  simp only [A0]
  unfold Vd
  rw [chk_of (by simp [q1,q2,q3])]
  cases h1:Yv ⟨x,y,z⟩
  ·rfl
  rw [Zb,sel_false,chk_of (by simp [q4])]
  cases h2:Wg sv
  ·rfl
  rw [Zb,sel_false,chk_of (by simp [q5])]
  cases h3:Wb ins
  ·rfl
  rw [Zb,sel_false]
  cases h4:Zn t 4294967295
  ·rfl
  rw [Zb,sel_false]
  cases h5:Zn lf 255
  ·rfl
  rw [Zb,sel_false]
  have l1:=Vk h1
  have l2:=Kerb.validName_len h2
  have l3:=Kerb.validInst_len h3
  have l4:=Kerb.header_len 1 li
  simp only at l1
  rw [chk_of (by simp;omega),chk_of (by simp [Zv];omega),chk_of (by simp [Zv,Zq];omega),chk_of (by simp [Zv,Zq];omega),chk_of (by simp [Kerb.putText_len,Zv,Zq];omega)]
  rfl
 ·cases h
theorem w64:Walked Tryz.prog G 64 8 sp64:=by
 refine ⟨Tryz.f64,Tryz.func64,by decide +kernel,rfl,fun xs bl r h=> ?_⟩
 unfold sp64 at h
 split at h
 ·rename_i li x y z t cd tx
  obtain ⟨hpre,h2⟩:=chk_inv h;cases h2
  refine Eq.trans (b:=(let t0:Option (AV×Blocks):=some (Zg [Zp [],Zz .i64 104],[]);let t1:Nat:=Zy (Vm 5 li)+Zy x+Zy y+Zy z;Zw (chk (l63 x&&l63 y&&l63 z) (some (Zf (Yv (Zk x y z)),[]))) (kL fun b=>sel (!b) (some (Zg [Zp [],Zz .i64 103],[])) (sel (!Zn t 4294967295) t0 (sel (decide (cd<1)) t0 (sel (decide (cd>99)) t0 (sel (decide ((↑(Zy tx):Int)>39)) (some (Zg [Zp [],Zz .i64 105],[])) (sel (decide (Kerb.indexOf (0:UInt8) tx≥0)) (some (Zg [Zp [],Zz .i64 100],[])) (Zw (chk (decide (t1≤70368744170000)) (some (Zp (Wn (Vm 5 li) (Zk x y z)),[]))) (kB fun b=>Zw (chk (decide (Zy b≤70368744177664)) (some (Yp (b++Yz t 4 li),[]))) (kO fun l=>Zw (chk (decide (Zy l≤70368744177664)) (some (Yp (l++Yz cd 4 li),[]))) (kO fun l=>Zw (chk (decide (Zy l+Zy tx≤70368744177664)) (some (Zp (Yb l tx),[]))) (kB fun b=>some (Zg [Zp b,Zz .i64 0],[])))))))))))):Option (AV×Blocks))) (by kernel_rfl) ?_
  delta kB kO kL
  try dsimp only [cStr,cBs,cBool,cU8,cInt,cSl,l63]
  simp only [Yw,decide_eq_true_eq] at hpre
  obtain ⟨⟨⟨q1,q2⟩,q3⟩,q4⟩:=hpre
  simp only [A0]
  unfold Kerb.encodeError
  rw [chk_of (by simp [q1,q2,q3])]
  cases h1:Yv ⟨x,y,z⟩
  ·rfl
  rw [Zb,sel_false]
  cases h4:Zn t 4294967295
  ·rfl
  rw [Zb,sel_false]
  by_cases h5:1≤cd
  case neg =>
   rw [sel_pos (by simp;omega),if_neg (by simp),if_pos (by simp;omega)]
  by_cases h6:cd≤99
  case neg =>
   rw [sel_neg (by simp;omega),sel_pos (by simp;omega),if_neg (by simp),if_pos (by simp;omega)]
  rw [sel_neg (by simp;omega),sel_neg (by simp;omega),if_neg (by simp),if_neg (by simp;omega)]
  by_cases h7:39<tx.length
  ·rw [sel_pos (by simp;omega),if_pos h7]
  have l1:=Vk h1
  have l4:=Kerb.header_len 5 li
  simp only at l1
  rw [sel_neg (by simp;omega),if_neg h7]
  have hix:=Kerb.indexOf_nonneg 0 tx
  by_cases h8:(0:UInt8)∈tx
  ·rw [sel_pos (by simpa using hix.2 h8),if_pos h8]
  ·rw [sel_neg (by have:=mt hix.1 h8;simp;omega),if_neg h8]
   rw [chk_of (by simp;omega),chk_of (by simp [Zv];omega),chk_of (by simp [Zv,Zq];omega),chk_of (by simp [Zv,Zq];omega)]
 ·cases h
theorem w73:Walked Tryz.prog G 73 8 sp73:=by
 refine ⟨Tryz.f73,Tryz.func73,by decide +kernel,rfl,fun xs bl r h=> ?_⟩
 unfold sp73 at h
 split at h
 ·rename_i k x y z lf kv tk t little
  obtain ⟨hpre,h2⟩:=chk_inv h;cases h2
  refine Eq.trans (b:=(let t0:Option (AV×Blocks):=some (Zg [Zp [],Zz .i64 104],[]);let t1:List UInt8:=[]++Yz 0 1 false;let t2:List UInt8:=[]++Yz 1 1 false;let t3:Option (AV×Blocks):=chk (decide (0≤k)&&decide (k<18446744073709551616)) (some (Zp (Kerb.keyBytes k),[]));Zw (chk (decide (0≤k)&&decide (k<18446744073709551616)) (some (Zf (Kerb.keyValid k),[]))) (kL fun b=>sel (!b) (some (Zg [Zp [],Zz .i64 10],[])) (Zw (chk (l63 x&&l63 y&&l63 z) (some (Zf (Yv (Zk x y z)),[]))) (kL fun b=>sel (!b) (some (Zg [Zp [],Zz .i64 103],[])) (sel (!Zn lf 255) t0 (sel (!Zn kv 255) t0 (sel (!Zn t 4294967295) t0 (sel (decide ((↑(Zy tk):Int)>255)) (some (Zg [Zp [],Zz .i64 105],[])) (sel little (Zw t3 (kB fun b=>Zw (chk (decide (Zy (Zm t2 (Zm b []))≤140737488355328)&&decide (Zy [Zp t2,Zp b]≤1000)) (some (Yp (Zm t2 (Zm b [])),[]))) (kO fun l=>Zw (chk (decide (Zy l+Zy x+Zy y+Zy z≤70368744170000)) (some (Zp (Wn l (Zk x y z)),[]))) (kB fun b=>Zw (chk (decide (Zy b≤70368744177664)) (some (Yp (b++Yz lf 1 false),[]))) (kO fun l=>Zw (chk (decide (Zy l≤70368744177664)) (some (Yp (l++Yz kv 1 false),[]))) (kO fun l=>Zw (chk (decide (Zy l≤70368744177664)) (some (Yp (l++Yz (↑(Zy tk):Int) 1 false),[]))) (kO fun l=>Zw (chk (decide (Zy (Zm l (Zm tk []))≤140737488355328)&&decide (Zy [Zp l,Zp tk]≤1000)) (some (Yp (Zm l (Zm tk [])),[]))) (kO fun l=>Zw (chk (decide (Zy l≤70368744177664)) (some (Yp (l++Yz t 4 little),[]))) (kO fun l=>Zw (chk (decide (Zy l≤70368744177664)) (some (Zp (Kerb.pad l),[]))) (kB fun b=>some (Zg [Zp b,Zz .i64 0],[]))))))))))) (Zw t3 (kB fun b=>Zw (chk (decide (Zy (Zm t1 (Zm b []))≤140737488355328)&&decide (Zy [Zp t1,Zp b]≤1000)) (some (Yp (Zm t1 (Zm b [])),[]))) (kO fun l=>Zw (chk (decide (Zy l+Zy x+Zy y+Zy z≤70368744170000)) (some (Zp (Wn l (Zk x y z)),[]))) (kB fun b=>Zw (chk (decide (Zy b≤70368744177664)) (some (Yp (b++Yz lf 1 false),[]))) (kO fun l=>Zw (chk (decide (Zy l≤70368744177664)) (some (Yp (l++Yz kv 1 false),[]))) (kO fun l=>Zw (chk (decide (Zy l≤70368744177664)) (some (Yp (l++Yz (↑(Zy tk):Int) 1 false),[]))) (kO fun l=>Zw (chk (decide (Zy (Zm l (Zm tk []))≤140737488355328)&&decide (Zy [Zp l,Zp tk]≤1000)) (some (Yp (Zm l (Zm tk [])),[]))) (kO fun l=>Zw (chk (decide (Zy l≤70368744177664)) (some (Yp (l++Yz t 4 little),[]))) (kO fun l=>Zw (chk (decide (Zy l≤70368744177664)) (some (Zp (Kerb.pad l),[]))) (kB fun b=>some (Zg [Zp b,Zz .i64 0],[]))))))))))))))))))):Option (AV×Blocks))) (by kernel_rfl) ?_
  delta kB kO kL
  try dsimp only [cStr,cBs,cBool,cU8,cInt,cSl,l63]
  simp only [Yw,decide_eq_true_eq] at hpre
  obtain ⟨⟨⟨⟨q1,q2⟩,q3⟩,h0⟩,h1⟩:=hpre
  simp only [A0]
  unfold Xb
  rw [chk_of (by simp [h0,h1])]
  cases hk:Kerb.keyValid k
  ·rfl
  rw [Zb,sel_false,chk_of (by simp [q1,q2,q3])]
  cases h1:Yv ⟨x,y,z⟩
  ·rfl
  rw [Zb,sel_false]
  cases h4:Zn lf 255
  ·rfl
  rw [Zb,sel_false]
  cases h5:Zn kv 255
  ·rfl
  rw [Zb,sel_false]
  cases h6:Zn t 4294967295
  ·rfl
  rw [Zb,sel_false]
  by_cases h7:255<tk.length
  ·rw [sel_pos (by simp;omega),if_neg (by simp),if_neg (by simp),if_neg (by simp),if_pos h7]
  have l1:=Vk h1
  simp only at l1
  rw [sel_neg (by simp;omega),if_neg (by simp),if_neg (by simp),if_neg (by simp),if_neg h7]
  cases little
  ·rw [sel_false,chk_of (by simp;omega),chk_of (by first | (simp [Zv,Zq,Zu];done) | (simp [Zv,Zq,Zu];omega)),chk_of (by first | (simp [Zv,Zq,Zu];done) | (simp [Zv,Zq,Zu];omega)),chk_of (by first | (simp [Zv,Zq,Zu];done) | (simp [Zv,Zq,Zu];omega)),chk_of (by first | (simp [Zv,Zq,Zu];done) | (simp [Zv,Zq,Zu];omega)),chk_of (by first | (simp [Zv,Zq,Zu];done) | (simp [Zv,Zq,Zu];omega)),chk_of (by first | (simp [Zv,Zq,Zu];done) | (simp [Zv,Zq,Zu];omega)),chk_of (by first | (simp [Zv,Zq,Zu];done) | (simp [Zv,Zq,Zu];omega)),chk_of (by first | (simp [Zv,Zq,Zu];done) | (simp [Zv,Zq,Zu];omega))]
   simp
  ·rw [sel_true,chk_of (by simp;omega),chk_of (by first | (simp [Zv,Zq,Zu];done) | (simp [Zv,Zq,Zu];omega)),chk_of (by first | (simp [Zv,Zq,Zu];done) | (simp [Zv,Zq,Zu];omega)),chk_of (by first | (simp [Zv,Zq,Zu];done) | (simp [Zv,Zq,Zu];omega)),chk_of (by first | (simp [Zv,Zq,Zu];done) | (simp [Zv,Zq,Zu];omega)),chk_of (by first | (simp [Zv,Zq,Zu];done) | (simp [Zv,Zq,Zu];omega)),chk_of (by first | (simp [Zv,Zq,Zu];done) | (simp [Zv,Zq,Zu];omega)),chk_of (by first | (simp [Zv,Zq,Zu];done) | (simp [Zv,Zq,Zu];omega)),chk_of (by first | (simp [Zv,Zq,Zu];done) | (simp [Zv,Zq,Zu];omega))]
   simp
 ·cases h
theorem w77:Walked Tryz.prog G 77 8 sp77:=by
 refine ⟨Tryz.f77,Tryz.func77,by decide +kernel,rfl,fun xs bl r h=> ?_⟩
 unfold sp77 at h
 split at h
 ·rename_i li x y z t ex kv sd
  obtain ⟨hpre,h2⟩:=chk_inv h;cases h2
  refine Eq.trans (b:=(let t0:Option (AV×Blocks):=some (Zg [Zp [],Zz .i64 104],[]);let t1:Nat:=Zy (Vm 2 li)+Zy x+Zy y+Zy z;Zw (chk (l63 x&&l63 y&&l63 z) (some (Zf (Yv (Zk x y z)),[]))) (kL fun b=>sel (!b) (some (Zg [Zp [],Zz .i64 103],[])) (sel (!Zn t 4294967295) t0 (sel (!Zn ex 4294967295) t0 (sel (!Zn kv 255) t0 (sel (decide ((↑(Zy sd):Int)>1012)) (some (Zg [Zp [],Zz .i64 105],[])) (Zw (chk (decide (t1≤70368744170000)) (some (Zp (Wn (Vm 2 li) (Zk x y z)),[]))) (kB fun b=>Zw (chk (decide (Zy b≤70368744177664)) (some (Yp (b++Yz t 4 li),[]))) (kO fun l=>Zw (chk (decide (Zy l≤70368744177664)) (some (Yp (l++Yz 1 1 false),[]))) (kO fun l=>Zw (chk (decide (Zy l≤70368744177664)) (some (Yp (l++Yz ex 4 li),[]))) (kO fun l=>Zw (chk (decide (Zy l≤70368744177664)) (some (Yp (l++Yz kv 1 false),[]))) (kO fun l=>Zw (chk (decide (Zy l≤70368744177664)) (some (Yp (l++Yz (↑(Zy sd):Int) 2 li),[]))) (kO fun l=>Zw (chk (decide (Zy (Zm l (Zm sd []))≤140737488355328)&&decide (Zy [Zp l,Zp sd]≤1000)) (some (Yp (Zm l (Zm sd [])),[]))) (kO fun l=>some (Zg [Zp l,Zz .i64 0],[])))))))))))))):Option (AV×Blocks))) (by kernel_rfl) ?_
  delta kB kO kL
  try dsimp only [cStr,cBs,cBool,cU8,cInt,cSl,l63]
  simp only [Yw,decide_eq_true_eq] at hpre
  obtain ⟨⟨q1,q2⟩,q3⟩:=hpre
  simp only [A0]
  unfold Kerb.encodeReply
  rw [chk_of (by simp [q1,q2,q3])]
  cases h1:Yv ⟨x,y,z⟩
  ·rfl
  rw [Zb,sel_false]
  cases h4:Zn t 4294967295
  ·rfl
  rw [Zb,sel_false]
  cases h5:Zn ex 4294967295
  ·rfl
  rw [Zb,sel_false]
  cases h6:Zn kv 255
  ·rfl
  rw [Zb,sel_false]
  by_cases h7:1012<sd.length
  ·rw [sel_pos (by simp;omega),if_neg (by simp),if_neg (by simp),if_pos h7]
  have l1:=Vk h1
  have l4:=Kerb.header_len 2 li
  simp only at l1
  rw [sel_neg (by simp;omega),if_neg (by simp),if_neg (by simp),if_neg h7]
  rw [chk_of (by simp;omega),chk_of (by simp [Zv];omega),chk_of (by simp [Zv,Zq];omega),chk_of (by simp [Zv,Zq];omega),chk_of (by simp [Zv,Zq];omega),chk_of (by simp [Zv,Zq];omega),chk_of (by simp [Zv,Zq];omega)]
  simp
 ·cases h
theorem w132:Walked Tryz.prog G 132 8 sp132:=by
 refine ⟨Tryz.f132,Tryz.func132,by decide +kernel,rfl,fun xs bl r h=> ?_⟩
 unfold sp132 at h
 split at h
 ·rename_i li x y z ad k lf iss sv ins
  obtain ⟨hpre,h2⟩:=chk_inv h;cases h2
  refine Eq.trans (b:=(Zw (chk (decide (Zy x≤9223372036854775807)&&decide (Zy y≤9223372036854775807)&&decide (Zy z≤9223372036854775807)) (some (Zf (Yv (Zk x y z)),[]))) fun (r:AV×Blocks)=>onNilB (Yh r) (AV.onBool (Xz r) fun b=>sel (!b) (some (Zz .i64 103,[])) (Zw (chk (decide (Zy sv≤9223372036854775807)) (some (Zf (Wg sv),[]))) fun (r:AV×Blocks)=>onNilB (Yh r) (AV.onBool (Xz r) fun b=>sel (!b) (some (Zz .i64 103,[])) (Zw (chk (decide (Zy ins≤9223372036854775807)) (some (Zf (Wb ins),[]))) fun (r:AV×Blocks)=>onNilB (Yh r) (AV.onBool (Xz r) fun b=>sel (!b) (some (Zz .i64 103,[])) (Zw (chk (decide (0≤k)&&decide (k<18446744073709551616)) (some (Zz .i64 (Kerb.classOf k),[]))) fun (r:AV×Blocks)=>onNilB (Yh r) (Vn .i64 (Xz r) fun n=>sel (!n==2) (some (Zz .i64 10,[])) (sel (!Zn ad 4294967295) (some (Zz .i64 104,[])) (sel (!Zn lf 255) (some (Zz .i64 104,[])) (sel (!Zn iss 4294967295) (some (Zz .i64 104,[])) (some (Zz .i64 0,[])))))))))))):Option (AV×Blocks))) (by kernel_rfl) ?_
  simp only [Yw,decide_eq_true_eq] at hpre
  obtain ⟨⟨⟨⟨⟨⟨h1,h2⟩,h3⟩,h4⟩,h5⟩,h6⟩,h7⟩:=hpre
  simp only [h1,h2,h3,h4,h5,h6,h7,decide_true,Yg,↓A0,A0]
  unfold Kerb.Ticket.err
  dsimp only
  cases Yv ⟨x,y,z⟩
  ·rfl
  cases Wg sv
  ·rfl
  cases Wb ins
  ·rfl
  simp only [Zb,Yg,sel_false]
  by_cases hc:Kerb.classOf k=2
  case neg=>rw [sel_pos (by simpa using hc),if_neg (by simp),if_pos hc]
  rw [sel_neg (by simp [hc]),if_neg (by simp),if_neg (by simp [hc])]
  cases Zn ad 4294967295
  ·rfl
  cases Zn lf 255
  ·rfl
  cases Zn iss 4294967295
  ·rfl
  rfl
 ·cases h
theorem w20:Walked Tryz.prog G 20 9 sp20:=by
 refine ⟨Tryz.f20,Tryz.func20,by decide +kernel,rfl,fun xs bl r h=> ?_⟩
 unfold sp20 at h
 split at h
 ·rename_i b
  obtain ⟨hpre,h2⟩:=chk_inv h;cases h2
  refine Eq.trans (b:=(let t1:AV:=Xm [Zf false,Zx [],Zx [],Zx [],Zz .i64 0,Zz .i64 0,Zx [],Zx []];let t0:Option (AV×Blocks):=some (Zg [t1,Zz .i64 100],[]);sel (!Yh (Xj b [1])==0) (some (Zg [t1,Zz .i64 (Yh (Xj b [1]))],[])) (Zw (chk (decide (Zy b≤4611686018427387904)) (some (Zg [Xm [Zx (Yu (Kerb.GotP.val (Xy b 2))),Zx (Yq (Kerb.GotP.val (Xy b 2))),Zx (Yx (Kerb.GotP.val (Xy b 2)))],Zz .i64 (Kerb.GotP.next (Xy b 2)),Zz .i64 (Kerb.GotP.err (Xy b 2))],[]))) (kT fun vs=>onCons vs fun x r=>Xp x fun cs=>cStr cs fun b_1 r_1=>cStr r_1 fun b_2 r_2=>cStr r_2 fun b_3 r_3=>onNil r_3 (cInt .i64 r fun n r=>let t2:Kerb.Got:=Wx b n 4 (Xz (Xj b [1]));cInt .i64 r fun n r=>onNil r (Zw (chk (decide (Zy b≤4611686018427387904)) (some (Zg [Zz .i64 (Kerb.Got.val t2),Zz .i64 (Kerb.Got.next t2),Zz .i64 (Kerb.Got.err t2)],[]))) (kT fun vs=>cInt .i64 vs fun n r=>cInt .i64 r fun n_1 r=>cInt .i64 r fun n_2 r=>onNil r (Zw (chk (decide (Zy b≤4611686018427387904)) (some (Zg [Zz .i64 (Kerb.Got.val (Wx b n_1 1 false)),Zz .i64 (Kerb.Got.next (Wx b n_1 1 false)),Zz .i64 (Kerb.Got.err (Wx b n_1 1 false))],[]))) (kT fun vs=>cInt .i64 vs fun n_3 r=>cInt .i64 r fun n_4 r=>cInt .i64 r fun n_5 r=>onNil r (Zw (chk (decide (Zy b≤4611686018427387904)) (some (Zg [Zx (Kerb.GotB.val (Xv b n_4)),Zz .i64 (Kerb.GotB.next (Xv b n_4)),Zz .i64 (Kerb.GotB.err (Xv b n_4))],[]))) (kT fun vs=>cStr vs fun b_4 r=>cInt .i64 r fun n_6 r=>cInt .i64 r fun n_7 r=>onNil r (Zw (chk (decide (Zy b≤4611686018427387904)) (some (Zg [Zx (Kerb.GotB.val (Xv b n_6)),Zz .i64 (Kerb.GotB.next (Xv b n_6)),Zz .i64 (Kerb.GotB.err (Xv b n_6))],[]))) (kT fun vs=>cStr vs fun b_5 r=>let t3:Kerb.Enc:=Vd (Kerb.KdcRequest.mk (Xz (Xj b [1])) (Zk b_1 b_2 b_3) n n_3 b_4 b_5);cInt .i64 r fun n_8 r=>cInt .i64 r fun n_9 r=>onNil r (Zw (chk (l63 b_1&&l63 b_2&&l63 b_3&&l63 b_4&&l63 b_5) (some (Zg [Zp (Xf t3),Zz .i64 (Xg t3)],[]))) (kT fun vs=>cBs vs fun b_6 r=>cInt .i64 r fun n_10 r=>onNil r (sel (!n_10==0) t0 (sel (!b_6==b) t0 (some (Zg [Xm [Zf (Xz (Xj b [1])),Zx b_1,Zx b_2,Zx b_3,Zz .i64 n,Zz .i64 n_3,Zx b_4,Zx b_5],Zz .i64 0],[]))))))))))))))))):Option (AV×Blocks))) (by kernel_rfl) ?_
  delta kT
  try dsimp only [cStr,cBs,cBool,cU8,cInt,cSl,l63]
  have hb:=of_decide_eq_true hpre
  simp only [A0]
  unfold Zd
  by_cases h:(Xj b [1]).2=0
  ·have l1:=Kerb.prin_len b 2
   have hx:∀ q,(Xv b q).val.length≤40:=Kerb.text_len b
   rw [sel_neg (by simp [h]),chk_of hpre,chk_of hpre,chk_of hpre,chk_of hpre,chk_of hpre,chk_of (by simp;have:=hx (Wx b (Wx b (Xy b 2).next 4 (Xj b [1]).1).next 1 false).next;have:=hx (Xv b (Wx b (Wx b (Xy b 2).next 4 (Xj b [1]).1).next 1 false).next).next;omega),if_neg (by simpa using h)]
   have e:Kerb.KdcRequest.mk (Xj b [1]).1 (Zk (Xy b 2).val.name (Xy b 2).val.inst (Xy b 2).val.realm) (Wx b (Xy b 2).next 4 (Xj b [1]).1).val (Wx b (Wx b (Xy b 2).next 4 (Xj b [1]).1).next 1 false).val (Xv b (Wx b (Wx b (Xy b 2).next 4 (Xj b [1]).1).next 1 false).next).val (Xv b (Xv b (Wx b (Wx b (Xy b 2).next 4 (Xj b [1]).1).next 1 false).next).next).val=Kerb.readRequest b:=rfl
   rw [e]
   by_cases h1:(Vd (Kerb.readRequest b)).err=0
   ·rw [sel_neg (by simp [h1])]
    by_cases h2:(Vd (Kerb.readRequest b)).val=b
    ·rw [sel_neg (by simp [h2]),if_neg (by simp [h1,h2])]
     rfl
    ·rw [sel_pos (by simpa using h2),if_pos (.inr h2)]
     rfl
   ·rw [sel_pos (by simpa using h1),if_pos (.inl h1)]
    rfl
  ·rw [sel_pos (by simpa using h),if_pos h]
   rfl
 ·cases h
theorem w23:Walked Tryz.prog G 23 9 sp23:=by
 refine ⟨Tryz.f23,Tryz.func23,by decide +kernel,rfl,fun xs bl r h=> ?_⟩
 unfold sp23 at h
 split at h
 ·rename_i x y z cd now li
  obtain ⟨hpre,h2⟩:=chk_inv h;cases h2
  refine Eq.trans (b:=(Zw (chk (decide (Zy x≤9223372036854775807)&&decide (Zy y≤9223372036854775807)&&decide (Zy z≤9223372036854775807)&&decide (Zy (Kerb.message cd)≤9223372036854775807)) (some (Zg [Zp (Xf (Kerb.encodeError (Kerb.ErrorReply.mk li (Zk x y z) now cd (Kerb.message cd)))),Zz .i64 (Xg (Kerb.encodeError (Kerb.ErrorReply.mk li (Zk x y z) now cd (Kerb.message cd))))],[]))) fun (r:AV×Blocks)=>onNilB (Yh r) (AV.onTup (Xz r) fun vs=>onCons vs fun x r=>AV.onBs x fun b=>onCons r fun x r=>Vn .i64 x fun n=>onNil r (sel (!n==0) (some (Zp [],[])) (some (Zp b,[])))):Option (AV×Blocks))) (by kernel_rfl) ?_
  simp only [Yw,decide_eq_true_eq] at hpre
  obtain ⟨⟨l1,l2⟩,l3⟩:=hpre
  have hm:(Kerb.message cd).length≤9223372036854775807:=by have:=Kerb.message_len cd;omega
  simp only [l1,l2,l3,hm,decide_true,Yg,↓A0,A0]
  unfold Vv
  by_cases h:(Kerb.encodeError ⟨li,⟨x,y,z⟩,now,cd,Kerb.message cd⟩).err=0
  ·rw [sel_neg (by simpa using h)]
  ·rw [sel_pos (by simpa using h),Kerb.encError_no h]
 ·cases h
theorem w29:Walked Tryz.prog G 29 9 sp29:=by
 refine ⟨Tryz.f29,Tryz.func29,by decide +kernel,rfl,fun xs bl r h=> ?_⟩
 unfold sp29 at h
 split at h
 ·rename_i rl_ x y z rt_ rx rkv rsd pk p1 p2 p3 pl pv pt pm k
  obtain ⟨hpre,h2⟩:=chk_inv h;cases h2
  refine Eq.trans (b:=(Zw (chk (l63 p1&&l63 p2&&l63 p3&&decide (0≤pk)&&decide (pk<18446744073709551616)) (some (Zg [Zp (Xf (Xb (Xx pk (Zk p1 p2 p3) pl pv pt pm) rl_)),Zz .i64 (Xg (Xb (Xx pk (Zk p1 p2 p3) pl pv pt pm) rl_))],[]))) (kT fun vs=>onCons vs fun x_1 r=>AV.onBs x_1 fun b=>onCons r fun x_2 r=>Vn .i64 x_2 fun n=>onNil r (sel (!n==0) (some (Zg [Zp [],Zz .i64 n],[])) (Zw (chk (decide (0≤k)&&decide (k<18446744073709551616)) (some (Zg [Zp (Xf (Kerb.makeBox 3 k b)),Zz .i64 (Xg (Kerb.makeBox 3 k b))],[]))) (kT fun vs=>onCons vs fun x_3 r=>AV.onBs x_3 fun b=>onCons r fun x_4 r=>Vn .i64 x_4 fun n=>onNil r (sel (!n==0) (some (Zg [Zp [],Zz .i64 n],[])) (Zw (chk (l63 x&&l63 y&&l63 z) (some (Zg [Zp (Xf (Kerb.encodeReply (Kerb.KdcReply.mk rl_ (Zk x y z) rt_ rx rkv b))),Zz .i64 (Xg (Kerb.encodeReply (Kerb.KdcReply.mk rl_ (Zk x y z) rt_ rx rkv b)))],[]))) (kT fun vs=>cBs vs fun b r=>cInt .i64 r fun n r=>onNil r (some (Zg [Zp b,Zz .i64 n],[]))))))))):Option (AV×Blocks))) (by kernel_rfl) ?_
  delta kT
  try dsimp only [cStr,cBs,cBool,cU8,cInt,cSl,l63]
  simp only [Yw,decide_eq_true_eq] at hpre
  obtain ⟨⟨⟨⟨⟨⟨⟨l1,l2⟩,l3⟩,l4⟩,l5⟩,l6⟩,k1⟩,k2⟩:=hpre
  have k1:=Kerb.isU64_iff.1 k1
  have k2:=Kerb.isU64_iff.1 k2
  simp only [l1,l2,l3,l4,l5,l6,k1,k2,decide_true,Yg,↓A0,A0]
  unfold Kerb.sealReply
  by_cases h1:(Xb (Xx pk ⟨p1,p2,p3⟩ pl pv pt pm) rl_).err=0
  case neg=>rw [sel_pos (by simpa using h1),if_pos h1]
  rw [sel_neg (by simpa using h1),if_neg (by simpa using h1)]
  by_cases h2:(Kerb.makeBox 3 k (Xb (Xx pk ⟨p1,p2,p3⟩ pl pv pt pm) rl_).val).err=0
  case neg=>rw [sel_pos (by simpa using h2),if_pos h2]
  rw [sel_neg (by simpa using h2),if_neg (by simpa using h2)]
 ·cases h
theorem w117:Walked Tryz.prog G 117 9 sp117:=by
 refine ⟨Tryz.f117,Tryz.func117,by decide +kernel,rfl,fun xs bl r h=> ?_⟩
 unfold sp117 at h
 split at h
 ·rename_i li x y z ad k lf iss sv ins
  obtain ⟨hpre,h2⟩:=chk_inv h;cases h2
  refine Eq.trans (b:=(let t0:Nat:=Zy ([]++Yz 1 1 false)+Zy x+Zy y+Zy z;let t1:Nat:=Zy ([]++Yz 0 1 false)+Zy x+Zy y+Zy z;let t2:Option (AV×Blocks):=chk (decide (0≤k)&&decide (k<18446744073709551616)) (some (Zp (Kerb.keyBytes k),[]));Zw (chk (l63 x&&l63 y&&l63 z&&l63 sv&&l63 ins&&decide (0≤k)&&decide (k<18446744073709551616)) (some (Zz .i64 (Kerb.Ticket.err (Vx li (Zk x y z) ad k lf iss sv ins)),[]))) (kI .i64 fun n=>sel (!n==0) (some (Zg [Zp [],Zz .i64 n],[])) (sel li (Zw (chk (decide (t0≤70368744170000)) (some (Zp (Wn ([]++Yz 1 1 false) (Zk x y z)),[]))) (kB fun b=>Zw (chk (decide (Zy b≤70368744177664)) (some (Yp (b++Yz ad 4 li),[]))) (kO fun l=>Zw t2 (kB fun b=>Zw (chk (decide (Zy (Zm l (Zm b []))≤140737488355328)&&decide (Zy [Zp l,Zp b]≤1000)) (some (Yp (Zm l (Zm b [])),[]))) (kO fun l=>Zw (chk (decide (Zy l≤70368744177664)) (some (Yp (l++Yz lf 1 false),[]))) (kO fun l=>Zw (chk (decide (Zy l≤70368744177664)) (some (Yp (l++Yz iss 4 li),[]))) (kO fun l=>Zw (chk (decide (Zy l+Zy sv≤70368744177664)) (some (Zp (Yb l sv),[]))) (kB fun b=>Zw (chk (decide (Zy b+Zy ins≤70368744177664)) (some (Zp (Yb b ins),[]))) (kB fun b=>Zw (chk (decide (Zy b≤70368744177664)) (some (Zp (Kerb.pad b),[]))) (kB fun b=>some (Zg [Zp b,Zz .i64 0],[]))))))))))) (Zw (chk (decide (t1≤70368744170000)) (some (Zp (Wn ([]++Yz 0 1 false) (Zk x y z)),[]))) (kB fun b=>Zw (chk (decide (Zy b≤70368744177664)) (some (Yp (b++Yz ad 4 li),[]))) (kO fun l=>Zw t2 (kB fun b=>Zw (chk (decide (Zy (Zm l (Zm b []))≤140737488355328)&&decide (Zy [Zp l,Zp b]≤1000)) (some (Yp (Zm l (Zm b [])),[]))) (kO fun l=>Zw (chk (decide (Zy l≤70368744177664)) (some (Yp (l++Yz lf 1 false),[]))) (kO fun l=>Zw (chk (decide (Zy l≤70368744177664)) (some (Yp (l++Yz iss 4 li),[]))) (kO fun l=>Zw (chk (decide (Zy l+Zy sv≤70368744177664)) (some (Zp (Yb l sv),[]))) (kB fun b=>Zw (chk (decide (Zy b+Zy ins≤70368744177664)) (some (Zp (Yb b ins),[]))) (kB fun b=>Zw (chk (decide (Zy b≤70368744177664)) (some (Zp (Kerb.pad b),[]))) (kB fun b=>some (Zg [Zp b,Zz .i64 0],[]))))))))))))):Option (AV×Blocks))) (by kernel_rfl) ?_
  delta kB kO kI
  try dsimp only [cStr,cBs,cBool,cU8,cInt,cSl,l63]
  simp only [Yw,decide_eq_true_eq] at hpre
  obtain ⟨⟨⟨⟨⟨⟨h1,h2⟩,h3⟩,h4⟩,h5⟩,h6⟩,h7⟩:=hpre
  simp only [h1,h2,h3,h4,h5,h6,h7,decide_true,Yg,↓A0,A0]
  have hb := @Kerb.encTicket_inv ⟨li,⟨x,y,z⟩,ad,k,lf,iss,sv,ins⟩
  unfold Vh at hb ⊢
  dsimp only at hb ⊢
  generalize hE:Kerb.Ticket.err _=e at hb ⊢
  by_cases he:e=0
  case neg=>rw [sel_pos (by simpa using he),if_pos he]
  rw [if_neg (by simpa using he)] at hb
  obtain ⟨v1,v2,v3,_⟩:=hb rfl
  have l1:=Vk v1
  have l2:=(Kerb.name_ok v2).1
  have l3:=(Kerb.inst_ok v3).1
  dsimp only at l1
  rw [sel_neg (by simpa using he),if_neg (by simpa using he)]
  cases li
  ·rw [sel_false,chk_of (by first | (simp [Zv,Zq,Zu];done) | (simp [Zv,Zq,Zu];omega)),chk_of (by first | (simp [Zv,Zq,Zu];done) | (simp [Zv,Zq,Zu];omega)),chk_of (by first | (simp [Zv,Zq,Zu];done) | (simp [Zv,Zq,Zu];omega)),chk_of (by first | (simp [Zv,Zq,Zu];done) | (simp [Zv,Zq,Zu];omega)),chk_of (by first | (simp [Zv,Zq,Zu];done) | (simp [Zv,Zq,Zu];omega)),chk_of (by first | (simp [Zv,Zq,Zu];done) | (simp [Zv,Zq,Zu];omega)),chk_of (by first | (simp [Yb,Zv,Zq,Zu];done) | (simp [Yb,Zv,Zq,Zu];omega)),chk_of (by first | (simp [Yb,Zv,Zq,Zu];done) | (simp [Yb,Zv,Zq,Zu];omega))]
   simp
  ·rw [sel_true,chk_of (by first | (simp [Zv,Zq,Zu];done) | (simp [Zv,Zq,Zu];omega)),chk_of (by first | (simp [Zv,Zq,Zu];done) | (simp [Zv,Zq,Zu];omega)),chk_of (by first | (simp [Zv,Zq,Zu];done) | (simp [Zv,Zq,Zu];omega)),chk_of (by first | (simp [Zv,Zq,Zu];done) | (simp [Zv,Zq,Zu];omega)),chk_of (by first | (simp [Zv,Zq,Zu];done) | (simp [Zv,Zq,Zu];omega)),chk_of (by first | (simp [Zv,Zq,Zu];done) | (simp [Zv,Zq,Zu];omega)),chk_of (by first | (simp [Yb,Zv,Zq,Zu];done) | (simp [Yb,Zv,Zq,Zu];omega)),chk_of (by first | (simp [Yb,Zv,Zq,Zu];done) | (simp [Yb,Zv,Zq,Zu];omega))]
   simp
 ·cases h
theorem w21:Walked Tryz.prog G 21 10 sp21:=by
 refine ⟨Tryz.f21,Tryz.func21,by decide +kernel,rfl,fun xs bl r h=> ?_⟩
 unfold sp21 at h
 split at h
 ·rename_i msg now li
  obtain ⟨hpre,h2⟩:=chk_inv h;cases h2
  refine Eq.trans (b:=(sel ((↑(Zy msg):Int)==0) (some (Zp [],[])) (chk (decide (0<(↑(Zy msg):Int))) (sel (Wu msg (Ym 0) (0:UInt8)==(4:UInt8)) (some (Zp [],[])) (Zw (chk (decide (Zy msg≤140737488355328)) (some (Yp msg,[]))) (kO fun l=>let t0:Kerb.KdcRequest:=Zh (Zd (List.set l (Ym 0) (4:UInt8)));chk (decide (0<(↑(Zy l):Int))) (chk (Nat.blt (Ym 0) (Zy l)&&true&&true&&true&&true) (Zw (chk (decide (Zy (List.set l (Ym 0) (4:UInt8))≤4611686018427387904)) (some (Zg [Xm [Zf (Vj t0),Zx (Yu (Yk t0)),Zx (Yq (Yk t0)),Zx (Yx (Yk t0)),Zz .i64 (Vf t0),Zz .i64 (Vg t0),Zx (Vu t0),Zx (Vb t0)],Zz .i64 (Kerb.DecReq.err (Zd (List.set l (Ym 0) (4:UInt8))))],[]))) (kT fun vs=>onCons vs fun x r=>Xp x fun cs=>cBool cs fun b r_1=>cStr r_1 fun b r_2=>cStr r_2 fun b_1 r_3=>cStr r_3 fun b_2 r_4=>cInt .i64 r_4 fun n r_5=>cInt .i64 r_5 fun n r_6=>cStr r_6 fun b_3 r_7=>cStr r_7 fun b_4 r_8=>onNil r_8 (cInt .i64 r fun n r=>onNil r (sel (!n==0) (some (Zp [],[])) (Zw (chk (l63 b&&l63 b_1&&l63 b_2) (some (Zp (Vv (Zk b b_1 b_2) 4 now li),[]))) (kB fun b=>some (Zp b,[])))))))))))):Option (AV×Blocks))) (by kernel_rfl) ?_
  delta kT kB kO
  try dsimp only [cStr,cBs,cBool,cU8,cInt,cSl,l63]
  have lm:=of_decide_eq_true hpre
  unfold Kerb.refuseVer
  by_cases h1:msg.length=0
  ·rw [sel_pos (by simpa using h1),if_pos h1]
  rw [sel_neg (by simp;intro h;exact h1 (by rw [h];rfl)),if_neg h1,chk_of (by simp;omega)]
  have hz:Ym 0=0:=rfl
  rw [hz]
  by_cases h2:msg.getD 0 0=4
  ·rw [sel_pos (by simpa using h2),if_pos h2]
  rw [sel_neg (by simpa using h2),if_neg h2]
  have lm2:msg.length≤140737488355328:=by omega
  have lm3:(msg.set 0 4).length≤4611686018427387904:=by simp;omega
  have hb:Nat.blt 0 msg.length=true:=by simp [Nat.blt_eq];omega
  have hp:decide ((0:Int)<(msg.length:Int))=true:=by simp;omega
  obtain ⟨⟨n1,n2,n3⟩,_,_⟩:=Kerb.decReq_len (msg.set 0 4)
  simp only [hz,lm2,lm3,hb,hp,n1,n2,n3,decide_true,Yg,↓A0,A0]
  by_cases h3:(Zd (msg.set 0 4)).err=0
  ·rw [sel_neg (by simpa using h3),if_neg (by simpa using h3)]
  ·rw [sel_pos (by simpa using h3),if_pos h3]
 ·cases h
theorem w72:Walked Tryz.prog G 72 10 sp72:=by
 refine ⟨Tryz.f72,Tryz.func72,by decide +kernel,rfl,fun xs bl r h=> ?_⟩
 unfold sp72 at h
 split at h
 ·rename_i li x y z ad k lf iss sv ins key
  obtain ⟨hpre,h2⟩:=chk_inv h;cases h2
  refine Eq.trans (b:=(Zw (chk (decide (Zy x≤9223372036854775807)&&decide (Zy y≤9223372036854775807)&&decide (Zy z≤9223372036854775807)&&decide (Zy sv≤9223372036854775807)&&decide (Zy ins≤9223372036854775807)&&decide (0≤k)&&decide (k<18446744073709551616)) (some (Zg [Zp (Xf (Vh (Vx li (Zk x y z) ad k lf iss sv ins))),Zz .i64 (Xg (Vh (Vx li (Zk x y z) ad k lf iss sv ins)))],[]))) fun (r:AV×Blocks)=>onNilB (Yh r) (AV.onTup (Xz r) fun vs=>onCons vs fun x r=>AV.onBs x fun b=>onCons r fun x r=>Vn .i64 x fun n=>onNil r (sel (!n==0) (some (Zg [Zp [],Zz .i64 n],[])) (Zw (chk (decide (0≤key)&&decide (key<18446744073709551616)) (some (Zg [Zp (Xf (Kerb.makeBox 1 key b)),Zz .i64 (Xg (Kerb.makeBox 1 key b))],[]))) fun (r:AV×Blocks)=>onNilB (Yh r) (AV.onTup (Xz r) fun vs=>onCons vs fun x r=>AV.onBs x fun b=>onCons r fun x r=>Vn .i64 x fun n=>onNil r (some (Zg [Zp b,Zz .i64 n],[])))))):Option (AV×Blocks))) (by kernel_rfl) ?_
  simp only [Yw,decide_eq_true_eq] at hpre
  obtain ⟨⟨⟨⟨⟨⟨⟨⟨h1,h2⟩,h3⟩,h4⟩,h5⟩,h6⟩,h7⟩,h8⟩,h9⟩:=hpre
  simp only [h1,h2,h3,h4,h5,h6,h7,h8,h9,decide_true,Yg,↓A0,A0]
  unfold Kerb.sealTicket
  generalize Vh _=E
  by_cases he:E.err=0
  ·rw [sel_neg (by simpa using he),if_neg (by simpa using he)]
  ·rw [sel_pos (by simpa using he),if_pos he]
 ·cases h
theorem w28:Walked Tryz.prog G 28 11 sp28:=by
 refine ⟨Tryz.f28,Tryz.func28,by decide +kernel,rfl,fun xs bl r h=> ?_⟩
 unfold sp28 at h
 split at h
 ·rename_i rl els x y z u v w ad li now lf se sl tg kv
  obtain ⟨hpre,h2⟩:=chk_inv h;cases h2
  refine Eq.trans (b:=(let t0:AV:=Xm [Zz .i64 0,Zx [],Zx [],Zx [],Zx [],Zx [],Zx [],Zx [],Zx [],Zx [],Zz .u64 0,Zz .u64 0,Zz .u64 0,Zp [],Zz .i64 0,Zz .i64 0];let t1:AV:=Xm [Zz .u64 0,Zx [],Zx [],Zx [],Zz .i64 0,Zz .i64 0,Zp [],Zz .i64 0];Zw (chk (l63 x&&l63 y&&l63 z&&l63 u&&l63 v&&decide (0≤se)&&decide (se<18446744073709551616)&&decide (0≤tg)&&decide (tg<18446744073709551616)) (some (Zg [Zp (Xf (Kerb.sealTicket (Vx li (Zk x y z) ad se lf now u v) tg)),Zz .i64 (Xg (Kerb.sealTicket (Vx li (Zk x y z) ad se lf now u v) tg))],[]))) (kT fun vs=>onCons vs fun x_1 r=>AV.onBs x_1 fun b=>onCons r fun x_2 r=>Vn .i64 x_2 fun n=>onNil r (sel (!n==0) (some (Zg [t0,t1,Zz .i64 n],[])) (Zw (chk (l63 u&&l63 v&&l63 w&&decide (0≤se)&&decide (se<18446744073709551616)) (some (Zg [Zp (Xf (Xb (Xx se (Zk u v w) lf kv b now) li)),Zz .i64 (Xg (Xb (Xx se (Zk u v w) lf kv b now) li))],[]))) (kT fun vs=>onCons vs fun x_3 r=>AV.onBs x_3 fun b_1=>onCons r fun x_4 r=>Vn .i64 x_4 fun n=>onNil r (sel (!n==0) (some (Zg [t0,t1,Zz .i64 n],[])) (Zw (chk (decide (Zy b≤140737488355328)) (some (Yp b,[]))) (kO fun l=>some (Zg [Xm [Zz .i64 0,Zx [(107:UInt8),(114:UInt8),(98:UInt8),(116:UInt8),(103:UInt8),(116:UInt8)],Zx rl,Zx rl,Zx x,Zx y,Zx z,Zx u,Zx v,Zx w,Zz .u64 se,Zz .u64 sl,Zz .u64 0,Zp l,Zz .i64 now,Zz .i64 (Kerb.tEnd now lf)],Xm [Zz .u64 se,Zx u,Zx v,Zx w,Zz .i64 lf,Zz .i64 kv,Zp b,Zz .i64 now],Zz .i64 0],[])))))))):Option (AV×Blocks))) (by kernel_rfl) ?_
  delta kT kO
  try dsimp only [cStr,cBs,cBool,cU8,cInt,cSl,l63]
  simp only [Yw,decide_eq_true_eq] at hpre
  simp only [Kerb.isU64_iff] at hpre
  obtain ⟨⟨⟨⟨⟨⟨⟨h1,h2⟩,h3⟩,h4⟩,h5⟩,h6⟩,h7,h8⟩,h9,h10⟩:=hpre
  simp only [h1,h2,h3,h4,h5,h6,h7,h8,h9,h10,decide_true,Yg,↓A0,A0]
  unfold Kerb.grant Kerb.grantTkt
  dsimp only
  have hsl:=Kerb.sealTicket_len ⟨li,⟨x,y,z⟩,ad,se,lf,now,u,v⟩ tg
  generalize Kerb.sealTicket ⟨li,⟨x,y,z⟩,ad,se,lf,now,u,v⟩ tg=E at hsl
  by_cases he:E.err=0
  case neg=>rw [sel_pos (by simpa using he),if_pos he];rfl
  rw [sel_neg (by simpa using he),if_neg (by simpa using he)]
  generalize Xb ⟨se,⟨u,v,w⟩,lf,kv,E.val,now⟩ li=F
  by_cases hf:F.err=0
  case neg=>rw [sel_pos (by simpa using hf),if_pos hf];rfl
  rw [sel_neg (by simpa using hf),if_neg (by simpa using hf)]
  rw [chk_of (by simp;omega)]
  rfl
 ·cases h
set_option maxHeartbeats 4000000 in
theorem w7:Walked Tryz.prog G 7 12 sp7:=by
 refine ⟨Tryz.f7,Tryz.func7,by decide +kernel,rfl,fun xs bl r h=> ?_⟩
 unfold sp7 at h
 split at h
 ·rename_i rl els xls now ad li se msg
  obtain ⟨hpre,h2⟩:=chk_inv h;cases h2
  refine Eq.trans (b:=(let t0:List AV:=[Xm [Zz .i64 0,Zx [],Zx [],Zx [],Zx [],Zx [],Zx [],Zx [],Zx [],Zx [],Zz .u64 0,Zz .u64 0,Zz .u64 0,Zp [],Zz .i64 0,Zz .i64 0],Zf false];let t1:Option (AV×Blocks):=some (Zg (Zp []::t0),[]);sel (decide (now<0)) t1 (sel (decide (now>4294967295)) t1 (sel (decide (ad<0)) t1 (sel (decide (ad>4294967295)) t1 (Zw (chk (decide (Zy msg≤4611686018427387904)) (some (Zg [Xm [Zf (Vj (Zh (Zd msg))),Zx (Yu (Yk (Zh (Zd msg)))),Zx (Yq (Yk (Zh (Zd msg)))),Zx (Yx (Yk (Zh (Zd msg)))),Zz .i64 (Vf (Zh (Zd msg))),Zz .i64 (Vg (Zh (Zd msg))),Zx (Vu (Zh (Zd msg))),Zx (Vb (Zh (Zd msg)))],Zz .i64 (Kerb.DecReq.err (Zd msg))],[]))) (kT fun vs=>onCons vs fun x r=>Xp x fun cs=>cBool cs fun b r_1=>cStr r_1 fun b r_2=>cStr r_2 fun b_1 r_3=>let t2:Bool:=l63 b&&l63 b_1;cStr r_3 fun b_2 r_4=>let t3:Bool:=t2&&l63 b_2;cInt .i64 r_4 fun n r_5=>cInt .i64 r_5 fun n_1 r_6=>cStr r_6 fun b_3 r_7=>cStr r_7 fun b_4 r_8=>let t4:Kerb.Svc:=Kerb.svc (Vz rl (Wy Xn els)) (Wy Kerb.toCross xls) b_3 b_4 now;onNil r_8 (cInt .i64 r fun n_2 r=>onNil r (sel (!n_2==0) (Zw (chk (decide (Zy msg≤1000000)) (some (Zp (Kerb.refuseVer msg now li),[]))) (kB fun b=>some (Zg (Zp b::t0),[]))) (sel (!b_2==rl) (Zw (chk t3 (some (Zp (Vv (Zk b b_1 b_2) 8 now li),[]))) (kB fun b=>some (Zg (Zp b::t0),[]))) (Zw (chk (List.all els Kerb.isEntry&&decide (Zy els≤1000000)) (some (Zg [Zz .i64 (Xz (Kerb.clientEnt (Vz rl (Wy Xn els)) b b_1 now)),Zz .i64 (Yh (Kerb.clientEnt (Vz rl (Wy Xn els)) b b_1 now))],[]))) (kT fun vs=>cInt .i64 vs fun n_3 r=>cInt .i64 r fun n_4 r=>onNil r (sel (!n_4==0) (Zw (chk t3 (some (Zp (Vv (Zk b b_1 b_2) n_4 now li),[]))) (kB fun b=>some (Zg (Zp b::t0),[]))) (chk (decide (0≤n_3)&&decide (n_3<(↑(Zy els):Int))&&true) (Xp (Wu els (Ym n_3) Wq) fun cs=>cStr cs fun b_5 r=>cStr r fun b_6 r=>cInt .u64 r fun n_5 r=>cInt .i64 r fun n_6 r=>cInt .i64 r fun n_7 r=>cInt .i64 r fun n_8 r=>cInt .i64 r fun n_9 r=>cInt .i64 r fun n_10 r=>cInt .i64 r fun n_11 r=>onNil r (Zw (chk (List.all els Kerb.isEntry&&decide (Zy els≤1000000)&&List.all xls Kerb.isCross&&decide (Zy xls≤1000000)&&l63 b_4) (some (Zg [Zz .u64 (Kerb.Svc.key t4),Zz .i64 (Kerb.Svc.kvno t4),Zz .i64 (Kerb.Svc.life t4),Zz .i64 (Kerb.Svc.expires t4),Zz .i64 (Kerb.Svc.err t4)],[]))) (kT fun vs=>cInt .u64 vs fun n_12 r=>cInt .i64 r fun n_13 r=>cInt .i64 r fun n_14 r=>cInt .i64 r fun n_15 r=>let t5:Int×Bool:=Kerb.grantLife now (Kerb.imin (Kerb.imin n_1 n_8) n_14) (List.filter (fun n => !n==0) [n_7,n_15]);cInt .i64 r fun n_16 r=>onNil r (sel (!n_16==0) (Zw (chk t3 (some (Zp (Vv (Zk b b_1 b_2) n_16 now li),[]))) (kB fun b=>some (Zg (Zp b::t0),[]))) (Zw (chk (decide (Zy [Zz .i64 n_7,Zz .i64 n_15]≤1000000)&&List.all [n_7,n_15] Kerb.isI64) (some (Zg [Zz .i64 (Xz t5),Zf (Yh t5)],[]))) (kT fun vs=>cInt .i64 vs fun n_17 r=>let t8:Kerb.Granted:=Kerb.grant rl (Zk b b_1 b_2) (Zk b_3 b_4 rl) ad li now n_17 se n_5 n_12 n_13;let t6:Kerb.Issue:=Kerb.Granted.issue t8;let t7:Kerb.ReplyPart:=Kerb.Granted.part t8;cBool r fun b_7 r=>onNil r (sel (!b_7) (Zw (chk t3 (some (Zp (Vv (Zk b b_1 b_2) 3 now li),[]))) (kB fun b=>some (Zg (Zp b::t0),[]))) (Zw (chk (decide (0≤se)&&decide (se<18446744073709551616)) (some (Zz .i64 (Kerb.classOf se),[]))) (kI .i64 fun n_18=>sel (!n_18==2) (Zw (chk t3 (some (Zp (Vv (Zk b b_1 b_2) 10 now li),[]))) (kB fun b=>some (Zg (Zp b::t0),[]))) (Zw (chk (t3&&l63 b_3&&l63 b_4&&l63 rl&&Kerb.isU64 se&&Kerb.isU64 n_12) (some (Zg [Xm [Zz .i64 (Kerb.Issue.kind t6),Zx (Yu (Ww t6)),Zx (Yq (Ww t6)),Zx (Yx (Ww t6)),Zx (Yu (Wv t6)),Zx (Yq (Wv t6)),Zx (Yx (Wv t6)),Zx (Yu (Wz t6)),Zx (Yq (Wz t6)),Zx (Yx (Wz t6)),Zz .u64 (Kerb.Issue.session t6),Zz .u64 (Kerb.Issue.sealer t6),Zz .u64 (Kerb.Issue.granter t6),Zp (Kerb.Issue.text t6),Zz .i64 (Kerb.Issue.issued t6),Zz .i64 (Kerb.Issue.stop t6)],Xm [Zz .u64 (Kerb.ReplyPart.session t7),Zx (Yu (Xq t7)),Zx (Yq (Xq t7)),Zx (Yx (Xq t7)),Zz .i64 (Kerb.ReplyPart.life t7),Zz .i64 (Kerb.ReplyPart.kvno t7),Zp (Kerb.ReplyPart.ticket t7),Zz .i64 (Kerb.ReplyPart.time t7)],Zz .i64 (Kerb.Granted.err t8)],[]))) (kT fun vs=>onCons vs fun x r=>Xp x fun cs=>cInt .i64 cs fun n_19 r_9=>cStr r_9 fun b_8 r_10=>cStr r_10 fun b_9 r_11=>cStr r_11 fun b_10 r_12=>cStr r_12 fun b_11 r_13=>cStr r_13 fun b_12 r_14=>cStr r_14 fun b_13 r_15=>cStr r_15 fun b_14 r_16=>cStr r_16 fun b_15 r_17=>cStr r_17 fun b_16 r_18=>cInt .u64 r_18 fun n_20 r_19=>cInt .u64 r_19 fun n_21 r_20=>cInt .u64 r_20 fun n_22 r_21=>cBs r_21 fun b_17 r_22=>cInt .i64 r_22 fun n_23 r_23=>cInt .i64 r_23 fun n_24 r_24=>onNil r_24 (onCons r fun x r=>Xp x fun cs=>cInt .u64 cs fun n_25 r_25=>cStr r_25 fun b_18 r_26=>cStr r_26 fun b_19 r_27=>cStr r_27 fun b_20 r_28=>cInt .i64 r_28 fun n_26 r_29=>cInt .i64 r_29 fun n_27 r_30=>cBs r_30 fun b_21 r_31=>cInt .i64 r_31 fun n_28 r_32=>let t9:Kerb.Enc:=Kerb.sealReply (Kerb.KdcReply.mk li (Zk b b_1 b_2) n n_7 n_6 []) (Xx n_25 (Zk b_18 b_19 b_20) n_26 n_27 b_21 n_28) n_5;onNil r_32 (cInt .i64 r fun n r=>onNil r (sel (!n==0) t1 (Zw (chk (t3&&l63 b_18&&l63 b_19&&l63 b_20&&Kerb.isU64 n_25&&Kerb.isU64 n_5) (some (Zg [Zp (Xf t9),Zz .i64 (Xg t9)],[]))) (kT fun vs=>cBs vs fun b r=>cInt .i64 r fun n r=>onNil r (sel (!n==0) t1 (some (Zg [Zp b,Xm [Zz .i64 1,Zx b_8,Zx b_9,Zx b_10,Zx b_11,Zx b_12,Zx b_13,Zx b_14,Zx b_15,Zx b_16,Zz .u64 n_20,Zz .u64 n_21,Zz .u64 n_22,Zp b_17,Zz .i64 n_23,Zz .i64 n_24],Zf true],[]))))))))))))))))))))))))))))))):Option (AV×Blocks))) (by kernel_rfl) ?_
  delta kT kB kI
  try dsimp only [cStr,cBs,cBool,cU8,cInt,cSl,l63]
  simp only [Yw,decide_eq_true_eq] at hpre
  obtain ⟨⟨⟨⟨⟨⟨ea,el⟩,xa⟩,xl⟩,lr⟩,hse⟩,lm⟩:=hpre
  have hse2:=Kerb.isU64_iff.1 hse
  obtain ⟨es,rfl,hok⟩:=Kerb.ents_of ea
  obtain ⟨cs,rfl,hcs⟩:=Kerb.cross_okof xa
  simp only [Wd] at el xl
  have lm2:msg.length≤4611686018427387904:=by omega
  obtain ⟨⟨n1,n2,n3⟩,n4,n5⟩:=Kerb.decReq_len msg
  obtain ⟨R,hR⟩:∃ R,(Zd msg).val=R:=⟨_,rfl⟩
  rw [hR] at n1 n2 n3 n4 n5
  obtain ⟨D,hD⟩:∃ D,Vz rl es=D:=⟨_,rfl⟩
  have hDr:D.realm=rl:=by rw [← hD]
  have hDe:D.entries=es:=by rw [← hD]
  unfold Kerb.authAnswer
  by_cases q1:now<0
  ·rw [sel_pos (by simpa using q1),if_pos (by simp [Zn];omega)];rfl
  rw [sel_neg (by simpa using q1)]
  by_cases q2:now>4294967295
  ·rw [sel_pos (by simpa using q2),if_pos (by simp [Zn];omega)];rfl
  rw [sel_neg (by simpa using q2)]
  by_cases q3:ad<0
  ·rw [sel_pos (by simpa using q3),if_pos (by simp [Zn];omega)];rfl
  rw [sel_neg (by simpa using q3)]
  by_cases q4:ad>4294967295
  ·rw [sel_pos (by simpa using q4),if_pos (by simp [Zn];omega)];rfl
  rw [sel_neg (by simpa using q4),if_neg (by simp [Zn];omega)]
  have hRR:Zk R.client.name R.client.inst R.client.realm=R.client:=rfl
  simp (config:={maxSteps:=10000000}) only [Kerb.map_toEntry,Kerb.map_toCross,Wd,lm,lm2,ea,el,xa,xl,lr,hse,hse2,n1,n2,n3,n4,n5,hR,hRR,hD,decide_true,Yg,Bool.true_and,Vw,↓sInt,↓sU8,↓sBool,↓sStr,↓sBs,↓sSl,↓sAgg,↓sTup,↓sCons,↓sNil,↓sNilB,↓sChk,↓sChkBind,↓sSome]
  by_cases g1:(Zd msg).err=0
  case neg=>rw [sel_pos (by simpa using g1),if_pos g1];rfl
  rw [sel_neg (by simpa using g1),if_neg (by simpa using g1)]
  unfold Kerb.authAsk
  rw [hDr]
  by_cases g2:R.client.realm=rl
  case neg=>rw [sel_pos (by simpa using g2),if_pos g2];rfl
  rw [sel_neg (by simpa using g2),if_neg (by simpa using g2)]
  by_cases g3:(Kerb.clientEnt D R.client.name R.client.inst now).2=0
  case neg=>rw [sel_pos (by simpa using g3),if_pos g3];rfl
  rw [sel_neg (by simpa using g3),if_neg (by simpa using g3)]
  obtain ⟨i0,i1⟩:=Kerb.clie_lt g3
  obtain ⟨j,hj⟩:∃ j,(Kerb.clientEnt D R.client.name R.client.inst now).1=j:=⟨_,rfl⟩
  rw [hj] at i0 i1
  rw [hDe] at i1
  have hgj:(es.map Yn).getD j.toNat Wq=(Wj D j).av:=by
   rw [Vy i1]
   unfold Wj
   rw [hDe]
  have hkj:(decide ((0:Int)≤j)&&decide (j<(es.length:Int)))=true:=by simp;omega
  have hCo:(Wj D j).ok:=by
   unfold Wj
   rw [hDe]
   exact hok _ (Kerb.mem_row (d:=Kerb.noEntry) i1)
  obtain ⟨C,hC⟩:∃ C,Wj D j=C:=⟨_,rfl⟩
  rw [hC] at hgj hCo
  obtain ⟨v1,v2,v3,v4⟩:=Kerb.svc_okX (d:=D) (cs:=cs) (n:=R.service) (i:=R.inst) (now:=now) (by rw [hDe];exact hok) hcs
  obtain ⟨V,hV⟩:∃ V,Kerb.svc D cs R.service R.inst now=V:=⟨_,rfl⟩
  rw [hV] at v1 v2 v3 v4
  have c1:=hCo.2.2.2.2.1
  have c2:=hCo.2.2.1
  have h2:∀ a b:AV,decide (Zy [a,b]≤1000000)=true:=fun _ _=>rfl
  rw [hj,hC,hV]
  unfold Kerb.authGive Kerb.authLife
  rw [hDr]
  have gp:=fun lf:Int=>Kerb.grant_part (realm:=rl) (client:=R.client) (service:=⟨R.service,R.inst,rl⟩) (address:=ad) (little:=li) (now:=now) (life:=lf) (session:=se) (sealer:=C.key) (target:=V.key) (kvno:=V.kvno) n4 n5 lr hse
  have gp1:=fun lf=>(gp lf).1
  have gp2:=fun lf=>(gp lf).2.1
  have gp3:=fun lf=>(gp lf).2.2.1
  have gp4:=fun lf=>(gp lf).2.2.2
  have gPe:∀ p:Kerb.ReplyPart,Xx p.session ⟨p.service.name,p.service.inst,p.service.realm⟩ p.life p.kvno p.ticket p.time=p:=fun _=>rfl
  simp (config:={maxSteps:=10000000}) only [hkj,hgj,Yn,hV,v1,v4,c1,c2,h2,gp1,gp2,gp3,gp4,gPe,List.all_cons,List.all_nil,decide_true,Yg,Bool.true_and,Vw,↓sInt,↓sU8,↓sBool,↓sStr,↓sBs,↓sSl,↓sAgg,↓sTup,↓sCons,↓sNil,↓sNilB,↓sChk,↓sChkBind,↓sSome]
  by_cases g4:V.err=0
  case neg=>rw [sel_pos (by simpa using g4),if_pos g4];rfl
  rw [sel_neg (by simpa using g4),if_neg (by simpa using g4)]
  obtain ⟨L,hL⟩:∃ L,Kerb.grantLife now (Kerb.imin (Kerb.imin R.life C.maxLife) V.life) ([C.expires,V.expires].filter fun n => !(n==0))=L:=⟨_,rfl⟩
  rw [hL]
  cases g5:L.2
  ·rfl
  rw [Zb,sel_false,if_neg (by simp)]
  by_cases g6:Kerb.classOf se=2
  case neg=>rw [sel_pos (by simpa using g6),if_pos g6];rfl
  rw [sel_neg (by simpa using g6),if_neg (by simpa using g6)]
  obtain ⟨GG,hGG⟩:∃ GG,Kerb.grant rl R.client ⟨R.service,R.inst,rl⟩ ad li now L.1 se C.key V.key V.kvno=GG:=⟨_,rfl⟩
  rw [hGG]
  by_cases g7:GG.err=0
  case neg=>rw [sel_pos (by simpa using g7),if_pos g7];rfl
  rw [sel_neg (by simpa using g7),if_neg (by simpa using g7)]
  by_cases g8:(Kerb.sealReply ⟨li,R.client,R.time,C.expires,C.kvno,[]⟩ GG.part C.key).err=0
  case neg=>rw [sel_pos (by simpa using g8),if_pos g8];rfl
  rw [sel_neg (by simpa using g8),if_neg (by simpa using g8)]
 ·cases h
theorem p4  : runFn (G.env 4 13) G.rts (G.own 4) Tryz.f4 [] []=some (.bool true,[]):=by kernel_rfl
theorem w4:Walked Tryz.prog G 4 13 sp4:=by
 refine ⟨Tryz.f4,Tryz.func4,by decide +kernel,rfl,fun xs bl r h=> ?_⟩
 unfold sp4 at h
 split at h
 ·cases h;exact p4
 ·cases h
set_option maxHeartbeats 4000000 in
theorem w3:Walked Tryz.prog G 3 14 sp3:=by
 refine ⟨Tryz.f3,Tryz.func3,by decide +kernel,rfl,fun xs bl r h=> ?_⟩
 unfold sp3 at h
 split at h
 ·rename_i qc qs qp qt_ ql qx qli qh lf xp bd now ad li
  obtain ⟨hpre,h2⟩:=chk_inv h;cases h2
  refine Eq.trans (b:=(let t3:List AV:=Wy Yn (Kerb.Db.entries (Wk lf xp bd));let t4:Option (AV×Blocks):=chk (decide (0≤qh)&&decide (qh≤65535)) (some (Zp (Kerb.AAsk.msg (Wf qc qs qp qt_ ql qx qli qh)),[]));let t0:Kerb.Db:=Vz (Kerb.Db.realm (Wk lf xp bd)) (Wy Xn t3);let t1:Int:=(↑(Zy t3):Int);let t2:Bool:=List.all t3 Kerb.isEntry&&decide (Zy t3≤1000000);Zw (chk (decide (0≤Yj .i64 (↑(UInt8.toNat ad):Int))&&decide (Yj .i64 (↑(UInt8.toNat ad):Int)≤1000)) (some (Zz .u64 (Kerb.session (Yj .i64 (↑(UInt8.toNat ad):Int))),[]))) (kI .u64 fun n=>Zw t4 (kB fun b=>let t6:Kerb.AuthOut:=Kerb.authAnswer t0 (Wy Kerb.toCross []) (Yj .i64 now) (Yj .i64 (↑(UInt8.toNat ad):Int)) li n b;let t5:Kerb.Issue:=Kerb.AuthOut.issue t6;Zw (chk (t2&&true&&true&&decide (Zy (Kerb.Db.realm (Wk lf xp bd))≤9223372036854775807)&&Kerb.isU64 n&&decide (Zy b≤1000000)) (some (Zg [Zp (Kerb.AuthOut.answer t6),Xm [Zz .i64 (Kerb.Issue.kind t5),Zx (Yu (Ww t5)),Zx (Yq (Ww t5)),Zx (Yx (Ww t5)),Zx (Yu (Wv t5)),Zx (Yq (Wv t5)),Zx (Yx (Wv t5)),Zx (Yu (Wz t5)),Zx (Yq (Wz t5)),Zx (Yx (Wz t5)),Zz .u64 (Kerb.Issue.session t5),Zz .u64 (Kerb.Issue.sealer t5),Zz .u64 (Kerb.Issue.granter t5),Zp (Kerb.Issue.text t5),Zz .i64 (Kerb.Issue.issued t5),Zz .i64 (Kerb.Issue.stop t5)],Zf (Kerb.AuthOut.ok t6)],[]))) (kT fun vs=>cBs vs fun b r=>onCons r fun x r=>Xp x fun cs=>cInt .i64 cs fun n_1 r_1=>cStr r_1 fun b_1 r_2=>cStr r_2 fun b_2 r_3=>cStr r_3 fun b_3 r_4=>cStr r_4 fun b_4 r_5=>cStr r_5 fun b_5 r_6=>cStr r_6 fun b_6 r_7=>cStr r_7 fun b_7 r_8=>cStr r_8 fun b_8 r_9=>cStr r_9 fun b_9 r_10=>cInt .u64 r_10 fun n_2 r_11=>cInt .u64 r_11 fun n_3 r_12=>cInt .u64 r_12 fun n_4 r_13=>cBs r_13 fun b_10 r_14=>cInt .i64 r_14 fun n_5 r_15=>cInt .i64 r_15 fun n_6 r_16=>onNil r_16 (cBool r fun b_11 r=>onNil r (Zw t4 (kB fun b_12=>Zw (chk (decide (Zy b_12≤140737488355328)) (some (Zg [Xm [Zf (Vj (Zh (Zd b_12))),Zx (Yu (Yk (Zh (Zd b_12)))),Zx (Yq (Yk (Zh (Zd b_12)))),Zx (Yx (Yk (Zh (Zd b_12)))),Zz .i64 (Vf (Zh (Zd b_12))),Zz .i64 (Vg (Zh (Zd b_12))),Zx (Vu (Zh (Zd b_12))),Zx (Vb (Zh (Zd b_12)))],Zz .i64 (Kerb.DecReq.err (Zd b_12))],[]))) (kT fun vs=>onCons vs fun x r=>Xp x fun cs=>cBool cs fun b_13 r_17=>cStr r_17 fun b_14 r_18=>cStr r_18 fun b_15 r_19=>cStr r_19 fun b_16 r_20=>cInt .i64 r_20 fun n_7 r_21=>cInt .i64 r_21 fun n_8 r_22=>cStr r_22 fun b_17 r_23=>cStr r_23 fun b_18 r_24=>onNil r_24 (cInt .i64 r fun n_9 r=>onNil r (sel (!b_11) (sel (n_1==0) (some (Zf ((↑(Zy b_10):Int)==0),[])) (some (Zf false,[]))) (Zw (chk (decide (Zy b≤140737488355328)) (some (Zg [Xm [Zf (Kerb.KdcReply.little (Xw (Xu b))),Zx (Yu (Uz (Xw (Xu b)))),Zx (Yq (Uz (Xw (Xu b)))),Zx (Yx (Uz (Xw (Xu b)))),Zz .i64 (Kerb.KdcReply.time (Xw (Xu b))),Zz .i64 (Kerb.KdcReply.expires (Xw (Xu b))),Zz .i64 (Kerb.KdcReply.kvno (Xw (Xu b))),Zp (Kerb.KdcReply.sealed (Xw (Xu b)))],Zz .i64 (Kerb.DecReply.err (Xu b))],[]))) (kT fun vs=>onCons vs fun x r=>Xp x fun cs=>cBool cs fun b r_25=>cStr r_25 fun b_19 r_26=>cStr r_26 fun b_20 r_27=>cStr r_27 fun b_21 r_28=>cInt .i64 r_28 fun n_10 r_29=>cInt .i64 r_29 fun n_11 r_30=>cInt .i64 r_30 fun n_12 r_31=>cBs r_31 fun b_22 r_32=>onNil r_32 (cInt .i64 r fun n_13 r=>onNil r (Zw (chk t2 (some (Zg [Zz .i64 (Xz (Kerb.findEnt (Wy Xn t3) b_14 b_15)),Zz .i64 (Yh (Kerb.findEnt (Wy Xn t3) b_14 b_15))],[]))) (kT fun vs=>cInt .i64 vs fun n_14 r=>cInt .i64 r fun n_15 r=>onNil r (Zw (chk t2 (some (Zg [Zz .i64 (Xz (Kerb.findEnt (Wy Xn t3) b_17 b_18)),Zz .i64 (Yh (Kerb.findEnt (Wy Xn t3) b_17 b_18))],[]))) (kT fun vs=>cInt .i64 vs fun n_16 r=>cInt .i64 r fun n_17 r=>onNil r (sel (!n_9==0) (some (Zf false,[])) (sel (!n_13==0) (some (Zf false,[])) (sel (!n_15==0) (some (Zf false,[])) (sel (!n_17==0) (some (Zf false,[])) (sel (!(b_19==b_14&&(b_20==b_15&&b_21==b_16))) (some (Zf false,[])) (sel (!n_10==n_7) (some (Zf false,[])) (chk (decide (0≤n_14)&&decide (n_14<t1)&&true) (Xp (Wu t3 (Ym n_14) Wq) fun cs=>cStr cs fun b_23 r=>cStr r fun b_24 r=>cInt .u64 r fun n_18 r=>cInt .i64 r fun n_19 r=>cInt .i64 r fun n_20 r=>cInt .i64 r fun n_21 r=>cInt .i64 r fun n_22 r=>cInt .i64 r fun n_23 r=>cInt .i64 r fun n_24 r=>onNil r (Zw (chk (decide (Zy b_22≤140737488355328)) (some (Zg [Zp (Xz (Kerb.openBox b_22 3 n_18)),Zf (Yh (Kerb.openBox b_22 3 n_18))],[]))) (kT fun vs=>cBs vs fun b_25 r=>cBool r fun b_26 r=>onNil r (Zw (chk (decide (Zy b_25≤140737488355328)) (some (Zg [Xm [Zz .u64 (Kerb.ReplyPart.session (Xk (Xd b_25 b))),Zx (Yu (Xq (Xk (Xd b_25 b)))),Zx (Yq (Xq (Xk (Xd b_25 b)))),Zx (Yx (Xq (Xk (Xd b_25 b)))),Zz .i64 (Kerb.ReplyPart.life (Xk (Xd b_25 b))),Zz .i64 (Kerb.ReplyPart.kvno (Xk (Xd b_25 b))),Zp (Kerb.ReplyPart.ticket (Xk (Xd b_25 b))),Zz .i64 (Kerb.ReplyPart.time (Xk (Xd b_25 b)))],Zz .i64 (Kerb.DecPart.err (Xd b_25 b))],[]))) (kT fun vs=>onCons vs fun x r=>Xp x fun cs=>cInt .u64 cs fun n_25 r_33=>cStr r_33 fun b r_34=>cStr r_34 fun b r_35=>cStr r_35 fun b r_36=>cInt .i64 r_36 fun n_26 r_37=>cInt .i64 r_37 fun n_27 r_38=>cBs r_38 fun b r_39=>cInt .i64 r_39 fun n_28 r_40=>onNil r_40 (cInt .i64 r fun n_29 r=>onNil r (chk (decide (0≤n_16)&&decide (n_16<t1)&&true) (Xp (Wu t3 (Ym n_16) Wq) fun cs=>cStr cs fun b_27 r=>cStr r fun b_28 r=>cInt .u64 r fun n_30 r=>cInt .i64 r fun n_31 r=>cInt .i64 r fun n_32 r=>cInt .i64 r fun n_33 r=>cInt .i64 r fun n_34 r=>cInt .i64 r fun n_35 r=>cInt .i64 r fun n_36 r=>onNil r (Zw (chk (decide (Zy b≤140737488355328)) (some (Zg [Xm [Zf (Kerb.Ticket.little (Yy (Yf b n_30))),Zx (Yu (Xh (Yy (Yf b n_30)))),Zx (Yq (Xh (Yy (Yf b n_30)))),Zx (Yx (Xh (Yy (Yf b n_30)))),Zz .i64 (Kerb.Ticket.address (Yy (Yf b n_30))),Zz .u64 (Kerb.Ticket.session (Yy (Yf b n_30))),Zz .i64 (Kerb.Ticket.life (Yy (Yf b n_30))),Zz .i64 (Kerb.Ticket.issued (Yy (Yf b n_30))),Zx (Kerb.Ticket.service (Yy (Yf b n_30))),Zx (Kerb.Ticket.inst (Yy (Yf b n_30)))],Zz .i64 (Kerb.Dec.err (Yf b n_30))],[]))) (kT fun vs=>onCons vs fun x r=>Xp x fun cs=>cBool cs fun b_29 r_41=>cStr r_41 fun b_30 r_42=>cStr r_42 fun b_31 r_43=>cStr r_43 fun b_32 r_44=>cInt .i64 r_44 fun n_37 r_45=>cInt .u64 r_45 fun n_38 r_46=>cInt .i64 r_46 fun n_39 r_47=>cInt .i64 r_47 fun n_40 r_48=>cStr r_48 fun b_33 r_49=>cStr r_49 fun b_34 r_50=>onNil r_50 (cInt .i64 r fun n_41 r=>onNil r (sel (!b_26) (some (Zf false,[])) (sel (!n_29==0) (some (Zf false,[])) (sel (!n_41==0) (some (Zf false,[])) (sel (!b==b_10) (some (Zf false,[])) (sel (!(b_30==b_14&&(b_31==b_15&&b_32==b_16))) (some (Zf false,[])) (sel (!n_38==n) (some (Zf false,[])) (sel (!n_25==n) (some (Zf false,[])) (sel (!n_2==n) (some (Zf false,[])) (sel (!n_37==Yj .i64 (↑(UInt8.toNat ad):Int)) (some (Zf false,[])) (sel (!b_33==b_17) (some (Zf false,[])) (sel (!b_34==b_18) (some (Zf false,[])) (sel (!n_40==Yj .i64 now) (some (Zf false,[])) (chk (decide (0≤n_14)&&decide (n_14<t1)&&true) (Xp (Wu t3 (Ym n_14) Wq) fun cs=>cStr cs fun b r=>cStr r fun b r=>cInt .u64 r fun n r=>cInt .i64 r fun n_42 r=>cInt .i64 r fun n_43 r=>cInt .i64 r fun n_44 r=>cInt .i64 r fun n_45 r=>cInt .i64 r fun n_46 r=>cInt .i64 r fun n_47 r=>onNil r (sel (!n_3==n) (some (Zf false,[])) (Zw (loopM (fun (st:List AV)=>cInt .u16 st fun n r=>cBool r fun b r=>cStr r fun b_35 r=>cSl 9 r fun b_36 r=>cInt .i64 r fun n_48 r=>cStr r fun b_37 r=>cStr r fun b_38 r=>cStr r fun b_39 r=>cStr r fun b_40 r=>cStr r fun b_41 r=>cStr r fun b_42 r=>cStr r fun b_43 r=>cStr r fun b_44 r=>cStr r fun b_45 r=>cInt .u64 r fun n_49 r=>cInt .u64 r fun n_50 r=>cInt .u64 r fun n_51 r=>cBs r fun b_46 r=>cInt .i64 r fun n_52 r=>cInt .i64 r fun n_53 r=>cBool r fun b_47 r=>cStr r fun b_48 r=>cStr r fun b_49 r=>cStr r fun b_50 r=>cInt .i64 r fun n_54 r=>cInt .i64 r fun n_55 r=>cStr r fun b_51 r=>cStr r fun b_52 r=>cInt .i64 r fun n_56 r=>cInt .i64 r fun n_57 r=>cBool r fun b_53 r=>cStr r fun b_54 r=>cStr r fun b_55 r=>cStr r fun b_56 r=>cInt .i64 r fun n_58 r=>cInt .u64 r fun n_59 r=>cInt .i64 r fun n_60 r=>cInt .i64 r fun n_61 r=>cStr r fun b_57 r=>cStr r fun b_58 r=>cInt .i64 r fun n_62 r=>let t8:Option (List AV ⊕ Ex×List AV):=some (Sum.inl [Zz .u16 n,Zf b,Zx b_35,AV.sl 9 b_36,Zz .i64 n_48,Zx b_37,Zx b_38,Zx b_39,Zx b_40,Zx b_41,Zx b_42,Zx b_43,Zx b_44,Zx b_45,Zz .u64 n_49,Zz .u64 n_50,Zz .u64 n_51,Zp b_46,Zz .i64 n_52,Zz .i64 n_53,Zf b_47,Zx b_48,Zx b_49,Zx b_50,Zz .i64 n_54,Zz .i64 n_55,Zx b_51,Zx b_52,Zz .i64 n_56,Zz .i64 n_57,Zf b_53,Zx b_54,Zx b_55,Zx b_56,Zz .i64 n_58,Zz .u64 n_59,Zz .i64 n_60,Zz .i64 n_61,Zx b_57,Zx b_58,Zz .i64 (Yj .i64 (n_62+1))]);let t9:List AV:=[Zx b_35,AV.sl 9 b_36,Zz .i64 n_48,Zx b_37,Zx b_38,Zx b_39,Zx b_40,Zx b_41,Zx b_42,Zx b_43,Zx b_44,Zx b_45,Zz .u64 n_49,Zz .u64 n_50,Zz .u64 n_51,Zp b_46,Zz .i64 n_52,Zz .i64 n_53,Zf b_47,Zx b_48,Zx b_49,Zx b_50,Zz .i64 n_54,Zz .i64 n_55,Zx b_51,Zx b_52,Zz .i64 n_56,Zz .i64 n_57,Zf b_53,Zx b_54,Zx b_55,Zx b_56,Zz .i64 n_58,Zz .u64 n_59,Zz .i64 n_60,Zz .i64 n_61,Zx b_57,Zx b_58,Zz .i64 n_62];let t7:Option (List AV ⊕ Ex×List AV):=some (Sum.inr (Ex.ret,Zz .u16 n::Zf false::t9));onNil r (sel (decide (n_62<2)) (chk (decide (0≤n_62)&&decide (n_62<(↑(Zy [Zz .i64 n_56,Zz .i64 n_57]):Int))&&true) (Vn .i64 (Wu [Zz .i64 n_56,Zz .i64 n_57] (Ym n_62) Wq) fun n=>chk (decide (0≤n)&&decide (n<(↑(Zy b_36):Int))&&true) (Xp (Wu b_36 (Ym n) Wq) fun cs=>cStr cs fun b r=>cStr r fun b r=>cInt .u64 r fun n r=>cInt .i64 r fun n r=>cInt .i64 r fun n r=>cInt .i64 r fun n_63 r=>cInt .i64 r fun n_64 r=>cInt .i64 r fun n_65 r=>cInt .i64 r fun n_66 r=>onNil r (sel (decide (n>0)) (sel (decide (n_53>n)) t7 (sel (decide (n_60>n_63)) t7 t8)) (sel (decide (n_60>n_63)) t7 t8))))) (some (Sum.inr (Ex.exit 0,Zz .u16 n::Zf b::t9))))) [Zz .u16 now,Zf false,Zx (Kerb.Db.realm (Wk lf xp bd)),AV.sl 9 t3,Zz .i64 n_1,Zx b_1,Zx b_2,Zx b_3,Zx b_4,Zx b_5,Zx b_6,Zx b_7,Zx b_8,Zx b_9,Zz .u64 n_2,Zz .u64 n_3,Zz .u64 n_4,Zp b_10,Zz .i64 n_5,Zz .i64 n_6,Zf b_13,Zx b_14,Zx b_15,Zx b_16,Zz .i64 n_7,Zz .i64 n_8,Zx b_17,Zx b_18,Zz .i64 n_14,Zz .i64 n_16,Zf b_29,Zx b_30,Zx b_31,Zx b_32,Zz .i64 n_37,Zz .u64 n_38,Zz .i64 n_39,Zz .i64 n_40,Zx b_33,Zx b_34,Zz .i64 0]) fun (r:Ex×List AV)=>cInt .u16 (Yh r) fun n r_51=>cBool r_51 fun b r_52=>cStr r_52 fun b_35 r_53=>cSl 9 r_53 fun b_36 r_54=>cInt .i64 r_54 fun n_48 r_55=>cStr r_55 fun b_37 r_56=>cStr r_56 fun b_38 r_57=>cStr r_57 fun b_39 r_58=>cStr r_58 fun b_40 r_59=>cStr r_59 fun b_41 r_60=>cStr r_60 fun b_42 r_61=>cStr r_61 fun b_43 r_62=>cStr r_62 fun b_44 r_63=>cStr r_63 fun b_45 r_64=>cInt .u64 r_64 fun n_49 r_65=>cInt .u64 r_65 fun n_50 r_66=>cInt .u64 r_66 fun n_51 r_67=>cBs r_67 fun b_46 r_68=>cInt .i64 r_68 fun n_52 r_69=>cInt .i64 r_69 fun n_53 r_70=>cBool r_70 fun b_47 r_71=>cStr r_71 fun b_48 r_72=>cStr r_72 fun b_49 r_73=>cStr r_73 fun b_50 r_74=>cInt .i64 r_74 fun n_54 r_75=>cInt .i64 r_75 fun n_55 r_76=>cStr r_76 fun b_51 r_77=>cStr r_77 fun b_52 r_78=>cInt .i64 r_78 fun n_56 r_79=>cInt .i64 r_79 fun n_57 r_80=>cBool r_80 fun b_53 r_81=>cStr r_81 fun b_54 r_82=>cStr r_82 fun b_55 r_83=>cStr r_83 fun b_56 r_84=>cInt .i64 r_84 fun n_58 r_85=>cInt .u64 r_85 fun n_59 r_86=>cInt .i64 r_86 fun n_60 r_87=>cInt .i64 r_87 fun n_61 r_88=>cStr r_88 fun b_57 r_89=>cStr r_89 fun b_58 r_90=>cInt .i64 r_90 fun n_62 r_91=>onNil r_91 (exK r.1 (some (Zf b,[])) fun (j:Nat)=>sel (Nat.beq j 0) (sel (decide (n_60≤n_55)) (some (Zf (n_53==Yj .i64 (Yj .i64 n+Yj .i64 (300*Yj .i64 (n_60+1)))),[])) (some (Zf false,[]))) none))))))))))))))))))))))))))))))))))))))))))))))))))):Option (AV×Blocks))) (by kernel_rfl) ?_
  delta kT kB kI
  try dsimp only [cStr,cBs,cBool,cU8,cInt,cSl,l63]
  simp only [Yw,decide_eq_true_eq] at hpre
  have ba:=Kerb.u8i_bd ad
  obtain ⟨⟨⟨hq1,hq2⟩,hn1⟩,hn2⟩:=hpre
  have z1:(decide ((0:Int)≤Vp ad)&&decide (Vp ad≤1000))=true:=by simp;omega
  have z2:(decide ((0:Int)≤qh)&&decide (qh≤65535))=true:=by simp;omega
  have z3:Yj .i64 now=now:=wrap_i64 (by omega) (by omega)
  have hse:=Kerb.session_bd2 (Vp ad)
  obtain ⟨se,hsE⟩:∃ se,Kerb.session (Vp ad)=se:=⟨_,rfl⟩
  rw [hsE] at hse
  have hse2:=Kerb.isU64_iff.2 hse
  have lm:(Kerb.AAsk.msg (Wf qc qs qp qt_ ql qx qli qh)).length≤1000000:=by
   have l1:=Kerb.encode_len ⟨qli,Kerb.user (Vp qc % 5),Vp qt_,Vp ql,(Kerb.AAsk.want (Wf qc qs qp qt_ ql qx qli qh)).name,(Kerb.AAsk.want (Wf qc qs qp qt_ ql qx qli qh)).inst⟩
   have l2:=Kerb.spoil_len (Kerb.AAsk.base (Wf qc qs qp qt_ ql qx qli qh)) (qh / 8)
   have l3:(Kerb.AAsk.base (Wf qc qs qp qt_ ql qx qli qh)).length≤300:=l1
   unfold Kerb.AAsk.msg
   split
   ·show (Kerb.spoil _ (qh / 8)).length≤_
    omega
   split
   ·rw [List.length_set];omega
   ·omega
  obtain ⟨M,hM⟩:∃ M,Kerb.AAsk.msg (Wf qc qs qp qt_ ql qx qli qh)=M:=⟨_,rfl⟩
  rw [hM] at lm
  have lm2:M.length≤140737488355328:=by omega
  obtain ⟨d1,d2⟩:=Kerb.simpleDb_err lf xp bd
  have d3:=Kerb.all_ents d2
  have d4:(Wk lf xp bd).entries.length≤1000000:=by have:=(Kerb.Db.err_inv d1).2.1;omega
  have d5:(Wk lf xp bd).realm.length≤9223372036854775807:=by show ([65,84,72]:List UInt8).length≤_;decide
  obtain ⟨D,hD⟩:∃ D,Wk lf xp bd=D:=⟨_,rfl⟩
  rw [hD] at d2 d3 d4 d5
  have hDD:Vz D.realm D.entries=D:=rfl
  obtain ⟨A,hA⟩:∃ A,Kerb.authAnswer D [] now (Vp ad) li se M=A:=⟨_,rfl⟩
  simp (config:={maxSteps:=10000000}) only [Kerb.wrap_u8i,z1,z2,z3,hsE,hse2,hM,lm,lm2,hD,hDD,d3,d4,d5,hA,Kerb.map_toEntry,List.map_nil,Wd,decide_true,Yg,Bool.true_and,Vw,↓sInt,↓sU8,↓sBool,↓sStr,↓sBs,↓sSl,↓sAgg,↓sTup,↓sCons,↓sNil,↓sNilB,↓sChk,↓sChkBind,↓sSome]
  cases hok:A.ok
  ·rw [Wh,sel_true]
   have:=Kerb.answer_no (by rw [hA];exact hok)
   rw [hA] at this
   rw [this]
   rfl
  rw [Zb,sel_false]
  obtain ⟨r,ei,L,hI⟩:=Kerb.issued (by rw [hA];exact hok)
  rw [hA] at hI
  obtain ⟨ej,Y,body,Pp,T,S⟩:=Kerb.seen17 hI d2 hse
  have hq:=hI.req
  obtain ⟨n1,n2,n3,n4⟩:=S.lens
  have k1:(decide ((0:Int)≤ei)&&decide (ei<(D.entries.length:Int)))=true:=by have:=S.i0;simp;omega
  have k2:(decide ((0:Int)≤ej)&&decide (ej<(D.entries.length:Int)))=true:=by have:=S.j0;simp;omega
  have g1:(D.entries.map Yn).getD ei.toNat Wq=(Wj D ei).av:=Vy S.i0.2
  have g2:(D.entries.map Yn).getD ej.toNat Wq=(Wj D ej).av:=Vy S.j0.2
  have hr0:Kerb.KdcReply.little Y=Y.little:=rfl
  simp (config:={maxSteps:=10000000}) only [hq,n1,n2,n3,n4,k1,k2,g1,g2,S.f1,S.f2,S.reply,S.client,S.time,S.box,S.part,S.tkt,Yn,BEq.rfl,Zb,↓sFalse,decide_true,Yg,Bool.true_and,Vw,↓sInt,↓sU8,↓sBool,↓sStr,↓sBs,↓sSl,↓sAgg,↓sTup,↓sCons,↓sNil,↓sNilB,↓sChk,↓sChkBind,↓sSome]
  have b1:(!Pp.ticket==A.issue.text)=false:=by rw [S.text];simp
  have b2:(!(T.client.name==r.client.name&&(T.client.inst==r.client.inst&&T.client.realm==r.client.realm)))=false:=by rw [S.t1];simp
  have b3:(!T.session==se)=false:=by rw [S.t2];simp
  have b4:(!Pp.session==se)=false:=by rw [S.t3];simp
  have b5:(!A.issue.session==se)=false:=by rw [S.t4];simp
  have b6:(!T.address==Vp ad)=false:=by rw [S.t5];simp
  have b7:(!T.service==r.service)=false:=by rw [S.t6];simp
  have b8:(!T.inst==r.inst)=false:=by rw [S.t7];simp
  have b9:(!T.issued==now)=false:=by rw [S.t8];simp
  have b10:(!A.issue.sealer==(Wj D ei).key)=false:=by rw [S.t9];simp
  rw [b1,sel_false,b2,sel_false,b3,sel_false,b4,sel_false,b5,sel_false,b6,sel_false,b7,sel_false,b8,sel_false,b9,sel_false,b10,sel_false]
  refine loop_rounds (fun m:Nat=>[Zz IntKind.u16 now,Zf false,Zx D.realm,AV.sl 9 (D.entries.map Yn),Zz Zj A.issue.kind,Zx A.issue.server.name,Zx A.issue.server.inst,Zx A.issue.server.realm,Zx A.issue.client.name,Zx A.issue.client.inst,Zx A.issue.client.realm,Zx A.issue.service.name,Zx A.issue.service.inst,Zx A.issue.service.realm,Zz Wp A.issue.session,Zz Wp A.issue.sealer,Zz Wp A.issue.granter,Zp A.issue.text,Zz Zj A.issue.issued,Zz Zj A.issue.stop,Zf r.little,Zx r.client.name,Zx r.client.inst,Zx r.client.realm,Zz Zj r.time,Zz Zj r.life,Zx r.service,Zx r.inst,Zz Zj ei,Zz Zj ej,Zf T.little,Zx T.client.name,Zx T.client.inst,Zx T.client.realm,Zz Zj T.address,Zz Wp T.session,Zz Zj T.life,Zz Zj T.issued,Zx T.service,Zx T.inst,Zz Zj (m:Int)]) (fun m=>m≤2) (fun m=>2-m) (fun x=>x=(Ex.exit 0,(fun m:Nat=>[Zz IntKind.u16 now,Zf false,Zx D.realm,AV.sl 9 (D.entries.map Yn),Zz Zj A.issue.kind,Zx A.issue.server.name,Zx A.issue.server.inst,Zx A.issue.server.realm,Zx A.issue.client.name,Zx A.issue.client.inst,Zx A.issue.client.realm,Zx A.issue.service.name,Zx A.issue.service.inst,Zx A.issue.service.realm,Zz Wp A.issue.session,Zz Wp A.issue.sealer,Zz Wp A.issue.granter,Zp A.issue.text,Zz Zj A.issue.issued,Zz Zj A.issue.stop,Zf r.little,Zx r.client.name,Zx r.client.inst,Zx r.client.realm,Zz Zj r.time,Zz Zj r.life,Zx r.service,Zx r.inst,Zz Zj ei,Zz Zj ej,Zf T.little,Zx T.client.name,Zx T.client.inst,Zx T.client.realm,Zz Zj T.address,Zz Wp T.session,Zz Zj T.life,Zz Zj T.issued,Zx T.service,Zx T.inst,Zz Zj (m:Int)]) 2)) 0 (by decide) rfl ?_ ?_
  ·intro m hm
   simp (config:={maxSteps:=10000000}) only [↓sInt,↓sU8,↓sBool,↓sStr,↓sBs,↓sSl,↓sAgg,↓sTup,↓sCons,↓sNil,↓sNilB,↓sChk,↓sChkBind,↓sSome]
   rcases Nat.lt_or_ge m 2 with h1 | h1
   case inr =>
    have:m=2:=by omega
    subst this
    exact ⟨_,rfl,rfl⟩
   have fin:∀ en:Kerb.Entry,(0<en.expires→A.issue.stop≤en.expires)∧T.life≤en.maxLife→(decide (en.expires>0)=true→decide (A.issue.stop>en.expires)=false)∧decide (T.life>en.maxLife)=false:=by
    rintro en ⟨h2,h3⟩
    simp only [decide_eq_true_eq,decide_eq_false_iff_not]
    omega
   have hm2:m=0∨m=1:=by omega
   rcases hm2 with rfl | rfl
   ·have hl:(decide (((0:Nat):Int)<2))=true:=rfl
    have hk:(decide ((0:Int)≤((0:Nat):Int))&&decide (((0:Nat):Int)<((Zy [Zz Zj ei,Zz Zj ej]:Nat):Int))&&true)=true:=rfl
    have hg:Wu [Zz Zj ei,Zz Zj ej] (Ym ((0:Nat):Int)) Wq=Zz Zj ei:=rfl
    obtain ⟨f1,f2⟩:=fin _ S.e1
    simp (config:={maxSteps:=10000000}) only [hl,hk,hg,k1,g1,f2,Yn,Wd,Vw,↓sTrue,↓sFalse,↓sInt,↓sU8,↓sBool,↓sStr,↓sBs,↓sSl,↓sAgg,↓sTup,↓sCons,↓sNil,↓sNilB,↓sChk,↓sChkBind,↓sSome]
    cases q:decide ((Wj D ei).expires>0)
    ·exact ⟨_,rfl,1,rfl,by decide,by decide⟩
    ·rw [sel_true,f1 q]
     exact ⟨_,rfl,1,rfl,by decide,by decide⟩
   ·have hl:(decide (((1:Nat):Int)<2))=true:=rfl
    have hk:(decide ((0:Int)≤((1:Nat):Int))&&decide (((1:Nat):Int)<((Zy [Zz Zj ei,Zz Zj ej]:Nat):Int))&&true)=true:=rfl
    have hg:Wu [Zz Zj ei,Zz Zj ej] (Ym ((1:Nat):Int)) Wq=Zz Zj ej:=rfl
    obtain ⟨f1,f2⟩:=fin _ S.e2
    simp (config:={maxSteps:=10000000}) only [hl,hk,hg,k2,g2,f2,Yn,Wd,Vw,↓sTrue,↓sFalse,↓sInt,↓sU8,↓sBool,↓sStr,↓sBs,↓sSl,↓sAgg,↓sTup,↓sCons,↓sNil,↓sNilB,↓sChk,↓sChkBind,↓sSome]
    cases q:decide ((Wj D ej).expires>0)
    ·exact ⟨_,rfl,2,rfl,by decide,by decide⟩
    ·rw [sel_true,f1 q]
     exact ⟨_,rfl,2,rfl,by decide,by decide⟩
  ·rintro _ rfl
   have w1:T.life≤r.life:=S.e3
   have e4:=S.e4
   have e5:=S.e5
   have w2:Yj .i64 (T.life+1)=T.life+1:=wrap_i64 (by omega) (by omega)
   have w3:Yj .i64 (300*(T.life+1))=300*(T.life+1):=wrap_i64 (by omega) (by omega)
   have w4:Yj .i64 (now+300*(T.life+1))=now+300*(T.life+1):=wrap_i64 (by omega) (by omega)
   simp (config:={maxSteps:=10000000}) only [z3,w1,w2,w3,w4,e4,BEq.rfl,decide_true,↓sTrue,↓sInt,↓sU8,↓sBool,↓sStr,↓sBs,↓sSl,↓sAgg,↓sTup,↓sCons,↓sNil,↓sNilB,↓sChk,↓sChkBind,↓sSome]
   rfl
 ·cases h
end Go.Proofs.YtlhambpafcdkbaaGreatDoor
