/- What the functions of this seat compute. -/
import Derived.Test.YtaikjfcgemjghaaGreatTab
import Derived.Test.YtaikjfcgemjghaaGreatKerbPlain
import Derived.Test.YtaikjfcgemjghaaGreatAbsStep
import Derived.Test.YtaikjfcgemjghaaGreatKerbKaPlain
import Derived.Test.YtaikjfcgemjghaaGreatKerbKaRef
import Derived.Test.YtaikjfcgemjghaaGreatKerbCli3
import Derived.Test.YtaikjfcgemjghaaGreatKerbCli4
import Derived.Test.YtaikjfcgemjghaaGreatKerbCli5
import Derived.Test.YtaikjfcgemjghaaGreatKerbSrvL
import Derived.Test.YtaikjfcgemjghaaGreatKerbKac2
open Go.Abs.AV renaming str→Zz,int→Zy,bs→Zu,tup→Zm,agg→Yx,bool→Yj,sl→Ym,onAgg→Xw,onInt→Vf,undef→Uv,ownB→Uf,onTup→Qu
open List renaming length→Zx,map→Yu,length_map→Xk,all→Wx,getD→Vq,append→Up
open Option renaming bind→Zw
open Kerb renaming encodeKaReply→Zv,keyBytes_len→Zq,putN_len→Zj,putPrin_len→Zp,toEntry→Yw,kaRefuse_nil→Yk,decodeKaRequest→Yf,map_toEntry→Yh,grantLife→Xz,putText→Xq,isEntry→Xj,Issue→Xp,decodeTicket→Xd,openTicket→Xg,encodeKaRequest→Xh,pGet→Wv,isU64→Wu,ends2→Wd,ents_of→Wn,putN→Wm,tEnd→Vw,imin→Vv,classOf→Vu,prin→Vj,openBox→Vg,KaOut→Vb,kaSecretOf→Vm,encodeTicket→Vh,pBytes→Uy,get→Ux,putTick→Uw,encodeKaAnswer→Uu,pText→Uk,isI64→Ug,getD_ent→Ub,within→Un,krbtgt→Um,kaGive→Uh,kaReplyDec→Qz,putPrin→Qy,noEntry→Qx,readKaReq→Qv,KaSecret→Qq
open Kerb.Prin renaming realm→Zk,name→Zf,inst→Zg,mk→Zh
open Kerb.Issue renaming service→Zd,server→Zb,client→Zn,session→Xn,granter→Xm,sealer→Wz,issued→Wy,text→Wj,stop→Wk,kind→Wp
open Kerb.Dec renaming val→Yz,err→Vx
open Kerb.KaReply renaming mk→Yy
open Prod renaming snd→Yv,fst→Yq
open Kerb.Db renaming mk→Yp,entries→Xv,realm→Xf,err→Uj
open Kerb.Enc renaming err→Yd,val→Yg
open Kerb.Entry renaming av→Yb,mk→Vp
open Bool renaming and_eq_true→Yn,and_self→Xx
open Nat renaming le_trans→Xy
open Kerb.KaOut renaming db→Xu,answer→Wq,issue→Wg,ok→Vy,mk→Vk
open Go.IntKind renaming i64→Xb,wrap→Uz
open Kerb.Ticket renaming client→Ww,mk→Uq
open Kerb.Rd renaming val→Wf,pos→Wh,bad→Vz
open Kerb.KaRequest renaming mk→Wb,user→Qj
open Int renaming toNat→Vd
open Kerb.KaAnswer renaming mk→Vn
open Kerb.GotP renaming val→Ud
open Kerb.ReplyPart renaming service→Qw
namespace Go.Proofs.YtaikjfcgemjghaaGreat
open Go Go.Abs Go.Proofs
set_option linter.unusedVariables false
set_option linter.unusedSimpArgs false
set_option maxRecDepth 100000
theorem w15:Walked Tryz.prog G 15 9 sp15:=by
 refine ⟨Tryz.f15,Tryz.func15,by decide +kernel,rfl,fun xs bl r h=> ?_⟩
 unfold sp15 at h
 split at h
 ·rename_i rl els now ad sk se msg
  obtain ⟨hpre,h2⟩:=chk_inv h;cases h2
  refine Eq.trans (b:=(let t0:List AV:=[Yx [Zy .i64 0,Zz [],Zz [],Zz [],Zz [],Zz [],Zz [],Zz [],Zz [],Zz [],Zy .u64 0,Zy .u64 0,Zy .u64 0,Zu [],Zy .i64 0,Zy .i64 0],Yj false];let t2:AV:=Yx [Zz rl,Ym 9 els];let t3:Bool:=l63 rl&&Wx els Xj&&decide (Zx els≤1000000);let t1:Option (AV×Blocks):=some (Zm (t2::Zu []::t0),[]);sel (!Un now 4294967295) t1 (sel (!Un ad 4294967295) t1 (Zw (chk (decide (Zx msg≤140737488355328)) (some (Zm [Yx [Zy .i64 (Kerb.KaRequest.op (Yz (Yf msg))),Zz (Zf (Qj (Yz (Yf msg)))),Zz (Zg (Qj (Yz (Yf msg)))),Zz (Zk (Qj (Yz (Yf msg)))),Zy .i64 (Kerb.KaRequest.kvno (Yz (Yf msg))),Zz (Kerb.KaRequest.realm (Yz (Yf msg))),Zu (Kerb.KaRequest.ticket (Yz (Yf msg))),Zz (Kerb.KaRequest.service (Yz (Yf msg))),Zz (Kerb.KaRequest.inst (Yz (Yf msg))),Zu (Kerb.KaRequest.box (Yz (Yf msg)))],Zy .i64 (Vx (Yf msg))],[]))) (kT fun vs=>onCons vs fun x r=>Xw x fun cs=>cInt .i64 cs fun n r_1=>cStr r_1 fun b r_2=>cStr r_2 fun b_1 r_3=>cStr r_3 fun b_2 r_4=>cInt .i64 r_4 fun n_1 r_5=>cStr r_5 fun b_3 r_6=>cBs r_6 fun b_4 r_7=>cStr r_7 fun b_5 r_8=>cStr r_8 fun b_6 r_9=>cBs r_9 fun b_7 r_10=>let t5:Vb:=Kerb.kaGetTicket (Yp rl (Yu Yw els)) now ad sk se (Wb n (Zh b b_1 b_2) n_1 b_3 b_4 b_5 b_6 b_7);let t4:Xp:=Wg t5;onNil r_10 (cInt .i64 r fun n_2 r=>onNil r (sel (!n_2==0) t1 (sel (n==2) (Zw (chk (l63 b&&l63 b_1&&l63 b_2&&l63 b_3&&l63 b_5&&l63 b_6&&l63 rl&&Wu se&&decide (Zx b_4≤1000000)&&decide (Zx b_7≤1000000)&&Wx els Xj&&decide (Zx els≤1000000)&&Un now 4294967295) (some (Zm [Zu (Wq t5),Yx [Zy .i64 (Wp t4),Zz (Zf (Zb t4)),Zz (Zg (Zb t4)),Zz (Zk (Zb t4)),Zz (Zf (Zn t4)),Zz (Zg (Zn t4)),Zz (Zk (Zn t4)),Zz (Zf (Zd t4)),Zz (Zg (Zd t4)),Zz (Zk (Zd t4)),Zy .u64 (Xn t4),Zy .u64 (Wz t4),Zy .u64 (Xm t4),Zu (Wj t4),Zy .i64 (Wy t4),Zy .i64 (Wk t4)],Yj (Vy t5)],[]))) (kT fun vs=>cBs vs fun b r=>onCons r fun x r=>Xw x fun cs=>cInt .i64 cs fun n r_11=>cStr r_11 fun b_8 r_12=>cStr r_12 fun b_9 r_13=>cStr r_13 fun b_10 r_14=>cStr r_14 fun b_11 r_15=>cStr r_15 fun b_12 r_16=>cStr r_16 fun b_13 r_17=>cStr r_17 fun b_14 r_18=>cStr r_18 fun b_15 r_19=>cStr r_19 fun b_16 r_20=>cInt .u64 r_20 fun n_3 r_21=>cInt .u64 r_21 fun n_4 r_22=>cInt .u64 r_22 fun n_5 r_23=>cBs r_23 fun b_17 r_24=>cInt .i64 r_24 fun n_6 r_25=>cInt .i64 r_25 fun n_7 r_26=>onNil r_26 (cBool r fun b_18 r=>onNil r (some (Zm [t2,Zu b,Yx [Zy .i64 n,Zz b_8,Zz b_9,Zz b_10,Zz b_11,Zz b_12,Zz b_13,Zz b_14,Zz b_15,Zz b_16,Zy .u64 n_3,Zy .u64 n_4,Zy .u64 n_5,Zu b_17,Zy .i64 n_6,Zy .i64 n_7],Yj b_18],[]))))) (sel (!b_2==rl) (some (Zm (t2::Zu (Kerb.kaRefuse n 8)::t0),[])) (Zw (chk (Wx els Xj&&decide (Zx els≤1000000)) (some (Zm [Zy .i64 (Yq (Kerb.clientEnt (Yp rl (Yu Yw els)) b b_1 now)),Zy .i64 (Yv (Kerb.clientEnt (Yp rl (Yu Yw els)) b b_1 now))],[]))) (kT fun vs=>cInt .i64 vs fun n_3 r=>let t6:Kerb.Db:=Kerb.kaClear (Yp rl (Yu Yw els)) n_3;let t7:Kerb.Entry:=Kerb.entAt (Yp rl (Yu Yw els)) n_3;cInt .i64 r fun n_4 r=>onNil r (sel (!n_4==0) (some (Zm (t2::Zu (Kerb.kaRefuse n n_4)::t0),[])) (chk (decide (0≤n_3)&&decide (n_3<(↑(Zx els):Int))&&true) (Xw (Vq els (Vd n_3) Uv) fun cs=>cStr cs fun b_8 r=>cStr r fun b_9 r=>cInt .u64 r fun n_5 r=>cInt .i64 r fun n_6 r=>cInt .i64 r fun n_7 r=>cInt .i64 r fun n_8 r=>cInt .i64 r fun n_9 r=>cInt .i64 r fun n_10 r=>cInt .i64 r fun n_11 r=>onNil r (sel (decide (now<n_11)) (some (Zm (t2::Zu (Kerb.kaRefuse n 81)::t0),[])) (chk (decide (0≤n_3)&&decide (n_3<(↑(Zx els):Int))&&true) (Xw (Vq els (Vd n_3) Uv) fun cs=>cStr cs fun b_10 r=>cStr r fun b_11 r=>cInt .u64 r fun n_12 r=>cInt .i64 r fun n_13 r=>cInt .i64 r fun n_14 r=>cInt .i64 r fun n_15 r=>cInt .i64 r fun n_16 r=>cInt .i64 r fun n_17 r=>cInt .i64 r fun n_18 r=>onNil r (Zw (chk (decide (Zx b_7≤140737488355328)) (some (Zm [Zu (Yq (Vg b_7 7 n_12)),Yj (Yv (Vg b_7 7 n_12))],[]))) (kT fun vs=>cBs vs fun b_12 r=>let t10:Vb:=Kerb.kaAuthenticate (Yp rl (Yu Yw els)) t6 t7 1 now ad sk se (Zh b b_1 b_2) b_12;let t11:Vb:=Kerb.kaChangePw (Yp rl (Yu Yw els)) t6 n_3 3 now sk b_12;let t8:Xp:=Wg t10;let t9:Xp:=Wg t11;cBool r fun b_13 r=>onNil r (sel (!b_13) (Zw (chk (Wx els Xj&&decide (Zx els≤1000000)&&decide (0≤n_3)&&decide (n_3<(↑(Zx els):Int))&&decide (Uj (Yp rl (Yu Yw els))=0)&&Un now 4294967295) (some (Yx [Zz (Xf (Kerb.kaFailed (Yp rl (Yu Yw els)) n_3 now)),Ym 9 (Yu Yb (Xv (Kerb.kaFailed (Yp rl (Yu Yw els)) n_3 now)))],[]))) (kA fun cs=>cStr cs fun b r=>cSl 9 r fun b_14 r=>onNil r (some (Zm (Yx [Zz b,Ym 9 b_14]::Zu (Kerb.kaRefuse n 62)::t0),[])))) (sel (n==3) (Zw (chk (t3&&decide (Uj (Yp rl (Yu Yw els))=0)&&decide (Zx b_12≤1000000)&&decide (0≤n_3)&&decide (n_3<(↑(Zx els):Int))) (some (Zm [Yx [Zz (Xf (Xu t11)),Ym 9 (Yu Yb (Xv (Xu t11)))],Zu (Wq t11),Yx [Zy .i64 (Wp t9),Zz (Zf (Zb t9)),Zz (Zg (Zb t9)),Zz (Zk (Zb t9)),Zz (Zf (Zn t9)),Zz (Zg (Zn t9)),Zz (Zk (Zn t9)),Zz (Zf (Zd t9)),Zz (Zg (Zd t9)),Zz (Zk (Zd t9)),Zy .u64 (Xn t9),Zy .u64 (Wz t9),Zy .u64 (Xm t9),Zu (Wj t9),Zy .i64 (Wy t9),Zy .i64 (Wk t9)],Yj (Vy t11)],[]))) (kT fun vs=>onCons vs fun x r=>Xw x fun cs=>cStr cs fun b r_11=>cSl 9 r_11 fun b_14 r_12=>onNil r_12 (cBs r fun b_15 r=>onCons r fun x r=>Xw x fun cs=>cInt .i64 cs fun n r_13=>cStr r_13 fun b_16 r_14=>cStr r_14 fun b_17 r_15=>cStr r_15 fun b_18 r_16=>cStr r_16 fun b_19 r_17=>cStr r_17 fun b_20 r_18=>cStr r_18 fun b_21 r_19=>cStr r_19 fun b_22 r_20=>cStr r_20 fun b_23 r_21=>cStr r_21 fun b_24 r_22=>cInt .u64 r_22 fun n_19 r_23=>cInt .u64 r_23 fun n_20 r_24=>cInt .u64 r_24 fun n_21 r_25=>cBs r_25 fun b_25 r_26=>cInt .i64 r_26 fun n_22 r_27=>cInt .i64 r_27 fun n_23 r_28=>onNil r_28 (cBool r fun b_26 r=>onNil r (some (Zm [Yx [Zz b,Ym 9 b_14],Zu b_15,Yx [Zy .i64 n,Zz b_16,Zz b_17,Zz b_18,Zz b_19,Zz b_20,Zz b_21,Zz b_22,Zz b_23,Zz b_24,Zy .u64 n_19,Zy .u64 n_20,Zy .u64 n_21,Zu b_25,Zy .i64 n_22,Zy .i64 n_23],Yj b_26],[])))))) (Zw (chk (t3&&l63 b&&l63 b_1&&l63 b_2&&decide (Zx b_12≤1000000)&&decide (0≤n_3)&&decide (n_3<(↑(Zx els):Int))&&Un now 4294967295&&Wu se) (some (Zm [Yx [Zz (Xf (Xu t10)),Ym 9 (Yu Yb (Xv (Xu t10)))],Zu (Wq t10),Yx [Zy .i64 (Wp t8),Zz (Zf (Zb t8)),Zz (Zg (Zb t8)),Zz (Zk (Zb t8)),Zz (Zf (Zn t8)),Zz (Zg (Zn t8)),Zz (Zk (Zn t8)),Zz (Zf (Zd t8)),Zz (Zg (Zd t8)),Zz (Zk (Zd t8)),Zy .u64 (Xn t8),Zy .u64 (Wz t8),Zy .u64 (Xm t8),Zu (Wj t8),Zy .i64 (Wy t8),Zy .i64 (Wk t8)],Yj (Vy t10)],[]))) (kT fun vs=>onCons vs fun x r=>Xw x fun cs=>cStr cs fun b r_11=>cSl 9 r_11 fun b_14 r_12=>onNil r_12 (cBs r fun b_15 r=>onCons r fun x r=>Xw x fun cs=>cInt .i64 cs fun n r_13=>cStr r_13 fun b_16 r_14=>cStr r_14 fun b_17 r_15=>cStr r_15 fun b_18 r_16=>cStr r_16 fun b_19 r_17=>cStr r_17 fun b_20 r_18=>cStr r_18 fun b_21 r_19=>cStr r_19 fun b_22 r_20=>cStr r_20 fun b_23 r_21=>cStr r_21 fun b_24 r_22=>cInt .u64 r_22 fun n_19 r_23=>cInt .u64 r_23 fun n_20 r_24=>cInt .u64 r_24 fun n_21 r_25=>cBs r_25 fun b_25 r_26=>cInt .i64 r_26 fun n_22 r_27=>cInt .i64 r_27 fun n_23 r_28=>onNil r_28 (cBool r fun b_26 r=>onNil r (some (Zm [Yx [Zz b,Ym 9 b_14],Zu b_15,Yx [Zy .i64 n,Zz b_16,Zz b_17,Zz b_18,Zz b_19,Zz b_20,Zz b_21,Zz b_22,Zz b_23,Zz b_24,Zy .u64 n_19,Zy .u64 n_20,Zy .u64 n_21,Zu b_25,Zy .i64 n_22,Zy .i64 n_23],Yj b_26],[]))))))))))))))))))))))))):Option (AV×Blocks))) (by kernel_rfl) ?_
  delta kT kA
  try dsimp only [cStr,cBs,cBool,cU8,cInt,cSl,l63]
  simp only [Yn,decide_eq_true_eq] at hpre
  obtain ⟨⟨⟨⟨⟨c7,hall⟩,hlen⟩,he⟩,c8⟩,hm⟩:=hpre
  obtain ⟨es,rfl,hok⟩:=Wn hall
  rw [Yh] at he ⊢
  simp only [Xk] at hlen
  have ml:decide (msg.length≤140737488355328)=true:=by simp;omega
  simp only [Yh,hall,he,Xk,hlen,ml,c7,c8,eq_self,decide_true,Xx,List.map_nil,↓A0,A0]
  unfold Kerb.kaserver
  try dsimp only
  cases hw:Un now 4294967295
  ·rfl
  cases hv:Un ad 4294967295
  ·rfl
  rw [sel_neg (by rfl),sel_neg (by rfl),if_neg (show ¬ ((!(true&&true))=true) from by decide)]
  have rb := @Kerb.kaReq_bd msg
  generalize Yf msg=R at rb ⊢
  by_cases h1:R.err=0
  case neg=>rw [sel_pos (by simpa using h1),if_pos h1];rfl
  rw [sel_neg (by simpa using h1),if_neg (not_not_intro h1)]
  obtain ⟨⟨r1,r2,r3,r4,r5,r6⟩,r7,r8,r9⟩:=rb h1
  have d1:decide (R.val.user.name.length≤9223372036854775807)=true:=decide_eq_true (Xy r1 (by decide))
  have d2:decide (R.val.user.inst.length≤9223372036854775807)=true:=decide_eq_true (Xy r2 (by decide))
  have d3:decide (R.val.user.realm.length≤9223372036854775807)=true:=decide_eq_true (Xy r3 (by decide))
  have d4:decide (R.val.realm.length≤9223372036854775807)=true:=decide_eq_true (Xy r4 (by decide))
  have d5:decide (R.val.service.length≤9223372036854775807)=true:=decide_eq_true (Xy r5 (by decide))
  have d6:decide (R.val.inst.length≤9223372036854775807)=true:=decide_eq_true (Xy r6 (by decide))
  have d8:decide (R.val.ticket.length≤1000000)=true:=decide_eq_true (Xy r8 (by decide))
  have d9:decide (R.val.box.length≤1000000)=true:=decide_eq_true (Xy r9 (by decide))
  have d10:decide (R.val.box.length≤140737488355328)=true:=decide_eq_true (Xy r9 (by decide))
  simp only [d1,d2,d3,d4,d5,d6,d8,d9,d10,hw,r7,c8,he,eq_self,decide_true,Xx,↓A0,A0]
  obtain ⟨⟨op,⟨u1,u2,u3⟩,kv,qr,tk,sv,ins,bx⟩,err⟩:=R
  dsimp only at *
  by_cases h2:op=2
  ·rw [sel_pos (by simpa using h2),if_pos h2]
   rw [Kerb.kaGetTicket_db]
  rw [sel_neg (by simpa using h2),if_neg h2]
  unfold Kerb.kaByUser
  dsimp only
  by_cases h3:u3=rl
  case neg=>rw [sel_pos (by simpa using h3),if_pos h3];try rfl
  rw [sel_neg (by simp [h3]),if_neg (not_not_intro h3)]
  have hs := @Kerb.clie_lt ⟨rl,es⟩ u1 u2 now
  generalize Kerb.clientEnt ⟨rl,es⟩ u1 u2 now=F at hs ⊢
  obtain ⟨i,e⟩:=F
  dsimp only at hs ⊢
  by_cases h4:e=0
  case neg=>rw [sel_pos (by simpa using h4),if_pos h4];try rfl
  obtain ⟨g1,g2⟩:=hs h4
  have g3:i<(es.length:Int):=by omega
  have i0:decide (0≤i)=true:=decide_eq_true g1
  have i1:decide (i<(es.length:Int))=true:=decide_eq_true g3
  rw [sel_neg (by simpa using h4),if_neg (not_not_intro h4)]
  simp only [i0,i1,Xx,chk_true,Ub g2]
  have hE:Kerb.entAt ⟨rl,es⟩ i=es.getD i.toNat Qx:=rfl
  rw [← hE]
  generalize hw2:Kerb.entAt ⟨rl,es⟩ i=w
  simp only [Yb,i0,i1,↓A0,A0]
  by_cases h5:now<w.till
  ·rw [sel_pos (by simpa using h5),if_pos h5];try rfl
  rw [sel_neg (by simpa using h5),if_neg h5]
  have ol:=Kerb.openBox_len bx 7 w.key
  generalize Vg bx 7 w.key=O at ol ⊢
  obtain ⟨bd,ok⟩:=O
  dsimp only at ol ⊢
  have bd1:decide (Zx bd≤1000000)=true:=by simp;omega
  cases ok
  ·rw [sel_pos (by rfl),if_pos rfl];try rfl
  rw [sel_neg (by rfl),if_neg (show ¬ (true=false) from by decide)]
  simp only [bd1,Xx,chk_true]
  have hop3:op=1∨op=3:=by
   simp [Kerb.kaOp] at r7
   omega
  rcases hop3 with rfl | rfl
  ·rw [sel_neg (by rfl),if_pos rfl];try rfl
  ·rw [sel_pos (by rfl),if_neg (by decide)];try rfl
 ·cases h
theorem w96:Walked Tryz.prog G 96 9 sp96:=by
 refine ⟨Tryz.f96,Tryz.func96,by decide +kernel,rfl,fun xs bl r h=> ?_⟩
 unfold sp96 at h
 split at h
 ·rename_i op ux uy uz kv rl tk sv ins bx
  obtain ⟨hpre,h2⟩:=chk_inv h;cases h2
  refine Eq.trans (b:=(let t1:List UInt8:=Kerb.header 9 false++Wm op 1 false;let t0:Nat:=Zx t1;Zw (chk (l63 ux&&l63 uy&&l63 uz&&l63 rl&&l63 sv&&l63 ins) (some (Zy .i64 (Yd (Xh (Wb op (Zh ux uy uz) kv rl tk sv ins bx))),[]))) (kI .i64 fun n=>sel (!n==0) (some (Zm [Zu [],Zy .i64 n],[])) (sel (op==2) (Zw (chk (decide (t0≤70368744177664)) (some (Uf (t1++Wm kv 1 false),[]))) (kO fun l=>Zw (chk (decide (Zx l+Zx rl≤70368744177664)) (some (Zu (Xq l rl),[]))) (kB fun b=>Zw (chk (decide (Zx b+Zx tk≤70368744170000)) (some (Zu (Uw b tk),[]))) (kB fun b=>Zw (chk (decide (Zx b+Zx sv≤70368744177664)) (some (Zu (Xq b sv),[]))) (kB fun b=>Zw (chk (decide (Zx b+Zx ins≤70368744177664)) (some (Zu (Xq b ins),[]))) (kB fun b=>Zw (chk (decide (Zx b+Zx bx≤70368744170000)) (some (Zu (Kerb.putBox b bx),[]))) (kB fun b=>some (Zm [Zu b,Zy .i64 0],[])))))))) (Zw (chk (decide (t0+Zx ux+Zx uy+Zx uz≤70368744170000)) (some (Zu (Qy t1 (Zh ux uy uz)),[]))) (kB fun b=>Zw (chk (decide (Zx b+Zx bx≤70368744170000)) (some (Zu (Kerb.putBox b bx),[]))) (kB fun b=>some (Zm [Zu b,Zy .i64 0],[])))))):Option (AV×Blocks))) (by kernel_rfl) ?_
  delta kB kO kI
  try dsimp only [cStr,cBs,cBool,cU8,cInt,cSl,l63]
  have hpre':=hpre
  simp only [Yn,decide_eq_true_eq] at hpre
  simp only [A0]
  rw [chk_of hpre']
  by_cases he:(Xh (Wb op ⟨ux,uy,uz⟩ kv rl tk sv ins bx)).err=0
  case neg =>
   rw [sel_pos (by simpa using he),Kerb.encKaReq_no he]
  rw [sel_neg (by simp [he]),he]
  have hl9:(Kerb.header 9 false).length=2:=rfl
  rcases Kerb.encKaReq_inv he with ⟨ho,v1,v2,v3,hk,ht,hb,hu,hv⟩ | ⟨ho,v1,hb,hk,hr,ht,hs,hn,hv⟩
  ·have l1:=Kerb.validRealm_len v1
   have l2:=Kerb.validName_len v2
   have l3:=Kerb.validInst_len v3
   simp only at ho l1 l2 l3 ht hb
   rw [sel_pos (by simpa using ho),hv]
   rw [chk_of (by simp [Zj,hl9]),chk_of (by simp [Zj,hl9];omega),chk_of (by simp [Zj,hl9,Kerb.putText_len];omega),chk_of (by simp [Zj,hl9,Kerb.putText_len,Uw];omega),chk_of (by simp [Zj,hl9,Kerb.putText_len,Uw];omega),chk_of (by simp [Zj,hl9,Kerb.putText_len,Uw];omega)]
   simp [Kerb.putBox,Xq,Uw]
  ·have l1:=Kerb.valid_len v1
   simp only at ho l1 hb
   rw [sel_neg (by simp;omega),hv]
   rw [chk_of (by simp [Zj,hl9];omega),chk_of (by simp [Zj,hl9,Zp];omega)]
   simp [Kerb.putBox,Xq,Qy]
 ·cases h
theorem w146:Walked Tryz.prog G 146 9 sp146:=by
 refine ⟨Tryz.f146,Tryz.func146,by decide +kernel,rfl,fun xs bl r h=> ?_⟩
 unfold sp146 at h
 split at h
 ·rename_i B at_ bad
  obtain ⟨hpre,h2⟩:=chk_inv h;cases h2
  show runFnH (G.env 146 9) G.rts (G.own 146) Tryz.f146 _ _ [0]=_
  refine Eq.trans (b:=(Zw (chk (decide (Zx B≤4611686018427387904)) (some (Zm [Yx [Zz (Zf (Ud (Vj B at_))),Zz (Zg (Ud (Vj B at_))),Zz (Zk (Ud (Vj B at_)))],Zy .i64 (Kerb.GotP.next (Vj B at_)),Zy .i64 (Kerb.GotP.err (Vj B at_))],[]))) fun (r:AV×Blocks)=>onNilB (Yv r) (Qu (Yq r) fun vs=>onCons vs fun x r=>Xw x fun cs=>onCons cs fun x r_1=>AV.onStr x fun b=>onCons r_1 fun x r_2=>AV.onStr x fun b_1=>onCons r_2 fun x r_3=>AV.onStr x fun b_2=>onNil r_3 (onCons r fun x r=>Vf .i64 x fun n=>onCons r fun x r=>Vf .i64 x fun n_1=>onNil r (sel (!!(bad || !n_1==0)) (some (Yx [Zz [],Zz [],Zz []],[[Zu B,Zy .i64 (bif bad || !n_1==0 then at_ else n),Yj (bad || !n_1==0)]])) (some (Yx [Zz b,Zz b_1,Zz b_2],[[Zu B,Zy .i64 (bif bad || !n_1==0 then at_ else n),Yj (bad || !n_1==0)]]))))):Option (AV×Blocks))) (by kernel_rfl) ?_
  have hb:=of_decide_eq_true hpre
  simp only [A0]
  rw [chk_of (by simp;omega)]
  unfold Kerb.pPrin
  cases bad
  ·simp only [Bool.false_or]
   generalize hq:(!(_==(0:Int)))=q
   cases q<;>rfl
  ·rfl
 ·cases h
theorem w157:Walked Tryz.prog G 157 9 sp157:=by
 refine ⟨Tryz.f157,Tryz.func157,by decide +kernel,rfl,fun xs bl r h=> ?_⟩
 unfold sp157 at h
 split at h
 ·rename_i rl els i en ei ek ev ex em ea ef et
  obtain ⟨hpre,h2⟩:=chk_inv h;cases h2
  refine Eq.trans (b:=(let t0:Kerb.Db:=Kerb.setEnt (Yp rl (Yu Yw els)) i (Vp en ei ek ev ex em ea ef et);let t1:AV:=Yx [Zz [],Ym 9 []];Zw (chk (l63 rl&&Wx els Xj&&decide (Zx els≤1000000)) (some (Zy .i64 (if Uj (Yp rl (Yu Yw els))≠0 then Uj (Yp rl (Yu Yw els)) else if i<0∨(↑(Zx els):Int)≤i then 104 else 0),[]))) (kI .i64 fun n=>sel (!n==0) (some (Zm [t1,Zy .i64 n],[])) (Zw (chk (l63 en&&l63 ei&&Wu ek) (some (Zy .i64 (Kerb.Entry.err (Vp en ei ek ev ex em ea ef et)),[]))) (kI .i64 fun n=>sel (!n==0) (some (Zm [t1,Zy .i64 n],[])) (chk (decide (0≤i)&&decide (i<(↑(Zx els):Int))&&true) (Xw (Vq els (Vd i) Uv) fun cs=>cStr cs fun b r=>cStr r fun b_1 r=>cInt .u64 r fun n r=>cInt .i64 r fun n r=>cInt .i64 r fun n r=>cInt .i64 r fun n r=>cInt .i64 r fun n r=>cInt .i64 r fun n r=>cInt .i64 r fun n r=>onNil r (sel (!(if Kerb.cmpB b en=0 then Kerb.cmpB b_1 ei else Kerb.cmpB b en)==0) (some (Zm [t1,Zy .i64 103],[])) (Zw (chk (Wx els Xj&&decide (Zx els≤1000000)&&decide (0≤i)&&decide (i<(↑(Zx els):Int))) (some (Yx [Zz (Xf t0),Ym 9 (Yu Yb (Xv t0))],[]))) (kA fun cs=>cStr cs fun b r=>cSl 9 r fun b_2 r=>onNil r (some (Zm [Yx [Zz b,Ym 9 b_2],Zy .i64 0],[])))))))))):Option (AV×Blocks))) (by kernel_rfl) ?_
  delta kA kI
  try dsimp only [cStr,cBs,cBool,cU8,cInt,cSl,l63]
  simp only [Yn,decide_eq_true_eq] at hpre
  obtain ⟨⟨⟨⟨⟨hr,hall⟩,hlen⟩,he1⟩,he2⟩,he3⟩:=hpre
  obtain ⟨es,rfl,hok⟩:=Wn hall
  rw [Yh]
  simp only [hr,hall,hlen,he1,he2,he3,decide_true,Xx,↓A0,A0]
  simp only [Xk] at hlen ⊢
  unfold Kerb.putEnt
  dsimp only
  generalize hz:Uj ⟨rl,es⟩=z
  by_cases hz0:z=0
  case neg=>rw [if_pos hz0,sel_pos (by simpa using hz0),if_pos hz0];try rfl
  by_cases hi:i<0∨(es.length:Int)≤i
  ·rw [if_neg (by simpa using hz0),if_pos hi,sel_pos (by rfl),if_neg (by simpa using hz0),if_pos hi];try rfl
  rw [if_neg (by simpa using hz0),if_neg hi,sel_neg (by rfl),if_neg (by simpa using hz0),if_neg hi]
  generalize hy:Kerb.Entry.err _=y
  by_cases hy0:y=0
  case neg=>rw [sel_pos (by simpa using hy0),if_pos hy0];rfl
  rw [sel_neg (by simpa using hy0),if_neg (by simpa using hy0)]
  have i0:decide (0≤i)=true:=by simp;omega
  have i1:decide (i<(es.length:Int))=true:=by simp;omega
  rw [chk_of (by rw [i0,i1];rfl),Ub (by omega)]
  generalize es.getD i.toNat Qx=e
  have hc:=Kerb.cmp_named e (Vp en ei ek ev ex em ea ef et)
  dsimp only at hc
  simp only [Yb,i0,i1,hc,↓A0,A0]
  cases hn:Kerb.Entry.named e.name e.inst (Vp en ei ek ev ex em ea ef et)
  ·rfl
  ·rfl
 ·cases h
theorem w208:Walked Tryz.prog G 208 9 sp208:=by
 refine ⟨Tryz.f208,Tryz.func208,by decide +kernel,rfl,fun xs bl r h=> ?_⟩
 unfold sp208 at h
 split at h
 ·rename_i lb t k st en kv x y z tk
  obtain ⟨hpre,h2⟩:=chk_inv h;cases h2
  refine Eq.trans (b:=(Zw (chk (l63 x&&l63 y&&l63 z&&decide (0≤k)&&decide (k<18446744073709551616)) (some (Zy .i64 (Yd (Uu (Vn lb t k st en kv (Zh x y z) tk))),[]))) (kI .i64 fun n=>sel (!n==0) (some (Zm [Zu [],Zy .i64 n],[])) (Zw (chk (decide (Zx lb≤70368744177664)) (some (Uf (lb++Wm t 4 false),[]))) (kO fun l=>sel (Kerb.ticketed lb) (Zw (chk (decide (0≤k)&&decide (k<18446744073709551616)) (some (Zu (Kerb.keyBytes k),[]))) (kB fun b=>chk (room (Zx l+Zx b) 1) (Zw (chk (decide (Zx (l++b)≤70368744177664)) (some (Uf (l++b++Wm st 4 false),[]))) (kO fun l=>Zw (chk (decide (Zx l≤70368744177664)) (some (Uf (l++Wm en 4 false),[]))) (kO fun l=>Zw (chk (decide (Zx l≤70368744177664)) (some (Uf (l++Wm kv 1 false),[]))) (kO fun l=>Zw (chk (decide (Zx l+Zx x+Zx y+Zx z≤70368744170000)) (some (Zu (Qy l (Zh x y z)),[]))) (kB fun b=>Zw (chk (decide (Zx b+Zx tk≤70368744170000)) (some (Zu (Uw b tk),[]))) (kB fun b=>Zw (chk (decide (Zx b≤70368744177664)) (some (Zu (Kerb.pad b),[]))) (kB fun b=>some (Zm [Zu b,Zy .i64 0],[])))))))))) (Zw (chk (decide (Zx l≤70368744177664)) (some (Zu (Kerb.pad l),[]))) (kB fun b=>some (Zm [Zu b,Zy .i64 0],[])))))):Option (AV×Blocks))) (by kernel_rfl) ?_
  delta kB kO kI
  try dsimp only [cStr,cBs,cBool,cU8,cInt,cSl,l63]
  have hpre':=hpre
  simp only [Yn,decide_eq_true_eq] at hpre
  have hk:(decide (0≤k)&&decide (k<18446744073709551616))=true:=by simp;omega
  simp only [A0,hpre',hk]
  by_cases he:(Uu (Vn lb t k st en kv ⟨x,y,z⟩ tk)).err=0
  case neg=>rw [sel_pos (by simpa using he),Kerb.encKaAns_no he]
  rw [sel_neg (by simp [he]),he]
  obtain ⟨ht,⟨hl,hl4,hk2,hs,hen,hv,hp,hx,hb⟩ | ⟨hl,hk2,hs,hen,hv,hp,hx,hb⟩⟩:=Kerb.encKaAns_inv he
  ·have l1:=Kerb.valid_len hp
   simp only at hl hl4 l1 hx
   rw [hb,chk_of (by simp;omega),sel_pos hl]
   rw [chk_of (Kerb.room_ok (by simp [Zj,Zq];omega)),chk_of (by simp [Zj,Zq];omega),chk_of (by simp [Zj,Zq];omega),chk_of (by simp [Zj,Zq];omega),chk_of (by simp [Zj,Zq];omega),chk_of (by simp [Zj,Zq,Zp];omega),chk_of (by simp [Zj,Zq,Zp,Uw];omega)]
   simp [Uw,Qy,Xq]
  ·simp only at hl
   have hl4:lb.length=4:=by rw [hl];rfl
   have hnt:Kerb.ticketed lb=false:=by rw [hl];decide
   rw [hb,chk_of (by simp;omega),sel_neg hnt,chk_of (by simp [Zj];omega)]
 ·cases h
theorem w232:Walked Tryz.prog G 232 9 sp232:=by
 refine ⟨Tryz.f232,Tryz.func232,by decide +kernel,rfl,fun xs bl r h=> ?_⟩
 unfold sp232 at h
 split at h
 ·rename_i rl els i k
  obtain ⟨hpre,h2⟩:=chk_inv h;cases h2
  refine Eq.trans (b:=(let t0:Bool:=Wx els Xj&&decide (Zx els≤1000000)&&decide (0≤i)&&decide (i<(↑(Zx els):Int));Zw (chk (l63 rl&&Wx els Xj&&decide (Zx els≤1000000)) (some (Zy .i64 (if Uj (Yp rl (Yu Yw els))≠0 then Uj (Yp rl (Yu Yw els)) else if i<0∨(↑(Zx els):Int)≤i then 104 else 0),[]))) (kI .i64 fun n=>sel (!n==0) (some (Zm [Yx [Zz [],Ym 9 []],Zy .i64 n],[])) (Zw (chk (decide (0≤k)&&decide (k<18446744073709551616)) (some (Yj (Kerb.keyValid k),[]))) (kL fun b=>sel (!b) (some (Zm [Yx [Zz [],Ym 9 []],Zy .i64 10],[])) (chk (decide (0≤i)&&decide (i<(↑(Zx els):Int))&&true) (Xw (Vq els (Vd i) Uv) fun cs=>cStr cs fun b r=>cStr r fun b_1 r=>cInt .u64 r fun n r=>cInt .i64 r fun n r=>cInt .i64 r fun n_1 r=>cInt .i64 r fun n_2 r=>cInt .i64 r fun n_3 r=>cInt .i64 r fun n_4 r=>cInt .i64 r fun n_5 r=>let t1:Kerb.Db:=Kerb.setEnt (Yp rl (Yu Yw els)) i (Vp b b_1 k (Uz .i64 (n+1)) n_1 n_2 n_3 n_4 n_5);let t2:Kerb.Db:=Kerb.setEnt (Yp rl (Yu Yw els)) i (Vp b b_1 k 1 n_1 n_2 n_3 n_4 n_5);onNil r (sel (decide (n<255)) (Zw (chk t0 (some (Yx [Zz (Xf t1),Ym 9 (Yu Yb (Xv t1))],[]))) (kA fun cs=>cStr cs fun b r=>cSl 9 r fun b_2 r=>onNil r (some (Zm [Yx [Zz b,Ym 9 b_2],Zy .i64 0],[])))) (Zw (chk t0 (some (Yx [Zz (Xf t2),Ym 9 (Yu Yb (Xv t2))],[]))) (kA fun cs=>cStr cs fun b r=>cSl 9 r fun b_2 r=>onNil r (some (Zm [Yx [Zz b,Ym 9 b_2],Zy .i64 0],[])))))))))):Option (AV×Blocks))) (by kernel_rfl) ?_
  delta kA kL kI
  try dsimp only [cStr,cBs,cBool,cU8,cInt,cSl,l63]
  simp only [Yn,decide_eq_true_eq] at hpre
  obtain ⟨⟨⟨⟨hr,hall⟩,hlen⟩,h0⟩,h1⟩:=hpre
  obtain ⟨es,rfl,hok⟩:=Wn hall
  rw [Yh]
  simp only [hr,hall,hlen,h0,h1,decide_true,Xx,↓A0,A0]
  simp only [Xk] at hlen ⊢
  unfold Kerb.rekey
  dsimp only
  generalize hz:Uj ⟨rl,es⟩=z
  by_cases hz0:z=0
  case neg=>rw [if_pos hz0,sel_pos (by simpa using hz0),if_pos hz0];try rfl
  by_cases hi:i<0∨(es.length:Int)≤i
  ·rw [if_neg (by simpa using hz0),if_pos hi,sel_pos (by rfl),if_neg (by simpa using hz0),if_pos hi];try rfl
  rw [if_neg (by simpa using hz0),if_neg hi,sel_neg (by rfl),if_neg (by simpa using hz0),if_neg hi]
  cases hk:Kerb.keyValid k
  ·rfl
  rw [sel_neg (by simp),if_neg (by simp)]
  have i0:decide (0≤i)=true:=by simp;omega
  have i1:decide (i<(es.length:Int))=true:=by simp;omega
  rw [chk_of (by rw [i0,i1];rfl),Ub (by omega)]
  have hx:=Kerb.errs_all (Kerb.Db.err_inv (hz.trans hz0)).2.2 _ (Kerb.ent_mem (es:=es) (i:=i.toNat) (by omega))
  generalize es.getD i.toNat Qx=e at hx
  have x4:=Kerb.within_iff.1 (Kerb.Entry.err_inv hx).2.2.2.1
  simp only [Yb,i0,i1,↓A0,A0]
  unfold Kerb.Entry.rekeyed
  try dsimp only
  by_cases hv:e.kvno<255
  ·rw [sel_pos (by simpa using hv),if_pos hv,wrap_i64 (by omega) (by omega)];rfl
  ·rw [sel_neg (by simpa using hv),if_neg hv];rfl
 ·cases h
theorem w261:Walked Tryz.prog G 261 9 sp261:=by
 refine ⟨Tryz.f261,Tryz.func261,by decide +kernel,rfl,fun xs bl r h=> ?_⟩
 unfold sp261 at h
 split at h
 ·rename_i li x y z ad k lf iss sv ins
  obtain ⟨hpre,h2⟩:=chk_inv h;cases h2
  refine Eq.trans (b:=(let t0:Nat:=Zx ([]++Wm 1 1 false)+Zx x+Zx y+Zx z;let t1:Nat:=Zx ([]++Wm 0 1 false)+Zx x+Zx y+Zx z;let t2:Option (AV×Blocks):=chk (decide (0≤k)&&decide (k<18446744073709551616)) (some (Zu (Kerb.keyBytes k),[]));Zw (chk (l63 x&&l63 y&&l63 z&&l63 sv&&l63 ins&&decide (0≤k)&&decide (k<18446744073709551616)) (some (Zy .i64 (Kerb.Ticket.err (Uq li (Zh x y z) ad k lf iss sv ins)),[]))) (kI .i64 fun n=>sel (!n==0) (some (Zm [Zu [],Zy .i64 n],[])) (sel li (Zw (chk (decide (t0≤70368744170000)) (some (Zu (Qy ([]++Wm 1 1 false) (Zh x y z)),[]))) (kB fun b=>Zw (chk (decide (Zx b≤70368744177664)) (some (Uf (b++Wm ad 4 li),[]))) (kO fun l=>Zw t2 (kB fun b=>Zw (chk (decide (Zx (Up l (Up b []))≤140737488355328)&&decide (Zx [Zu l,Zu b]≤1000)) (some (Uf (Up l (Up b [])),[]))) (kO fun l=>Zw (chk (decide (Zx l≤70368744177664)) (some (Uf (l++Wm lf 1 false),[]))) (kO fun l=>Zw (chk (decide (Zx l≤70368744177664)) (some (Uf (l++Wm iss 4 li),[]))) (kO fun l=>Zw (chk (decide (Zx l+Zx sv≤70368744177664)) (some (Zu (Xq l sv),[]))) (kB fun b=>Zw (chk (decide (Zx b+Zx ins≤70368744177664)) (some (Zu (Xq b ins),[]))) (kB fun b=>Zw (chk (decide (Zx b≤70368744177664)) (some (Zu (Kerb.pad b),[]))) (kB fun b=>some (Zm [Zu b,Zy .i64 0],[]))))))))))) (Zw (chk (decide (t1≤70368744170000)) (some (Zu (Qy ([]++Wm 0 1 false) (Zh x y z)),[]))) (kB fun b=>Zw (chk (decide (Zx b≤70368744177664)) (some (Uf (b++Wm ad 4 li),[]))) (kO fun l=>Zw t2 (kB fun b=>Zw (chk (decide (Zx (Up l (Up b []))≤140737488355328)&&decide (Zx [Zu l,Zu b]≤1000)) (some (Uf (Up l (Up b [])),[]))) (kO fun l=>Zw (chk (decide (Zx l≤70368744177664)) (some (Uf (l++Wm lf 1 false),[]))) (kO fun l=>Zw (chk (decide (Zx l≤70368744177664)) (some (Uf (l++Wm iss 4 li),[]))) (kO fun l=>Zw (chk (decide (Zx l+Zx sv≤70368744177664)) (some (Zu (Xq l sv),[]))) (kB fun b=>Zw (chk (decide (Zx b+Zx ins≤70368744177664)) (some (Zu (Xq b ins),[]))) (kB fun b=>Zw (chk (decide (Zx b≤70368744177664)) (some (Zu (Kerb.pad b),[]))) (kB fun b=>some (Zm [Zu b,Zy .i64 0],[]))))))))))))):Option (AV×Blocks))) (by kernel_rfl) ?_
  delta kB kO kI
  try dsimp only [cStr,cBs,cBool,cU8,cInt,cSl,l63]
  simp only [Yn,decide_eq_true_eq] at hpre
  obtain ⟨⟨⟨⟨⟨⟨h1,h2⟩,h3⟩,h4⟩,h5⟩,h6⟩,h7⟩:=hpre
  simp only [h1,h2,h3,h4,h5,h6,h7,decide_true,Xx,↓A0,A0]
  have hb := @Kerb.encTicket_inv ⟨li,⟨x,y,z⟩,ad,k,lf,iss,sv,ins⟩
  unfold Vh at hb ⊢
  dsimp only at hb ⊢
  generalize hE:Kerb.Ticket.err _=e at hb ⊢
  by_cases he:e=0
  case neg=>rw [sel_pos (by simpa using he),if_pos he]
  rw [if_neg (by simpa using he)] at hb
  obtain ⟨v1,v2,v3,_⟩:=hb rfl
  have l1:=Kerb.valid_len v1
  have l2:=(Kerb.name_ok v2).1
  have l3:=(Kerb.inst_ok v3).1
  dsimp only at l1
  rw [sel_neg (by simpa using he),if_neg (by simpa using he)]
  cases li
  ·rw [sel_false,chk_of (by first | (simp [Zp,Zj,Zq];done) | (simp [Zp,Zj,Zq];omega)),chk_of (by first | (simp [Zp,Zj,Zq];done) | (simp [Zp,Zj,Zq];omega)),chk_of (by first | (simp [Zp,Zj,Zq];done) | (simp [Zp,Zj,Zq];omega)),chk_of (by first | (simp [Zp,Zj,Zq];done) | (simp [Zp,Zj,Zq];omega)),chk_of (by first | (simp [Zp,Zj,Zq];done) | (simp [Zp,Zj,Zq];omega)),chk_of (by first | (simp [Zp,Zj,Zq];done) | (simp [Zp,Zj,Zq];omega)),chk_of (by first | (simp [Xq,Zp,Zj,Zq];done) | (simp [Xq,Zp,Zj,Zq];omega)),chk_of (by first | (simp [Xq,Zp,Zj,Zq];done) | (simp [Xq,Zp,Zj,Zq];omega))]
   simp
  ·rw [sel_true,chk_of (by first | (simp [Zp,Zj,Zq];done) | (simp [Zp,Zj,Zq];omega)),chk_of (by first | (simp [Zp,Zj,Zq];done) | (simp [Zp,Zj,Zq];omega)),chk_of (by first | (simp [Zp,Zj,Zq];done) | (simp [Zp,Zj,Zq];omega)),chk_of (by first | (simp [Zp,Zj,Zq];done) | (simp [Zp,Zj,Zq];omega)),chk_of (by first | (simp [Zp,Zj,Zq];done) | (simp [Zp,Zj,Zq];omega)),chk_of (by first | (simp [Zp,Zj,Zq];done) | (simp [Zp,Zj,Zq];omega)),chk_of (by first | (simp [Xq,Zp,Zj,Zq];done) | (simp [Xq,Zp,Zj,Zq];omega)),chk_of (by first | (simp [Xq,Zp,Zj,Zq];done) | (simp [Xq,Zp,Zj,Zq];omega))]
   simp
 ·cases h
theorem w66:Walked Tryz.prog G 66 10 sp66:=by
 refine ⟨Tryz.f66,Tryz.func66,by decide +kernel,rfl,fun xs bl r h=> ?_⟩
 unfold sp66 at h
 split at h
 ·rename_i b
  obtain ⟨hpre,h2⟩:=chk_inv h;cases h2
  refine Eq.trans (b:=(let t1:AV:=Yx [Zy .i64 0,Zz [],Zz [],Zz [],Zy .i64 0,Zz [],Zu [],Zz [],Zz [],Zu []];let t0:Option (AV×Blocks):=some (Zm [t1,Zy .i64 100],[]);sel (!Yv (Kerb.headIs b [9])==0) (some (Zm [t1,Zy .i64 (Yv (Kerb.headIs b [9]))],[])) (Zw (chk (decide (Zx b≤140737488355328)) (some (Zy .i64 (Wf (Wv b 1 2 false)),[[Zu b,Zy .i64 (Wh (Wv b 1 2 false)),Yj (Vz (Wv b 1 2 false))]]))) fun (r:AV×Blocks)=>onConsB (Yv r) fun (x:List AV) (r_1:List (List AV))=>cBs x fun b_1 r_2=>cInt .i64 r_2 fun n r_3=>cBool r_3 fun b_2 r_4=>onNil r_4 (onNilB r_1 (Vf .i64 (Yq r) fun n_1=>sel (n_1==2) (Zw (chk (decide (Zx b_1≤140737488355328)) (some (Zy .i64 (Wf (Wv b_1 1 n b_2)),[[Zu b_1,Zy .i64 (Wh (Wv b_1 1 n b_2)),Yj (Vz (Wv b_1 1 n b_2))]]))) fun (r:AV×Blocks)=>onConsB (Yv r) fun (x:List AV) (r_5:List (List AV))=>cBs x fun b_3 r_6=>cInt .i64 r_6 fun n r_7=>cBool r_7 fun b_4 r_8=>onNil r_8 (onNilB r_5 (Vf .i64 (Yq r) fun n_2=>Zw (chk (decide (Zx b_3≤140737488355328)) (some (Zz (Wf (Uk b_3 n b_4)),[[Zu b_3,Zy .i64 (Wh (Uk b_3 n b_4)),Yj (Vz (Uk b_3 n b_4))]]))) fun (r:AV×Blocks)=>onConsB (Yv r) fun (x:List AV) (r_9:List (List AV))=>cBs x fun b_5 r_10=>cInt .i64 r_10 fun n r_11=>cBool r_11 fun b_6 r_12=>onNil r_12 (onNilB r_9 (AV.onStr (Yq r) fun b_7=>Zw (chk (decide (Zx b_5≤140737488355328)) (some (Zy .i64 (Wf (Wv b_5 1 n b_6)),[[Zu b_5,Zy .i64 (Wh (Wv b_5 1 n b_6)),Yj (Vz (Wv b_5 1 n b_6))]]))) fun (r:AV×Blocks)=>onConsB (Yv r) fun (x:List AV) (r_13:List (List AV))=>cBs x fun b_8 r_14=>cInt .i64 r_14 fun n r_15=>cBool r_15 fun b_9 r_16=>onNil r_16 (onNilB r_13 (Vf .i64 (Yq r) fun n_3=>Zw (chk (decide (Zx b_8≤140737488355328)) (some (Zu (Wf (Uy b_8 n_3 n b_9)),[[Zu b_8,Zy .i64 (Wh (Uy b_8 n_3 n b_9)),Yj (Vz (Uy b_8 n_3 n b_9))]]))) fun (r:AV×Blocks)=>onConsB (Yv r) fun (x:List AV) (r_17:List (List AV))=>cBs x fun b_10 r_18=>cInt .i64 r_18 fun n r_19=>cBool r_19 fun b_11 r_20=>onNil r_20 (onNilB r_17 (AV.onBs (Yq r) fun b_12=>Zw (chk (decide (Zx b_10≤140737488355328)) (some (Zz (Wf (Uk b_10 n b_11)),[[Zu b_10,Zy .i64 (Wh (Uk b_10 n b_11)),Yj (Vz (Uk b_10 n b_11))]]))) fun (r:AV×Blocks)=>onConsB (Yv r) fun (x:List AV) (r_21:List (List AV))=>cBs x fun b_13 r_22=>cInt .i64 r_22 fun n r_23=>cBool r_23 fun b_14 r_24=>onNil r_24 (onNilB r_21 (AV.onStr (Yq r) fun b_15=>Zw (chk (decide (Zx b_13≤140737488355328)) (some (Zz (Wf (Uk b_13 n b_14)),[[Zu b_13,Zy .i64 (Wh (Uk b_13 n b_14)),Yj (Vz (Uk b_13 n b_14))]]))) fun (r:AV×Blocks)=>onConsB (Yv r) fun (x:List AV) (r_25:List (List AV))=>cBs x fun b_16 r_26=>cInt .i64 r_26 fun n r_27=>cBool r_27 fun b_17 r_28=>onNil r_28 (onNilB r_25 (AV.onStr (Yq r) fun b_18=>Zw (chk (decide (Zx b_16≤140737488355328)) (some (Zy .i64 (Wf (Wv b_16 2 n b_17)),[[Zu b_16,Zy .i64 (Wh (Wv b_16 2 n b_17)),Yj (Vz (Wv b_16 2 n b_17))]]))) fun (r:AV×Blocks)=>onConsB (Yv r) fun (x:List AV) (r_29:List (List AV))=>cBs x fun b_19 r_30=>cInt .i64 r_30 fun n r_31=>cBool r_31 fun b_20 r_32=>onNil r_32 (onNilB r_29 (Vf .i64 (Yq r) fun n_4=>Zw (chk (decide (Zx b_19≤140737488355328)) (some (Zu (Wf (Uy b_19 n_4 n b_20)),[[Zu b_19,Zy .i64 (Wh (Uy b_19 n_4 n b_20)),Yj (Vz (Uy b_19 n_4 n b_20))]]))) fun (r:AV×Blocks)=>onConsB (Yv r) fun (x:List AV) (r_33:List (List AV))=>cBs x fun b_21 r_34=>cInt .i64 r_34 fun n r_35=>cBool r_35 fun b_22 r_36=>onNil r_36 (onNilB r_33 (AV.onBs (Yq r) fun b_23=>sel b_22 t0 (Zw (chk (l63 b_7&&l63 b_15&&l63 b_18) (some (Zm [Zu (Yg (Xh (Wb n_1 (Zh [] [] []) n_2 b_7 b_12 b_15 b_18 b_23))),Zy .i64 (Yd (Xh (Wb n_1 (Zh [] [] []) n_2 b_7 b_12 b_15 b_18 b_23)))],[]))) (kT fun vs=>cBs vs fun b_24 r=>cInt .i64 r fun n r=>onNil r (sel (!n==0) t0 (sel (!b_24==b) t0 (some (Zm [Yx [Zy .i64 n_1,Zz [],Zz [],Zz [],Zy .i64 n_2,Zz b_7,Zu b_12,Zz b_15,Zz b_18,Zu b_23],Zy .i64 0],[]))))))))))))))))))))))) (Zw (chk (decide (Zx b_1≤140737488355328)) (some (Yx [Zz (Zf (Wf (Kerb.pPrin b_1 n b_2))),Zz (Zg (Wf (Kerb.pPrin b_1 n b_2))),Zz (Zk (Wf (Kerb.pPrin b_1 n b_2)))],[[Zu b_1,Zy .i64 (Wh (Kerb.pPrin b_1 n b_2)),Yj (Vz (Kerb.pPrin b_1 n b_2))]]))) fun (r:AV×Blocks)=>onConsB (Yv r) fun (x:List AV) (r_5:List (List AV))=>cBs x fun b_3 r_6=>cInt .i64 r_6 fun n r_7=>cBool r_7 fun b_4 r_8=>onNil r_8 (onNilB r_5 (Xw (Yq r) fun cs=>cStr cs fun b_5 r=>cStr r fun b_6 r=>cStr r fun b_7 r=>onNil r (Zw (chk (decide (Zx b_3≤140737488355328)) (some (Zy .i64 (Wf (Wv b_3 2 n b_4)),[[Zu b_3,Zy .i64 (Wh (Wv b_3 2 n b_4)),Yj (Vz (Wv b_3 2 n b_4))]]))) fun (r:AV×Blocks)=>onConsB (Yv r) fun (x:List AV) (r_9:List (List AV))=>cBs x fun b_8 r_10=>cInt .i64 r_10 fun n r_11=>cBool r_11 fun b_9 r_12=>onNil r_12 (onNilB r_9 (Vf .i64 (Yq r) fun n_2=>Zw (chk (decide (Zx b_8≤140737488355328)) (some (Zu (Wf (Uy b_8 n_2 n b_9)),[[Zu b_8,Zy .i64 (Wh (Uy b_8 n_2 n b_9)),Yj (Vz (Uy b_8 n_2 n b_9))]]))) fun (r:AV×Blocks)=>onConsB (Yv r) fun (x:List AV) (r_13:List (List AV))=>cBs x fun b_10 r_14=>cInt .i64 r_14 fun n r_15=>cBool r_15 fun b_11 r_16=>onNil r_16 (onNilB r_13 (AV.onBs (Yq r) fun b_12=>sel b_11 t0 (Zw (chk (l63 b_5&&l63 b_6&&l63 b_7&&true&&true&&true) (some (Zm [Zu (Yg (Xh (Wb n_1 (Zh b_5 b_6 b_7) 0 [] [] [] [] b_12))),Zy .i64 (Yd (Xh (Wb n_1 (Zh b_5 b_6 b_7) 0 [] [] [] [] b_12)))],[]))) (kT fun vs=>cBs vs fun b_13 r=>cInt .i64 r fun n r=>onNil r (sel (!n==0) t0 (sel (!b_13==b) t0 (some (Zm [Yx [Zy .i64 n_1,Zz b_5,Zz b_6,Zz b_7,Zy .i64 0,Zz [],Zu [],Zz [],Zz [],Zu b_12],Zy .i64 0],[]))))))))))))))))):Option (AV×Blocks))) (by kernel_rfl) ?_
  delta kT
  try dsimp only [cStr,cBs,cBool,cU8,cInt,cSl,l63]
  have hb:=of_decide_eq_true hpre
  simp only [A0]
  by_cases h:(Kerb.headIs b [9]).2=0
  case neg =>
   rw [sel_pos (by simpa using h)]
   unfold Yf
   rw [if_pos h]
   rfl
  have hd:Yf b=Kerb.decBy Kerb.noKaReq Xh Qv b:=by unfold Yf;rw [if_neg (by simpa using h)]
  rw [sel_neg (by simp [h]),hd]
  rw [chk_of hpre]
  by_cases h2:(Wv b 1 2 false).val=2
  ·have e2:((Wv b 1 2 false).val==2)=true:=by simpa using h2
   rw [sel_pos e2]
   rw [chk_of hpre,chk_of hpre,chk_of hpre,chk_of hpre,chk_of hpre,chk_of hpre,chk_of hpre,chk_of hpre]
   have lt:=Kerb.pText_len b
   rw [chk_of (by simp only [Yn,decide_eq_true_eq];exact ⟨⟨Xy (lt _ _) (by omega),Xy (lt _ _) (by omega)⟩,Xy (lt _ _) (by omega)⟩)]
   exact Kerb.decBy_fin (no:=Kerb.noKaReq) (enc:=Xh) (rd:=Qv) _ _ (by unfold Qv Kerb.pReq;dsimp only;rw [e2];rfl) (fun x e=>(Zm [Yx [Zy Xb (x).op,Zz (x).user.name,Zz (x).user.inst,Zz (x).user.realm,Zy Xb (x).kvno,Zz (x).realm,Zu (x).ticket,Zz (x).service,Zz (x).inst,Zu (x).box],Zy Xb e],([]:Blocks)))
  ·have e2:((Wv b 1 2 false).val==2)=false:=by simpa using h2
   rw [sel_neg e2]
   rw [chk_of hpre,chk_of hpre,chk_of hpre]
   have lt:=Kerb.pPrin_len b (Wv b 1 2 false).pos (Wv b 1 2 false).bad
   rw [chk_of (by simp;omega)]
   exact Kerb.decBy_fin (no:=Kerb.noKaReq) (enc:=Xh) (rd:=Qv) _ _ (by unfold Qv Kerb.pReq;dsimp only;rw [e2];rfl) (fun x e=>(Zm [Yx [Zy Xb (x).op,Zz (x).user.name,Zz (x).user.inst,Zz (x).user.realm,Zy Xb (x).kvno,Zz (x).realm,Zu (x).ticket,Zz (x).service,Zz (x).inst,Zu (x).box],Zy Xb e],([]:Blocks)))
 ·cases h
theorem w156:Walked Tryz.prog G 156 10 sp156:=by
 refine ⟨Tryz.f156,Tryz.func156,by decide +kernel,rfl,fun xs bl r h=> ?_⟩
 unfold sp156 at h
 split at h
 ·rename_i i op u1 u2 u3 kv qr tk sv ins bx rl els now ad sk se
  obtain ⟨hpre,h2⟩:=chk_inv h;cases h2
  show runFnH (G.env 156 10) G.rts (G.own 156) Tryz.f156 _ _ [0]=_
  refine Eq.trans (b:=(let t1:List (List AV):=[[Zy .i64 op,Zz u1,Zz u2,Zz u3,Zy .i64 kv,Zz qr,Zu tk,Zz sv,Zz ins,Zu bx,Zz rl,Ym 9 els,Zy .i64 now,Zy .i64 ad,Zy .i64 sk,Zy .u64 se]];let t3:List AV:=[Zy .i64 0,Zz [],Zz [],Zz [],Zz [],Zz [],Zz [],Zz [],Zz [],Zz [],Zy .u64 0,Zy .u64 0,Zy .u64 0,Zu [],Zy .i64 0,Zy .i64 0,Yj false];let t4:Bool:=l63 rl&&Wx els Xj&&decide (Zx els≤1000000);let t0:Option (AV×Blocks):=some (Yx (Zz rl::Ym 9 els::Zu []::t3),t1);let t2:List AV:=Zu (Yg (Zv (Yy op 62 [])))::t3;chk (decide (0≤i)&&decide (i<(↑(Zx els):Int))&&true) (Xw (Vq els (Vd i) Uv) fun cs=>cStr cs fun b r=>cStr r fun b_1 r=>cInt .u64 r fun n r=>let t5:Bool:=t4&&l63 b&&l63 b_1&&Wu n;cInt .i64 r fun n_1 r=>cInt .i64 r fun n_2 r=>cInt .i64 r fun n_3 r=>cInt .i64 r fun n_4 r=>let t7:Kerb.Dec Kerb.Db:=Kerb.putEnt (Yp rl (Yu Yw els)) i (Vp b b_1 n n_1 n_2 n_3 n_4 0 (Vv (Uz .i64 (now+600)) 4294967295));let t6:Kerb.Db:=Yz t7;cInt .i64 r fun n_5 r=>cInt .i64 r fun n_6 r=>let t9:Kerb.Dec Kerb.Db:=Kerb.putEnt (Yp rl (Yu Yw els)) i (Vp b b_1 n n_1 n_2 n_3 n_4 (Uz .i64 (n_5+1)) n_6);let t8:Kerb.Db:=Yz t9;onNil r (sel (decide (Uz .i64 (n_5+1)≥20)) (Zw (chk t5 (some (Zm [Yx [Zz (Xf t6),Ym 9 (Yu Yb (Xv t6))],Zy .i64 (Vx t7)],[]))) (kT fun vs=>onCons vs fun x r=>Xw x fun cs=>cStr cs fun b r_1=>cSl 9 r_1 fun b_2 r_2=>onNil r_2 (cInt .i64 r fun n r=>onNil r (sel (!n==0) t0 (sel (!Yd (Zv (Yy op 62 []))==0) t0 (some (Yx (Zz b::Ym 9 b_2::t2),t1))))))) (Zw (chk t5 (some (Zm [Yx [Zz (Xf t8),Ym 9 (Yu Yb (Xv t8))],Zy .i64 (Vx t9)],[]))) (kT fun vs=>onCons vs fun x r=>Xw x fun cs=>cStr cs fun b r_1=>cSl 9 r_1 fun b_2 r_2=>onNil r_2 (cInt .i64 r fun n r=>onNil r (sel (!n==0) t0 (sel (!Yd (Zv (Yy op 62 []))==0) t0 (some (Yx (Zz b::Ym 9 b_2::t2),t1))))))))):Option (AV×Blocks))) (by kernel_rfl) ?_
  delta kT
  try dsimp only [cStr,cBs,cBool,cU8,cInt,cSl,l63]
  simp only [Yn,decide_eq_true_eq] at hpre
  obtain ⟨⟨⟨⟨⟨hpre,he⟩,h0⟩,h1⟩,hop⟩,hn⟩:=hpre
  obtain ⟨⟨⟨⟨⟨⟨⟨⟨⟨⟨⟨c1,c2⟩,c3⟩,c4⟩,c5⟩,c6⟩,c7⟩,c8⟩,c9⟩,c10⟩,hall⟩,hlen⟩:=hpre
  obtain ⟨es,rfl,hok⟩:=Wn hall
  rw [Yh] at *
  simp only [Xk] at hlen h1
  have i0:decide (0≤i)=true:=by simp;omega
  have i1:decide (i<(es.length:Int))=true:=by simp;omega
  simp only [hall,Xk,hlen,c7,i0,i1,decide_true,Xx,↓A0,A0]
  rw [Ub (by omega)]
  have hp:=Kerb.putEnt_failed (d:=⟨rl,es⟩) he h0 h1 hn
  have hx:=Kerb.entAt_err (d:=⟨rl,es⟩) he h0 h1
  have ho:=hok _ (Kerb.ent_mem (es:=es) (i:=i.toNat) (by omega))
  unfold Kerb.entAt at hp hx
  dsimp only at hp hx
  generalize es.getD i.toNat Qx=e at hp hx ho
  have x9:=Kerb.within_iff.1 (Kerb.Entry.err_inv hx).2.2.2.2.2.2.2.2
  have n9:=Kerb.within_iff.1 hn
  have hr:=Kerb.kaRefuse_ok (op:=op) (c:=62) hop (by decide) (by decide)
  obtain ⟨o1,o2,o3,_⟩:=ho
  simp only [Yb,o1,o2,o3,hr,decide_true,Xx,↓A0,A0]
  unfold Kerb.Entry.failed at hp
  rw [wrap_i64 (n:=e.fails+1) (by omega) (by omega)]
  by_cases hf:20≤e.fails+1
  ·rw [if_pos hf] at hp
   rw [sel_pos (by simpa using hf),wrap_i64 (by omega) (by omega),hp]
   rfl
  ·rw [if_neg hf] at hp
   rw [sel_neg (by simpa using hf),hp]
   rfl
 ·cases h
theorem w225:Walked Tryz.prog G 225 10 sp225:=by
 refine ⟨Tryz.f225,Tryz.func225,by decide +kernel,rfl,fun xs bl r h=> ?_⟩
 unfold sp225 at h
 split at h
 ·rename_i key al at_ ase ast aen akv a1 a2 a3 atk op u1 u2 u3 kv qr tk sv ins bx rl els now ad sk se
  obtain ⟨hpre,h2⟩:=chk_inv h;cases h2
  show runFnH (G.env 225 10) G.rts (G.own 225) Tryz.f225 _ _ [0]=_
  refine Eq.trans (b:=(let t0:List (List AV):=[[Zy .i64 op,Zz u1,Zz u2,Zz u3,Zy .i64 kv,Zz qr,Zu tk,Zz sv,Zz ins,Zu bx,Zz rl,Ym 9 els,Zy .i64 now,Zy .i64 ad,Zy .i64 sk,Zy .u64 se]];Zw (chk (l63 a1&&l63 a2&&l63 a3&&decide (0≤ase)&&decide (ase<18446744073709551616)) (some (Zm [Zu (Yg (Uu (Vn al at_ ase ast aen akv (Zh a1 a2 a3) atk))),Zy .i64 (Yd (Uu (Vn al at_ ase ast aen akv (Zh a1 a2 a3) atk)))],[]))) (kT fun vs=>cBs vs fun b r=>cInt .i64 r fun n r=>onNil r (sel (!n==0) (some (Zm [Zu [],Zy .i64 n],t0)) (Zw (chk (decide (0≤key)&&decide (key<18446744073709551616)) (some (Zm [Zu (Yg (Kerb.makeBox 8 key b)),Zy .i64 (Yd (Kerb.makeBox 8 key b))],[]))) (kT fun vs=>cBs vs fun b r=>cInt .i64 r fun n r=>onNil r (sel (!n==0) (some (Zm [Zu [],Zy .i64 n],t0)) (some (Zm [Zu (Yg (Zv (Yy op 0 b))),Zy .i64 (Yd (Zv (Yy op 0 b)))],t0))))))):Option (AV×Blocks))) (by kernel_rfl) ?_
  delta kT
  try dsimp only [cStr,cBs,cBool,cU8,cInt,cSl,l63]
  simp only [Yn,decide_eq_true_eq] at hpre
  simp only [Kerb.isU64_iff] at hpre
  obtain ⟨⟨⟨⟨⟨h1,h2⟩,h3⟩,h4⟩,h5,h6⟩,h7,h8⟩:=hpre
  simp only [h1,h2,h3,h4,h5,h6,h7,h8,decide_true,Xx,↓A0,A0]
  unfold Qz
  try dsimp only
  generalize Uu _=E
  by_cases he:E.err=0
  case neg=>rw [sel_pos (by simpa using he),if_pos he]
  rw [sel_neg (by simpa using he),if_neg (by simpa using he)]
  generalize Kerb.makeBox _ _ _=F
  by_cases hf:F.err=0
  case neg=>rw [sel_pos (by simpa using hf),if_pos hf]
  rw [sel_neg (by simpa using hf),if_neg (by simpa using hf)]
 ·cases h
theorem w249:Walked Tryz.prog G 249 10 sp249:=by
 refine ⟨Tryz.f249,Tryz.func249,by decide +kernel,rfl,fun xs bl r h=> ?_⟩
 unfold sp249 at h
 split at h
 ·rename_i b
  obtain ⟨hpre,h2⟩:=chk_inv h;cases h2
  refine Eq.trans (b:=(let t1:AV:=Yx [Yj false,Zz [],Zz [],Zz [],Zy .i64 0,Zy .u64 0,Zy .i64 0,Zy .i64 0,Zz [],Zz []];let t0:Option (AV×Blocks):=some (Zm [t1,Zy .i64 100],[]);Zw (chk (decide (Zx b≤4611686018427387904)) (some (Zm [Zy .i64 (Kerb.Got.val (Ux b 0 1 false)),Zy .i64 (Kerb.Got.next (Ux b 0 1 false)),Zy .i64 (Kerb.Got.err (Ux b 0 1 false))],[]))) (kT fun vs=>cInt .i64 vs fun n r=>cInt .i64 r fun n_1 r=>cInt .i64 r fun n_2 r=>onNil r (sel (decide (n>1)) (some (Zm [t1,Zy .i64 7],[])) (Zw (chk (decide (Zx b≤4611686018427387904)) (some (Zm [Yx [Zz (Zf (Ud (Vj b n_1))),Zz (Zg (Ud (Vj b n_1))),Zz (Zk (Ud (Vj b n_1)))],Zy .i64 (Kerb.GotP.next (Vj b n_1)),Zy .i64 (Kerb.GotP.err (Vj b n_1))],[]))) (kT fun vs=>onCons vs fun x r=>Xw x fun cs=>cStr cs fun b_1 r_1=>cStr r_1 fun b_2 r_2=>cStr r_2 fun b_3 r_3=>onNil r_3 (cInt .i64 r fun n_3 r=>cInt .i64 r fun n_4 r=>onNil r (Zw (chk (decide (Zx b≤4611686018427387904)) (some (Zm [Zy .i64 (Kerb.Got.val (Ux b n_3 4 (n==1))),Zy .i64 (Kerb.Got.next (Ux b n_3 4 (n==1))),Zy .i64 (Kerb.Got.err (Ux b n_3 4 (n==1)))],[]))) (kT fun vs=>cInt .i64 vs fun n_5 r=>cInt .i64 r fun n_6 r=>cInt .i64 r fun n_7 r=>onNil r (Zw (chk (decide (Zx b≤140737488355328)) (some (Zm [Zu (Kerb.GotB.val (Kerb.bytes b n_6 8)),Zy .i64 (Kerb.GotB.next (Kerb.bytes b n_6 8)),Zy .i64 (Kerb.GotB.err (Kerb.bytes b n_6 8))],[]))) (kT fun vs=>cBs vs fun b_4 r=>cInt .i64 r fun n_8 r=>cInt .i64 r fun n_9 r=>onNil r (Zw (chk (decide (Zx b_4≤4611686018427387904)) (some (Zm [Zy .u64 (Yq (Kerb.keyRead b_4)),Yj (Yv (Kerb.keyRead b_4))],[]))) (kT fun vs=>cInt .u64 vs fun n_10 r=>cBool r fun b_5 r=>onNil r (Zw (chk (decide (Zx b≤4611686018427387904)) (some (Zm [Zy .i64 (Kerb.Got.val (Ux b n_8 1 false)),Zy .i64 (Kerb.Got.next (Ux b n_8 1 false)),Zy .i64 (Kerb.Got.err (Ux b n_8 1 false))],[]))) (kT fun vs=>cInt .i64 vs fun n_11 r=>cInt .i64 r fun n_12 r=>cInt .i64 r fun n_13 r=>onNil r (Zw (chk (decide (Zx b≤4611686018427387904)) (some (Zm [Zy .i64 (Kerb.Got.val (Ux b n_12 4 (n==1))),Zy .i64 (Kerb.Got.next (Ux b n_12 4 (n==1))),Zy .i64 (Kerb.Got.err (Ux b n_12 4 (n==1)))],[]))) (kT fun vs=>cInt .i64 vs fun n_14 r=>cInt .i64 r fun n_15 r=>cInt .i64 r fun n_16 r=>onNil r (Zw (chk (decide (Zx b≤4611686018427387904)) (some (Zm [Zz (Kerb.GotB.val (Kerb.text b n_15)),Zy .i64 (Kerb.GotB.next (Kerb.text b n_15)),Zy .i64 (Kerb.GotB.err (Kerb.text b n_15))],[]))) (kT fun vs=>cStr vs fun b_6 r=>cInt .i64 r fun n_17 r=>cInt .i64 r fun n_18 r=>onNil r (Zw (chk (decide (Zx b≤4611686018427387904)) (some (Zm [Zz (Kerb.GotB.val (Kerb.text b n_17)),Zy .i64 (Kerb.GotB.next (Kerb.text b n_17)),Zy .i64 (Kerb.GotB.err (Kerb.text b n_17))],[]))) (kT fun vs=>cStr vs fun b_7 r=>let t2:Kerb.Enc:=Vh (Uq (n==1) (Zh b_1 b_2 b_3) n_5 n_10 n_11 n_14 b_6 b_7);cInt .i64 r fun n_19 r=>cInt .i64 r fun n_20 r=>onNil r (Zw (chk (l63 b_1&&l63 b_2&&l63 b_3&&l63 b_6&&l63 b_7&&decide (0≤n_10)&&decide (n_10<18446744073709551616)) (some (Zm [Zu (Yg t2),Zy .i64 (Yd t2)],[]))) (kT fun vs=>cBs vs fun b_8 r=>cInt .i64 r fun n_21 r=>onNil r (sel (!n_21==0) t0 (sel (!b_8==b) t0 (some (Zm [Yx [Yj (n==1),Zz b_1,Zz b_2,Zz b_3,Zy .i64 n_5,Zy .u64 n_10,Zy .i64 n_11,Zy .i64 n_14,Zz b_6,Zz b_7],Zy .i64 0],[]))))))))))))))))))))))))):Option (AV×Blocks))) (by kernel_rfl) ?_
  delta kT
  try dsimp only [cStr,cBs,cBool,cU8,cInt,cSl,l63]
  have hb:=of_decide_eq_true hpre
  have hpre2:decide (b.length≤4611686018427387904)=true:=by simp;omega
  simp only [hpre,hpre2,↓A0,A0]
  unfold Xd
  by_cases h7:1<(Ux b 0 1 false).val
  ·rw [sel_pos (by simpa using h7),if_pos h7];try rfl
  rw [sel_neg (by simpa using h7),if_neg h7]
  have hl:∀ p n,(Kerb.bytes b p n).val.length≤4611686018427387904:=fun p n=>Xy (Kerb.bytes_len b p n) (by omega)
  have hk:∀ q,0≤(Kerb.keyRead q).1∧(Kerb.keyRead q).1<18446744073709551616:=Kerb.keyRead_bd
  have hx:∀ q,(Kerb.text b q).val.length≤40:=Kerb.text_len b
  have lp:∀ q (_:Unit),(Vj b q).val.name.length≤40∧(Vj b q).val.inst.length≤40∧(Vj b q).val.realm.length≤40:=fun q _=>Kerb.prin_len b q
  rw [chk_of (by simp only [decide_eq_true_eq];exact hl _ _),chk_of (by simp only [Yn,decide_eq_true_eq];exact ⟨⟨⟨⟨⟨⟨Xy (lp _ ()).1 (by decide),Xy (lp _ ()).2.1 (by decide)⟩,Xy (lp _ ()).2.2 (by decide)⟩,Xy (hx _) (by decide)⟩,Xy (hx _) (by decide)⟩,(hk _).1⟩,(hk _).2⟩)]
  exact Kerb.decBy_fin (no:=Kerb.noTicket) (enc:=Vh) (rd:=fun b=>(Kerb.readTicket b,false)) _ false rfl (fun x e=>(Zm [Yx [Yj (x).little,Zz (x).client.name,Zz (x).client.inst,Zz (x).client.realm,Zy Xb (x).address,Zy IntKind.u64 (x).session,Zy Xb (x).life,Zy Xb (x).issued,Zz (x).service,Zz (x).inst],Zy Xb e],([]:Blocks)))
 ·cases h
theorem w250:Walked Tryz.prog G 250 10 sp250:=by
 refine ⟨Tryz.f250,Tryz.func250,by decide +kernel,rfl,fun xs bl r h=> ?_⟩
 unfold sp250 at h
 split at h
 ·rename_i li x y z ad k lf iss sv ins key
  obtain ⟨hpre,h2⟩:=chk_inv h;cases h2
  refine Eq.trans (b:=(Zw (chk (decide (Zx x≤9223372036854775807)&&decide (Zx y≤9223372036854775807)&&decide (Zx z≤9223372036854775807)&&decide (Zx sv≤9223372036854775807)&&decide (Zx ins≤9223372036854775807)&&decide (0≤k)&&decide (k<18446744073709551616)) (some (Zm [Zu (Yg (Vh (Uq li (Zh x y z) ad k lf iss sv ins))),Zy .i64 (Yd (Vh (Uq li (Zh x y z) ad k lf iss sv ins)))],[]))) fun (r:AV×Blocks)=>onNilB (Yv r) (Qu (Yq r) fun vs=>onCons vs fun x r=>AV.onBs x fun b=>onCons r fun x r=>Vf .i64 x fun n=>onNil r (sel (!n==0) (some (Zm [Zu [],Zy .i64 n],[])) (Zw (chk (decide (0≤key)&&decide (key<18446744073709551616)) (some (Zm [Zu (Yg (Kerb.makeBox 1 key b)),Zy .i64 (Yd (Kerb.makeBox 1 key b))],[]))) fun (r:AV×Blocks)=>onNilB (Yv r) (Qu (Yq r) fun vs=>onCons vs fun x r=>AV.onBs x fun b=>onCons r fun x r=>Vf .i64 x fun n=>onNil r (some (Zm [Zu b,Zy .i64 n],[])))))):Option (AV×Blocks))) (by kernel_rfl) ?_
  simp only [Yn,decide_eq_true_eq] at hpre
  obtain ⟨⟨⟨⟨⟨⟨⟨⟨h1,h2⟩,h3⟩,h4⟩,h5⟩,h6⟩,h7⟩,h8⟩,h9⟩:=hpre
  simp only [h1,h2,h3,h4,h5,h6,h7,h8,h9,decide_true,Xx,↓A0,A0]
  unfold Kerb.sealTicket
  generalize Vh _=E
  by_cases he:E.err=0
  ·rw [sel_neg (by simpa using he),if_neg (by simpa using he)]
  ·rw [sel_pos (by simpa using he),if_pos he]
 ·cases h
theorem w160:Walked Tryz.prog G 160 11 sp160:=by
 refine ⟨Tryz.f160,Tryz.func160,by decide +kernel,rfl,fun xs bl r h=> ?_⟩
 unfold sp160 at h
 split at h
 ·rename_i dr dls i bd op u1 u2 u3 kv qr tk sv ins bx rl els now ad sk se
  obtain ⟨hpre,h2⟩:=chk_inv h;cases h2
  show runFnH (G.env 160 11) G.rts (G.own 160) Tryz.f160 _ _ [0]=_
  refine Eq.trans (b:=(let t1:List AV:=[Zy .i64 0,Zz [],Zz [],Zz [],Zz [],Zz [],Zz [],Zz [],Zz [],Zz [],Zy .u64 0,Zy .u64 0,Zy .u64 0,Zu [],Zy .i64 0,Zy .i64 0,Yj false];let t3:Kerb.Dec Qq:=Vm bd [(67:UInt8),(80:UInt8),(87:UInt8),(108:UInt8)] now sk;let t0:List AV:=Zu []::t1;let t2:Qq:=Yz t3;Zw (chk (decide (Zx bd≤1000000)) (some (Zm [Yx [Zz (Kerb.KaSecret.label t2),Zy .i64 (Kerb.KaSecret.time t2),Zy .i64 (Kerb.KaSecret.start t2),Zy .i64 (Kerb.KaSecret.stop t2),Zy .u64 (Kerb.KaSecret.new t2)],Zy .i64 (Vx t3)],[[Zy .i64 op,Zz u1,Zz u2,Zz u3,Zy .i64 kv,Zz qr,Zu tk,Zz sv,Zz ins,Zu bx,Zz rl,Ym 9 els,Zy .i64 now,Zy .i64 ad,Zy .i64 sk,Zy .u64 se]]))) fun (r:AV×Blocks)=>onConsB (Yv r) fun (x:List AV) (r_1:List (List AV))=>cInt .i64 x fun n r_2=>cStr r_2 fun b r_3=>cStr r_3 fun b_1 r_4=>cStr r_4 fun b_2 r_5=>cInt .i64 r_5 fun n_1 r_6=>cStr r_6 fun b_3 r_7=>cBs r_7 fun b_4 r_8=>cStr r_8 fun b_5 r_9=>cStr r_9 fun b_6 r_10=>cBs r_10 fun b_7 r_11=>cStr r_11 fun b_8 r_12=>cSl 9 r_12 fun b_9 r_13=>let t4:AV:=Yx (Zz b_8::Ym 9 b_9::t0);cInt .i64 r_13 fun n_2 r_14=>cInt .i64 r_14 fun n_3 r_15=>cInt .i64 r_15 fun n_4 r_16=>cInt .u64 r_16 fun n_5 r_17=>let t5:List (List AV):=[[Zy .i64 n,Zz b,Zz b_1,Zz b_2,Zy .i64 n_1,Zz b_3,Zu b_4,Zz b_5,Zz b_6,Zu b_7,Zz b_8,Ym 9 b_9,Zy .i64 n_2,Zy .i64 n_3,Zy .i64 n_4,Zy .u64 n_5]];onNil r_17 (onNilB r_1 (Qu (Yq r) fun vs=>onCons vs fun x r=>Xw x fun cs=>cStr cs fun b r_18=>cInt .i64 r_18 fun n_6 r_19=>cInt .i64 r_19 fun n_7 r_20=>cInt .i64 r_20 fun n_8 r_21=>cInt .u64 r_21 fun n_9 r_22=>onNil r_22 (cInt .i64 r fun n_10 r=>onNil r (sel (!n_10==0) (sel (!Yd (Zv (Yy n n_10 []))==0) (some (t4,t5)) (some (Yx (Zz b_8::Ym 9 b_9::Zu (Yg (Zv (Yy n n_10 [])))::t1),t5))) (Zw (chk (decide (0≤n_9)&&decide (n_9<18446744073709551616)) (some (Zy .i64 (Vu n_9),[]))) (kI .i64 fun n_11=>sel (!n_11==1) (sel (!Yd (Zv (Yy n 10 []))==0) (some (t4,t5)) (some (Yx (Zz b_8::Ym 9 b_9::Zu (Yg (Zv (Yy n 10 [])))::t1),t5))) (chk (decide (0≤i)&&decide (i<(↑(Zx b_9):Int))&&true) (Xw (Vq b_9 (Vd i) Uv) fun cs=>cStr cs fun b r=>cStr r fun b r=>cInt .u64 r fun n_12 r=>cInt .i64 r fun n_13 r=>cInt .i64 r fun n_14 r=>cInt .i64 r fun n_15 r=>cInt .i64 r fun n_16 r=>cInt .i64 r fun n_17 r=>cInt .i64 r fun n_18 r=>onNil r (Zw (chk (l63 dr&&Wx dls Xj&&decide (Zx dls≤1000000)&&decide (0≤n_9)&&decide (n_9<18446744073709551616)) (some (Zm [Yx [Zz (Xf (Yz (Kerb.rekey (Yp dr (Yu Yw dls)) i n_9))),Ym 9 (Yu Yb (Xv (Yz (Kerb.rekey (Yp dr (Yu Yw dls)) i n_9))))],Zy .i64 (Vx (Kerb.rekey (Yp dr (Yu Yw dls)) i n_9))],[]))) (kT fun vs=>onCons vs fun x r=>Xw x fun cs=>cStr cs fun b r_23=>cSl 9 r_23 fun b_10 r_24=>onNil r_24 (cInt .i64 r fun n_19 r=>onNil r (sel (!n_19==0) (some (t4,t5)) (Zw (chk (decide (0≤n_6)&&decide (n_6≤4294967295)) (some (Zy .i64 (Kerb.kaNext n_6),[]))) (kI .i64 fun n_20=>let t6:Kerb.Enc:=Qz n (Vn [(67:UInt8),(80:UInt8),(87:UInt8),(100:UInt8)] n_20 0 0 0 0 (Zh [] [] []) []) n_12;Zw (chk (Wu n_12) (some (Zm [Zu (Yg t6),Zy .i64 (Yd t6)],t5))) fun (r:AV×Blocks)=>onConsB (Yv r) fun (x:List AV) (r_25:List (List AV))=>cInt .i64 x fun n r_26=>cStr r_26 fun b_11 r_27=>cStr r_27 fun b_12 r_28=>cStr r_28 fun b_13 r_29=>cInt .i64 r_29 fun n_21 r_30=>cStr r_30 fun b_14 r_31=>cBs r_31 fun b_15 r_32=>cStr r_32 fun b_16 r_33=>cStr r_33 fun b_17 r_34=>cBs r_34 fun b_18 r_35=>cStr r_35 fun b_19 r_36=>cSl 9 r_36 fun b_20 r_37=>cInt .i64 r_37 fun n_22 r_38=>cInt .i64 r_38 fun n_23 r_39=>cInt .i64 r_39 fun n_24 r_40=>cInt .u64 r_40 fun n_25 r_41=>let t7:List (List AV):=[[Zy .i64 n,Zz b_11,Zz b_12,Zz b_13,Zy .i64 n_21,Zz b_14,Zu b_15,Zz b_16,Zz b_17,Zu b_18,Zz b_19,Ym 9 b_20,Zy .i64 n_22,Zy .i64 n_23,Zy .i64 n_24,Zy .u64 n_25]];onNil r_41 (onNilB r_25 (Qu (Yq r) fun vs=>cBs vs fun b_21 r=>cInt .i64 r fun n r=>onNil r (sel (!n==0) (some (Yx (Zz b_19::Ym 9 b_20::t0),t7)) (some (Yx (Zz b::Ym 9 b_10::Zu b_21::t1),t7))))))))))))))))))):Option (AV×Blocks))) (by kernel_rfl) ?_
  delta kT kI
  try dsimp only [cStr,cBs,cBool,cU8,cInt,cSl,l63]
  simp only [Yn,decide_eq_true_eq] at hpre
  obtain ⟨⟨⟨⟨⟨⟨⟨hpre,hd⟩,hdl⟩,hbl⟩,hop⟩,h0⟩,h1⟩,hdr⟩:=hpre
  obtain ⟨⟨⟨⟨⟨⟨⟨⟨⟨⟨⟨c1,c2⟩,c3⟩,c4⟩,c5⟩,c6⟩,c7⟩,c8⟩,c9⟩,c10⟩,hall⟩,hlen⟩:=hpre
  obtain ⟨es,rfl,hok⟩:=Wn hall
  obtain ⟨ds,rfl,hok2⟩:=Wn hd
  rw [Yh,Yh]
  simp only [Xk] at hlen hdl h1
  have hlb:[(67:UInt8),(80:UInt8),(87:UInt8),(108:UInt8)]=Kerb.lChange:=rfl
  have hlb2:[(67:UInt8),(80:UInt8),(87:UInt8),(100:UInt8)]=Kerb.lDone:=rfl
  have i0:decide (0≤i)=true:=by simp;omega
  have i1:decide (i<(es.length:Int))=true:=by simp;omega
  simp only [hlb,hlb2,Yh,hall,hd,Xk,hlen,hdl,hbl,hdr,i0,i1,c1,c2,c3,c4,c5,c6,c7,c8,decide_true,Xx,List.map_nil,↓A0,A0]
  unfold Kerb.kaChangePw
  dsimp only
  have sb:=Kerb.kaSecOf_bd bd Kerb.lChange now sk
  generalize Vm bd Kerb.lChange now sk=S at sb ⊢
  by_cases h1:S.err=0
  case neg =>
   rw [sel_pos (by simpa using h1),if_pos h1]
   by_cases hr:(Zv ⟨op,S.err,[]⟩).err=0
   ·rw [sel_neg (by simpa using hr)];rfl
   ·rw [sel_pos (by simpa using hr),Yk hr];rfl
  rw [sel_neg (by simpa using h1),if_neg (not_not_intro h1)]
  rw [chk_of (by simp;exact sb.2.2)]
  by_cases h2:Vu S.val.new=1
  case neg =>
   rw [sel_pos (by simpa using h2),if_pos h2]
   by_cases hr:(Zv ⟨op,10,[]⟩).err=0
   ·rw [sel_neg (by simpa using hr)];rfl
   ·rw [sel_pos (by simpa using hr),Yk hr];rfl
  rw [sel_neg (by simpa using h2),if_neg (not_not_intro h2)]
  rw [Ub (by omega)]
  have ho:=hok _ (Kerb.ent_mem (es:=es) (i:=i.toNat) (by omega))
  unfold Kerb.entAt Kerb.kaReplySeal
  dsimp only
  generalize es.getD i.toNat Qx=e at ho ⊢
  have t0:decide (0≤S.val.time)=true:=decide_eq_true sb.1.1
  have t1:decide (S.val.time≤4294967295)=true:=decide_eq_true sb.1.2
  have n0:decide (0≤S.val.new)=true:=decide_eq_true sb.2.2.1
  have n1:decide (S.val.new<18446744073709551616)=true:=decide_eq_true sb.2.2.2
  simp only [Yb,n0,n1,t0,t1,ho.2.2.1,Xx,↓A0,A0]
  rw [show Kerb.noPrin=⟨[],[],[]⟩ from rfl]
  generalize Kerb.rekey ⟨dr,ds⟩ i S.val.new=R
  generalize Qz op _ e.key=B
  by_cases hr:R.err=0
  case neg=>rw [sel_pos (by simpa using hr),if_pos (.inr hr)];rfl
  by_cases hb:B.err=0
  case neg =>
   have hb2:(B.err==0)=false:=by simpa using hb
   rw [sel_neg (by simpa using hr),sel_pos (by simpa using hb),if_pos (.inl hb2)];rfl
  have hb3:¬ ((B.err==0)=false∨R.err≠0):=by simp [hb,hr]
  rw [sel_neg (by simpa using hr),sel_neg (by simpa using hb),if_neg hb3]
  rfl
 ·cases h
theorem w217:Walked Tryz.prog G 217 11 sp217:=by
 refine ⟨Tryz.f217,Tryz.func217,by decide +kernel,rfl,fun xs bl r h=> ?_⟩
 unfold sp217 at h
 split at h
 ·rename_i b k
  obtain ⟨hpre,h2⟩:=chk_inv h;cases h2
  refine Eq.trans (b:=(Zw (chk (decide (Zx b≤140737488355328)) (some (Zm [Zu (Yq (Vg b 1 k)),Yj (Yv (Vg b 1 k))],[]))) (kT fun vs=>cBs vs fun b r=>cBool r fun b_1 r=>onNil r (sel (!b_1) (some (Zm [Yx [Yj false,Zz [],Zz [],Zz [],Zy .i64 0,Zy .u64 0,Zy .i64 0,Zy .i64 0,Zz [],Zz []],Zy .i64 31],[])) (Zw (chk (decide (Zx b≤140737488355328)) (some (Zm [Yx [Yj (Kerb.Ticket.little (Yz (Xd b))),Zz (Zf (Ww (Yz (Xd b)))),Zz (Zg (Ww (Yz (Xd b)))),Zz (Zk (Ww (Yz (Xd b)))),Zy .i64 (Kerb.Ticket.address (Yz (Xd b))),Zy .u64 (Kerb.Ticket.session (Yz (Xd b))),Zy .i64 (Kerb.Ticket.life (Yz (Xd b))),Zy .i64 (Kerb.Ticket.issued (Yz (Xd b))),Zz (Kerb.Ticket.service (Yz (Xd b))),Zz (Kerb.Ticket.inst (Yz (Xd b)))],Zy .i64 (Vx (Xd b))],[]))) (kT fun vs=>onCons vs fun x r=>Xw x fun cs=>cBool cs fun b r_1=>cStr r_1 fun b_2 r_2=>cStr r_2 fun b_3 r_3=>cStr r_3 fun b_4 r_4=>cInt .i64 r_4 fun n r_5=>cInt .u64 r_5 fun n_1 r_6=>cInt .i64 r_6 fun n_2 r_7=>cInt .i64 r_7 fun n_3 r_8=>cStr r_8 fun b_5 r_9=>cStr r_9 fun b_6 r_10=>onNil r_10 (cInt .i64 r fun n_4 r=>onNil r (some (Zm [Yx [Yj b,Zz b_2,Zz b_3,Zz b_4,Zy .i64 n,Zy .u64 n_1,Zy .i64 n_2,Zy .i64 n_3,Zz b_5,Zz b_6],Zy .i64 n_4],[]))))))):Option (AV×Blocks))) (by kernel_rfl) ?_
  delta kT
  try dsimp only [cStr,cBs,cBool,cU8,cInt,cSl,l63]
  have hb:=of_decide_eq_true hpre
  have hl:=Kerb.openBox_len b 1 k
  simp only [hpre,↓A0,A0]
  unfold Xg
  cases h:(Vg b 1 k).2
  ·rfl
  ·rw [sel_neg (by simp),chk_of (by simp;omega)]
   rfl
 ·cases h
theorem w224:Walked Tryz.prog G 224 11 sp224:=by
 refine ⟨Tryz.f224,Tryz.func224,by decide +kernel,rfl,fun xs bl r h=> ?_⟩
 unfold sp224 at h
 split at h
 ·rename_i rl els x y z u v w ad li now lf se sl tg kv
  obtain ⟨hpre,h2⟩:=chk_inv h;cases h2
  refine Eq.trans (b:=(let t0:AV:=Yx [Zy .i64 0,Zz [],Zz [],Zz [],Zz [],Zz [],Zz [],Zz [],Zz [],Zz [],Zy .u64 0,Zy .u64 0,Zy .u64 0,Zu [],Zy .i64 0,Zy .i64 0];let t1:AV:=Yx [Zy .u64 0,Zz [],Zz [],Zz [],Zy .i64 0,Zy .i64 0,Zu [],Zy .i64 0];Zw (chk (l63 x&&l63 y&&l63 z&&l63 u&&l63 v&&decide (0≤se)&&decide (se<18446744073709551616)&&decide (0≤tg)&&decide (tg<18446744073709551616)) (some (Zm [Zu (Yg (Kerb.sealTicket (Uq li (Zh x y z) ad se lf now u v) tg)),Zy .i64 (Yd (Kerb.sealTicket (Uq li (Zh x y z) ad se lf now u v) tg))],[]))) (kT fun vs=>onCons vs fun x_1 r=>AV.onBs x_1 fun b=>onCons r fun x_2 r=>Vf .i64 x_2 fun n=>onNil r (sel (!n==0) (some (Zm [t0,t1,Zy .i64 n],[])) (Zw (chk (l63 u&&l63 v&&l63 w&&decide (0≤se)&&decide (se<18446744073709551616)) (some (Zm [Zu (Yg (Kerb.encodePart (Kerb.ReplyPart.mk se (Zh u v w) lf kv b now) li)),Zy .i64 (Yd (Kerb.encodePart (Kerb.ReplyPart.mk se (Zh u v w) lf kv b now) li))],[]))) (kT fun vs=>onCons vs fun x_3 r=>AV.onBs x_3 fun b_1=>onCons r fun x_4 r=>Vf .i64 x_4 fun n=>onNil r (sel (!n==0) (some (Zm [t0,t1,Zy .i64 n],[])) (Zw (chk (decide (Zx b≤140737488355328)) (some (Zu b,[]))) (kB fun b_2=>some (Zm [Yx [Zy .i64 0,Zz [(107:UInt8),(114:UInt8),(98:UInt8),(116:UInt8),(103:UInt8),(116:UInt8)],Zz rl,Zz rl,Zz x,Zz y,Zz z,Zz u,Zz v,Zz w,Zy .u64 se,Zy .u64 sl,Zy .u64 0,Zu b_2,Zy .i64 now,Zy .i64 (Vw now lf)],Yx [Zy .u64 se,Zz u,Zz v,Zz w,Zy .i64 lf,Zy .i64 kv,Zu b,Zy .i64 now],Zy .i64 0],[])))))))):Option (AV×Blocks))) (by kernel_rfl) ?_
  delta kT kB
  try dsimp only [cStr,cBs,cBool,cU8,cInt,cSl,l63]
  simp only [Yn,decide_eq_true_eq] at hpre
  simp only [Kerb.isU64_iff] at hpre
  obtain ⟨⟨⟨⟨⟨⟨⟨h1,h2⟩,h3⟩,h4⟩,h5⟩,h6⟩,h7,h8⟩,h9,h10⟩:=hpre
  simp only [h1,h2,h3,h4,h5,h6,h7,h8,h9,h10,decide_true,Xx,↓A0,A0]
  unfold Kerb.grant Kerb.grantTkt
  dsimp only
  have hsl:=Kerb.sealTicket_len ⟨li,⟨x,y,z⟩,ad,se,lf,now,u,v⟩ tg
  generalize Kerb.sealTicket ⟨li,⟨x,y,z⟩,ad,se,lf,now,u,v⟩ tg=E at hsl
  by_cases he:E.err=0
  case neg=>rw [sel_pos (by simpa using he),if_pos he];rfl
  rw [sel_neg (by simpa using he),if_neg (by simpa using he)]
  generalize Kerb.encodePart ⟨se,⟨u,v,w⟩,lf,kv,E.val,now⟩ li=F
  by_cases hf:F.err=0
  case neg=>rw [sel_pos (by simpa using hf),if_pos hf];rfl
  rw [sel_neg (by simpa using hf),if_neg (by simpa using hf)]
  rw [chk_of (by simp;omega)]
  rfl
 ·cases h
theorem w147:Walked Tryz.prog G 147 12 sp147:=by
 refine ⟨Tryz.f147,Tryz.func147,by decide +kernel,rfl,fun xs bl r h=> ?_⟩
 unfold sp147 at h
 split at h
 ·rename_i op u1 u2 u3 kv qr tk sv ins bx rl els now ad sk se
  obtain ⟨hpre,h2⟩:=chk_inv h;cases h2
  show runFnH (G.env 147 12) G.rts (G.own 147) Tryz.f147 _ _ [0]=_
  refine Eq.trans (b:=(let t0:List (List AV):=[[Zy .i64 op,Zz u1,Zz u2,Zz u3,Zy .i64 kv,Zz qr,Zu tk,Zz sv,Zz ins,Zu bx,Zz rl,Ym 9 els,Zy .i64 now,Zy .i64 ad,Zy .i64 sk,Zy .u64 se]];let t1:AV:=Yx [Yj false,Zz [],Zz [],Zz [],Zy .i64 0,Zy .u64 0,Zy .i64 0,Zy .i64 0,Zz [],Zz []];let t3:Int×Int:=Kerb.serviceEnt (Yp rl (Yu Yw els)) [(107:UInt8),(114:UInt8),(98:UInt8),(116:UInt8),(103:UInt8),(116:UInt8)] rl now;let t2:Option (AV×Blocks):=some (Zm [t1,Zy .i64 35],t0);sel (!qr==rl) t2 (Zw (chk (Wx els Xj&&decide (Zx els≤1000000)) (some (Zm [Zy .i64 (Yq t3),Zy .i64 (Yv t3)],[]))) (kT fun vs=>cInt .i64 vs fun n r=>cInt .i64 r fun n_1 r=>onNil r (sel (!n_1==0) (some (Zm [t1,Zy .i64 n_1],t0)) (chk (decide (0≤n)&&decide (n<(↑(Zx els):Int))&&true) (Xw (Vq els (Vd n) Uv) fun cs=>cStr cs fun b r=>cStr r fun b r=>cInt .u64 r fun n r=>cInt .i64 r fun n_2 r=>cInt .i64 r fun n_3 r=>cInt .i64 r fun n_4 r=>cInt .i64 r fun n_5 r=>cInt .i64 r fun n_6 r=>cInt .i64 r fun n_7 r=>onNil r (sel (!kv==n_2) t2 (Zw (chk (decide (Zx tk≤140737488355328)) (some (Zm [Yx [Yj (Kerb.Ticket.little (Yz (Xg tk n))),Zz (Zf (Ww (Yz (Xg tk n)))),Zz (Zg (Ww (Yz (Xg tk n)))),Zz (Zk (Ww (Yz (Xg tk n)))),Zy .i64 (Kerb.Ticket.address (Yz (Xg tk n))),Zy .u64 (Kerb.Ticket.session (Yz (Xg tk n))),Zy .i64 (Kerb.Ticket.life (Yz (Xg tk n))),Zy .i64 (Kerb.Ticket.issued (Yz (Xg tk n))),Zz (Kerb.Ticket.service (Yz (Xg tk n))),Zz (Kerb.Ticket.inst (Yz (Xg tk n)))],Zy .i64 (Vx (Xg tk n))],[]))) (kT fun vs=>onCons vs fun x r=>Xw x fun cs=>cBool cs fun b r_1=>cStr r_1 fun b_1 r_2=>cStr r_2 fun b_2 r_3=>cStr r_3 fun b_3 r_4=>cInt .i64 r_4 fun n r_5=>cInt .u64 r_5 fun n_8 r_6=>cInt .i64 r_6 fun n_9 r_7=>cInt .i64 r_7 fun n_10 r_8=>cStr r_8 fun b_4 r_9=>cStr r_9 fun b_5 r_10=>onNil r_10 (cInt .i64 r fun n_11 r=>onNil r (sel (!n_11==0) (some (Zm [t1,Zy .i64 31],t0)) (sel (!b_4==[(107:UInt8),(114:UInt8),(98:UInt8),(116:UInt8),(103:UInt8),(116:UInt8)]) t2 (sel (!b_5==rl) t2 (sel (!b_3==rl) (some (Zm [t1,Zy .i64 36],t0)) (sel (!n==ad) (some (Zm [t1,Zy .i64 38],t0)) (sel (!Kerb.stateErr n_10 n_9 now sk==0) (some (Zm [t1,Zy .i64 (Kerb.stateErr n_10 n_9 now sk)],t0)) (some (Zm [Yx [Yj b,Zz b_1,Zz b_2,Zz b_3,Zy .i64 n,Zy .u64 n_8,Zy .i64 n_9,Zy .i64 n_10,Zz b_4,Zz b_5],Zy .i64 0],t0))))))))))))))))):Option (AV×Blocks))) (by kernel_rfl) ?_
  delta kT
  try dsimp only [cStr,cBs,cBool,cU8,cInt,cSl,l63]
  simp only [Yn,decide_eq_true_eq] at hpre
  obtain ⟨⟨⟨⟨⟨⟨⟨⟨⟨⟨⟨c1,c2⟩,c3⟩,c4⟩,c5⟩,c6⟩,c7⟩,c8⟩,c9⟩,c10⟩,hall⟩,hlen⟩:=hpre
  obtain ⟨es,rfl,hok⟩:=Wn hall
  rw [Yh]
  simp only [Xk] at hlen
  have tl:decide (tk.length≤140737488355328)=true:=by simp;omega
  have hkr:[(107:UInt8),(114:UInt8),(98:UInt8),(116:UInt8),(103:UInt8),(116:UInt8)]=Um:=rfl
  simp only [hkr,hall,Xk,hlen,tl,decide_true,Xx,↓A0,A0]
  unfold Kerb.kaPresented
  dsimp only
  by_cases h1:qr=rl
  case neg=>rw [sel_pos (by simpa using h1),if_pos h1];try rfl
  rw [sel_neg (by simp [h1]),if_neg (by simp [h1])]
  have hs := @Kerb.serv_lt ⟨rl,es⟩ Um rl now
  generalize Kerb.serviceEnt ⟨rl,es⟩ Um rl now=F at hs ⊢
  obtain ⟨j,e⟩:=F
  dsimp only at hs ⊢
  by_cases h2:e=0
  case neg=>rw [sel_pos (by simpa using h2),if_pos h2];try rfl
  obtain ⟨g1,g2⟩:=hs h2
  rw [sel_neg (by simpa using h2),if_neg (by simpa using h2),chk_of (by simp;omega),Ub g2]
  unfold Kerb.entAt
  dsimp only
  generalize es.getD j.toNat Qx=x
  simp only [Yb,tl,↓A0,A0]
  by_cases h3:kv=x.kvno
  case neg=>rw [sel_pos (by simpa using h3),if_pos h3];try rfl
  rw [sel_neg (by simp [h3]),if_neg (by simp [h3])]
  generalize Xg tk x.key=T
  by_cases h4:T.err=0
  case neg=>rw [sel_pos (by simpa using h4),if_pos h4];try rfl
  rw [sel_neg (by simpa using h4),if_neg (by simpa using h4)]
  by_cases h5:T.val.service=Um
  case neg=>rw [sel_pos (by simpa using h5),if_pos (.inl h5)];try rfl
  by_cases h6:T.val.inst=rl
  case neg=>rw [sel_neg (by simp [h5]),sel_pos (by simpa using h6),if_pos (.inr h6)];try rfl
  rw [sel_neg (by simp [h5]),sel_neg (by simp [h6]),if_neg (by simp [h5,h6])]
  by_cases h7:T.val.client.realm=rl
  case neg=>rw [sel_pos (by simpa using h7),if_pos h7];try rfl
  rw [sel_neg (by simp [h7]),if_neg (by simp [h7])]
  by_cases h8:T.val.address=ad
  case neg=>rw [sel_pos (by simpa using h8),if_pos h8];try rfl
  rw [sel_neg (by simp [h8]),if_neg (by simp [h8])]
  generalize Kerb.stateErr T.val.issued T.val.life now sk=Z
  by_cases h9:Z=0
  case neg=>rw [sel_pos (by simpa using h9),if_pos h9];try rfl
  rw [sel_neg (by simp [h9]),if_neg (by simp [h9])]
 ·cases h
theorem w154:Walked Tryz.prog G 154 12 sp154:=by
 refine ⟨Tryz.f154,Tryz.func154,by decide +kernel,rfl,fun xs bl r h=> ?_⟩
 unfold sp154 at h
 split at h
 ·rename_i dr dls gk c1 c2 c3 s1 s2 s3 ga gl gs gg gt gv gb gm op u1 u2 u3 kv qr tk sv ins bx rl els now ad sk se
  obtain ⟨hpre,h2⟩:=chk_inv h;cases h2
  show runFnH (G.env 154 12) G.rts (G.own 154) Tryz.f154 _ _ [0]=_
  refine Eq.trans (b:=(let t2:List AV:=[Zu [],Zy .i64 0,Zz [],Zz [],Zz [],Zz [],Zz [],Zz [],Zz [],Zz [],Zz [],Zy .u64 0,Zy .u64 0,Zy .u64 0,Zu [],Zy .i64 0,Zy .i64 0,Yj false];let t3:List (List AV):=[[Zy .i64 op,Zz u1,Zz u2,Zz u3,Zy .i64 kv,Zz qr,Zu tk,Zz sv,Zz ins,Zu bx,Zz rl,Ym 9 els,Zy .i64 now,Zy .i64 ad,Zy .i64 sk,Zy .u64 se]];let t4:Kerb.Granted:=Kerb.grant rl (Zh c1 c2 c3) (Zh s1 s2 s3) ga false now gl se gs gt gv;let t0:Xp:=Kerb.Granted.issue t4;let t1:Kerb.ReplyPart:=Kerb.Granted.part t4;Zw (chk (l63 c1&&l63 c2&&l63 c3&&l63 s1&&l63 s2&&l63 s3&&Wu se&&Wu gt) (some (Zm [Yx [Zy .i64 (Wp t0),Zz (Zf (Zb t0)),Zz (Zg (Zb t0)),Zz (Zk (Zb t0)),Zz (Zf (Zn t0)),Zz (Zg (Zn t0)),Zz (Zk (Zn t0)),Zz (Zf (Zd t0)),Zz (Zg (Zd t0)),Zz (Zk (Zd t0)),Zy .u64 (Xn t0),Zy .u64 (Wz t0),Zy .u64 (Xm t0),Zu (Wj t0),Zy .i64 (Wy t0),Zy .i64 (Wk t0)],Yx [Zy .u64 (Kerb.ReplyPart.session t1),Zz (Zf (Qw t1)),Zz (Zg (Qw t1)),Zz (Zk (Qw t1)),Zy .i64 (Kerb.ReplyPart.life t1),Zy .i64 (Kerb.ReplyPart.kvno t1),Zu (Kerb.ReplyPart.ticket t1),Zy .i64 (Kerb.ReplyPart.time t1)],Zy .i64 (Kerb.Granted.err t4)],[]))) (kT fun vs=>onCons vs fun x r=>Xw x fun cs=>cInt .i64 cs fun n r_1=>cStr r_1 fun b r_2=>cStr r_2 fun b_1 r_3=>cStr r_3 fun b_2 r_4=>cStr r_4 fun b_3 r_5=>cStr r_5 fun b_4 r_6=>cStr r_6 fun b_5 r_7=>cStr r_7 fun b_6 r_8=>cStr r_8 fun b_7 r_9=>cStr r_9 fun b_8 r_10=>cInt .u64 r_10 fun n r_11=>cInt .u64 r_11 fun n_1 r_12=>cInt .u64 r_12 fun n_2 r_13=>cBs r_13 fun b_9 r_14=>cInt .i64 r_14 fun n_3 r_15=>cInt .i64 r_15 fun n_4 r_16=>onNil r_16 (onCons r fun x r=>Xw x fun cs=>cInt .u64 cs fun n_5 r_17=>cStr r_17 fun b_10 r_18=>cStr r_18 fun b_11 r_19=>cStr r_19 fun b_12 r_20=>cInt .i64 r_20 fun n_6 r_21=>cInt .i64 r_21 fun n_7 r_22=>cBs r_22 fun b_13 r_23=>cInt .i64 r_23 fun n_8 r_24=>onNil r_24 (cInt .i64 r fun n_9 r=>onNil r (sel (!n_9==0) (some (Yx (Zz rl::Ym 9 els::t2),t3)) (Zw (chk (decide (0≤gm)&&decide (gm≤4294967295)) (some (Zy .i64 (Kerb.kaNext gm),[]))) (kI .i64 fun n_10=>let t5:Kerb.Enc:=Qz op (Vn gb n_10 se now (Vv n_4 4294967295) gv (Zh s1 s2 s3) b_9) gs;Zw (chk (l63 s1&&l63 s2&&l63 s3&&l63 gb&&Wu se&&Wu gs) (some (Zm [Zu (Yg t5),Zy .i64 (Yd t5)],t3))) fun (r:AV×Blocks)=>onConsB (Yv r) fun (x:List AV) (r_25:List (List AV))=>cInt .i64 x fun n_11 r_26=>cStr r_26 fun b_14 r_27=>cStr r_27 fun b_15 r_28=>cStr r_28 fun b_16 r_29=>cInt .i64 r_29 fun n_12 r_30=>cStr r_30 fun b_17 r_31=>cBs r_31 fun b_18 r_32=>cStr r_32 fun b_19 r_33=>cStr r_33 fun b_20 r_34=>cBs r_34 fun b_21 r_35=>cStr r_35 fun b_22 r_36=>cSl 9 r_36 fun b_23 r_37=>cInt .i64 r_37 fun n_13 r_38=>cInt .i64 r_38 fun n_14 r_39=>cInt .i64 r_39 fun n_15 r_40=>cInt .u64 r_40 fun n_16 r_41=>let t6:List (List AV):=[[Zy .i64 n_11,Zz b_14,Zz b_15,Zz b_16,Zy .i64 n_12,Zz b_17,Zu b_18,Zz b_19,Zz b_20,Zu b_21,Zz b_22,Ym 9 b_23,Zy .i64 n_13,Zy .i64 n_14,Zy .i64 n_15,Zy .u64 n_16]];onNil r_41 (onNilB r_25 (Qu (Yq r) fun vs=>cBs vs fun b_24 r=>cInt .i64 r fun n_17 r=>onNil r (sel (!n_17==0) (some (Yx (Zz b_22::Ym 9 b_23::t2),t6)) (some (Yx [Zz dr,Ym 9 dls,Zu b_24,Zy .i64 gk,Zz b,Zz b_1,Zz b_2,Zz b_3,Zz b_4,Zz b_5,Zz b_6,Zz b_7,Zz b_8,Zy .u64 n,Zy .u64 n_1,Zy .u64 gg,Zu b_9,Zy .i64 n_3,Zy .i64 n_4,Yj true],t6))))))))))):Option (AV×Blocks))) (by kernel_rfl) ?_
  delta kT kI
  try dsimp only [cStr,cBs,cBool,cU8,cInt,cSl,l63]
  simp only [Yn,decide_eq_true_eq] at hpre
  obtain ⟨⟨⟨⟨⟨⟨⟨⟨⟨⟨⟨⟨⟨⟨d1,d2⟩,d3⟩,d4⟩,d5⟩,d6⟩,d7⟩,k1⟩,k2⟩,k3⟩,k4⟩,ha⟩,hb⟩,g0⟩,g1⟩:=hpre
  obtain ⟨es,rfl,hok⟩:=Wn ha
  obtain ⟨ds,rfl,hok2⟩:=Wn hb
  rw [Yh,Yh]
  simp only [d1,d2,d3,d4,d5,d6,d7,k1,k2,k3,k4,g0,g1,decide_true,Xx,↓A0,A0]
  unfold Uh Kerb.kaReplySeal
  dsimp only
  have hst := @Kerb.grant_stop rl ⟨c1,c2,c3⟩ ⟨s1,s2,s3⟩ ga false now gl se gs gt gv
  generalize Kerb.grant rl ⟨c1,c2,c3⟩ ⟨s1,s2,s3⟩ ga false now gl se gs gt gv=G at hst ⊢
  by_cases hg:G.err=0
  case neg=>rw [sel_pos (by simpa using hg),if_pos hg];rfl
  rw [sel_neg (by simpa using hg),if_neg (not_not_intro hg),hst hg]
  generalize Qz op _ gs=R
  have hr2:¬ R.err=0→(R.err==0)=false:=fun h=>by simpa using h
  by_cases hr:R.err=0
  case neg=>rw [sel_pos (by simpa using hr),if_pos (hr2 hr)];rfl
  rw [sel_neg (by simpa using hr),if_neg (show ¬ (R.err==0)=false from by simp [hr])]
  rfl
 ·cases h
theorem w67:Walked Tryz.prog G 67 13 sp67:=by
 refine ⟨Tryz.f67,Tryz.func67,by decide +kernel,rfl,fun xs bl r h=> ?_⟩
 unfold sp67 at h
 split at h
 ·rename_i op u1 u2 u3 kv qr tk sv ins bx rl els now ad sk se
  obtain ⟨hpre,h2⟩:=chk_inv h;cases h2
  show runFnH (G.env 67 13) G.rts (G.own 67) Tryz.f67 _ _ [0]=_
  refine Eq.trans (b:=(let t0:List UInt8:=[(116:UInt8),(107:UInt8),(116:UInt8),(71:UInt8)];let t1:List AV:=[Zy .i64 0,Zz [],Zz [],Zz [],Zz [],Zz [],Zz [],Zz [],Zz [],Zz [],Zy .u64 0,Zy .u64 0,Zy .u64 0,Zu [],Zy .i64 0,Zy .i64 0,Yj false];let t3:List UInt8:=[(103:UInt8),(84:UInt8),(75:UInt8),(84:UInt8)];let t4:Kerb.Dec Kerb.Ticket:=Kerb.kaPresented (Yp rl (Yu Yw els)) now ad sk (Wb op (Zh u1 u2 u3) kv qr tk sv ins bx);let t2:Kerb.Ticket:=Yz t4;Zw (chk (l63 u1&&l63 u2&&l63 u3&&l63 qr&&l63 sv&&l63 ins&&l63 rl&&Wu se&&decide (Zx tk≤1000000)&&decide (Zx bx≤1000000)&&Wx els Xj&&decide (Zx els≤1000000)) (some (Zm [Yx [Yj (Kerb.Ticket.little t2),Zz (Zf (Ww t2)),Zz (Zg (Ww t2)),Zz (Zk (Ww t2)),Zy .i64 (Kerb.Ticket.address t2),Zy .u64 (Kerb.Ticket.session t2),Zy .i64 (Kerb.Ticket.life t2),Zy .i64 (Kerb.Ticket.issued t2),Zz (Kerb.Ticket.service t2),Zz (Kerb.Ticket.inst t2)],Zy .i64 (Vx t4)],[[Zy .i64 op,Zz u1,Zz u2,Zz u3,Zy .i64 kv,Zz qr,Zu tk,Zz sv,Zz ins,Zu bx,Zz rl,Ym 9 els,Zy .i64 now,Zy .i64 ad,Zy .i64 sk,Zy .u64 se]]))) fun (r:AV×Blocks)=>onConsB (Yv r) fun (x:List AV) (r_1:List (List AV))=>cInt .i64 x fun n r_2=>cStr r_2 fun b r_3=>cStr r_3 fun b_1 r_4=>cStr r_4 fun b_2 r_5=>cInt .i64 r_5 fun n_1 r_6=>cStr r_6 fun b_3 r_7=>cBs r_7 fun b_4 r_8=>cStr r_8 fun b_5 r_9=>cStr r_9 fun b_6 r_10=>cBs r_10 fun b_7 r_11=>cStr r_11 fun b_8 r_12=>cSl 9 r_12 fun b_9 r_13=>cInt .i64 r_13 fun n_2 r_14=>cInt .i64 r_14 fun n_3 r_15=>cInt .i64 r_15 fun n_4 r_16=>cInt .u64 r_16 fun n_5 r_17=>let t5:List (List AV):=[[Zy .i64 n,Zz b,Zz b_1,Zz b_2,Zy .i64 n_1,Zz b_3,Zu b_4,Zz b_5,Zz b_6,Zu b_7,Zz b_8,Ym 9 b_9,Zy .i64 n_2,Zy .i64 n_3,Zy .i64 n_4,Zy .u64 n_5]];onNil r_17 (onNilB r_1 (Qu (Yq r) fun vs=>onCons vs fun x r=>Xw x fun cs=>cBool cs fun b r_18=>cStr r_18 fun b r_19=>cStr r_19 fun b_10 r_20=>cStr r_20 fun b_11 r_21=>let t6:Bool:=l63 b&&l63 b_10&&l63 b_11;cInt .i64 r_21 fun n_6 r_22=>cInt .u64 r_22 fun n_7 r_23=>cInt .i64 r_23 fun n_8 r_24=>cInt .i64 r_24 fun n_9 r_25=>cStr r_25 fun b_12 r_26=>cStr r_26 fun b_13 r_27=>onNil r_27 (cInt .i64 r fun n_10 r=>onNil r (sel (!n_10==0) (sel (!Yd (Zv (Yy n n_10 []))==0) (some (Yx (Zz b_8::Ym 9 b_9::Zu []::t1),t5)) (some (Yx (Zz b_8::Ym 9 b_9::Zu (Yg (Zv (Yy n n_10 [])))::t1),t5))) (Zw (chk (decide (Zx b_7≤140737488355328)) (some (Zm [Zu (Yq (Vg b_7 7 n_7)),Yj (Yv (Vg b_7 7 n_7))],[]))) (kT fun vs=>cBs vs fun b_14 r=>let t7:Qq:=Yz (Vm b_14 t3 n_2 n_4);cBool r fun b_15 r=>onNil r (sel (!b_15) (sel (!Yd (Zv (Yy n 31 []))==0) (some (Yx (Zz b_8::Ym 9 b_9::Zu []::t1),t5)) (some (Yx (Zz b_8::Ym 9 b_9::Zu (Yg (Zv (Yy n 31 [])))::t1),t5))) (Zw (chk (decide (Zx b_14≤1000000)) (some (Zm [Yx [Zz (Kerb.KaSecret.label t7),Zy .i64 (Kerb.KaSecret.time t7),Zy .i64 (Kerb.KaSecret.start t7),Zy .i64 (Kerb.KaSecret.stop t7),Zy .u64 (Kerb.KaSecret.new t7)],Zy .i64 (Vx (Vm b_14 t3 n_2 n_4))],t5))) fun (r:AV×Blocks)=>onConsB (Yv r) fun (x:List AV) (r_28:List (List AV))=>cInt .i64 x fun n r_29=>cStr r_29 fun b_16 r_30=>cStr r_30 fun b_17 r_31=>cStr r_31 fun b_18 r_32=>cInt .i64 r_32 fun n_11 r_33=>cStr r_33 fun b_19 r_34=>cBs r_34 fun b_20 r_35=>cStr r_35 fun b_21 r_36=>cStr r_36 fun b_22 r_37=>cBs r_37 fun b_23 r_38=>cStr r_38 fun b_24 r_39=>let t8:Bool:=t6&&l63 b_21&&l63 b_22&&l63 b_24&&true;cSl 9 r_39 fun b_25 r_40=>let t9:Vb:=Vk (Yp b_24 (Yu Yw b_25)) [] Kerb.noIssue false;let t10:AV:=Yx (Zz b_24::Ym 9 b_25::Zu []::t1);let t11:AV:=Yx (Zz b_24::Ym 9 b_25::Zu (Yg (Zv (Yy n 10 [])))::t1);let t12:AV:=Yx (Zz b_24::Ym 9 b_25::Zu (Yg (Zv (Yy n 3 [])))::t1);cInt .i64 r_40 fun n_12 r_41=>let t13:Kerb.Svc:=Kerb.svc (Yp b_24 (Yu Yw b_25)) (Yu Kerb.toCross []) b_21 b_22 n_12;cInt .i64 r_41 fun n_13 r_42=>cInt .i64 r_42 fun n_14 r_43=>cInt .u64 r_43 fun n_15 r_44=>let t14:List (List AV):=[[Zy .i64 n,Zz b_16,Zz b_17,Zz b_18,Zy .i64 n_11,Zz b_19,Zu b_20,Zz b_21,Zz b_22,Zu b_23,Zz b_24,Ym 9 b_25,Zy .i64 n_12,Zy .i64 n_13,Zy .i64 n_14,Zy .u64 n_15]];let t17:Option (AV×Blocks):=chk (decide (0≤n_15)&&decide (n_15<18446744073709551616)) (some (Zy .i64 (Vu n_15),[]));let t15:Option (AV×Blocks):=sel (!Yd (Zv (Yy n 3 []))==0) (some (t10,t14)) (some (t12,t14));let t16:Option (AV×Blocks):=sel (!Yd (Zv (Yy n 10 []))==0) (some (t10,t14)) (some (t11,t14));onNil r_44 (onNilB r_28 (Qu (Yq r) fun vs=>onCons vs fun x r=>Xw x fun cs=>cStr cs fun b_26 r_45=>cInt .i64 r_45 fun n_16 r_46=>cInt .i64 r_46 fun n_17 r_47=>cInt .i64 r_47 fun n_18 r_48=>let t19:List AV:=[Zy .i64 n_18,Zy .i64 (Vw n_9 n_8)];let t18:Nat:=Zx t19;cInt .u64 r_48 fun n_19 r_49=>onNil r_49 (cInt .i64 r fun n_20 r=>onNil r (sel (!n_20==0) (sel (!Yd (Zv (Yy n n_20 []))==0) (some (t10,t14)) (some (Yx (Zz b_24::Ym 9 b_25::Zu (Yg (Zv (Yy n n_20 [])))::t1),t14))) (Zw (chk (Wx b_25 Xj&&decide (Zx b_25≤1000000)&&true&&true&&l63 b_22) (some (Zm [Zy .u64 (Kerb.Svc.key t13),Zy .i64 (Kerb.Svc.kvno t13),Zy .i64 (Kerb.Svc.life t13),Zy .i64 (Kerb.Svc.expires t13),Zy .i64 (Kerb.Svc.err t13)],[]))) (kT fun vs=>cInt .u64 vs fun n_21 r=>let t20:Bool:=t8&&Wu n_15&&Wu n_7&&Wu n_21&&Wu n_7&&Wx b_25 Xj&&Wx b_25 Xj&&decide (0≤n_16)&&decide (n_16≤4294967295);cInt .i64 r fun n_22 r=>cInt .i64 r fun n_23 r=>cInt .i64 r fun n_24 r=>cInt .i64 r fun n_25 r=>onNil r (sel (!n_25==0) (sel (!Yd (Zv (Yy n n_25 []))==0) (some (t10,t14)) (some (Yx (Zz b_24::Ym 9 b_25::Zu (Yg (Zv (Yy n n_25 [])))::t1),t14))) (chk (decide (0<(↑(Zx [Zy .i64 n_24]):Int))&&true) (Vf .i64 (Vq [Zy .i64 n_24] (Vd 0) Uv) fun n_26=>sel (!n_26==0) (chk (room (t18+Zx [Zy .i64 n_26]) (nat_lit 8)) (Zw (chk (decide (Zx (t19++[Zy .i64 n_26])≤1000000)&&Wx [n_18,Vw n_9 n_8,n_26] Ug) (some (Zm [Zy .i64 (Yq (Xz n_12 n_23 [n_18,Vw n_9 n_8,n_26])),Yj (Yv (Xz n_12 n_23 [n_18,Vw n_9 n_8,n_26]))],[]))) (kT fun vs=>cInt .i64 vs fun n_27 r=>let t25:Kerb.Bytes×Xp×Bool:=Uh n t0 n_16 b_24 (Zh b b_10 b_11) (Zh b_21 b_22 b_24) n_6 n_12 n_27 n_15 n_7 n_21 n_22 4 n_7;let t24:Xp×Bool:=Yv t25;let t23:Bool:=Yv t24;let t22:Vb:=if t23=true then Vk (Yp b_24 (Yu Yw b_25)) (Yq t25) (Yq t24) true else t9;let t21:Xp:=Wg t22;cBool r fun b r=>onNil r (sel (!b) t15 (Zw t17 (kI .i64 fun n=>sel (!n==2) t16 (Zw (chk t20 (some (Yx [Zz (Xf (Xu t22)),Ym 9 (Yu Yb (Xv (Xu t22))),Zu (Wq t22),Zy .i64 (Wp t21),Zz (Zf (Zb t21)),Zz (Zg (Zb t21)),Zz (Zk (Zb t21)),Zz (Zf (Zn t21)),Zz (Zg (Zn t21)),Zz (Zk (Zn t21)),Zz (Zf (Zd t21)),Zz (Zg (Zd t21)),Zz (Zk (Zd t21)),Zy .u64 (Xn t21),Zy .u64 (Wz t21),Zy .u64 (Xm t21),Zu (Wj t21),Zy .i64 (Wy t21),Zy .i64 (Wk t21),Yj (Vy t22)],t14))) fun (r:AV×Blocks)=>onConsB (Yv r) fun (x:List AV) (r_50:List (List AV))=>cInt .i64 x fun n r_51=>cStr r_51 fun b r_52=>cStr r_52 fun b_27 r_53=>cStr r_53 fun b_28 r_54=>cInt .i64 r_54 fun n_28 r_55=>cStr r_55 fun b_29 r_56=>cBs r_56 fun b_30 r_57=>cStr r_57 fun b_31 r_58=>cStr r_58 fun b_32 r_59=>cBs r_59 fun b_33 r_60=>cStr r_60 fun b_34 r_61=>cSl 9 r_61 fun b_35 r_62=>cInt .i64 r_62 fun n_29 r_63=>cInt .i64 r_63 fun n_30 r_64=>cInt .i64 r_64 fun n_31 r_65=>cInt .u64 r_65 fun n_32 r_66=>onNil r_66 (onNilB r_50 (Xw (Yq r) fun cs=>cStr cs fun b_36 r=>cSl 9 r fun b_37 r=>cBs r fun b_38 r=>cInt .i64 r fun n_33 r=>cStr r fun b_39 r=>cStr r fun b_40 r=>cStr r fun b_41 r=>cStr r fun b_42 r=>cStr r fun b_43 r=>cStr r fun b_44 r=>cStr r fun b_45 r=>cStr r fun b_46 r=>cStr r fun b_47 r=>cInt .u64 r fun n_34 r=>cInt .u64 r fun n_35 r=>cInt .u64 r fun n_36 r=>cBs r fun b_48 r=>cInt .i64 r fun n_37 r=>cInt .i64 r fun n_38 r=>cBool r fun b_49 r=>onNil r (some (Yx [Zz b_36,Ym 9 b_37,Zu b_38,Zy .i64 n_33,Zz b_39,Zz b_40,Zz b_41,Zz b_42,Zz b_43,Zz b_44,Zz b_45,Zz b_46,Zz b_47,Zy .u64 n_34,Zy .u64 n_35,Zy .u64 n_36,Zu b_48,Zy .i64 n_37,Zy .i64 n_38,Yj b_49],[[Zy .i64 n,Zz b,Zz b_27,Zz b_28,Zy .i64 n_28,Zz b_29,Zu b_30,Zz b_31,Zz b_32,Zu b_33,Zz b_34,Ym 9 b_35,Zy .i64 n_29,Zy .i64 n_30,Zy .i64 n_31,Zy .u64 n_32]]))))))))))) (Zw (chk (decide (t18≤1000000)&&Wx [n_18,Vw n_9 n_8] Ug) (some (Zm [Zy .i64 (Yq (Xz n_12 n_23 [n_18,Vw n_9 n_8])),Yj (Yv (Xz n_12 n_23 [n_18,Vw n_9 n_8]))],[]))) (kT fun vs=>cInt .i64 vs fun n_27 r=>let t30:Kerb.Bytes×Xp×Bool:=Uh n t0 n_16 b_24 (Zh b b_10 b_11) (Zh b_21 b_22 b_24) n_6 n_12 n_27 n_15 n_7 n_21 n_22 4 n_7;let t29:Xp×Bool:=Yv t30;let t28:Bool:=Yv t29;let t27:Vb:=if t28=true then Vk (Yp b_24 (Yu Yw b_25)) (Yq t30) (Yq t29) true else t9;let t26:Xp:=Wg t27;cBool r fun b r=>onNil r (sel (!b) t15 (Zw t17 (kI .i64 fun n=>sel (!n==2) t16 (Zw (chk t20 (some (Yx [Zz (Xf (Xu t27)),Ym 9 (Yu Yb (Xv (Xu t27))),Zu (Wq t27),Zy .i64 (Wp t26),Zz (Zf (Zb t26)),Zz (Zg (Zb t26)),Zz (Zk (Zb t26)),Zz (Zf (Zn t26)),Zz (Zg (Zn t26)),Zz (Zk (Zn t26)),Zz (Zf (Zd t26)),Zz (Zg (Zd t26)),Zz (Zk (Zd t26)),Zy .u64 (Xn t26),Zy .u64 (Wz t26),Zy .u64 (Xm t26),Zu (Wj t26),Zy .i64 (Wy t26),Zy .i64 (Wk t26),Yj (Vy t27)],t14))) fun (r:AV×Blocks)=>onConsB (Yv r) fun (x:List AV) (r_50:List (List AV))=>cInt .i64 x fun n r_51=>cStr r_51 fun b r_52=>cStr r_52 fun b_27 r_53=>cStr r_53 fun b_28 r_54=>cInt .i64 r_54 fun n_28 r_55=>cStr r_55 fun b_29 r_56=>cBs r_56 fun b_30 r_57=>cStr r_57 fun b_31 r_58=>cStr r_58 fun b_32 r_59=>cBs r_59 fun b_33 r_60=>cStr r_60 fun b_34 r_61=>cSl 9 r_61 fun b_35 r_62=>cInt .i64 r_62 fun n_29 r_63=>cInt .i64 r_63 fun n_30 r_64=>cInt .i64 r_64 fun n_31 r_65=>cInt .u64 r_65 fun n_32 r_66=>onNil r_66 (onNilB r_50 (Xw (Yq r) fun cs=>cStr cs fun b_36 r=>cSl 9 r fun b_37 r=>cBs r fun b_38 r=>cInt .i64 r fun n_33 r=>cStr r fun b_39 r=>cStr r fun b_40 r=>cStr r fun b_41 r=>cStr r fun b_42 r=>cStr r fun b_43 r=>cStr r fun b_44 r=>cStr r fun b_45 r=>cStr r fun b_46 r=>cStr r fun b_47 r=>cInt .u64 r fun n_34 r=>cInt .u64 r fun n_35 r=>cInt .u64 r fun n_36 r=>cBs r fun b_48 r=>cInt .i64 r fun n_37 r=>cInt .i64 r fun n_38 r=>cBool r fun b_49 r=>onNil r (some (Yx [Zz b_36,Ym 9 b_37,Zu b_38,Zy .i64 n_33,Zz b_39,Zz b_40,Zz b_41,Zz b_42,Zz b_43,Zz b_44,Zz b_45,Zz b_46,Zz b_47,Zy .u64 n_34,Zy .u64 n_35,Zy .u64 n_36,Zu b_48,Zy .i64 n_37,Zy .i64 n_38,Yj b_49],[[Zy .i64 n,Zz b,Zz b_27,Zz b_28,Zy .i64 n_28,Zz b_29,Zu b_30,Zz b_31,Zz b_32,Zu b_33,Zz b_34,Ym 9 b_35,Zy .i64 n_29,Zy .i64 n_30,Zy .i64 n_31,Zy .u64 n_32]]))))))))))))))))))))))))))):Option (AV×Blocks))) (by kernel_rfl) ?_
  delta kT kI
  try dsimp only [cStr,cBs,cBool,cU8,cInt,cSl,l63]
  simp only [Yn,decide_eq_true_eq] at hpre
  obtain ⟨⟨hpre,hop⟩,hn⟩:=hpre
  obtain ⟨⟨⟨⟨⟨⟨⟨⟨⟨⟨⟨c1,c2⟩,c3⟩,c4⟩,c5⟩,c6⟩,c7⟩,c8⟩,c9⟩,c10⟩,hall⟩,hlen⟩:=hpre
  subst hop
  obtain ⟨es,rfl,hok⟩:=Wn hall
  rw [Yh]
  simp only [Xk] at hlen
  have hlb:[(103:UInt8),(84:UInt8),(75:UInt8),(84:UInt8)]=Kerb.lTicket:=rfl
  have hlb2:[(116:UInt8),(107:UInt8),(116:UInt8),(71:UInt8)]=Kerb.lGiven:=rfl
  have bl:decide (bx.length≤140737488355328)=true:=by simp;omega
  have q8:=Kerb.isU64_iff.1 c8
  have q88:(decide (0≤se)&&decide (se<18446744073709551616))=true:=by simp;omega
  simp only [hlb,hlb2,Yh,hall,hn,Xk,hlen,bl,c1,c2,c3,c4,c5,c6,c7,c8,c9,c10,q88,decide_true,Xx,List.map_nil,↓A0,A0]
  unfold Kerb.kaGetTicket Kerb.kaLife2
  dsimp only
  have tb:=Kerb.presented_bd ⟨rl,es⟩ now ad sk ⟨2,⟨u1,u2,u3⟩,kv,qr,tk,sv,ins,bx⟩
  generalize Kerb.kaPresented ⟨rl,es⟩ now ad sk ⟨2,⟨u1,u2,u3⟩,kv,qr,tk,sv,ins,bx⟩=T at tb ⊢
  by_cases h1:T.err=0
  case neg =>
   rw [sel_pos (by simpa using h1),if_pos h1]
   by_cases hr:(Zv ⟨2,T.err,[]⟩).err=0
   ·rw [sel_neg (by simpa using hr)];rfl
   ·rw [sel_pos (by simpa using hr),Yk hr];rfl
  rw [sel_neg (by simpa using h1),if_neg (not_not_intro h1)]
  have ol:=Kerb.openBox_len bx 7 T.val.session
  generalize Vg bx 7 T.val.session=O at ol ⊢
  obtain ⟨bd,ok⟩:=O
  dsimp only at ol ⊢
  cases ok
  ·rw [sel_pos (by rfl),if_pos rfl]
   by_cases hr:(Zv ⟨2,31,[]⟩).err=0
   ·rw [sel_neg (by simpa using hr)];rfl
   ·rw [sel_pos (by simpa using hr),Yk hr];rfl
  rw [sel_neg (by rfl),if_neg (show ¬ (true=false) from by decide)]
  rw [chk_of (by simp;omega)]
  have sb:=Kerb.kaSecOf_bd bd Kerb.lTicket now sk
  generalize Vm bd Kerb.lTicket now sk=S at sb ⊢
  by_cases h3:S.err=0
  case neg =>
   rw [sel_pos (by simpa using h3),if_pos h3]
   by_cases hr:(Zv ⟨2,S.err,[]⟩).err=0
   ·rw [sel_neg (by simpa using hr)];rfl
   ·rw [sel_pos (by simpa using hr),Yk hr];rfl
  rw [sel_neg (by simpa using h3),if_neg (not_not_intro h3)]
  have vb:=Kerb.svc_ok (d:=⟨rl,es⟩) (n:=sv) (i:=ins) (now:=now) hok
  generalize Kerb.svc ⟨rl,es⟩ [] sv ins now=V at vb ⊢
  by_cases h2:V.err=0
  case neg =>
   rw [sel_pos (by simpa using h2),if_pos h2]
   by_cases hr:(Zv ⟨2,V.err,[]⟩).err=0
   ·rw [sel_neg (by simpa using hr)];rfl
   ·rw [sel_pos (by simpa using hr),Yk hr];rfl
  rw [sel_neg (by simpa using h2),if_neg (not_not_intro h2)]
  have t0:decide (0≤S.val.time)=true:=decide_eq_true sb.1.1
  have t1:decide (S.val.time≤4294967295)=true:=decide_eq_true sb.1.2
  have s1:Ug S.val.stop=true:=by rw [Kerb.isI64_iff];unfold Kerb.KaSecret.bd at sb;omega
  have s2:=Kerb.tEnd_i64 T.val.issued T.val.life
  have k1:decide (T.val.client.name.length≤9223372036854775807)=true:=decide_eq_true (Xy tb.1 (by decide))
  have k2:decide (T.val.client.inst.length≤9223372036854775807)=true:=decide_eq_true (Xy tb.2.1 (by decide))
  have k3:decide (T.val.client.realm.length≤9223372036854775807)=true:=decide_eq_true (Xy tb.2.2.1 (by decide))
  try simp only [k1,k2,k3,Xx,Bool.true_and]
  have g0:Vq [Zy Xb V.expires] (Vd 0) Uv=Zy Xb V.expires:=rfl
  rw [chk_of (by rfl),g0,onInt_int]
  by_cases hv:V.expires=0
  ·rw [sel_neg (by simp [hv])]
   rw [chk_of (by simp [s1,s2,vb.2.2.2]),show Wd [S.val.stop,Vw T.val.issued T.val.life] V.expires=[S.val.stop,Vw T.val.issued T.val.life] from by simp [Wd,hv]]
   generalize Xz now V.life [S.val.stop,Vw T.val.issued T.val.life]=L
   obtain ⟨life,ok⟩:=L
   dsimp only
   cases ok
   ·rw [sel_pos (by rfl),if_pos rfl]
    by_cases hr:(Zv ⟨2,3,[]⟩).err=0
    ·rw [sel_neg (by simpa using hr)];rfl
    ·rw [sel_pos (by simpa using hr),Yk hr];rfl
   rw [sel_neg (by rfl),if_neg (show ¬ (true=false) from by decide)]
   by_cases h5:Vu se=2
   case neg =>
    rw [sel_pos (by simpa using h5),if_pos h5]
    by_cases hr:(Zv ⟨2,10,[]⟩).err=0
    ·rw [sel_neg (by simpa using hr)];rfl
    ·rw [sel_pos (by simpa using hr),Yk hr];rfl
   rw [sel_neg (by simpa using h5),if_neg (not_not_intro h5),chk_of (by rw [tb.2.2.2,vb.1,t0,t1];rfl)]
   rw [Kerb.kaGive_out]
  ·rw [sel_pos (by simpa using hv),chk_of (by rfl)]
   rw [chk_of (by simp [s1,s2,vb.2.2.2]),show Wd [S.val.stop,Vw T.val.issued T.val.life] V.expires=[S.val.stop,Vw T.val.issued T.val.life,V.expires] from by simp [Wd,hv]]
   generalize Xz now V.life [S.val.stop,Vw T.val.issued T.val.life,V.expires]=L
   obtain ⟨life,ok⟩:=L
   dsimp only
   cases ok
   ·rw [sel_pos (by rfl),if_pos rfl]
    by_cases hr:(Zv ⟨2,3,[]⟩).err=0
    ·rw [sel_neg (by simpa using hr)];rfl
    ·rw [sel_pos (by simpa using hr),Yk hr];rfl
   rw [sel_neg (by rfl),if_neg (show ¬ (true=false) from by decide)]
   by_cases h5:Vu se=2
   case neg =>
    rw [sel_pos (by simpa using h5),if_pos h5]
    by_cases hr:(Zv ⟨2,10,[]⟩).err=0
    ·rw [sel_neg (by simpa using hr)];rfl
    ·rw [sel_pos (by simpa using hr),Yk hr];rfl
   rw [sel_neg (by simpa using h5),if_neg (not_not_intro h5),chk_of (by rw [tb.2.2.2,vb.1,t0,t1];rfl)]
   rw [Kerb.kaGive_out]
 ·cases h
theorem w159:Walked Tryz.prog G 159 13 sp159:=by
 refine ⟨Tryz.f159,Tryz.func159,by decide +kernel,rfl,fun xs bl r h=> ?_⟩
 unfold sp159 at h
 split at h
 ·rename_i dr dls en ei ek ev ex em ea ef et bd op u1 u2 u3 kv qr tk sv ins bx rl els now ad sk se
  obtain ⟨hpre,h2⟩:=chk_inv h;cases h2
  show runFnH (G.env 159 13) G.rts (G.own 159) Tryz.f159 _ _ [0]=_
  refine Eq.trans (b:=(let t0:List UInt8:=[(107:UInt8),(114:UInt8),(98:UInt8),(116:UInt8),(103:UInt8),(116:UInt8)];let t1:List UInt8:=[(116:UInt8),(103:UInt8),(115:UInt8),(84:UInt8)];let t2:List AV:=[Zy .i64 0,Zz [],Zz [],Zz [],Zz [],Zz [],Zz [],Zz [],Zz [],Zz [],Zy .u64 0,Zy .u64 0,Zy .u64 0,Zu [],Zy .i64 0,Zy .i64 0,Yj false];let t4:Kerb.Dec Qq:=Vm bd [(103:UInt8),(84:UInt8),(71:UInt8),(83:UInt8)] now sk;let t3:Qq:=Yz t4;Zw (chk (decide (Zx bd≤1000000)) (some (Zm [Yx [Zz (Kerb.KaSecret.label t3),Zy .i64 (Kerb.KaSecret.time t3),Zy .i64 (Kerb.KaSecret.start t3),Zy .i64 (Kerb.KaSecret.stop t3),Zy .u64 (Kerb.KaSecret.new t3)],Zy .i64 (Vx t4)],[[Zy .i64 op,Zz u1,Zz u2,Zz u3,Zy .i64 kv,Zz qr,Zu tk,Zz sv,Zz ins,Zu bx,Zz rl,Ym 9 els,Zy .i64 now,Zy .i64 ad,Zy .i64 sk,Zy .u64 se]]))) fun (r:AV×Blocks)=>onConsB (Yv r) fun (x:List AV) (r_1:List (List AV))=>cInt .i64 x fun n r_2=>let t5:Bool := !Yd (Zv (Yy n 10 []))==0;let t6:Bool := !Yd (Zv (Yy n 3 []))==0;let t7:List AV:=Zu (Yg (Zv (Yy n 3 [])))::t2;let t8:List AV:=Zu (Yg (Zv (Yy n 10 [])))::t2;cStr r_2 fun b r_3=>cStr r_3 fun b_1 r_4=>let t9:Bool:=l63 b&&l63 b_1;cStr r_4 fun b_2 r_5=>let t10:Bool:=t9&&l63 b_2&&true;cInt .i64 r_5 fun n_1 r_6=>cStr r_6 fun b_3 r_7=>cBs r_7 fun b_4 r_8=>cStr r_8 fun b_5 r_9=>cStr r_9 fun b_6 r_10=>cBs r_10 fun b_7 r_11=>cStr r_11 fun b_8 r_12=>let t11:Bool:=t10&&l63 b_8&&l63 b_8&&true;cSl 9 r_12 fun b_9 r_13=>let t12:Vb:=Vk (Yp b_8 (Yu Yw b_9)) [] Kerb.noIssue false;let t13:AV:=Yx (Zz b_8::Ym 9 b_9::Zu []::t2);let t14:AV:=Yx (Zz b_8::Ym 9 b_9::t7);let t15:AV:=Yx (Zz b_8::Ym 9 b_9::t8);cInt .i64 r_13 fun n_2 r_14=>let t16:Kerb.Svc:=Kerb.svc (Yp b_8 (Yu Yw b_9)) (Yu Kerb.toCross []) t0 b_8 n_2;cInt .i64 r_14 fun n_3 r_15=>cInt .i64 r_15 fun n_4 r_16=>cInt .u64 r_16 fun n_5 r_17=>let t17:List (List AV):=[[Zy .i64 n,Zz b,Zz b_1,Zz b_2,Zy .i64 n_1,Zz b_3,Zu b_4,Zz b_5,Zz b_6,Zu b_7,Zz b_8,Ym 9 b_9,Zy .i64 n_2,Zy .i64 n_3,Zy .i64 n_4,Zy .u64 n_5]];let t18:Option (AV×Blocks):=chk (decide (0≤n_5)&&decide (n_5<18446744073709551616)) (some (Zy .i64 (Vu n_5),[]));let t21:Bool:=t11&&Wu n_5&&Wu ek;let t19:Option (AV×Blocks):=sel t6 (some (t13,t17)) (some (t14,t17));let t20:Option (AV×Blocks):=sel t5 (some (t13,t17)) (some (t15,t17));onNil r_17 (onNilB r_1 (Qu (Yq r) fun vs=>onCons vs fun x r=>Xw x fun cs=>cStr cs fun b_10 r_18=>cInt .i64 r_18 fun n_6 r_19=>cInt .i64 r_19 fun n_7 r_20=>cInt .i64 r_20 fun n_8 r_21=>cInt .u64 r_21 fun n_9 r_22=>onNil r_22 (cInt .i64 r fun n_10 r=>onNil r (sel (!n_10==0) (sel (!Yd (Zv (Yy n n_10 []))==0) (some (t13,t17)) (some (Yx (Zz b_8::Ym 9 b_9::Zu (Yg (Zv (Yy n n_10 [])))::t2),t17))) (Zw (chk (Wx b_9 Xj&&decide (Zx b_9≤1000000)&&true&&true&&l63 b_8) (some (Zm [Zy .u64 (Kerb.Svc.key t16),Zy .i64 (Kerb.Svc.kvno t16),Zy .i64 (Kerb.Svc.life t16),Zy .i64 (Kerb.Svc.expires t16),Zy .i64 (Kerb.Svc.err t16)],[]))) (kT fun vs=>cInt .u64 vs fun n_11 r=>let t22:Bool:=t21&&Wu n_11&&true&&Wx b_9 Xj&&Wx dls Xj&&decide (0≤n_6)&&decide (n_6≤4294967295);cInt .i64 r fun n_12 r=>cInt .i64 r fun n_13 r=>cInt .i64 r fun n_14 r=>let t25:List AV:=[Zy .i64 ex,Zy .i64 n_14];let t23:Int:=(↑(Zx t25):Int);let t24:AV:=Vq t25 (Vd (Uz .i64 (0+1))) Uv;cInt .i64 r fun n_15 r=>onNil r (sel (!n_15==0) (sel (!Yd (Zv (Yy n n_15 []))==0) (some (t13,t17)) (some (Yx (Zz b_8::Ym 9 b_9::Zu (Yg (Zv (Yy n n_15 [])))::t2),t17))) (chk (decide (0<t23)&&true) (Vf .i64 (Vq t25 (Vd 0) Uv) fun n_16=>let t27:List AV:=[Zy .i64 n_8]++[Zy .i64 n_16];let t26:Nat:=Zx t27;sel (!n_16==0) (chk (room (Zx [Zy .i64 n_8]+Zx [Zy .i64 n_16]) (nat_lit 8)) (chk (decide (Uz .i64 (0+1)<t23)&&true) (Vf .i64 t24 fun n_17=>sel (!n_17==0) (chk (room (t26+Zx [Zy .i64 n_17]) (nat_lit 8)) (Zw (chk (decide (Zx (t27++[Zy .i64 n_17])≤1000000)&&Wx [n_8,n_16,n_17] Ug) (some (Zm [Zy .i64 (Yq (Xz n_2 (Vv em n_13) [n_8,n_16,n_17])),Yj (Yv (Xz n_2 (Vv em n_13) [n_8,n_16,n_17]))],[]))) (kT fun vs=>cInt .i64 vs fun n_18 r=>let t32:Kerb.Bytes×Xp×Bool:=Uh n t1 n_6 b_8 (Zh b b_1 b_2) (Zh t0 b_8 b_8) n_3 n_2 n_18 n_5 ek n_11 n_12 3 0;let t31:Xp×Bool:=Yv t32;let t30:Bool:=Yv t31;let t29:Vb:=if t30=true then Vk (Yp dr (Yu Yw dls)) (Yq t32) (Yq t31) true else t12;let t28:Xp:=Wg t29;cBool r fun b r=>onNil r (sel (!b) t19 (Zw t18 (kI .i64 fun n=>sel (!n==2) t20 (Zw (chk t22 (some (Yx [Zz (Xf (Xu t29)),Ym 9 (Yu Yb (Xv (Xu t29))),Zu (Wq t29),Zy .i64 (Wp t28),Zz (Zf (Zb t28)),Zz (Zg (Zb t28)),Zz (Zk (Zb t28)),Zz (Zf (Zn t28)),Zz (Zg (Zn t28)),Zz (Zk (Zn t28)),Zz (Zf (Zd t28)),Zz (Zg (Zd t28)),Zz (Zk (Zd t28)),Zy .u64 (Xn t28),Zy .u64 (Wz t28),Zy .u64 (Xm t28),Zu (Wj t28),Zy .i64 (Wy t28),Zy .i64 (Wk t28),Yj (Vy t29)],t17))) fun (r:AV×Blocks)=>onConsB (Yv r) fun (x:List AV) (r_23:List (List AV))=>cInt .i64 x fun n r_24=>cStr r_24 fun b r_25=>cStr r_25 fun b_11 r_26=>cStr r_26 fun b_12 r_27=>cInt .i64 r_27 fun n_19 r_28=>cStr r_28 fun b_13 r_29=>cBs r_29 fun b_14 r_30=>cStr r_30 fun b_15 r_31=>cStr r_31 fun b_16 r_32=>cBs r_32 fun b_17 r_33=>cStr r_33 fun b_18 r_34=>cSl 9 r_34 fun b_19 r_35=>cInt .i64 r_35 fun n_20 r_36=>cInt .i64 r_36 fun n_21 r_37=>cInt .i64 r_37 fun n_22 r_38=>cInt .u64 r_38 fun n_23 r_39=>onNil r_39 (onNilB r_23 (Xw (Yq r) fun cs=>cStr cs fun b_20 r=>cSl 9 r fun b_21 r=>cBs r fun b_22 r=>cInt .i64 r fun n_24 r=>cStr r fun b_23 r=>cStr r fun b_24 r=>cStr r fun b_25 r=>cStr r fun b_26 r=>cStr r fun b_27 r=>cStr r fun b_28 r=>cStr r fun b_29 r=>cStr r fun b_30 r=>cStr r fun b_31 r=>cInt .u64 r fun n_25 r=>cInt .u64 r fun n_26 r=>cInt .u64 r fun n_27 r=>cBs r fun b_32 r=>cInt .i64 r fun n_28 r=>cInt .i64 r fun n_29 r=>cBool r fun b_33 r=>onNil r (some (Yx [Zz b_20,Ym 9 b_21,Zu b_22,Zy .i64 n_24,Zz b_23,Zz b_24,Zz b_25,Zz b_26,Zz b_27,Zz b_28,Zz b_29,Zz b_30,Zz b_31,Zy .u64 n_25,Zy .u64 n_26,Zy .u64 n_27,Zu b_32,Zy .i64 n_28,Zy .i64 n_29,Yj b_33],[[Zy .i64 n,Zz b,Zz b_11,Zz b_12,Zy .i64 n_19,Zz b_13,Zu b_14,Zz b_15,Zz b_16,Zu b_17,Zz b_18,Ym 9 b_19,Zy .i64 n_20,Zy .i64 n_21,Zy .i64 n_22,Zy .u64 n_23]]))))))))))) (Zw (chk (decide (t26≤1000000)&&Wx [n_8,n_16] Ug) (some (Zm [Zy .i64 (Yq (Xz n_2 (Vv em n_13) [n_8,n_16])),Yj (Yv (Xz n_2 (Vv em n_13) [n_8,n_16]))],[]))) (kT fun vs=>cInt .i64 vs fun n_18 r=>let t37:Kerb.Bytes×Xp×Bool:=Uh n t1 n_6 b_8 (Zh b b_1 b_2) (Zh t0 b_8 b_8) n_3 n_2 n_18 n_5 ek n_11 n_12 3 0;let t36:Xp×Bool:=Yv t37;let t35:Bool:=Yv t36;let t34:Vb:=if t35=true then Vk (Yp dr (Yu Yw dls)) (Yq t37) (Yq t36) true else t12;let t33:Xp:=Wg t34;cBool r fun b r=>onNil r (sel (!b) t19 (Zw t18 (kI .i64 fun n=>sel (!n==2) t20 (Zw (chk t22 (some (Yx [Zz (Xf (Xu t34)),Ym 9 (Yu Yb (Xv (Xu t34))),Zu (Wq t34),Zy .i64 (Wp t33),Zz (Zf (Zb t33)),Zz (Zg (Zb t33)),Zz (Zk (Zb t33)),Zz (Zf (Zn t33)),Zz (Zg (Zn t33)),Zz (Zk (Zn t33)),Zz (Zf (Zd t33)),Zz (Zg (Zd t33)),Zz (Zk (Zd t33)),Zy .u64 (Xn t33),Zy .u64 (Wz t33),Zy .u64 (Xm t33),Zu (Wj t33),Zy .i64 (Wy t33),Zy .i64 (Wk t33),Yj (Vy t34)],t17))) fun (r:AV×Blocks)=>onConsB (Yv r) fun (x:List AV) (r_23:List (List AV))=>cInt .i64 x fun n r_24=>cStr r_24 fun b r_25=>cStr r_25 fun b_11 r_26=>cStr r_26 fun b_12 r_27=>cInt .i64 r_27 fun n_19 r_28=>cStr r_28 fun b_13 r_29=>cBs r_29 fun b_14 r_30=>cStr r_30 fun b_15 r_31=>cStr r_31 fun b_16 r_32=>cBs r_32 fun b_17 r_33=>cStr r_33 fun b_18 r_34=>cSl 9 r_34 fun b_19 r_35=>cInt .i64 r_35 fun n_20 r_36=>cInt .i64 r_36 fun n_21 r_37=>cInt .i64 r_37 fun n_22 r_38=>cInt .u64 r_38 fun n_23 r_39=>onNil r_39 (onNilB r_23 (Xw (Yq r) fun cs=>cStr cs fun b_20 r=>cSl 9 r fun b_21 r=>cBs r fun b_22 r=>cInt .i64 r fun n_24 r=>cStr r fun b_23 r=>cStr r fun b_24 r=>cStr r fun b_25 r=>cStr r fun b_26 r=>cStr r fun b_27 r=>cStr r fun b_28 r=>cStr r fun b_29 r=>cStr r fun b_30 r=>cStr r fun b_31 r=>cInt .u64 r fun n_25 r=>cInt .u64 r fun n_26 r=>cInt .u64 r fun n_27 r=>cBs r fun b_32 r=>cInt .i64 r fun n_28 r=>cInt .i64 r fun n_29 r=>cBool r fun b_33 r=>onNil r (some (Yx [Zz b_20,Ym 9 b_21,Zu b_22,Zy .i64 n_24,Zz b_23,Zz b_24,Zz b_25,Zz b_26,Zz b_27,Zz b_28,Zz b_29,Zz b_30,Zz b_31,Zy .u64 n_25,Zy .u64 n_26,Zy .u64 n_27,Zu b_32,Zy .i64 n_28,Zy .i64 n_29,Yj b_33],[[Zy .i64 n,Zz b,Zz b_11,Zz b_12,Zy .i64 n_19,Zz b_13,Zu b_14,Zz b_15,Zz b_16,Zu b_17,Zz b_18,Ym 9 b_19,Zy .i64 n_20,Zy .i64 n_21,Zy .i64 n_22,Zy .u64 n_23]]))))))))))))) (chk (decide (Uz .i64 (0+1)<t23)&&true) (Vf .i64 t24 fun n_17=>sel (!n_17==0) (chk (room (Zx [Zy .i64 n_8]+Zx [Zy .i64 n_17]) (nat_lit 8)) (Zw (chk (decide (Zx ([Zy .i64 n_8]++[Zy .i64 n_17])≤1000000)&&Wx [n_8,n_17] Ug) (some (Zm [Zy .i64 (Yq (Xz n_2 (Vv em n_13) [n_8,n_17])),Yj (Yv (Xz n_2 (Vv em n_13) [n_8,n_17]))],[]))) (kT fun vs=>cInt .i64 vs fun n_18 r=>let t42:Kerb.Bytes×Xp×Bool:=Uh n t1 n_6 b_8 (Zh b b_1 b_2) (Zh t0 b_8 b_8) n_3 n_2 n_18 n_5 ek n_11 n_12 3 0;let t41:Xp×Bool:=Yv t42;let t40:Bool:=Yv t41;let t39:Vb:=if t40=true then Vk (Yp dr (Yu Yw dls)) (Yq t42) (Yq t41) true else t12;let t38:Xp:=Wg t39;cBool r fun b r=>onNil r (sel (!b) t19 (Zw t18 (kI .i64 fun n=>sel (!n==2) t20 (Zw (chk t22 (some (Yx [Zz (Xf (Xu t39)),Ym 9 (Yu Yb (Xv (Xu t39))),Zu (Wq t39),Zy .i64 (Wp t38),Zz (Zf (Zb t38)),Zz (Zg (Zb t38)),Zz (Zk (Zb t38)),Zz (Zf (Zn t38)),Zz (Zg (Zn t38)),Zz (Zk (Zn t38)),Zz (Zf (Zd t38)),Zz (Zg (Zd t38)),Zz (Zk (Zd t38)),Zy .u64 (Xn t38),Zy .u64 (Wz t38),Zy .u64 (Xm t38),Zu (Wj t38),Zy .i64 (Wy t38),Zy .i64 (Wk t38),Yj (Vy t39)],t17))) fun (r:AV×Blocks)=>onConsB (Yv r) fun (x:List AV) (r_23:List (List AV))=>cInt .i64 x fun n r_24=>cStr r_24 fun b r_25=>cStr r_25 fun b_11 r_26=>cStr r_26 fun b_12 r_27=>cInt .i64 r_27 fun n_19 r_28=>cStr r_28 fun b_13 r_29=>cBs r_29 fun b_14 r_30=>cStr r_30 fun b_15 r_31=>cStr r_31 fun b_16 r_32=>cBs r_32 fun b_17 r_33=>cStr r_33 fun b_18 r_34=>cSl 9 r_34 fun b_19 r_35=>cInt .i64 r_35 fun n_20 r_36=>cInt .i64 r_36 fun n_21 r_37=>cInt .i64 r_37 fun n_22 r_38=>cInt .u64 r_38 fun n_23 r_39=>onNil r_39 (onNilB r_23 (Xw (Yq r) fun cs=>cStr cs fun b_20 r=>cSl 9 r fun b_21 r=>cBs r fun b_22 r=>cInt .i64 r fun n_24 r=>cStr r fun b_23 r=>cStr r fun b_24 r=>cStr r fun b_25 r=>cStr r fun b_26 r=>cStr r fun b_27 r=>cStr r fun b_28 r=>cStr r fun b_29 r=>cStr r fun b_30 r=>cStr r fun b_31 r=>cInt .u64 r fun n_25 r=>cInt .u64 r fun n_26 r=>cInt .u64 r fun n_27 r=>cBs r fun b_32 r=>cInt .i64 r fun n_28 r=>cInt .i64 r fun n_29 r=>cBool r fun b_33 r=>onNil r (some (Yx [Zz b_20,Ym 9 b_21,Zu b_22,Zy .i64 n_24,Zz b_23,Zz b_24,Zz b_25,Zz b_26,Zz b_27,Zz b_28,Zz b_29,Zz b_30,Zz b_31,Zy .u64 n_25,Zy .u64 n_26,Zy .u64 n_27,Zu b_32,Zy .i64 n_28,Zy .i64 n_29,Yj b_33],[[Zy .i64 n,Zz b,Zz b_11,Zz b_12,Zy .i64 n_19,Zz b_13,Zu b_14,Zz b_15,Zz b_16,Zu b_17,Zz b_18,Ym 9 b_19,Zy .i64 n_20,Zy .i64 n_21,Zy .i64 n_22,Zy .u64 n_23]]))))))))))) (Zw (chk (decide (Zx [Zy .i64 n_8]≤1000000)&&Wx [n_8] Ug) (some (Zm [Zy .i64 (Yq (Xz n_2 (Vv em n_13) [n_8])),Yj (Yv (Xz n_2 (Vv em n_13) [n_8]))],[]))) (kT fun vs=>cInt .i64 vs fun n_18 r=>let t47:Kerb.Bytes×Xp×Bool:=Uh n t1 n_6 b_8 (Zh b b_1 b_2) (Zh t0 b_8 b_8) n_3 n_2 n_18 n_5 ek n_11 n_12 3 0;let t46:Xp×Bool:=Yv t47;let t45:Bool:=Yv t46;let t44:Vb:=if t45=true then Vk (Yp dr (Yu Yw dls)) (Yq t47) (Yq t46) true else t12;let t43:Xp:=Wg t44;cBool r fun b r=>onNil r (sel (!b) t19 (Zw t18 (kI .i64 fun n=>sel (!n==2) t20 (Zw (chk t22 (some (Yx [Zz (Xf (Xu t44)),Ym 9 (Yu Yb (Xv (Xu t44))),Zu (Wq t44),Zy .i64 (Wp t43),Zz (Zf (Zb t43)),Zz (Zg (Zb t43)),Zz (Zk (Zb t43)),Zz (Zf (Zn t43)),Zz (Zg (Zn t43)),Zz (Zk (Zn t43)),Zz (Zf (Zd t43)),Zz (Zg (Zd t43)),Zz (Zk (Zd t43)),Zy .u64 (Xn t43),Zy .u64 (Wz t43),Zy .u64 (Xm t43),Zu (Wj t43),Zy .i64 (Wy t43),Zy .i64 (Wk t43),Yj (Vy t44)],t17))) fun (r:AV×Blocks)=>onConsB (Yv r) fun (x:List AV) (r_23:List (List AV))=>cInt .i64 x fun n r_24=>cStr r_24 fun b r_25=>cStr r_25 fun b_11 r_26=>cStr r_26 fun b_12 r_27=>cInt .i64 r_27 fun n_19 r_28=>cStr r_28 fun b_13 r_29=>cBs r_29 fun b_14 r_30=>cStr r_30 fun b_15 r_31=>cStr r_31 fun b_16 r_32=>cBs r_32 fun b_17 r_33=>cStr r_33 fun b_18 r_34=>cSl 9 r_34 fun b_19 r_35=>cInt .i64 r_35 fun n_20 r_36=>cInt .i64 r_36 fun n_21 r_37=>cInt .i64 r_37 fun n_22 r_38=>cInt .u64 r_38 fun n_23 r_39=>onNil r_39 (onNilB r_23 (Xw (Yq r) fun cs=>cStr cs fun b_20 r=>cSl 9 r fun b_21 r=>cBs r fun b_22 r=>cInt .i64 r fun n_24 r=>cStr r fun b_23 r=>cStr r fun b_24 r=>cStr r fun b_25 r=>cStr r fun b_26 r=>cStr r fun b_27 r=>cStr r fun b_28 r=>cStr r fun b_29 r=>cStr r fun b_30 r=>cStr r fun b_31 r=>cInt .u64 r fun n_25 r=>cInt .u64 r fun n_26 r=>cInt .u64 r fun n_27 r=>cBs r fun b_32 r=>cInt .i64 r fun n_28 r=>cInt .i64 r fun n_29 r=>cBool r fun b_33 r=>onNil r (some (Yx [Zz b_20,Ym 9 b_21,Zu b_22,Zy .i64 n_24,Zz b_23,Zz b_24,Zz b_25,Zz b_26,Zz b_27,Zz b_28,Zz b_29,Zz b_30,Zz b_31,Zy .u64 n_25,Zy .u64 n_26,Zy .u64 n_27,Zu b_32,Zy .i64 n_28,Zy .i64 n_29,Yj b_33],[[Zy .i64 n,Zz b,Zz b_11,Zz b_12,Zy .i64 n_19,Zz b_13,Zu b_14,Zz b_15,Zz b_16,Zu b_17,Zz b_18,Ym 9 b_19,Zy .i64 n_20,Zy .i64 n_21,Zy .i64 n_22,Zy .u64 n_23]]))))))))))))))))))))):Option (AV×Blocks))) (by kernel_rfl) ?_
  delta kT kI
  try dsimp only [cStr,cBs,cBool,cU8,cInt,cSl,l63]
  simp only [Yn,decide_eq_true_eq] at hpre
  obtain ⟨⟨⟨⟨⟨⟨⟨hpre,hd⟩,hbl⟩,hop⟩,hn⟩,e1⟩,e2⟩,e3⟩:=hpre
  obtain ⟨⟨⟨⟨⟨⟨⟨⟨⟨⟨⟨c1,c2⟩,c3⟩,c4⟩,c5⟩,c6⟩,c7⟩,c8⟩,c9⟩,c10⟩,hall⟩,hlen⟩:=hpre
  obtain ⟨es,rfl,hok⟩:=Wn hall
  obtain ⟨ds,rfl,hok2⟩:=Wn hd
  rw [Yh,Yh]
  simp only [Xk] at hlen
  have hkr:[(107:UInt8),(114:UInt8),(98:UInt8),(116:UInt8),(103:UInt8),(116:UInt8)]=Um:=rfl
  have hlb:[(103:UInt8),(84:UInt8),(71:UInt8),(83:UInt8)]=Kerb.lGet:=rfl
  have hlb2:[(116:UInt8),(103:UInt8),(115:UInt8),(84:UInt8)]=Kerb.lGot:=rfl
  have q8:=Kerb.isU64_iff.1 c8
  have q88:(decide (0≤se)&&decide (se<18446744073709551616))=true:=by simp;omega
  simp only [hkr,hlb,hlb2,Yh,hall,hd,Xk,hlen,hbl,c1,c2,c3,c4,c5,c6,c7,c8,e1,q88,decide_true,Xx,List.map_nil,↓A0,A0]
  unfold Kerb.kaAuthenticate Kerb.kaLife1
  dsimp only
  have sb:=Kerb.kaSecOf_bd bd Kerb.lGet now sk
  generalize Vm bd Kerb.lGet now sk=S at sb ⊢
  by_cases h1:S.err=0
  case neg =>
   rw [sel_pos (by simpa using h1),if_pos h1]
   by_cases hr:(Zv ⟨op,S.err,[]⟩).err=0
   ·rw [sel_neg (by simpa using hr)];rfl
   ·rw [sel_pos (by simpa using hr),Yk hr];rfl
  rw [sel_neg (by simpa using h1),if_neg (not_not_intro h1)]
  have vb:=Kerb.svc_ok (d:=⟨rl,es⟩) (n:=Um) (i:=rl) (now:=now) hok
  generalize Kerb.svc ⟨rl,es⟩ [] Um rl now=V at vb ⊢
  by_cases h2:V.err=0
  case neg =>
   rw [sel_pos (by simpa using h2),if_pos h2]
   by_cases hr:(Zv ⟨op,V.err,[]⟩).err=0
   ·rw [sel_neg (by simpa using hr)];rfl
   ·rw [sel_pos (by simpa using hr),Yk hr];rfl
  rw [sel_neg (by simpa using h2),if_neg (not_not_intro h2)]
  have t0:decide (0≤S.val.time)=true:=decide_eq_true sb.1.1
  have t1:decide (S.val.time≤4294967295)=true:=decide_eq_true sb.1.2
  have s1:Ug S.val.stop=true:=by rw [Kerb.isI64_iff];unfold Kerb.KaSecret.bd at sb;omega
  have g0:Vq [Zy Xb ex,Zy Xb V.expires] (Vd 0) Uv=Zy Xb ex:=rfl
  have g1:Vq [Zy Xb ex,Zy Xb V.expires] (Vd (Uz .i64 (0+1))) Uv=Zy Xb V.expires:=rfl
  rw [chk_of (by rfl),g0,onInt_int]
  by_cases hx:ex=0
  ·rw [sel_neg (by simp [hx]),chk_of (by rfl),g1,onInt_int]
   by_cases hv:V.expires=0
   ·rw [sel_neg (by simp [hv])]
    rw [chk_of (by simp [s1,e3,vb.2.2.2]),show Wd (Wd [S.val.stop] ex) V.expires=[S.val.stop] from by simp [Wd,hx,hv]]
    generalize Xz now (Vv em V.life) [S.val.stop]=L
    obtain ⟨life,ok⟩:=L
    dsimp only
    cases ok
    ·rw [sel_pos (by rfl),if_pos rfl]
     by_cases hr:(Zv ⟨op,3,[]⟩).err=0
     ·rw [sel_neg (by simpa using hr)];rfl
     ·rw [sel_pos (by simpa using hr),Yk hr];rfl
    rw [sel_neg (by rfl),if_neg (show ¬ (true=false) from by decide)]
    by_cases h5:Vu se=2
    case neg =>
     rw [sel_pos (by simpa using h5),if_pos h5]
     by_cases hr:(Zv ⟨op,10,[]⟩).err=0
     ·rw [sel_neg (by simpa using hr)];rfl
     ·rw [sel_pos (by simpa using hr),Yk hr];rfl
    rw [sel_neg (by simpa using h5),if_neg (not_not_intro h5),chk_of (by rw [vb.1,t0,t1];rfl)]
    rfl
   ·rw [sel_pos (by simpa using hv),chk_of (by rfl)]
    rw [chk_of (by simp [s1,e3,vb.2.2.2]),show Wd (Wd [S.val.stop] ex) V.expires=[S.val.stop,V.expires] from by simp [Wd,hx,hv]]
    generalize Xz now (Vv em V.life) [S.val.stop,V.expires]=L
    obtain ⟨life,ok⟩:=L
    dsimp only
    cases ok
    ·rw [sel_pos (by rfl),if_pos rfl]
     by_cases hr:(Zv ⟨op,3,[]⟩).err=0
     ·rw [sel_neg (by simpa using hr)];rfl
     ·rw [sel_pos (by simpa using hr),Yk hr];rfl
    rw [sel_neg (by rfl),if_neg (show ¬ (true=false) from by decide)]
    by_cases h5:Vu se=2
    case neg =>
     rw [sel_pos (by simpa using h5),if_pos h5]
     by_cases hr:(Zv ⟨op,10,[]⟩).err=0
     ·rw [sel_neg (by simpa using hr)];rfl
     ·rw [sel_pos (by simpa using hr),Yk hr];rfl
    rw [sel_neg (by simpa using h5),if_neg (not_not_intro h5),chk_of (by rw [vb.1,t0,t1];rfl)]
    rfl
  ·rw [sel_pos (by simpa using hx),chk_of (by rfl),chk_of (by rfl),g1,onInt_int]
   by_cases hv:V.expires=0
   ·rw [sel_neg (by simp [hv])]
    rw [chk_of (by simp [s1,e3,vb.2.2.2]),show Wd (Wd [S.val.stop] ex) V.expires=[S.val.stop,ex] from by simp [Wd,hx,hv]]
    generalize Xz now (Vv em V.life) [S.val.stop,ex]=L
    obtain ⟨life,ok⟩:=L
    dsimp only
    cases ok
    ·rw [sel_pos (by rfl),if_pos rfl]
     by_cases hr:(Zv ⟨op,3,[]⟩).err=0
     ·rw [sel_neg (by simpa using hr)];rfl
     ·rw [sel_pos (by simpa using hr),Yk hr];rfl
    rw [sel_neg (by rfl),if_neg (show ¬ (true=false) from by decide)]
    by_cases h5:Vu se=2
    case neg =>
     rw [sel_pos (by simpa using h5),if_pos h5]
     by_cases hr:(Zv ⟨op,10,[]⟩).err=0
     ·rw [sel_neg (by simpa using hr)];rfl
     ·rw [sel_pos (by simpa using hr),Yk hr];rfl
    rw [sel_neg (by simpa using h5),if_neg (not_not_intro h5),chk_of (by rw [vb.1,t0,t1];rfl)]
    rfl
   ·rw [sel_pos (by simpa using hv),chk_of (by rfl)]
    rw [chk_of (by simp [s1,e3,vb.2.2.2]),show Wd (Wd [S.val.stop] ex) V.expires=[S.val.stop,ex,V.expires] from by simp [Wd,hx,hv]]
    generalize Xz now (Vv em V.life) [S.val.stop,ex,V.expires]=L
    obtain ⟨life,ok⟩:=L
    dsimp only
    cases ok
    ·rw [sel_pos (by rfl),if_pos rfl]
     by_cases hr:(Zv ⟨op,3,[]⟩).err=0
     ·rw [sel_neg (by simpa using hr)];rfl
     ·rw [sel_pos (by simpa using hr),Yk hr];rfl
    rw [sel_neg (by rfl),if_neg (show ¬ (true=false) from by decide)]
    by_cases h5:Vu se=2
    case neg =>
     rw [sel_pos (by simpa using h5),if_pos h5]
     by_cases hr:(Zv ⟨op,10,[]⟩).err=0
     ·rw [sel_neg (by simpa using hr)];rfl
     ·rw [sel_pos (by simpa using hr),Yk hr];rfl
    rw [sel_neg (by simpa using h5),if_neg (not_not_intro h5),chk_of (by rw [vb.1,t0,t1];rfl)]
    rfl
 ·cases h
end Go.Proofs.YtaikjfcgemjghaaGreat
