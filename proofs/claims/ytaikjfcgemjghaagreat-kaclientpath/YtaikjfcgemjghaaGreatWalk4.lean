/- What the functions of this seat compute. -/
import Derived.Test.YtaikjfcgemjghaaGreatTab
import Derived.Test.YtaikjfcgemjghaaGreatKerbPlain
import Derived.Test.YtaikjfcgemjghaaGreatAbsStep
import Derived.Test.YtaikjfcgemjghaaGreatKerbKaPlain
import Derived.Test.YtaikjfcgemjghaaGreatKerbKaRef
import Derived.Test.YtaikjfcgemjghaaGreatKerbCli4
import Derived.Test.YtaikjfcgemjghaaGreatKerbCli5
import Derived.Test.YtaikjfcgemjghaaGreatKerbKac2
import Derived.Test.YtaikjfcgemjghaaGreatKerbCli3
import Derived.Test.YtaikjfcgemjghaaGreatKerbCli4
import Derived.Test.YtaikjfcgemjghaaGreatKerbCli5
import Derived.Test.YtaikjfcgemjghaaGreatKerbSrvL
import Derived.Test.YtaikjfcgemjghaaGreatKerbPath
import Derived.Test.YtaikjfcgemjghaaGreatKerbPath
open Go.Abs.AV renaming int→Zz,str→Zy,tup→Zj,bs→Zk,agg→Zh,bool→Yx,onInt→Yj,onAgg→Ym,sl→Xx,onStr→Ub
open List renaming length→Zx,map→Yd,all→Xp,length_map→Wy
open Option renaming bind→Zw
open Kerb.Dec renaming val→Zv,err→Xm
open Go.IntKind renaming i64→Zu,wrap→Xz
open Kerb.Prin renaming mk→Zq,realm→Zf,name→Zn,inst→Zm,valid→Yp
open Bool renaming not_true→Zp,and_eq_true→Yw,and_self→Yf,not_false→Vm
open Kerb renaming decodeKaAnswer→Zd,decodeKaSecret→Zg,within→Zb,kaRefuse→Yz,decodeKaRequest→Yk,putN_len→Yg,toEntry→Xy,openTicket→Xv,encodeKaAnswer→Xq,kaOpen→Xj,openBox→Xd,isCred→Xb,pGet→Xn,toCred→Ww,krbtgt→Wv,keyBytes_len→Wu,kaSend→Wk,credErr→Wp,kaEnd→Wb,isU64→Wn,encodeKaRequest→Wm,putTick→Vy,map_toEntry→Vx,isEntry→Vw,ticketed→Vj,map_toCred→Vd,decodeKaReply→Vf,grantLife→Vn,prin→Ux,keyValid→Uw,pBytes→Uu,noPrin→Uq,encodeKaSecret→Uj,putText→Up,storeCred→Uf,credsErr→Um
open Kerb.Issue renaming service→Yy,server→Yv,client→Yu,session→Vv,granter→Vu,sealer→Vk,issued→Vp,text→Vh,stop→Uz,kind→Uy
open Kerb.Cred renaming av→Yq
open Prod renaming snd→Yb,fst→Xw
open Kerb.KaAnswer renaming service→Yn,mk→Wz,session→Ug,ticket→Un
open Nat renaming le_trans→Yh
open Kerb.Db renaming mk→Xu
open Kerb.KaRequest renaming mk→Xk,user→Uh
open Kerb.ReplyPart renaming service→Xf
open Kerb.Enc renaming err→Xg,val→Wj
open Kerb.Rd renaming val→Xh,pos→Wf,bad→Wg
open Kerb.Client renaming mk→Wx,err→Wq,av→Vq
open Kerb.Cache renaming err→Wd,av→Vz,mk→Vb
open Kerb.Entry renaming av→Wh
open Int renaming toNat→Vg
open Kerb.KaWait renaming mk→Uv
open Kerb.KaSecret renaming mk→Uk
open Sum renaming inr→Ud
namespace Go.Proofs.YtaikjfcgemjghaaGreat
open Go Go.Abs Go.Proofs
set_option linter.unusedVariables false
set_option linter.unusedSimpArgs false
set_option maxRecDepth 100000
theorem w107:Walked Tryz.prog G 107 7 sp107:=by
 refine ⟨Tryz.f107,Tryz.func107,by decide +kernel,rfl,fun xs bl r h=> ?_⟩
 unfold sp107 at h
 split at h
 ·rename_i rl els x y z u v w ad li now lf se sl tg kv
  obtain ⟨hpre,h2⟩:=chk_inv h;cases h2
  refine Eq.trans (b:=(let t0:AV:=Zh [Zz .i64 0,Zy [],Zy [],Zy [],Zy [],Zy [],Zy [],Zy [],Zy [],Zy [],Zz .u64 0,Zz .u64 0,Zz .u64 0,Zk [],Zz .i64 0,Zz .i64 0];let t1:AV:=Zh [Zz .u64 0,Zy [],Zy [],Zy [],Zz .i64 0,Zz .i64 0,Zk [],Zz .i64 0];Zw (chk (l63 x&&l63 y&&l63 z&&l63 u&&l63 v&&decide (0≤se)&&decide (se<18446744073709551616)&&decide (0≤tg)&&decide (tg<18446744073709551616)) (some (Zj [Zk (Wj (Kerb.sealTicket (Kerb.Ticket.mk li (Zq x y z) ad se lf now u v) tg)),Zz .i64 (Xg (Kerb.sealTicket (Kerb.Ticket.mk li (Zq x y z) ad se lf now u v) tg))],[]))) (kT fun vs=>onCons vs fun x_1 r=>AV.onBs x_1 fun b=>onCons r fun x_2 r=>Yj .i64 x_2 fun n=>onNil r (sel (!n==0) (some (Zj [t0,t1,Zz .i64 n],[])) (Zw (chk (l63 u&&l63 v&&l63 w&&decide (0≤se)&&decide (se<18446744073709551616)) (some (Zj [Zk (Wj (Kerb.encodePart (Kerb.ReplyPart.mk se (Zq u v w) lf kv b now) li)),Zz .i64 (Xg (Kerb.encodePart (Kerb.ReplyPart.mk se (Zq u v w) lf kv b now) li))],[]))) (kT fun vs=>onCons vs fun x_3 r=>AV.onBs x_3 fun b_1=>onCons r fun x_4 r=>Yj .i64 x_4 fun n=>onNil r (sel (!n==0) (some (Zj [t0,t1,Zz .i64 n],[])) (some (Zj [Zh [Zz .i64 0,Zy [(107:UInt8),(114:UInt8),(98:UInt8),(116:UInt8),(103:UInt8),(116:UInt8)],Zy rl,Zy rl,Zy x,Zy y,Zy z,Zy u,Zy v,Zy w,Zz .u64 se,Zz .u64 sl,Zz .u64 0,Zk b,Zz .i64 now,Zz .i64 (Kerb.tEnd now lf)],Zh [Zz .u64 se,Zy u,Zy v,Zy w,Zz .i64 lf,Zz .i64 kv,Zk b,Zz .i64 now],Zz .i64 0],[]))))))):Option (AV×Blocks))) (by kernel_rfl) ?_
  delta kT
  try dsimp only [cStr,cBs,cBool,cU8,cInt,cSl,l63]
  simp only [Yw,decide_eq_true_eq] at hpre
  simp only [Kerb.isU64_iff] at hpre
  obtain ⟨⟨⟨⟨⟨⟨⟨h1,h2⟩,h3⟩,h4⟩,h5⟩,h6⟩,h7,h8⟩,h9,h10⟩:=hpre
  simp only [h1,h2,h3,h4,h5,h6,h7,h8,h9,h10,decide_true,Yf,↓A0,A0]
  unfold Kerb.grant Kerb.grantTkt
  dsimp only
  have hsl:=Kerb.sealTicket_len ⟨li,⟨x,y,z⟩,ad,se,lf,now,u,v⟩ tg
  generalize Kerb.sealTicket ⟨li,⟨x,y,z⟩,ad,se,lf,now,u,v⟩ tg=E at hsl
  by_cases he:E.err=0
  case neg=>rw [sel_pos (by simpa using he),if_pos he];rfl
  rw [sel_neg (by simpa using he),if_neg (by simpa using he)]
  generalize Kerb.encodePart ⟨se,⟨u,v,w⟩,lf,kv,E.val,now⟩ li=F
  by_cases hf:F.err=0
  case neg=>rw [sel_pos (by simpa using hf),if_pos hf];rfl
  rw [sel_neg (by simpa using hf),if_neg (by simpa using hf)]
  rfl
 ·cases h
theorem w45:Walked Tryz.prog G 45 8 sp45:=by
 refine ⟨Tryz.f45,Tryz.func45,by decide +kernel,rfl,fun xs bl r h=> ?_⟩
 unfold sp45 at h
 split at h
 ·rename_i rl els now ad sk se op u1 u2 u3 kv qr tk sv ins bx
  obtain ⟨hpre,h2⟩:=chk_inv h;cases h2
  refine Eq.trans (b:=(let t0:List AV:=[Zh [Zz .i64 0,Zy [],Zy [],Zy [],Zy [],Zy [],Zy [],Zy [],Zy [],Zy [],Zz .u64 0,Zz .u64 0,Zz .u64 0,Zk [],Zz .i64 0,Zz .i64 0],Yx false];let t1:Kerb.Svc:=Kerb.svc (Xu rl (Yd Xy els)) (Yd Kerb.toCross []) sv ins now;let t3:Int×Int:=Kerb.serviceEnt (Xu rl (Yd Xy els)) [(107:UInt8),(114:UInt8),(98:UInt8),(116:UInt8),(103:UInt8),(116:UInt8)] rl now;let t2:Option (AV×Blocks):=some (Zj (Zk (Yz 2 35)::t0),[]);sel (!qr==rl) t2 (Zw (chk (Xp els Vw&&decide (Zx els≤1000000)) (some (Zj [Zz .i64 (Xw t3),Zz .i64 (Yb t3)],[]))) (kT fun vs=>cInt .i64 vs fun n r=>cInt .i64 r fun n_1 r=>onNil r (sel (!n_1==0) (some (Zj (Zk (Yz 2 n_1)::t0),[])) (chk (decide (0≤n)&&decide (n<(↑(Zx els):Int))&&true) (Ym (List.getD els (Vg n) AV.undef) fun cs=>cStr cs fun b r=>cStr r fun b r=>cInt .u64 r fun n_2 r=>cInt .i64 r fun n_3 r=>cInt .i64 r fun n_4 r=>cInt .i64 r fun n_5 r=>cInt .i64 r fun n_6 r=>cInt .i64 r fun n_7 r=>cInt .i64 r fun n_8 r=>onNil r (sel (!kv==n_3) t2 (chk (decide (0≤n)&&decide (n<(↑(Zx els):Int))&&true) (Ym (List.getD els (Vg n) AV.undef) fun cs=>cStr cs fun b r=>cStr r fun b r=>cInt .u64 r fun n r=>cInt .i64 r fun n_9 r=>cInt .i64 r fun n_10 r=>cInt .i64 r fun n_11 r=>cInt .i64 r fun n_12 r=>cInt .i64 r fun n_13 r=>cInt .i64 r fun n_14 r=>onNil r (Zw (chk (decide (Zx tk≤140737488355328)) (some (Zj [Zh [Yx (Kerb.Ticket.little (Zv (Xv tk n))),Zy (Zn (Kerb.Ticket.client (Zv (Xv tk n)))),Zy (Zm (Kerb.Ticket.client (Zv (Xv tk n)))),Zy (Zf (Kerb.Ticket.client (Zv (Xv tk n)))),Zz .i64 (Kerb.Ticket.address (Zv (Xv tk n))),Zz .u64 (Kerb.Ticket.session (Zv (Xv tk n))),Zz .i64 (Kerb.Ticket.life (Zv (Xv tk n))),Zz .i64 (Kerb.Ticket.issued (Zv (Xv tk n))),Zy (Kerb.Ticket.service (Zv (Xv tk n))),Zy (Kerb.Ticket.inst (Zv (Xv tk n)))],Zz .i64 (Xm (Xv tk n))],[]))) (kT fun vs=>onCons vs fun x r=>Ym x fun cs=>cBool cs fun b r_1=>cStr r_1 fun b r_2=>cStr r_2 fun b_1 r_3=>cStr r_3 fun b_2 r_4=>cInt .i64 r_4 fun n r_5=>cInt .u64 r_5 fun n_15 r_6=>cInt .i64 r_6 fun n_16 r_7=>cInt .i64 r_7 fun n_17 r_8=>cStr r_8 fun b_3 r_9=>cStr r_9 fun b_4 r_10=>onNil r_10 (cInt .i64 r fun n_18 r=>onNil r (sel (!n_18==0) (some (Zj (Zk (Yz 2 31)::t0),[])) (sel (!b_3==[(107:UInt8),(114:UInt8),(98:UInt8),(116:UInt8),(103:UInt8),(116:UInt8)]) t2 (sel (!b_4==rl) t2 (sel (!b_2==rl) (some (Zj (Zk (Yz 2 36)::t0),[])) (sel (!ad==n) (some (Zj (Zk (Yz 2 38)::t0),[])) (sel (!Kerb.stateErr n_17 n_16 now sk==0) (some (Zj (Zk (Yz 2 (Kerb.stateErr n_17 n_16 now sk))::t0),[])) (Zw (chk (decide (Zx bx≤140737488355328)) (some (Zj [Zk (Xw (Xd bx 7 n_15)),Yx (Yb (Xd bx 7 n_15))],[]))) (kT fun vs=>cBs vs fun b_5 r=>cBool r fun b_6 r=>onNil r (sel (!b_6) (some (Zj (Zk (Yz 2 31)::t0),[])) (Zw (chk (decide (Zx b_5≤140737488355328)) (some (Zj [Zh [Zy (Kerb.KaSecret.label (Zv (Zg b_5))),Zz .i64 (Kerb.KaSecret.time (Zv (Zg b_5))),Zz .i64 (Kerb.KaSecret.start (Zv (Zg b_5))),Zz .i64 (Kerb.KaSecret.stop (Zv (Zg b_5))),Zz .u64 (Kerb.KaSecret.new (Zv (Zg b_5)))],Zz .i64 (Xm (Zg b_5))],[]))) (kT fun vs=>onCons vs fun x r=>Ym x fun cs=>cStr cs fun b_7 r_11=>cInt .i64 r_11 fun n_19 r_12=>cInt .i64 r_12 fun n_20 r_13=>cInt .i64 r_13 fun n_21 r_14=>let t4:List AV:=[Zz .i64 n_21,Zz .i64 (Kerb.tEnd n_17 n_16)];cInt .u64 r_14 fun n_22 r_15=>onNil r_15 (cInt .i64 r fun n_23 r=>onNil r (sel (!n_23==0) (some (Zj (Zk (Yz 2 80)::t0),[])) (sel (!b_7==[(103:UInt8),(84:UInt8),(75:UInt8),(84:UInt8)]) (some (Zj (Zk (Yz 2 80)::t0),[])) (sel (!Kerb.near n_19 now sk) (some (Zj (Zk (Yz 2 37)::t0),[])) (Zw (chk (Xp els Vw&&decide (Zx els≤1000000)&&true&&true&&l63 ins) (some (Zj [Zz .u64 (Kerb.Svc.key t1),Zz .i64 (Kerb.Svc.kvno t1),Zz .i64 (Kerb.Svc.life t1),Zz .i64 (Kerb.Svc.expires t1),Zz .i64 (Kerb.Svc.err t1)],[]))) (kT fun vs=>cInt .u64 vs fun n_24 r=>cInt .i64 r fun n_25 r=>cInt .i64 r fun n_26 r=>cInt .i64 r fun n_27 r=>cInt .i64 r fun n_28 r=>onNil r (sel (!n_28==0) (some (Zj (Zk (Yz 2 n_28)::t0),[])) (Zw (chk (decide (Zx t4≤1000000)) (some (Xx 1 (if n_27=0 then t4 else t4++[Zz .i64 n_27]),[]))) fun (r:AV×Blocks)=>onNilB (Yb r) (AV.onSl 1 (Xw r) fun b_8=>Zw (chk (allInts b_8&&decide (Zx b_8≤1000000)&&Xp (intsIn b_8) Kerb.isI64) (some (Zj [Zz .i64 (Xw (Vn now n_26 (intsIn b_8))),Yx (Yb (Vn now n_26 (intsIn b_8)))],[]))) (kT fun vs=>cInt .i64 vs fun n_29 r=>let t7:Kerb.Granted:=Kerb.grant rl (Zq b b_1 b_2) (Zq sv ins rl) n false now n_29 se n_15 n_24 n_25;let t5:Kerb.Issue:=Kerb.Granted.issue t7;let t6:Kerb.ReplyPart:=Kerb.Granted.part t7;cBool r fun b_9 r=>onNil r (sel (!b_9) (some (Zj (Zk (Yz 2 3)::t0),[])) (Zw (chk (decide (0≤se)&&decide (se<18446744073709551616)) (some (Zz .i64 (Kerb.classOf se),[]))) (kI .i64 fun n=>sel (!n==2) (some (Zj (Zk (Yz 2 10)::t0),[])) (Zw (chk (l63 b&&l63 b_1&&l63 b_2&&l63 sv&&l63 ins&&l63 rl&&Wn se&&Wn n_24) (some (Zj [Zh [Zz .i64 (Uy t5),Zy (Zn (Yv t5)),Zy (Zm (Yv t5)),Zy (Zf (Yv t5)),Zy (Zn (Yu t5)),Zy (Zm (Yu t5)),Zy (Zf (Yu t5)),Zy (Zn (Yy t5)),Zy (Zm (Yy t5)),Zy (Zf (Yy t5)),Zz .u64 (Vv t5),Zz .u64 (Vk t5),Zz .u64 (Vu t5),Zk (Vh t5),Zz .i64 (Vp t5),Zz .i64 (Uz t5)],Zh [Zz .u64 (Kerb.ReplyPart.session t6),Zy (Zn (Xf t6)),Zy (Zm (Xf t6)),Zy (Zf (Xf t6)),Zz .i64 (Kerb.ReplyPart.life t6),Zz .i64 (Kerb.ReplyPart.kvno t6),Zk (Kerb.ReplyPart.ticket t6),Zz .i64 (Kerb.ReplyPart.time t6)],Zz .i64 (Kerb.Granted.err t7)],[]))) (kT fun vs=>onCons vs fun x r=>Ym x fun cs=>cInt .i64 cs fun n r_16=>cStr r_16 fun b r_17=>cStr r_17 fun b_10 r_18=>cStr r_18 fun b_11 r_19=>cStr r_19 fun b_12 r_20=>cStr r_20 fun b_13 r_21=>cStr r_21 fun b_14 r_22=>cStr r_22 fun b_15 r_23=>cStr r_23 fun b_16 r_24=>cStr r_24 fun b_17 r_25=>cInt .u64 r_25 fun n r_26=>cInt .u64 r_26 fun n_30 r_27=>cInt .u64 r_27 fun n_31 r_28=>cBs r_28 fun b_18 r_29=>cInt .i64 r_29 fun n_32 r_30=>cInt .i64 r_30 fun n_33 r_31=>onNil r_31 (onCons r fun x r=>Ym x fun cs=>cInt .u64 cs fun n_34 r_32=>cStr r_32 fun b_19 r_33=>cStr r_33 fun b_20 r_34=>cStr r_34 fun b_21 r_35=>cInt .i64 r_35 fun n_35 r_36=>cInt .i64 r_36 fun n_36 r_37=>let t8:Kerb.Bytes×Bool:=Kerb.kaReplySeal 2 (Wz [(116:UInt8),(107:UInt8),(116:UInt8),(71:UInt8)] (Kerb.kaNext n_19) n n_32 (Kerb.imin n_33 4294967295) n_36 (Zq b_15 b_16 b_17) b_18) n_15;cBs r_37 fun b_22 r_38=>cInt .i64 r_38 fun n_37 r_39=>onNil r_39 (cInt .i64 r fun n_38 r=>onNil r (sel (!n_38==0) (some (Zj (Zk []::t0),[])) (Zw (chk (l63 b_15&&l63 b_16&&l63 b_17&&true&&Wn n&&Wn n_15&&decide (0≤n_19)&&decide (n_19≤4294967295)) (some (Zj [Zk (Xw t8),Yx (Yb t8)],[]))) (kT fun vs=>cBs vs fun b_23 r=>cBool r fun b_24 r=>onNil r (sel (!b_24) (some (Zj (Zk []::t0),[])) (some (Zj [Zk b_23,Zh [Zz .i64 4,Zy b,Zy b_10,Zy b_11,Zy b_12,Zy b_13,Zy b_14,Zy b_15,Zy b_16,Zy b_17,Zz .u64 n,Zz .u64 n_30,Zz .u64 n_15,Zk b_18,Zz .i64 n_32,Zz .i64 n_33],Yx true],[]))))))))))))))))))))))))))))))))))))))))))))):Option (AV×Blocks))) (by kernel_rfl) ?_
  delta kT kI
  try dsimp only [cStr,cBs,cBool,cU8,cInt,cSl,l63]
  simp only [Yw,decide_eq_true_eq] at hpre
  obtain ⟨hpre,hn⟩:=hpre
  obtain ⟨⟨⟨⟨⟨⟨⟨⟨⟨⟨⟨c1,c2⟩,c3⟩,c4⟩,c5⟩,c6⟩,c7⟩,c8⟩,c9⟩,c10⟩,hall⟩,hlen⟩:=hpre
  obtain ⟨es,rfl,hok⟩:=Kerb.ents_of hall
  rw [Vx]
  simp only [Wy] at hlen
  have hkr:[(107:UInt8),(114:UInt8),(98:UInt8),(116:UInt8),(103:UInt8),(116:UInt8)]=Wv:=rfl
  have hlb:[(103:UInt8),(84:UInt8),(75:UInt8),(84:UInt8)]=Kerb.lTicket:=rfl
  have hlb2:[(116:UInt8),(107:UInt8),(116:UInt8),(71:UInt8)]=Kerb.lGiven:=rfl
  have tl:decide (tk.length≤140737488355328)=true:=by simp;omega
  have bl:decide (bx.length≤140737488355328)=true:=by simp;omega
  have q8:=Kerb.isU64_iff.1 c8
  have q88:(decide (0≤se)&&decide (se<18446744073709551616))=true:=by simp;omega
  simp only [hkr,hlb,hlb2,Vx,hall,hn,Wy,hlen,tl,bl,c1,c2,c3,c4,c5,c6,c7,c8,q88,decide_true,Yf,List.map_nil,↓A0,A0]
  unfold Kerb.kaGetTicket Kerb.kaLife2 Kerb.kaGive
  try dsimp only
  obtain ⟨P,hP⟩:∃ P,P=Kerb.kaPresented ⟨rl,es⟩ now ad sk ⟨op,⟨u1,u2,u3⟩,kv,qr,tk,sv,ins,bx⟩:=⟨_,rfl⟩
  rw [← hP]
  unfold Kerb.kaPresented at hP
  dsimp only at hP
  by_cases h1:qr=rl
  case neg =>
   rw [if_pos h1] at hP
   subst hP
   rw [sel_pos (by simpa using h1)]
   try rfl
  rw [if_neg (not_not_intro h1)] at hP
  rw [sel_neg (by simpa using h1)]
  have hs := @Kerb.serv_lt ⟨rl,es⟩ Wv rl now
  generalize Kerb.serviceEnt ⟨rl,es⟩ Wv rl now=F at hs hP ⊢
  obtain ⟨j,e⟩:=F
  dsimp only at hs hP ⊢
  by_cases h2:e=0
  case neg =>
   rw [if_pos h2] at hP
   subst hP
   rw [sel_pos (by simpa using h2)]
   dsimp only
   rw [if_pos h2]
   rfl
  rw [if_neg (not_not_intro h2)] at hP
  rw [sel_neg (by simpa using h2)]
  obtain ⟨g1,g2⟩:=hs h2
  have j0:decide (0≤j)=true:=decide_eq_true g1
  have j1:decide (j<(es.length:Int))=true:=decide_eq_true (by omega)
  rw [chk_of (by rw [j0,j1];rfl),Kerb.getD_ent g2]
  unfold Kerb.entAt at hP
  dsimp only at hP
  generalize es.getD j.toNat Kerb.noEntry=w at hP ⊢
  simp only [Wh,tl,j0,j1,Yf,↓A0,A0]
  by_cases h3:kv=w.kvno
  case neg =>
   rw [if_pos h3] at hP
   subst hP
   rw [sel_pos (by simpa using h3)]
   try rfl
  rw [if_neg (not_not_intro h3)] at hP
  rw [sel_neg (by simpa using h3)]
  have tb:=Kerb.openTicket_bd tk w.key
  generalize Xv tk w.key=T at tb hP ⊢
  by_cases h4:T.err=0
  case neg =>
   rw [if_pos h4] at hP
   subst hP
   rw [sel_pos (by simpa using h4)]
   try rfl
  rw [if_neg (not_not_intro h4)] at hP
  rw [sel_neg (by simpa using h4)]
  by_cases h5:T.val.service=Wv
  case neg =>
   rw [if_pos (.inl h5)] at hP
   subst hP
   rw [sel_pos (by simpa using h5)]
   try rfl
  by_cases h6:T.val.inst=rl
  case neg =>
   rw [if_pos (.inr h6)] at hP
   subst hP
   rw [sel_neg (by simp [h5]),sel_pos (by simpa using h6)]
   try rfl
  rw [if_neg (by simp [h5,h6])] at hP
  rw [sel_neg (by simp [h5]),sel_neg (by simp [h6])]
  by_cases h7:T.val.client.realm=rl
  case neg =>
   rw [if_pos h7] at hP
   subst hP
   rw [sel_pos (by simpa using h7)]
   try rfl
  rw [if_neg (not_not_intro h7)] at hP
  rw [sel_neg (by simpa using h7)]
  by_cases h8:T.val.address=ad
  case neg =>
   rw [if_pos h8] at hP
   subst hP
   rw [sel_pos (by simpa using fun h:ad=T.val.address=>h8 h.symm)]
   try rfl
  rw [if_neg (not_not_intro h8)] at hP
  rw [sel_neg (by simp [h8])]
  generalize Kerb.stateErr T.val.issued T.val.life now sk=Z at hP ⊢
  by_cases h9:Z=0
  case neg =>
   rw [if_pos h9] at hP
   subst hP
   rw [sel_pos (by simpa using h9)]
   dsimp only
   rw [if_pos h9]
   rfl
  rw [if_neg (not_not_intro h9)] at hP
  rw [sel_neg (by simpa using h9)]
  subst hP
  dsimp only
  have ol:=Kerb.openBox_len bx 7 T.val.session
  generalize Xd bx 7 T.val.session=O at ol ⊢
  obtain ⟨bd,ok⟩:=O
  dsimp only at ol ⊢
  cases ok
  ·rw [sel_pos (by rfl),if_neg (show ¬ ((0:Int)≠0) from by decide),if_pos rfl];try rfl
  rw [sel_neg (by rfl),if_neg (show ¬ ((0:Int)≠0) from by decide),if_neg (show ¬ (true=false) from by decide)]
  rw [chk_of (by simp;omega)]
  have sb:=Kerb.kaSec_bd bd
  by_cases h1:(Zg bd).err=0
  case neg=>rw [sel_pos (by simpa using h1),Kerb.kaSecOf_1 h1];rfl
  by_cases h2:(Zg bd).val.label=Kerb.lTicket
  case neg=>rw [sel_neg (by simpa using h1),sel_pos (by simpa using h2),Kerb.kaSecOf_2 h2];rfl
  rw [sel_neg (by simpa using h1),sel_neg (by simpa using h2)]
  cases h3:Kerb.near (Zg bd).val.time now sk
  ·rw [Kerb.kaSecOf_3 h1 h2 h3];rfl
  rw [sel_neg (by rfl),Kerb.kaSecOf_4 h1 h2 h3]
  generalize Zg bd=D at sb
  dsimp only
  have vb:=Kerb.svc_ok (d:=⟨rl,es⟩) (n:=sv) (i:=ins) (now:=now) hok
  generalize Kerb.svc ⟨rl,es⟩ [] sv ins now=V at vb ⊢
  by_cases h4:V.err=0
  case neg=>rw [sel_pos (by simpa using h4),if_neg (show ¬ ((0:Int)≠0) from by decide),if_pos h4];try rfl
  rw [sel_neg (by simpa using h4),if_neg (show ¬ ((0:Int)≠0) from by decide),if_neg (not_not_intro h4)]
  obtain ⟨n1,n2,n3⟩:=Kerb.ends_nest2 D.val.stop (Kerb.tEnd T.val.issued T.val.life) V.expires
  have s1:Kerb.isI64 D.val.stop=true:=by rw [Kerb.isI64_iff];unfold Kerb.KaSecret.bd at sb;omega
  have n4:=Kerb.ends_i64 (l:=[D.val.stop,Kerb.tEnd T.val.issued T.val.life]) (by simp [s1,Kerb.tEnd_i64]) vb.2.2.2
  rw [chk_of (by simp),n1,chk_of (by rw [n2,n4,decide_eq_true n3];rfl)]
  generalize Vn now V.life _=L
  obtain ⟨life,ok⟩:=L
  dsimp only
  cases ok
  ·rw [sel_pos (by rfl),if_pos rfl];try rfl
  rw [sel_neg (by rfl),if_neg (show ¬ (true=false) from by decide)]
  by_cases h5:Kerb.classOf se=2
  case neg=>rw [sel_pos (by simpa using h5),if_pos h5];try rfl
  rw [sel_neg (by simpa using h5),if_neg (not_not_intro h5)]
  have k1:decide (T.val.client.name.length≤9223372036854775807)=true:=decide_eq_true (Yh tb.1 (by decide))
  have k2:decide (T.val.client.inst.length≤9223372036854775807)=true:=decide_eq_true (Yh tb.2.1 (by decide))
  have k3:decide (T.val.client.realm.length≤9223372036854775807)=true:=decide_eq_true (Yh tb.2.2.1 (by decide))
  rw [chk_of (by rw [vb.1,k1,k2,k3];rfl),show Zq T.val.client.name T.val.client.inst T.val.client.realm=T.val.client from rfl]
  have gi := @Kerb.grant_is rl T.val.client ⟨sv,ins,rl⟩ T.val.address false now life se T.val.session V.key V.kvno
  generalize Kerb.grant rl T.val.client ⟨sv,ins,rl⟩ T.val.address false now life se T.val.session V.key V.kvno=G at gi ⊢
  by_cases hg:G.err=0
  case neg=>rw [sel_pos (by simpa using hg),if_pos hg];try rfl
  rw [sel_neg (by simpa using hg),if_neg (not_not_intro hg)]
  obtain ⟨X,rfl⟩:=gi hg
  dsimp only
  rw [chk_of (by simp [sb.1.1,sb.1.2,tb.2.2.2,c8,c7,c6,c5,Kerb.lGiven])]
  generalize Kerb.kaReplySeal 2 _ T.val.session=B
  obtain ⟨ans,ok⟩:=B
  dsimp only
  cases ok
  ·rw [sel_pos (by rfl),if_pos rfl];try rfl
  ·rfl
 ·cases h
theorem w50:Walked Tryz.prog G 50 8 sp50:=by
 refine ⟨Tryz.f50,Tryz.func50,by decide +kernel,rfl,fun xs bl r h=> ?_⟩
 unfold sp50 at h
 split at h
 ·rename_i rl els i now ad sk se x y z bd
  obtain ⟨hpre,h2⟩:=chk_inv h;cases h2
  refine Eq.trans (b:=(let t0:Kerb.Prin:=Zq [(107:UInt8),(114:UInt8),(98:UInt8),(116:UInt8),(103:UInt8),(116:UInt8)] rl rl;let t1:List AV:=[Zh [Zz .i64 0,Zy [],Zy [],Zy [],Zy [],Zy [],Zy [],Zy [],Zy [],Zy [],Zz .u64 0,Zz .u64 0,Zz .u64 0,Zk [],Zz .i64 0,Zz .i64 0],Yx false];let t2:Kerb.Svc:=Kerb.svc (Xu rl (Yd Xy els)) (Yd Kerb.toCross []) [(107:UInt8),(114:UInt8),(98:UInt8),(116:UInt8),(103:UInt8),(116:UInt8)] rl now;let t3:AV:=Zh [Zy rl,Xx 9 els];Zw (chk (decide (Zx bd≤140737488355328)) (some (Zj [Zh [Zy (Kerb.KaSecret.label (Zv (Zg bd))),Zz .i64 (Kerb.KaSecret.time (Zv (Zg bd))),Zz .i64 (Kerb.KaSecret.start (Zv (Zg bd))),Zz .i64 (Kerb.KaSecret.stop (Zv (Zg bd))),Zz .u64 (Kerb.KaSecret.new (Zv (Zg bd)))],Zz .i64 (Xm (Zg bd))],[]))) (kT fun vs=>onCons vs fun x_1 r=>Ym x_1 fun cs=>onCons cs fun x_2 r_1=>Ub x_2 fun b=>onCons r_1 fun x_3 r_2=>Yj .i64 x_3 fun n=>onCons r_2 fun x_4 r_3=>Yj .i64 x_4 fun n_1=>onCons r_3 fun x_5 r_4=>Yj .i64 x_5 fun n_2=>onCons r_4 fun x_6 r_5=>Yj .u64 x_6 fun n_3=>onNil r_5 (onCons r fun x_7 r=>Yj .i64 x_7 fun n_4=>onNil r (sel (!n_4==0) (some (Zj (t3::Zk (Yz 1 80)::t1),[])) (sel (!b==[(103:UInt8),(84:UInt8),(71:UInt8),(83:UInt8)]) (some (Zj (t3::Zk (Yz 1 80)::t1),[])) (sel (!Kerb.near n now sk) (some (Zj (t3::Zk (Yz 1 37)::t1),[])) (Zw (chk (Xp els Vw&&decide (Zx els≤1000000)&&true&&true&&l63 rl) (some (Zj [Zz .u64 (Kerb.Svc.key t2),Zz .i64 (Kerb.Svc.kvno t2),Zz .i64 (Kerb.Svc.life t2),Zz .i64 (Kerb.Svc.expires t2),Zz .i64 (Kerb.Svc.err t2)],[]))) (kT fun vs=>onCons vs fun x_8 r=>Yj .u64 x_8 fun n_5=>onCons r fun x_9 r=>Yj .i64 x_9 fun n_6=>onCons r fun x_10 r=>Yj .i64 x_10 fun n_7=>onCons r fun x_11 r=>Yj .i64 x_11 fun n_8=>onCons r fun x_12 r=>Yj .i64 x_12 fun n_9=>onNil r (sel (!n_9==0) (some (Zj (t3::Zk (Yz 1 n_9)::t1),[])) (chk (decide (0≤i)&&decide (i<(↑(Zx els):Int))&&true) (Ym (List.getD els (Vg i) AV.undef) fun cs=>onCons cs fun x_13 r=>Ub x_13 fun b=>onCons r fun x_14 r=>Ub x_14 fun b=>onCons r fun x_15 r=>Yj .u64 x_15 fun n_10=>onCons r fun x_16 r=>Yj .i64 x_16 fun n_11=>onCons r fun x_17 r=>Yj .i64 x_17 fun n_12=>onCons r fun x_18 r=>Yj .i64 x_18 fun n_13=>onCons r fun x_19 r=>Yj .i64 x_19 fun n_14=>onCons r fun x_20 r=>Yj .i64 x_20 fun n_15=>onCons r fun x_21 r=>Yj .i64 x_21 fun n_16=>onNil r (Zw (chk (decide (Zx [Zz .i64 n_2]≤1000000)) (some (Xx 1 (if n_12=0 then [Zz .i64 n_2] else [Zz .i64 n_2]++[Zz .i64 n_12]),[]))) fun (r:AV×Blocks)=>onNilB (Yb r) (AV.onSl 1 (Xw r) fun b=>Zw (chk (decide (Zx b≤1000000)) (some (Xx 1 (if n_8=0 then b else b++[Zz .i64 n_8]),[]))) fun (r:AV×Blocks)=>onNilB (Yb r) (AV.onSl 1 (Xw r) fun b=>Zw (chk (allInts b&&decide (Zx b≤1000000)&&Xp (intsIn b) Kerb.isI64) (some (Zj [Zz .i64 (Xw (Vn now (Kerb.imin n_13 n_7) (intsIn b))),Yx (Yb (Vn now (Kerb.imin n_13 n_7) (intsIn b)))],[]))) (kT fun vs=>onCons vs fun x_22 r=>Yj .i64 x_22 fun n_17=>let t6:Kerb.Granted:=Kerb.grant rl (Zq x y z) t0 ad false now n_17 se n_10 n_5 n_6;let t4:Kerb.Issue:=Kerb.Granted.issue t6;let t5:Kerb.ReplyPart:=Kerb.Granted.part t6;onCons r fun x_23 r=>AV.onBool x_23 fun b=>onNil r (sel (!b) (some (Zj (t3::Zk (Yz 1 3)::t1),[])) (Zw (chk (decide (0≤se)&&decide (se<18446744073709551616)) (some (Zz .i64 (Kerb.classOf se),[]))) (kI .i64 fun n_18=>sel (!n_18==2) (some (Zj (t3::Zk (Yz 1 10)::t1),[])) (Zw (chk (l63 x&&l63 y&&l63 z&&true&&l63 rl&&l63 rl&&Wn se&&Wn n_5) (some (Zj [Zh [Zz .i64 (Uy t4),Zy (Zn (Yv t4)),Zy (Zm (Yv t4)),Zy (Zf (Yv t4)),Zy (Zn (Yu t4)),Zy (Zm (Yu t4)),Zy (Zf (Yu t4)),Zy (Zn (Yy t4)),Zy (Zm (Yy t4)),Zy (Zf (Yy t4)),Zz .u64 (Vv t4),Zz .u64 (Vk t4),Zz .u64 (Vu t4),Zk (Vh t4),Zz .i64 (Vp t4),Zz .i64 (Uz t4)],Zh [Zz .u64 (Kerb.ReplyPart.session t5),Zy (Zn (Xf t5)),Zy (Zm (Xf t5)),Zy (Zf (Xf t5)),Zz .i64 (Kerb.ReplyPart.life t5),Zz .i64 (Kerb.ReplyPart.kvno t5),Zk (Kerb.ReplyPart.ticket t5),Zz .i64 (Kerb.ReplyPart.time t5)],Zz .i64 (Kerb.Granted.err t6)],[]))) (kT fun vs=>onCons vs fun x r=>Ym x fun cs=>cInt .i64 cs fun n_19 r_6=>cStr r_6 fun b r_7=>cStr r_7 fun b_1 r_8=>cStr r_8 fun b_2 r_9=>cStr r_9 fun b_3 r_10=>cStr r_10 fun b_4 r_11=>cStr r_11 fun b_5 r_12=>cStr r_12 fun b_6 r_13=>cStr r_13 fun b_7 r_14=>cStr r_14 fun b_8 r_15=>cInt .u64 r_15 fun n_20 r_16=>cInt .u64 r_16 fun n_21 r_17=>cInt .u64 r_17 fun n_22 r_18=>cBs r_18 fun b_9 r_19=>cInt .i64 r_19 fun n_23 r_20=>cInt .i64 r_20 fun n_24 r_21=>onNil r_21 (onCons r fun x r=>Ym x fun cs=>cInt .u64 cs fun n_25 r_22=>cStr r_22 fun b_10 r_23=>cStr r_23 fun b_11 r_24=>cStr r_24 fun b_12 r_25=>cInt .i64 r_25 fun n_26 r_26=>cInt .i64 r_26 fun n_27 r_27=>let t7:Kerb.Bytes×Bool:=Kerb.kaReplySeal 1 (Wz [(116:UInt8),(103:UInt8),(115:UInt8),(84:UInt8)] (Kerb.kaNext n) n_20 n_23 (Kerb.imin n_24 4294967295) n_27 (Zq b_6 b_7 b_8) b_9) n_10;cBs r_27 fun b_13 r_28=>cInt .i64 r_28 fun n_28 r_29=>onNil r_29 (cInt .i64 r fun n_29 r=>onNil r (sel (!n_29==0) (some (Zj (t3::Zk []::t1),[])) (Zw (chk (l63 b_6&&l63 b_7&&l63 b_8&&true&&Wn n_20&&Wn n_10&&decide (0≤n)&&decide (n≤4294967295)) (some (Zj [Zk (Xw t7),Yx (Yb t7)],[]))) (kT fun vs=>cBs vs fun b_14 r=>cBool r fun b_15 r=>onNil r (sel (!b_15) (some (Zj (t3::Zk []::t1),[])) (Zw (chk (Xp els Vw&&decide (Zx els≤1000000)&&decide (0≤i)&&decide (i<(↑(Zx els):Int))) (some (Zh [Zy (Kerb.Db.realm (Kerb.kaClear (Xu rl (Yd Xy els)) i)),Xx 9 (Yd Wh (Kerb.Db.entries (Kerb.kaClear (Xu rl (Yd Xy els)) i)))],[]))) (kA fun cs=>cStr cs fun b_16 r=>cSl 9 r fun b_17 r=>onNil r (some (Zj [Zh [Zy b_16,Xx 9 b_17],Zk b_14,Zh [Zz .i64 3,Zy b,Zy b_1,Zy b_2,Zy b_3,Zy b_4,Zy b_5,Zy b_6,Zy b_7,Zy b_8,Zz .u64 n_20,Zz .u64 n_21,Zz .u64 n_22,Zk b_9,Zz .i64 n_23,Zz .i64 n_24],Yx true],[]))))))))))))))))))))))))))))):Option (AV×Blocks))) (by kernel_rfl) ?_
  delta kT kA kI
  try dsimp only [cStr,cBs,cBool,cU8,cInt,cSl,l63]
  simp only [Yw,decide_eq_true_eq] at hpre
  obtain ⟨⟨⟨⟨⟨⟨⟨⟨⟨⟨c7,hall⟩,hlen⟩,p1⟩,p2⟩,p3⟩,hbl⟩,h0⟩,h1⟩,hn⟩,c8⟩:=hpre
  obtain ⟨es,rfl,hok⟩:=Kerb.ents_of hall
  rw [Vx] at *
  simp only [Wy] at hlen h1
  have i0:decide (0≤i)=true:=by simp;omega
  have i1:decide (i<(es.length:Int))=true:=by simp;omega
  have hkr:[(107:UInt8),(114:UInt8),(98:UInt8),(116:UInt8),(103:UInt8),(116:UInt8)]=Wv:=rfl
  have hlb:[(103:UInt8),(84:UInt8),(71:UInt8),(83:UInt8)]=Kerb.lGet:=rfl
  have hlb2:[(116:UInt8),(103:UInt8),(115:UInt8),(84:UInt8)]=Kerb.lGot:=rfl
  have q8:=Kerb.isU64_iff.1 c8
  have q88:(decide (0≤se)&&decide (se<18446744073709551616))=true:=by simp;omega
  have bl:decide (bd.length≤140737488355328)=true:=by simp;omega
  simp only [hkr,hlb,hlb2,Vx,hall,Wy,hlen,bl,c7,c8,p1,p2,p3,q88,i0,i1,decide_true,Yf,List.map_nil,↓A0,A0]
  unfold Kerb.kaAuthenticate Kerb.kaLife1 Kerb.kaGive
  dsimp only
  have sb:=Kerb.kaSec_bd bd
  by_cases h1:(Zg bd).err=0
  case neg=>rw [sel_pos (by simpa using h1),Kerb.kaSecOf_1 h1];rfl
  by_cases h2:(Zg bd).val.label=Kerb.lGet
  case neg=>rw [sel_neg (by simpa using h1),sel_pos (by simpa using h2),Kerb.kaSecOf_2 h2];rfl
  rw [sel_neg (by simpa using h1),sel_neg (by simpa using h2)]
  cases h3:Kerb.near (Zg bd).val.time now sk
  ·rw [Kerb.kaSecOf_3 h1 h2 h3];rfl
  rw [sel_neg (by rfl),Kerb.kaSecOf_4 h1 h2 h3]
  generalize Zg bd=D at sb
  dsimp only
  have vb:=Kerb.svc_ok (d:=⟨rl,es⟩) (n:=Wv) (i:=rl) (now:=now) hok
  generalize Kerb.svc ⟨rl,es⟩ [] Wv rl now=V at vb ⊢
  by_cases h4:V.err=0
  case neg=>rw [sel_pos (by simpa using h4),if_neg (show ¬ ((0:Int)≠0) from by decide),if_pos h4];rfl
  rw [sel_neg (by simpa using h4),if_neg (show ¬ ((0:Int)≠0) from by decide),if_neg (not_not_intro h4),Kerb.getD_ent (by omega)]
  have ho:=hok _ (Kerb.ent_mem (es:=es) (i:=i.toNat) (by omega))
  unfold Kerb.entAt
  dsimp only
  generalize es.getD i.toNat Kerb.noEntry=w at ho ⊢
  obtain ⟨n1,n2,n3⟩:=Kerb.ends_nest D.val.stop w.expires V.expires
  have s1:Kerb.isI64 D.val.stop=true:=by rw [Kerb.isI64_iff];unfold Kerb.KaSecret.bd at sb;omega
  have n4:=Kerb.ends_i64 (Kerb.ends_i64 (l:=[D.val.stop]) (by simp [s1]) ho.2.2.2.2.1) vb.2.2.2
  simp only [Wh,↓A0,A0]
  rw [chk_of (by simp),chk_of (by split<;>rfl),n1,chk_of (by rw [n2,n4,decide_eq_true n3];rfl)]
  generalize Vn now (Kerb.imin w.maxLife V.life) _=L
  obtain ⟨life,ok⟩:=L
  dsimp only
  cases ok
  ·rw [sel_pos (by rfl),if_pos rfl];try rfl
  rw [sel_neg (by rfl),if_neg (show ¬ (true=false) from by decide)]
  by_cases h5:Kerb.classOf se=2
  case neg=>rw [sel_pos (by simpa using h5),if_pos h5];try rfl
  rw [sel_neg (by simpa using h5),if_neg (not_not_intro h5)]
  rw [chk_of (by rw [vb.1];rfl),show Kerb.tgs rl rl=⟨Wv,rl,rl⟩ from rfl]
  have gi := @Kerb.grant_is rl ⟨x,y,z⟩ ⟨Wv,rl,rl⟩ ad false now life se w.key V.key V.kvno
  generalize Kerb.grant rl ⟨x,y,z⟩ ⟨Wv,rl,rl⟩ ad false now life se w.key V.key V.kvno=G at gi ⊢
  by_cases hg:G.err=0
  case neg=>rw [sel_pos (by simpa using hg),if_pos hg];try rfl
  rw [sel_neg (by simpa using hg),if_neg (not_not_intro hg)]
  obtain ⟨X,rfl⟩:=gi hg
  dsimp only
  rw [chk_of (by simp [sb.1.1,sb.1.2,ho.2.2.1,c8,c7,Wv])]
  generalize Kerb.kaReplySeal 1 _ w.key=B
  obtain ⟨ans,ok⟩:=B
  dsimp only
  cases ok
  ·rw [sel_pos (by rfl),if_pos rfl];try rfl
  ·rfl
 ·cases h
theorem w90:Walked Tryz.prog G 90 8 sp90:=by
 refine ⟨Tryz.f90,Tryz.func90,by decide +kernel,rfl,fun xs bl r h=> ?_⟩
 unfold sp90 at h
 split at h
 ·rename_i o1 o2 o3 els
  obtain ⟨hpre,h2⟩:=chk_inv h;cases h2
  refine Eq.trans (b:=(Zw (chk (l63 o1&&l63 o2&&l63 o3) (some (Yx (Yp (Zq o1 o2 o3)),[]))) (kL fun b=>sel (!b) (some (Zz .i64 103,[])) (sel (decide ((↑(Zx els):Int)>20)) (some (Zz .i64 106,[])) (Zw (loopM (fun (st:List AV)=>cStr st fun b r=>cStr r fun b_1 r=>cStr r fun b_2 r=>cSl 8 r fun b_3 r=>cInt .i64 r fun n r=>cSl 8 r fun b_4 r=>cInt .i64 r fun n_1 r=>cInt .i64 r fun n_2 r=>let t1:List AV:=[Xx 8 b_4,Zz .i64 n_1,Zz .i64 n_2];let t0:Option (List AV ⊕ Ex×List AV):=some (Ud (Ex.ret,Zy b::Zy b_1::Zy b_2::Xx 8 b_3::Zz .i64 104::t1));onNil r (sel (decide (n_2<n_1)) (chk (decide (0≤n_2)&&decide (n_2<(↑(Zx b_4):Int))&&true) (Ym (List.getD b_4 (Vg n_2) AV.undef) fun cs=>cStr cs fun b_5 r=>cStr r fun b_6 r=>cStr r fun b_7 r=>cInt .u64 r fun n_3 r=>cInt .i64 r fun n_4 r=>cInt .i64 r fun n_5 r=>cInt .i64 r fun n_6 r=>cBs r fun b_8 r=>onNil r (Zw (chk (l63 b_5&&l63 b_6&&l63 b_7) (some (Yx (Yp (Zq b_5 b_6 b_7)),[]))) (kL fun b_9=>sel (!b_9) (some (Ud (Ex.ret,Zy b::Zy b_1::Zy b_2::Xx 8 b_3::Zz .i64 103::t1))) (Zw (chk (decide (0≤n_3)&&decide (n_3<18446744073709551616)) (some (Yx (Uw n_3),[]))) (kL fun b_10=>sel (!b_10) (some (Ud (Ex.ret,Zy b::Zy b_1::Zy b_2::Xx 8 b_3::Zz .i64 10::t1))) (sel (!Zb n_4 255) t0 (sel (!Zb n_5 255) t0 (sel (!Zb n_6 4294967295) t0 (sel (decide ((↑(Zx b_8):Int)>255)) (some (Ud (Ex.ret,Zy b::Zy b_1::Zy b_2::Xx 8 b_3::Zz .i64 105::t1))) (Zw (chk (Xp b_3 Xb&&decide (Zx b_3≤1000000)) (some (Zz .i64 (↑(Kerb.credAt (Yd Ww b_3) (Zq b_5 b_6 b_7)):Int),[]))) (kI .i64 fun n_7=>sel (decide (n_7<n_2)) (some (Ud (Ex.ret,Zy b::Zy b_1::Zy b_2::Xx 8 b_3::Zz .i64 107::t1))) (some (Sum.inl [Zy b,Zy b_1,Zy b_2,Xx 8 b_3,Zz .i64 n,Xx 8 b_4,Zz .i64 n_1,Zz .i64 (Xz .i64 (n_2+1))])))))))))))))) (some (Ud (Ex.exit 0,Zy b::Zy b_1::Zy b_2::Xx 8 b_3::Zz .i64 n::t1))))) [Zy o1,Zy o2,Zy o3,Xx 8 els,Zz .i64 0,Xx 8 els,Zz .i64 (↑(Zx els):Int),Zz .i64 0]) fun (r:Ex×List AV)=>cStr (Yb r) fun b r_1=>cStr r_1 fun b r_2=>cStr r_2 fun b r_3=>cSl 8 r_3 fun b r_4=>cInt .i64 r_4 fun n r_5=>cSl 8 r_5 fun b r_6=>cInt .i64 r_6 fun n_1 r_7=>cInt .i64 r_7 fun n_2 r_8=>onNil r_8 (exK r.1 (some (Zz .i64 n,[])) fun (j:Nat)=>sel (Nat.beq j 0) (some (Zz .i64 0,[])) none)))):Option (AV×Blocks))) (by kernel_rfl) ?_
  delta kL kI
  try dsimp only [cStr,cBs,cBool,cU8,cInt,cSl,l63]
  have hpre':=hpre
  simp only [Yw,decide_eq_true_eq] at hpre
  obtain ⟨⟨⟨⟨q1,q2⟩,q3⟩,hall⟩,hlen⟩:=hpre
  simp only [A0,Vq,Vz,Yq]
  rw [chk_of (by simp;omega)]
  obtain ⟨cs,rfl,hok⟩:=Kerb.creds_of hall
  unfold Wd
  simp only [Vd]
  cases h0:Yp ⟨o1,o2,o3⟩
  ·rfl
  rw [Zp,sel_false,if_neg (by simp)]
  by_cases h20:20<cs.length
  ·rw [sel_pos (by simp;omega),if_pos h20]
  rw [sel_neg (by simp;omega),if_neg h20]
  refine loop_rounds (fun i:Nat=>[Zy o1,Zy o2,Zy o3,Xx 8 (cs.map Yq),Zz Zu 0,Xx 8 (cs.map Yq),Zz Zu (cs.length:Int),Zz Zu (i:Int)]) (fun i=>i≤cs.length∧Um [] cs=Um (cs.take i) (cs.drop i)) (fun i=>cs.length-i)
   (fun r=>∃ (i:Nat) (n:Int),r.2=[Zy o1,Zy o2,Zy o3,Xx 8 (cs.map Yq),Zz Zu n,Xx 8 (cs.map Yq),Zz Zu (cs.length:Int),Zz Zu (i:Int)]∧((r.1 = .ret∧n=Um [] cs)∨(r.1 = .exit 0∧Um [] cs=0))) 0 ⟨Nat.zero_le _,by simp⟩ (by simp) ?_ ?_
  ·rintro i ⟨hi,hp⟩
   simp only [A0,Vq,Vz,Yq]
   by_cases hlt:i<cs.length
   ·rw [sel_pos (by simp;omega),chk_of (by simp;omega),Int.toNat_natCast,Kerb.getD_av hlt]
    obtain ⟨c,hcc⟩:∃ c,cs.getD i Kerb.noCred=c:=⟨_,rfl⟩
    have hst:=Kerb.credsErr_step hlt hcc hp
    have hcok:c.ok:=hok c (by rw [← hcc];simp [List.getD_eq_getElem?_getD,hlt])
    rw [hcc]
    obtain ⟨⟨s1,s2,s3⟩,k,lf,kv,iss,tk⟩:=c
    obtain ⟨u1,u2,u3,u4,u5,u6⟩:=hcok
    simp only at u1 u2 u3 u4 u5 u6
    simp only [Yq,A0,Vq,Vz,Yq]
    have k1:∀ code:Int,code≠0→Wp ⟨⟨s1,s2,s3⟩,k,lf,kv,iss,tk⟩=code→code=Um [] cs:=fun code h0 he=>by
     rw [hst,he,if_pos h0]
    rw [chk_of (by simp;omega)]
    cases h1:Yp ⟨s1,s2,s3⟩
    ·exact ⟨_,rfl,i,_,rfl,.inl ⟨rfl,k1 103 (by decide) (by simp [Wp,h1])⟩⟩
    rw [Zp,sel_false,chk_of (by simp;omega)]
    cases h2:Uw k
    ·exact ⟨_,rfl,i,_,rfl,.inl ⟨rfl,k1 10 (by decide) (by simp [Wp,h1,h2])⟩⟩
    rw [Zp,sel_false]
    cases h3:Zb lf 255
    ·exact ⟨_,rfl,i,_,rfl,.inl ⟨rfl,k1 104 (by decide) (by simp [Wp,h1,h2,h3])⟩⟩
    rw [Zp,sel_false]
    cases h4:Zb kv 255
    ·exact ⟨_,rfl,i,_,rfl,.inl ⟨rfl,k1 104 (by decide) (by simp [Wp,h1,h2,h3,h4])⟩⟩
    rw [Zp,sel_false]
    cases h5:Zb iss 4294967295
    ·exact ⟨_,rfl,i,_,rfl,.inl ⟨rfl,k1 104 (by decide) (by simp [Wp,h1,h2,h3,h4,h5])⟩⟩
    rw [Zp,sel_false]
    by_cases h6:255<tk.length
    ·rw [sel_pos (by simp;omega)]
     exact ⟨_,rfl,i,_,rfl,.inl ⟨rfl,k1 105 (by decide) (by simp [Wp,h1,h2,h3,h4,h5,h6])⟩⟩
    have hz:Wp ⟨⟨s1,s2,s3⟩,k,lf,kv,iss,tk⟩=0:=by simp [Wp,h1,h2,h3,h4,h5];omega
    rw [hz,if_neg (by simp)] at hst
    rw [sel_neg (by simp;omega)]
    rw [chk_of (by rw [Kerb.all_creds hok];simp;omega),Vd]
    have hq:=Kerb.credAt_lt cs ⟨s1,s2,s3⟩ i hi
    have e:decide (((Kerb.credAt cs ⟨s1,s2,s3⟩:Nat):Int)<(i:Int))=decide (Kerb.credAt cs ⟨s1,s2,s3⟩<i):=decide_eq_decide.2 (by omega)
    rw [e,hq]
    cases hd:(cs.take i).any (fun d=>d.service.eqb ⟨s1,s2,s3⟩)
    ·rw [hd,if_neg (by simp)] at hst
     rw [sel_false,wrap_i64 (by omega) (by omega)]
     exact ⟨_,rfl,i+1,rfl,⟨by omega,hst⟩,by dsimp only;omega⟩
    ·rw [hd,if_pos rfl] at hst
     rw [sel_true]
     exact ⟨_,rfl,i,_,rfl,.inl ⟨rfl,hst.symm⟩⟩
   ·rw [sel_neg (by simp;omega)]
    refine ⟨_,rfl,i,_,rfl,.inr ⟨rfl,?_⟩⟩
    rw [hp,List.drop_eq_nil_of_le (by omega)]
    rfl
  ·rintro ⟨e,l⟩ ⟨i,n,rfl,⟨rfl,h⟩ | ⟨rfl,h⟩⟩
   ·simp only [A0,Vq,Vz,Yq,h]
   ·simp only [A0,Vq,Vz,Yq,h]
    rw [sel_pos (Nat.beq_refl _)]
 ·cases h
theorem w184:Walked Tryz.prog G 184 8 sp184:=by
 refine ⟨Tryz.f184,Tryz.func184,by decide +kernel,rfl,fun xs bl r h=> ?_⟩
 unfold sp184 at h
 split at h
 ·rename_i op ux uy uz kv rl tk sv ins bx
  obtain ⟨hpre,h2⟩:=chk_inv h;cases h2
  refine Eq.trans (b:=(sel (!Kerb.kaOp op) (some (Zz .i64 40,[])) (sel (!op==2) (Zw (chk (l63 ux&&l63 uy&&l63 uz) (some (Yx (Yp (Zq ux uy uz)),[]))) (kL fun b=>sel (!b) (some (Zz .i64 103,[])) (sel (decide ((↑(Zx bx):Int)>1012)) (some (Zz .i64 105,[])) (sel (!kv==0) (some (Zz .i64 108,[])) (sel (!rl==[]) (some (Zz .i64 108,[])) (sel (decide ((↑(Zx tk):Int)>0)) (some (Zz .i64 108,[])) (sel (!sv==[]) (some (Zz .i64 108,[])) (sel (!ins==[]) (some (Zz .i64 108,[])) (some (Zz .i64 0,[])))))))))) (Zw (chk (l63 rl) (some (Yx (Kerb.validRealm rl),[]))) (kL fun b=>sel (!b) (some (Zz .i64 103,[])) (Zw (chk (l63 sv) (some (Yx (Kerb.validName sv),[]))) (kL fun b=>sel (!b) (some (Zz .i64 103,[])) (Zw (chk (l63 ins) (some (Yx (Kerb.validInst ins),[]))) (kL fun b=>sel (!b) (some (Zz .i64 103,[])) (sel (!Zb kv 255) (some (Zz .i64 104,[])) (sel (decide ((↑(Zx tk):Int)>255)) (some (Zz .i64 105,[])) (sel (decide ((↑(Zx bx):Int)>1012)) (some (Zz .i64 105,[])) (sel (!(ux==[]&&(uy==[]&&uz==[]))) (some (Zz .i64 108,[])) (some (Zz .i64 0,[]))))))))))))):Option (AV×Blocks))) (by kernel_rfl) ?_
  delta kL
  try dsimp only [cStr,cBs,cBool,cU8,cInt,cSl,l63]
  simp only [Yw,decide_eq_true_eq] at hpre
  simp only [A0]
  rw [chk_of (by simp;omega),chk_of (by simp;omega),chk_of (by simp;omega),chk_of (by simp;omega)]
  unfold Wm
  simp only
  cases h0:Kerb.kaOp op
  ·rfl
  rw [Zp,sel_false,if_neg (by simp)]
  cases h1:(op==2)
  ·rw [Vm,sel_true,if_neg (by simp)]
   cases h2:Yp ⟨ux,uy,uz⟩
   ·rfl
   rw [Zp,sel_false,if_neg (by simp)]
   by_cases h3:1012<bx.length
   ·rw [sel_pos (by simp;omega),if_pos h3]
   rw [sel_neg (by simp;omega),if_neg h3]
   by_cases h4:kv=0
   case neg=>rw [sel_pos (by simpa using h4),if_pos (.inl h4)]
   rw [sel_neg (by simp [h4])]
   by_cases h5:rl=[]
   case neg=>rw [sel_pos (by simpa using h5),if_pos (.inr (.inl h5))]
   rw [sel_neg (by simp [h5])]
   by_cases h6:tk=[]
   case neg=>rw [sel_pos (by have:=List.length_pos_iff.2 h6;simp;omega),if_pos (.inr (.inr (.inl h6)))]
   rw [sel_neg (by simp [h6])]
   by_cases h7:sv=[]
   case neg=>rw [sel_pos (by simpa using h7),if_pos (.inr (.inr (.inr (.inl h7))))]
   rw [sel_neg (by simp [h7])]
   by_cases h8:ins=[]
   case neg=>rw [sel_pos (by simpa using h8),if_pos (.inr (.inr (.inr (.inr h8))))]
   rw [sel_neg (by simp [h8]),if_neg (by simp [h4,h5,h6,h7,h8])]
  ·rw [Zp,sel_false,if_pos rfl]
   cases h2:Kerb.validRealm rl
   ·rfl
   rw [Zp,sel_false]
   cases h3:Kerb.validName sv
   ·rfl
   rw [Zp,sel_false]
   cases h4:Kerb.validInst ins
   ·rfl
   rw [Zp,sel_false,if_neg (by simp)]
   cases h5:Zb kv 255
   ·rfl
   rw [Zp,sel_false,if_neg (by simp)]
   by_cases h6:255<tk.length
   ·rw [sel_pos (by simp;omega),if_pos (.inl h6)]
   rw [sel_neg (by simp;omega)]
   by_cases h7:1012<bx.length
   ·rw [sel_pos (by simp;omega),if_pos (.inr h7)]
   rw [sel_neg (by simp;omega),if_neg (by omega)]
   show sel (!(Kerb.Prin.isNo ⟨ux,uy,uz⟩)) _ _=_
   cases Kerb.Prin.isNo ⟨ux,uy,uz⟩<;>rfl
 ·cases h
theorem w215:Walked Tryz.prog G 215 8 sp215:=by
 refine ⟨Tryz.f215,Tryz.func215,by decide +kernel,rfl,fun xs bl r h=> ?_⟩
 unfold sp215 at h
 split at h
 ·rename_i b pos
  obtain ⟨hpre,h2⟩:=chk_inv h;cases h2
  refine Eq.trans (b:=(Zw (loopM (fun (st:List AV)=>cBs st fun b r=>cInt .i64 r fun n r=>let t0:Option (AV×Blocks):=chk (decide (Zx b≤4611686018427387904)) (some (Zj [Zy (Kerb.GotB.val (Kerb.text b n)),Zz .i64 (Kerb.GotB.next (Kerb.text b n)),Zz .i64 (Kerb.GotB.err (Kerb.text b n))],[]));cStr r fun b_1 r=>cStr r fun b_2 r=>cStr r fun b_3 r=>cInt .i64 r fun n_1 r=>cInt .i64 r fun n_2 r=>cStr r fun b_4 r=>cStr r fun b_5 r=>cStr r fun b_6 r=>cInt .i64 r fun n_3 r=>cInt .i64 r fun n_4 r=>let t1:List AV:=[Zy b_6,Zz .i64 n_3,Zz .i64 (Xz .i64 (n_4+1))];onNil r (sel (decide (n_4<n_3)) (chk (decide (0≤n_4)&&decide (n_4<(↑(Zx [0,1,2]):Int))&&true) (sel (Nat.beq (Vg n_4) 0) (Zw t0 (kT fun vs=>cStr vs fun b_7 r=>cInt .i64 r fun n r=>cInt .i64 r fun n_5 r=>onNil r (sel (!n_5==0) (some (Ud (Ex.ret,[Zk b,Zz .i64 n,Zy [],Zy [],Zy [],Zz .i64 0,Zz .i64 n_5,Zy b_7,Zy b_5,Zy b_6,Zz .i64 n_3,Zz .i64 n_4]))) (some (Sum.inl (Zk b::Zz .i64 n::Zy b_1::Zy b_2::Zy b_3::Zz .i64 n_1::Zz .i64 n_2::Zy b_7::Zy b_5::t1)))))) (sel (Nat.beq (Vg n_4-1) 0) (Zw t0 (kT fun vs=>cStr vs fun b_7 r=>cInt .i64 r fun n r=>cInt .i64 r fun n_5 r=>onNil r (sel (!n_5==0) (some (Ud (Ex.ret,[Zk b,Zz .i64 n,Zy [],Zy [],Zy [],Zz .i64 0,Zz .i64 n_5,Zy b_4,Zy b_7,Zy b_6,Zz .i64 n_3,Zz .i64 n_4]))) (some (Sum.inl (Zk b::Zz .i64 n::Zy b_1::Zy b_2::Zy b_3::Zz .i64 n_1::Zz .i64 n_2::Zy b_4::Zy b_7::t1)))))) (sel (Nat.beq (Vg n_4-1-1) 0) (Zw t0 (kT fun vs=>cStr vs fun b_7 r=>cInt .i64 r fun n r=>cInt .i64 r fun n_5 r=>onNil r (sel (!n_5==0) (some (Ud (Ex.ret,[Zk b,Zz .i64 n,Zy [],Zy [],Zy [],Zz .i64 0,Zz .i64 n_5,Zy b_4,Zy b_5,Zy b_7,Zz .i64 n_3,Zz .i64 n_4]))) (some (Sum.inl [Zk b,Zz .i64 n,Zy b_1,Zy b_2,Zy b_3,Zz .i64 n_1,Zz .i64 n_2,Zy b_4,Zy b_5,Zy b_7,Zz .i64 n_3,Zz .i64 (Xz .i64 (n_4+1))]))))) none)))) (some (Ud (Ex.exit 0,[Zk b,Zz .i64 n,Zy b_1,Zy b_2,Zy b_3,Zz .i64 n_1,Zz .i64 n_2,Zy b_4,Zy b_5,Zy b_6,Zz .i64 n_3,Zz .i64 n_4]))))) [Zk b,Zz .i64 pos,Zy [],Zy [],Zy [],Zz .i64 0,Zz .i64 0,Zy [],Zy [],Zy [],Zz .i64 (↑(Zx [0+0,0+1,0+2]):Int),Zz .i64 0]) fun (r:Ex×List AV)=>cBs (Yb r) fun b r_1=>cInt .i64 r_1 fun n r_2=>cStr r_2 fun b r_3=>cStr r_3 fun b_1 r_4=>cStr r_4 fun b_2 r_5=>cInt .i64 r_5 fun n_1 r_6=>cInt .i64 r_6 fun n_2 r_7=>cStr r_7 fun b_3 r_8=>cStr r_8 fun b_4 r_9=>cStr r_9 fun b_5 r_10=>cInt .i64 r_10 fun n_3 r_11=>cInt .i64 r_11 fun n_4 r_12=>onNil r_12 (exK r.1 (some (Zj [Zh [Zy b,Zy b_1,Zy b_2],Zz .i64 n_1,Zz .i64 n_2],[])) fun (j:Nat)=>sel (Nat.beq j 0) (Zw (chk (l63 b_3&&l63 b_4&&l63 b_5) (some (Yx (Yp (Zq b_3 b_4 b_5)),[]))) (kL fun b=>sel (!b) (some (Zj [Zh [Zy [],Zy [],Zy []],Zz .i64 0,Zz .i64 103],[])) (some (Zj [Zh [Zy b_3,Zy b_4,Zy b_5],Zz .i64 n,Zz .i64 0],[])))) none):Option (AV×Blocks))) (by kernel_rfl) ?_
  delta kT kL
  try dsimp only [cStr,cBs,cBool,cU8,cInt,cSl,l63]
  have hb:=of_decide_eq_true hpre
  obtain ⟨T0,hT0⟩:∃ T,T=Kerb.text b pos:=⟨_,rfl⟩
  obtain ⟨T1,hT1⟩:∃ T,T=Kerb.text b T0.next:=⟨_,rfl⟩
  obtain ⟨T2,hT2⟩:∃ T,T=Kerb.text b T1.next:=⟨_,rfl⟩
  have hp:Ux b pos=if T0.err≠0 then ⟨Uq,0,T0.err⟩ else if T1.err≠0 then ⟨Uq,0,T1.err⟩ else if T2.err≠0 then ⟨Uq,0,T2.err⟩
    else if Yp ⟨T0.val,T1.val,T2.val⟩ then ⟨⟨T0.val,T1.val,T2.val⟩,T2.next,0⟩ else ⟨Uq,0,103⟩:=by
   rw [hT2,hT1,hT0];rfl
  have k0:=Kerb.text_len b pos
  rw [← hT0] at k0
  have k1:=Kerb.text_len b T0.next
  rw [← hT1] at k1
  have k2:=Kerb.text_len b T1.next
  rw [← hT2] at k2
  refine loop_rounds (fun i:Nat=>match i with
    | 0=>[Zk b,Zz Zu pos,Zy [],Zy [],Zy [],Zz Zu 0,Zz Zu 0,Zy [],Zy [],Zy [],Zz Zu 3,Zz Zu 0]
    | 1=>[Zk b,Zz Zu T0.next,Zy [],Zy [],Zy [],Zz Zu 0,Zz Zu 0,Zy T0.val,Zy [],Zy [],Zz Zu 3,Zz Zu 1]
    | 2=>[Zk b,Zz Zu T1.next,Zy [],Zy [],Zy [],Zz Zu 0,Zz Zu 0,Zy T0.val,Zy T1.val,Zy [],Zz Zu 3,Zz Zu 2]
    | _=>[Zk b,Zz Zu T2.next,Zy [],Zy [],Zy [],Zz Zu 0,Zz Zu 0,Zy T0.val,Zy T1.val,Zy T2.val,Zz Zu 3,Zz Zu 3])
   (fun i=>i≤3∧(1≤i→T0.err=0)∧(2≤i→T1.err=0)∧(3≤i→T2.err=0)) (fun i=>3-i)
   (fun r=>(T0.err=0∧T1.err=0∧T2.err=0∧r=(Ex.exit 0,[Zk b,Zz Zu T2.next,Zy [],Zy [],Zy [],Zz Zu 0,Zz Zu 0,Zy T0.val,Zy T1.val,Zy T2.val,Zz Zu 3,Zz Zu 3])) ∨
    ∃ n x y z i,Ux b pos=⟨Uq,0,(Ux b pos).err⟩∧r=(Ex.ret,[Zk b,Zz Zu n,Zy [],Zy [],Zy [],Zz Zu 0,Zz Zu (Ux b pos).err,Zy x,Zy y,Zy z,Zz Zu 3,Zz Zu i])) 0 ⟨by omega,by omega,by omega,by omega⟩ rfl ?_ ?_
  ·rintro i ⟨hi,g0,g1,g2⟩
   have hc:i=0∨i=1∨i=2∨i=3:=by omega
   rcases hc with rfl | rfl | rfl | rfl
   ·simp only [A0]
    rw [sel_pos (by decide),chk_of (by decide),sel_pos (by decide),chk_of hpre,← hT0]
    by_cases h:T0.err=0
    ·rw [sel_neg (by simp [h])]
     exact ⟨_,rfl,1,rfl,⟨by omega,fun _=>h,by omega,by omega⟩,by dsimp only;omega⟩
    ·rw [sel_pos (by simpa using h)]
     exact ⟨_,rfl,.inr ⟨_,_,_,_,_,by rw [hp,if_pos h],by rw [hp,if_pos h]⟩⟩
   ·simp only [A0]
    have e0:=g0 (by omega)
    rw [sel_pos (by decide),chk_of (by decide),sel_neg (by decide),sel_pos (by decide),chk_of hpre,← hT1]
    by_cases h:T1.err=0
    ·rw [sel_neg (by simp [h])]
     exact ⟨_,rfl,2,rfl,⟨by omega,fun _=>e0,fun _=>h,by omega⟩,by dsimp only;omega⟩
    ·rw [sel_pos (by simpa using h)]
     exact ⟨_,rfl,.inr ⟨_,_,_,_,_,by rw [hp,if_neg (by simp [e0]),if_pos h],by rw [hp,if_neg (by simp [e0]),if_pos h]⟩⟩
   ·simp only [A0]
    have e0:=g0 (by omega)
    have e1:=g1 (by omega)
    rw [sel_pos (by decide),chk_of (by decide),sel_neg (by decide),sel_neg (by decide),sel_pos (by decide),chk_of hpre,← hT2]
    by_cases h:T2.err=0
    ·rw [sel_neg (by simp [h])]
     exact ⟨_,rfl,3,rfl,⟨by omega,fun _=>e0,fun _=>e1,fun _=>h⟩,by dsimp only;omega⟩
    ·rw [sel_pos (by simpa using h)]
     exact ⟨_,rfl,.inr ⟨_,_,_,_,_,by rw [hp,if_neg (by simp [e0]),if_neg (by simp [e1]),if_pos h],by rw [hp,if_neg (by simp [e0]),if_neg (by simp [e1]),if_pos h]⟩⟩
   ·simp only [A0]
    rw [sel_neg (by decide)]
    exact ⟨_,rfl,.inl ⟨g0 (by omega),g1 (by omega),g2 (by omega),rfl⟩⟩
  ·rintro r (⟨e0,e1,e2,rfl⟩ | ⟨n,x,y,z,i,h,rfl⟩)
   ·simp only [A0]
    rw [sel_pos (Nat.beq_refl _),chk_of (by simp;omega),hp,if_neg (by simp [e0]),if_neg (by simp [e1]),if_neg (by simp [e2])]
    cases hv:Yp ⟨T0.val,T1.val,T2.val⟩
    ·rfl
    ·rfl
   ·simp only [A0]
    rw [h]
    rfl
 ·cases h
theorem w245:Walked Tryz.prog G 245 8 sp245:=by
 refine ⟨Tryz.f245,Tryz.func245,by decide +kernel,rfl,fun xs bl r h=> ?_⟩
 unfold sp245 at h
 split at h
 ·rename_i lb t k st en kv x y z tk
  obtain ⟨hpre,h2⟩:=chk_inv h;cases h2
  refine Eq.trans (b:=(let t0:Option (AV×Blocks):=sel (!Zb t 4294967295) (some (Zz .i64 104,[])) (sel (!Vj lb) (sel (!k==0) (some (Zz .i64 108,[])) (sel (!st==0) (some (Zz .i64 108,[])) (sel (!en==0) (some (Zz .i64 108,[])) (sel (!kv==0) (some (Zz .i64 108,[])) (sel (!(x==[]&&(y==[]&&z==[]))) (some (Zz .i64 108,[])) (sel (decide ((↑(Zx tk):Int)>0)) (some (Zz .i64 108,[])) (some (Zz .i64 0,[])))))))) (Zw (chk (decide (0≤k)&&decide (k<18446744073709551616)) (some (Yx (Uw k),[]))) (kL fun b=>sel (!b) (some (Zz .i64 10,[])) (sel (!Zb st 4294967295) (some (Zz .i64 104,[])) (sel (!Zb en 4294967295) (some (Zz .i64 104,[])) (sel (!Zb kv 255) (some (Zz .i64 104,[])) (Zw (chk (l63 x&&l63 y&&l63 z) (some (Yx (Yp (Zq x y z)),[]))) (kL fun b=>sel (!b) (some (Zz .i64 103,[])) (sel (decide ((↑(Zx tk):Int)>255)) (some (Zz .i64 105,[])) (some (Zz .i64 0,[])))))))))));sel (!Vj lb) (sel (!lb==[(67:UInt8),(80:UInt8),(87:UInt8),(100:UInt8)]) (some (Zz .i64 80,[])) t0) t0:Option (AV×Blocks))) (by kernel_rfl) ?_
  delta kL
  try dsimp only [cStr,cBs,cBool,cU8,cInt,cSl,l63]
  have eGet:([103,84,71,83]:List UInt8)=Kerb.lGet:=rfl
  have eTick:([103,84,75,84]:List UInt8)=Kerb.lTicket:=rfl
  have eChg:([67,80,87,108]:List UInt8)=Kerb.lChange:=rfl
  have eDone:([67,80,87,100]:List UInt8)=Kerb.lDone:=rfl
  have eGot:([116,103,115,84]:List UInt8)=Kerb.lGot:=rfl
  have eGiven:([116,107,116,71]:List UInt8)=Kerb.lGiven:=rfl
  have hpre':=hpre
  simp only [Yw,decide_eq_true_eq] at hpre
  have hk:(decide (0≤k)&&decide (k<18446744073709551616))=true:=by simp;omega
  have hv:(decide (x.length≤9223372036854775807)&&decide (y.length≤9223372036854775807)&&decide (z.length≤9223372036854775807))=true:=by simp;omega
  simp only [A0,eDone,hk,hv]
  unfold Xq
  simp only
  cases ht:Vj lb
  ·rw [Vm,sel_true]
   cases hc:(lb==Kerb.lDone)
   ·rfl
   rw [Zp,sel_false,if_neg (by simp)]
   cases h1:Zb t 4294967295
   ·rfl
   rw [Zp,sel_false,if_neg (by simp),sel_true,if_neg (by simp)]
   by_cases h2:k=0
   case neg=>rw [sel_pos (by simpa using h2),if_pos (.inl h2)]
   rw [sel_neg (by simp [h2])]
   by_cases h3:st=0
   case neg=>rw [sel_pos (by simpa using h3),if_pos (.inr (.inl h3))]
   rw [sel_neg (by simp [h3])]
   by_cases h4:en=0
   case neg=>rw [sel_pos (by simpa using h4),if_pos (.inr (.inr (.inl h4)))]
   rw [sel_neg (by simp [h4])]
   by_cases h5:kv=0
   case neg=>rw [sel_pos (by simpa using h5),if_pos (.inr (.inr (.inr (.inl h5))))]
   rw [sel_neg (by simp [h5])]
   show sel (!(Kerb.Prin.isNo ⟨x,y,z⟩)) _ _=_
   cases h6:Kerb.Prin.isNo ⟨x,y,z⟩
   ·rw [if_pos (.inr (.inr (.inr (.inr (.inl rfl)))))];rfl
   rw [Zp,sel_false]
   by_cases h7:tk=[]
   case neg=>rw [sel_pos (by have:=List.length_pos_iff.2 h7;simp;omega),if_pos (.inr (.inr (.inr (.inr (.inr h7)))))]
   rw [sel_neg (by simp [h7]),if_neg (by simp [h2,h3,h4,h5,h7])]
  ·rw [Zp,sel_false,if_neg (by simp)]
   cases h1:Zb t 4294967295
   ·rfl
   rw [Zp,sel_false,if_neg (by simp),sel_false,if_pos rfl]
   cases h2:Uw k
   ·rfl
   rw [Zp,sel_false,if_neg (by simp)]
   cases h3:Zb st 4294967295
   ·rfl
   rw [Zp,sel_false]
   cases h4:Zb en 4294967295
   ·rfl
   rw [Zp,sel_false]
   cases h5:Zb kv 255
   ·rfl
   rw [Zp,sel_false,if_neg (by simp)]
   cases h6:Yp ⟨x,y,z⟩
   ·rfl
   rw [Zp,sel_false,if_neg (by simp)]
   by_cases h7:255<tk.length
   ·rw [sel_pos (by simp;omega),if_pos h7]
   ·rw [sel_neg (by simp;omega),if_neg h7]
 ·cases h
theorem w15:Walked Tryz.prog G 15 9 sp15:=by
 refine ⟨Tryz.f15,Tryz.func15,by decide +kernel,rfl,fun xs bl r h=> ?_⟩
 unfold sp15 at h
 split at h
 ·rename_i rl els now ad sk se msg
  obtain ⟨hpre,h2⟩:=chk_inv h;cases h2
  refine Eq.trans (b:=(let t0:List AV:=[Zh [Zz .i64 0,Zy [],Zy [],Zy [],Zy [],Zy [],Zy [],Zy [],Zy [],Zy [],Zz .u64 0,Zz .u64 0,Zz .u64 0,Zk [],Zz .i64 0,Zz .i64 0],Yx false];let t2:AV:=Zh [Zy rl,Xx 9 els];let t3:Bool:=l63 rl&&Xp els Vw&&decide (Zx els≤1000000);let t1:Option (AV×Blocks):=some (Zj (t2::Zk []::t0),[]);sel (!Zb now 4294967295) t1 (sel (!Zb ad 4294967295) t1 (Zw (chk (decide (Zx msg≤140737488355328)) (some (Zj [Zh [Zz .i64 (Kerb.KaRequest.op (Zv (Yk msg))),Zy (Zn (Uh (Zv (Yk msg)))),Zy (Zm (Uh (Zv (Yk msg)))),Zy (Zf (Uh (Zv (Yk msg)))),Zz .i64 (Kerb.KaRequest.kvno (Zv (Yk msg))),Zy (Kerb.KaRequest.realm (Zv (Yk msg))),Zk (Kerb.KaRequest.ticket (Zv (Yk msg))),Zy (Kerb.KaRequest.service (Zv (Yk msg))),Zy (Kerb.KaRequest.inst (Zv (Yk msg))),Zk (Kerb.KaRequest.box (Zv (Yk msg)))],Zz .i64 (Xm (Yk msg))],[]))) (kT fun vs=>onCons vs fun x r=>Ym x fun cs=>cInt .i64 cs fun n r_1=>cStr r_1 fun b r_2=>cStr r_2 fun b_1 r_3=>cStr r_3 fun b_2 r_4=>cInt .i64 r_4 fun n_1 r_5=>cStr r_5 fun b_3 r_6=>cBs r_6 fun b_4 r_7=>cStr r_7 fun b_5 r_8=>cStr r_8 fun b_6 r_9=>cBs r_9 fun b_7 r_10=>let t5:Kerb.KaOut:=Kerb.kaGetTicket (Xu rl (Yd Xy els)) now ad sk se (Xk n (Zq b b_1 b_2) n_1 b_3 b_4 b_5 b_6 b_7);let t4:Kerb.Issue:=Kerb.KaOut.issue t5;onNil r_10 (cInt .i64 r fun n_2 r=>onNil r (sel (!n_2==0) t1 (sel (n==2) (Zw (chk (l63 b&&l63 b_1&&l63 b_2&&l63 b_3&&l63 b_5&&l63 b_6&&l63 rl&&Wn se&&decide (Zx b_4≤1000000)&&decide (Zx b_7≤1000000)&&Xp els Vw&&decide (Zx els≤1000000)&&Zb now 4294967295) (some (Zj [Zk (Kerb.KaOut.answer t5),Zh [Zz .i64 (Uy t4),Zy (Zn (Yv t4)),Zy (Zm (Yv t4)),Zy (Zf (Yv t4)),Zy (Zn (Yu t4)),Zy (Zm (Yu t4)),Zy (Zf (Yu t4)),Zy (Zn (Yy t4)),Zy (Zm (Yy t4)),Zy (Zf (Yy t4)),Zz .u64 (Vv t4),Zz .u64 (Vk t4),Zz .u64 (Vu t4),Zk (Vh t4),Zz .i64 (Vp t4),Zz .i64 (Uz t4)],Yx (Kerb.KaOut.ok t5)],[]))) (kT fun vs=>cBs vs fun b r=>onCons r fun x r=>Ym x fun cs=>cInt .i64 cs fun n r_11=>cStr r_11 fun b_8 r_12=>cStr r_12 fun b_9 r_13=>cStr r_13 fun b_10 r_14=>cStr r_14 fun b_11 r_15=>cStr r_15 fun b_12 r_16=>cStr r_16 fun b_13 r_17=>cStr r_17 fun b_14 r_18=>cStr r_18 fun b_15 r_19=>cStr r_19 fun b_16 r_20=>cInt .u64 r_20 fun n_3 r_21=>cInt .u64 r_21 fun n_4 r_22=>cInt .u64 r_22 fun n_5 r_23=>cBs r_23 fun b_17 r_24=>cInt .i64 r_24 fun n_6 r_25=>cInt .i64 r_25 fun n_7 r_26=>onNil r_26 (cBool r fun b_18 r=>onNil r (some (Zj [t2,Zk b,Zh [Zz .i64 n,Zy b_8,Zy b_9,Zy b_10,Zy b_11,Zy b_12,Zy b_13,Zy b_14,Zy b_15,Zy b_16,Zz .u64 n_3,Zz .u64 n_4,Zz .u64 n_5,Zk b_17,Zz .i64 n_6,Zz .i64 n_7],Yx b_18],[]))))) (sel (!b_2==rl) (some (Zj (t2::Zk (Yz n 8)::t0),[])) (Zw (chk (Xp els Vw&&decide (Zx els≤1000000)) (some (Zj [Zz .i64 (Xw (Kerb.clientEnt (Xu rl (Yd Xy els)) b b_1 now)),Zz .i64 (Yb (Kerb.clientEnt (Xu rl (Yd Xy els)) b b_1 now))],[]))) (kT fun vs=>cInt .i64 vs fun n_3 r=>let t6:Kerb.Db:=Kerb.kaClear (Xu rl (Yd Xy els)) n_3;let t7:Kerb.Entry:=Kerb.entAt (Xu rl (Yd Xy els)) n_3;cInt .i64 r fun n_4 r=>onNil r (sel (!n_4==0) (some (Zj (t2::Zk (Yz n n_4)::t0),[])) (chk (decide (0≤n_3)&&decide (n_3<(↑(Zx els):Int))&&true) (Ym (List.getD els (Vg n_3) AV.undef) fun cs=>cStr cs fun b_8 r=>cStr r fun b_9 r=>cInt .u64 r fun n_5 r=>cInt .i64 r fun n_6 r=>cInt .i64 r fun n_7 r=>cInt .i64 r fun n_8 r=>cInt .i64 r fun n_9 r=>cInt .i64 r fun n_10 r=>cInt .i64 r fun n_11 r=>onNil r (sel (decide (now<n_11)) (some (Zj (t2::Zk (Yz n 81)::t0),[])) (chk (decide (0≤n_3)&&decide (n_3<(↑(Zx els):Int))&&true) (Ym (List.getD els (Vg n_3) AV.undef) fun cs=>cStr cs fun b_10 r=>cStr r fun b_11 r=>cInt .u64 r fun n_12 r=>cInt .i64 r fun n_13 r=>cInt .i64 r fun n_14 r=>cInt .i64 r fun n_15 r=>cInt .i64 r fun n_16 r=>cInt .i64 r fun n_17 r=>cInt .i64 r fun n_18 r=>onNil r (Zw (chk (decide (Zx b_7≤140737488355328)) (some (Zj [Zk (Xw (Xd b_7 7 n_12)),Yx (Yb (Xd b_7 7 n_12))],[]))) (kT fun vs=>cBs vs fun b_12 r=>let t10:Kerb.KaOut:=Kerb.kaAuthenticate (Xu rl (Yd Xy els)) t6 t7 1 now ad sk se (Zq b b_1 b_2) b_12;let t11:Kerb.KaOut:=Kerb.kaChangePw (Xu rl (Yd Xy els)) t6 n_3 3 now sk b_12;let t8:Kerb.Issue:=Kerb.KaOut.issue t10;let t9:Kerb.Issue:=Kerb.KaOut.issue t11;cBool r fun b_13 r=>onNil r (sel (!b_13) (Zw (chk (Xp els Vw&&decide (Zx els≤1000000)&&decide (0≤n_3)&&decide (n_3<(↑(Zx els):Int))&&decide (Kerb.Db.err (Xu rl (Yd Xy els))=0)&&Zb now 4294967295) (some (Zh [Zy (Kerb.Db.realm (Kerb.kaFailed (Xu rl (Yd Xy els)) n_3 now)),Xx 9 (Yd Wh (Kerb.Db.entries (Kerb.kaFailed (Xu rl (Yd Xy els)) n_3 now)))],[]))) (kA fun cs=>cStr cs fun b r=>cSl 9 r fun b_14 r=>onNil r (some (Zj (Zh [Zy b,Xx 9 b_14]::Zk (Yz n 62)::t0),[])))) (sel (n==3) (Zw (chk (t3&&decide (Kerb.Db.err (Xu rl (Yd Xy els))=0)&&decide (Zx b_12≤1000000)&&decide (0≤n_3)&&decide (n_3<(↑(Zx els):Int))) (some (Zj [Zh [Zy (Kerb.Db.realm (Kerb.KaOut.db t11)),Xx 9 (Yd Wh (Kerb.Db.entries (Kerb.KaOut.db t11)))],Zk (Kerb.KaOut.answer t11),Zh [Zz .i64 (Uy t9),Zy (Zn (Yv t9)),Zy (Zm (Yv t9)),Zy (Zf (Yv t9)),Zy (Zn (Yu t9)),Zy (Zm (Yu t9)),Zy (Zf (Yu t9)),Zy (Zn (Yy t9)),Zy (Zm (Yy t9)),Zy (Zf (Yy t9)),Zz .u64 (Vv t9),Zz .u64 (Vk t9),Zz .u64 (Vu t9),Zk (Vh t9),Zz .i64 (Vp t9),Zz .i64 (Uz t9)],Yx (Kerb.KaOut.ok t11)],[]))) (kT fun vs=>onCons vs fun x r=>Ym x fun cs=>cStr cs fun b r_11=>cSl 9 r_11 fun b_14 r_12=>onNil r_12 (cBs r fun b_15 r=>onCons r fun x r=>Ym x fun cs=>cInt .i64 cs fun n r_13=>cStr r_13 fun b_16 r_14=>cStr r_14 fun b_17 r_15=>cStr r_15 fun b_18 r_16=>cStr r_16 fun b_19 r_17=>cStr r_17 fun b_20 r_18=>cStr r_18 fun b_21 r_19=>cStr r_19 fun b_22 r_20=>cStr r_20 fun b_23 r_21=>cStr r_21 fun b_24 r_22=>cInt .u64 r_22 fun n_19 r_23=>cInt .u64 r_23 fun n_20 r_24=>cInt .u64 r_24 fun n_21 r_25=>cBs r_25 fun b_25 r_26=>cInt .i64 r_26 fun n_22 r_27=>cInt .i64 r_27 fun n_23 r_28=>onNil r_28 (cBool r fun b_26 r=>onNil r (some (Zj [Zh [Zy b,Xx 9 b_14],Zk b_15,Zh [Zz .i64 n,Zy b_16,Zy b_17,Zy b_18,Zy b_19,Zy b_20,Zy b_21,Zy b_22,Zy b_23,Zy b_24,Zz .u64 n_19,Zz .u64 n_20,Zz .u64 n_21,Zk b_25,Zz .i64 n_22,Zz .i64 n_23],Yx b_26],[])))))) (Zw (chk (t3&&l63 b&&l63 b_1&&l63 b_2&&decide (Zx b_12≤1000000)&&decide (0≤n_3)&&decide (n_3<(↑(Zx els):Int))&&Zb now 4294967295&&Wn se) (some (Zj [Zh [Zy (Kerb.Db.realm (Kerb.KaOut.db t10)),Xx 9 (Yd Wh (Kerb.Db.entries (Kerb.KaOut.db t10)))],Zk (Kerb.KaOut.answer t10),Zh [Zz .i64 (Uy t8),Zy (Zn (Yv t8)),Zy (Zm (Yv t8)),Zy (Zf (Yv t8)),Zy (Zn (Yu t8)),Zy (Zm (Yu t8)),Zy (Zf (Yu t8)),Zy (Zn (Yy t8)),Zy (Zm (Yy t8)),Zy (Zf (Yy t8)),Zz .u64 (Vv t8),Zz .u64 (Vk t8),Zz .u64 (Vu t8),Zk (Vh t8),Zz .i64 (Vp t8),Zz .i64 (Uz t8)],Yx (Kerb.KaOut.ok t10)],[]))) (kT fun vs=>onCons vs fun x r=>Ym x fun cs=>cStr cs fun b r_11=>cSl 9 r_11 fun b_14 r_12=>onNil r_12 (cBs r fun b_15 r=>onCons r fun x r=>Ym x fun cs=>cInt .i64 cs fun n r_13=>cStr r_13 fun b_16 r_14=>cStr r_14 fun b_17 r_15=>cStr r_15 fun b_18 r_16=>cStr r_16 fun b_19 r_17=>cStr r_17 fun b_20 r_18=>cStr r_18 fun b_21 r_19=>cStr r_19 fun b_22 r_20=>cStr r_20 fun b_23 r_21=>cStr r_21 fun b_24 r_22=>cInt .u64 r_22 fun n_19 r_23=>cInt .u64 r_23 fun n_20 r_24=>cInt .u64 r_24 fun n_21 r_25=>cBs r_25 fun b_25 r_26=>cInt .i64 r_26 fun n_22 r_27=>cInt .i64 r_27 fun n_23 r_28=>onNil r_28 (cBool r fun b_26 r=>onNil r (some (Zj [Zh [Zy b,Xx 9 b_14],Zk b_15,Zh [Zz .i64 n,Zy b_16,Zy b_17,Zy b_18,Zy b_19,Zy b_20,Zy b_21,Zy b_22,Zy b_23,Zy b_24,Zz .u64 n_19,Zz .u64 n_20,Zz .u64 n_21,Zk b_25,Zz .i64 n_22,Zz .i64 n_23],Yx b_26],[]))))))))))))))))))))))))):Option (AV×Blocks))) (by kernel_rfl) ?_
  delta kT kA
  try dsimp only [cStr,cBs,cBool,cU8,cInt,cSl,l63]
  simp only [Yw,decide_eq_true_eq] at hpre
  obtain ⟨⟨⟨⟨⟨c7,hall⟩,hlen⟩,he⟩,c8⟩,hm⟩:=hpre
  obtain ⟨es,rfl,hok⟩:=Kerb.ents_of hall
  rw [Vx] at he ⊢
  simp only [Wy] at hlen
  have ml:decide (msg.length≤140737488355328)=true:=by simp;omega
  simp only [Vx,hall,he,Wy,hlen,ml,c7,c8,eq_self,decide_true,Yf,List.map_nil,↓A0,A0]
  unfold Kerb.kaserver
  try dsimp only
  cases hw:Zb now 4294967295
  ·rfl
  cases hv:Zb ad 4294967295
  ·rfl
  rw [sel_neg (by rfl),sel_neg (by rfl),if_neg (show ¬ ((!(true&&true))=true) from by decide)]
  have rb := @Kerb.kaReq_bd msg
  generalize Yk msg=R at rb ⊢
  by_cases h1:R.err=0
  case neg=>rw [sel_pos (by simpa using h1),if_pos h1];rfl
  rw [sel_neg (by simpa using h1),if_neg (not_not_intro h1)]
  obtain ⟨⟨r1,r2,r3,r4,r5,r6⟩,r7,r8,r9⟩:=rb h1
  have d1:decide (R.val.user.name.length≤9223372036854775807)=true:=decide_eq_true (Yh r1 (by decide))
  have d2:decide (R.val.user.inst.length≤9223372036854775807)=true:=decide_eq_true (Yh r2 (by decide))
  have d3:decide (R.val.user.realm.length≤9223372036854775807)=true:=decide_eq_true (Yh r3 (by decide))
  have d4:decide (R.val.realm.length≤9223372036854775807)=true:=decide_eq_true (Yh r4 (by decide))
  have d5:decide (R.val.service.length≤9223372036854775807)=true:=decide_eq_true (Yh r5 (by decide))
  have d6:decide (R.val.inst.length≤9223372036854775807)=true:=decide_eq_true (Yh r6 (by decide))
  have d8:decide (R.val.ticket.length≤1000000)=true:=decide_eq_true (Yh r8 (by decide))
  have d9:decide (R.val.box.length≤1000000)=true:=decide_eq_true (Yh r9 (by decide))
  have d10:decide (R.val.box.length≤140737488355328)=true:=decide_eq_true (Yh r9 (by decide))
  simp only [d1,d2,d3,d4,d5,d6,d8,d9,d10,hw,r7,c8,he,eq_self,decide_true,Yf,↓A0,A0]
  obtain ⟨⟨op,⟨u1,u2,u3⟩,kv,qr,tk,sv,ins,bx⟩,err⟩:=R
  dsimp only at *
  by_cases h2:op=2
  ·rw [sel_pos (by simpa using h2),if_pos h2]
   rw [Kerb.kaGetTicket_db]
  rw [sel_neg (by simpa using h2),if_neg h2]
  unfold Kerb.kaByUser
  dsimp only
  by_cases h3:u3=rl
  case neg=>rw [sel_pos (by simpa using h3),if_pos h3];try rfl
  rw [sel_neg (by simp [h3]),if_neg (not_not_intro h3)]
  have hs := @Kerb.clie_lt ⟨rl,es⟩ u1 u2 now
  generalize Kerb.clientEnt ⟨rl,es⟩ u1 u2 now=F at hs ⊢
  obtain ⟨i,e⟩:=F
  dsimp only at hs ⊢
  by_cases h4:e=0
  case neg=>rw [sel_pos (by simpa using h4),if_pos h4];try rfl
  obtain ⟨g1,g2⟩:=hs h4
  have g3:i<(es.length:Int):=by omega
  have i0:decide (0≤i)=true:=decide_eq_true g1
  have i1:decide (i<(es.length:Int))=true:=decide_eq_true g3
  rw [sel_neg (by simpa using h4),if_neg (not_not_intro h4)]
  simp only [i0,i1,Yf,chk_true,Kerb.getD_ent g2]
  have hE:Kerb.entAt ⟨rl,es⟩ i=es.getD i.toNat Kerb.noEntry:=rfl
  rw [← hE]
  generalize hw2:Kerb.entAt ⟨rl,es⟩ i=w
  simp only [Wh,i0,i1,↓A0,A0]
  by_cases h5:now<w.till
  ·rw [sel_pos (by simpa using h5),if_pos h5];try rfl
  rw [sel_neg (by simpa using h5),if_neg h5]
  have ol:=Kerb.openBox_len bx 7 w.key
  generalize Xd bx 7 w.key=O at ol ⊢
  obtain ⟨bd,ok⟩:=O
  dsimp only at ol ⊢
  have bd1:decide (Zx bd≤1000000)=true:=by simp;omega
  cases ok
  ·rw [sel_pos (by rfl),if_pos rfl];try rfl
  rw [sel_neg (by rfl),if_neg (show ¬ (true=false) from by decide)]
  simp only [bd1,Yf,chk_true]
  have hop3:op=1∨op=3:=by
   simp [Kerb.kaOp] at r7
   omega
  rcases hop3 with rfl | rfl
  ·rw [sel_neg (by rfl),if_pos rfl];try rfl
  ·rw [sel_pos (by rfl),if_neg (by decide)];try rfl
 ·cases h
theorem w38:Walked Tryz.prog G 38 9 sp38:=by
 refine ⟨Tryz.f38,Tryz.func38,by decide +kernel,rfl,fun xs bl r h=> ?_⟩
 unfold sp38 at h
 split at h
 ·rename_i m1 m2 m3 ad sk li o1 o2 o3 els wt w1 w2 w3 se tm lf cs tc
  obtain ⟨hpre,h2⟩:=chk_inv h;cases h2
  refine Eq.trans (b:=(Zw (chk (decide (Zx m1≤9223372036854775807)&&decide (Zx m2≤9223372036854775807)&&decide (Zx m3≤9223372036854775807)) (some (Yx (Yp (Zq m1 m2 m3)),[]))) fun (r:AV×Blocks)=>onNilB (Yb r) (AV.onBool (Xw r) fun b=>sel (!b) (some (Zz .i64 103,[])) (sel (!Zb ad 4294967295) (some (Zz .i64 104,[])) (sel (!Zb sk 4294967295) (some (Zz .i64 104,[])) (sel (decide (wt<0)) (some (Zz .i64 104,[])) (sel (decide (wt>3)) (some (Zz .i64 104,[])) (Zw (chk (decide (Zx o1≤9223372036854775807)&&decide (Zx o2≤9223372036854775807)&&decide (Zx o3≤9223372036854775807)&&Xp els Xb&&decide (Zx els≤1000000)) (some (Zz .i64 (Wd (Vb (Zq o1 o2 o3) (Yd Ww els))),[]))) fun (r:AV×Blocks)=>onNilB (Yb r) (Yj .i64 (Xw r) fun n=>sel (!n==0) (some (Zz .i64 n,[])) (sel (!(o1==m1&&(o2==m2&&o3==m3))) (some (Zz .i64 103,[])) (some (Zz .i64 0,[])))))))))):Option (AV×Blocks))) (by kernel_rfl) ?_
  simp only [Yw,decide_eq_true_eq] at hpre
  have c1:(decide (m1.length≤9223372036854775807)&&decide (m2.length≤9223372036854775807)&&decide (m3.length≤9223372036854775807))=true:=by simp;omega
  have c2:(decide (o1.length≤9223372036854775807)&&decide (o2.length≤9223372036854775807)&&decide (o3.length≤9223372036854775807)&&els.all Xb&&decide (els.length≤1000000))=true:=by simp only [Yw,decide_eq_true_eq];exact ⟨⟨⟨⟨by omega,by omega⟩,by omega⟩,hpre.1.2⟩,hpre.2⟩
  simp only [A0,Vq,Vz,Yq,c1,c2]
  unfold Wq
  simp only
  cases Yp ⟨m1,m2,m3⟩
  ·rfl
  cases Zb ad 4294967295
  ·rfl
  cases Zb sk 4294967295
  ·rfl
  simp only [Zp,sel_false,Yf]
  rw [if_neg (by simp),if_neg (by simp)]
  by_cases h1:0≤wt
  case neg=>rw [sel_pos (by simp;omega),if_pos (by simp;omega)]
  by_cases h2:wt≤3
  case neg=>rw [sel_neg (by simp;omega),sel_pos (by simp;omega),if_pos (by simp;omega)]
  rw [sel_neg (by simp;omega),sel_neg (by simp;omega),if_neg (by simp;omega)]
  by_cases h3:Wd ⟨⟨o1,o2,o3⟩,els.map Ww⟩=0
  case neg=>rw [sel_pos (by simpa using h3),if_pos h3]
  rw [sel_neg (by simp [h3]),if_neg (by simpa using h3)]
  show sel (!Kerb.Prin.eqb ⟨o1,o2,o3⟩ ⟨m1,m2,m3⟩) _ _=_
  cases Kerb.Prin.eqb ⟨o1,o2,o3⟩ ⟨m1,m2,m3⟩<;>rfl
 ·cases h
theorem w55:Walked Tryz.prog G 55 9 sp55:=by
 refine ⟨Tryz.f55,Tryz.func55,by decide +kernel,rfl,fun xs bl r h=> ?_⟩
 unfold sp55 at h
 split at h
 ·rename_i o1 o2 o3 els x y z k lf kv iss tk
  obtain ⟨hpre,h2⟩:=chk_inv h;cases h2
  refine Eq.trans (b:=(let t0:List AV:=[Zh [Zy x,Zy y,Zy z,Zz .u64 k,Zz .i64 lf,Zz .i64 kv,Zz .i64 iss,Zk tk]];let t1:AV:=Zh [Zy [],Zy [],Zy [],Xx 8 []];let t2:Bool:=l63 o1&&l63 o2&&l63 o3;Zw (chk (t2&&Xp els Xb&&decide (Zx els≤1000000)) (some (Zz .i64 (Wd (Vb (Zq o1 o2 o3) (Yd Ww els))),[]))) (kI .i64 fun n=>sel (!n==0) (some (Zj [t1,Zz .i64 n],[])) (Zw (chk (t2&&Xp t0 Xb&&decide (Zx t0≤1000000)) (some (Zz .i64 (Wd (Vb (Zq o1 o2 o3) (Yd Ww t0))),[]))) (kI .i64 fun n=>sel (!n==0) (some (Zj [t1,Zz .i64 n],[])) (Zw (loopM (fun (st:List AV)=>cStr st fun b r=>cStr r fun b_1 r=>cStr r fun b_2 r=>cSl 8 r fun b_3 r=>cStr r fun b_4 r=>cStr r fun b_5 r=>cStr r fun b_6 r=>cInt .u64 r fun n r=>cInt .i64 r fun n_1 r=>cInt .i64 r fun n_2 r=>cInt .i64 r fun n_3 r=>cBs r fun b_7 r=>cStr r fun b_8 r=>cStr r fun b_9 r=>cStr r fun b_10 r=>cSl 8 r fun b_11 r=>onCons r fun x r=>AV.onOwnL x fun b_12=>cSl 8 r fun b_13 r=>cInt .i64 r fun n_4 r=>cInt .i64 r fun n_5 r=>let t3:List AV:=[Xx 8 b_13,Zz .i64 n_4,Zz .i64 (Xz .i64 (n_5+1))];onNil r (sel (decide (n_5<n_4)) (chk (decide (0≤n_5)&&decide (n_5<(↑(Zx b_13):Int))&&true) (Ym (List.getD b_13 (Vg n_5) AV.undef) fun cs=>cStr cs fun b_14 r=>cStr r fun b_15 r=>cStr r fun b_16 r=>cInt .u64 r fun n_6 r=>cInt .i64 r fun n_7 r=>cInt .i64 r fun n_8 r=>cInt .i64 r fun n_9 r=>cBs r fun b_17 r=>onNil r (sel (!(b_14==b_4&&(b_15==b_5&&b_16==b_6))) (Zw (chk (decide (Zx b_17≤140737488355328)) (some (Zh [Zy b_14,Zy b_15,Zy b_16,Zz .u64 n_6,Zz .i64 n_7,Zz .i64 n_8,Zz .i64 n_9,Zk b_17],[]))) (kA fun cs=>cStr cs fun b_18 r=>cStr r fun b_19 r=>cStr r fun b_20 r=>cInt .u64 r fun n_10 r=>cInt .i64 r fun n_11 r=>cInt .i64 r fun n_12 r=>cInt .i64 r fun n_13 r=>cBs r fun b_21 r=>let t4:List AV:=[Zh [Zy b_18,Zy b_19,Zy b_20,Zz .u64 n_10,Zz .i64 n_11,Zz .i64 n_12,Zz .i64 n_13,Zk b_21]];onNil r (chk (room (Zx b_12+Zx t4) (nat_lit 104)) (some (Sum.inl (Zy b::Zy b_1::Zy b_2::Xx 8 b_3::Zy b_4::Zy b_5::Zy b_6::Zz .u64 n::Zz .i64 n_1::Zz .i64 n_2::Zz .i64 n_3::Zk b_7::Zy b_8::Zy b_9::Zy b_10::Xx 8 b_11::AV.ownL (b_12++t4)::t3)))))) (some (Sum.inl (Zy b::Zy b_1::Zy b_2::Xx 8 b_3::Zy b_4::Zy b_5::Zy b_6::Zz .u64 n::Zz .i64 n_1::Zz .i64 n_2::Zz .i64 n_3::Zk b_7::Zy b_8::Zy b_9::Zy b_10::Xx 8 b_11::AV.ownL b_12::t3)))))) (some (Ud (Ex.exit 0,[Zy b,Zy b_1,Zy b_2,Xx 8 b_3,Zy b_4,Zy b_5,Zy b_6,Zz .u64 n,Zz .i64 n_1,Zz .i64 n_2,Zz .i64 n_3,Zk b_7,Zy b_8,Zy b_9,Zy b_10,Xx 8 b_11,AV.ownL b_12,Xx 8 b_13,Zz .i64 n_4,Zz .i64 n_5]))))) [Zy o1,Zy o2,Zy o3,Xx 8 els,Zy x,Zy y,Zy z,Zz .u64 k,Zz .i64 lf,Zz .i64 kv,Zz .i64 iss,Zk tk,Zy [],Zy [],Zy [],Xx 8 [],AV.ownL [],Xx 8 els,Zz .i64 (↑(Zx els):Int),Zz .i64 0]) fun (r:Ex×List AV)=>cStr (Yb r) fun b r_1=>cStr r_1 fun b_1 r_2=>cStr r_2 fun b_2 r_3=>cSl 8 r_3 fun b_3 r_4=>cStr r_4 fun b_4 r_5=>cStr r_5 fun b_5 r_6=>cStr r_6 fun b_6 r_7=>cInt .u64 r_7 fun n r_8=>cInt .i64 r_8 fun n_1 r_9=>cInt .i64 r_9 fun n_2 r_10=>cInt .i64 r_10 fun n_3 r_11=>cBs r_11 fun b_7 r_12=>cStr r_12 fun b_8 r_13=>cStr r_13 fun b_9 r_14=>cStr r_14 fun b_10 r_15=>cSl 8 r_15 fun b_11 r_16=>onCons r_16 fun x r_17=>AV.onOwnL x fun b_12=>cSl 8 r_17 fun b_13 r_18=>cInt .i64 r_18 fun n_4 r_19=>cInt .i64 r_19 fun n_5 r_20=>onNil r_20 (exK r.1 none fun (j:Nat)=>sel (Nat.beq j 0) (sel (decide ((↑(Zx b_12):Int)≥20)) (some (Zj [t1,Zz .i64 106],[])) (Zw (chk (decide (Zx b_7≤140737488355328)) (some (Zh [Zy b_4,Zy b_5,Zy b_6,Zz .u64 n,Zz .i64 n_1,Zz .i64 n_2,Zz .i64 n_3,Zk b_7],[]))) (kA fun cs=>cStr cs fun b_14 r=>cStr r fun b_15 r=>cStr r fun b_16 r=>cInt .u64 r fun n r=>cInt .i64 r fun n_6 r=>cInt .i64 r fun n_7 r=>cInt .i64 r fun n_8 r=>cBs r fun b_17 r=>let t5:List AV:=[Zh [Zy b_14,Zy b_15,Zy b_16,Zz .u64 n,Zz .i64 n_6,Zz .i64 n_7,Zz .i64 n_8,Zk b_17]];onNil r (chk (room (Zx b_12+Zx t5) (nat_lit 104)) (some (Zj [Zh [Zy b,Zy b_1,Zy b_2,Xx 8 (b_12++t5)],Zz .i64 0],[])))))) none))))):Option (AV×Blocks))) (by kernel_rfl) ?_
  delta kA kI
  try dsimp only [cStr,cBs,cBool,cU8,cInt,cSl,l63]
  simp only [Yw,decide_eq_true_eq] at hpre
  obtain ⟨⟨⟨⟨⟨q1,q2⟩,q3⟩,hall⟩,hlen⟩,hx⟩:=hpre
  obtain ⟨cs,rfl,hok⟩:=Kerb.creds_of hall
  have hl1:decide (([Zh [.str x,.str y,.str z,.int .u64 k,.int .i64 lf,.int .i64 kv,.int .i64 iss,.bs tk]]:List AV).length≤1000000)=true:=rfl
  have hm1:Yd Ww [Zh [.str x,.str y,.str z,.int .u64 k,.int .i64 lf,.int .i64 kv,.int .i64 iss,.bs tk]]=[⟨⟨x,y,z⟩,k,lf,kv,iss,tk⟩]:=rfl
  simp only [↓A0,A0,q1,q2,q3,hall,hlen,hx,hl1,hm1,decide_true,Yf,List.all_cons,List.all_nil,Vd]
  simp only [Wy] at hlen
  obtain ⟨e1,he1⟩:∃ e,Wd ⟨⟨o1,o2,o3⟩,cs⟩=e:=⟨_,rfl⟩
  obtain ⟨e2,he2⟩:∃ e,Wd ⟨⟨o1,o2,o3⟩,[⟨⟨x,y,z⟩,k,lf,kv,iss,tk⟩]⟩=e:=⟨_,rfl⟩
  rw [Kerb.store_of (x:=⟨⟨x,y,z⟩,k,lf,kv,iss,tk⟩) he1 he2,he1,he2]
  by_cases h1:e1=0
  case neg =>
   rw [if_pos h1]
   rw [sel_pos (by simpa using h1)];rfl
  subst h1
  have g1:=Kerb.cacheErr_creds he1
  simp only at g1
  rw [if_neg (by simp)]
  rw [sel_neg (by simp)]
  by_cases h2:e2=0
  case neg=>rw [sel_pos (by simpa using h2),if_pos h2];rfl
  subst h2
  have g2:=Kerb.credErr_tick (Kerb.credsErr_small (Kerb.cacheErr_creds he2).2 _ (List.mem_singleton.2 rfl))
  simp only at g2
  rw [sel_neg (by simp),if_neg (by simp)]
  refine loop_rounds (fun i:Nat=>[Zy o1,Zy o2,Zy o3,Xx 8 (cs.map Yq),Zy x,Zy y,Zy z,Zz IntKind.u64 k,Zz Zu lf,Zz Zu kv,Zz Zu iss,Zk tk,Zy [],Zy [],Zy [],Xx 8 [],AV.ownL (((cs.take i).filter fun d => !d.service.eqb ⟨x,y,z⟩).map Yq),Xx 8 (cs.map Yq),Zz Zu (cs.length:Int),Zz Zu (i:Int)]) (fun i=>i≤cs.length) (fun i=>cs.length-i) (fun r=>r=(.exit 0,[Zy o1,Zy o2,Zy o3,Xx 8 (cs.map Yq),Zy x,Zy y,Zy z,Zz IntKind.u64 k,Zz Zu lf,Zz Zu kv,Zz Zu iss,Zk tk,Zy [],Zy [],Zy [],Xx 8 [],AV.ownL (((cs.take cs.length).filter fun d => !d.service.eqb ⟨x,y,z⟩).map Yq),Xx 8 (cs.map Yq),Zz Zu (cs.length:Int),Zz Zu (cs.length:Int)])) 0 (Nat.zero_le _) (by simp) ?_ ?_
  ·intro i hi
   simp only [↓A0]
   by_cases hlt:i<cs.length
   ·have htf:=Kerb.take_filter hlt (fun d => !d.service.eqb ⟨x,y,z⟩)
    have hfl:((cs.take i).filter fun d => !d.service.eqb ⟨x,y,z⟩).length≤i:=Yh (List.length_filter_le _ _) (by simp;omega)
    rw [sel_pos (by simp;omega),chk_of (by simp;omega),Int.toNat_natCast,Kerb.getD_av hlt]
    obtain ⟨c,hcc⟩:∃ c,cs.getD i Kerb.noCred=c:=⟨_,rfl⟩
    have hm:c∈cs:=by rw [← hcc];simp [List.getD_eq_getElem?_getD,hlt]
    have ht:=Kerb.credErr_tick (Kerb.credsErr_small g1.2 c hm)
    rw [hcc] at htf ⊢
    simp only [Yq,↓A0]
    rw [wrap_i64 (by omega) (by omega)]
    show ∃ q,sel (!(Kerb.Prin.eqb c.service ⟨x,y,z⟩)) _ _=some q∧_
    cases he:Kerb.Prin.eqb c.service ⟨x,y,z⟩
    ·rw [he,Vm,if_pos rfl] at htf
     rw [Vm,sel_true,chk_of (by simp;omega)]
     rw [chk_of (by simp [room,maxLen];omega)]
     refine ⟨_,rfl,i+1,?_,hlt,by simp only;omega⟩
     simp only [htf,List.map_append,List.map_cons,List.map_nil,Yq]
     rfl
    ·rw [he,Zp,if_neg (by simp),List.append_nil] at htf
     rw [Zp,sel_false]
     refine ⟨_,rfl,i+1,?_,hlt,by simp only;omega⟩
     simp only [htf]
     rfl
   ·rw [sel_neg (by simp;omega)]
    have:i=cs.length:=by omega
    subst this
    exact ⟨_,rfl,rfl⟩
  ·rintro _ rfl
   have hfl:(cs.filter fun d => !d.service.eqb ⟨x,y,z⟩).length≤20:=Yh (List.length_filter_le _ _) g1.1
   simp only [↓A0,List.take_of_length_le (Nat.le_refl cs.length),Wy]
   rw [sel_pos (Nat.beq_refl _)]
   by_cases h20:20≤(cs.filter fun d => !d.service.eqb ⟨x,y,z⟩).length
   ·rw [sel_pos (by simp;omega),if_pos h20];rfl
   ·rw [sel_neg (by simp;omega),if_neg h20]
    repeat rw [chk_of (by first | (simp [room,maxLen];omega) | (simp;omega))]
    simp [Yq,Vz]
 ·cases h
theorem w96:Walked Tryz.prog G 96 9 sp96:=by
 refine ⟨Tryz.f96,Tryz.func96,by decide +kernel,rfl,fun xs bl r h=> ?_⟩
 unfold sp96 at h
 split at h
 ·rename_i op ux uy uz kv rl tk sv ins bx
  obtain ⟨hpre,h2⟩:=chk_inv h;cases h2
  refine Eq.trans (b:=(let t1:List UInt8:=Kerb.header 9 false++Kerb.putN op 1 false;let t0:Nat:=Zx t1;Zw (chk (l63 ux&&l63 uy&&l63 uz&&l63 rl&&l63 sv&&l63 ins) (some (Zz .i64 (Xg (Wm (Xk op (Zq ux uy uz) kv rl tk sv ins bx))),[]))) (kI .i64 fun n=>sel (!n==0) (some (Zj [Zk [],Zz .i64 n],[])) (sel (op==2) (Zw (chk (decide (t0≤70368744177664)) (some (AV.ownB (t1++Kerb.putN kv 1 false),[]))) (kO fun l=>Zw (chk (decide (Zx l+Zx rl≤70368744177664)) (some (Zk (Up l rl),[]))) (kB fun b=>Zw (chk (decide (Zx b+Zx tk≤70368744170000)) (some (Zk (Vy b tk),[]))) (kB fun b=>Zw (chk (decide (Zx b+Zx sv≤70368744177664)) (some (Zk (Up b sv),[]))) (kB fun b=>Zw (chk (decide (Zx b+Zx ins≤70368744177664)) (some (Zk (Up b ins),[]))) (kB fun b=>Zw (chk (decide (Zx b+Zx bx≤70368744170000)) (some (Zk (Kerb.putBox b bx),[]))) (kB fun b=>some (Zj [Zk b,Zz .i64 0],[])))))))) (Zw (chk (decide (t0+Zx ux+Zx uy+Zx uz≤70368744170000)) (some (Zk (Kerb.putPrin t1 (Zq ux uy uz)),[]))) (kB fun b=>Zw (chk (decide (Zx b+Zx bx≤70368744170000)) (some (Zk (Kerb.putBox b bx),[]))) (kB fun b=>some (Zj [Zk b,Zz .i64 0],[])))))):Option (AV×Blocks))) (by kernel_rfl) ?_
  delta kB kO kI
  try dsimp only [cStr,cBs,cBool,cU8,cInt,cSl,l63]
  have hpre':=hpre
  simp only [Yw,decide_eq_true_eq] at hpre
  simp only [A0]
  rw [chk_of hpre']
  by_cases he:(Wm (Xk op ⟨ux,uy,uz⟩ kv rl tk sv ins bx)).err=0
  case neg =>
   rw [sel_pos (by simpa using he),Kerb.encKaReq_no he]
  rw [sel_neg (by simp [he]),he]
  have hl9:(Kerb.header 9 false).length=2:=rfl
  rcases Kerb.encKaReq_inv he with ⟨ho,v1,v2,v3,hk,ht,hb,hu,hv⟩ | ⟨ho,v1,hb,hk,hr,ht,hs,hn,hv⟩
  ·have l1:=Kerb.validRealm_len v1
   have l2:=Kerb.validName_len v2
   have l3:=Kerb.validInst_len v3
   simp only at ho l1 l2 l3 ht hb
   rw [sel_pos (by simpa using ho),hv]
   rw [chk_of (by simp [Yg,hl9]),chk_of (by simp [Yg,hl9];omega),chk_of (by simp [Yg,hl9,Kerb.putText_len];omega),chk_of (by simp [Yg,hl9,Kerb.putText_len,Vy];omega),chk_of (by simp [Yg,hl9,Kerb.putText_len,Vy];omega),chk_of (by simp [Yg,hl9,Kerb.putText_len,Vy];omega)]
   simp [Kerb.putBox,Up,Vy]
  ·have l1:=Kerb.valid_len v1
   simp only at ho l1 hb
   rw [sel_neg (by simp;omega),hv]
   rw [chk_of (by simp [Yg,hl9];omega),chk_of (by simp [Yg,hl9,Kerb.putPrin_len];omega)]
   simp [Kerb.putBox,Up,Kerb.putPrin]
 ·cases h
theorem w146:Walked Tryz.prog G 146 9 sp146:=by
 refine ⟨Tryz.f146,Tryz.func146,by decide +kernel,rfl,fun xs bl r h=> ?_⟩
 unfold sp146 at h
 split at h
 ·rename_i B at_ bad
  obtain ⟨hpre,h2⟩:=chk_inv h;cases h2
  show runFnH (G.env 146 9) G.rts (G.own 146) Tryz.f146 _ _ [0]=_
  refine Eq.trans (b:=(Zw (chk (decide (Zx B≤4611686018427387904)) (some (Zj [Zh [Zy (Zn (Kerb.GotP.val (Ux B at_))),Zy (Zm (Kerb.GotP.val (Ux B at_))),Zy (Zf (Kerb.GotP.val (Ux B at_)))],Zz .i64 (Kerb.GotP.next (Ux B at_)),Zz .i64 (Kerb.GotP.err (Ux B at_))],[]))) fun (r:AV×Blocks)=>onNilB (Yb r) (AV.onTup (Xw r) fun vs=>onCons vs fun x r=>Ym x fun cs=>onCons cs fun x r_1=>Ub x fun b=>onCons r_1 fun x r_2=>Ub x fun b_1=>onCons r_2 fun x r_3=>Ub x fun b_2=>onNil r_3 (onCons r fun x r=>Yj .i64 x fun n=>onCons r fun x r=>Yj .i64 x fun n_1=>onNil r (sel (!!(bad || !n_1==0)) (some (Zh [Zy [],Zy [],Zy []],[[Zk B,Zz .i64 (bif bad || !n_1==0 then at_ else n),Yx (bad || !n_1==0)]])) (some (Zh [Zy b,Zy b_1,Zy b_2],[[Zk B,Zz .i64 (bif bad || !n_1==0 then at_ else n),Yx (bad || !n_1==0)]]))))):Option (AV×Blocks))) (by kernel_rfl) ?_
  have hb:=of_decide_eq_true hpre
  simp only [A0]
  rw [chk_of (by simp;omega)]
  unfold Kerb.pPrin
  cases bad
  ·simp only [Bool.false_or]
   generalize hq:(!(_==(0:Int)))=q
   cases q<;>rfl
  ·rfl
 ·cases h
theorem w208:Walked Tryz.prog G 208 9 sp208:=by
 refine ⟨Tryz.f208,Tryz.func208,by decide +kernel,rfl,fun xs bl r h=> ?_⟩
 unfold sp208 at h
 split at h
 ·rename_i lb t k st en kv x y z tk
  obtain ⟨hpre,h2⟩:=chk_inv h;cases h2
  refine Eq.trans (b:=(Zw (chk (l63 x&&l63 y&&l63 z&&decide (0≤k)&&decide (k<18446744073709551616)) (some (Zz .i64 (Xg (Xq (Wz lb t k st en kv (Zq x y z) tk))),[]))) (kI .i64 fun n=>sel (!n==0) (some (Zj [Zk [],Zz .i64 n],[])) (Zw (chk (decide (Zx lb≤70368744177664)) (some (AV.ownB (lb++Kerb.putN t 4 false),[]))) (kO fun l=>sel (Vj lb) (Zw (chk (decide (0≤k)&&decide (k<18446744073709551616)) (some (Zk (Kerb.keyBytes k),[]))) (kB fun b=>chk (room (Zx l+Zx b) 1) (Zw (chk (decide (Zx (l++b)≤70368744177664)) (some (AV.ownB (l++b++Kerb.putN st 4 false),[]))) (kO fun l=>Zw (chk (decide (Zx l≤70368744177664)) (some (AV.ownB (l++Kerb.putN en 4 false),[]))) (kO fun l=>Zw (chk (decide (Zx l≤70368744177664)) (some (AV.ownB (l++Kerb.putN kv 1 false),[]))) (kO fun l=>Zw (chk (decide (Zx l+Zx x+Zx y+Zx z≤70368744170000)) (some (Zk (Kerb.putPrin l (Zq x y z)),[]))) (kB fun b=>Zw (chk (decide (Zx b+Zx tk≤70368744170000)) (some (Zk (Vy b tk),[]))) (kB fun b=>Zw (chk (decide (Zx b≤70368744177664)) (some (Zk (Kerb.pad b),[]))) (kB fun b=>some (Zj [Zk b,Zz .i64 0],[])))))))))) (Zw (chk (decide (Zx l≤70368744177664)) (some (Zk (Kerb.pad l),[]))) (kB fun b=>some (Zj [Zk b,Zz .i64 0],[])))))):Option (AV×Blocks))) (by kernel_rfl) ?_
  delta kB kO kI
  try dsimp only [cStr,cBs,cBool,cU8,cInt,cSl,l63]
  have hpre':=hpre
  simp only [Yw,decide_eq_true_eq] at hpre
  have hk:(decide (0≤k)&&decide (k<18446744073709551616))=true:=by simp;omega
  simp only [A0,hpre',hk]
  by_cases he:(Xq (Wz lb t k st en kv ⟨x,y,z⟩ tk)).err=0
  case neg=>rw [sel_pos (by simpa using he),Kerb.encKaAns_no he]
  rw [sel_neg (by simp [he]),he]
  obtain ⟨ht,⟨hl,hl4,hk2,hs,hen,hv,hp,hx,hb⟩ | ⟨hl,hk2,hs,hen,hv,hp,hx,hb⟩⟩:=Kerb.encKaAns_inv he
  ·have l1:=Kerb.valid_len hp
   simp only at hl hl4 l1 hx
   rw [hb,chk_of (by simp;omega),sel_pos hl]
   rw [chk_of (Kerb.room_ok (by simp [Yg,Wu];omega)),chk_of (by simp [Yg,Wu];omega),chk_of (by simp [Yg,Wu];omega),chk_of (by simp [Yg,Wu];omega),chk_of (by simp [Yg,Wu];omega),chk_of (by simp [Yg,Wu,Kerb.putPrin_len];omega),chk_of (by simp [Yg,Wu,Kerb.putPrin_len,Vy];omega)]
   simp [Vy,Kerb.putPrin,Up]
  ·simp only at hl
   have hl4:lb.length=4:=by rw [hl];rfl
   have hnt:Vj lb=false:=by rw [hl];decide
   rw [hb,chk_of (by simp;omega),sel_neg hnt,chk_of (by simp [Yg];omega)]
 ·cases h
theorem w43:Walked Tryz.prog G 43 10 sp43:=by
 refine ⟨Tryz.f43,Tryz.func43,by decide +kernel,rfl,fun xs bl r h=> ?_⟩
 unfold sp43 at h
 split at h
 ·rename_i op ux uy uz kv rl tk sv ins bx slb sst sss sse sk key
  obtain ⟨hpre,h2⟩:=chk_inv h;cases h2
  refine Eq.trans (b:=(Zw (chk (decide (0≤sk)&&decide (sk<18446744073709551616)) (some (Zj [Zk (Wj (Uj (Uk slb sst sss sse sk))),Zz .i64 (Xg (Uj (Uk slb sst sss sse sk)))],[]))) (kT fun vs=>cBs vs fun b r=>cInt .i64 r fun n r=>onNil r (sel (!n==0) (some (Zj [Zk [],Zz .i64 n],[])) (Zw (chk (decide (0≤key)&&decide (key<18446744073709551616)) (some (Zj [Zk (Wj (Kerb.makeBox 7 key b)),Zz .i64 (Xg (Kerb.makeBox 7 key b))],[]))) (kT fun vs=>cBs vs fun b r=>cInt .i64 r fun n r=>onNil r (sel (!n==0) (some (Zj [Zk [],Zz .i64 n],[])) (Zw (chk (l63 ux&&l63 uy&&l63 uz&&l63 rl&&l63 sv&&l63 ins) (some (Zj [Zk (Wj (Wm (Xk op (Zq ux uy uz) kv rl tk sv ins b))),Zz .i64 (Xg (Wm (Xk op (Zq ux uy uz) kv rl tk sv ins b)))],[]))) (kT fun vs=>cBs vs fun b r=>cInt .i64 r fun n r=>onNil r (some (Zj [Zk b,Zz .i64 n],[]))))))))):Option (AV×Blocks))) (by kernel_rfl) ?_
  delta kT
  try dsimp only [cStr,cBs,cBool,cU8,cInt,cSl,l63]
  simp only [Yw,decide_eq_true_eq] at hpre
  unfold Wk
  simp only [hpre,decide_true,Yf,↓A0,A0]
  by_cases h1:(Uj ⟨slb,sst,sss,sse,sk⟩).err=0
  case neg=>rw [sel_pos (by simpa using h1),if_pos h1]
  rw [sel_neg (by simpa using h1),if_neg (by simpa using h1)]
  by_cases h2:(Kerb.makeBox 7 key (Uj ⟨slb,sst,sss,sse,sk⟩).val).err=0
  case neg=>rw [sel_pos (by simpa using h2),if_pos h2]
  rw [sel_neg (by simpa using h2),if_neg (by simpa using h2)]
 ·cases h
theorem w123:Walked Tryz.prog G 123 10 sp123:=by
 refine ⟨Tryz.f123,Tryz.func123,by decide +kernel,rfl,fun xs bl r h=> ?_⟩
 unfold sp123 at h
 split at h
 ·rename_i b
  obtain ⟨hpre,h2⟩:=chk_inv h;cases h2
  refine Eq.trans (b:=(let t1:List AV:=[Zz .u64 0,Zz .i64 0,Zz .i64 0,Zz .i64 0,Zy [],Zy [],Zy [],Zk []];let t0:Option (AV×Blocks):=some (Zj [Zh (Zy []::Zz .i64 0::t1),Zz .i64 100],[]);Zw (chk (decide (Zx b≤140737488355328)) (some (Zk (Xh (Uu b 4 0 false)),[[Zk b,Zz .i64 (Wf (Uu b 4 0 false)),Yx (Wg (Uu b 4 0 false))]]))) fun (r:AV×Blocks)=>onConsB (Yb r) fun (x:List AV) (r_1:List (List AV))=>cBs x fun b_1 r_2=>cInt .i64 r_2 fun n r_3=>cBool r_3 fun b_2 r_4=>onNil r_4 (onNilB r_1 (AV.onBs (Xw r) fun b_3=>Zw (chk (decide (Zx b_1≤140737488355328)) (some (Zz .i64 (Xh (Xn b_1 4 n b_2)),[[Zk b_1,Zz .i64 (Wf (Xn b_1 4 n b_2)),Yx (Wg (Xn b_1 4 n b_2))]]))) fun (r:AV×Blocks)=>onConsB (Yb r) fun (x:List AV) (r_5:List (List AV))=>cBs x fun b_4 r_6=>cInt .i64 r_6 fun n r_7=>cBool r_7 fun b_5 r_8=>onNil r_8 (onNilB r_5 (Yj .i64 (Xw r) fun n_1=>let t2:Kerb.Enc:=Xq (Wz b_3 n_1 0 0 0 0 (Zq [] [] []) []);sel (Vj b_3) (Zw (chk (decide (Zx b_4≤140737488355328)) (some (Zz .u64 (Xh (Kerb.pKey b_4 n b_5)),[[Zk b_4,Zz .i64 (Wf (Kerb.pKey b_4 n b_5)),Yx (Wg (Kerb.pKey b_4 n b_5))]]))) fun (r:AV×Blocks)=>onConsB (Yb r) fun (x:List AV) (r_9:List (List AV))=>cBs x fun b_6 r_10=>cInt .i64 r_10 fun n r_11=>cBool r_11 fun b_7 r_12=>onNil r_12 (onNilB r_9 (Yj .u64 (Xw r) fun n_2=>Zw (chk (decide (Zx b_6≤140737488355328)) (some (Zz .i64 (Xh (Xn b_6 4 n b_7)),[[Zk b_6,Zz .i64 (Wf (Xn b_6 4 n b_7)),Yx (Wg (Xn b_6 4 n b_7))]]))) fun (r:AV×Blocks)=>onConsB (Yb r) fun (x:List AV) (r_13:List (List AV))=>cBs x fun b_8 r_14=>cInt .i64 r_14 fun n r_15=>cBool r_15 fun b_9 r_16=>onNil r_16 (onNilB r_13 (Yj .i64 (Xw r) fun n_3=>Zw (chk (decide (Zx b_8≤140737488355328)) (some (Zz .i64 (Xh (Xn b_8 4 n b_9)),[[Zk b_8,Zz .i64 (Wf (Xn b_8 4 n b_9)),Yx (Wg (Xn b_8 4 n b_9))]]))) fun (r:AV×Blocks)=>onConsB (Yb r) fun (x:List AV) (r_17:List (List AV))=>cBs x fun b_10 r_18=>cInt .i64 r_18 fun n r_19=>cBool r_19 fun b_11 r_20=>onNil r_20 (onNilB r_17 (Yj .i64 (Xw r) fun n_4=>Zw (chk (decide (Zx b_10≤140737488355328)) (some (Zz .i64 (Xh (Xn b_10 1 n b_11)),[[Zk b_10,Zz .i64 (Wf (Xn b_10 1 n b_11)),Yx (Wg (Xn b_10 1 n b_11))]]))) fun (r:AV×Blocks)=>onConsB (Yb r) fun (x:List AV) (r_21:List (List AV))=>cBs x fun b_12 r_22=>cInt .i64 r_22 fun n r_23=>cBool r_23 fun b_13 r_24=>onNil r_24 (onNilB r_21 (Yj .i64 (Xw r) fun n_5=>Zw (chk (decide (Zx b_12≤140737488355328)) (some (Zh [Zy (Zn (Xh (Kerb.pPrin b_12 n b_13))),Zy (Zm (Xh (Kerb.pPrin b_12 n b_13))),Zy (Zf (Xh (Kerb.pPrin b_12 n b_13)))],[[Zk b_12,Zz .i64 (Wf (Kerb.pPrin b_12 n b_13)),Yx (Wg (Kerb.pPrin b_12 n b_13))]]))) fun (r:AV×Blocks)=>onConsB (Yb r) fun (x:List AV) (r_25:List (List AV))=>cBs x fun b_14 r_26=>cInt .i64 r_26 fun n r_27=>cBool r_27 fun b_15 r_28=>onNil r_28 (onNilB r_25 (Ym (Xw r) fun cs=>cStr cs fun b_16 r=>cStr r fun b_17 r=>cStr r fun b_18 r=>onNil r (Zw (chk (decide (Zx b_14≤140737488355328)) (some (Zz .i64 (Xh (Xn b_14 1 n b_15)),[[Zk b_14,Zz .i64 (Wf (Xn b_14 1 n b_15)),Yx (Wg (Xn b_14 1 n b_15))]]))) fun (r:AV×Blocks)=>onConsB (Yb r) fun (x:List AV) (r_29:List (List AV))=>cBs x fun b_19 r_30=>cInt .i64 r_30 fun n r_31=>cBool r_31 fun b_20 r_32=>onNil r_32 (onNilB r_29 (Yj .i64 (Xw r) fun n_6=>Zw (chk (decide (Zx b_19≤140737488355328)) (some (Zk (Xh (Uu b_19 n_6 n b_20)),[[Zk b_19,Zz .i64 (Wf (Uu b_19 n_6 n b_20)),Yx (Wg (Uu b_19 n_6 n b_20))]]))) fun (r:AV×Blocks)=>onConsB (Yb r) fun (x:List AV) (r_33:List (List AV))=>cBs x fun b_21 r_34=>cInt .i64 r_34 fun n r_35=>cBool r_35 fun b_22 r_36=>onNil r_36 (onNilB r_33 (AV.onBs (Xw r) fun b_23=>sel b_22 t0 (Zw (chk (l63 b_16&&l63 b_17&&l63 b_18&&decide (0≤n_2)&&decide (n_2<18446744073709551616)) (some (Zj [Zk (Wj (Xq (Wz b_3 n_1 n_2 n_3 n_4 n_5 (Zq b_16 b_17 b_18) b_23))),Zz .i64 (Xg (Xq (Wz b_3 n_1 n_2 n_3 n_4 n_5 (Zq b_16 b_17 b_18) b_23)))],[]))) (kT fun vs=>cBs vs fun b_24 r=>cInt .i64 r fun n r=>onNil r (sel (!n==0) t0 (sel (!b_24==b) t0 (some (Zj [Zh [Zy b_3,Zz .i64 n_1,Zz .u64 n_2,Zz .i64 n_3,Zz .i64 n_4,Zz .i64 n_5,Zy b_16,Zy b_17,Zy b_18,Zk b_23],Zz .i64 0],[])))))))))))))))))))))) (sel b_5 t0 (sel (!Xg t2==0) t0 (sel (!Wj t2==b) t0 (some (Zj [Zh (Zy b_3::Zz .i64 n_1::t1),Zz .i64 0],[]))))))))):Option (AV×Blocks))) (by kernel_rfl) ?_
  delta kT
  try dsimp only [cStr,cBs,cBool,cU8,cInt,cSl,l63]
  have hb:=of_decide_eq_true hpre
  simp only [A0,hpre]
  cases ht:Vj (Uu b 4 0 false).val
  ·rw [sel_false]
   exact Kerb.decBy_fin (no:=Kerb.noKaAnswer) (enc:=Xq) (rd:=Kerb.readKaAns) _ _ (by unfold Kerb.readKaAns Kerb.pAns;dsimp only;rw [ht];rfl) (fun x e=>(Zj [Zh [Zy (x).label,Zz Zu (x).time,Zz IntKind.u64 (x).session,Zz Zu (x).start,Zz Zu (x).stop,Zz Zu (x).kvno,Zy (x).service.name,Zy (x).service.inst,Zy (x).service.realm,Zk (x).ticket],Zz Zu e],([]:Blocks)))
  ·have hk:∀ p q,0≤(Kerb.pKey b p q).val∧(Kerb.pKey b p q).val<18446744073709551616:=Kerb.pKey_bd b
   have lp:=Kerb.pPrin_len b
   rw [sel_true,chk_of (by simp only [Yw,decide_eq_true_eq];exact ⟨⟨⟨⟨Yh (lp _ _).1 (by omega),Yh (lp _ _).2.1 (by omega)⟩,Yh (lp _ _).2.2 (by omega)⟩,(hk _ _).1⟩,(hk _ _).2⟩)]
   exact Kerb.decBy_fin (no:=Kerb.noKaAnswer) (enc:=Xq) (rd:=Kerb.readKaAns) _ _ (by unfold Kerb.readKaAns Kerb.pAns;dsimp only;rw [ht];rfl) (fun x e=>(Zj [Zh [Zy (x).label,Zz Zu (x).time,Zz IntKind.u64 (x).session,Zz Zu (x).start,Zz Zu (x).stop,Zz Zu (x).kvno,Zy (x).service.name,Zy (x).service.inst,Zy (x).service.realm,Zk (x).ticket],Zz Zu e],([]:Blocks)))
 ·cases h
theorem w14:Walked Tryz.prog G 14 11 sp14:=by
 refine ⟨Tryz.f14,Tryz.func14,by decide +kernel,rfl,fun xs bl r h=> ?_⟩
 unfold sp14 at h
 split at h
 ·rename_i m1 m2 m3 ad sk li o1 o2 o3 els wt w1 w2 w3 se tm lf cs tc k life now
  obtain ⟨hpre,h2⟩:=chk_inv h;cases h2
  refine Eq.trans (b:=(let t0:AV:=Zh [Zz .i64 0,Zz .i64 0,Zz .i64 0,Zz .i64 0,Zy [],Zy [],Zy [],Zz .u64 0,Zz .u64 0];let t1:Kerb.Enc:=Wk (Xk 1 (Zq m1 m2 m3) 0 [] [] [] [] []) (Uk [(103:UInt8),(84:UInt8),(71:UInt8),(83:UInt8)] now now (Wb now life) 0) k;let t2:Bool:=l63 m1&&l63 m2&&l63 m3;Zw (chk (t2&&l63 o1&&l63 o2&&l63 o3&&Xp els Xb&&decide (Zx els≤1000000)) (some (Zz .i64 (Wq (Wx (Zq m1 m2 m3) ad sk li (Vb (Zq o1 o2 o3) (Yd Ww els)) wt (Zq w1 w2 w3) se tm lf cs tc)),[]))) (kI .i64 fun n=>sel (!n==0) (some (Zj [t0,Zk [],Zz .i64 108],[])) (sel (!Zb now 4294967295) (some (Zj [t0,Zk [],Zz .i64 104],[])) (sel (!Zb life 255) (some (Zj [t0,Zk [],Zz .i64 104],[])) (Zw (chk (decide (0≤k)&&decide (k<18446744073709551616)) (some (Yx (Uw k),[]))) (kL fun b=>sel (!b) (some (Zj [t0,Zk [],Zz .i64 10],[])) (Zw (chk (t2&&true&&true&&true&&true&&true&&decide (0≤k)&&decide (k<18446744073709551616)) (some (Zj [Zk (Wj t1),Zz .i64 (Xg t1)],[]))) (kT fun vs=>cBs vs fun b r=>cInt .i64 r fun n r=>onNil r (sel (!n==0) (some (Zj [t0,Zk [],Zz .i64 n],[])) (some (Zj [Zh [Zz .i64 1,Zz .i64 now,Zz .i64 now,Zz .i64 (Wb now life),Zy [(107:UInt8),(114:UInt8),(98:UInt8),(116:UInt8),(103:UInt8),(116:UInt8)],Zy m3,Zy m3,Zz .u64 0,Zz .u64 0],Zk b,Zz .i64 0],[])))))))))):Option (AV×Blocks))) (by kernel_rfl) ?_
  delta kT kL kI
  try dsimp only [cStr,cBs,cBool,cU8,cInt,cSl,l63]
  simp only [Yw,decide_eq_true_eq] at hpre
  obtain ⟨z,hz⟩:∃ z,Wq (Wx ⟨m1,m2,m3⟩ ad sk li ⟨⟨o1,o2,o3⟩,els.map Ww⟩ wt ⟨w1,w2,w3⟩ se tm lf cs tc)=z:=⟨_,rfl⟩
  unfold Kerb.kaAuth
  rw [hz]
  simp only [hpre,hz,decide_true,Yf,↓A0,A0]
  by_cases h1:z=0
  case neg=>rw [sel_pos (by simpa using h1),if_pos h1];rfl
  rw [sel_neg (by simpa using h1),if_neg (by simpa using h1)]
  cases h2:Zb now 4294967295
  ·rfl
  cases h3:Zb life 255
  ·rfl
  cases h4:Uw k
  ·rfl
  simp only [Zp,↓A0,A0,Yf,Bool.false_eq_true,if_false]
  have hs:Wk ⟨1,⟨m1,m2,m3⟩,0,[],[],[],[],[]⟩ ⟨[103,84,71,83],now,now,Wb now life,0⟩ k=Wk ⟨1,⟨m1,m2,m3⟩,0,[],[],[],[],[]⟩ ⟨Kerb.lGet,now,now,Wb now life,0⟩ k:=rfl
  rw [hs]
  by_cases h5:(Wk ⟨1,⟨m1,m2,m3⟩,0,[],[],[],[],[]⟩ ⟨Kerb.lGet,now,now,Wb now life,0⟩ k).err=0
  case neg=>rw [sel_pos (by simpa using h5),if_pos h5];rfl
  rw [sel_neg (by simpa using h5),if_neg (by simpa using h5)]
  rfl
 ·cases h
theorem w19:Walked Tryz.prog G 19 11 sp19:=by
 refine ⟨Tryz.f19,Tryz.func19,by decide +kernel,rfl,fun xs bl r h=> ?_⟩
 unfold sp19 at h
 split at h
 ·rename_i m1 m2 m3 ad sk li o1 o2 o3 els wt w1 w2 w3 se tm lf cs tc x y z life now
  obtain ⟨hpre,h2⟩:=chk_inv h;cases h2
  refine Eq.trans (b:=(let t0:AV:=Zh [Zz .i64 0,Zz .i64 0,Zz .i64 0,Zz .i64 0,Zy [],Zy [],Zy [],Zz .u64 0,Zz .u64 0];let t2:Kerb.Dec Kerb.Cred:=Kerb.liveCred (Yd Ww els) (Zq [(107:UInt8),(114:UInt8),(98:UInt8),(116:UInt8),(103:UInt8),(116:UInt8)] m3 m3) now;let t3:Kerb.KaSecret:=Uk [(103:UInt8),(84:UInt8),(75:UInt8),(84:UInt8)] now now (Wb now life) 0;let t1:Kerb.Cred:=Zv t2;Zw (chk (l63 m1&&l63 m2&&l63 m3&&l63 o1&&l63 o2&&l63 o3&&Xp els Xb&&decide (Zx els≤1000000)) (some (Zz .i64 (Wq (Wx (Zq m1 m2 m3) ad sk li (Vb (Zq o1 o2 o3) (Yd Ww els)) wt (Zq w1 w2 w3) se tm lf cs tc)),[]))) (kI .i64 fun n=>sel (!n==0) (some (Zj [t0,Zk [],Zz .i64 108],[])) (Zw (chk (l63 x&&l63 y&&l63 z) (some (Yx (Yp (Zq x y z)),[]))) (kL fun b=>sel (!b) (some (Zj [t0,Zk [],Zz .i64 103],[])) (sel (!z==m3) (some (Zj [t0,Zk [],Zz .i64 103],[])) (sel (!Zb now 4294967295) (some (Zj [t0,Zk [],Zz .i64 104],[])) (sel (!Zb life 255) (some (Zj [t0,Zk [],Zz .i64 104],[])) (Zw (chk (Xp els Xb&&decide (Zx els≤1000000)&&Xp els Kerb.fitCred) (some (Zj [Zh [Zy (Zn (Kerb.Cred.service t1)),Zy (Zm (Kerb.Cred.service t1)),Zy (Zf (Kerb.Cred.service t1)),Zz .u64 (Kerb.Cred.session t1),Zz .i64 (Kerb.Cred.life t1),Zz .i64 (Kerb.Cred.kvno t1),Zz .i64 (Kerb.Cred.issued t1),Zk (Kerb.Cred.ticket t1)],Zz .i64 (Xm t2)],[]))) (kT fun vs=>onCons vs fun x_1 r=>Ym x_1 fun cs=>onCons cs fun x_2 r_1=>Ub x_2 fun b=>onCons r_1 fun x_3 r_2=>Ub x_3 fun b=>onCons r_2 fun x_4 r_3=>Ub x_4 fun b=>onCons r_3 fun x_5 r_4=>Yj .u64 x_5 fun n=>onCons r_4 fun x_6 r_5=>Yj .i64 x_6 fun n_1=>onCons r_5 fun x_7 r_6=>Yj .i64 x_7 fun n_2=>onCons r_6 fun x_8 r_7=>Yj .i64 x_8 fun n_3=>onCons r_7 fun x_9 r_8=>AV.onBs x_9 fun b=>onNil r_8 (onCons r fun x_10 r=>Yj .i64 x_10 fun n_4=>onNil r (sel (!n_4==0) (some (Zj [t0,Zk [],Zz .i64 n_4],[])) (Zw (chk (l63 m3&&l63 x&&l63 y&&true&&true&&decide (0≤n)&&decide (n<18446744073709551616)) (some (Zj [Zk (Wj (Wk (Xk 2 (Zq [] [] []) n_2 m3 b x y []) t3 n)),Zz .i64 (Xg (Wk (Xk 2 (Zq [] [] []) n_2 m3 b x y []) t3 n))],[]))) (kT fun vs=>onCons vs fun x_11 r=>AV.onBs x_11 fun b=>onCons r fun x_12 r=>Yj .i64 x_12 fun n_5=>onNil r (sel (!n_5==0) (some (Zj [t0,Zk [],Zz .i64 n_5],[])) (some (Zj [Zh [Zz .i64 2,Zz .i64 now,Zz .i64 now,Zz .i64 (Wb now life),Zy x,Zy y,Zy z,Zz .u64 n,Zz .u64 0],Zk b,Zz .i64 0],[]))))))))))))))):Option (AV×Blocks))) (by kernel_rfl) ?_
  delta kT kL kI
  try dsimp only [cStr,cBs,cBool,cU8,cInt,cSl,l63]
  simp only [Yw,decide_eq_true_eq] at hpre
  obtain ⟨⟨⟨⟨⟨⟨⟨⟨⟨⟨q1,q2⟩,q3⟩,q4⟩,q5⟩,q6⟩,hall⟩,hlen⟩,p1⟩,p2⟩,p3⟩:=hpre
  obtain ⟨ds,rfl,hok⟩:=Kerb.creds_of hall
  simp only [Vd]
  obtain ⟨z0,hz⟩:∃ z,Wq (Wx ⟨m1,m2,m3⟩ ad sk li ⟨⟨o1,o2,o3⟩,ds⟩ wt ⟨w1,w2,w3⟩ se tm lf cs tc)=z:=⟨_,rfl⟩
  unfold Kerb.kaTicket
  rw [hz]
  simp only [hall,hlen,q1,q2,q3,q4,q5,q6,p1,p2,p3,hz,decide_true,Yf,↓A0,A0]
  by_cases h1:z0=0
  case neg=>rw [sel_pos (by simpa using h1),if_pos h1];rfl
  rw [sel_neg (by simpa using h1),if_neg (by simpa using h1)]
  have hf:=Kerb.client_fit (c:=(Wx ⟨m1,m2,m3⟩ ad sk li ⟨⟨o1,o2,o3⟩,ds⟩ wt ⟨w1,w2,w3⟩ se tm lf cs tc)) (by rw [hz,h1])
  simp only at hf
  cases h2:Yp ⟨x,y,z⟩
  ·rfl
  by_cases h3:z=m3
  case neg=>rw [Zp,sel_false,sel_pos (by simpa using h3),if_pos (by simp [h3])];rfl
  rw [Zp,sel_false,sel_neg (by simpa using h3),if_neg (by simp [h3])]
  cases h4:Zb now 4294967295
  ·rfl
  cases h5:Zb life 255
  ·rfl
  have hx:=Kerb.live_ok hok ⟨[107,114,98,116,103,116],m3,m3⟩ now
  have ht:Kerb.tgs m3 m3=⟨[107,114,98,116,103,116],m3,m3⟩:=rfl
  rw [ht]
  obtain ⟨X,hX⟩:∃ X,Kerb.liveCred ds ⟨[107,114,98,116,103,116],m3,m3⟩ now=X:=⟨_,rfl⟩
  rw [hX] at hx
  obtain ⟨_,_,_,k0,k1,_⟩:=hx
  simp only [Zp,hf,hX,k0,k1,decide_true,↓A0,A0,Yf,Bool.false_eq_true,if_false]
  by_cases h6:X.err=0
  case neg=>rw [sel_pos (by simpa using h6),if_pos h6];rfl
  rw [sel_neg (by simpa using h6),if_neg (by simpa using h6)]
  have hs:Wk ⟨2,⟨[],[],[]⟩,X.val.kvno,m3,X.val.ticket,x,y,[]⟩ ⟨[103,84,75,84],now,now,Wb now life,0⟩ X.val.session=Wk ⟨2,Uq,X.val.kvno,m3,X.val.ticket,x,y,[]⟩ ⟨Kerb.lTicket,now,now,Wb now life,0⟩ X.val.session:=rfl
  rw [hs]
  by_cases h7:(Wk ⟨2,Uq,X.val.kvno,m3,X.val.ticket,x,y,[]⟩ ⟨Kerb.lTicket,now,now,Wb now life,0⟩ X.val.session).err=0
  case neg=>rw [sel_pos (by simpa using h7),if_pos h7];rfl
  rw [sel_neg (by simpa using h7),if_neg (by simpa using h7)]
  try rfl
 ·cases h
theorem w53:Walked Tryz.prog G 53 11 sp53:=by
 refine ⟨Tryz.f53,Tryz.func53,by decide +kernel,rfl,fun xs bl r h=> ?_⟩
 unfold sp53 at h
 split at h
 ·rename_i vop vtm vst ven v1 v2 v3 vse vne k b
  obtain ⟨hpre,h2⟩:=chk_inv h;cases h2
  refine Eq.trans (b:=(let t2:AV:=Zh [Zy [],Zz .i64 0,Zz .u64 0,Zz .i64 0,Zz .i64 0,Zz .i64 0,Zy [],Zy [],Zy [],Zk []];let t0:Option (AV×Blocks):=some (Zj [t2,Zz .i64 63],[]);let t1:Option (AV×Blocks):=some (Zj [t2,Zz .i64 62],[]);sel (vop==2) (Zw (chk (decide (Zx b≤140737488355328)) (some (Zj [Zk (Xw (Xd b 8 vse)),Yx (Yb (Xd b 8 vse))],[]))) (kT fun vs=>cBs vs fun b r=>cBool r fun b_1 r=>onNil r (sel (!b_1) t1 (Zw (chk (decide (Zx b≤140737488355328)) (some (Zj [Zh [Zy (Kerb.KaAnswer.label (Zv (Zd b))),Zz .i64 (Kerb.KaAnswer.time (Zv (Zd b))),Zz .u64 (Ug (Zv (Zd b))),Zz .i64 (Kerb.KaAnswer.start (Zv (Zd b))),Zz .i64 (Kerb.KaAnswer.stop (Zv (Zd b))),Zz .i64 (Kerb.KaAnswer.kvno (Zv (Zd b))),Zy (Zn (Yn (Zv (Zd b)))),Zy (Zm (Yn (Zv (Zd b)))),Zy (Zf (Yn (Zv (Zd b)))),Zk (Un (Zv (Zd b)))],Zz .i64 (Xm (Zd b))],[]))) (kT fun vs=>onCons vs fun x r=>Ym x fun cs=>cStr cs fun b r_1=>cInt .i64 r_1 fun n r_2=>cInt .u64 r_2 fun n_1 r_3=>cInt .i64 r_3 fun n_2 r_4=>cInt .i64 r_4 fun n_3 r_5=>cInt .i64 r_5 fun n_4 r_6=>cStr r_6 fun b_2 r_7=>cStr r_7 fun b_3 r_8=>cStr r_8 fun b_4 r_9=>cBs r_9 fun b_5 r_10=>onNil r_10 (cInt .i64 r fun n_5 r=>onNil r (sel (!n_5==0) t0 (sel (!b==Kerb.kaLabel vop) t0 (sel (!n==Xz .i64 (Xz .u32 (Xz .u32 vtm+1))) t0 (sel (!(b_2==v1&&(b_3==v2&&b_4==v3))) t0 (some (Zj [Zh [Zy b,Zz .i64 n,Zz .u64 n_1,Zz .i64 n_2,Zz .i64 n_3,Zz .i64 n_4,Zy b_2,Zy b_3,Zy b_4,Zk b_5],Zz .i64 0],[])))))))))))) (Zw (chk (decide (Zx b≤140737488355328)) (some (Zj [Zk (Xw (Xd b 8 k)),Yx (Yb (Xd b 8 k))],[]))) (kT fun vs=>cBs vs fun b r=>cBool r fun b_1 r=>onNil r (sel (!b_1) t1 (Zw (chk (decide (Zx b≤140737488355328)) (some (Zj [Zh [Zy (Kerb.KaAnswer.label (Zv (Zd b))),Zz .i64 (Kerb.KaAnswer.time (Zv (Zd b))),Zz .u64 (Ug (Zv (Zd b))),Zz .i64 (Kerb.KaAnswer.start (Zv (Zd b))),Zz .i64 (Kerb.KaAnswer.stop (Zv (Zd b))),Zz .i64 (Kerb.KaAnswer.kvno (Zv (Zd b))),Zy (Zn (Yn (Zv (Zd b)))),Zy (Zm (Yn (Zv (Zd b)))),Zy (Zf (Yn (Zv (Zd b)))),Zk (Un (Zv (Zd b)))],Zz .i64 (Xm (Zd b))],[]))) (kT fun vs=>onCons vs fun x r=>Ym x fun cs=>cStr cs fun b r_1=>cInt .i64 r_1 fun n r_2=>cInt .u64 r_2 fun n_1 r_3=>cInt .i64 r_3 fun n_2 r_4=>cInt .i64 r_4 fun n_3 r_5=>cInt .i64 r_5 fun n_4 r_6=>cStr r_6 fun b_2 r_7=>cStr r_7 fun b_3 r_8=>cStr r_8 fun b_4 r_9=>cBs r_9 fun b_5 r_10=>onNil r_10 (cInt .i64 r fun n_5 r=>onNil r (sel (!n_5==0) t0 (sel (!b==Kerb.kaLabel vop) t0 (sel (!n==Xz .i64 (Xz .u32 (Xz .u32 vtm+1))) t0 (sel (!(b_2==v1&&(b_3==v2&&b_4==v3))) t0 (some (Zj [Zh [Zy b,Zz .i64 n,Zz .u64 n_1,Zz .i64 n_2,Zz .i64 n_3,Zz .i64 n_4,Zy b_2,Zy b_3,Zy b_4,Zk b_5],Zz .i64 0],[])))))))))))):Option (AV×Blocks))) (by kernel_rfl) ?_
  delta kT
  try dsimp only [cStr,cBs,cBool,cU8,cInt,cSl,l63]
  simp only [decide_eq_true_eq] at hpre
  by_cases hv:vop=2
  ·rw [sel_pos (by simpa using hv)]
   have hk:Kerb.kaKey (Uv vop vtm vst ven ⟨v1,v2,v3⟩ vse vne) k=vse:=if_pos hv
   obtain ⟨O,hO⟩:∃ O,Xd b 8 vse=O:=⟨_,rfl⟩
   have hol:=Kerb.openBox_len b 8 vse
   rw [hO] at hol
   obtain ⟨A,hA⟩:∃ A,Zd O.1=A:=⟨_,rfl⟩
   unfold Xj
   rw [hk,hO,hA]
   have l1:O.1.length≤140737488355328:=by omega
   simp only [hpre,hO,hA,l1,decide_true,↓A0,A0,Kerb.kaNext_prog]
   cases h1:O.2
   ·rw [if_pos rfl];rfl
   rw [Zp,sel_false,if_neg (by simp)]
   unfold Kerb.kaFits
   by_cases h2:A.err=0
   case neg=>rw [sel_pos (by simpa using h2),if_pos (by simp [h2])];rfl
   rw [sel_neg (by simpa using h2)]
   by_cases h3:A.val.label=Kerb.kaLabel vop
   case neg=>rw [sel_pos (by simpa using h3),if_pos (by simp [h3])];rfl
   rw [sel_neg (by simpa using h3)]
   by_cases h4:A.val.time=Kerb.kaNext vtm
   case neg=>rw [sel_pos (by simpa using h4),if_pos (by simp [h4])];rfl
   rw [sel_neg (by simpa using h4)]
   have h6:A.val.service.eqb ⟨v1,v2,v3⟩=(A.val.service.name==v1&&(A.val.service.inst==v2&&A.val.service.realm==v3)):=rfl
   simp only [h6,h2,h3,h4,beq_self_eq_true,Bool.true_and]
   cases h5:(A.val.service.name==v1&&(A.val.service.inst==v2&&A.val.service.realm==v3))
   ·rw [if_pos rfl];rfl
   rw [Zp,sel_false,if_neg (by simp)]
   try rfl
   try rw [h3,h4]
  ·rw [sel_neg (by simpa using hv)]
   have hk:Kerb.kaKey (Uv vop vtm vst ven ⟨v1,v2,v3⟩ vse vne) k=k:=if_neg hv
   obtain ⟨O,hO⟩:∃ O,Xd b 8 k=O:=⟨_,rfl⟩
   have hol:=Kerb.openBox_len b 8 k
   rw [hO] at hol
   obtain ⟨A,hA⟩:∃ A,Zd O.1=A:=⟨_,rfl⟩
   unfold Xj
   rw [hk,hO,hA]
   have l1:O.1.length≤140737488355328:=by omega
   simp only [hpre,hO,hA,l1,decide_true,↓A0,A0,Kerb.kaNext_prog]
   cases h1:O.2
   ·rw [if_pos rfl];rfl
   rw [Zp,sel_false,if_neg (by simp)]
   unfold Kerb.kaFits
   by_cases h2:A.err=0
   case neg=>rw [sel_pos (by simpa using h2),if_pos (by simp [h2])];rfl
   rw [sel_neg (by simpa using h2)]
   by_cases h3:A.val.label=Kerb.kaLabel vop
   case neg=>rw [sel_pos (by simpa using h3),if_pos (by simp [h3])];rfl
   rw [sel_neg (by simpa using h3)]
   by_cases h4:A.val.time=Kerb.kaNext vtm
   case neg=>rw [sel_pos (by simpa using h4),if_pos (by simp [h4])];rfl
   rw [sel_neg (by simpa using h4)]
   have h6:A.val.service.eqb ⟨v1,v2,v3⟩=(A.val.service.name==v1&&(A.val.service.inst==v2&&A.val.service.realm==v3)):=rfl
   simp only [h6,h2,h3,h4,beq_self_eq_true,Bool.true_and]
   cases h5:(A.val.service.name==v1&&(A.val.service.inst==v2&&A.val.service.realm==v3))
   ·rw [if_pos rfl];rfl
   rw [Zp,sel_false,if_neg (by simp)]
   try rfl
   try rw [h3,h4]
 ·cases h
theorem w17:Walked Tryz.prog G 17 12 sp17:=by
 refine ⟨Tryz.f17,Tryz.func17,by decide +kernel,rfl,fun xs bl r h=> ?_⟩
 unfold sp17 at h
 split at h
 ·rename_i m1 m2 m3 ad sk li o1 o2 o3 els wt w1 w2 w3 se tm lf cs tc vop vtm vst ven v1 v2 v3 vse vne k msg
  obtain ⟨hpre,h2⟩:=chk_inv h;cases h2
  refine Eq.trans (b:=(let t1:AV:=Zh [Zy [],Zy [],Zy [],Zz .u64 0,Zz .i64 0,Zz .i64 0,Zz .i64 0,Zk []];let t2:AV:=Zh [Zz .i64 vop,Zz .i64 vtm,Zz .i64 vst,Zz .i64 ven,Zy v1,Zy v2,Zy v3,Zz .u64 vse,Zz .u64 vne];let t3:Kerb.KaWait:=Uv vop vtm vst ven (Zq v1 v2 v3) vse vne;let t4:AV:=Zh [Zz .i64 0,Zz .i64 0,Zz .i64 0,Zz .i64 0,Zy [],Zy [],Zy [],Zz .u64 0,Zz .u64 0];let t5:Kerb.Cache:=Vb (Zq o1 o2 o3) (Yd Ww els);let t6:List AV:=[Zz .i64 wt,Zy w1,Zy w2,Zy w3,Zz .u64 se,Zz .i64 tm,Zz .i64 lf,Zz .i64 cs,Zz .i64 tc];let t0:AV:=Zh (Zy m1::Zy m2::Zy m3::Zz .i64 ad::Zz .i64 sk::Yx li::Zy o1::Zy o2::Zy o3::Xx 8 els::t6);let t7:Option (AV×Blocks):=some (Zj [t0,t2,t1,Zz .i64 108],[]);Zw (chk (l63 m1&&l63 m2&&l63 m3&&l63 o1&&l63 o2&&l63 o3&&Xp els Xb&&decide (Zx els≤1000000)) (some (Zz .i64 (Wq (Wx (Zq m1 m2 m3) ad sk li t5 wt (Zq w1 w2 w3) se tm lf cs tc)),[]))) (kI .i64 fun n=>sel (!n==0) t7 (sel (Kerb.kaLabel vop==[]) t7 (Zw (chk (decide (Zx msg≤140737488355328)) (some (Zj [Zh [Zz .i64 (Kerb.KaReply.op (Zv (Vf msg))),Zz .i64 (Kerb.KaReply.code (Zv (Vf msg))),Zk (Kerb.KaReply.box (Zv (Vf msg)))],Zz .i64 (Xm (Vf msg))],[]))) (kT fun vs=>onCons vs fun x r=>Ym x fun cs=>cInt .i64 cs fun n r_1=>cInt .i64 r_1 fun n_1 r_2=>cBs r_2 fun b r_3=>onNil r_3 (cInt .i64 r fun n_2 r=>onNil r (sel (!n_2==0) (some (Zj [t0,t2,t1,Zz .i64 n_2],[])) (sel (!n==vop) (some (Zj [t0,t2,t1,Zz .i64 63],[])) (sel (!n_1==0) (some (Zj [t0,t4,t1,Zz .i64 n_1],[])) (Zw (chk (decide (Zx b≤140737488355328)) (some (Zj [Zh [Zy (Kerb.KaAnswer.label (Zv (Xj t3 k b))),Zz .i64 (Kerb.KaAnswer.time (Zv (Xj t3 k b))),Zz .u64 (Ug (Zv (Xj t3 k b))),Zz .i64 (Kerb.KaAnswer.start (Zv (Xj t3 k b))),Zz .i64 (Kerb.KaAnswer.stop (Zv (Xj t3 k b))),Zz .i64 (Kerb.KaAnswer.kvno (Zv (Xj t3 k b))),Zy (Zn (Yn (Zv (Xj t3 k b)))),Zy (Zm (Yn (Zv (Xj t3 k b)))),Zy (Zf (Yn (Zv (Xj t3 k b)))),Zk (Un (Zv (Xj t3 k b)))],Zz .i64 (Xm (Xj t3 k b))],[]))) (kT fun vs=>onCons vs fun x r=>Ym x fun cs=>cStr cs fun b r_4=>cInt .i64 r_4 fun n r_5=>cInt .u64 r_5 fun n r_6=>cInt .i64 r_6 fun n_3 r_7=>cInt .i64 r_7 fun n_4 r_8=>cInt .i64 r_8 fun n_5 r_9=>cStr r_9 fun b r_10=>cStr r_10 fun b_1 r_11=>cStr r_11 fun b_2 r_12=>cBs r_12 fun b_3 r_13=>onNil r_13 (cInt .i64 r fun n_6 r=>onNil r (sel (!n_6==0) (some (Zj [t0,t2,t1,Zz .i64 n_6],[])) (sel (vop==3) (some (Zj [t0,t4,t1,Zz .i64 0],[])) (Zw (chk (decide ((-9223372036854775808:Int)≤Xz .i64 (n_4-n_3))&&decide (Xz .i64 (n_4-n_3)≤9223372036854775807)) (some (Zj [Zz .i64 (bif decide (Xz .i64 (n_4-n_3)<300) then 0 else Kerb.fromSec (Xz .i64 (n_4-n_3))),Yx !decide (Xz .i64 (n_4-n_3)<300)],[]))) (kT fun vs=>cInt .i64 vs fun n_7 r=>let t8:AV:=Zh [Zy b,Zy b_1,Zy b_2,Zz .u64 n,Zz .i64 n_7,Zz .i64 n_5,Zz .i64 n_3,Zk b_3];let t9:Kerb.Prin:=Kerb.Cache.owner (Zv (Uf t5 (Kerb.Cred.mk (Zq b b_1 b_2) n n_7 n_5 n_3 b_3)));cBool r fun b_4 r=>onNil r (sel (!b_4) (some (Zj [t0,t2,t1,Zz .i64 3],[])) (Zw (chk (l63 o1&&l63 o2&&l63 o3&&Xp els Xb&&decide (Zx els≤1000000)&&Xb t8) (some (Zj [Zh [Zy (Zn t9),Zy (Zm t9),Zy (Zf t9),Xx 8 (Yd Yq (Kerb.Cache.creds (Zv (Uf t5 (Kerb.Cred.mk (Zq b b_1 b_2) n n_7 n_5 n_3 b_3)))))],Zz .i64 (Xm (Uf t5 (Kerb.Cred.mk (Zq b b_1 b_2) n n_7 n_5 n_3 b_3)))],[]))) (kT fun vs=>onCons vs fun x r=>Ym x fun cs=>cStr cs fun b r_14=>cStr r_14 fun b_5 r_15=>cStr r_15 fun b_6 r_16=>cSl 8 r_16 fun b_7 r_17=>onNil r_17 (cInt .i64 r fun n r=>onNil r (sel (!n==0) (some (Zj [t0,t2,t1,Zz .i64 n],[])) (some (Zj [Zh (Zy m1::Zy m2::Zy m3::Zz .i64 ad::Zz .i64 sk::Yx li::Zy b::Zy b_5::Zy b_6::Xx 8 b_7::t6),t4,t8,Zz .i64 0],[])))))))))))))))))))))):Option (AV×Blocks))) (by kernel_rfl) ?_
  delta kT kI
  try dsimp only [cStr,cBs,cBool,cU8,cInt,cSl,l63]
  simp only [Yw,decide_eq_true_eq] at hpre
  obtain ⟨⟨⟨⟨⟨⟨⟨⟨q1,q2⟩,q3⟩,q4⟩,q5⟩,q6⟩,hall⟩,hlen⟩,hm⟩:=hpre
  obtain ⟨ds,rfl,hok⟩:=Kerb.creds_of hall
  simp only [Vd]
  have hd:=Kerb.kaRep_box msg
  obtain ⟨D,hD⟩:∃ D,Vf msg=D:=⟨_,rfl⟩
  rw [hD] at hd
  have l1:D.val.box.length≤140737488355328:=by omega
  have hq:=Kerb.kaOpen_fine (Uv vop vtm vst ven ⟨v1,v2,v3⟩ vse vne) k D.val.box
  obtain ⟨Q,hQ⟩:∃ Q,Xj (Uv vop vtm vst ven ⟨v1,v2,v3⟩ vse vne) k D.val.box=Q:=⟨_,rfl⟩
  rw [hQ] at hq
  obtain ⟨S,hS⟩:∃ S,Uf ⟨⟨o1,o2,o3⟩,ds⟩ (Kerb.kaCred Q.val)=S:=⟨_,rfl⟩
  obtain ⟨z,hz⟩:∃ z,Wq (Wx ⟨m1,m2,m3⟩ ad sk li ⟨⟨o1,o2,o3⟩,ds⟩ wt ⟨w1,w2,w3⟩ se tm lf cs tc)=z:=⟨_,rfl⟩
  rw [Kerb.kaReceive_of (c:=(Wx ⟨m1,m2,m3⟩ ad sk li ⟨⟨o1,o2,o3⟩,ds⟩ wt ⟨w1,w2,w3⟩ se tm lf cs tc)) hz hD hQ hS]
  have hcr:Xb (.agg [.str Q.val.service.name,.str Q.val.service.inst,.str Q.val.service.realm,.int .u64 Q.val.session,.int .i64 (Kerb.fromSec (Q.val.stop-Q.val.start)),.int .i64 Q.val.kvno,.int .i64 Q.val.start,.bs Q.val.ticket])=true:=Kerb.isCred_of (Kerb.kaCred_ok hq)
  have hS2:Uf ⟨⟨o1,o2,o3⟩,ds⟩ ⟨⟨Q.val.service.name,Q.val.service.inst,Q.val.service.realm⟩,Q.val.session,Kerb.fromSec (Q.val.stop-Q.val.start),Q.val.kvno,Q.val.start,Q.val.ticket⟩=S:=hS
  obtain ⟨⟨t0,t1⟩,⟨a0,a1⟩,⟨b0,b1⟩,hq4,_,_⟩:=hq
  have e1:Xz .i64 (Q.val.stop-Q.val.start)=Q.val.stop-Q.val.start:=wrap_i64 (by omega) (by omega)
  have e2:(-9223372036854775808:Int)≤Q.val.stop-Q.val.start:=by omega
  have e3:Q.val.stop-Q.val.start≤9223372036854775807:=by omega
  simp only [hall,hlen,hm,l1,q1,q2,q3,q4,q5,q6,hz,hD,hQ,e1,e2,e3,decide_true,Yf,Kerb.kaLabel_nil,↓A0,A0]
  by_cases h1:z=0
  case neg=>rw [sel_pos (by simpa using h1),if_pos (.inl h1)];rfl
  rw [sel_neg (by simpa using h1)]
  cases h2:Kerb.kaOp vop
  ·rw [if_pos (show z≠0∨false=false from .inr rfl)];rfl
  rw [Zp,sel_false,if_neg (show ¬ (z≠0∨true=false) from by simp [h1])]
  by_cases h3:D.err=0
  case neg=>rw [sel_pos (by simpa using h3),if_pos h3];rfl
  rw [sel_neg (by simpa using h3),if_neg (show ¬ (D.err≠0) from fun h=>h h3)]
  by_cases h4:D.val.op=vop
  case neg=>rw [sel_pos (by simpa using h4),if_pos h4];rfl
  rw [sel_neg (by simpa using h4),if_neg (show ¬ (D.val.op≠vop) from fun h=>h h4)]
  by_cases h5:D.val.code=0
  case neg=>rw [sel_pos (by simpa using h5),if_pos h5];rfl
  rw [sel_neg (by simpa using h5),if_neg (show ¬ (D.val.code≠0) from fun h=>h h5)]
  by_cases h6:Q.err=0
  case neg=>rw [sel_pos (by simpa using h6),if_pos h6];rfl
  rw [sel_neg (by simpa using h6),if_neg (show ¬ (Q.err≠0) from fun h=>h h6)]
  by_cases h7:vop=3
  ·rw [sel_pos (by simpa using h7),if_pos h7];rfl
  rw [sel_neg (by simpa using h7),if_neg h7]
  by_cases h8:Q.val.stop-Q.val.start<300
  ·rw [if_pos h8];simp only [h8,cond_true,decide_true,Zp,Vm,↓A0,A0];rfl
  simp only [h8,if_false,cond_false,decide_false,Vm,Zp,hcr,Vd,hS2,Yf,↓A0,A0]
  by_cases h9:S.err=0
  case neg=>rw [sel_pos (by simpa using h9),if_pos h9];rfl
  rw [sel_neg (by simpa using h9),if_neg (show ¬ (S.err≠0) from fun h=>h h9)]
  try rfl
 ·cases h
theorem p9  : runFn (G.env 9 13) G.rts (G.own 9) Tryz.f9 [] []=some (.bool true,[]):=by kernel_rfl
theorem w9:Walked Tryz.prog G 9 13 sp9:=by
 refine ⟨Tryz.f9,Tryz.func9,by decide +kernel,rfl,fun xs bl r h=> ?_⟩
 unfold sp9 at h
 split at h
 ·cases h;exact p9
 ·cases h
end Go.Proofs.YtaikjfcgemjghaaGreat
