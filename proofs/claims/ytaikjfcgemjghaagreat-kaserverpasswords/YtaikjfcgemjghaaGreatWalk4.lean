/- What the functions of this seat compute. -/
import Derived.Test.YtaikjfcgemjghaaGreatTab
import Derived.Test.YtaikjfcgemjghaaGreatKerbPlain
import Derived.Test.YtaikjfcgemjghaaGreatAbsStep
import Derived.Test.YtaikjfcgemjghaaGreatKerbKaPlain
import Derived.Test.YtaikjfcgemjghaaGreatKerbKaRef
import Derived.Test.YtaikjfcgemjghaaGreatKerbCli3
import Derived.Test.YtaikjfcgemjghaaGreatKerbCli4
import Derived.Test.YtaikjfcgemjghaaGreatKerbCli5
import Derived.Test.YtaikjfcgemjghaaGreatKerbSrvL
import Derived.Test.YtaikjfcgemjghaaGreatKerbKac2
import Derived.Test.YtaikjfcgemjghaaGreatKerbSrvP
open Go.Abs.AV renaming str→Zz,int→Zy,bs→Zf,agg→Yz,bool→Yx,sl→Yh,onAgg→Xj,tup→Xf,undef→Vk
open Kerb renaming encodeKaReply→Zx,kaRefuse_nil→Zn,toEntry→Zm,Issue→Yf,grantLife→Yg,decodeKaRequest→Yn,map_toEntry→Xq,isEntry→Xd,openTicket→Xn,isU64→Wy,ends2→Wx,KaOut→Ww,long→Wv,tEnd→Wk,imin→Wd,classOf→Wg,isI64→Wn,ents_of→Wm,Bytes→Vx,within→Vv,krbtgt→Vu,kaGive→Vq,kaSecretOf→Vj,openBox→Vp,long_bd→Vd,decodeKaReply→Vg
open Kerb.Issue renaming service→Zw,server→Zv,client→Zu,session→Yv,granter→Yu,sealer→Yp,issued→Yd,text→Xw,stop→Xv,kind→Xu
open Kerb.Prin renaming realm→Zq,name→Zj,inst→Zk,mk→Yq
open List renaming length→Zp,map→Zh,length_map→Xb,all→Xh,getD→Vw
open Option renaming bind→Zd
open Kerb.KaReply renaming mk→Zg
open Kerb.KaOut renaming db→Zb,answer→Yb,issue→Xx,ok→Xg,mk→Wj
open Kerb.Dec renaming val→Yy,err→Vy
open Kerb.Db renaming mk→Yw,entries→Ym,realm→Xy
open Prod renaming snd→Yj,fst→Yk
open Kerb.Entry renaming av→Xz
open Kerb.Enc renaming val→Xk,err→Xp
open Go.IntKind renaming wrap→Xm,i64→Wh
open Bool renaming and_self→Wz,and_eq_true→Wf
open Int renaming toNat→Wu
open Nat renaming le_trans→Wq
open Kerb.Ticket renaming client→Wp
open Kerb.KAsk renaming message→Wb
open UInt8 renaming toNat→Vz,ofNat→Vb
open Kerb.ReplyPart renaming service→Vf
open Kerb.KaRequest renaming user→Vn
namespace Go.Proofs.YtaikjfcgemjghaaGreat
open Go Go.Abs Go.Proofs
set_option linter.unusedVariables false
set_option linter.unusedSimpArgs false
set_option maxRecDepth 100000
theorem w224:Walked Tryz.prog G 224 11 sp224:=by
 refine ⟨Tryz.f224,Tryz.func224,by decide +kernel,rfl,fun xs bl r h=> ?_⟩
 unfold sp224 at h
 split at h
 ·rename_i rl els x y z u v w ad li now lf se sl tg kv
  obtain ⟨hpre,h2⟩:=chk_inv h;cases h2
  refine Eq.trans (b:=(let t0:AV:=Yz [Zy .i64 0,Zz [],Zz [],Zz [],Zz [],Zz [],Zz [],Zz [],Zz [],Zz [],Zy .u64 0,Zy .u64 0,Zy .u64 0,Zf [],Zy .i64 0,Zy .i64 0];let t1:AV:=Yz [Zy .u64 0,Zz [],Zz [],Zz [],Zy .i64 0,Zy .i64 0,Zf [],Zy .i64 0];Zd (chk (l63 x&&l63 y&&l63 z&&l63 u&&l63 v&&decide (0≤se)&&decide (se<18446744073709551616)&&decide (0≤tg)&&decide (tg<18446744073709551616)) (some (Xf [Zf (Xk (Kerb.sealTicket (Kerb.Ticket.mk li (Yq x y z) ad se lf now u v) tg)),Zy .i64 (Xp (Kerb.sealTicket (Kerb.Ticket.mk li (Yq x y z) ad se lf now u v) tg))],[]))) (kT fun vs=>onCons vs fun x_1 r=>AV.onBs x_1 fun b=>onCons r fun x_2 r=>AV.onInt .i64 x_2 fun n=>onNil r (sel (!n==0) (some (Xf [t0,t1,Zy .i64 n],[])) (Zd (chk (l63 u&&l63 v&&l63 w&&decide (0≤se)&&decide (se<18446744073709551616)) (some (Xf [Zf (Xk (Kerb.encodePart (Kerb.ReplyPart.mk se (Yq u v w) lf kv b now) li)),Zy .i64 (Xp (Kerb.encodePart (Kerb.ReplyPart.mk se (Yq u v w) lf kv b now) li))],[]))) (kT fun vs=>onCons vs fun x_3 r=>AV.onBs x_3 fun b_1=>onCons r fun x_4 r=>AV.onInt .i64 x_4 fun n=>onNil r (sel (!n==0) (some (Xf [t0,t1,Zy .i64 n],[])) (Zd (chk (decide (Zp b≤140737488355328)) (some (Zf b,[]))) (kB fun b_2=>some (Xf [Yz [Zy .i64 0,Zz [(107:UInt8),(114:UInt8),(98:UInt8),(116:UInt8),(103:UInt8),(116:UInt8)],Zz rl,Zz rl,Zz x,Zz y,Zz z,Zz u,Zz v,Zz w,Zy .u64 se,Zy .u64 sl,Zy .u64 0,Zf b_2,Zy .i64 now,Zy .i64 (Wk now lf)],Yz [Zy .u64 se,Zz u,Zz v,Zz w,Zy .i64 lf,Zy .i64 kv,Zf b,Zy .i64 now],Zy .i64 0],[])))))))):Option (AV×Blocks))) (by kernel_rfl) ?_
  delta kT kB
  try dsimp only [cStr,cBs,cBool,cU8,cInt,cSl,l63]
  simp only [Wf,decide_eq_true_eq] at hpre
  simp only [Kerb.isU64_iff] at hpre
  obtain ⟨⟨⟨⟨⟨⟨⟨h1,h2⟩,h3⟩,h4⟩,h5⟩,h6⟩,h7,h8⟩,h9,h10⟩:=hpre
  simp only [h1,h2,h3,h4,h5,h6,h7,h8,h9,h10,decide_true,Wz,↓A0,A0]
  unfold Kerb.grant Kerb.grantTkt
  dsimp only
  have hsl:=Kerb.sealTicket_len ⟨li,⟨x,y,z⟩,ad,se,lf,now,u,v⟩ tg
  generalize Kerb.sealTicket ⟨li,⟨x,y,z⟩,ad,se,lf,now,u,v⟩ tg=E at hsl
  by_cases he:E.err=0
  case neg=>rw [sel_pos (by simpa using he),if_pos he];rfl
  rw [sel_neg (by simpa using he),if_neg (by simpa using he)]
  generalize Kerb.encodePart ⟨se,⟨u,v,w⟩,lf,kv,E.val,now⟩ li=F
  by_cases hf:F.err=0
  case neg=>rw [sel_pos (by simpa using hf),if_pos hf];rfl
  rw [sel_neg (by simpa using hf),if_neg (by simpa using hf)]
  rw [chk_of (by simp;omega)]
  rfl
 ·cases h
theorem w147:Walked Tryz.prog G 147 12 sp147:=by
 refine ⟨Tryz.f147,Tryz.func147,by decide +kernel,rfl,fun xs bl r h=> ?_⟩
 unfold sp147 at h
 split at h
 ·rename_i op u1 u2 u3 kv qr tk sv ins bx rl els now ad sk se
  obtain ⟨hpre,h2⟩:=chk_inv h;cases h2
  show runFnH (G.env 147 12) G.rts (G.own 147) Tryz.f147 _ _ [0]=_
  refine Eq.trans (b:=(let t0:List (List AV):=[[Zy .i64 op,Zz u1,Zz u2,Zz u3,Zy .i64 kv,Zz qr,Zf tk,Zz sv,Zz ins,Zf bx,Zz rl,Yh 9 els,Zy .i64 now,Zy .i64 ad,Zy .i64 sk,Zy .u64 se]];let t1:AV:=Yz [Yx false,Zz [],Zz [],Zz [],Zy .i64 0,Zy .u64 0,Zy .i64 0,Zy .i64 0,Zz [],Zz []];let t3:Int×Int:=Kerb.serviceEnt (Yw rl (Zh Zm els)) [(107:UInt8),(114:UInt8),(98:UInt8),(116:UInt8),(103:UInt8),(116:UInt8)] rl now;let t2:Option (AV×Blocks):=some (Xf [t1,Zy .i64 35],t0);sel (!qr==rl) t2 (Zd (chk (Xh els Xd&&decide (Zp els≤1000000)) (some (Xf [Zy .i64 (Yk t3),Zy .i64 (Yj t3)],[]))) (kT fun vs=>cInt .i64 vs fun n r=>cInt .i64 r fun n_1 r=>onNil r (sel (!n_1==0) (some (Xf [t1,Zy .i64 n_1],t0)) (chk (decide (0≤n)&&decide (n<(↑(Zp els):Int))&&true) (Xj (Vw els (Wu n) Vk) fun cs=>cStr cs fun b r=>cStr r fun b r=>cInt .u64 r fun n r=>cInt .i64 r fun n_2 r=>cInt .i64 r fun n_3 r=>cInt .i64 r fun n_4 r=>cInt .i64 r fun n_5 r=>cInt .i64 r fun n_6 r=>cInt .i64 r fun n_7 r=>onNil r (sel (!kv==n_2) t2 (Zd (chk (decide (Zp tk≤140737488355328)) (some (Xf [Yz [Yx (Kerb.Ticket.little (Yy (Xn tk n))),Zz (Zj (Wp (Yy (Xn tk n)))),Zz (Zk (Wp (Yy (Xn tk n)))),Zz (Zq (Wp (Yy (Xn tk n)))),Zy .i64 (Kerb.Ticket.address (Yy (Xn tk n))),Zy .u64 (Kerb.Ticket.session (Yy (Xn tk n))),Zy .i64 (Kerb.Ticket.life (Yy (Xn tk n))),Zy .i64 (Kerb.Ticket.issued (Yy (Xn tk n))),Zz (Kerb.Ticket.service (Yy (Xn tk n))),Zz (Kerb.Ticket.inst (Yy (Xn tk n)))],Zy .i64 (Vy (Xn tk n))],[]))) (kT fun vs=>onCons vs fun x r=>Xj x fun cs=>cBool cs fun b r_1=>cStr r_1 fun b_1 r_2=>cStr r_2 fun b_2 r_3=>cStr r_3 fun b_3 r_4=>cInt .i64 r_4 fun n r_5=>cInt .u64 r_5 fun n_8 r_6=>cInt .i64 r_6 fun n_9 r_7=>cInt .i64 r_7 fun n_10 r_8=>cStr r_8 fun b_4 r_9=>cStr r_9 fun b_5 r_10=>onNil r_10 (cInt .i64 r fun n_11 r=>onNil r (sel (!n_11==0) (some (Xf [t1,Zy .i64 31],t0)) (sel (!b_4==[(107:UInt8),(114:UInt8),(98:UInt8),(116:UInt8),(103:UInt8),(116:UInt8)]) t2 (sel (!b_5==rl) t2 (sel (!b_3==rl) (some (Xf [t1,Zy .i64 36],t0)) (sel (!n==ad) (some (Xf [t1,Zy .i64 38],t0)) (sel (!Kerb.stateErr n_10 n_9 now sk==0) (some (Xf [t1,Zy .i64 (Kerb.stateErr n_10 n_9 now sk)],t0)) (some (Xf [Yz [Yx b,Zz b_1,Zz b_2,Zz b_3,Zy .i64 n,Zy .u64 n_8,Zy .i64 n_9,Zy .i64 n_10,Zz b_4,Zz b_5],Zy .i64 0],t0))))))))))))))))):Option (AV×Blocks))) (by kernel_rfl) ?_
  delta kT
  try dsimp only [cStr,cBs,cBool,cU8,cInt,cSl,l63]
  simp only [Wf,decide_eq_true_eq] at hpre
  obtain ⟨⟨⟨⟨⟨⟨⟨⟨⟨⟨⟨c1,c2⟩,c3⟩,c4⟩,c5⟩,c6⟩,c7⟩,c8⟩,c9⟩,c10⟩,hall⟩,hlen⟩:=hpre
  obtain ⟨es,rfl,hok⟩:=Wm hall
  rw [Xq]
  simp only [Xb] at hlen
  have tl:decide (tk.length≤140737488355328)=true:=by simp;omega
  have hkr:[(107:UInt8),(114:UInt8),(98:UInt8),(116:UInt8),(103:UInt8),(116:UInt8)]=Vu:=rfl
  simp only [hkr,hall,Xb,hlen,tl,decide_true,Wz,↓A0,A0]
  unfold Kerb.kaPresented
  dsimp only
  by_cases h1:qr=rl
  case neg=>rw [sel_pos (by simpa using h1),if_pos h1];try rfl
  rw [sel_neg (by simp [h1]),if_neg (by simp [h1])]
  have hs := @Kerb.serv_lt ⟨rl,es⟩ Vu rl now
  generalize Kerb.serviceEnt ⟨rl,es⟩ Vu rl now=F at hs ⊢
  obtain ⟨j,e⟩:=F
  dsimp only at hs ⊢
  by_cases h2:e=0
  case neg=>rw [sel_pos (by simpa using h2),if_pos h2];try rfl
  obtain ⟨g1,g2⟩:=hs h2
  rw [sel_neg (by simpa using h2),if_neg (by simpa using h2),chk_of (by simp;omega),Kerb.getD_ent g2]
  unfold Kerb.entAt
  dsimp only
  generalize es.getD j.toNat Kerb.noEntry=x
  simp only [Xz,tl,↓A0,A0]
  by_cases h3:kv=x.kvno
  case neg=>rw [sel_pos (by simpa using h3),if_pos h3];try rfl
  rw [sel_neg (by simp [h3]),if_neg (by simp [h3])]
  generalize Xn tk x.key=T
  by_cases h4:T.err=0
  case neg=>rw [sel_pos (by simpa using h4),if_pos h4];try rfl
  rw [sel_neg (by simpa using h4),if_neg (by simpa using h4)]
  by_cases h5:T.val.service=Vu
  case neg=>rw [sel_pos (by simpa using h5),if_pos (.inl h5)];try rfl
  by_cases h6:T.val.inst=rl
  case neg=>rw [sel_neg (by simp [h5]),sel_pos (by simpa using h6),if_pos (.inr h6)];try rfl
  rw [sel_neg (by simp [h5]),sel_neg (by simp [h6]),if_neg (by simp [h5,h6])]
  by_cases h7:T.val.client.realm=rl
  case neg=>rw [sel_pos (by simpa using h7),if_pos h7];try rfl
  rw [sel_neg (by simp [h7]),if_neg (by simp [h7])]
  by_cases h8:T.val.address=ad
  case neg=>rw [sel_pos (by simpa using h8),if_pos h8];try rfl
  rw [sel_neg (by simp [h8]),if_neg (by simp [h8])]
  generalize Kerb.stateErr T.val.issued T.val.life now sk=Z
  by_cases h9:Z=0
  case neg=>rw [sel_pos (by simpa using h9),if_pos h9];try rfl
  rw [sel_neg (by simp [h9]),if_neg (by simp [h9])]
 ·cases h
theorem w154:Walked Tryz.prog G 154 12 sp154:=by
 refine ⟨Tryz.f154,Tryz.func154,by decide +kernel,rfl,fun xs bl r h=> ?_⟩
 unfold sp154 at h
 split at h
 ·rename_i dr dls gk c1 c2 c3 s1 s2 s3 ga gl gs gg gt gv gb gm op u1 u2 u3 kv qr tk sv ins bx rl els now ad sk se
  obtain ⟨hpre,h2⟩:=chk_inv h;cases h2
  show runFnH (G.env 154 12) G.rts (G.own 154) Tryz.f154 _ _ [0]=_
  refine Eq.trans (b:=(let t2:List AV:=[Zf [],Zy .i64 0,Zz [],Zz [],Zz [],Zz [],Zz [],Zz [],Zz [],Zz [],Zz [],Zy .u64 0,Zy .u64 0,Zy .u64 0,Zf [],Zy .i64 0,Zy .i64 0,Yx false];let t3:List (List AV):=[[Zy .i64 op,Zz u1,Zz u2,Zz u3,Zy .i64 kv,Zz qr,Zf tk,Zz sv,Zz ins,Zf bx,Zz rl,Yh 9 els,Zy .i64 now,Zy .i64 ad,Zy .i64 sk,Zy .u64 se]];let t4:Kerb.Granted:=Kerb.grant rl (Yq c1 c2 c3) (Yq s1 s2 s3) ga false now gl se gs gt gv;let t0:Yf:=Kerb.Granted.issue t4;let t1:Kerb.ReplyPart:=Kerb.Granted.part t4;Zd (chk (l63 c1&&l63 c2&&l63 c3&&l63 s1&&l63 s2&&l63 s3&&Wy se&&Wy gt) (some (Xf [Yz [Zy .i64 (Xu t0),Zz (Zj (Zv t0)),Zz (Zk (Zv t0)),Zz (Zq (Zv t0)),Zz (Zj (Zu t0)),Zz (Zk (Zu t0)),Zz (Zq (Zu t0)),Zz (Zj (Zw t0)),Zz (Zk (Zw t0)),Zz (Zq (Zw t0)),Zy .u64 (Yv t0),Zy .u64 (Yp t0),Zy .u64 (Yu t0),Zf (Xw t0),Zy .i64 (Yd t0),Zy .i64 (Xv t0)],Yz [Zy .u64 (Kerb.ReplyPart.session t1),Zz (Zj (Vf t1)),Zz (Zk (Vf t1)),Zz (Zq (Vf t1)),Zy .i64 (Kerb.ReplyPart.life t1),Zy .i64 (Kerb.ReplyPart.kvno t1),Zf (Kerb.ReplyPart.ticket t1),Zy .i64 (Kerb.ReplyPart.time t1)],Zy .i64 (Kerb.Granted.err t4)],[]))) (kT fun vs=>onCons vs fun x r=>Xj x fun cs=>cInt .i64 cs fun n r_1=>cStr r_1 fun b r_2=>cStr r_2 fun b_1 r_3=>cStr r_3 fun b_2 r_4=>cStr r_4 fun b_3 r_5=>cStr r_5 fun b_4 r_6=>cStr r_6 fun b_5 r_7=>cStr r_7 fun b_6 r_8=>cStr r_8 fun b_7 r_9=>cStr r_9 fun b_8 r_10=>cInt .u64 r_10 fun n r_11=>cInt .u64 r_11 fun n_1 r_12=>cInt .u64 r_12 fun n_2 r_13=>cBs r_13 fun b_9 r_14=>cInt .i64 r_14 fun n_3 r_15=>cInt .i64 r_15 fun n_4 r_16=>onNil r_16 (onCons r fun x r=>Xj x fun cs=>cInt .u64 cs fun n_5 r_17=>cStr r_17 fun b_10 r_18=>cStr r_18 fun b_11 r_19=>cStr r_19 fun b_12 r_20=>cInt .i64 r_20 fun n_6 r_21=>cInt .i64 r_21 fun n_7 r_22=>cBs r_22 fun b_13 r_23=>cInt .i64 r_23 fun n_8 r_24=>onNil r_24 (cInt .i64 r fun n_9 r=>onNil r (sel (!n_9==0) (some (Yz (Zz rl::Yh 9 els::t2),t3)) (Zd (chk (decide (0≤gm)&&decide (gm≤4294967295)) (some (Zy .i64 (Kerb.kaNext gm),[]))) (kI .i64 fun n_10=>let t5:Kerb.Enc:=Kerb.kaReplyDec op (Kerb.KaAnswer.mk gb n_10 se now (Wd n_4 4294967295) gv (Yq s1 s2 s3) b_9) gs;Zd (chk (l63 s1&&l63 s2&&l63 s3&&l63 gb&&Wy se&&Wy gs) (some (Xf [Zf (Xk t5),Zy .i64 (Xp t5)],t3))) fun (r:AV×Blocks)=>onConsB (Yj r) fun (x:List AV) (r_25:List (List AV))=>cInt .i64 x fun n_11 r_26=>cStr r_26 fun b_14 r_27=>cStr r_27 fun b_15 r_28=>cStr r_28 fun b_16 r_29=>cInt .i64 r_29 fun n_12 r_30=>cStr r_30 fun b_17 r_31=>cBs r_31 fun b_18 r_32=>cStr r_32 fun b_19 r_33=>cStr r_33 fun b_20 r_34=>cBs r_34 fun b_21 r_35=>cStr r_35 fun b_22 r_36=>cSl 9 r_36 fun b_23 r_37=>cInt .i64 r_37 fun n_13 r_38=>cInt .i64 r_38 fun n_14 r_39=>cInt .i64 r_39 fun n_15 r_40=>cInt .u64 r_40 fun n_16 r_41=>let t6:List (List AV):=[[Zy .i64 n_11,Zz b_14,Zz b_15,Zz b_16,Zy .i64 n_12,Zz b_17,Zf b_18,Zz b_19,Zz b_20,Zf b_21,Zz b_22,Yh 9 b_23,Zy .i64 n_13,Zy .i64 n_14,Zy .i64 n_15,Zy .u64 n_16]];onNil r_41 (onNilB r_25 (AV.onTup (Yk r) fun vs=>cBs vs fun b_24 r=>cInt .i64 r fun n_17 r=>onNil r (sel (!n_17==0) (some (Yz (Zz b_22::Yh 9 b_23::t2),t6)) (some (Yz [Zz dr,Yh 9 dls,Zf b_24,Zy .i64 gk,Zz b,Zz b_1,Zz b_2,Zz b_3,Zz b_4,Zz b_5,Zz b_6,Zz b_7,Zz b_8,Zy .u64 n,Zy .u64 n_1,Zy .u64 gg,Zf b_9,Zy .i64 n_3,Zy .i64 n_4,Yx true],t6))))))))))):Option (AV×Blocks))) (by kernel_rfl) ?_
  delta kT kI
  try dsimp only [cStr,cBs,cBool,cU8,cInt,cSl,l63]
  simp only [Wf,decide_eq_true_eq] at hpre
  obtain ⟨⟨⟨⟨⟨⟨⟨⟨⟨⟨⟨⟨⟨⟨d1,d2⟩,d3⟩,d4⟩,d5⟩,d6⟩,d7⟩,k1⟩,k2⟩,k3⟩,k4⟩,ha⟩,hb⟩,g0⟩,g1⟩:=hpre
  obtain ⟨es,rfl,hok⟩:=Wm ha
  obtain ⟨ds,rfl,hok2⟩:=Wm hb
  rw [Xq,Xq]
  simp only [d1,d2,d3,d4,d5,d6,d7,k1,k2,k3,k4,g0,g1,decide_true,Wz,↓A0,A0]
  unfold Vq Kerb.kaReplySeal
  dsimp only
  have hst := @Kerb.grant_stop rl ⟨c1,c2,c3⟩ ⟨s1,s2,s3⟩ ga false now gl se gs gt gv
  generalize Kerb.grant rl ⟨c1,c2,c3⟩ ⟨s1,s2,s3⟩ ga false now gl se gs gt gv=G at hst ⊢
  by_cases hg:G.err=0
  case neg=>rw [sel_pos (by simpa using hg),if_pos hg];rfl
  rw [sel_neg (by simpa using hg),if_neg (not_not_intro hg),hst hg]
  generalize Kerb.kaReplyDec op _ gs=R
  have hr2:¬ R.err=0→(R.err==0)=false:=fun h=>by simpa using h
  by_cases hr:R.err=0
  case neg=>rw [sel_pos (by simpa using hr),if_pos (hr2 hr)];rfl
  rw [sel_neg (by simpa using hr),if_neg (show ¬ (R.err==0)=false from by simp [hr])]
  rfl
 ·cases h
theorem w67:Walked Tryz.prog G 67 13 sp67:=by
 refine ⟨Tryz.f67,Tryz.func67,by decide +kernel,rfl,fun xs bl r h=> ?_⟩
 unfold sp67 at h
 split at h
 ·rename_i op u1 u2 u3 kv qr tk sv ins bx rl els now ad sk se
  obtain ⟨hpre,h2⟩:=chk_inv h;cases h2
  show runFnH (G.env 67 13) G.rts (G.own 67) Tryz.f67 _ _ [0]=_
  refine Eq.trans (b:=(let t0:List UInt8:=[(116:UInt8),(107:UInt8),(116:UInt8),(71:UInt8)];let t1:List AV:=[Zy .i64 0,Zz [],Zz [],Zz [],Zz [],Zz [],Zz [],Zz [],Zz [],Zz [],Zy .u64 0,Zy .u64 0,Zy .u64 0,Zf [],Zy .i64 0,Zy .i64 0,Yx false];let t3:List UInt8:=[(103:UInt8),(84:UInt8),(75:UInt8),(84:UInt8)];let t4:Kerb.Dec Kerb.Ticket:=Kerb.kaPresented (Yw rl (Zh Zm els)) now ad sk (Kerb.KaRequest.mk op (Yq u1 u2 u3) kv qr tk sv ins bx);let t2:Kerb.Ticket:=Yy t4;Zd (chk (l63 u1&&l63 u2&&l63 u3&&l63 qr&&l63 sv&&l63 ins&&l63 rl&&Wy se&&decide (Zp tk≤1000000)&&decide (Zp bx≤1000000)&&Xh els Xd&&decide (Zp els≤1000000)) (some (Xf [Yz [Yx (Kerb.Ticket.little t2),Zz (Zj (Wp t2)),Zz (Zk (Wp t2)),Zz (Zq (Wp t2)),Zy .i64 (Kerb.Ticket.address t2),Zy .u64 (Kerb.Ticket.session t2),Zy .i64 (Kerb.Ticket.life t2),Zy .i64 (Kerb.Ticket.issued t2),Zz (Kerb.Ticket.service t2),Zz (Kerb.Ticket.inst t2)],Zy .i64 (Vy t4)],[[Zy .i64 op,Zz u1,Zz u2,Zz u3,Zy .i64 kv,Zz qr,Zf tk,Zz sv,Zz ins,Zf bx,Zz rl,Yh 9 els,Zy .i64 now,Zy .i64 ad,Zy .i64 sk,Zy .u64 se]]))) fun (r:AV×Blocks)=>onConsB (Yj r) fun (x:List AV) (r_1:List (List AV))=>cInt .i64 x fun n r_2=>cStr r_2 fun b r_3=>cStr r_3 fun b_1 r_4=>cStr r_4 fun b_2 r_5=>cInt .i64 r_5 fun n_1 r_6=>cStr r_6 fun b_3 r_7=>cBs r_7 fun b_4 r_8=>cStr r_8 fun b_5 r_9=>cStr r_9 fun b_6 r_10=>cBs r_10 fun b_7 r_11=>cStr r_11 fun b_8 r_12=>cSl 9 r_12 fun b_9 r_13=>cInt .i64 r_13 fun n_2 r_14=>cInt .i64 r_14 fun n_3 r_15=>cInt .i64 r_15 fun n_4 r_16=>cInt .u64 r_16 fun n_5 r_17=>let t5:List (List AV):=[[Zy .i64 n,Zz b,Zz b_1,Zz b_2,Zy .i64 n_1,Zz b_3,Zf b_4,Zz b_5,Zz b_6,Zf b_7,Zz b_8,Yh 9 b_9,Zy .i64 n_2,Zy .i64 n_3,Zy .i64 n_4,Zy .u64 n_5]];onNil r_17 (onNilB r_1 (AV.onTup (Yk r) fun vs=>onCons vs fun x r=>Xj x fun cs=>cBool cs fun b r_18=>cStr r_18 fun b r_19=>cStr r_19 fun b_10 r_20=>cStr r_20 fun b_11 r_21=>let t6:Bool:=l63 b&&l63 b_10&&l63 b_11;cInt .i64 r_21 fun n_6 r_22=>cInt .u64 r_22 fun n_7 r_23=>cInt .i64 r_23 fun n_8 r_24=>cInt .i64 r_24 fun n_9 r_25=>cStr r_25 fun b_12 r_26=>cStr r_26 fun b_13 r_27=>onNil r_27 (cInt .i64 r fun n_10 r=>onNil r (sel (!n_10==0) (sel (!Xp (Zx (Zg n n_10 []))==0) (some (Yz (Zz b_8::Yh 9 b_9::Zf []::t1),t5)) (some (Yz (Zz b_8::Yh 9 b_9::Zf (Xk (Zx (Zg n n_10 [])))::t1),t5))) (Zd (chk (decide (Zp b_7≤140737488355328)) (some (Xf [Zf (Yk (Vp b_7 7 n_7)),Yx (Yj (Vp b_7 7 n_7))],[]))) (kT fun vs=>cBs vs fun b_14 r=>let t7:Kerb.KaSecret:=Yy (Vj b_14 t3 n_2 n_4);cBool r fun b_15 r=>onNil r (sel (!b_15) (sel (!Xp (Zx (Zg n 31 []))==0) (some (Yz (Zz b_8::Yh 9 b_9::Zf []::t1),t5)) (some (Yz (Zz b_8::Yh 9 b_9::Zf (Xk (Zx (Zg n 31 [])))::t1),t5))) (Zd (chk (decide (Zp b_14≤1000000)) (some (Xf [Yz [Zz (Kerb.KaSecret.label t7),Zy .i64 (Kerb.KaSecret.time t7),Zy .i64 (Kerb.KaSecret.start t7),Zy .i64 (Kerb.KaSecret.stop t7),Zy .u64 (Kerb.KaSecret.new t7)],Zy .i64 (Vy (Vj b_14 t3 n_2 n_4))],t5))) fun (r:AV×Blocks)=>onConsB (Yj r) fun (x:List AV) (r_28:List (List AV))=>cInt .i64 x fun n r_29=>cStr r_29 fun b_16 r_30=>cStr r_30 fun b_17 r_31=>cStr r_31 fun b_18 r_32=>cInt .i64 r_32 fun n_11 r_33=>cStr r_33 fun b_19 r_34=>cBs r_34 fun b_20 r_35=>cStr r_35 fun b_21 r_36=>cStr r_36 fun b_22 r_37=>cBs r_37 fun b_23 r_38=>cStr r_38 fun b_24 r_39=>let t8:Bool:=t6&&l63 b_21&&l63 b_22&&l63 b_24&&true;cSl 9 r_39 fun b_25 r_40=>let t9:Ww:=Wj (Yw b_24 (Zh Zm b_25)) [] Kerb.noIssue false;let t10:AV:=Yz (Zz b_24::Yh 9 b_25::Zf []::t1);let t11:AV:=Yz (Zz b_24::Yh 9 b_25::Zf (Xk (Zx (Zg n 10 [])))::t1);let t12:AV:=Yz (Zz b_24::Yh 9 b_25::Zf (Xk (Zx (Zg n 3 [])))::t1);cInt .i64 r_40 fun n_12 r_41=>let t13:Kerb.Svc:=Kerb.svc (Yw b_24 (Zh Zm b_25)) (Zh Kerb.toCross []) b_21 b_22 n_12;cInt .i64 r_41 fun n_13 r_42=>cInt .i64 r_42 fun n_14 r_43=>cInt .u64 r_43 fun n_15 r_44=>let t14:List (List AV):=[[Zy .i64 n,Zz b_16,Zz b_17,Zz b_18,Zy .i64 n_11,Zz b_19,Zf b_20,Zz b_21,Zz b_22,Zf b_23,Zz b_24,Yh 9 b_25,Zy .i64 n_12,Zy .i64 n_13,Zy .i64 n_14,Zy .u64 n_15]];let t17:Option (AV×Blocks):=chk (decide (0≤n_15)&&decide (n_15<18446744073709551616)) (some (Zy .i64 (Wg n_15),[]));let t15:Option (AV×Blocks):=sel (!Xp (Zx (Zg n 3 []))==0) (some (t10,t14)) (some (t12,t14));let t16:Option (AV×Blocks):=sel (!Xp (Zx (Zg n 10 []))==0) (some (t10,t14)) (some (t11,t14));onNil r_44 (onNilB r_28 (AV.onTup (Yk r) fun vs=>onCons vs fun x r=>Xj x fun cs=>cStr cs fun b_26 r_45=>cInt .i64 r_45 fun n_16 r_46=>cInt .i64 r_46 fun n_17 r_47=>cInt .i64 r_47 fun n_18 r_48=>let t19:List AV:=[Zy .i64 n_18,Zy .i64 (Wk n_9 n_8)];let t18:Nat:=Zp t19;cInt .u64 r_48 fun n_19 r_49=>onNil r_49 (cInt .i64 r fun n_20 r=>onNil r (sel (!n_20==0) (sel (!Xp (Zx (Zg n n_20 []))==0) (some (t10,t14)) (some (Yz (Zz b_24::Yh 9 b_25::Zf (Xk (Zx (Zg n n_20 [])))::t1),t14))) (Zd (chk (Xh b_25 Xd&&decide (Zp b_25≤1000000)&&true&&true&&l63 b_22) (some (Xf [Zy .u64 (Kerb.Svc.key t13),Zy .i64 (Kerb.Svc.kvno t13),Zy .i64 (Kerb.Svc.life t13),Zy .i64 (Kerb.Svc.expires t13),Zy .i64 (Kerb.Svc.err t13)],[]))) (kT fun vs=>cInt .u64 vs fun n_21 r=>let t20:Bool:=t8&&Wy n_15&&Wy n_7&&Wy n_21&&Wy n_7&&Xh b_25 Xd&&Xh b_25 Xd&&decide (0≤n_16)&&decide (n_16≤4294967295);cInt .i64 r fun n_22 r=>cInt .i64 r fun n_23 r=>cInt .i64 r fun n_24 r=>cInt .i64 r fun n_25 r=>onNil r (sel (!n_25==0) (sel (!Xp (Zx (Zg n n_25 []))==0) (some (t10,t14)) (some (Yz (Zz b_24::Yh 9 b_25::Zf (Xk (Zx (Zg n n_25 [])))::t1),t14))) (chk (decide (0<(↑(Zp [Zy .i64 n_24]):Int))&&true) (AV.onInt .i64 (Vw [Zy .i64 n_24] (Wu 0) Vk) fun n_26=>sel (!n_26==0) (chk (room (t18+Zp [Zy .i64 n_26]) (nat_lit 8)) (Zd (chk (decide (Zp (t19++[Zy .i64 n_26])≤1000000)&&Xh [n_18,Wk n_9 n_8,n_26] Wn) (some (Xf [Zy .i64 (Yk (Yg n_12 n_23 [n_18,Wk n_9 n_8,n_26])),Yx (Yj (Yg n_12 n_23 [n_18,Wk n_9 n_8,n_26]))],[]))) (kT fun vs=>cInt .i64 vs fun n_27 r=>let t25:Vx×Yf×Bool:=Vq n t0 n_16 b_24 (Yq b b_10 b_11) (Yq b_21 b_22 b_24) n_6 n_12 n_27 n_15 n_7 n_21 n_22 4 n_7;let t24:Yf×Bool:=Yj t25;let t23:Bool:=Yj t24;let t22:Ww:=if t23=true then Wj (Yw b_24 (Zh Zm b_25)) (Yk t25) (Yk t24) true else t9;let t21:Yf:=Xx t22;cBool r fun b r=>onNil r (sel (!b) t15 (Zd t17 (kI .i64 fun n=>sel (!n==2) t16 (Zd (chk t20 (some (Yz [Zz (Xy (Zb t22)),Yh 9 (Zh Xz (Ym (Zb t22))),Zf (Yb t22),Zy .i64 (Xu t21),Zz (Zj (Zv t21)),Zz (Zk (Zv t21)),Zz (Zq (Zv t21)),Zz (Zj (Zu t21)),Zz (Zk (Zu t21)),Zz (Zq (Zu t21)),Zz (Zj (Zw t21)),Zz (Zk (Zw t21)),Zz (Zq (Zw t21)),Zy .u64 (Yv t21),Zy .u64 (Yp t21),Zy .u64 (Yu t21),Zf (Xw t21),Zy .i64 (Yd t21),Zy .i64 (Xv t21),Yx (Xg t22)],t14))) fun (r:AV×Blocks)=>onConsB (Yj r) fun (x:List AV) (r_50:List (List AV))=>cInt .i64 x fun n r_51=>cStr r_51 fun b r_52=>cStr r_52 fun b_27 r_53=>cStr r_53 fun b_28 r_54=>cInt .i64 r_54 fun n_28 r_55=>cStr r_55 fun b_29 r_56=>cBs r_56 fun b_30 r_57=>cStr r_57 fun b_31 r_58=>cStr r_58 fun b_32 r_59=>cBs r_59 fun b_33 r_60=>cStr r_60 fun b_34 r_61=>cSl 9 r_61 fun b_35 r_62=>cInt .i64 r_62 fun n_29 r_63=>cInt .i64 r_63 fun n_30 r_64=>cInt .i64 r_64 fun n_31 r_65=>cInt .u64 r_65 fun n_32 r_66=>onNil r_66 (onNilB r_50 (Xj (Yk r) fun cs=>cStr cs fun b_36 r=>cSl 9 r fun b_37 r=>cBs r fun b_38 r=>cInt .i64 r fun n_33 r=>cStr r fun b_39 r=>cStr r fun b_40 r=>cStr r fun b_41 r=>cStr r fun b_42 r=>cStr r fun b_43 r=>cStr r fun b_44 r=>cStr r fun b_45 r=>cStr r fun b_46 r=>cStr r fun b_47 r=>cInt .u64 r fun n_34 r=>cInt .u64 r fun n_35 r=>cInt .u64 r fun n_36 r=>cBs r fun b_48 r=>cInt .i64 r fun n_37 r=>cInt .i64 r fun n_38 r=>cBool r fun b_49 r=>onNil r (some (Yz [Zz b_36,Yh 9 b_37,Zf b_38,Zy .i64 n_33,Zz b_39,Zz b_40,Zz b_41,Zz b_42,Zz b_43,Zz b_44,Zz b_45,Zz b_46,Zz b_47,Zy .u64 n_34,Zy .u64 n_35,Zy .u64 n_36,Zf b_48,Zy .i64 n_37,Zy .i64 n_38,Yx b_49],[[Zy .i64 n,Zz b,Zz b_27,Zz b_28,Zy .i64 n_28,Zz b_29,Zf b_30,Zz b_31,Zz b_32,Zf b_33,Zz b_34,Yh 9 b_35,Zy .i64 n_29,Zy .i64 n_30,Zy .i64 n_31,Zy .u64 n_32]]))))))))))) (Zd (chk (decide (t18≤1000000)&&Xh [n_18,Wk n_9 n_8] Wn) (some (Xf [Zy .i64 (Yk (Yg n_12 n_23 [n_18,Wk n_9 n_8])),Yx (Yj (Yg n_12 n_23 [n_18,Wk n_9 n_8]))],[]))) (kT fun vs=>cInt .i64 vs fun n_27 r=>let t30:Vx×Yf×Bool:=Vq n t0 n_16 b_24 (Yq b b_10 b_11) (Yq b_21 b_22 b_24) n_6 n_12 n_27 n_15 n_7 n_21 n_22 4 n_7;let t29:Yf×Bool:=Yj t30;let t28:Bool:=Yj t29;let t27:Ww:=if t28=true then Wj (Yw b_24 (Zh Zm b_25)) (Yk t30) (Yk t29) true else t9;let t26:Yf:=Xx t27;cBool r fun b r=>onNil r (sel (!b) t15 (Zd t17 (kI .i64 fun n=>sel (!n==2) t16 (Zd (chk t20 (some (Yz [Zz (Xy (Zb t27)),Yh 9 (Zh Xz (Ym (Zb t27))),Zf (Yb t27),Zy .i64 (Xu t26),Zz (Zj (Zv t26)),Zz (Zk (Zv t26)),Zz (Zq (Zv t26)),Zz (Zj (Zu t26)),Zz (Zk (Zu t26)),Zz (Zq (Zu t26)),Zz (Zj (Zw t26)),Zz (Zk (Zw t26)),Zz (Zq (Zw t26)),Zy .u64 (Yv t26),Zy .u64 (Yp t26),Zy .u64 (Yu t26),Zf (Xw t26),Zy .i64 (Yd t26),Zy .i64 (Xv t26),Yx (Xg t27)],t14))) fun (r:AV×Blocks)=>onConsB (Yj r) fun (x:List AV) (r_50:List (List AV))=>cInt .i64 x fun n r_51=>cStr r_51 fun b r_52=>cStr r_52 fun b_27 r_53=>cStr r_53 fun b_28 r_54=>cInt .i64 r_54 fun n_28 r_55=>cStr r_55 fun b_29 r_56=>cBs r_56 fun b_30 r_57=>cStr r_57 fun b_31 r_58=>cStr r_58 fun b_32 r_59=>cBs r_59 fun b_33 r_60=>cStr r_60 fun b_34 r_61=>cSl 9 r_61 fun b_35 r_62=>cInt .i64 r_62 fun n_29 r_63=>cInt .i64 r_63 fun n_30 r_64=>cInt .i64 r_64 fun n_31 r_65=>cInt .u64 r_65 fun n_32 r_66=>onNil r_66 (onNilB r_50 (Xj (Yk r) fun cs=>cStr cs fun b_36 r=>cSl 9 r fun b_37 r=>cBs r fun b_38 r=>cInt .i64 r fun n_33 r=>cStr r fun b_39 r=>cStr r fun b_40 r=>cStr r fun b_41 r=>cStr r fun b_42 r=>cStr r fun b_43 r=>cStr r fun b_44 r=>cStr r fun b_45 r=>cStr r fun b_46 r=>cStr r fun b_47 r=>cInt .u64 r fun n_34 r=>cInt .u64 r fun n_35 r=>cInt .u64 r fun n_36 r=>cBs r fun b_48 r=>cInt .i64 r fun n_37 r=>cInt .i64 r fun n_38 r=>cBool r fun b_49 r=>onNil r (some (Yz [Zz b_36,Yh 9 b_37,Zf b_38,Zy .i64 n_33,Zz b_39,Zz b_40,Zz b_41,Zz b_42,Zz b_43,Zz b_44,Zz b_45,Zz b_46,Zz b_47,Zy .u64 n_34,Zy .u64 n_35,Zy .u64 n_36,Zf b_48,Zy .i64 n_37,Zy .i64 n_38,Yx b_49],[[Zy .i64 n,Zz b,Zz b_27,Zz b_28,Zy .i64 n_28,Zz b_29,Zf b_30,Zz b_31,Zz b_32,Zf b_33,Zz b_34,Yh 9 b_35,Zy .i64 n_29,Zy .i64 n_30,Zy .i64 n_31,Zy .u64 n_32]]))))))))))))))))))))))))))):Option (AV×Blocks))) (by kernel_rfl) ?_
  delta kT kI
  try dsimp only [cStr,cBs,cBool,cU8,cInt,cSl,l63]
  simp only [Wf,decide_eq_true_eq] at hpre
  obtain ⟨⟨hpre,hop⟩,hn⟩:=hpre
  obtain ⟨⟨⟨⟨⟨⟨⟨⟨⟨⟨⟨c1,c2⟩,c3⟩,c4⟩,c5⟩,c6⟩,c7⟩,c8⟩,c9⟩,c10⟩,hall⟩,hlen⟩:=hpre
  subst hop
  obtain ⟨es,rfl,hok⟩:=Wm hall
  rw [Xq]
  simp only [Xb] at hlen
  have hlb:[(103:UInt8),(84:UInt8),(75:UInt8),(84:UInt8)]=Kerb.lTicket:=rfl
  have hlb2:[(116:UInt8),(107:UInt8),(116:UInt8),(71:UInt8)]=Kerb.lGiven:=rfl
  have bl:decide (bx.length≤140737488355328)=true:=by simp;omega
  have q8:=Kerb.isU64_iff.1 c8
  have q88:(decide (0≤se)&&decide (se<18446744073709551616))=true:=by simp;omega
  simp only [hlb,hlb2,Xq,hall,hn,Xb,hlen,bl,c1,c2,c3,c4,c5,c6,c7,c8,c9,c10,q88,decide_true,Wz,List.map_nil,↓A0,A0]
  unfold Kerb.kaGetTicket Kerb.kaLife2
  dsimp only
  have tb:=Kerb.presented_bd ⟨rl,es⟩ now ad sk ⟨2,⟨u1,u2,u3⟩,kv,qr,tk,sv,ins,bx⟩
  generalize Kerb.kaPresented ⟨rl,es⟩ now ad sk ⟨2,⟨u1,u2,u3⟩,kv,qr,tk,sv,ins,bx⟩=T at tb ⊢
  by_cases h1:T.err=0
  case neg =>
   rw [sel_pos (by simpa using h1),if_pos h1]
   by_cases hr:(Zx ⟨2,T.err,[]⟩).err=0
   ·rw [sel_neg (by simpa using hr)];rfl
   ·rw [sel_pos (by simpa using hr),Zn hr];rfl
  rw [sel_neg (by simpa using h1),if_neg (not_not_intro h1)]
  have ol:=Kerb.openBox_len bx 7 T.val.session
  generalize Vp bx 7 T.val.session=O at ol ⊢
  obtain ⟨bd,ok⟩:=O
  dsimp only at ol ⊢
  cases ok
  ·rw [sel_pos (by rfl),if_pos rfl]
   by_cases hr:(Zx ⟨2,31,[]⟩).err=0
   ·rw [sel_neg (by simpa using hr)];rfl
   ·rw [sel_pos (by simpa using hr),Zn hr];rfl
  rw [sel_neg (by rfl),if_neg (show ¬ (true=false) from by decide)]
  rw [chk_of (by simp;omega)]
  have sb:=Kerb.kaSecOf_bd bd Kerb.lTicket now sk
  generalize Vj bd Kerb.lTicket now sk=S at sb ⊢
  by_cases h3:S.err=0
  case neg =>
   rw [sel_pos (by simpa using h3),if_pos h3]
   by_cases hr:(Zx ⟨2,S.err,[]⟩).err=0
   ·rw [sel_neg (by simpa using hr)];rfl
   ·rw [sel_pos (by simpa using hr),Zn hr];rfl
  rw [sel_neg (by simpa using h3),if_neg (not_not_intro h3)]
  have vb:=Kerb.svc_ok (d:=⟨rl,es⟩) (n:=sv) (i:=ins) (now:=now) hok
  generalize Kerb.svc ⟨rl,es⟩ [] sv ins now=V at vb ⊢
  by_cases h2:V.err=0
  case neg =>
   rw [sel_pos (by simpa using h2),if_pos h2]
   by_cases hr:(Zx ⟨2,V.err,[]⟩).err=0
   ·rw [sel_neg (by simpa using hr)];rfl
   ·rw [sel_pos (by simpa using hr),Zn hr];rfl
  rw [sel_neg (by simpa using h2),if_neg (not_not_intro h2)]
  have t0:decide (0≤S.val.time)=true:=decide_eq_true sb.1.1
  have t1:decide (S.val.time≤4294967295)=true:=decide_eq_true sb.1.2
  have s1:Wn S.val.stop=true:=by rw [Kerb.isI64_iff];unfold Kerb.KaSecret.bd at sb;omega
  have s2:=Kerb.tEnd_i64 T.val.issued T.val.life
  have k1:decide (T.val.client.name.length≤9223372036854775807)=true:=decide_eq_true (Wq tb.1 (by decide))
  have k2:decide (T.val.client.inst.length≤9223372036854775807)=true:=decide_eq_true (Wq tb.2.1 (by decide))
  have k3:decide (T.val.client.realm.length≤9223372036854775807)=true:=decide_eq_true (Wq tb.2.2.1 (by decide))
  try simp only [k1,k2,k3,Wz,Bool.true_and]
  have g0:Vw [Zy Wh V.expires] (Wu 0) Vk=Zy Wh V.expires:=rfl
  rw [chk_of (by rfl),g0,onInt_int]
  by_cases hv:V.expires=0
  ·rw [sel_neg (by simp [hv])]
   rw [chk_of (by simp [s1,s2,vb.2.2.2]),show Wx [S.val.stop,Wk T.val.issued T.val.life] V.expires=[S.val.stop,Wk T.val.issued T.val.life] from by simp [Wx,hv]]
   generalize Yg now V.life [S.val.stop,Wk T.val.issued T.val.life]=L
   obtain ⟨life,ok⟩:=L
   dsimp only
   cases ok
   ·rw [sel_pos (by rfl),if_pos rfl]
    by_cases hr:(Zx ⟨2,3,[]⟩).err=0
    ·rw [sel_neg (by simpa using hr)];rfl
    ·rw [sel_pos (by simpa using hr),Zn hr];rfl
   rw [sel_neg (by rfl),if_neg (show ¬ (true=false) from by decide)]
   by_cases h5:Wg se=2
   case neg =>
    rw [sel_pos (by simpa using h5),if_pos h5]
    by_cases hr:(Zx ⟨2,10,[]⟩).err=0
    ·rw [sel_neg (by simpa using hr)];rfl
    ·rw [sel_pos (by simpa using hr),Zn hr];rfl
   rw [sel_neg (by simpa using h5),if_neg (not_not_intro h5),chk_of (by rw [tb.2.2.2,vb.1,t0,t1];rfl)]
   rw [Kerb.kaGive_out]
  ·rw [sel_pos (by simpa using hv),chk_of (by rfl)]
   rw [chk_of (by simp [s1,s2,vb.2.2.2]),show Wx [S.val.stop,Wk T.val.issued T.val.life] V.expires=[S.val.stop,Wk T.val.issued T.val.life,V.expires] from by simp [Wx,hv]]
   generalize Yg now V.life [S.val.stop,Wk T.val.issued T.val.life,V.expires]=L
   obtain ⟨life,ok⟩:=L
   dsimp only
   cases ok
   ·rw [sel_pos (by rfl),if_pos rfl]
    by_cases hr:(Zx ⟨2,3,[]⟩).err=0
    ·rw [sel_neg (by simpa using hr)];rfl
    ·rw [sel_pos (by simpa using hr),Zn hr];rfl
   rw [sel_neg (by rfl),if_neg (show ¬ (true=false) from by decide)]
   by_cases h5:Wg se=2
   case neg =>
    rw [sel_pos (by simpa using h5),if_pos h5]
    by_cases hr:(Zx ⟨2,10,[]⟩).err=0
    ·rw [sel_neg (by simpa using hr)];rfl
    ·rw [sel_pos (by simpa using hr),Zn hr];rfl
   rw [sel_neg (by simpa using h5),if_neg (not_not_intro h5),chk_of (by rw [tb.2.2.2,vb.1,t0,t1];rfl)]
   rw [Kerb.kaGive_out]
 ·cases h
theorem w159:Walked Tryz.prog G 159 13 sp159:=by
 refine ⟨Tryz.f159,Tryz.func159,by decide +kernel,rfl,fun xs bl r h=> ?_⟩
 unfold sp159 at h
 split at h
 ·rename_i dr dls en ei ek ev ex em ea ef et bd op u1 u2 u3 kv qr tk sv ins bx rl els now ad sk se
  obtain ⟨hpre,h2⟩:=chk_inv h;cases h2
  show runFnH (G.env 159 13) G.rts (G.own 159) Tryz.f159 _ _ [0]=_
  refine Eq.trans (b:=(let t0:List UInt8:=[(107:UInt8),(114:UInt8),(98:UInt8),(116:UInt8),(103:UInt8),(116:UInt8)];let t1:List UInt8:=[(116:UInt8),(103:UInt8),(115:UInt8),(84:UInt8)];let t2:List AV:=[Zy .i64 0,Zz [],Zz [],Zz [],Zz [],Zz [],Zz [],Zz [],Zz [],Zz [],Zy .u64 0,Zy .u64 0,Zy .u64 0,Zf [],Zy .i64 0,Zy .i64 0,Yx false];let t4:Kerb.Dec Kerb.KaSecret:=Vj bd [(103:UInt8),(84:UInt8),(71:UInt8),(83:UInt8)] now sk;let t3:Kerb.KaSecret:=Yy t4;Zd (chk (decide (Zp bd≤1000000)) (some (Xf [Yz [Zz (Kerb.KaSecret.label t3),Zy .i64 (Kerb.KaSecret.time t3),Zy .i64 (Kerb.KaSecret.start t3),Zy .i64 (Kerb.KaSecret.stop t3),Zy .u64 (Kerb.KaSecret.new t3)],Zy .i64 (Vy t4)],[[Zy .i64 op,Zz u1,Zz u2,Zz u3,Zy .i64 kv,Zz qr,Zf tk,Zz sv,Zz ins,Zf bx,Zz rl,Yh 9 els,Zy .i64 now,Zy .i64 ad,Zy .i64 sk,Zy .u64 se]]))) fun (r:AV×Blocks)=>onConsB (Yj r) fun (x:List AV) (r_1:List (List AV))=>cInt .i64 x fun n r_2=>let t5:Bool := !Xp (Zx (Zg n 10 []))==0;let t6:Bool := !Xp (Zx (Zg n 3 []))==0;let t7:List AV:=Zf (Xk (Zx (Zg n 3 [])))::t2;let t8:List AV:=Zf (Xk (Zx (Zg n 10 [])))::t2;cStr r_2 fun b r_3=>cStr r_3 fun b_1 r_4=>let t9:Bool:=l63 b&&l63 b_1;cStr r_4 fun b_2 r_5=>let t10:Bool:=t9&&l63 b_2&&true;cInt .i64 r_5 fun n_1 r_6=>cStr r_6 fun b_3 r_7=>cBs r_7 fun b_4 r_8=>cStr r_8 fun b_5 r_9=>cStr r_9 fun b_6 r_10=>cBs r_10 fun b_7 r_11=>cStr r_11 fun b_8 r_12=>let t11:Bool:=t10&&l63 b_8&&l63 b_8&&true;cSl 9 r_12 fun b_9 r_13=>let t12:Ww:=Wj (Yw b_8 (Zh Zm b_9)) [] Kerb.noIssue false;let t13:AV:=Yz (Zz b_8::Yh 9 b_9::Zf []::t2);let t14:AV:=Yz (Zz b_8::Yh 9 b_9::t7);let t15:AV:=Yz (Zz b_8::Yh 9 b_9::t8);cInt .i64 r_13 fun n_2 r_14=>let t16:Kerb.Svc:=Kerb.svc (Yw b_8 (Zh Zm b_9)) (Zh Kerb.toCross []) t0 b_8 n_2;cInt .i64 r_14 fun n_3 r_15=>cInt .i64 r_15 fun n_4 r_16=>cInt .u64 r_16 fun n_5 r_17=>let t17:List (List AV):=[[Zy .i64 n,Zz b,Zz b_1,Zz b_2,Zy .i64 n_1,Zz b_3,Zf b_4,Zz b_5,Zz b_6,Zf b_7,Zz b_8,Yh 9 b_9,Zy .i64 n_2,Zy .i64 n_3,Zy .i64 n_4,Zy .u64 n_5]];let t18:Option (AV×Blocks):=chk (decide (0≤n_5)&&decide (n_5<18446744073709551616)) (some (Zy .i64 (Wg n_5),[]));let t21:Bool:=t11&&Wy n_5&&Wy ek;let t19:Option (AV×Blocks):=sel t6 (some (t13,t17)) (some (t14,t17));let t20:Option (AV×Blocks):=sel t5 (some (t13,t17)) (some (t15,t17));onNil r_17 (onNilB r_1 (AV.onTup (Yk r) fun vs=>onCons vs fun x r=>Xj x fun cs=>cStr cs fun b_10 r_18=>cInt .i64 r_18 fun n_6 r_19=>cInt .i64 r_19 fun n_7 r_20=>cInt .i64 r_20 fun n_8 r_21=>cInt .u64 r_21 fun n_9 r_22=>onNil r_22 (cInt .i64 r fun n_10 r=>onNil r (sel (!n_10==0) (sel (!Xp (Zx (Zg n n_10 []))==0) (some (t13,t17)) (some (Yz (Zz b_8::Yh 9 b_9::Zf (Xk (Zx (Zg n n_10 [])))::t2),t17))) (Zd (chk (Xh b_9 Xd&&decide (Zp b_9≤1000000)&&true&&true&&l63 b_8) (some (Xf [Zy .u64 (Kerb.Svc.key t16),Zy .i64 (Kerb.Svc.kvno t16),Zy .i64 (Kerb.Svc.life t16),Zy .i64 (Kerb.Svc.expires t16),Zy .i64 (Kerb.Svc.err t16)],[]))) (kT fun vs=>cInt .u64 vs fun n_11 r=>let t22:Bool:=t21&&Wy n_11&&true&&Xh b_9 Xd&&Xh dls Xd&&decide (0≤n_6)&&decide (n_6≤4294967295);cInt .i64 r fun n_12 r=>cInt .i64 r fun n_13 r=>cInt .i64 r fun n_14 r=>let t25:List AV:=[Zy .i64 ex,Zy .i64 n_14];let t23:Int:=(↑(Zp t25):Int);let t24:AV:=Vw t25 (Wu (Xm .i64 (0+1))) Vk;cInt .i64 r fun n_15 r=>onNil r (sel (!n_15==0) (sel (!Xp (Zx (Zg n n_15 []))==0) (some (t13,t17)) (some (Yz (Zz b_8::Yh 9 b_9::Zf (Xk (Zx (Zg n n_15 [])))::t2),t17))) (chk (decide (0<t23)&&true) (AV.onInt .i64 (Vw t25 (Wu 0) Vk) fun n_16=>let t27:List AV:=[Zy .i64 n_8]++[Zy .i64 n_16];let t26:Nat:=Zp t27;sel (!n_16==0) (chk (room (Zp [Zy .i64 n_8]+Zp [Zy .i64 n_16]) (nat_lit 8)) (chk (decide (Xm .i64 (0+1)<t23)&&true) (AV.onInt .i64 t24 fun n_17=>sel (!n_17==0) (chk (room (t26+Zp [Zy .i64 n_17]) (nat_lit 8)) (Zd (chk (decide (Zp (t27++[Zy .i64 n_17])≤1000000)&&Xh [n_8,n_16,n_17] Wn) (some (Xf [Zy .i64 (Yk (Yg n_2 (Wd em n_13) [n_8,n_16,n_17])),Yx (Yj (Yg n_2 (Wd em n_13) [n_8,n_16,n_17]))],[]))) (kT fun vs=>cInt .i64 vs fun n_18 r=>let t32:Vx×Yf×Bool:=Vq n t1 n_6 b_8 (Yq b b_1 b_2) (Yq t0 b_8 b_8) n_3 n_2 n_18 n_5 ek n_11 n_12 3 0;let t31:Yf×Bool:=Yj t32;let t30:Bool:=Yj t31;let t29:Ww:=if t30=true then Wj (Yw dr (Zh Zm dls)) (Yk t32) (Yk t31) true else t12;let t28:Yf:=Xx t29;cBool r fun b r=>onNil r (sel (!b) t19 (Zd t18 (kI .i64 fun n=>sel (!n==2) t20 (Zd (chk t22 (some (Yz [Zz (Xy (Zb t29)),Yh 9 (Zh Xz (Ym (Zb t29))),Zf (Yb t29),Zy .i64 (Xu t28),Zz (Zj (Zv t28)),Zz (Zk (Zv t28)),Zz (Zq (Zv t28)),Zz (Zj (Zu t28)),Zz (Zk (Zu t28)),Zz (Zq (Zu t28)),Zz (Zj (Zw t28)),Zz (Zk (Zw t28)),Zz (Zq (Zw t28)),Zy .u64 (Yv t28),Zy .u64 (Yp t28),Zy .u64 (Yu t28),Zf (Xw t28),Zy .i64 (Yd t28),Zy .i64 (Xv t28),Yx (Xg t29)],t17))) fun (r:AV×Blocks)=>onConsB (Yj r) fun (x:List AV) (r_23:List (List AV))=>cInt .i64 x fun n r_24=>cStr r_24 fun b r_25=>cStr r_25 fun b_11 r_26=>cStr r_26 fun b_12 r_27=>cInt .i64 r_27 fun n_19 r_28=>cStr r_28 fun b_13 r_29=>cBs r_29 fun b_14 r_30=>cStr r_30 fun b_15 r_31=>cStr r_31 fun b_16 r_32=>cBs r_32 fun b_17 r_33=>cStr r_33 fun b_18 r_34=>cSl 9 r_34 fun b_19 r_35=>cInt .i64 r_35 fun n_20 r_36=>cInt .i64 r_36 fun n_21 r_37=>cInt .i64 r_37 fun n_22 r_38=>cInt .u64 r_38 fun n_23 r_39=>onNil r_39 (onNilB r_23 (Xj (Yk r) fun cs=>cStr cs fun b_20 r=>cSl 9 r fun b_21 r=>cBs r fun b_22 r=>cInt .i64 r fun n_24 r=>cStr r fun b_23 r=>cStr r fun b_24 r=>cStr r fun b_25 r=>cStr r fun b_26 r=>cStr r fun b_27 r=>cStr r fun b_28 r=>cStr r fun b_29 r=>cStr r fun b_30 r=>cStr r fun b_31 r=>cInt .u64 r fun n_25 r=>cInt .u64 r fun n_26 r=>cInt .u64 r fun n_27 r=>cBs r fun b_32 r=>cInt .i64 r fun n_28 r=>cInt .i64 r fun n_29 r=>cBool r fun b_33 r=>onNil r (some (Yz [Zz b_20,Yh 9 b_21,Zf b_22,Zy .i64 n_24,Zz b_23,Zz b_24,Zz b_25,Zz b_26,Zz b_27,Zz b_28,Zz b_29,Zz b_30,Zz b_31,Zy .u64 n_25,Zy .u64 n_26,Zy .u64 n_27,Zf b_32,Zy .i64 n_28,Zy .i64 n_29,Yx b_33],[[Zy .i64 n,Zz b,Zz b_11,Zz b_12,Zy .i64 n_19,Zz b_13,Zf b_14,Zz b_15,Zz b_16,Zf b_17,Zz b_18,Yh 9 b_19,Zy .i64 n_20,Zy .i64 n_21,Zy .i64 n_22,Zy .u64 n_23]]))))))))))) (Zd (chk (decide (t26≤1000000)&&Xh [n_8,n_16] Wn) (some (Xf [Zy .i64 (Yk (Yg n_2 (Wd em n_13) [n_8,n_16])),Yx (Yj (Yg n_2 (Wd em n_13) [n_8,n_16]))],[]))) (kT fun vs=>cInt .i64 vs fun n_18 r=>let t37:Vx×Yf×Bool:=Vq n t1 n_6 b_8 (Yq b b_1 b_2) (Yq t0 b_8 b_8) n_3 n_2 n_18 n_5 ek n_11 n_12 3 0;let t36:Yf×Bool:=Yj t37;let t35:Bool:=Yj t36;let t34:Ww:=if t35=true then Wj (Yw dr (Zh Zm dls)) (Yk t37) (Yk t36) true else t12;let t33:Yf:=Xx t34;cBool r fun b r=>onNil r (sel (!b) t19 (Zd t18 (kI .i64 fun n=>sel (!n==2) t20 (Zd (chk t22 (some (Yz [Zz (Xy (Zb t34)),Yh 9 (Zh Xz (Ym (Zb t34))),Zf (Yb t34),Zy .i64 (Xu t33),Zz (Zj (Zv t33)),Zz (Zk (Zv t33)),Zz (Zq (Zv t33)),Zz (Zj (Zu t33)),Zz (Zk (Zu t33)),Zz (Zq (Zu t33)),Zz (Zj (Zw t33)),Zz (Zk (Zw t33)),Zz (Zq (Zw t33)),Zy .u64 (Yv t33),Zy .u64 (Yp t33),Zy .u64 (Yu t33),Zf (Xw t33),Zy .i64 (Yd t33),Zy .i64 (Xv t33),Yx (Xg t34)],t17))) fun (r:AV×Blocks)=>onConsB (Yj r) fun (x:List AV) (r_23:List (List AV))=>cInt .i64 x fun n r_24=>cStr r_24 fun b r_25=>cStr r_25 fun b_11 r_26=>cStr r_26 fun b_12 r_27=>cInt .i64 r_27 fun n_19 r_28=>cStr r_28 fun b_13 r_29=>cBs r_29 fun b_14 r_30=>cStr r_30 fun b_15 r_31=>cStr r_31 fun b_16 r_32=>cBs r_32 fun b_17 r_33=>cStr r_33 fun b_18 r_34=>cSl 9 r_34 fun b_19 r_35=>cInt .i64 r_35 fun n_20 r_36=>cInt .i64 r_36 fun n_21 r_37=>cInt .i64 r_37 fun n_22 r_38=>cInt .u64 r_38 fun n_23 r_39=>onNil r_39 (onNilB r_23 (Xj (Yk r) fun cs=>cStr cs fun b_20 r=>cSl 9 r fun b_21 r=>cBs r fun b_22 r=>cInt .i64 r fun n_24 r=>cStr r fun b_23 r=>cStr r fun b_24 r=>cStr r fun b_25 r=>cStr r fun b_26 r=>cStr r fun b_27 r=>cStr r fun b_28 r=>cStr r fun b_29 r=>cStr r fun b_30 r=>cStr r fun b_31 r=>cInt .u64 r fun n_25 r=>cInt .u64 r fun n_26 r=>cInt .u64 r fun n_27 r=>cBs r fun b_32 r=>cInt .i64 r fun n_28 r=>cInt .i64 r fun n_29 r=>cBool r fun b_33 r=>onNil r (some (Yz [Zz b_20,Yh 9 b_21,Zf b_22,Zy .i64 n_24,Zz b_23,Zz b_24,Zz b_25,Zz b_26,Zz b_27,Zz b_28,Zz b_29,Zz b_30,Zz b_31,Zy .u64 n_25,Zy .u64 n_26,Zy .u64 n_27,Zf b_32,Zy .i64 n_28,Zy .i64 n_29,Yx b_33],[[Zy .i64 n,Zz b,Zz b_11,Zz b_12,Zy .i64 n_19,Zz b_13,Zf b_14,Zz b_15,Zz b_16,Zf b_17,Zz b_18,Yh 9 b_19,Zy .i64 n_20,Zy .i64 n_21,Zy .i64 n_22,Zy .u64 n_23]]))))))))))))) (chk (decide (Xm .i64 (0+1)<t23)&&true) (AV.onInt .i64 t24 fun n_17=>sel (!n_17==0) (chk (room (Zp [Zy .i64 n_8]+Zp [Zy .i64 n_17]) (nat_lit 8)) (Zd (chk (decide (Zp ([Zy .i64 n_8]++[Zy .i64 n_17])≤1000000)&&Xh [n_8,n_17] Wn) (some (Xf [Zy .i64 (Yk (Yg n_2 (Wd em n_13) [n_8,n_17])),Yx (Yj (Yg n_2 (Wd em n_13) [n_8,n_17]))],[]))) (kT fun vs=>cInt .i64 vs fun n_18 r=>let t42:Vx×Yf×Bool:=Vq n t1 n_6 b_8 (Yq b b_1 b_2) (Yq t0 b_8 b_8) n_3 n_2 n_18 n_5 ek n_11 n_12 3 0;let t41:Yf×Bool:=Yj t42;let t40:Bool:=Yj t41;let t39:Ww:=if t40=true then Wj (Yw dr (Zh Zm dls)) (Yk t42) (Yk t41) true else t12;let t38:Yf:=Xx t39;cBool r fun b r=>onNil r (sel (!b) t19 (Zd t18 (kI .i64 fun n=>sel (!n==2) t20 (Zd (chk t22 (some (Yz [Zz (Xy (Zb t39)),Yh 9 (Zh Xz (Ym (Zb t39))),Zf (Yb t39),Zy .i64 (Xu t38),Zz (Zj (Zv t38)),Zz (Zk (Zv t38)),Zz (Zq (Zv t38)),Zz (Zj (Zu t38)),Zz (Zk (Zu t38)),Zz (Zq (Zu t38)),Zz (Zj (Zw t38)),Zz (Zk (Zw t38)),Zz (Zq (Zw t38)),Zy .u64 (Yv t38),Zy .u64 (Yp t38),Zy .u64 (Yu t38),Zf (Xw t38),Zy .i64 (Yd t38),Zy .i64 (Xv t38),Yx (Xg t39)],t17))) fun (r:AV×Blocks)=>onConsB (Yj r) fun (x:List AV) (r_23:List (List AV))=>cInt .i64 x fun n r_24=>cStr r_24 fun b r_25=>cStr r_25 fun b_11 r_26=>cStr r_26 fun b_12 r_27=>cInt .i64 r_27 fun n_19 r_28=>cStr r_28 fun b_13 r_29=>cBs r_29 fun b_14 r_30=>cStr r_30 fun b_15 r_31=>cStr r_31 fun b_16 r_32=>cBs r_32 fun b_17 r_33=>cStr r_33 fun b_18 r_34=>cSl 9 r_34 fun b_19 r_35=>cInt .i64 r_35 fun n_20 r_36=>cInt .i64 r_36 fun n_21 r_37=>cInt .i64 r_37 fun n_22 r_38=>cInt .u64 r_38 fun n_23 r_39=>onNil r_39 (onNilB r_23 (Xj (Yk r) fun cs=>cStr cs fun b_20 r=>cSl 9 r fun b_21 r=>cBs r fun b_22 r=>cInt .i64 r fun n_24 r=>cStr r fun b_23 r=>cStr r fun b_24 r=>cStr r fun b_25 r=>cStr r fun b_26 r=>cStr r fun b_27 r=>cStr r fun b_28 r=>cStr r fun b_29 r=>cStr r fun b_30 r=>cStr r fun b_31 r=>cInt .u64 r fun n_25 r=>cInt .u64 r fun n_26 r=>cInt .u64 r fun n_27 r=>cBs r fun b_32 r=>cInt .i64 r fun n_28 r=>cInt .i64 r fun n_29 r=>cBool r fun b_33 r=>onNil r (some (Yz [Zz b_20,Yh 9 b_21,Zf b_22,Zy .i64 n_24,Zz b_23,Zz b_24,Zz b_25,Zz b_26,Zz b_27,Zz b_28,Zz b_29,Zz b_30,Zz b_31,Zy .u64 n_25,Zy .u64 n_26,Zy .u64 n_27,Zf b_32,Zy .i64 n_28,Zy .i64 n_29,Yx b_33],[[Zy .i64 n,Zz b,Zz b_11,Zz b_12,Zy .i64 n_19,Zz b_13,Zf b_14,Zz b_15,Zz b_16,Zf b_17,Zz b_18,Yh 9 b_19,Zy .i64 n_20,Zy .i64 n_21,Zy .i64 n_22,Zy .u64 n_23]]))))))))))) (Zd (chk (decide (Zp [Zy .i64 n_8]≤1000000)&&Xh [n_8] Wn) (some (Xf [Zy .i64 (Yk (Yg n_2 (Wd em n_13) [n_8])),Yx (Yj (Yg n_2 (Wd em n_13) [n_8]))],[]))) (kT fun vs=>cInt .i64 vs fun n_18 r=>let t47:Vx×Yf×Bool:=Vq n t1 n_6 b_8 (Yq b b_1 b_2) (Yq t0 b_8 b_8) n_3 n_2 n_18 n_5 ek n_11 n_12 3 0;let t46:Yf×Bool:=Yj t47;let t45:Bool:=Yj t46;let t44:Ww:=if t45=true then Wj (Yw dr (Zh Zm dls)) (Yk t47) (Yk t46) true else t12;let t43:Yf:=Xx t44;cBool r fun b r=>onNil r (sel (!b) t19 (Zd t18 (kI .i64 fun n=>sel (!n==2) t20 (Zd (chk t22 (some (Yz [Zz (Xy (Zb t44)),Yh 9 (Zh Xz (Ym (Zb t44))),Zf (Yb t44),Zy .i64 (Xu t43),Zz (Zj (Zv t43)),Zz (Zk (Zv t43)),Zz (Zq (Zv t43)),Zz (Zj (Zu t43)),Zz (Zk (Zu t43)),Zz (Zq (Zu t43)),Zz (Zj (Zw t43)),Zz (Zk (Zw t43)),Zz (Zq (Zw t43)),Zy .u64 (Yv t43),Zy .u64 (Yp t43),Zy .u64 (Yu t43),Zf (Xw t43),Zy .i64 (Yd t43),Zy .i64 (Xv t43),Yx (Xg t44)],t17))) fun (r:AV×Blocks)=>onConsB (Yj r) fun (x:List AV) (r_23:List (List AV))=>cInt .i64 x fun n r_24=>cStr r_24 fun b r_25=>cStr r_25 fun b_11 r_26=>cStr r_26 fun b_12 r_27=>cInt .i64 r_27 fun n_19 r_28=>cStr r_28 fun b_13 r_29=>cBs r_29 fun b_14 r_30=>cStr r_30 fun b_15 r_31=>cStr r_31 fun b_16 r_32=>cBs r_32 fun b_17 r_33=>cStr r_33 fun b_18 r_34=>cSl 9 r_34 fun b_19 r_35=>cInt .i64 r_35 fun n_20 r_36=>cInt .i64 r_36 fun n_21 r_37=>cInt .i64 r_37 fun n_22 r_38=>cInt .u64 r_38 fun n_23 r_39=>onNil r_39 (onNilB r_23 (Xj (Yk r) fun cs=>cStr cs fun b_20 r=>cSl 9 r fun b_21 r=>cBs r fun b_22 r=>cInt .i64 r fun n_24 r=>cStr r fun b_23 r=>cStr r fun b_24 r=>cStr r fun b_25 r=>cStr r fun b_26 r=>cStr r fun b_27 r=>cStr r fun b_28 r=>cStr r fun b_29 r=>cStr r fun b_30 r=>cStr r fun b_31 r=>cInt .u64 r fun n_25 r=>cInt .u64 r fun n_26 r=>cInt .u64 r fun n_27 r=>cBs r fun b_32 r=>cInt .i64 r fun n_28 r=>cInt .i64 r fun n_29 r=>cBool r fun b_33 r=>onNil r (some (Yz [Zz b_20,Yh 9 b_21,Zf b_22,Zy .i64 n_24,Zz b_23,Zz b_24,Zz b_25,Zz b_26,Zz b_27,Zz b_28,Zz b_29,Zz b_30,Zz b_31,Zy .u64 n_25,Zy .u64 n_26,Zy .u64 n_27,Zf b_32,Zy .i64 n_28,Zy .i64 n_29,Yx b_33],[[Zy .i64 n,Zz b,Zz b_11,Zz b_12,Zy .i64 n_19,Zz b_13,Zf b_14,Zz b_15,Zz b_16,Zf b_17,Zz b_18,Yh 9 b_19,Zy .i64 n_20,Zy .i64 n_21,Zy .i64 n_22,Zy .u64 n_23]]))))))))))))))))))))):Option (AV×Blocks))) (by kernel_rfl) ?_
  delta kT kI
  try dsimp only [cStr,cBs,cBool,cU8,cInt,cSl,l63]
  simp only [Wf,decide_eq_true_eq] at hpre
  obtain ⟨⟨⟨⟨⟨⟨⟨hpre,hd⟩,hbl⟩,hop⟩,hn⟩,e1⟩,e2⟩,e3⟩:=hpre
  obtain ⟨⟨⟨⟨⟨⟨⟨⟨⟨⟨⟨c1,c2⟩,c3⟩,c4⟩,c5⟩,c6⟩,c7⟩,c8⟩,c9⟩,c10⟩,hall⟩,hlen⟩:=hpre
  obtain ⟨es,rfl,hok⟩:=Wm hall
  obtain ⟨ds,rfl,hok2⟩:=Wm hd
  rw [Xq,Xq]
  simp only [Xb] at hlen
  have hkr:[(107:UInt8),(114:UInt8),(98:UInt8),(116:UInt8),(103:UInt8),(116:UInt8)]=Vu:=rfl
  have hlb:[(103:UInt8),(84:UInt8),(71:UInt8),(83:UInt8)]=Kerb.lGet:=rfl
  have hlb2:[(116:UInt8),(103:UInt8),(115:UInt8),(84:UInt8)]=Kerb.lGot:=rfl
  have q8:=Kerb.isU64_iff.1 c8
  have q88:(decide (0≤se)&&decide (se<18446744073709551616))=true:=by simp;omega
  simp only [hkr,hlb,hlb2,Xq,hall,hd,Xb,hlen,hbl,c1,c2,c3,c4,c5,c6,c7,c8,e1,q88,decide_true,Wz,List.map_nil,↓A0,A0]
  unfold Kerb.kaAuthenticate Kerb.kaLife1
  dsimp only
  have sb:=Kerb.kaSecOf_bd bd Kerb.lGet now sk
  generalize Vj bd Kerb.lGet now sk=S at sb ⊢
  by_cases h1:S.err=0
  case neg =>
   rw [sel_pos (by simpa using h1),if_pos h1]
   by_cases hr:(Zx ⟨op,S.err,[]⟩).err=0
   ·rw [sel_neg (by simpa using hr)];rfl
   ·rw [sel_pos (by simpa using hr),Zn hr];rfl
  rw [sel_neg (by simpa using h1),if_neg (not_not_intro h1)]
  have vb:=Kerb.svc_ok (d:=⟨rl,es⟩) (n:=Vu) (i:=rl) (now:=now) hok
  generalize Kerb.svc ⟨rl,es⟩ [] Vu rl now=V at vb ⊢
  by_cases h2:V.err=0
  case neg =>
   rw [sel_pos (by simpa using h2),if_pos h2]
   by_cases hr:(Zx ⟨op,V.err,[]⟩).err=0
   ·rw [sel_neg (by simpa using hr)];rfl
   ·rw [sel_pos (by simpa using hr),Zn hr];rfl
  rw [sel_neg (by simpa using h2),if_neg (not_not_intro h2)]
  have t0:decide (0≤S.val.time)=true:=decide_eq_true sb.1.1
  have t1:decide (S.val.time≤4294967295)=true:=decide_eq_true sb.1.2
  have s1:Wn S.val.stop=true:=by rw [Kerb.isI64_iff];unfold Kerb.KaSecret.bd at sb;omega
  have g0:Vw [Zy Wh ex,Zy Wh V.expires] (Wu 0) Vk=Zy Wh ex:=rfl
  have g1:Vw [Zy Wh ex,Zy Wh V.expires] (Wu (Xm .i64 (0+1))) Vk=Zy Wh V.expires:=rfl
  rw [chk_of (by rfl),g0,onInt_int]
  by_cases hx:ex=0
  ·rw [sel_neg (by simp [hx]),chk_of (by rfl),g1,onInt_int]
   by_cases hv:V.expires=0
   ·rw [sel_neg (by simp [hv])]
    rw [chk_of (by simp [s1,e3,vb.2.2.2]),show Wx (Wx [S.val.stop] ex) V.expires=[S.val.stop] from by simp [Wx,hx,hv]]
    generalize Yg now (Wd em V.life) [S.val.stop]=L
    obtain ⟨life,ok⟩:=L
    dsimp only
    cases ok
    ·rw [sel_pos (by rfl),if_pos rfl]
     by_cases hr:(Zx ⟨op,3,[]⟩).err=0
     ·rw [sel_neg (by simpa using hr)];rfl
     ·rw [sel_pos (by simpa using hr),Zn hr];rfl
    rw [sel_neg (by rfl),if_neg (show ¬ (true=false) from by decide)]
    by_cases h5:Wg se=2
    case neg =>
     rw [sel_pos (by simpa using h5),if_pos h5]
     by_cases hr:(Zx ⟨op,10,[]⟩).err=0
     ·rw [sel_neg (by simpa using hr)];rfl
     ·rw [sel_pos (by simpa using hr),Zn hr];rfl
    rw [sel_neg (by simpa using h5),if_neg (not_not_intro h5),chk_of (by rw [vb.1,t0,t1];rfl)]
    rfl
   ·rw [sel_pos (by simpa using hv),chk_of (by rfl)]
    rw [chk_of (by simp [s1,e3,vb.2.2.2]),show Wx (Wx [S.val.stop] ex) V.expires=[S.val.stop,V.expires] from by simp [Wx,hx,hv]]
    generalize Yg now (Wd em V.life) [S.val.stop,V.expires]=L
    obtain ⟨life,ok⟩:=L
    dsimp only
    cases ok
    ·rw [sel_pos (by rfl),if_pos rfl]
     by_cases hr:(Zx ⟨op,3,[]⟩).err=0
     ·rw [sel_neg (by simpa using hr)];rfl
     ·rw [sel_pos (by simpa using hr),Zn hr];rfl
    rw [sel_neg (by rfl),if_neg (show ¬ (true=false) from by decide)]
    by_cases h5:Wg se=2
    case neg =>
     rw [sel_pos (by simpa using h5),if_pos h5]
     by_cases hr:(Zx ⟨op,10,[]⟩).err=0
     ·rw [sel_neg (by simpa using hr)];rfl
     ·rw [sel_pos (by simpa using hr),Zn hr];rfl
    rw [sel_neg (by simpa using h5),if_neg (not_not_intro h5),chk_of (by rw [vb.1,t0,t1];rfl)]
    rfl
  ·rw [sel_pos (by simpa using hx),chk_of (by rfl),chk_of (by rfl),g1,onInt_int]
   by_cases hv:V.expires=0
   ·rw [sel_neg (by simp [hv])]
    rw [chk_of (by simp [s1,e3,vb.2.2.2]),show Wx (Wx [S.val.stop] ex) V.expires=[S.val.stop,ex] from by simp [Wx,hx,hv]]
    generalize Yg now (Wd em V.life) [S.val.stop,ex]=L
    obtain ⟨life,ok⟩:=L
    dsimp only
    cases ok
    ·rw [sel_pos (by rfl),if_pos rfl]
     by_cases hr:(Zx ⟨op,3,[]⟩).err=0
     ·rw [sel_neg (by simpa using hr)];rfl
     ·rw [sel_pos (by simpa using hr),Zn hr];rfl
    rw [sel_neg (by rfl),if_neg (show ¬ (true=false) from by decide)]
    by_cases h5:Wg se=2
    case neg =>
     rw [sel_pos (by simpa using h5),if_pos h5]
     by_cases hr:(Zx ⟨op,10,[]⟩).err=0
     ·rw [sel_neg (by simpa using hr)];rfl
     ·rw [sel_pos (by simpa using hr),Zn hr];rfl
    rw [sel_neg (by simpa using h5),if_neg (not_not_intro h5),chk_of (by rw [vb.1,t0,t1];rfl)]
    rfl
   ·rw [sel_pos (by simpa using hv),chk_of (by rfl)]
    rw [chk_of (by simp [s1,e3,vb.2.2.2]),show Wx (Wx [S.val.stop] ex) V.expires=[S.val.stop,ex,V.expires] from by simp [Wx,hx,hv]]
    generalize Yg now (Wd em V.life) [S.val.stop,ex,V.expires]=L
    obtain ⟨life,ok⟩:=L
    dsimp only
    cases ok
    ·rw [sel_pos (by rfl),if_pos rfl]
     by_cases hr:(Zx ⟨op,3,[]⟩).err=0
     ·rw [sel_neg (by simpa using hr)];rfl
     ·rw [sel_pos (by simpa using hr),Zn hr];rfl
    rw [sel_neg (by rfl),if_neg (show ¬ (true=false) from by decide)]
    by_cases h5:Wg se=2
    case neg =>
     rw [sel_pos (by simpa using h5),if_pos h5]
     by_cases hr:(Zx ⟨op,10,[]⟩).err=0
     ·rw [sel_neg (by simpa using hr)];rfl
     ·rw [sel_pos (by simpa using hr),Zn hr];rfl
    rw [sel_neg (by simpa using h5),if_neg (not_not_intro h5),chk_of (by rw [vb.1,t0,t1];rfl)]
    rfl
 ·cases h
theorem w68:Walked Tryz.prog G 68 14 sp68:=by
 refine ⟨Tryz.f68,Tryz.func68,by decide +kernel,rfl,fun xs bl r h=> ?_⟩
 unfold sp68 at h
 split at h
 ·rename_i op u1 u2 u3 kv qr tk sv ins bx rl els now ad sk se
  obtain ⟨hpre,h2⟩:=chk_inv h;cases h2
  show runFnH (G.env 68 14) G.rts (G.own 68) Tryz.f68 _ _ [0]=_
  refine Eq.trans (b:=(let t1:List (List AV):=[[Zy .i64 op,Zz u1,Zz u2,Zz u3,Zy .i64 kv,Zz qr,Zf tk,Zz sv,Zz ins,Zf bx,Zz rl,Yh 9 els,Zy .i64 now,Zy .i64 ad,Zy .i64 sk,Zy .u64 se]];let t2:List AV:=[Zy .i64 0,Zz [],Zz [],Zz [],Zz [],Zz [],Zz [],Zz [],Zz [],Zz [],Zy .u64 0,Zy .u64 0,Zy .u64 0,Zf [],Zy .i64 0,Zy .i64 0,Yx false];let t3:Bool:=l63 u1&&l63 u2&&l63 u3&&l63 qr&&l63 sv&&l63 ins&&l63 rl&&Wy se&&decide (Zp tk≤1000000)&&decide (Zp bx≤1000000)&&Xh els Xd&&decide (Zp els≤1000000);let t0:Option (AV×Blocks):=some (Yz (Zz rl::Yh 9 els::Zf []::t2),t1);sel (!u3==rl) (sel (!Xp (Zx (Zg op 8 []))==0) t0 (some (Yz (Zz rl::Yh 9 els::Zf (Xk (Zx (Zg op 8 [])))::t2),t1))) (Zd (chk (Xh els Xd&&decide (Zp els≤1000000)) (some (Xf [Zy .i64 (Yk (Kerb.clientEnt (Yw rl (Zh Zm els)) u1 u2 now)),Zy .i64 (Yj (Kerb.clientEnt (Yw rl (Zh Zm els)) u1 u2 now))],[]))) (kT fun vs=>cInt .i64 vs fun n r=>let t5:Ww:=Wj (Kerb.kaFailed (Yw rl (Zh Zm els)) n now) (Kerb.kaRefuse op 62) Kerb.noIssue false;let t4:Yf:=Xx t5;cInt .i64 r fun n_1 r=>onNil r (sel (!n_1==0) (sel (!Xp (Zx (Zg op n_1 []))==0) t0 (some (Yz (Zz rl::Yh 9 els::Zf (Xk (Zx (Zg op n_1 [])))::t2),t1))) (chk (decide (0≤n)&&decide (n<(↑(Zp els):Int))&&true) (Xj (Vw els (Wu n) Vk) fun cs=>cStr cs fun b r=>cStr r fun b_1 r=>cInt .u64 r fun n_2 r=>cInt .i64 r fun n_3 r=>cInt .i64 r fun n_4 r=>cInt .i64 r fun n_5 r=>cInt .i64 r fun n_6 r=>cInt .i64 r fun n_7 r=>cInt .i64 r fun n_8 r=>let t6:Kerb.Entry:=Kerb.Entry.mk b b_1 n_2 n_3 n_4 n_5 n_6 n_7 n_8;let t8:Kerb.Dec Kerb.Db:=Kerb.putEnt (Yw rl (Zh Zm els)) n (Kerb.Entry.mk b b_1 n_2 n_3 n_4 n_5 n_6 0 n_8);let t7:Kerb.Db:=Yy t8;onNil r (sel (decide (now<n_8)) (sel (!Xp (Zx (Zg op 81 []))==0) t0 (some (Yz (Zz rl::Yh 9 els::Zf (Xk (Zx (Zg op 81 [])))::t2),t1))) (Zd (chk (decide (Zp bx≤140737488355328)) (some (Xf [Zf (Yk (Vp bx 7 n_2)),Yx (Yj (Vp bx 7 n_2))],[]))) (kT fun vs=>cBs vs fun b_2 r=>cBool r fun b_3 r=>onNil r (sel (!b_3) (Zd (chk (t3&&decide (Kerb.Db.err (Yw rl (Zh Zm els))=0)&&decide (0≤n)&&decide (n<(↑(Zp els):Int))&&Kerb.kaOp op&&Vv now 4294967295) (some (Yz [Zz (Xy (Zb t5)),Yh 9 (Zh Xz (Ym (Zb t5))),Zf (Yb t5),Zy .i64 (Xu t4),Zz (Zj (Zv t4)),Zz (Zk (Zv t4)),Zz (Zq (Zv t4)),Zz (Zj (Zu t4)),Zz (Zk (Zu t4)),Zz (Zq (Zu t4)),Zz (Zj (Zw t4)),Zz (Zk (Zw t4)),Zz (Zq (Zw t4)),Zy .u64 (Yv t4),Zy .u64 (Yp t4),Zy .u64 (Yu t4),Zf (Xw t4),Zy .i64 (Yd t4),Zy .i64 (Xv t4),Yx (Xg t5)],t1))) fun (r:AV×Blocks)=>onConsB (Yj r) fun (x:List AV) (r_1:List (List AV))=>cInt .i64 x fun n r_2=>cStr r_2 fun b r_3=>cStr r_3 fun b_4 r_4=>cStr r_4 fun b_5 r_5=>cInt .i64 r_5 fun n_9 r_6=>cStr r_6 fun b_6 r_7=>cBs r_7 fun b_7 r_8=>cStr r_8 fun b_8 r_9=>cStr r_9 fun b_9 r_10=>cBs r_10 fun b_10 r_11=>cStr r_11 fun b_11 r_12=>cSl 9 r_12 fun b_12 r_13=>cInt .i64 r_13 fun n_10 r_14=>cInt .i64 r_14 fun n_11 r_15=>cInt .i64 r_15 fun n_12 r_16=>cInt .u64 r_16 fun n_13 r_17=>onNil r_17 (onNilB r_1 (Xj (Yk r) fun cs=>cStr cs fun b_13 r=>cSl 9 r fun b_14 r=>cBs r fun b_15 r=>cInt .i64 r fun n_14 r=>cStr r fun b_16 r=>cStr r fun b_17 r=>cStr r fun b_18 r=>cStr r fun b_19 r=>cStr r fun b_20 r=>cStr r fun b_21 r=>cStr r fun b_22 r=>cStr r fun b_23 r=>cStr r fun b_24 r=>cInt .u64 r fun n_15 r=>cInt .u64 r fun n_16 r=>cInt .u64 r fun n_17 r=>cBs r fun b_25 r=>cInt .i64 r fun n_18 r=>cInt .i64 r fun n_19 r=>cBool r fun b_26 r=>onNil r (some (Yz [Zz b_13,Yh 9 b_14,Zf b_15,Zy .i64 n_14,Zz b_16,Zz b_17,Zz b_18,Zz b_19,Zz b_20,Zz b_21,Zz b_22,Zz b_23,Zz b_24,Zy .u64 n_15,Zy .u64 n_16,Zy .u64 n_17,Zf b_25,Zy .i64 n_18,Zy .i64 n_19,Yx b_26],[[Zy .i64 n,Zz b,Zz b_4,Zz b_5,Zy .i64 n_9,Zz b_6,Zf b_7,Zz b_8,Zz b_9,Zf b_10,Zz b_11,Yh 9 b_12,Zy .i64 n_10,Zy .i64 n_11,Zy .i64 n_12,Zy .u64 n_13]]))))) (Zd (chk (l63 rl&&Xh els Xd&&decide (Zp els≤1000000)&&l63 b&&l63 b_1&&Wy n_2) (some (Xf [Yz [Zz (Xy t7),Yh 9 (Zh Xz (Ym t7))],Zy .i64 (Vy t8)],[]))) (kT fun vs=>onCons vs fun x r=>Xj x fun cs=>cStr cs fun b r_1=>cSl 9 r_1 fun b_4 r_2=>let t11:Ww:=Kerb.kaAuthenticate (Yw rl (Zh Zm els)) (Yw b (Zh Zm b_4)) t6 op now ad sk se (Yq u1 u2 u3) b_2;let t12:Ww:=Kerb.kaChangePw (Yw rl (Zh Zm els)) (Yw b (Zh Zm b_4)) n op now sk b_2;let t9:Yf:=Xx t11;let t10:Yf:=Xx t12;onNil r_2 (cInt .i64 r fun n_9 r=>onNil r (sel (!n_9==0) t0 (sel (op==1) (Zd (chk (t3&&Xh b_4 Xd&&decide (Zp b_2≤1000000)&&Kerb.kaOp op&&Vv now 4294967295&&Wy n_2&&Wn n_5&&Wn n_4) (some (Yz [Zz (Xy (Zb t11)),Yh 9 (Zh Xz (Ym (Zb t11))),Zf (Yb t11),Zy .i64 (Xu t9),Zz (Zj (Zv t9)),Zz (Zk (Zv t9)),Zz (Zq (Zv t9)),Zz (Zj (Zu t9)),Zz (Zk (Zu t9)),Zz (Zq (Zu t9)),Zz (Zj (Zw t9)),Zz (Zk (Zw t9)),Zz (Zq (Zw t9)),Zy .u64 (Yv t9),Zy .u64 (Yp t9),Zy .u64 (Yu t9),Zf (Xw t9),Zy .i64 (Yd t9),Zy .i64 (Xv t9),Yx (Xg t11)],t1))) fun (r:AV×Blocks)=>onConsB (Yj r) fun (x:List AV) (r_3:List (List AV))=>cInt .i64 x fun n r_4=>cStr r_4 fun b r_5=>cStr r_5 fun b_5 r_6=>cStr r_6 fun b_6 r_7=>cInt .i64 r_7 fun n_10 r_8=>cStr r_8 fun b_7 r_9=>cBs r_9 fun b_8 r_10=>cStr r_10 fun b_9 r_11=>cStr r_11 fun b_10 r_12=>cBs r_12 fun b_11 r_13=>cStr r_13 fun b_12 r_14=>cSl 9 r_14 fun b_13 r_15=>cInt .i64 r_15 fun n_11 r_16=>cInt .i64 r_16 fun n_12 r_17=>cInt .i64 r_17 fun n_13 r_18=>cInt .u64 r_18 fun n_14 r_19=>onNil r_19 (onNilB r_3 (Xj (Yk r) fun cs=>cStr cs fun b_14 r=>cSl 9 r fun b_15 r=>cBs r fun b_16 r=>cInt .i64 r fun n_15 r=>cStr r fun b_17 r=>cStr r fun b_18 r=>cStr r fun b_19 r=>cStr r fun b_20 r=>cStr r fun b_21 r=>cStr r fun b_22 r=>cStr r fun b_23 r=>cStr r fun b_24 r=>cStr r fun b_25 r=>cInt .u64 r fun n_16 r=>cInt .u64 r fun n_17 r=>cInt .u64 r fun n_18 r=>cBs r fun b_26 r=>cInt .i64 r fun n_19 r=>cInt .i64 r fun n_20 r=>cBool r fun b_27 r=>onNil r (some (Yz [Zz b_14,Yh 9 b_15,Zf b_16,Zy .i64 n_15,Zz b_17,Zz b_18,Zz b_19,Zz b_20,Zz b_21,Zz b_22,Zz b_23,Zz b_24,Zz b_25,Zy .u64 n_16,Zy .u64 n_17,Zy .u64 n_18,Zf b_26,Zy .i64 n_19,Zy .i64 n_20,Yx b_27],[[Zy .i64 n,Zz b,Zz b_5,Zz b_6,Zy .i64 n_10,Zz b_7,Zf b_8,Zz b_9,Zz b_10,Zf b_11,Zz b_12,Yh 9 b_13,Zy .i64 n_11,Zy .i64 n_12,Zy .i64 n_13,Zy .u64 n_14]]))))) (Zd (chk (t3&&Xh b_4 Xd&&decide (Zp b_4≤1000000)&&decide (Zp b_2≤1000000)&&Kerb.kaOp op&&decide (0≤n)&&decide (n<(↑(Zp els):Int))&&l63 b) (some (Yz [Zz (Xy (Zb t12)),Yh 9 (Zh Xz (Ym (Zb t12))),Zf (Yb t12),Zy .i64 (Xu t10),Zz (Zj (Zv t10)),Zz (Zk (Zv t10)),Zz (Zq (Zv t10)),Zz (Zj (Zu t10)),Zz (Zk (Zu t10)),Zz (Zq (Zu t10)),Zz (Zj (Zw t10)),Zz (Zk (Zw t10)),Zz (Zq (Zw t10)),Zy .u64 (Yv t10),Zy .u64 (Yp t10),Zy .u64 (Yu t10),Zf (Xw t10),Zy .i64 (Yd t10),Zy .i64 (Xv t10),Yx (Xg t12)],t1))) fun (r:AV×Blocks)=>onConsB (Yj r) fun (x:List AV) (r_3:List (List AV))=>cInt .i64 x fun n r_4=>cStr r_4 fun b r_5=>cStr r_5 fun b_5 r_6=>cStr r_6 fun b_6 r_7=>cInt .i64 r_7 fun n_10 r_8=>cStr r_8 fun b_7 r_9=>cBs r_9 fun b_8 r_10=>cStr r_10 fun b_9 r_11=>cStr r_11 fun b_10 r_12=>cBs r_12 fun b_11 r_13=>cStr r_13 fun b_12 r_14=>cSl 9 r_14 fun b_13 r_15=>cInt .i64 r_15 fun n_11 r_16=>cInt .i64 r_16 fun n_12 r_17=>cInt .i64 r_17 fun n_13 r_18=>cInt .u64 r_18 fun n_14 r_19=>onNil r_19 (onNilB r_3 (Xj (Yk r) fun cs=>cStr cs fun b_14 r=>cSl 9 r fun b_15 r=>cBs r fun b_16 r=>cInt .i64 r fun n_15 r=>cStr r fun b_17 r=>cStr r fun b_18 r=>cStr r fun b_19 r=>cStr r fun b_20 r=>cStr r fun b_21 r=>cStr r fun b_22 r=>cStr r fun b_23 r=>cStr r fun b_24 r=>cStr r fun b_25 r=>cInt .u64 r fun n_16 r=>cInt .u64 r fun n_17 r=>cInt .u64 r fun n_18 r=>cBs r fun b_26 r=>cInt .i64 r fun n_19 r=>cInt .i64 r fun n_20 r=>cBool r fun b_27 r=>onNil r (some (Yz [Zz b_14,Yh 9 b_15,Zf b_16,Zy .i64 n_15,Zz b_17,Zz b_18,Zz b_19,Zz b_20,Zz b_21,Zz b_22,Zz b_23,Zz b_24,Zz b_25,Zy .u64 n_16,Zy .u64 n_17,Zy .u64 n_18,Zf b_26,Zy .i64 n_19,Zy .i64 n_20,Yx b_27],[[Zy .i64 n,Zz b,Zz b_5,Zz b_6,Zy .i64 n_10,Zz b_7,Zf b_8,Zz b_9,Zz b_10,Zf b_11,Zz b_12,Yh 9 b_13,Zy .i64 n_11,Zy .i64 n_12,Zy .i64 n_13,Zy .u64 n_14]]))))))))))))))))))):Option (AV×Blocks))) (by kernel_rfl) ?_
  delta kT
  try dsimp only [cStr,cBs,cBool,cU8,cInt,cSl,l63]
  simp only [Wf,decide_eq_true_eq] at hpre
  obtain ⟨⟨⟨⟨hpre,he⟩,hop⟩,hop2⟩,hn⟩:=hpre
  obtain ⟨⟨⟨⟨⟨⟨⟨⟨⟨⟨⟨c1,c2⟩,c3⟩,c4⟩,c5⟩,c6⟩,c7⟩,c8⟩,c9⟩,c10⟩,hall⟩,hlen⟩:=hpre
  obtain ⟨es,rfl,hok⟩:=Wm hall
  rw [Xq] at he ⊢
  simp only [Xb] at hlen
  have bl:decide (bx.length≤140737488355328)=true:=by simp;omega
  simp only [Xq,hall,hn,hop,he,Xb,hlen,bl,c1,c2,c3,c4,c5,c6,c7,c8,c9,c10,eq_self,decide_true,Wz,List.map_nil,↓A0,A0]
  unfold Kerb.kaByUser
  dsimp only
  by_cases h1:u3=rl
  case neg =>
   rw [sel_pos (by simpa using h1),if_pos h1]
   by_cases hr:(Zx ⟨op,8,[]⟩).err=0
   ·rw [sel_neg (by simpa using hr)];rfl
   ·rw [sel_pos (by simpa using hr),Zn hr];rfl
  rw [sel_neg (by simp [h1]),if_neg (not_not_intro h1)]
  have hs := @Kerb.clie_lt ⟨rl,es⟩ u1 u2 now
  generalize Kerb.clientEnt ⟨rl,es⟩ u1 u2 now=F at hs ⊢
  obtain ⟨i,e⟩:=F
  dsimp only at hs ⊢
  by_cases h2:e=0
  case neg =>
   rw [sel_pos (by simpa using h2),if_pos h2]
   by_cases hr:(Zx ⟨op,e,[]⟩).err=0
   ·rw [sel_neg (by simpa using hr)];rfl
   ·rw [sel_pos (by simpa using hr),Zn hr];rfl
  obtain ⟨g1,g2⟩:=hs h2
  have g3:i<(es.length:Int):=by omega
  have i0:decide (0≤i)=true:=decide_eq_true g1
  have i1:decide (i<(es.length:Int))=true:=decide_eq_true g3
  have hp:=Kerb.putEnt_clear (d:=⟨rl,es⟩) (i:=i) he g1 g3
  have ck:=Kerb.kaClear_ok (d:=⟨rl,es⟩) (i:=i) hok
  have ca:=Kerb.all_ents ck
  have cl:=Kerb.kaClear_len ⟨rl,es⟩ i
  have cr:(Kerb.kaClear ⟨rl,es⟩ i).realm=rl:=rfl
  have ho:=hok _ (Kerb.ent_mem g2)
  rw [sel_neg (by simpa using h2),if_neg (not_not_intro h2),chk_of (by rw [i0,i1];rfl),Kerb.getD_ent g2]
  unfold Kerb.entAt at hp ⊢
  dsimp only at hp cl ⊢
  generalize Kerb.kaClear ⟨rl,es⟩ i=C at hp ck ca cl cr ⊢
  generalize es.getD i.toNat Kerb.noEntry=x at hp ho ⊢
  simp only [Xz,i0,i1,↓A0,A0]
  by_cases h3:now<x.till
  ·rw [sel_pos (by simpa using h3),if_pos h3]
   by_cases hr:(Zx ⟨op,81,[]⟩).err=0
   ·rw [sel_neg (by simpa using hr)];rfl
   ·rw [sel_pos (by simpa using hr),Zn hr];rfl
  rw [sel_neg (by simpa using h3),if_neg h3]
  have ol:=Kerb.openBox_len bx 7 x.key
  generalize Vp bx 7 x.key=O at ol ⊢
  obtain ⟨bd,ok⟩:=O
  dsimp only at ol ⊢
  cases ok
  ·rw [sel_pos (by rfl),if_pos rfl]
   try rw [chk_of (by rfl)]
   try rfl
  rw [sel_neg (by rfl),if_neg (show ¬ (true=false) from by decide)]
  obtain ⟨o1,o2,o3,o4,o5,o6,_⟩:=ho
  have bd1:decide (Zp bd≤1000000)=true:=by simp;omega
  have cl2:decide (C.entries.length≤1000000)=true:=by simp;omega
  have cr2:decide (C.realm.length≤9223372036854775807)=true:=by rw [cr];exact decide_eq_true c7
  simp only [o1,o2,o3,o5,o6,hp,ca,cr2,cl2,c7,bd1,Xb,Xq,decide_true,Wz,eq_self,↓A0,A0]
  rw [sel_neg (by rfl)]
  by_cases h4:op=1
  ·rw [sel_pos (by simpa using h4),if_pos h4]
  ·rw [sel_neg (by simpa using h4),if_neg h4]
 ·cases h
theorem w25:Walked Tryz.prog G 25 15 sp25:=by
 refine ⟨Tryz.f25,Tryz.func25,by decide +kernel,rfl,fun xs bl r h=> ?_⟩
 unfold sp25 at h
 split at h
 ·rename_i rl els now ad sk se msg
  obtain ⟨hpre,h2⟩:=chk_inv h;cases h2
  refine Eq.trans (b:=(let t0:Option (AV×Blocks):=some (Xf [Yz [Zz rl,Yh 9 els],Zf [],Yz [Zy .i64 0,Zz [],Zz [],Zz [],Zz [],Zz [],Zz [],Zz [],Zz [],Zz [],Zy .u64 0,Zy .u64 0,Zy .u64 0,Zf [],Zy .i64 0,Zy .i64 0],Yx false],[]);let t1:List AV:=[Zz rl,Yh 9 els,Zy .i64 now,Zy .i64 ad,Zy .i64 sk,Zy .u64 se];sel (decide (now<0)) t0 (sel (decide (now>4294967295)) t0 (sel (decide (ad<0)) t0 (sel (decide (ad>4294967295)) t0 (Zd (chk (decide (Zp msg≤140737488355328)) (some (Xf [Yz [Zy .i64 (Kerb.KaRequest.op (Yy (Yn msg))),Zz (Zj (Vn (Yy (Yn msg)))),Zz (Zk (Vn (Yy (Yn msg)))),Zz (Zq (Vn (Yy (Yn msg)))),Zy .i64 (Kerb.KaRequest.kvno (Yy (Yn msg))),Zz (Kerb.KaRequest.realm (Yy (Yn msg))),Zf (Kerb.KaRequest.ticket (Yy (Yn msg))),Zz (Kerb.KaRequest.service (Yy (Yn msg))),Zz (Kerb.KaRequest.inst (Yy (Yn msg))),Zf (Kerb.KaRequest.box (Yy (Yn msg)))],Zy .i64 (Vy (Yn msg))],[]))) (kT fun vs=>onCons vs fun x r=>Xj x fun cs=>cInt .i64 cs fun n r_1=>cStr r_1 fun b r_2=>cStr r_2 fun b_1 r_3=>cStr r_3 fun b_2 r_4=>let t2:Bool:=l63 b&&l63 b_1&&l63 b_2;cInt .i64 r_4 fun n_1 r_5=>cStr r_5 fun b_3 r_6=>cBs r_6 fun b_4 r_7=>cStr r_7 fun b_5 r_8=>cStr r_8 fun b_6 r_9=>let t3:Bool:=t2&&l63 b_3&&l63 b_5&&l63 b_6&&l63 rl&&Wy se&&decide (Zp b_4≤1000000);cBs r_9 fun b_7 r_10=>let t6:Ww:=Kerb.kaGetTicket (Yw rl (Zh Zm els)) now ad sk se (Kerb.KaRequest.mk n (Yq b b_1 b_2) n_1 b_3 b_4 b_5 b_6 b_7);let t7:Ww:=Kerb.kaByUser (Yw rl (Zh Zm els)) now ad sk se (Kerb.KaRequest.mk n (Yq b b_1 b_2) n_1 b_3 b_4 b_5 b_6 b_7);let t8:List (List AV):=[Zy .i64 n::Zz b::Zz b_1::Zz b_2::Zy .i64 n_1::Zz b_3::Zf b_4::Zz b_5::Zz b_6::Zf b_7::t1];let t9:Bool:=t3&&decide (Zp b_7≤1000000)&&Xh els Xd&&decide (Zp els≤1000000);let t4:Yf:=Xx t6;let t5:Yf:=Xx t7;onNil r_10 (cInt .i64 r fun n_2 r=>onNil r (sel (!n_2==0) t0 (sel (n==2) (Zd (chk (t9&&decide (n=2)&&Vv now 4294967295) (some (Yz [Zz (Xy (Zb t6)),Yh 9 (Zh Xz (Ym (Zb t6))),Zf (Yb t6),Zy .i64 (Xu t4),Zz (Zj (Zv t4)),Zz (Zk (Zv t4)),Zz (Zq (Zv t4)),Zz (Zj (Zu t4)),Zz (Zk (Zu t4)),Zz (Zq (Zu t4)),Zz (Zj (Zw t4)),Zz (Zk (Zw t4)),Zz (Zq (Zw t4)),Zy .u64 (Yv t4),Zy .u64 (Yp t4),Zy .u64 (Yu t4),Zf (Xw t4),Zy .i64 (Yd t4),Zy .i64 (Xv t4),Yx (Xg t6)],t8))) fun (r:AV×Blocks)=>onConsB (Yj r) fun (x:List AV) (r_11:List (List AV))=>cInt .i64 x fun n r_12=>cStr r_12 fun b r_13=>cStr r_13 fun b r_14=>cStr r_14 fun b r_15=>cInt .i64 r_15 fun n r_16=>cStr r_16 fun b r_17=>cBs r_17 fun b r_18=>cStr r_18 fun b r_19=>cStr r_19 fun b r_20=>cBs r_20 fun b r_21=>cStr r_21 fun b r_22=>cSl 9 r_22 fun b r_23=>cInt .i64 r_23 fun n r_24=>cInt .i64 r_24 fun n r_25=>cInt .i64 r_25 fun n r_26=>cInt .u64 r_26 fun n r_27=>onNil r_27 (onNilB r_11 (Xj (Yk r) fun cs=>cStr cs fun b r=>cSl 9 r fun b_8 r=>cBs r fun b_9 r=>cInt .i64 r fun n r=>cStr r fun b_10 r=>cStr r fun b_11 r=>cStr r fun b_12 r=>cStr r fun b_13 r=>cStr r fun b_14 r=>cStr r fun b_15 r=>cStr r fun b_16 r=>cStr r fun b_17 r=>cStr r fun b_18 r=>cInt .u64 r fun n_3 r=>cInt .u64 r fun n_4 r=>cInt .u64 r fun n_5 r=>cBs r fun b_19 r=>cInt .i64 r fun n_6 r=>cInt .i64 r fun n_7 r=>cBool r fun b_20 r=>onNil r (some (Xf [Yz [Zz b,Yh 9 b_8],Zf b_9,Yz [Zy .i64 n,Zz b_10,Zz b_11,Zz b_12,Zz b_13,Zz b_14,Zz b_15,Zz b_16,Zz b_17,Zz b_18,Zy .u64 n_3,Zy .u64 n_4,Zy .u64 n_5,Zf b_19,Zy .i64 n_6,Zy .i64 n_7],Yx b_20],[]))))) (Zd (chk (t9&&decide (Kerb.Db.err (Yw rl (Zh Zm els))=0)&&Kerb.kaOp n&&decide (n≠2)&&Vv now 4294967295) (some (Yz [Zz (Xy (Zb t7)),Yh 9 (Zh Xz (Ym (Zb t7))),Zf (Yb t7),Zy .i64 (Xu t5),Zz (Zj (Zv t5)),Zz (Zk (Zv t5)),Zz (Zq (Zv t5)),Zz (Zj (Zu t5)),Zz (Zk (Zu t5)),Zz (Zq (Zu t5)),Zz (Zj (Zw t5)),Zz (Zk (Zw t5)),Zz (Zq (Zw t5)),Zy .u64 (Yv t5),Zy .u64 (Yp t5),Zy .u64 (Yu t5),Zf (Xw t5),Zy .i64 (Yd t5),Zy .i64 (Xv t5),Yx (Xg t7)],t8))) fun (r:AV×Blocks)=>onConsB (Yj r) fun (x:List AV) (r_11:List (List AV))=>cInt .i64 x fun n r_12=>cStr r_12 fun b r_13=>cStr r_13 fun b r_14=>cStr r_14 fun b r_15=>cInt .i64 r_15 fun n r_16=>cStr r_16 fun b r_17=>cBs r_17 fun b r_18=>cStr r_18 fun b r_19=>cStr r_19 fun b r_20=>cBs r_20 fun b r_21=>cStr r_21 fun b r_22=>cSl 9 r_22 fun b r_23=>cInt .i64 r_23 fun n r_24=>cInt .i64 r_24 fun n r_25=>cInt .i64 r_25 fun n r_26=>cInt .u64 r_26 fun n r_27=>onNil r_27 (onNilB r_11 (Xj (Yk r) fun cs=>cStr cs fun b r=>cSl 9 r fun b_8 r=>cBs r fun b_9 r=>cInt .i64 r fun n r=>cStr r fun b_10 r=>cStr r fun b_11 r=>cStr r fun b_12 r=>cStr r fun b_13 r=>cStr r fun b_14 r=>cStr r fun b_15 r=>cStr r fun b_16 r=>cStr r fun b_17 r=>cStr r fun b_18 r=>cInt .u64 r fun n_3 r=>cInt .u64 r fun n_4 r=>cInt .u64 r fun n_5 r=>cBs r fun b_19 r=>cInt .i64 r fun n_6 r=>cInt .i64 r fun n_7 r=>cBool r fun b_20 r=>onNil r (some (Xf [Yz [Zz b,Yh 9 b_8],Zf b_9,Yz [Zy .i64 n,Zz b_10,Zz b_11,Zz b_12,Zz b_13,Zz b_14,Zz b_15,Zz b_16,Zz b_17,Zz b_18,Zy .u64 n_3,Zy .u64 n_4,Zy .u64 n_5,Zf b_19,Zy .i64 n_6,Zy .i64 n_7],Yx b_20],[]))))))))))))):Option (AV×Blocks))) (by kernel_rfl) ?_
  delta kT
  try dsimp only [cStr,cBs,cBool,cU8,cInt,cSl,l63]
  simp only [Wf,decide_eq_true_eq] at hpre
  obtain ⟨⟨⟨⟨⟨c7,hall⟩,hlen⟩,he⟩,c8⟩,hm⟩:=hpre
  obtain ⟨es,rfl,hok⟩:=Wm hall
  rw [Xq] at he ⊢
  simp only [Xb] at hlen
  have ml:decide (msg.length≤140737488355328)=true:=by simp;omega
  simp only [Xq,hall,he,Xb,hlen,ml,c7,c8,eq_self,decide_true,Wz,List.map_nil,↓A0,A0]
  unfold Kerb.kaserver
  try dsimp only
  by_cases hw:Vv now 4294967295=true
  case neg =>
   have hw2:Vv now 4294967295=false:=by simpa using hw
   rw [hw2,Bool.false_and,Bool.not_false,if_pos rfl]
   by_cases h1:now<0
   ·rw [sel_pos (by simpa using h1)];rfl
   rw [sel_neg (by simpa using h1),sel_pos (by simp only [decide_eq_true_eq];rw [Kerb.within_iff] at hw;omega)];rfl
  have w1:=Kerb.within_iff.1 hw
  rw [sel_neg (by simp;omega),sel_neg (by simp;omega)]
  by_cases hv:Vv ad 4294967295=true
  case neg =>
   have hw2:Vv ad 4294967295=false:=by simpa using hv
   rw [hw2,Bool.and_false,Bool.not_false,if_pos rfl]
   by_cases h1:ad<0
   ·rw [sel_pos (by simpa using h1)];rfl
   rw [sel_neg (by simpa using h1),sel_pos (by simp only [decide_eq_true_eq];rw [Kerb.within_iff] at hv;omega)];rfl
  have w2:=Kerb.within_iff.1 hv
  rw [sel_neg (by simp;omega),sel_neg (by simp;omega),hw,hv,if_neg (show ¬ ((!(true&&true))=true) from by decide)]
  have rb := @Kerb.kaReq_bd msg
  generalize Yn msg=R at rb ⊢
  by_cases h1:R.err=0
  case neg=>rw [sel_pos (by simpa using h1),if_pos h1];rfl
  rw [sel_neg (by simpa using h1),if_neg (not_not_intro h1)]
  obtain ⟨⟨r1,r2,r3,r4,r5,r6⟩,r7,r8,r9⟩:=rb h1
  have d1:decide (R.val.user.name.length≤9223372036854775807)=true:=decide_eq_true (Wq r1 (by decide))
  have d2:decide (R.val.user.inst.length≤9223372036854775807)=true:=decide_eq_true (Wq r2 (by decide))
  have d3:decide (R.val.user.realm.length≤9223372036854775807)=true:=decide_eq_true (Wq r3 (by decide))
  have d4:decide (R.val.realm.length≤9223372036854775807)=true:=decide_eq_true (Wq r4 (by decide))
  have d5:decide (R.val.service.length≤9223372036854775807)=true:=decide_eq_true (Wq r5 (by decide))
  have d6:decide (R.val.inst.length≤9223372036854775807)=true:=decide_eq_true (Wq r6 (by decide))
  have d8:decide (R.val.ticket.length≤1000000)=true:=decide_eq_true (Wq r8 (by decide))
  have d9:decide (R.val.box.length≤1000000)=true:=decide_eq_true (Wq r9 (by decide))
  by_cases h2:R.val.op=2
  ·rw [sel_pos (by simpa using h2),if_pos h2]
   simp only [h2,d1,d2,d3,d4,d5,d6,d8,d9,hw,c8,eq_self,decide_true,Wz,↓A0,A0]
   obtain ⟨⟨op,user,kvno,realm,ticket,service,inst,box⟩,err⟩:=R
   dsimp only at h2 ⊢
   subst h2
   rfl
  ·rw [sel_neg (by simpa using h2),if_neg h2]
   have h3:decide (R.val.op≠2)=true:=decide_eq_true h2
   simp only [h3,d1,d2,d3,d4,d5,d6,d8,d9,hw,r7,c8,he,eq_self,decide_true,Wz,↓A0,A0]
 ·cases h
theorem p22  : runFn (G.env 22 16) G.rts (G.own 22) Tryz.f22 [] []=some (.bool true,[]):=by kernel_rfl
theorem w22:Walked Tryz.prog G 22 16 sp22:=by
 refine ⟨Tryz.f22,Tryz.func22,by decide +kernel,rfl,fun xs bl r h=> ?_⟩
 unfold sp22 at h
 split at h
 ·cases h;exact p22
 ·cases h
set_option maxHeartbeats 4000000 in
theorem w8:Walked Tryz.prog G 8 17 sp8:=by
 refine ⟨Tryz.f8,Tryz.func8,by decide +kernel,rfl,fun xs bl r h=> ?_⟩
 unfold sp8 at h
 split at h
 ·rename_i wh fr lf
  cases h
  refine Eq.trans (b:=(let t0:Vx:=Wb (Kerb.KAsk.mk (0:UInt8) wh (0:UInt8) (0:UInt8) (0:UInt8) (0:UInt8) (255:UInt8) (0:UInt8) (0:UInt8) (0:UInt8) (0:UInt8) (Vb (Wu (Xm .u8 ((↑(Vz (3:UInt8)):Int)+(↑(Vz (Vb (Wu (Xm .u8 ((↑(Vz (4:UInt8)):Int)*(↑(Vz (Vb (Wu (Int.tmod (↑(Vz fr):Int) (↑(Vz (3:UInt8)):Int))))):Int)))))):Int))))) 0);let t2:Vx:=Wb (Kerb.KAsk.mk (0:UInt8) wh (0:UInt8) (0:UInt8) (0:UInt8) (0:UInt8) (255:UInt8) (0:UInt8) (0:UInt8) (0:UInt8) (0:UInt8) (0:UInt8) 0);let t4:Int:=Xm .i64 (30+Int.tmod (Xm .i64 (↑(Vz fr):Int)) 3);let t5:Int:=Int.tmod (Xm .i64 (↑(Vz wh):Int)) 3;let t6:List AV:=Zh Xz (Ym (Kerb.simpleDb lf (0:UInt8) (255:UInt8)));let t8:Vx:=Wb (Kerb.KAsk.mk (2:UInt8) wh (0:UInt8) (0:UInt8) fr (0:UInt8) (0:UInt8) (0:UInt8) (0:UInt8) (0:UInt8) (0:UInt8) (0:UInt8) 0);let t3:Ww:=Kerb.kaserver (Yw (Xy (Kerb.simpleDb lf (0:UInt8) (255:UInt8))) (Zh Zm t6)) 1000 1 300 0 t8;let t7:Nat:=Zp t8;let t1:Yf:=Xx t3;Zd (chk (decide (Zp (Xy (Kerb.simpleDb lf (0:UInt8) (255:UInt8)))≤9223372036854775807)&&Xh t6 Xd&&decide (Zp t6≤1000000)&&decide (Kerb.Db.err (Yw (Xy (Kerb.simpleDb lf (0:UInt8) (255:UInt8))) (Zh Zm t6))=0)&&true&&decide (t7≤1000000)) (some (Xf [Yz [Zz (Xy (Zb t3)),Yh 9 (Zh Xz (Ym (Zb t3)))],Zf (Yb t3),Yz [Zy .i64 (Xu t1),Zz (Zj (Zv t1)),Zz (Zk (Zv t1)),Zz (Zq (Zv t1)),Zz (Zj (Zu t1)),Zz (Zk (Zu t1)),Zz (Zq (Zu t1)),Zz (Zj (Zw t1)),Zz (Zk (Zw t1)),Zz (Zq (Zw t1)),Zy .u64 (Yv t1),Zy .u64 (Yp t1),Zy .u64 (Yu t1),Zf (Xw t1),Zy .i64 (Yd t1),Zy .i64 (Xv t1)],Yx (Xg t3)],[]))) (kT fun vs=>onCons vs fun x r=>Xj x fun cs=>cStr cs fun b r_1=>cSl 9 r_1 fun b_1 r_2=>let t11:Ww:=Kerb.kaserver (Yw b (Zh Zm b_1)) 1000 1 300 (Kerb.session 9) t0;let t12:Ww:=Kerb.kaserver (Yw b (Zh Zm b_1)) 1000 1 300 (Kerb.session 9) t2;let t13:Bool:=l63 b&&Xh b_1 Xd&&decide (Zp b_1≤1000000)&&decide (Kerb.Db.err (Yw b (Zh Zm b_1))=0)&&true;let t9:Yf:=Xx t11;let t10:Yf:=Xx t12;onNil r_2 (cBs r fun b r=>onCons r fun x r=>Xj x fun cs=>cInt .i64 cs fun n r_3=>cStr r_3 fun b_2 r_4=>cStr r_4 fun b_3 r_5=>cStr r_5 fun b_4 r_6=>cStr r_6 fun b_5 r_7=>cStr r_7 fun b_6 r_8=>cStr r_8 fun b_7 r_9=>cStr r_9 fun b_8 r_10=>cStr r_10 fun b_9 r_11=>cStr r_11 fun b_10 r_12=>cInt .u64 r_12 fun n r_13=>cInt .u64 r_13 fun n r_14=>cInt .u64 r_14 fun n r_15=>cBs r_15 fun b_11 r_16=>cInt .i64 r_16 fun n r_17=>cInt .i64 r_17 fun n r_18=>onNil r_18 (cBool r fun b_12 r=>onNil r (Zd (chk (decide (Zp b≤140737488355328)) (some (Xf [Yz [Zy .i64 (Kerb.KaReply.op (Yy (Vg b))),Zy .i64 (Kerb.KaReply.code (Yy (Vg b))),Zf (Kerb.KaReply.box (Yy (Vg b)))],Zy .i64 (Vy (Vg b))],[]))) (kT fun vs=>onCons vs fun x r=>Xj x fun cs=>cInt .i64 cs fun n r_19=>cInt .i64 r_19 fun n r_20=>cBs r_20 fun b r_21=>onNil r_21 (cInt .i64 r fun n_1 r=>onNil r (sel b_12 (some (Yx false,[])) (sel (!n_1==0) (some (Yx false,[])) (sel (!n==0) (some (Yx false,[])) (sel (!(↑(Zp b_1):Int)==(↑(Zp t6):Int)) (some (Yx false,[])) (Zd (chk (t13&&decide (Zp t2≤1000000)) (some (Xf [Yz [Zz (Xy (Zb t12)),Yh 9 (Zh Xz (Ym (Zb t12)))],Zf (Yb t12),Yz [Zy .i64 (Xu t10),Zz (Zj (Zv t10)),Zz (Zk (Zv t10)),Zz (Zq (Zv t10)),Zz (Zj (Zu t10)),Zz (Zk (Zu t10)),Zz (Zq (Zu t10)),Zz (Zj (Zw t10)),Zz (Zk (Zw t10)),Zz (Zq (Zw t10)),Zy .u64 (Yv t10),Zy .u64 (Yp t10),Zy .u64 (Yu t10),Zf (Xw t10),Zy .i64 (Yd t10),Zy .i64 (Xv t10)],Yx (Xg t12)],[]))) (kT fun vs=>onCons vs fun x r=>Xj x fun cs=>cStr cs fun b r_22=>cSl 9 r_22 fun b r_23=>onNil r_23 (cBs r fun b r=>onCons r fun x r=>Xj x fun cs=>cInt .i64 cs fun n r_24=>cStr r_24 fun b r_25=>cStr r_25 fun b r_26=>cStr r_26 fun b r_27=>cStr r_27 fun b r_28=>cStr r_28 fun b r_29=>cStr r_29 fun b r_30=>cStr r_30 fun b r_31=>cStr r_31 fun b r_32=>cStr r_32 fun b r_33=>cInt .u64 r_33 fun n r_34=>cInt .u64 r_34 fun n r_35=>cInt .u64 r_35 fun n r_36=>cBs r_36 fun b r_37=>cInt .i64 r_37 fun n r_38=>cInt .i64 r_38 fun n r_39=>onNil r_39 (cBool r fun b r=>onNil r (Zd (chk (t13&&decide (Zp t0≤1000000)) (some (Xf [Yz [Zz (Xy (Zb t11)),Yh 9 (Zh Xz (Ym (Zb t11)))],Zf (Yb t11),Yz [Zy .i64 (Xu t9),Zz (Zj (Zv t9)),Zz (Zk (Zv t9)),Zz (Zq (Zv t9)),Zz (Zj (Zu t9)),Zz (Zk (Zu t9)),Zz (Zq (Zu t9)),Zz (Zj (Zw t9)),Zz (Zk (Zw t9)),Zz (Zq (Zw t9)),Zy .u64 (Yv t9),Zy .u64 (Yp t9),Zy .u64 (Yu t9),Zf (Xw t9),Zy .i64 (Yd t9),Zy .i64 (Xv t9)],Yx (Xg t11)],[]))) (kT fun vs=>onCons vs fun x r=>Xj x fun cs=>cStr cs fun b_13 r_40=>cSl 9 r_40 fun b_14 r_41=>onNil r_41 (cBs r fun b_15 r=>onCons r fun x r=>Xj x fun cs=>cInt .i64 cs fun n r_42=>cStr r_42 fun b_16 r_43=>cStr r_43 fun b_17 r_44=>cStr r_44 fun b_18 r_45=>cStr r_45 fun b_19 r_46=>cStr r_46 fun b_20 r_47=>cStr r_47 fun b_21 r_48=>cStr r_48 fun b_22 r_49=>cStr r_49 fun b_23 r_50=>cStr r_50 fun b_24 r_51=>cInt .u64 r_51 fun n r_52=>cInt .u64 r_52 fun n r_53=>cInt .u64 r_53 fun n_2 r_54=>cBs r_54 fun b_25 r_55=>cInt .i64 r_55 fun n_3 r_56=>cInt .i64 r_56 fun n_4 r_57=>onNil r_57 (cBool r fun b_26 r=>onNil r (sel (!b) (sel b_26 (Zd (chk (decide (0≤t4)&&decide (t4≤1000)) (some (Zy .u64 (Wv t4),[]))) (kI .u64 fun n_5=>sel (n==n_5) (chk (decide (0≤t5)&&decide (t5<(↑(Zp b_1):Int))&&true) (Xj (Vw b_1 (Wu t5) Vk) fun cs=>cStr cs fun b r=>cStr r fun b r=>cInt .u64 r fun n r=>cInt .i64 r fun n r=>cInt .i64 r fun n_6 r=>cInt .i64 r fun n_7 r=>cInt .i64 r fun n_8 r=>cInt .i64 r fun n_9 r=>cInt .i64 r fun n_10 r=>onNil r (chk (decide (0≤t5)&&decide (t5<(↑(Zp t6):Int))&&true) (Xj (Vw t6 (Wu t5) Vk) fun cs=>cStr cs fun b r=>cStr r fun b r=>cInt .u64 r fun n_11 r=>cInt .i64 r fun n_12 r=>cInt .i64 r fun n_13 r=>cInt .i64 r fun n_14 r=>cInt .i64 r fun n_15 r=>cInt .i64 r fun n_16 r=>cInt .i64 r fun n_17 r=>onNil r (some (Yx (n==Xm .i64 (n_12+1)),[])))))) (some (Yx false,[])))) (some (Yx false,[]))) (some (Yx false,[]))))))))))))))))))))):Option (AV×Blocks))) (by kernel_rfl) ?_
  delta kT kI
  try dsimp only [cStr,cBs,cBool,cU8,cInt,cSl,l63]
  obtain ⟨U,hU⟩:∃ U,Kerb.u8i wh % 3=U:=⟨_,rfl⟩
  obtain ⟨F,hF⟩:∃ F,Kerb.u8i fr % 3=F:=⟨_,rfl⟩
  have hu:U=0∨U=1∨U=2:=by rw [← hU];exact Kerb.who_cases wh
  have hf:F=0∨F=1∨F=2:=by rw [← hF];exact Kerb.who_cases fr
  have bw:=Kerb.u8i_bd wh
  have bf:=Kerb.u8i_bd fr
  have m1:Wb ⟨2,wh,0,0,fr,0,0,0,0,0,0,0,0⟩=(Kerb.encodeKaRequest (Kerb.reqG 3 U (Wv U) (Kerb.encodeKaSecret (Kerb.secC (Wv (30+F)))).val)).val:=by rw [← hU,← hF];exact Kerb.change_msg wh fr
  have m2:Wb ⟨0,wh,0,0,0,0,255,0,0,0,0,0,0⟩=(Kerb.encodeKaRequest (Kerb.reqG 1 U (Wv U) Kerb.bodyG)).val:=by rw [← hU];exact Kerb.good_msg wh
  have m3:Wb ⟨0,wh,0,0,0,0,255,0,0,0,0,Kerb.youngOld fr,0⟩=(Kerb.encodeKaRequest (Kerb.reqG 1 U (Wv (30+F)) Kerb.bodyG)).val:=by rw [← hU,← hF];exact Kerb.young_msg wh fr
  have lm1:=Kerb.msg_len ⟨2,wh,0,0,fr,0,0,0,0,0,0,0,0⟩
  have lm2:=Kerb.msg_len ⟨0,wh,0,0,0,0,255,0,0,0,0,0,0⟩
  have lm3:=Kerb.msg_len ⟨0,wh,0,0,0,0,255,0,0,0,0,Kerb.youngOld fr,0⟩
  have hO:Vb (Wu (Xm .u8 (((3:UInt8).toNat:Int)+((Vb (Wu (Xm .u8 (((4:UInt8).toNat:Int)*((Vb (Wu (Int.tmod (fr.toNat:Int) ((3:UInt8).toNat:Int)))).toNat:Int))))).toNat:Int))))=Kerb.youngOld fr:=rfl
  have f0:=Kerb.wrap_u8i
  have f1:Xm .i64 (30+Int.tmod (Kerb.u8i fr) 3)=30+F:=by rw [Int.tmod_eq_emod_of_nonneg bf.1,hF];exact wrap_i64 (by omega) (by omega)
  have f2:Int.tmod (Kerb.u8i wh) 3=U:=by rw [Int.tmod_eq_emod_of_nonneg bw.1];exact hU
  have f3:Xm .i64 (3+U+1)=3+U+1:=wrap_i64 (by omega) (by omega)
  have f4:Xm .i64 (3+U)=3+U:=wrap_i64 (by omega) (by omega)
  have v1:Kerb.keyValid (Wv U)=true:=Kerb.long_valid (by omega) (by omega)
  have v2:Kerb.keyValid (Wv (30+F))=true:=Kerb.long_valid (by omega) (by omega)
  have hc:Wg (Wv (30+F))=1:=by rcases hf with h | h | h<;>rw [h]<;>decide
  have hne:Wv U≠Wv (30+F):=Kerb.long_ne (by omega) (by omega) (by omega) (by omega) (by omega)
  obtain ⟨ans,box,hK1,hd1,hl1⟩:=Kerb.lock_change (life:=lf) (v:=3+U) (sk:=300) hu v1 (Vd U) v2 hc (Vd _) (by omega) (by omega) (by decide) m1
  have hK2:=Kerb.lock_bad (life:=lf) (v:=3+U+1) (f:=0) (t:=0) (now:=1000) (sk:=300) (se:=Kerb.session 9) hu v2 v1 (Vd U) hne (by decide) (by decide) m2
  obtain ⟨ans3,box3,iss,hK3,hd3,hk3,hs3,hl3⟩:=Kerb.lock_auth (life:=lf) (v:=3+U+1) (f:=0) (t:=0) (now:=1000) (sk:=300) (se:=Kerb.session 9) hu v2 (Vd _) (by decide) (by decide) (by decide) (by decide) m3
  have kX:=Kerb.lock_kept (life:=lf) (v:=3+U) (f:=0) (t:=0) hu v1 (Vd U) (by rw [Kerb.within_iff];omega) (by decide) (by decide)
  have kE:=Kerb.lock_kept (life:=lf) (v:=3+U+1) (f:=0) (t:=0) hu v2 (Vd _) (by rw [Kerb.within_iff];omega) (by decide) (by decide)
  have gX:=Kerb.lock_get (life:=lf) (k:=Wv U) (v:=3+U) (f:=0) (t:=0) hu
  have gE:=Kerb.lock_get (life:=lf) (k:=Wv (30+F)) (v:=3+U+1) (f:=0) (t:=0) hu
  have nX:=Kerb.lock_len (life:=lf) (u:=U) (k:=Wv U) (v:=3+U) (f:=0) (t:=0)
  have nE:=Kerb.lock_len (life:=lf) (u:=U) (k:=Wv (30+F)) (v:=3+U+1) (f:=0) (t:=0)
  rw [Kerb.simple_lock lf hu]
  generalize Kerb.lockDb lf U (Wv U) (3+U) 0 0=X at *
  generalize Kerb.lockDb lf U (Wv (30+F)) (3+U+1) 0 0=E at *
  have eX:Yw X.realm X.entries=X:=rfl
  have eE:Yw E.realm E.entries=E:=rfl
  have x1:X.realm.length≤9223372036854775807:=by have:=kX.realm;omega
  have x3:E.realm.length≤9223372036854775807:=by have:=kE.realm;omega
  have x5:ans.length≤140737488355328:=by omega
  have n6:(6:Nat)≤1000000:=by decide
  have e1:((0:Int)==0)=true:=rfl
  have e2:(((6:Nat):Int)==((6:Nat):Int))=true:=rfl
  have b1:(decide ((0:Int)≤30+F)&&decide (30+F≤1000))=true:=by simp;omega
  have b2:(decide ((0:Int)≤U)&&decide (U<((6:Nat):Int)))=true:=by simp;omega
  simp (config:={maxSteps:=10000000}) only [hO,f0,f1,f2,f3,f4,lm1,lm2,lm3,Xq,Xb,eX,eE,x1,x3,x5,nX,nE,n6,kX.err,kX.all,kE.err,kE.all,hK1,hK2,hK3,hd1,e1,e2,b1,b2,gX,gE,hs3,beq_self_eq_true,decide_true,Wz,Bool.and_true,Bool.not_true,Bool.not_false,sTrue,sFalse,↓sInt,↓sU8,↓sBool,↓sStr,↓sBs,↓sSl,↓sAgg,↓sTup,↓sCons,↓sNil,↓sNilB,↓sChk,↓sChkBind,↓sSome]
 ·cases h
end Go.Proofs.YtaikjfcgemjghaaGreat
