/- What the functions of this seat compute. -/
import Derived.Test.YtaikjfcgemjghaaGreatTab
import Derived.Test.YtaikjfcgemjghaaGreatKerbPlain
import Derived.Test.YtaikjfcgemjghaaGreatAbsStep
import Derived.Test.YtaikjfcgemjghaaGreatKerbKaPlain
import Derived.Test.YtaikjfcgemjghaaGreatKerbKaRef
import Derived.Test.YtaikjfcgemjghaaGreatKerbCli3
import Derived.Test.YtaikjfcgemjghaaGreatKerbCli4
import Derived.Test.YtaikjfcgemjghaaGreatKerbCli5
import Derived.Test.YtaikjfcgemjghaaGreatKerbSrvL
import Derived.Test.YtaikjfcgemjghaaGreatKerbKac2
import Derived.Test.YtaikjfcgemjghaaGreatKerbSrvP
open Go.Abs.AV renaming str→Zz,int→Zy,bs→Zf,u8→Zg,bool→Yy,agg→Yw,sl→Yd,onAgg→Xf,tup→Xb
open Kerb renaming encodeKaReply→Zx,kaRefuse_nil→Zn,toEntry→Yz,grantLife→Yf,Issue→Ym,decodeKaRequest→Yh,map_toEntry→Xz,isEntry→Xg,openTicket→Xn,isU64→Wy,ends2→Wx,decodeKaReply→Ww,KaOut→Wv,tEnd→Wk,imin→Wd,isI64→Wn,ents_of→Wm,classOf→Wh,within→Vz,krbtgt→Vy,kaGive→Vx,kaSecretOf→Vw,openBox→Vv,lockAt→Vd
open Kerb.Issue renaming service→Zw,server→Zv,client→Zu,session→Yk,granter→Yp,sealer→Yb,issued→Yn,text→Xw,stop→Xv,kind→Xu
open Kerb.Prin renaming realm→Zq,name→Zj,inst→Zk,mk→Yu
open List renaming length→Zp,map→Yx,length_map→Xk,all→Wz,getD→Vj
open Option renaming bind→Zd
open Kerb.KaReply renaming mk→Zb
open Kerb.Dec renaming val→Zm,err→Wb
open Kerb.KaOut renaming db→Zh,answer→Xy,issue→Xq,ok→Xm,mk→Wj
open Kerb.Db renaming mk→Yv,entries→Xx,realm→Xj
open Prod renaming snd→Yq,fst→Yj
open Kerb.Entry renaming av→Yg
open Kerb.Enc renaming val→Xp,err→Xd
open Bool renaming and_self→Xh,and_eq_true→Wq
open Nat renaming le_trans→Wu
open Kerb.Ticket renaming client→Wp
open Go.IntKind renaming i64→Wf,wrap→Wg,u16→Vk
open Kerb.ReplyPart renaming service→Vu
open Kerb.KAsk renaming message→Vq
open Int renaming toNat→Vp
open Kerb.KaRequest renaming user→Vf
namespace Go.Proofs.YtaikjfcgemjghaaGreat
open Go Go.Abs Go.Proofs
set_option linter.unusedVariables false
set_option linter.unusedSimpArgs false
set_option maxRecDepth 100000
theorem w224:Walked Tryz.prog G 224 11 sp224:=by
 refine ⟨Tryz.f224,Tryz.func224,by decide +kernel,rfl,fun xs bl r h=> ?_⟩
 unfold sp224 at h
 split at h
 ·rename_i rl els x y z u v w ad li now lf se sl tg kv
  obtain ⟨hpre,h2⟩:=chk_inv h;cases h2
  refine Eq.trans (b:=(let t0:AV:=Yw [Zy .i64 0,Zz [],Zz [],Zz [],Zz [],Zz [],Zz [],Zz [],Zz [],Zz [],Zy .u64 0,Zy .u64 0,Zy .u64 0,Zf [],Zy .i64 0,Zy .i64 0];let t1:AV:=Yw [Zy .u64 0,Zz [],Zz [],Zz [],Zy .i64 0,Zy .i64 0,Zf [],Zy .i64 0];Zd (chk (l63 x&&l63 y&&l63 z&&l63 u&&l63 v&&decide (0≤se)&&decide (se<18446744073709551616)&&decide (0≤tg)&&decide (tg<18446744073709551616)) (some (Xb [Zf (Xp (Kerb.sealTicket (Kerb.Ticket.mk li (Yu x y z) ad se lf now u v) tg)),Zy .i64 (Xd (Kerb.sealTicket (Kerb.Ticket.mk li (Yu x y z) ad se lf now u v) tg))],[]))) (kT fun vs=>onCons vs fun x_1 r=>AV.onBs x_1 fun b=>onCons r fun x_2 r=>AV.onInt .i64 x_2 fun n=>onNil r (sel (!n==0) (some (Xb [t0,t1,Zy .i64 n],[])) (Zd (chk (l63 u&&l63 v&&l63 w&&decide (0≤se)&&decide (se<18446744073709551616)) (some (Xb [Zf (Xp (Kerb.encodePart (Kerb.ReplyPart.mk se (Yu u v w) lf kv b now) li)),Zy .i64 (Xd (Kerb.encodePart (Kerb.ReplyPart.mk se (Yu u v w) lf kv b now) li))],[]))) (kT fun vs=>onCons vs fun x_3 r=>AV.onBs x_3 fun b_1=>onCons r fun x_4 r=>AV.onInt .i64 x_4 fun n=>onNil r (sel (!n==0) (some (Xb [t0,t1,Zy .i64 n],[])) (Zd (chk (decide (Zp b≤140737488355328)) (some (Zf b,[]))) (kB fun b_2=>some (Xb [Yw [Zy .i64 0,Zz [(107:UInt8),(114:UInt8),(98:UInt8),(116:UInt8),(103:UInt8),(116:UInt8)],Zz rl,Zz rl,Zz x,Zz y,Zz z,Zz u,Zz v,Zz w,Zy .u64 se,Zy .u64 sl,Zy .u64 0,Zf b_2,Zy .i64 now,Zy .i64 (Wk now lf)],Yw [Zy .u64 se,Zz u,Zz v,Zz w,Zy .i64 lf,Zy .i64 kv,Zf b,Zy .i64 now],Zy .i64 0],[])))))))):Option (AV×Blocks))) (by kernel_rfl) ?_
  delta kT kB
  try dsimp only [cStr,cBs,cBool,cU8,cInt,cSl,l63]
  simp only [Wq,decide_eq_true_eq] at hpre
  simp only [Kerb.isU64_iff] at hpre
  obtain ⟨⟨⟨⟨⟨⟨⟨h1,h2⟩,h3⟩,h4⟩,h5⟩,h6⟩,h7,h8⟩,h9,h10⟩:=hpre
  simp only [h1,h2,h3,h4,h5,h6,h7,h8,h9,h10,decide_true,Xh,↓A0,A0]
  unfold Kerb.grant Kerb.grantTkt
  dsimp only
  have hsl:=Kerb.sealTicket_len ⟨li,⟨x,y,z⟩,ad,se,lf,now,u,v⟩ tg
  generalize Kerb.sealTicket ⟨li,⟨x,y,z⟩,ad,se,lf,now,u,v⟩ tg=E at hsl
  by_cases he:E.err=0
  case neg=>rw [sel_pos (by simpa using he),if_pos he];rfl
  rw [sel_neg (by simpa using he),if_neg (by simpa using he)]
  generalize Kerb.encodePart ⟨se,⟨u,v,w⟩,lf,kv,E.val,now⟩ li=F
  by_cases hf:F.err=0
  case neg=>rw [sel_pos (by simpa using hf),if_pos hf];rfl
  rw [sel_neg (by simpa using hf),if_neg (by simpa using hf)]
  rw [chk_of (by simp;omega)]
  rfl
 ·cases h
theorem w147:Walked Tryz.prog G 147 12 sp147:=by
 refine ⟨Tryz.f147,Tryz.func147,by decide +kernel,rfl,fun xs bl r h=> ?_⟩
 unfold sp147 at h
 split at h
 ·rename_i op u1 u2 u3 kv qr tk sv ins bx rl els now ad sk se
  obtain ⟨hpre,h2⟩:=chk_inv h;cases h2
  show runFnH (G.env 147 12) G.rts (G.own 147) Tryz.f147 _ _ [0]=_
  refine Eq.trans (b:=(let t0:List (List AV):=[[Zy .i64 op,Zz u1,Zz u2,Zz u3,Zy .i64 kv,Zz qr,Zf tk,Zz sv,Zz ins,Zf bx,Zz rl,Yd 9 els,Zy .i64 now,Zy .i64 ad,Zy .i64 sk,Zy .u64 se]];let t1:AV:=Yw [Yy false,Zz [],Zz [],Zz [],Zy .i64 0,Zy .u64 0,Zy .i64 0,Zy .i64 0,Zz [],Zz []];let t3:Int×Int:=Kerb.serviceEnt (Yv rl (Yx Yz els)) [(107:UInt8),(114:UInt8),(98:UInt8),(116:UInt8),(103:UInt8),(116:UInt8)] rl now;let t2:Option (AV×Blocks):=some (Xb [t1,Zy .i64 35],t0);sel (!qr==rl) t2 (Zd (chk (Wz els Xg&&decide (Zp els≤1000000)) (some (Xb [Zy .i64 (Yj t3),Zy .i64 (Yq t3)],[]))) (kT fun vs=>cInt .i64 vs fun n r=>cInt .i64 r fun n_1 r=>onNil r (sel (!n_1==0) (some (Xb [t1,Zy .i64 n_1],t0)) (chk (decide (0≤n)&&decide (n<(↑(Zp els):Int))&&true) (Xf (Vj els (Vp n) AV.undef) fun cs=>cStr cs fun b r=>cStr r fun b r=>cInt .u64 r fun n r=>cInt .i64 r fun n_2 r=>cInt .i64 r fun n_3 r=>cInt .i64 r fun n_4 r=>cInt .i64 r fun n_5 r=>cInt .i64 r fun n_6 r=>cInt .i64 r fun n_7 r=>onNil r (sel (!kv==n_2) t2 (Zd (chk (decide (Zp tk≤140737488355328)) (some (Xb [Yw [Yy (Kerb.Ticket.little (Zm (Xn tk n))),Zz (Zj (Wp (Zm (Xn tk n)))),Zz (Zk (Wp (Zm (Xn tk n)))),Zz (Zq (Wp (Zm (Xn tk n)))),Zy .i64 (Kerb.Ticket.address (Zm (Xn tk n))),Zy .u64 (Kerb.Ticket.session (Zm (Xn tk n))),Zy .i64 (Kerb.Ticket.life (Zm (Xn tk n))),Zy .i64 (Kerb.Ticket.issued (Zm (Xn tk n))),Zz (Kerb.Ticket.service (Zm (Xn tk n))),Zz (Kerb.Ticket.inst (Zm (Xn tk n)))],Zy .i64 (Wb (Xn tk n))],[]))) (kT fun vs=>onCons vs fun x r=>Xf x fun cs=>cBool cs fun b r_1=>cStr r_1 fun b_1 r_2=>cStr r_2 fun b_2 r_3=>cStr r_3 fun b_3 r_4=>cInt .i64 r_4 fun n r_5=>cInt .u64 r_5 fun n_8 r_6=>cInt .i64 r_6 fun n_9 r_7=>cInt .i64 r_7 fun n_10 r_8=>cStr r_8 fun b_4 r_9=>cStr r_9 fun b_5 r_10=>onNil r_10 (cInt .i64 r fun n_11 r=>onNil r (sel (!n_11==0) (some (Xb [t1,Zy .i64 31],t0)) (sel (!b_4==[(107:UInt8),(114:UInt8),(98:UInt8),(116:UInt8),(103:UInt8),(116:UInt8)]) t2 (sel (!b_5==rl) t2 (sel (!b_3==rl) (some (Xb [t1,Zy .i64 36],t0)) (sel (!n==ad) (some (Xb [t1,Zy .i64 38],t0)) (sel (!Kerb.stateErr n_10 n_9 now sk==0) (some (Xb [t1,Zy .i64 (Kerb.stateErr n_10 n_9 now sk)],t0)) (some (Xb [Yw [Yy b,Zz b_1,Zz b_2,Zz b_3,Zy .i64 n,Zy .u64 n_8,Zy .i64 n_9,Zy .i64 n_10,Zz b_4,Zz b_5],Zy .i64 0],t0))))))))))))))))):Option (AV×Blocks))) (by kernel_rfl) ?_
  delta kT
  try dsimp only [cStr,cBs,cBool,cU8,cInt,cSl,l63]
  simp only [Wq,decide_eq_true_eq] at hpre
  obtain ⟨⟨⟨⟨⟨⟨⟨⟨⟨⟨⟨c1,c2⟩,c3⟩,c4⟩,c5⟩,c6⟩,c7⟩,c8⟩,c9⟩,c10⟩,hall⟩,hlen⟩:=hpre
  obtain ⟨es,rfl,hok⟩:=Wm hall
  rw [Xz]
  simp only [Xk] at hlen
  have tl:decide (tk.length≤140737488355328)=true:=by simp;omega
  have hkr:[(107:UInt8),(114:UInt8),(98:UInt8),(116:UInt8),(103:UInt8),(116:UInt8)]=Vy:=rfl
  simp only [hkr,hall,Xk,hlen,tl,decide_true,Xh,↓A0,A0]
  unfold Kerb.kaPresented
  dsimp only
  by_cases h1:qr=rl
  case neg=>rw [sel_pos (by simpa using h1),if_pos h1];try rfl
  rw [sel_neg (by simp [h1]),if_neg (by simp [h1])]
  have hs := @Kerb.serv_lt ⟨rl,es⟩ Vy rl now
  generalize Kerb.serviceEnt ⟨rl,es⟩ Vy rl now=F at hs ⊢
  obtain ⟨j,e⟩:=F
  dsimp only at hs ⊢
  by_cases h2:e=0
  case neg=>rw [sel_pos (by simpa using h2),if_pos h2];try rfl
  obtain ⟨g1,g2⟩:=hs h2
  rw [sel_neg (by simpa using h2),if_neg (by simpa using h2),chk_of (by simp;omega),Kerb.getD_ent g2]
  unfold Kerb.entAt
  dsimp only
  generalize es.getD j.toNat Kerb.noEntry=x
  simp only [Yg,tl,↓A0,A0]
  by_cases h3:kv=x.kvno
  case neg=>rw [sel_pos (by simpa using h3),if_pos h3];try rfl
  rw [sel_neg (by simp [h3]),if_neg (by simp [h3])]
  generalize Xn tk x.key=T
  by_cases h4:T.err=0
  case neg=>rw [sel_pos (by simpa using h4),if_pos h4];try rfl
  rw [sel_neg (by simpa using h4),if_neg (by simpa using h4)]
  by_cases h5:T.val.service=Vy
  case neg=>rw [sel_pos (by simpa using h5),if_pos (.inl h5)];try rfl
  by_cases h6:T.val.inst=rl
  case neg=>rw [sel_neg (by simp [h5]),sel_pos (by simpa using h6),if_pos (.inr h6)];try rfl
  rw [sel_neg (by simp [h5]),sel_neg (by simp [h6]),if_neg (by simp [h5,h6])]
  by_cases h7:T.val.client.realm=rl
  case neg=>rw [sel_pos (by simpa using h7),if_pos h7];try rfl
  rw [sel_neg (by simp [h7]),if_neg (by simp [h7])]
  by_cases h8:T.val.address=ad
  case neg=>rw [sel_pos (by simpa using h8),if_pos h8];try rfl
  rw [sel_neg (by simp [h8]),if_neg (by simp [h8])]
  generalize Kerb.stateErr T.val.issued T.val.life now sk=Z
  by_cases h9:Z=0
  case neg=>rw [sel_pos (by simpa using h9),if_pos h9];try rfl
  rw [sel_neg (by simp [h9]),if_neg (by simp [h9])]
 ·cases h
theorem w154:Walked Tryz.prog G 154 12 sp154:=by
 refine ⟨Tryz.f154,Tryz.func154,by decide +kernel,rfl,fun xs bl r h=> ?_⟩
 unfold sp154 at h
 split at h
 ·rename_i dr dls gk c1 c2 c3 s1 s2 s3 ga gl gs gg gt gv gb gm op u1 u2 u3 kv qr tk sv ins bx rl els now ad sk se
  obtain ⟨hpre,h2⟩:=chk_inv h;cases h2
  show runFnH (G.env 154 12) G.rts (G.own 154) Tryz.f154 _ _ [0]=_
  refine Eq.trans (b:=(let t2:List AV:=[Zf [],Zy .i64 0,Zz [],Zz [],Zz [],Zz [],Zz [],Zz [],Zz [],Zz [],Zz [],Zy .u64 0,Zy .u64 0,Zy .u64 0,Zf [],Zy .i64 0,Zy .i64 0,Yy false];let t3:List (List AV):=[[Zy .i64 op,Zz u1,Zz u2,Zz u3,Zy .i64 kv,Zz qr,Zf tk,Zz sv,Zz ins,Zf bx,Zz rl,Yd 9 els,Zy .i64 now,Zy .i64 ad,Zy .i64 sk,Zy .u64 se]];let t4:Kerb.Granted:=Kerb.grant rl (Yu c1 c2 c3) (Yu s1 s2 s3) ga false now gl se gs gt gv;let t0:Ym:=Kerb.Granted.issue t4;let t1:Kerb.ReplyPart:=Kerb.Granted.part t4;Zd (chk (l63 c1&&l63 c2&&l63 c3&&l63 s1&&l63 s2&&l63 s3&&Wy se&&Wy gt) (some (Xb [Yw [Zy .i64 (Xu t0),Zz (Zj (Zv t0)),Zz (Zk (Zv t0)),Zz (Zq (Zv t0)),Zz (Zj (Zu t0)),Zz (Zk (Zu t0)),Zz (Zq (Zu t0)),Zz (Zj (Zw t0)),Zz (Zk (Zw t0)),Zz (Zq (Zw t0)),Zy .u64 (Yk t0),Zy .u64 (Yb t0),Zy .u64 (Yp t0),Zf (Xw t0),Zy .i64 (Yn t0),Zy .i64 (Xv t0)],Yw [Zy .u64 (Kerb.ReplyPart.session t1),Zz (Zj (Vu t1)),Zz (Zk (Vu t1)),Zz (Zq (Vu t1)),Zy .i64 (Kerb.ReplyPart.life t1),Zy .i64 (Kerb.ReplyPart.kvno t1),Zf (Kerb.ReplyPart.ticket t1),Zy .i64 (Kerb.ReplyPart.time t1)],Zy .i64 (Kerb.Granted.err t4)],[]))) (kT fun vs=>onCons vs fun x r=>Xf x fun cs=>cInt .i64 cs fun n r_1=>cStr r_1 fun b r_2=>cStr r_2 fun b_1 r_3=>cStr r_3 fun b_2 r_4=>cStr r_4 fun b_3 r_5=>cStr r_5 fun b_4 r_6=>cStr r_6 fun b_5 r_7=>cStr r_7 fun b_6 r_8=>cStr r_8 fun b_7 r_9=>cStr r_9 fun b_8 r_10=>cInt .u64 r_10 fun n r_11=>cInt .u64 r_11 fun n_1 r_12=>cInt .u64 r_12 fun n_2 r_13=>cBs r_13 fun b_9 r_14=>cInt .i64 r_14 fun n_3 r_15=>cInt .i64 r_15 fun n_4 r_16=>onNil r_16 (onCons r fun x r=>Xf x fun cs=>cInt .u64 cs fun n_5 r_17=>cStr r_17 fun b_10 r_18=>cStr r_18 fun b_11 r_19=>cStr r_19 fun b_12 r_20=>cInt .i64 r_20 fun n_6 r_21=>cInt .i64 r_21 fun n_7 r_22=>cBs r_22 fun b_13 r_23=>cInt .i64 r_23 fun n_8 r_24=>onNil r_24 (cInt .i64 r fun n_9 r=>onNil r (sel (!n_9==0) (some (Yw (Zz rl::Yd 9 els::t2),t3)) (Zd (chk (decide (0≤gm)&&decide (gm≤4294967295)) (some (Zy .i64 (Kerb.kaNext gm),[]))) (kI .i64 fun n_10=>let t5:Kerb.Enc:=Kerb.kaReplyDec op (Kerb.KaAnswer.mk gb n_10 se now (Wd n_4 4294967295) gv (Yu s1 s2 s3) b_9) gs;Zd (chk (l63 s1&&l63 s2&&l63 s3&&l63 gb&&Wy se&&Wy gs) (some (Xb [Zf (Xp t5),Zy .i64 (Xd t5)],t3))) fun (r:AV×Blocks)=>onConsB (Yq r) fun (x:List AV) (r_25:List (List AV))=>cInt .i64 x fun n_11 r_26=>cStr r_26 fun b_14 r_27=>cStr r_27 fun b_15 r_28=>cStr r_28 fun b_16 r_29=>cInt .i64 r_29 fun n_12 r_30=>cStr r_30 fun b_17 r_31=>cBs r_31 fun b_18 r_32=>cStr r_32 fun b_19 r_33=>cStr r_33 fun b_20 r_34=>cBs r_34 fun b_21 r_35=>cStr r_35 fun b_22 r_36=>cSl 9 r_36 fun b_23 r_37=>cInt .i64 r_37 fun n_13 r_38=>cInt .i64 r_38 fun n_14 r_39=>cInt .i64 r_39 fun n_15 r_40=>cInt .u64 r_40 fun n_16 r_41=>let t6:List (List AV):=[[Zy .i64 n_11,Zz b_14,Zz b_15,Zz b_16,Zy .i64 n_12,Zz b_17,Zf b_18,Zz b_19,Zz b_20,Zf b_21,Zz b_22,Yd 9 b_23,Zy .i64 n_13,Zy .i64 n_14,Zy .i64 n_15,Zy .u64 n_16]];onNil r_41 (onNilB r_25 (AV.onTup (Yj r) fun vs=>cBs vs fun b_24 r=>cInt .i64 r fun n_17 r=>onNil r (sel (!n_17==0) (some (Yw (Zz b_22::Yd 9 b_23::t2),t6)) (some (Yw [Zz dr,Yd 9 dls,Zf b_24,Zy .i64 gk,Zz b,Zz b_1,Zz b_2,Zz b_3,Zz b_4,Zz b_5,Zz b_6,Zz b_7,Zz b_8,Zy .u64 n,Zy .u64 n_1,Zy .u64 gg,Zf b_9,Zy .i64 n_3,Zy .i64 n_4,Yy true],t6))))))))))):Option (AV×Blocks))) (by kernel_rfl) ?_
  delta kT kI
  try dsimp only [cStr,cBs,cBool,cU8,cInt,cSl,l63]
  simp only [Wq,decide_eq_true_eq] at hpre
  obtain ⟨⟨⟨⟨⟨⟨⟨⟨⟨⟨⟨⟨⟨⟨d1,d2⟩,d3⟩,d4⟩,d5⟩,d6⟩,d7⟩,k1⟩,k2⟩,k3⟩,k4⟩,ha⟩,hb⟩,g0⟩,g1⟩:=hpre
  obtain ⟨es,rfl,hok⟩:=Wm ha
  obtain ⟨ds,rfl,hok2⟩:=Wm hb
  rw [Xz,Xz]
  simp only [d1,d2,d3,d4,d5,d6,d7,k1,k2,k3,k4,g0,g1,decide_true,Xh,↓A0,A0]
  unfold Vx Kerb.kaReplySeal
  dsimp only
  have hst := @Kerb.grant_stop rl ⟨c1,c2,c3⟩ ⟨s1,s2,s3⟩ ga false now gl se gs gt gv
  generalize Kerb.grant rl ⟨c1,c2,c3⟩ ⟨s1,s2,s3⟩ ga false now gl se gs gt gv=G at hst ⊢
  by_cases hg:G.err=0
  case neg=>rw [sel_pos (by simpa using hg),if_pos hg];rfl
  rw [sel_neg (by simpa using hg),if_neg (not_not_intro hg),hst hg]
  generalize Kerb.kaReplyDec op _ gs=R
  have hr2:¬ R.err=0→(R.err==0)=false:=fun h=>by simpa using h
  by_cases hr:R.err=0
  case neg=>rw [sel_pos (by simpa using hr),if_pos (hr2 hr)];rfl
  rw [sel_neg (by simpa using hr),if_neg (show ¬ (R.err==0)=false from by simp [hr])]
  rfl
 ·cases h
theorem w67:Walked Tryz.prog G 67 13 sp67:=by
 refine ⟨Tryz.f67,Tryz.func67,by decide +kernel,rfl,fun xs bl r h=> ?_⟩
 unfold sp67 at h
 split at h
 ·rename_i op u1 u2 u3 kv qr tk sv ins bx rl els now ad sk se
  obtain ⟨hpre,h2⟩:=chk_inv h;cases h2
  show runFnH (G.env 67 13) G.rts (G.own 67) Tryz.f67 _ _ [0]=_
  refine Eq.trans (b:=(let t0:List UInt8:=[(116:UInt8),(107:UInt8),(116:UInt8),(71:UInt8)];let t1:List AV:=[Zy .i64 0,Zz [],Zz [],Zz [],Zz [],Zz [],Zz [],Zz [],Zz [],Zz [],Zy .u64 0,Zy .u64 0,Zy .u64 0,Zf [],Zy .i64 0,Zy .i64 0,Yy false];let t3:List UInt8:=[(103:UInt8),(84:UInt8),(75:UInt8),(84:UInt8)];let t4:Kerb.Dec Kerb.Ticket:=Kerb.kaPresented (Yv rl (Yx Yz els)) now ad sk (Kerb.KaRequest.mk op (Yu u1 u2 u3) kv qr tk sv ins bx);let t2:Kerb.Ticket:=Zm t4;Zd (chk (l63 u1&&l63 u2&&l63 u3&&l63 qr&&l63 sv&&l63 ins&&l63 rl&&Wy se&&decide (Zp tk≤1000000)&&decide (Zp bx≤1000000)&&Wz els Xg&&decide (Zp els≤1000000)) (some (Xb [Yw [Yy (Kerb.Ticket.little t2),Zz (Zj (Wp t2)),Zz (Zk (Wp t2)),Zz (Zq (Wp t2)),Zy .i64 (Kerb.Ticket.address t2),Zy .u64 (Kerb.Ticket.session t2),Zy .i64 (Kerb.Ticket.life t2),Zy .i64 (Kerb.Ticket.issued t2),Zz (Kerb.Ticket.service t2),Zz (Kerb.Ticket.inst t2)],Zy .i64 (Wb t4)],[[Zy .i64 op,Zz u1,Zz u2,Zz u3,Zy .i64 kv,Zz qr,Zf tk,Zz sv,Zz ins,Zf bx,Zz rl,Yd 9 els,Zy .i64 now,Zy .i64 ad,Zy .i64 sk,Zy .u64 se]]))) fun (r:AV×Blocks)=>onConsB (Yq r) fun (x:List AV) (r_1:List (List AV))=>cInt .i64 x fun n r_2=>cStr r_2 fun b r_3=>cStr r_3 fun b_1 r_4=>cStr r_4 fun b_2 r_5=>cInt .i64 r_5 fun n_1 r_6=>cStr r_6 fun b_3 r_7=>cBs r_7 fun b_4 r_8=>cStr r_8 fun b_5 r_9=>cStr r_9 fun b_6 r_10=>cBs r_10 fun b_7 r_11=>cStr r_11 fun b_8 r_12=>cSl 9 r_12 fun b_9 r_13=>cInt .i64 r_13 fun n_2 r_14=>cInt .i64 r_14 fun n_3 r_15=>cInt .i64 r_15 fun n_4 r_16=>cInt .u64 r_16 fun n_5 r_17=>let t5:List (List AV):=[[Zy .i64 n,Zz b,Zz b_1,Zz b_2,Zy .i64 n_1,Zz b_3,Zf b_4,Zz b_5,Zz b_6,Zf b_7,Zz b_8,Yd 9 b_9,Zy .i64 n_2,Zy .i64 n_3,Zy .i64 n_4,Zy .u64 n_5]];onNil r_17 (onNilB r_1 (AV.onTup (Yj r) fun vs=>onCons vs fun x r=>Xf x fun cs=>cBool cs fun b r_18=>cStr r_18 fun b r_19=>cStr r_19 fun b_10 r_20=>cStr r_20 fun b_11 r_21=>let t6:Bool:=l63 b&&l63 b_10&&l63 b_11;cInt .i64 r_21 fun n_6 r_22=>cInt .u64 r_22 fun n_7 r_23=>cInt .i64 r_23 fun n_8 r_24=>cInt .i64 r_24 fun n_9 r_25=>cStr r_25 fun b_12 r_26=>cStr r_26 fun b_13 r_27=>onNil r_27 (cInt .i64 r fun n_10 r=>onNil r (sel (!n_10==0) (sel (!Xd (Zx (Zb n n_10 []))==0) (some (Yw (Zz b_8::Yd 9 b_9::Zf []::t1),t5)) (some (Yw (Zz b_8::Yd 9 b_9::Zf (Xp (Zx (Zb n n_10 [])))::t1),t5))) (Zd (chk (decide (Zp b_7≤140737488355328)) (some (Xb [Zf (Yj (Vv b_7 7 n_7)),Yy (Yq (Vv b_7 7 n_7))],[]))) (kT fun vs=>cBs vs fun b_14 r=>let t7:Kerb.KaSecret:=Zm (Vw b_14 t3 n_2 n_4);cBool r fun b_15 r=>onNil r (sel (!b_15) (sel (!Xd (Zx (Zb n 31 []))==0) (some (Yw (Zz b_8::Yd 9 b_9::Zf []::t1),t5)) (some (Yw (Zz b_8::Yd 9 b_9::Zf (Xp (Zx (Zb n 31 [])))::t1),t5))) (Zd (chk (decide (Zp b_14≤1000000)) (some (Xb [Yw [Zz (Kerb.KaSecret.label t7),Zy .i64 (Kerb.KaSecret.time t7),Zy .i64 (Kerb.KaSecret.start t7),Zy .i64 (Kerb.KaSecret.stop t7),Zy .u64 (Kerb.KaSecret.new t7)],Zy .i64 (Wb (Vw b_14 t3 n_2 n_4))],t5))) fun (r:AV×Blocks)=>onConsB (Yq r) fun (x:List AV) (r_28:List (List AV))=>cInt .i64 x fun n r_29=>cStr r_29 fun b_16 r_30=>cStr r_30 fun b_17 r_31=>cStr r_31 fun b_18 r_32=>cInt .i64 r_32 fun n_11 r_33=>cStr r_33 fun b_19 r_34=>cBs r_34 fun b_20 r_35=>cStr r_35 fun b_21 r_36=>cStr r_36 fun b_22 r_37=>cBs r_37 fun b_23 r_38=>cStr r_38 fun b_24 r_39=>let t8:Bool:=t6&&l63 b_21&&l63 b_22&&l63 b_24&&true;cSl 9 r_39 fun b_25 r_40=>let t9:Wv:=Wj (Yv b_24 (Yx Yz b_25)) [] Kerb.noIssue false;let t10:AV:=Yw (Zz b_24::Yd 9 b_25::Zf []::t1);let t11:AV:=Yw (Zz b_24::Yd 9 b_25::Zf (Xp (Zx (Zb n 10 [])))::t1);let t12:AV:=Yw (Zz b_24::Yd 9 b_25::Zf (Xp (Zx (Zb n 3 [])))::t1);cInt .i64 r_40 fun n_12 r_41=>let t13:Kerb.Svc:=Kerb.svc (Yv b_24 (Yx Yz b_25)) (Yx Kerb.toCross []) b_21 b_22 n_12;cInt .i64 r_41 fun n_13 r_42=>cInt .i64 r_42 fun n_14 r_43=>cInt .u64 r_43 fun n_15 r_44=>let t14:List (List AV):=[[Zy .i64 n,Zz b_16,Zz b_17,Zz b_18,Zy .i64 n_11,Zz b_19,Zf b_20,Zz b_21,Zz b_22,Zf b_23,Zz b_24,Yd 9 b_25,Zy .i64 n_12,Zy .i64 n_13,Zy .i64 n_14,Zy .u64 n_15]];let t17:Option (AV×Blocks):=chk (decide (0≤n_15)&&decide (n_15<18446744073709551616)) (some (Zy .i64 (Wh n_15),[]));let t15:Option (AV×Blocks):=sel (!Xd (Zx (Zb n 3 []))==0) (some (t10,t14)) (some (t12,t14));let t16:Option (AV×Blocks):=sel (!Xd (Zx (Zb n 10 []))==0) (some (t10,t14)) (some (t11,t14));onNil r_44 (onNilB r_28 (AV.onTup (Yj r) fun vs=>onCons vs fun x r=>Xf x fun cs=>cStr cs fun b_26 r_45=>cInt .i64 r_45 fun n_16 r_46=>cInt .i64 r_46 fun n_17 r_47=>cInt .i64 r_47 fun n_18 r_48=>let t19:List AV:=[Zy .i64 n_18,Zy .i64 (Wk n_9 n_8)];let t18:Nat:=Zp t19;cInt .u64 r_48 fun n_19 r_49=>onNil r_49 (cInt .i64 r fun n_20 r=>onNil r (sel (!n_20==0) (sel (!Xd (Zx (Zb n n_20 []))==0) (some (t10,t14)) (some (Yw (Zz b_24::Yd 9 b_25::Zf (Xp (Zx (Zb n n_20 [])))::t1),t14))) (Zd (chk (Wz b_25 Xg&&decide (Zp b_25≤1000000)&&true&&true&&l63 b_22) (some (Xb [Zy .u64 (Kerb.Svc.key t13),Zy .i64 (Kerb.Svc.kvno t13),Zy .i64 (Kerb.Svc.life t13),Zy .i64 (Kerb.Svc.expires t13),Zy .i64 (Kerb.Svc.err t13)],[]))) (kT fun vs=>cInt .u64 vs fun n_21 r=>let t20:Bool:=t8&&Wy n_15&&Wy n_7&&Wy n_21&&Wy n_7&&Wz b_25 Xg&&Wz b_25 Xg&&decide (0≤n_16)&&decide (n_16≤4294967295);cInt .i64 r fun n_22 r=>cInt .i64 r fun n_23 r=>cInt .i64 r fun n_24 r=>cInt .i64 r fun n_25 r=>onNil r (sel (!n_25==0) (sel (!Xd (Zx (Zb n n_25 []))==0) (some (t10,t14)) (some (Yw (Zz b_24::Yd 9 b_25::Zf (Xp (Zx (Zb n n_25 [])))::t1),t14))) (chk (decide (0<(↑(Zp [Zy .i64 n_24]):Int))&&true) (AV.onInt .i64 (Vj [Zy .i64 n_24] (Vp 0) AV.undef) fun n_26=>sel (!n_26==0) (chk (room (t18+Zp [Zy .i64 n_26]) (nat_lit 8)) (Zd (chk (decide (Zp (t19++[Zy .i64 n_26])≤1000000)&&Wz [n_18,Wk n_9 n_8,n_26] Wn) (some (Xb [Zy .i64 (Yj (Yf n_12 n_23 [n_18,Wk n_9 n_8,n_26])),Yy (Yq (Yf n_12 n_23 [n_18,Wk n_9 n_8,n_26]))],[]))) (kT fun vs=>cInt .i64 vs fun n_27 r=>let t25:Kerb.Bytes×Ym×Bool:=Vx n t0 n_16 b_24 (Yu b b_10 b_11) (Yu b_21 b_22 b_24) n_6 n_12 n_27 n_15 n_7 n_21 n_22 4 n_7;let t24:Ym×Bool:=Yq t25;let t23:Bool:=Yq t24;let t22:Wv:=if t23=true then Wj (Yv b_24 (Yx Yz b_25)) (Yj t25) (Yj t24) true else t9;let t21:Ym:=Xq t22;cBool r fun b r=>onNil r (sel (!b) t15 (Zd t17 (kI .i64 fun n=>sel (!n==2) t16 (Zd (chk t20 (some (Yw [Zz (Xj (Zh t22)),Yd 9 (Yx Yg (Xx (Zh t22))),Zf (Xy t22),Zy .i64 (Xu t21),Zz (Zj (Zv t21)),Zz (Zk (Zv t21)),Zz (Zq (Zv t21)),Zz (Zj (Zu t21)),Zz (Zk (Zu t21)),Zz (Zq (Zu t21)),Zz (Zj (Zw t21)),Zz (Zk (Zw t21)),Zz (Zq (Zw t21)),Zy .u64 (Yk t21),Zy .u64 (Yb t21),Zy .u64 (Yp t21),Zf (Xw t21),Zy .i64 (Yn t21),Zy .i64 (Xv t21),Yy (Xm t22)],t14))) fun (r:AV×Blocks)=>onConsB (Yq r) fun (x:List AV) (r_50:List (List AV))=>cInt .i64 x fun n r_51=>cStr r_51 fun b r_52=>cStr r_52 fun b_27 r_53=>cStr r_53 fun b_28 r_54=>cInt .i64 r_54 fun n_28 r_55=>cStr r_55 fun b_29 r_56=>cBs r_56 fun b_30 r_57=>cStr r_57 fun b_31 r_58=>cStr r_58 fun b_32 r_59=>cBs r_59 fun b_33 r_60=>cStr r_60 fun b_34 r_61=>cSl 9 r_61 fun b_35 r_62=>cInt .i64 r_62 fun n_29 r_63=>cInt .i64 r_63 fun n_30 r_64=>cInt .i64 r_64 fun n_31 r_65=>cInt .u64 r_65 fun n_32 r_66=>onNil r_66 (onNilB r_50 (Xf (Yj r) fun cs=>cStr cs fun b_36 r=>cSl 9 r fun b_37 r=>cBs r fun b_38 r=>cInt .i64 r fun n_33 r=>cStr r fun b_39 r=>cStr r fun b_40 r=>cStr r fun b_41 r=>cStr r fun b_42 r=>cStr r fun b_43 r=>cStr r fun b_44 r=>cStr r fun b_45 r=>cStr r fun b_46 r=>cStr r fun b_47 r=>cInt .u64 r fun n_34 r=>cInt .u64 r fun n_35 r=>cInt .u64 r fun n_36 r=>cBs r fun b_48 r=>cInt .i64 r fun n_37 r=>cInt .i64 r fun n_38 r=>cBool r fun b_49 r=>onNil r (some (Yw [Zz b_36,Yd 9 b_37,Zf b_38,Zy .i64 n_33,Zz b_39,Zz b_40,Zz b_41,Zz b_42,Zz b_43,Zz b_44,Zz b_45,Zz b_46,Zz b_47,Zy .u64 n_34,Zy .u64 n_35,Zy .u64 n_36,Zf b_48,Zy .i64 n_37,Zy .i64 n_38,Yy b_49],[[Zy .i64 n,Zz b,Zz b_27,Zz b_28,Zy .i64 n_28,Zz b_29,Zf b_30,Zz b_31,Zz b_32,Zf b_33,Zz b_34,Yd 9 b_35,Zy .i64 n_29,Zy .i64 n_30,Zy .i64 n_31,Zy .u64 n_32]]))))))))))) (Zd (chk (decide (t18≤1000000)&&Wz [n_18,Wk n_9 n_8] Wn) (some (Xb [Zy .i64 (Yj (Yf n_12 n_23 [n_18,Wk n_9 n_8])),Yy (Yq (Yf n_12 n_23 [n_18,Wk n_9 n_8]))],[]))) (kT fun vs=>cInt .i64 vs fun n_27 r=>let t30:Kerb.Bytes×Ym×Bool:=Vx n t0 n_16 b_24 (Yu b b_10 b_11) (Yu b_21 b_22 b_24) n_6 n_12 n_27 n_15 n_7 n_21 n_22 4 n_7;let t29:Ym×Bool:=Yq t30;let t28:Bool:=Yq t29;let t27:Wv:=if t28=true then Wj (Yv b_24 (Yx Yz b_25)) (Yj t30) (Yj t29) true else t9;let t26:Ym:=Xq t27;cBool r fun b r=>onNil r (sel (!b) t15 (Zd t17 (kI .i64 fun n=>sel (!n==2) t16 (Zd (chk t20 (some (Yw [Zz (Xj (Zh t27)),Yd 9 (Yx Yg (Xx (Zh t27))),Zf (Xy t27),Zy .i64 (Xu t26),Zz (Zj (Zv t26)),Zz (Zk (Zv t26)),Zz (Zq (Zv t26)),Zz (Zj (Zu t26)),Zz (Zk (Zu t26)),Zz (Zq (Zu t26)),Zz (Zj (Zw t26)),Zz (Zk (Zw t26)),Zz (Zq (Zw t26)),Zy .u64 (Yk t26),Zy .u64 (Yb t26),Zy .u64 (Yp t26),Zf (Xw t26),Zy .i64 (Yn t26),Zy .i64 (Xv t26),Yy (Xm t27)],t14))) fun (r:AV×Blocks)=>onConsB (Yq r) fun (x:List AV) (r_50:List (List AV))=>cInt .i64 x fun n r_51=>cStr r_51 fun b r_52=>cStr r_52 fun b_27 r_53=>cStr r_53 fun b_28 r_54=>cInt .i64 r_54 fun n_28 r_55=>cStr r_55 fun b_29 r_56=>cBs r_56 fun b_30 r_57=>cStr r_57 fun b_31 r_58=>cStr r_58 fun b_32 r_59=>cBs r_59 fun b_33 r_60=>cStr r_60 fun b_34 r_61=>cSl 9 r_61 fun b_35 r_62=>cInt .i64 r_62 fun n_29 r_63=>cInt .i64 r_63 fun n_30 r_64=>cInt .i64 r_64 fun n_31 r_65=>cInt .u64 r_65 fun n_32 r_66=>onNil r_66 (onNilB r_50 (Xf (Yj r) fun cs=>cStr cs fun b_36 r=>cSl 9 r fun b_37 r=>cBs r fun b_38 r=>cInt .i64 r fun n_33 r=>cStr r fun b_39 r=>cStr r fun b_40 r=>cStr r fun b_41 r=>cStr r fun b_42 r=>cStr r fun b_43 r=>cStr r fun b_44 r=>cStr r fun b_45 r=>cStr r fun b_46 r=>cStr r fun b_47 r=>cInt .u64 r fun n_34 r=>cInt .u64 r fun n_35 r=>cInt .u64 r fun n_36 r=>cBs r fun b_48 r=>cInt .i64 r fun n_37 r=>cInt .i64 r fun n_38 r=>cBool r fun b_49 r=>onNil r (some (Yw [Zz b_36,Yd 9 b_37,Zf b_38,Zy .i64 n_33,Zz b_39,Zz b_40,Zz b_41,Zz b_42,Zz b_43,Zz b_44,Zz b_45,Zz b_46,Zz b_47,Zy .u64 n_34,Zy .u64 n_35,Zy .u64 n_36,Zf b_48,Zy .i64 n_37,Zy .i64 n_38,Yy b_49],[[Zy .i64 n,Zz b,Zz b_27,Zz b_28,Zy .i64 n_28,Zz b_29,Zf b_30,Zz b_31,Zz b_32,Zf b_33,Zz b_34,Yd 9 b_35,Zy .i64 n_29,Zy .i64 n_30,Zy .i64 n_31,Zy .u64 n_32]]))))))))))))))))))))))))))):Option (AV×Blocks))) (by kernel_rfl) ?_
  delta kT kI
  try dsimp only [cStr,cBs,cBool,cU8,cInt,cSl,l63]
  simp only [Wq,decide_eq_true_eq] at hpre
  obtain ⟨⟨hpre,hop⟩,hn⟩:=hpre
  obtain ⟨⟨⟨⟨⟨⟨⟨⟨⟨⟨⟨c1,c2⟩,c3⟩,c4⟩,c5⟩,c6⟩,c7⟩,c8⟩,c9⟩,c10⟩,hall⟩,hlen⟩:=hpre
  subst hop
  obtain ⟨es,rfl,hok⟩:=Wm hall
  rw [Xz]
  simp only [Xk] at hlen
  have hlb:[(103:UInt8),(84:UInt8),(75:UInt8),(84:UInt8)]=Kerb.lTicket:=rfl
  have hlb2:[(116:UInt8),(107:UInt8),(116:UInt8),(71:UInt8)]=Kerb.lGiven:=rfl
  have bl:decide (bx.length≤140737488355328)=true:=by simp;omega
  have q8:=Kerb.isU64_iff.1 c8
  have q88:(decide (0≤se)&&decide (se<18446744073709551616))=true:=by simp;omega
  simp only [hlb,hlb2,Xz,hall,hn,Xk,hlen,bl,c1,c2,c3,c4,c5,c6,c7,c8,c9,c10,q88,decide_true,Xh,List.map_nil,↓A0,A0]
  unfold Kerb.kaGetTicket Kerb.kaLife2
  dsimp only
  have tb:=Kerb.presented_bd ⟨rl,es⟩ now ad sk ⟨2,⟨u1,u2,u3⟩,kv,qr,tk,sv,ins,bx⟩
  generalize Kerb.kaPresented ⟨rl,es⟩ now ad sk ⟨2,⟨u1,u2,u3⟩,kv,qr,tk,sv,ins,bx⟩=T at tb ⊢
  by_cases h1:T.err=0
  case neg =>
   rw [sel_pos (by simpa using h1),if_pos h1]
   by_cases hr:(Zx ⟨2,T.err,[]⟩).err=0
   ·rw [sel_neg (by simpa using hr)];rfl
   ·rw [sel_pos (by simpa using hr),Zn hr];rfl
  rw [sel_neg (by simpa using h1),if_neg (not_not_intro h1)]
  have ol:=Kerb.openBox_len bx 7 T.val.session
  generalize Vv bx 7 T.val.session=O at ol ⊢
  obtain ⟨bd,ok⟩:=O
  dsimp only at ol ⊢
  cases ok
  ·rw [sel_pos (by rfl),if_pos rfl]
   by_cases hr:(Zx ⟨2,31,[]⟩).err=0
   ·rw [sel_neg (by simpa using hr)];rfl
   ·rw [sel_pos (by simpa using hr),Zn hr];rfl
  rw [sel_neg (by rfl),if_neg (show ¬ (true=false) from by decide)]
  rw [chk_of (by simp;omega)]
  have sb:=Kerb.kaSecOf_bd bd Kerb.lTicket now sk
  generalize Vw bd Kerb.lTicket now sk=S at sb ⊢
  by_cases h3:S.err=0
  case neg =>
   rw [sel_pos (by simpa using h3),if_pos h3]
   by_cases hr:(Zx ⟨2,S.err,[]⟩).err=0
   ·rw [sel_neg (by simpa using hr)];rfl
   ·rw [sel_pos (by simpa using hr),Zn hr];rfl
  rw [sel_neg (by simpa using h3),if_neg (not_not_intro h3)]
  have vb:=Kerb.svc_ok (d:=⟨rl,es⟩) (n:=sv) (i:=ins) (now:=now) hok
  generalize Kerb.svc ⟨rl,es⟩ [] sv ins now=V at vb ⊢
  by_cases h2:V.err=0
  case neg =>
   rw [sel_pos (by simpa using h2),if_pos h2]
   by_cases hr:(Zx ⟨2,V.err,[]⟩).err=0
   ·rw [sel_neg (by simpa using hr)];rfl
   ·rw [sel_pos (by simpa using hr),Zn hr];rfl
  rw [sel_neg (by simpa using h2),if_neg (not_not_intro h2)]
  have t0:decide (0≤S.val.time)=true:=decide_eq_true sb.1.1
  have t1:decide (S.val.time≤4294967295)=true:=decide_eq_true sb.1.2
  have s1:Wn S.val.stop=true:=by rw [Kerb.isI64_iff];unfold Kerb.KaSecret.bd at sb;omega
  have s2:=Kerb.tEnd_i64 T.val.issued T.val.life
  have k1:decide (T.val.client.name.length≤9223372036854775807)=true:=decide_eq_true (Wu tb.1 (by decide))
  have k2:decide (T.val.client.inst.length≤9223372036854775807)=true:=decide_eq_true (Wu tb.2.1 (by decide))
  have k3:decide (T.val.client.realm.length≤9223372036854775807)=true:=decide_eq_true (Wu tb.2.2.1 (by decide))
  try simp only [k1,k2,k3,Xh,Bool.true_and]
  have g0:Vj [Zy Wf V.expires] (Vp 0) AV.undef=Zy Wf V.expires:=rfl
  rw [chk_of (by rfl),g0,onInt_int]
  by_cases hv:V.expires=0
  ·rw [sel_neg (by simp [hv])]
   rw [chk_of (by simp [s1,s2,vb.2.2.2]),show Wx [S.val.stop,Wk T.val.issued T.val.life] V.expires=[S.val.stop,Wk T.val.issued T.val.life] from by simp [Wx,hv]]
   generalize Yf now V.life [S.val.stop,Wk T.val.issued T.val.life]=L
   obtain ⟨life,ok⟩:=L
   dsimp only
   cases ok
   ·rw [sel_pos (by rfl),if_pos rfl]
    by_cases hr:(Zx ⟨2,3,[]⟩).err=0
    ·rw [sel_neg (by simpa using hr)];rfl
    ·rw [sel_pos (by simpa using hr),Zn hr];rfl
   rw [sel_neg (by rfl),if_neg (show ¬ (true=false) from by decide)]
   by_cases h5:Wh se=2
   case neg =>
    rw [sel_pos (by simpa using h5),if_pos h5]
    by_cases hr:(Zx ⟨2,10,[]⟩).err=0
    ·rw [sel_neg (by simpa using hr)];rfl
    ·rw [sel_pos (by simpa using hr),Zn hr];rfl
   rw [sel_neg (by simpa using h5),if_neg (not_not_intro h5),chk_of (by rw [tb.2.2.2,vb.1,t0,t1];rfl)]
   rw [Kerb.kaGive_out]
  ·rw [sel_pos (by simpa using hv),chk_of (by rfl)]
   rw [chk_of (by simp [s1,s2,vb.2.2.2]),show Wx [S.val.stop,Wk T.val.issued T.val.life] V.expires=[S.val.stop,Wk T.val.issued T.val.life,V.expires] from by simp [Wx,hv]]
   generalize Yf now V.life [S.val.stop,Wk T.val.issued T.val.life,V.expires]=L
   obtain ⟨life,ok⟩:=L
   dsimp only
   cases ok
   ·rw [sel_pos (by rfl),if_pos rfl]
    by_cases hr:(Zx ⟨2,3,[]⟩).err=0
    ·rw [sel_neg (by simpa using hr)];rfl
    ·rw [sel_pos (by simpa using hr),Zn hr];rfl
   rw [sel_neg (by rfl),if_neg (show ¬ (true=false) from by decide)]
   by_cases h5:Wh se=2
   case neg =>
    rw [sel_pos (by simpa using h5),if_pos h5]
    by_cases hr:(Zx ⟨2,10,[]⟩).err=0
    ·rw [sel_neg (by simpa using hr)];rfl
    ·rw [sel_pos (by simpa using hr),Zn hr];rfl
   rw [sel_neg (by simpa using h5),if_neg (not_not_intro h5),chk_of (by rw [tb.2.2.2,vb.1,t0,t1];rfl)]
   rw [Kerb.kaGive_out]
 ·cases h
theorem w159:Walked Tryz.prog G 159 13 sp159:=by
 refine ⟨Tryz.f159,Tryz.func159,by decide +kernel,rfl,fun xs bl r h=> ?_⟩
 unfold sp159 at h
 split at h
 ·rename_i dr dls en ei ek ev ex em ea ef et bd op u1 u2 u3 kv qr tk sv ins bx rl els now ad sk se
  obtain ⟨hpre,h2⟩:=chk_inv h;cases h2
  show runFnH (G.env 159 13) G.rts (G.own 159) Tryz.f159 _ _ [0]=_
  refine Eq.trans (b:=(let t0:List UInt8:=[(107:UInt8),(114:UInt8),(98:UInt8),(116:UInt8),(103:UInt8),(116:UInt8)];let t1:List UInt8:=[(116:UInt8),(103:UInt8),(115:UInt8),(84:UInt8)];let t2:List AV:=[Zy .i64 0,Zz [],Zz [],Zz [],Zz [],Zz [],Zz [],Zz [],Zz [],Zz [],Zy .u64 0,Zy .u64 0,Zy .u64 0,Zf [],Zy .i64 0,Zy .i64 0,Yy false];let t4:Kerb.Dec Kerb.KaSecret:=Vw bd [(103:UInt8),(84:UInt8),(71:UInt8),(83:UInt8)] now sk;let t3:Kerb.KaSecret:=Zm t4;Zd (chk (decide (Zp bd≤1000000)) (some (Xb [Yw [Zz (Kerb.KaSecret.label t3),Zy .i64 (Kerb.KaSecret.time t3),Zy .i64 (Kerb.KaSecret.start t3),Zy .i64 (Kerb.KaSecret.stop t3),Zy .u64 (Kerb.KaSecret.new t3)],Zy .i64 (Wb t4)],[[Zy .i64 op,Zz u1,Zz u2,Zz u3,Zy .i64 kv,Zz qr,Zf tk,Zz sv,Zz ins,Zf bx,Zz rl,Yd 9 els,Zy .i64 now,Zy .i64 ad,Zy .i64 sk,Zy .u64 se]]))) fun (r:AV×Blocks)=>onConsB (Yq r) fun (x:List AV) (r_1:List (List AV))=>cInt .i64 x fun n r_2=>let t5:Bool := !Xd (Zx (Zb n 10 []))==0;let t6:Bool := !Xd (Zx (Zb n 3 []))==0;let t7:List AV:=Zf (Xp (Zx (Zb n 3 [])))::t2;let t8:List AV:=Zf (Xp (Zx (Zb n 10 [])))::t2;cStr r_2 fun b r_3=>cStr r_3 fun b_1 r_4=>let t9:Bool:=l63 b&&l63 b_1;cStr r_4 fun b_2 r_5=>let t10:Bool:=t9&&l63 b_2&&true;cInt .i64 r_5 fun n_1 r_6=>cStr r_6 fun b_3 r_7=>cBs r_7 fun b_4 r_8=>cStr r_8 fun b_5 r_9=>cStr r_9 fun b_6 r_10=>cBs r_10 fun b_7 r_11=>cStr r_11 fun b_8 r_12=>let t11:Bool:=t10&&l63 b_8&&l63 b_8&&true;cSl 9 r_12 fun b_9 r_13=>let t12:Wv:=Wj (Yv b_8 (Yx Yz b_9)) [] Kerb.noIssue false;let t13:AV:=Yw (Zz b_8::Yd 9 b_9::Zf []::t2);let t14:AV:=Yw (Zz b_8::Yd 9 b_9::t7);let t15:AV:=Yw (Zz b_8::Yd 9 b_9::t8);cInt .i64 r_13 fun n_2 r_14=>let t16:Kerb.Svc:=Kerb.svc (Yv b_8 (Yx Yz b_9)) (Yx Kerb.toCross []) t0 b_8 n_2;cInt .i64 r_14 fun n_3 r_15=>cInt .i64 r_15 fun n_4 r_16=>cInt .u64 r_16 fun n_5 r_17=>let t17:List (List AV):=[[Zy .i64 n,Zz b,Zz b_1,Zz b_2,Zy .i64 n_1,Zz b_3,Zf b_4,Zz b_5,Zz b_6,Zf b_7,Zz b_8,Yd 9 b_9,Zy .i64 n_2,Zy .i64 n_3,Zy .i64 n_4,Zy .u64 n_5]];let t18:Option (AV×Blocks):=chk (decide (0≤n_5)&&decide (n_5<18446744073709551616)) (some (Zy .i64 (Wh n_5),[]));let t21:Bool:=t11&&Wy n_5&&Wy ek;let t19:Option (AV×Blocks):=sel t6 (some (t13,t17)) (some (t14,t17));let t20:Option (AV×Blocks):=sel t5 (some (t13,t17)) (some (t15,t17));onNil r_17 (onNilB r_1 (AV.onTup (Yj r) fun vs=>onCons vs fun x r=>Xf x fun cs=>cStr cs fun b_10 r_18=>cInt .i64 r_18 fun n_6 r_19=>cInt .i64 r_19 fun n_7 r_20=>cInt .i64 r_20 fun n_8 r_21=>cInt .u64 r_21 fun n_9 r_22=>onNil r_22 (cInt .i64 r fun n_10 r=>onNil r (sel (!n_10==0) (sel (!Xd (Zx (Zb n n_10 []))==0) (some (t13,t17)) (some (Yw (Zz b_8::Yd 9 b_9::Zf (Xp (Zx (Zb n n_10 [])))::t2),t17))) (Zd (chk (Wz b_9 Xg&&decide (Zp b_9≤1000000)&&true&&true&&l63 b_8) (some (Xb [Zy .u64 (Kerb.Svc.key t16),Zy .i64 (Kerb.Svc.kvno t16),Zy .i64 (Kerb.Svc.life t16),Zy .i64 (Kerb.Svc.expires t16),Zy .i64 (Kerb.Svc.err t16)],[]))) (kT fun vs=>cInt .u64 vs fun n_11 r=>let t22:Bool:=t21&&Wy n_11&&true&&Wz b_9 Xg&&Wz dls Xg&&decide (0≤n_6)&&decide (n_6≤4294967295);cInt .i64 r fun n_12 r=>cInt .i64 r fun n_13 r=>cInt .i64 r fun n_14 r=>let t25:List AV:=[Zy .i64 ex,Zy .i64 n_14];let t23:Int:=(↑(Zp t25):Int);let t24:AV:=Vj t25 (Vp (Wg .i64 (0+1))) AV.undef;cInt .i64 r fun n_15 r=>onNil r (sel (!n_15==0) (sel (!Xd (Zx (Zb n n_15 []))==0) (some (t13,t17)) (some (Yw (Zz b_8::Yd 9 b_9::Zf (Xp (Zx (Zb n n_15 [])))::t2),t17))) (chk (decide (0<t23)&&true) (AV.onInt .i64 (Vj t25 (Vp 0) AV.undef) fun n_16=>let t27:List AV:=[Zy .i64 n_8]++[Zy .i64 n_16];let t26:Nat:=Zp t27;sel (!n_16==0) (chk (room (Zp [Zy .i64 n_8]+Zp [Zy .i64 n_16]) (nat_lit 8)) (chk (decide (Wg .i64 (0+1)<t23)&&true) (AV.onInt .i64 t24 fun n_17=>sel (!n_17==0) (chk (room (t26+Zp [Zy .i64 n_17]) (nat_lit 8)) (Zd (chk (decide (Zp (t27++[Zy .i64 n_17])≤1000000)&&Wz [n_8,n_16,n_17] Wn) (some (Xb [Zy .i64 (Yj (Yf n_2 (Wd em n_13) [n_8,n_16,n_17])),Yy (Yq (Yf n_2 (Wd em n_13) [n_8,n_16,n_17]))],[]))) (kT fun vs=>cInt .i64 vs fun n_18 r=>let t32:Kerb.Bytes×Ym×Bool:=Vx n t1 n_6 b_8 (Yu b b_1 b_2) (Yu t0 b_8 b_8) n_3 n_2 n_18 n_5 ek n_11 n_12 3 0;let t31:Ym×Bool:=Yq t32;let t30:Bool:=Yq t31;let t29:Wv:=if t30=true then Wj (Yv dr (Yx Yz dls)) (Yj t32) (Yj t31) true else t12;let t28:Ym:=Xq t29;cBool r fun b r=>onNil r (sel (!b) t19 (Zd t18 (kI .i64 fun n=>sel (!n==2) t20 (Zd (chk t22 (some (Yw [Zz (Xj (Zh t29)),Yd 9 (Yx Yg (Xx (Zh t29))),Zf (Xy t29),Zy .i64 (Xu t28),Zz (Zj (Zv t28)),Zz (Zk (Zv t28)),Zz (Zq (Zv t28)),Zz (Zj (Zu t28)),Zz (Zk (Zu t28)),Zz (Zq (Zu t28)),Zz (Zj (Zw t28)),Zz (Zk (Zw t28)),Zz (Zq (Zw t28)),Zy .u64 (Yk t28),Zy .u64 (Yb t28),Zy .u64 (Yp t28),Zf (Xw t28),Zy .i64 (Yn t28),Zy .i64 (Xv t28),Yy (Xm t29)],t17))) fun (r:AV×Blocks)=>onConsB (Yq r) fun (x:List AV) (r_23:List (List AV))=>cInt .i64 x fun n r_24=>cStr r_24 fun b r_25=>cStr r_25 fun b_11 r_26=>cStr r_26 fun b_12 r_27=>cInt .i64 r_27 fun n_19 r_28=>cStr r_28 fun b_13 r_29=>cBs r_29 fun b_14 r_30=>cStr r_30 fun b_15 r_31=>cStr r_31 fun b_16 r_32=>cBs r_32 fun b_17 r_33=>cStr r_33 fun b_18 r_34=>cSl 9 r_34 fun b_19 r_35=>cInt .i64 r_35 fun n_20 r_36=>cInt .i64 r_36 fun n_21 r_37=>cInt .i64 r_37 fun n_22 r_38=>cInt .u64 r_38 fun n_23 r_39=>onNil r_39 (onNilB r_23 (Xf (Yj r) fun cs=>cStr cs fun b_20 r=>cSl 9 r fun b_21 r=>cBs r fun b_22 r=>cInt .i64 r fun n_24 r=>cStr r fun b_23 r=>cStr r fun b_24 r=>cStr r fun b_25 r=>cStr r fun b_26 r=>cStr r fun b_27 r=>cStr r fun b_28 r=>cStr r fun b_29 r=>cStr r fun b_30 r=>cStr r fun b_31 r=>cInt .u64 r fun n_25 r=>cInt .u64 r fun n_26 r=>cInt .u64 r fun n_27 r=>cBs r fun b_32 r=>cInt .i64 r fun n_28 r=>cInt .i64 r fun n_29 r=>cBool r fun b_33 r=>onNil r (some (Yw [Zz b_20,Yd 9 b_21,Zf b_22,Zy .i64 n_24,Zz b_23,Zz b_24,Zz b_25,Zz b_26,Zz b_27,Zz b_28,Zz b_29,Zz b_30,Zz b_31,Zy .u64 n_25,Zy .u64 n_26,Zy .u64 n_27,Zf b_32,Zy .i64 n_28,Zy .i64 n_29,Yy b_33],[[Zy .i64 n,Zz b,Zz b_11,Zz b_12,Zy .i64 n_19,Zz b_13,Zf b_14,Zz b_15,Zz b_16,Zf b_17,Zz b_18,Yd 9 b_19,Zy .i64 n_20,Zy .i64 n_21,Zy .i64 n_22,Zy .u64 n_23]]))))))))))) (Zd (chk (decide (t26≤1000000)&&Wz [n_8,n_16] Wn) (some (Xb [Zy .i64 (Yj (Yf n_2 (Wd em n_13) [n_8,n_16])),Yy (Yq (Yf n_2 (Wd em n_13) [n_8,n_16]))],[]))) (kT fun vs=>cInt .i64 vs fun n_18 r=>let t37:Kerb.Bytes×Ym×Bool:=Vx n t1 n_6 b_8 (Yu b b_1 b_2) (Yu t0 b_8 b_8) n_3 n_2 n_18 n_5 ek n_11 n_12 3 0;let t36:Ym×Bool:=Yq t37;let t35:Bool:=Yq t36;let t34:Wv:=if t35=true then Wj (Yv dr (Yx Yz dls)) (Yj t37) (Yj t36) true else t12;let t33:Ym:=Xq t34;cBool r fun b r=>onNil r (sel (!b) t19 (Zd t18 (kI .i64 fun n=>sel (!n==2) t20 (Zd (chk t22 (some (Yw [Zz (Xj (Zh t34)),Yd 9 (Yx Yg (Xx (Zh t34))),Zf (Xy t34),Zy .i64 (Xu t33),Zz (Zj (Zv t33)),Zz (Zk (Zv t33)),Zz (Zq (Zv t33)),Zz (Zj (Zu t33)),Zz (Zk (Zu t33)),Zz (Zq (Zu t33)),Zz (Zj (Zw t33)),Zz (Zk (Zw t33)),Zz (Zq (Zw t33)),Zy .u64 (Yk t33),Zy .u64 (Yb t33),Zy .u64 (Yp t33),Zf (Xw t33),Zy .i64 (Yn t33),Zy .i64 (Xv t33),Yy (Xm t34)],t17))) fun (r:AV×Blocks)=>onConsB (Yq r) fun (x:List AV) (r_23:List (List AV))=>cInt .i64 x fun n r_24=>cStr r_24 fun b r_25=>cStr r_25 fun b_11 r_26=>cStr r_26 fun b_12 r_27=>cInt .i64 r_27 fun n_19 r_28=>cStr r_28 fun b_13 r_29=>cBs r_29 fun b_14 r_30=>cStr r_30 fun b_15 r_31=>cStr r_31 fun b_16 r_32=>cBs r_32 fun b_17 r_33=>cStr r_33 fun b_18 r_34=>cSl 9 r_34 fun b_19 r_35=>cInt .i64 r_35 fun n_20 r_36=>cInt .i64 r_36 fun n_21 r_37=>cInt .i64 r_37 fun n_22 r_38=>cInt .u64 r_38 fun n_23 r_39=>onNil r_39 (onNilB r_23 (Xf (Yj r) fun cs=>cStr cs fun b_20 r=>cSl 9 r fun b_21 r=>cBs r fun b_22 r=>cInt .i64 r fun n_24 r=>cStr r fun b_23 r=>cStr r fun b_24 r=>cStr r fun b_25 r=>cStr r fun b_26 r=>cStr r fun b_27 r=>cStr r fun b_28 r=>cStr r fun b_29 r=>cStr r fun b_30 r=>cStr r fun b_31 r=>cInt .u64 r fun n_25 r=>cInt .u64 r fun n_26 r=>cInt .u64 r fun n_27 r=>cBs r fun b_32 r=>cInt .i64 r fun n_28 r=>cInt .i64 r fun n_29 r=>cBool r fun b_33 r=>onNil r (some (Yw [Zz b_20,Yd 9 b_21,Zf b_22,Zy .i64 n_24,Zz b_23,Zz b_24,Zz b_25,Zz b_26,Zz b_27,Zz b_28,Zz b_29,Zz b_30,Zz b_31,Zy .u64 n_25,Zy .u64 n_26,Zy .u64 n_27,Zf b_32,Zy .i64 n_28,Zy .i64 n_29,Yy b_33],[[Zy .i64 n,Zz b,Zz b_11,Zz b_12,Zy .i64 n_19,Zz b_13,Zf b_14,Zz b_15,Zz b_16,Zf b_17,Zz b_18,Yd 9 b_19,Zy .i64 n_20,Zy .i64 n_21,Zy .i64 n_22,Zy .u64 n_23]]))))))))))))) (chk (decide (Wg .i64 (0+1)<t23)&&true) (AV.onInt .i64 t24 fun n_17=>sel (!n_17==0) (chk (room (Zp [Zy .i64 n_8]+Zp [Zy .i64 n_17]) (nat_lit 8)) (Zd (chk (decide (Zp ([Zy .i64 n_8]++[Zy .i64 n_17])≤1000000)&&Wz [n_8,n_17] Wn) (some (Xb [Zy .i64 (Yj (Yf n_2 (Wd em n_13) [n_8,n_17])),Yy (Yq (Yf n_2 (Wd em n_13) [n_8,n_17]))],[]))) (kT fun vs=>cInt .i64 vs fun n_18 r=>let t42:Kerb.Bytes×Ym×Bool:=Vx n t1 n_6 b_8 (Yu b b_1 b_2) (Yu t0 b_8 b_8) n_3 n_2 n_18 n_5 ek n_11 n_12 3 0;let t41:Ym×Bool:=Yq t42;let t40:Bool:=Yq t41;let t39:Wv:=if t40=true then Wj (Yv dr (Yx Yz dls)) (Yj t42) (Yj t41) true else t12;let t38:Ym:=Xq t39;cBool r fun b r=>onNil r (sel (!b) t19 (Zd t18 (kI .i64 fun n=>sel (!n==2) t20 (Zd (chk t22 (some (Yw [Zz (Xj (Zh t39)),Yd 9 (Yx Yg (Xx (Zh t39))),Zf (Xy t39),Zy .i64 (Xu t38),Zz (Zj (Zv t38)),Zz (Zk (Zv t38)),Zz (Zq (Zv t38)),Zz (Zj (Zu t38)),Zz (Zk (Zu t38)),Zz (Zq (Zu t38)),Zz (Zj (Zw t38)),Zz (Zk (Zw t38)),Zz (Zq (Zw t38)),Zy .u64 (Yk t38),Zy .u64 (Yb t38),Zy .u64 (Yp t38),Zf (Xw t38),Zy .i64 (Yn t38),Zy .i64 (Xv t38),Yy (Xm t39)],t17))) fun (r:AV×Blocks)=>onConsB (Yq r) fun (x:List AV) (r_23:List (List AV))=>cInt .i64 x fun n r_24=>cStr r_24 fun b r_25=>cStr r_25 fun b_11 r_26=>cStr r_26 fun b_12 r_27=>cInt .i64 r_27 fun n_19 r_28=>cStr r_28 fun b_13 r_29=>cBs r_29 fun b_14 r_30=>cStr r_30 fun b_15 r_31=>cStr r_31 fun b_16 r_32=>cBs r_32 fun b_17 r_33=>cStr r_33 fun b_18 r_34=>cSl 9 r_34 fun b_19 r_35=>cInt .i64 r_35 fun n_20 r_36=>cInt .i64 r_36 fun n_21 r_37=>cInt .i64 r_37 fun n_22 r_38=>cInt .u64 r_38 fun n_23 r_39=>onNil r_39 (onNilB r_23 (Xf (Yj r) fun cs=>cStr cs fun b_20 r=>cSl 9 r fun b_21 r=>cBs r fun b_22 r=>cInt .i64 r fun n_24 r=>cStr r fun b_23 r=>cStr r fun b_24 r=>cStr r fun b_25 r=>cStr r fun b_26 r=>cStr r fun b_27 r=>cStr r fun b_28 r=>cStr r fun b_29 r=>cStr r fun b_30 r=>cStr r fun b_31 r=>cInt .u64 r fun n_25 r=>cInt .u64 r fun n_26 r=>cInt .u64 r fun n_27 r=>cBs r fun b_32 r=>cInt .i64 r fun n_28 r=>cInt .i64 r fun n_29 r=>cBool r fun b_33 r=>onNil r (some (Yw [Zz b_20,Yd 9 b_21,Zf b_22,Zy .i64 n_24,Zz b_23,Zz b_24,Zz b_25,Zz b_26,Zz b_27,Zz b_28,Zz b_29,Zz b_30,Zz b_31,Zy .u64 n_25,Zy .u64 n_26,Zy .u64 n_27,Zf b_32,Zy .i64 n_28,Zy .i64 n_29,Yy b_33],[[Zy .i64 n,Zz b,Zz b_11,Zz b_12,Zy .i64 n_19,Zz b_13,Zf b_14,Zz b_15,Zz b_16,Zf b_17,Zz b_18,Yd 9 b_19,Zy .i64 n_20,Zy .i64 n_21,Zy .i64 n_22,Zy .u64 n_23]]))))))))))) (Zd (chk (decide (Zp [Zy .i64 n_8]≤1000000)&&Wz [n_8] Wn) (some (Xb [Zy .i64 (Yj (Yf n_2 (Wd em n_13) [n_8])),Yy (Yq (Yf n_2 (Wd em n_13) [n_8]))],[]))) (kT fun vs=>cInt .i64 vs fun n_18 r=>let t47:Kerb.Bytes×Ym×Bool:=Vx n t1 n_6 b_8 (Yu b b_1 b_2) (Yu t0 b_8 b_8) n_3 n_2 n_18 n_5 ek n_11 n_12 3 0;let t46:Ym×Bool:=Yq t47;let t45:Bool:=Yq t46;let t44:Wv:=if t45=true then Wj (Yv dr (Yx Yz dls)) (Yj t47) (Yj t46) true else t12;let t43:Ym:=Xq t44;cBool r fun b r=>onNil r (sel (!b) t19 (Zd t18 (kI .i64 fun n=>sel (!n==2) t20 (Zd (chk t22 (some (Yw [Zz (Xj (Zh t44)),Yd 9 (Yx Yg (Xx (Zh t44))),Zf (Xy t44),Zy .i64 (Xu t43),Zz (Zj (Zv t43)),Zz (Zk (Zv t43)),Zz (Zq (Zv t43)),Zz (Zj (Zu t43)),Zz (Zk (Zu t43)),Zz (Zq (Zu t43)),Zz (Zj (Zw t43)),Zz (Zk (Zw t43)),Zz (Zq (Zw t43)),Zy .u64 (Yk t43),Zy .u64 (Yb t43),Zy .u64 (Yp t43),Zf (Xw t43),Zy .i64 (Yn t43),Zy .i64 (Xv t43),Yy (Xm t44)],t17))) fun (r:AV×Blocks)=>onConsB (Yq r) fun (x:List AV) (r_23:List (List AV))=>cInt .i64 x fun n r_24=>cStr r_24 fun b r_25=>cStr r_25 fun b_11 r_26=>cStr r_26 fun b_12 r_27=>cInt .i64 r_27 fun n_19 r_28=>cStr r_28 fun b_13 r_29=>cBs r_29 fun b_14 r_30=>cStr r_30 fun b_15 r_31=>cStr r_31 fun b_16 r_32=>cBs r_32 fun b_17 r_33=>cStr r_33 fun b_18 r_34=>cSl 9 r_34 fun b_19 r_35=>cInt .i64 r_35 fun n_20 r_36=>cInt .i64 r_36 fun n_21 r_37=>cInt .i64 r_37 fun n_22 r_38=>cInt .u64 r_38 fun n_23 r_39=>onNil r_39 (onNilB r_23 (Xf (Yj r) fun cs=>cStr cs fun b_20 r=>cSl 9 r fun b_21 r=>cBs r fun b_22 r=>cInt .i64 r fun n_24 r=>cStr r fun b_23 r=>cStr r fun b_24 r=>cStr r fun b_25 r=>cStr r fun b_26 r=>cStr r fun b_27 r=>cStr r fun b_28 r=>cStr r fun b_29 r=>cStr r fun b_30 r=>cStr r fun b_31 r=>cInt .u64 r fun n_25 r=>cInt .u64 r fun n_26 r=>cInt .u64 r fun n_27 r=>cBs r fun b_32 r=>cInt .i64 r fun n_28 r=>cInt .i64 r fun n_29 r=>cBool r fun b_33 r=>onNil r (some (Yw [Zz b_20,Yd 9 b_21,Zf b_22,Zy .i64 n_24,Zz b_23,Zz b_24,Zz b_25,Zz b_26,Zz b_27,Zz b_28,Zz b_29,Zz b_30,Zz b_31,Zy .u64 n_25,Zy .u64 n_26,Zy .u64 n_27,Zf b_32,Zy .i64 n_28,Zy .i64 n_29,Yy b_33],[[Zy .i64 n,Zz b,Zz b_11,Zz b_12,Zy .i64 n_19,Zz b_13,Zf b_14,Zz b_15,Zz b_16,Zf b_17,Zz b_18,Yd 9 b_19,Zy .i64 n_20,Zy .i64 n_21,Zy .i64 n_22,Zy .u64 n_23]]))))))))))))))))))))):Option (AV×Blocks))) (by kernel_rfl) ?_
  delta kT kI
  try dsimp only [cStr,cBs,cBool,cU8,cInt,cSl,l63]
  simp only [Wq,decide_eq_true_eq] at hpre
  obtain ⟨⟨⟨⟨⟨⟨⟨hpre,hd⟩,hbl⟩,hop⟩,hn⟩,e1⟩,e2⟩,e3⟩:=hpre
  obtain ⟨⟨⟨⟨⟨⟨⟨⟨⟨⟨⟨c1,c2⟩,c3⟩,c4⟩,c5⟩,c6⟩,c7⟩,c8⟩,c9⟩,c10⟩,hall⟩,hlen⟩:=hpre
  obtain ⟨es,rfl,hok⟩:=Wm hall
  obtain ⟨ds,rfl,hok2⟩:=Wm hd
  rw [Xz,Xz]
  simp only [Xk] at hlen
  have hkr:[(107:UInt8),(114:UInt8),(98:UInt8),(116:UInt8),(103:UInt8),(116:UInt8)]=Vy:=rfl
  have hlb:[(103:UInt8),(84:UInt8),(71:UInt8),(83:UInt8)]=Kerb.lGet:=rfl
  have hlb2:[(116:UInt8),(103:UInt8),(115:UInt8),(84:UInt8)]=Kerb.lGot:=rfl
  have q8:=Kerb.isU64_iff.1 c8
  have q88:(decide (0≤se)&&decide (se<18446744073709551616))=true:=by simp;omega
  simp only [hkr,hlb,hlb2,Xz,hall,hd,Xk,hlen,hbl,c1,c2,c3,c4,c5,c6,c7,c8,e1,q88,decide_true,Xh,List.map_nil,↓A0,A0]
  unfold Kerb.kaAuthenticate Kerb.kaLife1
  dsimp only
  have sb:=Kerb.kaSecOf_bd bd Kerb.lGet now sk
  generalize Vw bd Kerb.lGet now sk=S at sb ⊢
  by_cases h1:S.err=0
  case neg =>
   rw [sel_pos (by simpa using h1),if_pos h1]
   by_cases hr:(Zx ⟨op,S.err,[]⟩).err=0
   ·rw [sel_neg (by simpa using hr)];rfl
   ·rw [sel_pos (by simpa using hr),Zn hr];rfl
  rw [sel_neg (by simpa using h1),if_neg (not_not_intro h1)]
  have vb:=Kerb.svc_ok (d:=⟨rl,es⟩) (n:=Vy) (i:=rl) (now:=now) hok
  generalize Kerb.svc ⟨rl,es⟩ [] Vy rl now=V at vb ⊢
  by_cases h2:V.err=0
  case neg =>
   rw [sel_pos (by simpa using h2),if_pos h2]
   by_cases hr:(Zx ⟨op,V.err,[]⟩).err=0
   ·rw [sel_neg (by simpa using hr)];rfl
   ·rw [sel_pos (by simpa using hr),Zn hr];rfl
  rw [sel_neg (by simpa using h2),if_neg (not_not_intro h2)]
  have t0:decide (0≤S.val.time)=true:=decide_eq_true sb.1.1
  have t1:decide (S.val.time≤4294967295)=true:=decide_eq_true sb.1.2
  have s1:Wn S.val.stop=true:=by rw [Kerb.isI64_iff];unfold Kerb.KaSecret.bd at sb;omega
  have g0:Vj [Zy Wf ex,Zy Wf V.expires] (Vp 0) AV.undef=Zy Wf ex:=rfl
  have g1:Vj [Zy Wf ex,Zy Wf V.expires] (Vp (Wg .i64 (0+1))) AV.undef=Zy Wf V.expires:=rfl
  rw [chk_of (by rfl),g0,onInt_int]
  by_cases hx:ex=0
  ·rw [sel_neg (by simp [hx]),chk_of (by rfl),g1,onInt_int]
   by_cases hv:V.expires=0
   ·rw [sel_neg (by simp [hv])]
    rw [chk_of (by simp [s1,e3,vb.2.2.2]),show Wx (Wx [S.val.stop] ex) V.expires=[S.val.stop] from by simp [Wx,hx,hv]]
    generalize Yf now (Wd em V.life) [S.val.stop]=L
    obtain ⟨life,ok⟩:=L
    dsimp only
    cases ok
    ·rw [sel_pos (by rfl),if_pos rfl]
     by_cases hr:(Zx ⟨op,3,[]⟩).err=0
     ·rw [sel_neg (by simpa using hr)];rfl
     ·rw [sel_pos (by simpa using hr),Zn hr];rfl
    rw [sel_neg (by rfl),if_neg (show ¬ (true=false) from by decide)]
    by_cases h5:Wh se=2
    case neg =>
     rw [sel_pos (by simpa using h5),if_pos h5]
     by_cases hr:(Zx ⟨op,10,[]⟩).err=0
     ·rw [sel_neg (by simpa using hr)];rfl
     ·rw [sel_pos (by simpa using hr),Zn hr];rfl
    rw [sel_neg (by simpa using h5),if_neg (not_not_intro h5),chk_of (by rw [vb.1,t0,t1];rfl)]
    rfl
   ·rw [sel_pos (by simpa using hv),chk_of (by rfl)]
    rw [chk_of (by simp [s1,e3,vb.2.2.2]),show Wx (Wx [S.val.stop] ex) V.expires=[S.val.stop,V.expires] from by simp [Wx,hx,hv]]
    generalize Yf now (Wd em V.life) [S.val.stop,V.expires]=L
    obtain ⟨life,ok⟩:=L
    dsimp only
    cases ok
    ·rw [sel_pos (by rfl),if_pos rfl]
     by_cases hr:(Zx ⟨op,3,[]⟩).err=0
     ·rw [sel_neg (by simpa using hr)];rfl
     ·rw [sel_pos (by simpa using hr),Zn hr];rfl
    rw [sel_neg (by rfl),if_neg (show ¬ (true=false) from by decide)]
    by_cases h5:Wh se=2
    case neg =>
     rw [sel_pos (by simpa using h5),if_pos h5]
     by_cases hr:(Zx ⟨op,10,[]⟩).err=0
     ·rw [sel_neg (by simpa using hr)];rfl
     ·rw [sel_pos (by simpa using hr),Zn hr];rfl
    rw [sel_neg (by simpa using h5),if_neg (not_not_intro h5),chk_of (by rw [vb.1,t0,t1];rfl)]
    rfl
  ·rw [sel_pos (by simpa using hx),chk_of (by rfl),chk_of (by rfl),g1,onInt_int]
   by_cases hv:V.expires=0
   ·rw [sel_neg (by simp [hv])]
    rw [chk_of (by simp [s1,e3,vb.2.2.2]),show Wx (Wx [S.val.stop] ex) V.expires=[S.val.stop,ex] from by simp [Wx,hx,hv]]
    generalize Yf now (Wd em V.life) [S.val.stop,ex]=L
    obtain ⟨life,ok⟩:=L
    dsimp only
    cases ok
    ·rw [sel_pos (by rfl),if_pos rfl]
     by_cases hr:(Zx ⟨op,3,[]⟩).err=0
     ·rw [sel_neg (by simpa using hr)];rfl
     ·rw [sel_pos (by simpa using hr),Zn hr];rfl
    rw [sel_neg (by rfl),if_neg (show ¬ (true=false) from by decide)]
    by_cases h5:Wh se=2
    case neg =>
     rw [sel_pos (by simpa using h5),if_pos h5]
     by_cases hr:(Zx ⟨op,10,[]⟩).err=0
     ·rw [sel_neg (by simpa using hr)];rfl
     ·rw [sel_pos (by simpa using hr),Zn hr];rfl
    rw [sel_neg (by simpa using h5),if_neg (not_not_intro h5),chk_of (by rw [vb.1,t0,t1];rfl)]
    rfl
   ·rw [sel_pos (by simpa using hv),chk_of (by rfl)]
    rw [chk_of (by simp [s1,e3,vb.2.2.2]),show Wx (Wx [S.val.stop] ex) V.expires=[S.val.stop,ex,V.expires] from by simp [Wx,hx,hv]]
    generalize Yf now (Wd em V.life) [S.val.stop,ex,V.expires]=L
    obtain ⟨life,ok⟩:=L
    dsimp only
    cases ok
    ·rw [sel_pos (by rfl),if_pos rfl]
     by_cases hr:(Zx ⟨op,3,[]⟩).err=0
     ·rw [sel_neg (by simpa using hr)];rfl
     ·rw [sel_pos (by simpa using hr),Zn hr];rfl
    rw [sel_neg (by rfl),if_neg (show ¬ (true=false) from by decide)]
    by_cases h5:Wh se=2
    case neg =>
     rw [sel_pos (by simpa using h5),if_pos h5]
     by_cases hr:(Zx ⟨op,10,[]⟩).err=0
     ·rw [sel_neg (by simpa using hr)];rfl
     ·rw [sel_pos (by simpa using hr),Zn hr];rfl
    rw [sel_neg (by simpa using h5),if_neg (not_not_intro h5),chk_of (by rw [vb.1,t0,t1];rfl)]
    rfl
 ·cases h
theorem w68:Walked Tryz.prog G 68 14 sp68:=by
 refine ⟨Tryz.f68,Tryz.func68,by decide +kernel,rfl,fun xs bl r h=> ?_⟩
 unfold sp68 at h
 split at h
 ·rename_i op u1 u2 u3 kv qr tk sv ins bx rl els now ad sk se
  obtain ⟨hpre,h2⟩:=chk_inv h;cases h2
  show runFnH (G.env 68 14) G.rts (G.own 68) Tryz.f68 _ _ [0]=_
  refine Eq.trans (b:=(let t1:List (List AV):=[[Zy .i64 op,Zz u1,Zz u2,Zz u3,Zy .i64 kv,Zz qr,Zf tk,Zz sv,Zz ins,Zf bx,Zz rl,Yd 9 els,Zy .i64 now,Zy .i64 ad,Zy .i64 sk,Zy .u64 se]];let t2:List AV:=[Zy .i64 0,Zz [],Zz [],Zz [],Zz [],Zz [],Zz [],Zz [],Zz [],Zz [],Zy .u64 0,Zy .u64 0,Zy .u64 0,Zf [],Zy .i64 0,Zy .i64 0,Yy false];let t3:Bool:=l63 u1&&l63 u2&&l63 u3&&l63 qr&&l63 sv&&l63 ins&&l63 rl&&Wy se&&decide (Zp tk≤1000000)&&decide (Zp bx≤1000000)&&Wz els Xg&&decide (Zp els≤1000000);let t0:Option (AV×Blocks):=some (Yw (Zz rl::Yd 9 els::Zf []::t2),t1);sel (!u3==rl) (sel (!Xd (Zx (Zb op 8 []))==0) t0 (some (Yw (Zz rl::Yd 9 els::Zf (Xp (Zx (Zb op 8 [])))::t2),t1))) (Zd (chk (Wz els Xg&&decide (Zp els≤1000000)) (some (Xb [Zy .i64 (Yj (Kerb.clientEnt (Yv rl (Yx Yz els)) u1 u2 now)),Zy .i64 (Yq (Kerb.clientEnt (Yv rl (Yx Yz els)) u1 u2 now))],[]))) (kT fun vs=>cInt .i64 vs fun n r=>let t5:Wv:=Wj (Kerb.kaFailed (Yv rl (Yx Yz els)) n now) (Kerb.kaRefuse op 62) Kerb.noIssue false;let t4:Ym:=Xq t5;cInt .i64 r fun n_1 r=>onNil r (sel (!n_1==0) (sel (!Xd (Zx (Zb op n_1 []))==0) t0 (some (Yw (Zz rl::Yd 9 els::Zf (Xp (Zx (Zb op n_1 [])))::t2),t1))) (chk (decide (0≤n)&&decide (n<(↑(Zp els):Int))&&true) (Xf (Vj els (Vp n) AV.undef) fun cs=>cStr cs fun b r=>cStr r fun b_1 r=>cInt .u64 r fun n_2 r=>cInt .i64 r fun n_3 r=>cInt .i64 r fun n_4 r=>cInt .i64 r fun n_5 r=>cInt .i64 r fun n_6 r=>cInt .i64 r fun n_7 r=>cInt .i64 r fun n_8 r=>let t6:Kerb.Entry:=Kerb.Entry.mk b b_1 n_2 n_3 n_4 n_5 n_6 n_7 n_8;let t8:Kerb.Dec Kerb.Db:=Kerb.putEnt (Yv rl (Yx Yz els)) n (Kerb.Entry.mk b b_1 n_2 n_3 n_4 n_5 n_6 0 n_8);let t7:Kerb.Db:=Zm t8;onNil r (sel (decide (now<n_8)) (sel (!Xd (Zx (Zb op 81 []))==0) t0 (some (Yw (Zz rl::Yd 9 els::Zf (Xp (Zx (Zb op 81 [])))::t2),t1))) (Zd (chk (decide (Zp bx≤140737488355328)) (some (Xb [Zf (Yj (Vv bx 7 n_2)),Yy (Yq (Vv bx 7 n_2))],[]))) (kT fun vs=>cBs vs fun b_2 r=>cBool r fun b_3 r=>onNil r (sel (!b_3) (Zd (chk (t3&&decide (Kerb.Db.err (Yv rl (Yx Yz els))=0)&&decide (0≤n)&&decide (n<(↑(Zp els):Int))&&Kerb.kaOp op&&Vz now 4294967295) (some (Yw [Zz (Xj (Zh t5)),Yd 9 (Yx Yg (Xx (Zh t5))),Zf (Xy t5),Zy .i64 (Xu t4),Zz (Zj (Zv t4)),Zz (Zk (Zv t4)),Zz (Zq (Zv t4)),Zz (Zj (Zu t4)),Zz (Zk (Zu t4)),Zz (Zq (Zu t4)),Zz (Zj (Zw t4)),Zz (Zk (Zw t4)),Zz (Zq (Zw t4)),Zy .u64 (Yk t4),Zy .u64 (Yb t4),Zy .u64 (Yp t4),Zf (Xw t4),Zy .i64 (Yn t4),Zy .i64 (Xv t4),Yy (Xm t5)],t1))) fun (r:AV×Blocks)=>onConsB (Yq r) fun (x:List AV) (r_1:List (List AV))=>cInt .i64 x fun n r_2=>cStr r_2 fun b r_3=>cStr r_3 fun b_4 r_4=>cStr r_4 fun b_5 r_5=>cInt .i64 r_5 fun n_9 r_6=>cStr r_6 fun b_6 r_7=>cBs r_7 fun b_7 r_8=>cStr r_8 fun b_8 r_9=>cStr r_9 fun b_9 r_10=>cBs r_10 fun b_10 r_11=>cStr r_11 fun b_11 r_12=>cSl 9 r_12 fun b_12 r_13=>cInt .i64 r_13 fun n_10 r_14=>cInt .i64 r_14 fun n_11 r_15=>cInt .i64 r_15 fun n_12 r_16=>cInt .u64 r_16 fun n_13 r_17=>onNil r_17 (onNilB r_1 (Xf (Yj r) fun cs=>cStr cs fun b_13 r=>cSl 9 r fun b_14 r=>cBs r fun b_15 r=>cInt .i64 r fun n_14 r=>cStr r fun b_16 r=>cStr r fun b_17 r=>cStr r fun b_18 r=>cStr r fun b_19 r=>cStr r fun b_20 r=>cStr r fun b_21 r=>cStr r fun b_22 r=>cStr r fun b_23 r=>cStr r fun b_24 r=>cInt .u64 r fun n_15 r=>cInt .u64 r fun n_16 r=>cInt .u64 r fun n_17 r=>cBs r fun b_25 r=>cInt .i64 r fun n_18 r=>cInt .i64 r fun n_19 r=>cBool r fun b_26 r=>onNil r (some (Yw [Zz b_13,Yd 9 b_14,Zf b_15,Zy .i64 n_14,Zz b_16,Zz b_17,Zz b_18,Zz b_19,Zz b_20,Zz b_21,Zz b_22,Zz b_23,Zz b_24,Zy .u64 n_15,Zy .u64 n_16,Zy .u64 n_17,Zf b_25,Zy .i64 n_18,Zy .i64 n_19,Yy b_26],[[Zy .i64 n,Zz b,Zz b_4,Zz b_5,Zy .i64 n_9,Zz b_6,Zf b_7,Zz b_8,Zz b_9,Zf b_10,Zz b_11,Yd 9 b_12,Zy .i64 n_10,Zy .i64 n_11,Zy .i64 n_12,Zy .u64 n_13]]))))) (Zd (chk (l63 rl&&Wz els Xg&&decide (Zp els≤1000000)&&l63 b&&l63 b_1&&Wy n_2) (some (Xb [Yw [Zz (Xj t7),Yd 9 (Yx Yg (Xx t7))],Zy .i64 (Wb t8)],[]))) (kT fun vs=>onCons vs fun x r=>Xf x fun cs=>cStr cs fun b r_1=>cSl 9 r_1 fun b_4 r_2=>let t11:Wv:=Kerb.kaAuthenticate (Yv rl (Yx Yz els)) (Yv b (Yx Yz b_4)) t6 op now ad sk se (Yu u1 u2 u3) b_2;let t12:Wv:=Kerb.kaChangePw (Yv rl (Yx Yz els)) (Yv b (Yx Yz b_4)) n op now sk b_2;let t9:Ym:=Xq t11;let t10:Ym:=Xq t12;onNil r_2 (cInt .i64 r fun n_9 r=>onNil r (sel (!n_9==0) t0 (sel (op==1) (Zd (chk (t3&&Wz b_4 Xg&&decide (Zp b_2≤1000000)&&Kerb.kaOp op&&Vz now 4294967295&&Wy n_2&&Wn n_5&&Wn n_4) (some (Yw [Zz (Xj (Zh t11)),Yd 9 (Yx Yg (Xx (Zh t11))),Zf (Xy t11),Zy .i64 (Xu t9),Zz (Zj (Zv t9)),Zz (Zk (Zv t9)),Zz (Zq (Zv t9)),Zz (Zj (Zu t9)),Zz (Zk (Zu t9)),Zz (Zq (Zu t9)),Zz (Zj (Zw t9)),Zz (Zk (Zw t9)),Zz (Zq (Zw t9)),Zy .u64 (Yk t9),Zy .u64 (Yb t9),Zy .u64 (Yp t9),Zf (Xw t9),Zy .i64 (Yn t9),Zy .i64 (Xv t9),Yy (Xm t11)],t1))) fun (r:AV×Blocks)=>onConsB (Yq r) fun (x:List AV) (r_3:List (List AV))=>cInt .i64 x fun n r_4=>cStr r_4 fun b r_5=>cStr r_5 fun b_5 r_6=>cStr r_6 fun b_6 r_7=>cInt .i64 r_7 fun n_10 r_8=>cStr r_8 fun b_7 r_9=>cBs r_9 fun b_8 r_10=>cStr r_10 fun b_9 r_11=>cStr r_11 fun b_10 r_12=>cBs r_12 fun b_11 r_13=>cStr r_13 fun b_12 r_14=>cSl 9 r_14 fun b_13 r_15=>cInt .i64 r_15 fun n_11 r_16=>cInt .i64 r_16 fun n_12 r_17=>cInt .i64 r_17 fun n_13 r_18=>cInt .u64 r_18 fun n_14 r_19=>onNil r_19 (onNilB r_3 (Xf (Yj r) fun cs=>cStr cs fun b_14 r=>cSl 9 r fun b_15 r=>cBs r fun b_16 r=>cInt .i64 r fun n_15 r=>cStr r fun b_17 r=>cStr r fun b_18 r=>cStr r fun b_19 r=>cStr r fun b_20 r=>cStr r fun b_21 r=>cStr r fun b_22 r=>cStr r fun b_23 r=>cStr r fun b_24 r=>cStr r fun b_25 r=>cInt .u64 r fun n_16 r=>cInt .u64 r fun n_17 r=>cInt .u64 r fun n_18 r=>cBs r fun b_26 r=>cInt .i64 r fun n_19 r=>cInt .i64 r fun n_20 r=>cBool r fun b_27 r=>onNil r (some (Yw [Zz b_14,Yd 9 b_15,Zf b_16,Zy .i64 n_15,Zz b_17,Zz b_18,Zz b_19,Zz b_20,Zz b_21,Zz b_22,Zz b_23,Zz b_24,Zz b_25,Zy .u64 n_16,Zy .u64 n_17,Zy .u64 n_18,Zf b_26,Zy .i64 n_19,Zy .i64 n_20,Yy b_27],[[Zy .i64 n,Zz b,Zz b_5,Zz b_6,Zy .i64 n_10,Zz b_7,Zf b_8,Zz b_9,Zz b_10,Zf b_11,Zz b_12,Yd 9 b_13,Zy .i64 n_11,Zy .i64 n_12,Zy .i64 n_13,Zy .u64 n_14]]))))) (Zd (chk (t3&&Wz b_4 Xg&&decide (Zp b_4≤1000000)&&decide (Zp b_2≤1000000)&&Kerb.kaOp op&&decide (0≤n)&&decide (n<(↑(Zp els):Int))&&l63 b) (some (Yw [Zz (Xj (Zh t12)),Yd 9 (Yx Yg (Xx (Zh t12))),Zf (Xy t12),Zy .i64 (Xu t10),Zz (Zj (Zv t10)),Zz (Zk (Zv t10)),Zz (Zq (Zv t10)),Zz (Zj (Zu t10)),Zz (Zk (Zu t10)),Zz (Zq (Zu t10)),Zz (Zj (Zw t10)),Zz (Zk (Zw t10)),Zz (Zq (Zw t10)),Zy .u64 (Yk t10),Zy .u64 (Yb t10),Zy .u64 (Yp t10),Zf (Xw t10),Zy .i64 (Yn t10),Zy .i64 (Xv t10),Yy (Xm t12)],t1))) fun (r:AV×Blocks)=>onConsB (Yq r) fun (x:List AV) (r_3:List (List AV))=>cInt .i64 x fun n r_4=>cStr r_4 fun b r_5=>cStr r_5 fun b_5 r_6=>cStr r_6 fun b_6 r_7=>cInt .i64 r_7 fun n_10 r_8=>cStr r_8 fun b_7 r_9=>cBs r_9 fun b_8 r_10=>cStr r_10 fun b_9 r_11=>cStr r_11 fun b_10 r_12=>cBs r_12 fun b_11 r_13=>cStr r_13 fun b_12 r_14=>cSl 9 r_14 fun b_13 r_15=>cInt .i64 r_15 fun n_11 r_16=>cInt .i64 r_16 fun n_12 r_17=>cInt .i64 r_17 fun n_13 r_18=>cInt .u64 r_18 fun n_14 r_19=>onNil r_19 (onNilB r_3 (Xf (Yj r) fun cs=>cStr cs fun b_14 r=>cSl 9 r fun b_15 r=>cBs r fun b_16 r=>cInt .i64 r fun n_15 r=>cStr r fun b_17 r=>cStr r fun b_18 r=>cStr r fun b_19 r=>cStr r fun b_20 r=>cStr r fun b_21 r=>cStr r fun b_22 r=>cStr r fun b_23 r=>cStr r fun b_24 r=>cStr r fun b_25 r=>cInt .u64 r fun n_16 r=>cInt .u64 r fun n_17 r=>cInt .u64 r fun n_18 r=>cBs r fun b_26 r=>cInt .i64 r fun n_19 r=>cInt .i64 r fun n_20 r=>cBool r fun b_27 r=>onNil r (some (Yw [Zz b_14,Yd 9 b_15,Zf b_16,Zy .i64 n_15,Zz b_17,Zz b_18,Zz b_19,Zz b_20,Zz b_21,Zz b_22,Zz b_23,Zz b_24,Zz b_25,Zy .u64 n_16,Zy .u64 n_17,Zy .u64 n_18,Zf b_26,Zy .i64 n_19,Zy .i64 n_20,Yy b_27],[[Zy .i64 n,Zz b,Zz b_5,Zz b_6,Zy .i64 n_10,Zz b_7,Zf b_8,Zz b_9,Zz b_10,Zf b_11,Zz b_12,Yd 9 b_13,Zy .i64 n_11,Zy .i64 n_12,Zy .i64 n_13,Zy .u64 n_14]]))))))))))))))))))):Option (AV×Blocks))) (by kernel_rfl) ?_
  delta kT
  try dsimp only [cStr,cBs,cBool,cU8,cInt,cSl,l63]
  simp only [Wq,decide_eq_true_eq] at hpre
  obtain ⟨⟨⟨⟨hpre,he⟩,hop⟩,hop2⟩,hn⟩:=hpre
  obtain ⟨⟨⟨⟨⟨⟨⟨⟨⟨⟨⟨c1,c2⟩,c3⟩,c4⟩,c5⟩,c6⟩,c7⟩,c8⟩,c9⟩,c10⟩,hall⟩,hlen⟩:=hpre
  obtain ⟨es,rfl,hok⟩:=Wm hall
  rw [Xz] at he ⊢
  simp only [Xk] at hlen
  have bl:decide (bx.length≤140737488355328)=true:=by simp;omega
  simp only [Xz,hall,hn,hop,he,Xk,hlen,bl,c1,c2,c3,c4,c5,c6,c7,c8,c9,c10,eq_self,decide_true,Xh,List.map_nil,↓A0,A0]
  unfold Kerb.kaByUser
  dsimp only
  by_cases h1:u3=rl
  case neg =>
   rw [sel_pos (by simpa using h1),if_pos h1]
   by_cases hr:(Zx ⟨op,8,[]⟩).err=0
   ·rw [sel_neg (by simpa using hr)];rfl
   ·rw [sel_pos (by simpa using hr),Zn hr];rfl
  rw [sel_neg (by simp [h1]),if_neg (not_not_intro h1)]
  have hs := @Kerb.clie_lt ⟨rl,es⟩ u1 u2 now
  generalize Kerb.clientEnt ⟨rl,es⟩ u1 u2 now=F at hs ⊢
  obtain ⟨i,e⟩:=F
  dsimp only at hs ⊢
  by_cases h2:e=0
  case neg =>
   rw [sel_pos (by simpa using h2),if_pos h2]
   by_cases hr:(Zx ⟨op,e,[]⟩).err=0
   ·rw [sel_neg (by simpa using hr)];rfl
   ·rw [sel_pos (by simpa using hr),Zn hr];rfl
  obtain ⟨g1,g2⟩:=hs h2
  have g3:i<(es.length:Int):=by omega
  have i0:decide (0≤i)=true:=decide_eq_true g1
  have i1:decide (i<(es.length:Int))=true:=decide_eq_true g3
  have hp:=Kerb.putEnt_clear (d:=⟨rl,es⟩) (i:=i) he g1 g3
  have ck:=Kerb.kaClear_ok (d:=⟨rl,es⟩) (i:=i) hok
  have ca:=Kerb.all_ents ck
  have cl:=Kerb.kaClear_len ⟨rl,es⟩ i
  have cr:(Kerb.kaClear ⟨rl,es⟩ i).realm=rl:=rfl
  have ho:=hok _ (Kerb.ent_mem g2)
  rw [sel_neg (by simpa using h2),if_neg (not_not_intro h2),chk_of (by rw [i0,i1];rfl),Kerb.getD_ent g2]
  unfold Kerb.entAt at hp ⊢
  dsimp only at hp cl ⊢
  generalize Kerb.kaClear ⟨rl,es⟩ i=C at hp ck ca cl cr ⊢
  generalize es.getD i.toNat Kerb.noEntry=x at hp ho ⊢
  simp only [Yg,i0,i1,↓A0,A0]
  by_cases h3:now<x.till
  ·rw [sel_pos (by simpa using h3),if_pos h3]
   by_cases hr:(Zx ⟨op,81,[]⟩).err=0
   ·rw [sel_neg (by simpa using hr)];rfl
   ·rw [sel_pos (by simpa using hr),Zn hr];rfl
  rw [sel_neg (by simpa using h3),if_neg h3]
  have ol:=Kerb.openBox_len bx 7 x.key
  generalize Vv bx 7 x.key=O at ol ⊢
  obtain ⟨bd,ok⟩:=O
  dsimp only at ol ⊢
  cases ok
  ·rw [sel_pos (by rfl),if_pos rfl]
   try rw [chk_of (by rfl)]
   try rfl
  rw [sel_neg (by rfl),if_neg (show ¬ (true=false) from by decide)]
  obtain ⟨o1,o2,o3,o4,o5,o6,_⟩:=ho
  have bd1:decide (Zp bd≤1000000)=true:=by simp;omega
  have cl2:decide (C.entries.length≤1000000)=true:=by simp;omega
  have cr2:decide (C.realm.length≤9223372036854775807)=true:=by rw [cr];exact decide_eq_true c7
  simp only [o1,o2,o3,o5,o6,hp,ca,cr2,cl2,c7,bd1,Xk,Xz,decide_true,Xh,eq_self,↓A0,A0]
  rw [sel_neg (by rfl)]
  by_cases h4:op=1
  ·rw [sel_pos (by simpa using h4),if_pos h4]
  ·rw [sel_neg (by simpa using h4),if_neg h4]
 ·cases h
theorem w25:Walked Tryz.prog G 25 15 sp25:=by
 refine ⟨Tryz.f25,Tryz.func25,by decide +kernel,rfl,fun xs bl r h=> ?_⟩
 unfold sp25 at h
 split at h
 ·rename_i rl els now ad sk se msg
  obtain ⟨hpre,h2⟩:=chk_inv h;cases h2
  refine Eq.trans (b:=(let t0:Option (AV×Blocks):=some (Xb [Yw [Zz rl,Yd 9 els],Zf [],Yw [Zy .i64 0,Zz [],Zz [],Zz [],Zz [],Zz [],Zz [],Zz [],Zz [],Zz [],Zy .u64 0,Zy .u64 0,Zy .u64 0,Zf [],Zy .i64 0,Zy .i64 0],Yy false],[]);let t1:List AV:=[Zz rl,Yd 9 els,Zy .i64 now,Zy .i64 ad,Zy .i64 sk,Zy .u64 se];sel (decide (now<0)) t0 (sel (decide (now>4294967295)) t0 (sel (decide (ad<0)) t0 (sel (decide (ad>4294967295)) t0 (Zd (chk (decide (Zp msg≤140737488355328)) (some (Xb [Yw [Zy .i64 (Kerb.KaRequest.op (Zm (Yh msg))),Zz (Zj (Vf (Zm (Yh msg)))),Zz (Zk (Vf (Zm (Yh msg)))),Zz (Zq (Vf (Zm (Yh msg)))),Zy .i64 (Kerb.KaRequest.kvno (Zm (Yh msg))),Zz (Kerb.KaRequest.realm (Zm (Yh msg))),Zf (Kerb.KaRequest.ticket (Zm (Yh msg))),Zz (Kerb.KaRequest.service (Zm (Yh msg))),Zz (Kerb.KaRequest.inst (Zm (Yh msg))),Zf (Kerb.KaRequest.box (Zm (Yh msg)))],Zy .i64 (Wb (Yh msg))],[]))) (kT fun vs=>onCons vs fun x r=>Xf x fun cs=>cInt .i64 cs fun n r_1=>cStr r_1 fun b r_2=>cStr r_2 fun b_1 r_3=>cStr r_3 fun b_2 r_4=>let t2:Bool:=l63 b&&l63 b_1&&l63 b_2;cInt .i64 r_4 fun n_1 r_5=>cStr r_5 fun b_3 r_6=>cBs r_6 fun b_4 r_7=>cStr r_7 fun b_5 r_8=>cStr r_8 fun b_6 r_9=>let t3:Bool:=t2&&l63 b_3&&l63 b_5&&l63 b_6&&l63 rl&&Wy se&&decide (Zp b_4≤1000000);cBs r_9 fun b_7 r_10=>let t6:Wv:=Kerb.kaGetTicket (Yv rl (Yx Yz els)) now ad sk se (Kerb.KaRequest.mk n (Yu b b_1 b_2) n_1 b_3 b_4 b_5 b_6 b_7);let t7:Wv:=Kerb.kaByUser (Yv rl (Yx Yz els)) now ad sk se (Kerb.KaRequest.mk n (Yu b b_1 b_2) n_1 b_3 b_4 b_5 b_6 b_7);let t8:List (List AV):=[Zy .i64 n::Zz b::Zz b_1::Zz b_2::Zy .i64 n_1::Zz b_3::Zf b_4::Zz b_5::Zz b_6::Zf b_7::t1];let t9:Bool:=t3&&decide (Zp b_7≤1000000)&&Wz els Xg&&decide (Zp els≤1000000);let t4:Ym:=Xq t6;let t5:Ym:=Xq t7;onNil r_10 (cInt .i64 r fun n_2 r=>onNil r (sel (!n_2==0) t0 (sel (n==2) (Zd (chk (t9&&decide (n=2)&&Vz now 4294967295) (some (Yw [Zz (Xj (Zh t6)),Yd 9 (Yx Yg (Xx (Zh t6))),Zf (Xy t6),Zy .i64 (Xu t4),Zz (Zj (Zv t4)),Zz (Zk (Zv t4)),Zz (Zq (Zv t4)),Zz (Zj (Zu t4)),Zz (Zk (Zu t4)),Zz (Zq (Zu t4)),Zz (Zj (Zw t4)),Zz (Zk (Zw t4)),Zz (Zq (Zw t4)),Zy .u64 (Yk t4),Zy .u64 (Yb t4),Zy .u64 (Yp t4),Zf (Xw t4),Zy .i64 (Yn t4),Zy .i64 (Xv t4),Yy (Xm t6)],t8))) fun (r:AV×Blocks)=>onConsB (Yq r) fun (x:List AV) (r_11:List (List AV))=>cInt .i64 x fun n r_12=>cStr r_12 fun b r_13=>cStr r_13 fun b r_14=>cStr r_14 fun b r_15=>cInt .i64 r_15 fun n r_16=>cStr r_16 fun b r_17=>cBs r_17 fun b r_18=>cStr r_18 fun b r_19=>cStr r_19 fun b r_20=>cBs r_20 fun b r_21=>cStr r_21 fun b r_22=>cSl 9 r_22 fun b r_23=>cInt .i64 r_23 fun n r_24=>cInt .i64 r_24 fun n r_25=>cInt .i64 r_25 fun n r_26=>cInt .u64 r_26 fun n r_27=>onNil r_27 (onNilB r_11 (Xf (Yj r) fun cs=>cStr cs fun b r=>cSl 9 r fun b_8 r=>cBs r fun b_9 r=>cInt .i64 r fun n r=>cStr r fun b_10 r=>cStr r fun b_11 r=>cStr r fun b_12 r=>cStr r fun b_13 r=>cStr r fun b_14 r=>cStr r fun b_15 r=>cStr r fun b_16 r=>cStr r fun b_17 r=>cStr r fun b_18 r=>cInt .u64 r fun n_3 r=>cInt .u64 r fun n_4 r=>cInt .u64 r fun n_5 r=>cBs r fun b_19 r=>cInt .i64 r fun n_6 r=>cInt .i64 r fun n_7 r=>cBool r fun b_20 r=>onNil r (some (Xb [Yw [Zz b,Yd 9 b_8],Zf b_9,Yw [Zy .i64 n,Zz b_10,Zz b_11,Zz b_12,Zz b_13,Zz b_14,Zz b_15,Zz b_16,Zz b_17,Zz b_18,Zy .u64 n_3,Zy .u64 n_4,Zy .u64 n_5,Zf b_19,Zy .i64 n_6,Zy .i64 n_7],Yy b_20],[]))))) (Zd (chk (t9&&decide (Kerb.Db.err (Yv rl (Yx Yz els))=0)&&Kerb.kaOp n&&decide (n≠2)&&Vz now 4294967295) (some (Yw [Zz (Xj (Zh t7)),Yd 9 (Yx Yg (Xx (Zh t7))),Zf (Xy t7),Zy .i64 (Xu t5),Zz (Zj (Zv t5)),Zz (Zk (Zv t5)),Zz (Zq (Zv t5)),Zz (Zj (Zu t5)),Zz (Zk (Zu t5)),Zz (Zq (Zu t5)),Zz (Zj (Zw t5)),Zz (Zk (Zw t5)),Zz (Zq (Zw t5)),Zy .u64 (Yk t5),Zy .u64 (Yb t5),Zy .u64 (Yp t5),Zf (Xw t5),Zy .i64 (Yn t5),Zy .i64 (Xv t5),Yy (Xm t7)],t8))) fun (r:AV×Blocks)=>onConsB (Yq r) fun (x:List AV) (r_11:List (List AV))=>cInt .i64 x fun n r_12=>cStr r_12 fun b r_13=>cStr r_13 fun b r_14=>cStr r_14 fun b r_15=>cInt .i64 r_15 fun n r_16=>cStr r_16 fun b r_17=>cBs r_17 fun b r_18=>cStr r_18 fun b r_19=>cStr r_19 fun b r_20=>cBs r_20 fun b r_21=>cStr r_21 fun b r_22=>cSl 9 r_22 fun b r_23=>cInt .i64 r_23 fun n r_24=>cInt .i64 r_24 fun n r_25=>cInt .i64 r_25 fun n r_26=>cInt .u64 r_26 fun n r_27=>onNil r_27 (onNilB r_11 (Xf (Yj r) fun cs=>cStr cs fun b r=>cSl 9 r fun b_8 r=>cBs r fun b_9 r=>cInt .i64 r fun n r=>cStr r fun b_10 r=>cStr r fun b_11 r=>cStr r fun b_12 r=>cStr r fun b_13 r=>cStr r fun b_14 r=>cStr r fun b_15 r=>cStr r fun b_16 r=>cStr r fun b_17 r=>cStr r fun b_18 r=>cInt .u64 r fun n_3 r=>cInt .u64 r fun n_4 r=>cInt .u64 r fun n_5 r=>cBs r fun b_19 r=>cInt .i64 r fun n_6 r=>cInt .i64 r fun n_7 r=>cBool r fun b_20 r=>onNil r (some (Xb [Yw [Zz b,Yd 9 b_8],Zf b_9,Yw [Zy .i64 n,Zz b_10,Zz b_11,Zz b_12,Zz b_13,Zz b_14,Zz b_15,Zz b_16,Zz b_17,Zz b_18,Zy .u64 n_3,Zy .u64 n_4,Zy .u64 n_5,Zf b_19,Zy .i64 n_6,Zy .i64 n_7],Yy b_20],[]))))))))))))):Option (AV×Blocks))) (by kernel_rfl) ?_
  delta kT
  try dsimp only [cStr,cBs,cBool,cU8,cInt,cSl,l63]
  simp only [Wq,decide_eq_true_eq] at hpre
  obtain ⟨⟨⟨⟨⟨c7,hall⟩,hlen⟩,he⟩,c8⟩,hm⟩:=hpre
  obtain ⟨es,rfl,hok⟩:=Wm hall
  rw [Xz] at he ⊢
  simp only [Xk] at hlen
  have ml:decide (msg.length≤140737488355328)=true:=by simp;omega
  simp only [Xz,hall,he,Xk,hlen,ml,c7,c8,eq_self,decide_true,Xh,List.map_nil,↓A0,A0]
  unfold Kerb.kaserver
  try dsimp only
  by_cases hw:Vz now 4294967295=true
  case neg =>
   have hw2:Vz now 4294967295=false:=by simpa using hw
   rw [hw2,Bool.false_and,Bool.not_false,if_pos rfl]
   by_cases h1:now<0
   ·rw [sel_pos (by simpa using h1)];rfl
   rw [sel_neg (by simpa using h1),sel_pos (by simp only [decide_eq_true_eq];rw [Kerb.within_iff] at hw;omega)];rfl
  have w1:=Kerb.within_iff.1 hw
  rw [sel_neg (by simp;omega),sel_neg (by simp;omega)]
  by_cases hv:Vz ad 4294967295=true
  case neg =>
   have hw2:Vz ad 4294967295=false:=by simpa using hv
   rw [hw2,Bool.and_false,Bool.not_false,if_pos rfl]
   by_cases h1:ad<0
   ·rw [sel_pos (by simpa using h1)];rfl
   rw [sel_neg (by simpa using h1),sel_pos (by simp only [decide_eq_true_eq];rw [Kerb.within_iff] at hv;omega)];rfl
  have w2:=Kerb.within_iff.1 hv
  rw [sel_neg (by simp;omega),sel_neg (by simp;omega),hw,hv,if_neg (show ¬ ((!(true&&true))=true) from by decide)]
  have rb := @Kerb.kaReq_bd msg
  generalize Yh msg=R at rb ⊢
  by_cases h1:R.err=0
  case neg=>rw [sel_pos (by simpa using h1),if_pos h1];rfl
  rw [sel_neg (by simpa using h1),if_neg (not_not_intro h1)]
  obtain ⟨⟨r1,r2,r3,r4,r5,r6⟩,r7,r8,r9⟩:=rb h1
  have d1:decide (R.val.user.name.length≤9223372036854775807)=true:=decide_eq_true (Wu r1 (by decide))
  have d2:decide (R.val.user.inst.length≤9223372036854775807)=true:=decide_eq_true (Wu r2 (by decide))
  have d3:decide (R.val.user.realm.length≤9223372036854775807)=true:=decide_eq_true (Wu r3 (by decide))
  have d4:decide (R.val.realm.length≤9223372036854775807)=true:=decide_eq_true (Wu r4 (by decide))
  have d5:decide (R.val.service.length≤9223372036854775807)=true:=decide_eq_true (Wu r5 (by decide))
  have d6:decide (R.val.inst.length≤9223372036854775807)=true:=decide_eq_true (Wu r6 (by decide))
  have d8:decide (R.val.ticket.length≤1000000)=true:=decide_eq_true (Wu r8 (by decide))
  have d9:decide (R.val.box.length≤1000000)=true:=decide_eq_true (Wu r9 (by decide))
  by_cases h2:R.val.op=2
  ·rw [sel_pos (by simpa using h2),if_pos h2]
   simp only [h2,d1,d2,d3,d4,d5,d6,d8,d9,hw,c8,eq_self,decide_true,Xh,↓A0,A0]
   obtain ⟨⟨op,user,kvno,realm,ticket,service,inst,box⟩,err⟩:=R
   dsimp only at h2 ⊢
   subst h2
   rfl
  ·rw [sel_neg (by simpa using h2),if_neg h2]
   have h3:decide (R.val.op≠2)=true:=decide_eq_true h2
   simp only [h3,d1,d2,d3,d4,d5,d6,d8,d9,hw,r7,c8,he,eq_self,decide_true,Xh,↓A0,A0]
 ·cases h
theorem p22  : runFn (G.env 22 16) G.rts (G.own 22) Tryz.f22 [] []=some (.bool true,[]):=by kernel_rfl
theorem w22:Walked Tryz.prog G 22 16 sp22:=by
 refine ⟨Tryz.f22,Tryz.func22,by decide +kernel,rfl,fun xs bl r h=> ?_⟩
 unfold sp22 at h
 split at h
 ·cases h;exact p22
 ·cases h
set_option maxHeartbeats 4000000 in
theorem w6:Walked Tryz.prog G 6 17 sp6:=by
 refine ⟨Tryz.f6,Tryz.func6,by decide +kernel,rfl,fun xs bl r h=> ?_⟩
 unfold sp6 at h
 split at h
 ·rename_i wh lf wt
  obtain ⟨hpre,h2⟩:=chk_inv h;cases h2
  refine Eq.trans (b:=(Zd (loopM (fun (st:List AV)=>cInt .u16 st fun n r=>cBool r fun b r=>cStr r fun b_1 r=>cSl 9 r fun b_2 r=>cU8 r fun b_3 r=>cU8 r fun b_4 r=>cU8 r fun b_5 r=>cU8 r fun b_6 r=>cU8 r fun b_7 r=>cU8 r fun b_8 r=>cU8 r fun b_9 r=>cU8 r fun b_10 r=>cU8 r fun b_11 r=>cU8 r fun b_12 r=>cU8 r fun b_13 r=>cU8 r fun b_14 r=>cInt .u16 r fun n_1 r=>cU8 r fun b_15 r=>cU8 r fun b_16 r=>cU8 r fun b_17 r=>cU8 r fun b_18 r=>cU8 r fun b_19 r=>cU8 r fun b_20 r=>cU8 r fun b_21 r=>cU8 r fun b_22 r=>cU8 r fun b_23 r=>cU8 r fun b_24 r=>cU8 r fun b_25 r=>cU8 r fun b_26 r=>cInt .u16 r fun n_2 r=>cInt .i64 r fun n_3 r=>let t1:List AV:=[Zz b_1,Yd 9 b_2,Zg b_3,Zg b_4,Zg b_5,Zg b_6,Zg b_7,Zg b_8,Zg b_9,Zg b_10,Zg b_11,Zg b_12,Zg b_13,Zg b_14,Zy .u16 n_1,Zg b_15,Zg b_16,Zg b_17,Zg b_18,Zg b_19,Zg b_20,Zg b_21,Zg b_22,Zg b_23,Zg b_24,Zg b_25,Zg b_26,Zy .u16 n_2,Zy .i64 n_3];let t0:Option (List AV ⊕ Ex×List AV):=some (Sum.inr (Ex.ret,Zy .u16 n::Yy false::t1));onNil r (sel (decide (n_3<20)) (Zd (chk (decide (0≤n_1)&&decide (n_1≤65535)) (some (Zf (Vq (Kerb.KAsk.mk b_3 b_4 b_5 b_6 b_7 b_8 b_9 b_10 b_11 b_12 b_13 b_14 n_1)),[]))) (kB fun b_27=>let t3:Wv:=Kerb.kaserver (Yv b_1 (Yx Yz b_2)) 1000 1 300 (Kerb.session 9) b_27;let t2:Ym:=Xq t3;Zd (chk (l63 b_1&&Wz b_2 Xg&&decide (Zp b_2≤1000000)&&decide (Kerb.Db.err (Yv b_1 (Yx Yz b_2))=0)&&true&&decide (Zp b_27≤1000000)) (some (Xb [Yw [Zz (Xj (Zh t3)),Yd 9 (Yx Yg (Xx (Zh t3)))],Zf (Xy t3),Yw [Zy .i64 (Xu t2),Zz (Zj (Zv t2)),Zz (Zk (Zv t2)),Zz (Zq (Zv t2)),Zz (Zj (Zu t2)),Zz (Zk (Zu t2)),Zz (Zq (Zu t2)),Zz (Zj (Zw t2)),Zz (Zk (Zw t2)),Zz (Zq (Zw t2)),Zy .u64 (Yk t2),Zy .u64 (Yb t2),Zy .u64 (Yp t2),Zf (Xw t2),Zy .i64 (Yn t2),Zy .i64 (Xv t2)],Yy (Xm t3)],[]))) (kT fun vs=>onCons vs fun x r=>Xf x fun cs=>cStr cs fun b_28 r_1=>cSl 9 r_1 fun b_29 r_2=>onNil r_2 (cBs r fun b_30 r=>onCons r fun x r=>Xf x fun cs=>cInt .i64 cs fun n_4 r_3=>cStr r_3 fun b_31 r_4=>cStr r_4 fun b_32 r_5=>cStr r_5 fun b_33 r_6=>cStr r_6 fun b_34 r_7=>cStr r_7 fun b_35 r_8=>cStr r_8 fun b_36 r_9=>cStr r_9 fun b_37 r_10=>cStr r_10 fun b_38 r_11=>cStr r_11 fun b_39 r_12=>cInt .u64 r_12 fun n_5 r_13=>cInt .u64 r_13 fun n_6 r_14=>cInt .u64 r_14 fun n_7 r_15=>cBs r_15 fun b_40 r_16=>cInt .i64 r_16 fun n_8 r_17=>cInt .i64 r_17 fun n_9 r_18=>onNil r_18 (cBool r fun b_41 r=>onNil r (Zd (chk (decide (Zp b_30≤140737488355328)) (some (Xb [Yw [Zy .i64 (Kerb.KaReply.op (Zm (Ww b_30))),Zy .i64 (Kerb.KaReply.code (Zm (Ww b_30))),Zf (Kerb.KaReply.box (Zm (Ww b_30)))],Zy .i64 (Wb (Ww b_30))],[]))) (kT fun vs=>onCons vs fun x r=>Xf x fun cs=>cInt .i64 cs fun n_10 r_19=>cInt .i64 r_19 fun n_11 r_20=>cBs r_20 fun b_42 r_21=>onNil r_21 (cInt .i64 r fun n_12 r=>onNil r (sel b_41 t0 (sel (!n_12==0) t0 (sel (!n_11==62) t0 (some (Sum.inl [Zy .u16 n,Yy b,Zz b_28,Yd 9 b_29,Zg b_3,Zg b_4,Zg b_5,Zg b_6,Zg b_7,Zg b_8,Zg b_9,Zg b_10,Zg b_11,Zg b_12,Zg b_13,Zg b_14,Zy .u16 n_1,Zg b_15,Zg b_16,Zg b_17,Zg b_18,Zg b_19,Zg b_20,Zg b_21,Zg b_22,Zg b_23,Zg b_24,Zg b_25,Zg b_26,Zy .u16 n_2,Zy .i64 (Wg .i64 (n_3+1))]))))))))))))) (some (Sum.inr (Ex.exit 0,Zy .u16 n::Yy b::t1))))) [Zy .u16 wt,Yy false,Zz (Xj (Kerb.simpleDb lf (0:UInt8) (255:UInt8))),Yd 9 (Yx Yg (Xx (Kerb.simpleDb lf (0:UInt8) (255:UInt8)))),Zg (0:UInt8),Zg wh,Zg (0:UInt8),Zg (0:UInt8),Zg (0:UInt8),Zg (0:UInt8),Zg (255:UInt8),Zg (0:UInt8),Zg (0:UInt8),Zg (0:UInt8),Zg (7:UInt8),Zg (0:UInt8),Zy .u16 0,Zg (0:UInt8),Zg wh,Zg (0:UInt8),Zg (0:UInt8),Zg (0:UInt8),Zg (0:UInt8),Zg (255:UInt8),Zg (0:UInt8),Zg (0:UInt8),Zg (0:UInt8),Zg (0:UInt8),Zg (0:UInt8),Zy .u16 0,Zy .i64 0]) fun (r:Ex×List AV)=>cInt .u16 (Yq r) fun n r_1=>let t4:Int:=Wg .i64 (1000+Int.tmod (Wg .i64 n) 1000);cBool r_1 fun b r_2=>cStr r_2 fun b_1 r_3=>cSl 9 r_3 fun b_2 r_4=>cU8 r_4 fun b_3 r_5=>cU8 r_5 fun b_4 r_6=>cU8 r_6 fun b_5 r_7=>cU8 r_7 fun b_6 r_8=>cU8 r_8 fun b_7 r_9=>cU8 r_9 fun b_8 r_10=>cU8 r_10 fun b_9 r_11=>cU8 r_11 fun b_10 r_12=>cU8 r_12 fun b_11 r_13=>cU8 r_13 fun b_12 r_14=>cU8 r_14 fun b_13 r_15=>cU8 r_15 fun b_14 r_16=>cInt .u16 r_16 fun n r_17=>cU8 r_17 fun b_15 r_18=>cU8 r_18 fun b_16 r_19=>cU8 r_19 fun b_17 r_20=>cU8 r_20 fun b_18 r_21=>cU8 r_21 fun b_19 r_22=>cU8 r_22 fun b_20 r_23=>cU8 r_23 fun b_21 r_24=>cU8 r_24 fun b_22 r_25=>cU8 r_25 fun b_23 r_26=>cU8 r_26 fun b_24 r_27=>cU8 r_27 fun b_25 r_28=>cU8 r_28 fun b_26 r_29=>cInt .u16 r_29 fun n r_30=>cInt .i64 r_30 fun n_1 r_31=>onNil r_31 (exK r.1 (some (Yy b,[])) fun (j:Nat)=>sel (Nat.beq j 0) (Zd (chk (decide (0≤n)&&decide (n≤65535)) (some (Zf (Vq (Kerb.KAsk.mk b_15 b_16 b_17 b_18 b_19 b_20 b_21 b_22 b_23 b_24 b_25 b_26 n)),[]))) (kB fun b=>let t6:Wv:=Kerb.kaserver (Yv b_1 (Yx Yz b_2)) t4 1 2000 (Kerb.session 9) b;let t5:Ym:=Xq t6;Zd (chk (l63 b_1&&Wz b_2 Xg&&decide (Zp b_2≤1000000)&&decide (Kerb.Db.err (Yv b_1 (Yx Yz b_2))=0)&&true&&decide (Zp b≤1000000)) (some (Xb [Yw [Zz (Xj (Zh t6)),Yd 9 (Yx Yg (Xx (Zh t6)))],Zf (Xy t6),Yw [Zy .i64 (Xu t5),Zz (Zj (Zv t5)),Zz (Zk (Zv t5)),Zz (Zq (Zv t5)),Zz (Zj (Zu t5)),Zz (Zk (Zu t5)),Zz (Zq (Zu t5)),Zz (Zj (Zw t5)),Zz (Zk (Zw t5)),Zz (Zq (Zw t5)),Zy .u64 (Yk t5),Zy .u64 (Yb t5),Zy .u64 (Yp t5),Zf (Xw t5),Zy .i64 (Yn t5),Zy .i64 (Xv t5)],Yy (Xm t6)],[]))) (kT fun vs=>onCons vs fun x r=>Xf x fun cs=>cStr cs fun b r_32=>cSl 9 r_32 fun b r_33=>onNil r_33 (cBs r fun b r=>onCons r fun x r=>Xf x fun cs=>cInt .i64 cs fun n r_34=>cStr r_34 fun b_27 r_35=>cStr r_35 fun b_28 r_36=>cStr r_36 fun b_29 r_37=>cStr r_37 fun b_30 r_38=>cStr r_38 fun b_31 r_39=>cStr r_39 fun b_32 r_40=>cStr r_40 fun b_33 r_41=>cStr r_41 fun b_34 r_42=>cStr r_42 fun b_35 r_43=>cInt .u64 r_43 fun n_2 r_44=>cInt .u64 r_44 fun n_3 r_45=>cInt .u64 r_45 fun n_4 r_46=>cBs r_46 fun b_36 r_47=>cInt .i64 r_47 fun n_5 r_48=>cInt .i64 r_48 fun n_6 r_49=>onNil r_49 (cBool r fun b_37 r=>onNil r (Zd (chk (decide (Zp b≤140737488355328)) (some (Xb [Yw [Zy .i64 (Kerb.KaReply.op (Zm (Ww b))),Zy .i64 (Kerb.KaReply.code (Zm (Ww b))),Zf (Kerb.KaReply.box (Zm (Ww b)))],Zy .i64 (Wb (Ww b))],[]))) (kT fun vs=>onCons vs fun x r=>Xf x fun cs=>cInt .i64 cs fun n_7 r_50=>cInt .i64 r_50 fun n_8 r_51=>cBs r_51 fun b r_52=>onNil r_52 (cInt .i64 r fun n_9 r=>onNil r (sel (!n_9==0) (some (Yy false,[])) (sel (decide (t4<1600)) (sel (!b_37) (some (Yy (n_8==81),[])) (some (Yy false,[]))) (sel b_37 (sel (n_8==0) (some (Yy (n==3),[])) (some (Yy false,[]))) (some (Yy false,[]))))))))))))) none):Option (AV×Blocks))) (by kernel_rfl) ?_
  delta kT kB
  try dsimp only [cStr,cBs,cBool,cU8,cInt,cSl,l63]
  simp only [Wq,decide_eq_true_eq] at hpre
  obtain ⟨q0,q1⟩:=hpre
  obtain ⟨U,hU⟩:∃ U,Kerb.u8i wh % 3=U:=⟨_,rfl⟩
  have hu:U=0∨U=1∨U=2:=by rw [← hU];exact Kerb.who_cases wh
  have hbm:Vq ⟨0,wh,0,0,0,0,255,0,0,0,7,0,0⟩=(Kerb.encodeKaRequest (Kerb.reqG 1 U (Kerb.long 99) Kerb.bodyG)).val:=by rw [← hU];exact Kerb.bad_msg wh
  have hgm:Vq ⟨0,wh,0,0,0,0,255,0,0,0,0,0,0⟩=(Kerb.encodeKaRequest (Kerb.reqG 1 U (Kerb.long U) Kerb.bodyG)).val:=by rw [← hU];exact Kerb.good_msg wh
  have lb:=Kerb.msg_len ⟨0,wh,0,0,0,0,255,0,0,0,7,0,0⟩
  have lg:=Kerb.msg_len ⟨0,wh,0,0,0,0,255,0,0,0,0,0,0⟩
  have c0:(decide ((0:Int)≤0)&&decide ((0:Int)≤65535))=true:=rfl
  rw [Kerb.lockAt_simple lf hu]
  refine loop_rounds (fun i:Nat=>[Zy Vk wt,Yy false,Zz (Vd lf U i).realm,Yd 9 ((Vd lf U i).entries.map Yg),Zg 0,Zg wh,Zg 0,Zg 0,Zg 0,Zg 0,Zg 255,Zg 0,Zg 0,Zg 0,Zg 7,Zg 0,Zy Vk 0,Zg 0,Zg wh,Zg 0,Zg 0,Zg 0,Zg 0,Zg 255,Zg 0,Zg 0,Zg 0,Zg 0,Zg 0,Zy Vk 0,Zy Wf (i:Int)]) (fun i=>i≤20) (fun i=>20-i)
   (fun r=>r=(Ex.exit 0,[Zy Vk wt,Yy false,Zz (Vd lf U 20).realm,Yd 9 ((Vd lf U 20).entries.map Yg),Zg 0,Zg wh,Zg 0,Zg 0,Zg 0,Zg 0,Zg 255,Zg 0,Zg 0,Zg 0,Zg 7,Zg 0,Zy Vk 0,Zg 0,Zg wh,Zg 0,Zg 0,Zg 0,Zg 0,Zg 255,Zg 0,Zg 0,Zg 0,Zg 0,Zg 0,Zy Vk 0,Zy Wf (20:Int)])) 0 (Nat.zero_le _) rfl ?_ ?_
  ·intro i hi
   have kX:=Kerb.lockAt_kept lf hu hi
   by_cases h:(i:Int)<20
   case neg =>
    have:i=20:=by omega
    subst this
    simp (config:={maxSteps:=10000000}) only [↓sInt,↓sU8,↓sBool,↓sStr,↓sBs,↓sSl,↓sAgg,↓sTup,↓sCons,↓sNil,↓sNilB,↓sChk,↓sChkBind,↓sSome]
    rw [sel_neg (by rfl)]
    exact ⟨_,rfl,rfl⟩
   have hi2:i<20:=by omega
   have hK:=Kerb.lockAt_bad lf hu hi2 (sk:=300) (se:=Kerb.session 9) hbm
   have hd:=Kerb.refuse_dec (op:=1) (c:=62) rfl (by decide) (by decide)
   have hl:(Kerb.kaRefuse 1 62).length≤140737488355328:=by have:=Kerb.refuse_len 1 62;omega
   generalize hX:Vd lf U i=X at kX hK ⊢
   have eD:Yv X.realm X.entries=X:=rfl
   have l1:X.realm.length≤9223372036854775807:=by have:=kX.realm;omega
   have l2:X.entries.length≤1000000:=by have:=kX.len;omega
   have e1:((0:Int)==0)=true:=rfl
   have e2:((62:Int)==62)=true:=rfl
   simp (config:={maxSteps:=10000000}) only [c0,lb,hX,Xz,Xk,eD,l1,l2,kX.err,kX.all,decide_true,Xh,Bool.and_true,↓sInt,↓sU8,↓sBool,↓sStr,↓sBs,↓sSl,↓sAgg,↓sTup,↓sCons,↓sNil,↓sNilB,↓sChk,↓sChkBind,↓sSome]
   rw [sel_pos (by simpa using h)]
   simp (config:={maxSteps:=10000000}) only [hK,hd,hl,e1,e2,decide_true,Bool.not_true,sTrue,sFalse,↓sInt,↓sU8,↓sBool,↓sStr,↓sBs,↓sSl,↓sAgg,↓sTup,↓sCons,↓sNil,↓sNilB,↓sChk,↓sChkBind,↓sSome]
   rw [wrap_i64 (by omega) (by omega)]
   exact ⟨_,rfl,i+1,rfl,by omega,by dsimp only;omega⟩
  ·rintro _ rfl
   have kX:=Kerb.lockAt_kept lf hu (i:=20) (by omega)
   have w1:Wg .i64 wt=wt:=wrap_i64 (by omega) (by omega)
   have w2:Wg .i64 (1000+Int.tmod wt 1000)=1000+wt % 1000:=by rw [Int.tmod_eq_emod_of_nonneg q0];exact wrap_i64 (by omega) (by omega)
   obtain ⟨N,hN⟩:∃ N,1000+wt % 1000=N:=⟨_,rfl⟩
   have hNb:1000≤N∧N≤1999:=by omega
   rw [hN] at w2
   have z0:Nat.beq 0 0=true:=rfl
   have hlk:=fun (h:N<1600)=>Kerb.lockAt_locked lf hu (now:=N) (sk:=2000) (se:=Kerb.session 9) ⟨hNb.1,h⟩ hgm
   have hop:=fun (h:1600≤N)=>Kerb.lockAt_open lf hu (now:=N) ⟨h,by omega⟩ hgm
   generalize hX:Vd lf U 20=X at kX hlk hop ⊢
   have eD:Yv X.realm X.entries=X:=rfl
   have l1:X.realm.length≤9223372036854775807:=by have:=kX.realm;omega
   have l2:X.entries.length≤1000000:=by have:=kX.len;omega
   simp (config:={maxSteps:=10000000}) only [c0,lg,z0,w1,w2,Xz,Xk,eD,l1,l2,kX.err,kX.all,decide_true,Xh,Bool.and_true,sTrue,sExit,↓sInt,↓sU8,↓sBool,↓sStr,↓sBs,↓sSl,↓sAgg,↓sTup,↓sCons,↓sNil,↓sNilB,↓sChk,↓sChkBind,↓sSome]
   have e1:((0:Int)==0)=true:=rfl
   rcases Int.lt_or_le N 1600 with h | h
   ·have hK:=hlk h
    have hd:=Kerb.refuse_dec (op:=1) (c:=81) rfl (by decide) (by decide)
    have hl:(Kerb.kaRefuse 1 81).length≤140737488355328:=by have:=Kerb.refuse_len 1 81;omega
    simp (config:={maxSteps:=10000000}) only [hK,hd,hl,e1,decide_true,Bool.not_true,Bool.not_false,sTrue,sFalse,↓sInt,↓sU8,↓sBool,↓sStr,↓sBs,↓sSl,↓sAgg,↓sTup,↓sCons,↓sNil,↓sNilB,↓sChk,↓sChkBind,↓sSome]
    rw [sel_pos (by simpa using h)]
    rfl
   ·obtain ⟨D,ans,box,iss,hK,hd,hk,hl⟩:=hop h
    have hl2:ans.length≤140737488355328:=by omega
    simp (config:={maxSteps:=10000000}) only [hK,hd,hl2,e1,hk,decide_true,Bool.not_true,Bool.not_false,sTrue,sFalse,↓sInt,↓sU8,↓sBool,↓sStr,↓sBs,↓sSl,↓sAgg,↓sTup,↓sCons,↓sNil,↓sNilB,↓sChk,↓sChkBind,↓sSome]
    rw [sel_neg (by simpa using h)]
    rfl
 ·cases h
end Go.Proofs.YtaikjfcgemjghaaGreat
