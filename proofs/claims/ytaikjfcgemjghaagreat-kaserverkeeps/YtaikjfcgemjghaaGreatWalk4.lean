/- What the functions of this seat compute. -/
import Derived.Test.YtaikjfcgemjghaaGreatTab
import Derived.Test.YtaikjfcgemjghaaGreatKerbPlain
import Derived.Test.YtaikjfcgemjghaaGreatAbsStep
import Derived.Test.YtaikjfcgemjghaaGreatKerbKaPlain
import Derived.Test.YtaikjfcgemjghaaGreatKerbKaRef
import Derived.Test.YtaikjfcgemjghaaGreatKerbCli3
import Derived.Test.YtaikjfcgemjghaaGreatKerbCli4
import Derived.Test.YtaikjfcgemjghaaGreatKerbCli5
import Derived.Test.YtaikjfcgemjghaaGreatKerbSrvL
import Derived.Test.YtaikjfcgemjghaaGreatKerbKac2
open Go.Abs.AV renaming str→Zz,int→Zy,bs→Zf,sl→Zh,bool→Yy,agg→Yv,onAgg→Xz,tup→Xj,undef→Vz
open Kerb renaming encodeKaReply→Zx,decodeKaRequest→Zb,kaRefuse_nil→Yz,toEntry→Yw,map_toEntry→Yp,grantLife→Yg,Issue→Yh,isEntry→Xg,openTicket→Xm,decodeTicket→Xh,isU64→Wz,ends2→Wu,KaOut→Wj,tEnd→Wb,ents_of→Wn,classOf→Wm,imin→Vy,openBox→Vx,kaSecretOf→Vw,isI64→Vv,within→Vu,noEntry→Vq,krbtgt→Vj,kaGive→Vk,getD_ent→Vf,KaSecret→Vg
open Kerb.Issue renaming service→Zw,server→Zu,client→Zq,session→Yb,granter→Yn,sealer→Xy,issued→Xx,text→Xp,stop→Xd,kind→Xf
open Kerb.Prin renaming realm→Zv,name→Zj,inst→Zk,mk→Yd
open List renaming length→Zp,map→Yu,length_map→Ym,all→Wx,getD→Wq
open Option renaming bind→Zd
open Kerb.Dec renaming val→Zg,err→Wg
open Kerb.KaReply renaming mk→Zn
open Kerb.Entry renaming av→Zm
open Go.IntKind renaming i64→Yx,wrap→Wv
open Kerb.KaOut renaming db→Yq,answer→Xq,issue→Xb,ok→Ww,mk→Wf
open Kerb.Db renaming mk→Yj,entries→Xw,realm→Xn
open Prod renaming snd→Yk,fst→Yf
open Kerb.Enc renaming val→Xv,err→Xu
open Bool renaming and_self→Xk,and_eq_true→Wp
open Kerb.Ticket renaming client→Wy
open Nat renaming le_trans→Wk
open Kerb.KaRequest renaming user→Wd
open Int renaming toNat→Wh
open Kerb.ReplyPart renaming service→Vp
open Kerb.KAsk renaming message→Vd
namespace Go.Proofs.YtaikjfcgemjghaaGreat
open Go Go.Abs Go.Proofs
set_option linter.unusedVariables false
set_option linter.unusedSimpArgs false
set_option maxRecDepth 100000
theorem w160:Walked Tryz.prog G 160 11 sp160:=by
 refine ⟨Tryz.f160,Tryz.func160,by decide +kernel,rfl,fun xs bl r h=> ?_⟩
 unfold sp160 at h
 split at h
 ·rename_i dr dls i bd op u1 u2 u3 kv qr tk sv ins bx rl els now ad sk se
  obtain ⟨hpre,h2⟩:=chk_inv h;cases h2
  show runFnH (G.env 160 11) G.rts (G.own 160) Tryz.f160 _ _ [0]=_
  refine Eq.trans (b:=(let t1:List AV:=[Zy .i64 0,Zz [],Zz [],Zz [],Zz [],Zz [],Zz [],Zz [],Zz [],Zz [],Zy .u64 0,Zy .u64 0,Zy .u64 0,Zf [],Zy .i64 0,Zy .i64 0,Yy false];let t3:Kerb.Dec Vg:=Vw bd [(67:UInt8),(80:UInt8),(87:UInt8),(108:UInt8)] now sk;let t0:List AV:=Zf []::t1;let t2:Vg:=Zg t3;Zd (chk (decide (Zp bd≤1000000)) (some (Xj [Yv [Zz (Kerb.KaSecret.label t2),Zy .i64 (Kerb.KaSecret.time t2),Zy .i64 (Kerb.KaSecret.start t2),Zy .i64 (Kerb.KaSecret.stop t2),Zy .u64 (Kerb.KaSecret.new t2)],Zy .i64 (Wg t3)],[[Zy .i64 op,Zz u1,Zz u2,Zz u3,Zy .i64 kv,Zz qr,Zf tk,Zz sv,Zz ins,Zf bx,Zz rl,Zh 9 els,Zy .i64 now,Zy .i64 ad,Zy .i64 sk,Zy .u64 se]]))) fun (r:AV×Blocks)=>onConsB (Yk r) fun (x:List AV) (r_1:List (List AV))=>cInt .i64 x fun n r_2=>cStr r_2 fun b r_3=>cStr r_3 fun b_1 r_4=>cStr r_4 fun b_2 r_5=>cInt .i64 r_5 fun n_1 r_6=>cStr r_6 fun b_3 r_7=>cBs r_7 fun b_4 r_8=>cStr r_8 fun b_5 r_9=>cStr r_9 fun b_6 r_10=>cBs r_10 fun b_7 r_11=>cStr r_11 fun b_8 r_12=>cSl 9 r_12 fun b_9 r_13=>let t4:AV:=Yv (Zz b_8::Zh 9 b_9::t0);cInt .i64 r_13 fun n_2 r_14=>cInt .i64 r_14 fun n_3 r_15=>cInt .i64 r_15 fun n_4 r_16=>cInt .u64 r_16 fun n_5 r_17=>let t5:List (List AV):=[[Zy .i64 n,Zz b,Zz b_1,Zz b_2,Zy .i64 n_1,Zz b_3,Zf b_4,Zz b_5,Zz b_6,Zf b_7,Zz b_8,Zh 9 b_9,Zy .i64 n_2,Zy .i64 n_3,Zy .i64 n_4,Zy .u64 n_5]];onNil r_17 (onNilB r_1 (AV.onTup (Yf r) fun vs=>onCons vs fun x r=>Xz x fun cs=>cStr cs fun b r_18=>cInt .i64 r_18 fun n_6 r_19=>cInt .i64 r_19 fun n_7 r_20=>cInt .i64 r_20 fun n_8 r_21=>cInt .u64 r_21 fun n_9 r_22=>onNil r_22 (cInt .i64 r fun n_10 r=>onNil r (sel (!n_10==0) (sel (!Xu (Zx (Zn n n_10 []))==0) (some (t4,t5)) (some (Yv (Zz b_8::Zh 9 b_9::Zf (Xv (Zx (Zn n n_10 [])))::t1),t5))) (Zd (chk (decide (0≤n_9)&&decide (n_9<18446744073709551616)) (some (Zy .i64 (Wm n_9),[]))) (kI .i64 fun n_11=>sel (!n_11==1) (sel (!Xu (Zx (Zn n 10 []))==0) (some (t4,t5)) (some (Yv (Zz b_8::Zh 9 b_9::Zf (Xv (Zx (Zn n 10 [])))::t1),t5))) (chk (decide (0≤i)&&decide (i<(↑(Zp b_9):Int))&&true) (Xz (Wq b_9 (Wh i) Vz) fun cs=>cStr cs fun b r=>cStr r fun b r=>cInt .u64 r fun n_12 r=>cInt .i64 r fun n_13 r=>cInt .i64 r fun n_14 r=>cInt .i64 r fun n_15 r=>cInt .i64 r fun n_16 r=>cInt .i64 r fun n_17 r=>cInt .i64 r fun n_18 r=>onNil r (Zd (chk (l63 dr&&Wx dls Xg&&decide (Zp dls≤1000000)&&decide (0≤n_9)&&decide (n_9<18446744073709551616)) (some (Xj [Yv [Zz (Xn (Zg (Kerb.rekey (Yj dr (Yu Yw dls)) i n_9))),Zh 9 (Yu Zm (Xw (Zg (Kerb.rekey (Yj dr (Yu Yw dls)) i n_9))))],Zy .i64 (Wg (Kerb.rekey (Yj dr (Yu Yw dls)) i n_9))],[]))) (kT fun vs=>onCons vs fun x r=>Xz x fun cs=>cStr cs fun b r_23=>cSl 9 r_23 fun b_10 r_24=>onNil r_24 (cInt .i64 r fun n_19 r=>onNil r (sel (!n_19==0) (some (t4,t5)) (Zd (chk (decide (0≤n_6)&&decide (n_6≤4294967295)) (some (Zy .i64 (Kerb.kaNext n_6),[]))) (kI .i64 fun n_20=>let t6:Kerb.Enc:=Kerb.kaReplyDec n (Kerb.KaAnswer.mk [(67:UInt8),(80:UInt8),(87:UInt8),(100:UInt8)] n_20 0 0 0 0 (Yd [] [] []) []) n_12;Zd (chk (Wz n_12) (some (Xj [Zf (Xv t6),Zy .i64 (Xu t6)],t5))) fun (r:AV×Blocks)=>onConsB (Yk r) fun (x:List AV) (r_25:List (List AV))=>cInt .i64 x fun n r_26=>cStr r_26 fun b_11 r_27=>cStr r_27 fun b_12 r_28=>cStr r_28 fun b_13 r_29=>cInt .i64 r_29 fun n_21 r_30=>cStr r_30 fun b_14 r_31=>cBs r_31 fun b_15 r_32=>cStr r_32 fun b_16 r_33=>cStr r_33 fun b_17 r_34=>cBs r_34 fun b_18 r_35=>cStr r_35 fun b_19 r_36=>cSl 9 r_36 fun b_20 r_37=>cInt .i64 r_37 fun n_22 r_38=>cInt .i64 r_38 fun n_23 r_39=>cInt .i64 r_39 fun n_24 r_40=>cInt .u64 r_40 fun n_25 r_41=>let t7:List (List AV):=[[Zy .i64 n,Zz b_11,Zz b_12,Zz b_13,Zy .i64 n_21,Zz b_14,Zf b_15,Zz b_16,Zz b_17,Zf b_18,Zz b_19,Zh 9 b_20,Zy .i64 n_22,Zy .i64 n_23,Zy .i64 n_24,Zy .u64 n_25]];onNil r_41 (onNilB r_25 (AV.onTup (Yf r) fun vs=>cBs vs fun b_21 r=>cInt .i64 r fun n r=>onNil r (sel (!n==0) (some (Yv (Zz b_19::Zh 9 b_20::t0),t7)) (some (Yv (Zz b::Zh 9 b_10::Zf b_21::t1),t7))))))))))))))))))):Option (AV×Blocks))) (by kernel_rfl) ?_
  delta kT kI
  try dsimp only [cStr,cBs,cBool,cU8,cInt,cSl,l63]
  simp only [Wp,decide_eq_true_eq] at hpre
  obtain ⟨⟨⟨⟨⟨⟨⟨hpre,hd⟩,hdl⟩,hbl⟩,hop⟩,h0⟩,h1⟩,hdr⟩:=hpre
  obtain ⟨⟨⟨⟨⟨⟨⟨⟨⟨⟨⟨c1,c2⟩,c3⟩,c4⟩,c5⟩,c6⟩,c7⟩,c8⟩,c9⟩,c10⟩,hall⟩,hlen⟩:=hpre
  obtain ⟨es,rfl,hok⟩:=Wn hall
  obtain ⟨ds,rfl,hok2⟩:=Wn hd
  rw [Yp,Yp]
  simp only [Ym] at hlen hdl h1
  have hlb:[(67:UInt8),(80:UInt8),(87:UInt8),(108:UInt8)]=Kerb.lChange:=rfl
  have hlb2:[(67:UInt8),(80:UInt8),(87:UInt8),(100:UInt8)]=Kerb.lDone:=rfl
  have i0:decide (0≤i)=true:=by simp;omega
  have i1:decide (i<(es.length:Int))=true:=by simp;omega
  simp only [hlb,hlb2,Yp,hall,hd,Ym,hlen,hdl,hbl,hdr,i0,i1,c1,c2,c3,c4,c5,c6,c7,c8,decide_true,Xk,List.map_nil,↓A0,A0]
  unfold Kerb.kaChangePw
  dsimp only
  have sb:=Kerb.kaSecOf_bd bd Kerb.lChange now sk
  generalize Vw bd Kerb.lChange now sk=S at sb ⊢
  by_cases h1:S.err=0
  case neg =>
   rw [sel_pos (by simpa using h1),if_pos h1]
   by_cases hr:(Zx ⟨op,S.err,[]⟩).err=0
   ·rw [sel_neg (by simpa using hr)];rfl
   ·rw [sel_pos (by simpa using hr),Yz hr];rfl
  rw [sel_neg (by simpa using h1),if_neg (not_not_intro h1)]
  rw [chk_of (by simp;exact sb.2.2)]
  by_cases h2:Wm S.val.new=1
  case neg =>
   rw [sel_pos (by simpa using h2),if_pos h2]
   by_cases hr:(Zx ⟨op,10,[]⟩).err=0
   ·rw [sel_neg (by simpa using hr)];rfl
   ·rw [sel_pos (by simpa using hr),Yz hr];rfl
  rw [sel_neg (by simpa using h2),if_neg (not_not_intro h2)]
  rw [Vf (by omega)]
  have ho:=hok _ (Kerb.ent_mem (es:=es) (i:=i.toNat) (by omega))
  unfold Kerb.entAt Kerb.kaReplySeal
  dsimp only
  generalize es.getD i.toNat Vq=e at ho ⊢
  have t0:decide (0≤S.val.time)=true:=decide_eq_true sb.1.1
  have t1:decide (S.val.time≤4294967295)=true:=decide_eq_true sb.1.2
  have n0:decide (0≤S.val.new)=true:=decide_eq_true sb.2.2.1
  have n1:decide (S.val.new<18446744073709551616)=true:=decide_eq_true sb.2.2.2
  simp only [Zm,n0,n1,t0,t1,ho.2.2.1,Xk,↓A0,A0]
  rw [show Kerb.noPrin=⟨[],[],[]⟩ from rfl]
  generalize Kerb.rekey ⟨dr,ds⟩ i S.val.new=R
  generalize Kerb.kaReplyDec op _ e.key=B
  by_cases hr:R.err=0
  case neg=>rw [sel_pos (by simpa using hr),if_pos (.inr hr)];rfl
  by_cases hb:B.err=0
  case neg =>
   have hb2:(B.err==0)=false:=by simpa using hb
   rw [sel_neg (by simpa using hr),sel_pos (by simpa using hb),if_pos (.inl hb2)];rfl
  have hb3:¬ ((B.err==0)=false∨R.err≠0):=by simp [hb,hr]
  rw [sel_neg (by simpa using hr),sel_neg (by simpa using hb),if_neg hb3]
  rfl
 ·cases h
theorem w217:Walked Tryz.prog G 217 11 sp217:=by
 refine ⟨Tryz.f217,Tryz.func217,by decide +kernel,rfl,fun xs bl r h=> ?_⟩
 unfold sp217 at h
 split at h
 ·rename_i b k
  obtain ⟨hpre,h2⟩:=chk_inv h;cases h2
  refine Eq.trans (b:=(Zd (chk (decide (Zp b≤140737488355328)) (some (Xj [Zf (Yf (Vx b 1 k)),Yy (Yk (Vx b 1 k))],[]))) (kT fun vs=>cBs vs fun b r=>cBool r fun b_1 r=>onNil r (sel (!b_1) (some (Xj [Yv [Yy false,Zz [],Zz [],Zz [],Zy .i64 0,Zy .u64 0,Zy .i64 0,Zy .i64 0,Zz [],Zz []],Zy .i64 31],[])) (Zd (chk (decide (Zp b≤140737488355328)) (some (Xj [Yv [Yy (Kerb.Ticket.little (Zg (Xh b))),Zz (Zj (Wy (Zg (Xh b)))),Zz (Zk (Wy (Zg (Xh b)))),Zz (Zv (Wy (Zg (Xh b)))),Zy .i64 (Kerb.Ticket.address (Zg (Xh b))),Zy .u64 (Kerb.Ticket.session (Zg (Xh b))),Zy .i64 (Kerb.Ticket.life (Zg (Xh b))),Zy .i64 (Kerb.Ticket.issued (Zg (Xh b))),Zz (Kerb.Ticket.service (Zg (Xh b))),Zz (Kerb.Ticket.inst (Zg (Xh b)))],Zy .i64 (Wg (Xh b))],[]))) (kT fun vs=>onCons vs fun x r=>Xz x fun cs=>cBool cs fun b r_1=>cStr r_1 fun b_2 r_2=>cStr r_2 fun b_3 r_3=>cStr r_3 fun b_4 r_4=>cInt .i64 r_4 fun n r_5=>cInt .u64 r_5 fun n_1 r_6=>cInt .i64 r_6 fun n_2 r_7=>cInt .i64 r_7 fun n_3 r_8=>cStr r_8 fun b_5 r_9=>cStr r_9 fun b_6 r_10=>onNil r_10 (cInt .i64 r fun n_4 r=>onNil r (some (Xj [Yv [Yy b,Zz b_2,Zz b_3,Zz b_4,Zy .i64 n,Zy .u64 n_1,Zy .i64 n_2,Zy .i64 n_3,Zz b_5,Zz b_6],Zy .i64 n_4],[]))))))):Option (AV×Blocks))) (by kernel_rfl) ?_
  delta kT
  try dsimp only [cStr,cBs,cBool,cU8,cInt,cSl,l63]
  have hb:=of_decide_eq_true hpre
  have hl:=Kerb.openBox_len b 1 k
  simp only [hpre,↓A0,A0]
  unfold Xm
  cases h:(Vx b 1 k).2
  ·rfl
  ·rw [sel_neg (by simp),chk_of (by simp;omega)]
   rfl
 ·cases h
theorem w224:Walked Tryz.prog G 224 11 sp224:=by
 refine ⟨Tryz.f224,Tryz.func224,by decide +kernel,rfl,fun xs bl r h=> ?_⟩
 unfold sp224 at h
 split at h
 ·rename_i rl els x y z u v w ad li now lf se sl tg kv
  obtain ⟨hpre,h2⟩:=chk_inv h;cases h2
  refine Eq.trans (b:=(let t0:AV:=Yv [Zy .i64 0,Zz [],Zz [],Zz [],Zz [],Zz [],Zz [],Zz [],Zz [],Zz [],Zy .u64 0,Zy .u64 0,Zy .u64 0,Zf [],Zy .i64 0,Zy .i64 0];let t1:AV:=Yv [Zy .u64 0,Zz [],Zz [],Zz [],Zy .i64 0,Zy .i64 0,Zf [],Zy .i64 0];Zd (chk (l63 x&&l63 y&&l63 z&&l63 u&&l63 v&&decide (0≤se)&&decide (se<18446744073709551616)&&decide (0≤tg)&&decide (tg<18446744073709551616)) (some (Xj [Zf (Xv (Kerb.sealTicket (Kerb.Ticket.mk li (Yd x y z) ad se lf now u v) tg)),Zy .i64 (Xu (Kerb.sealTicket (Kerb.Ticket.mk li (Yd x y z) ad se lf now u v) tg))],[]))) (kT fun vs=>onCons vs fun x_1 r=>AV.onBs x_1 fun b=>onCons r fun x_2 r=>AV.onInt .i64 x_2 fun n=>onNil r (sel (!n==0) (some (Xj [t0,t1,Zy .i64 n],[])) (Zd (chk (l63 u&&l63 v&&l63 w&&decide (0≤se)&&decide (se<18446744073709551616)) (some (Xj [Zf (Xv (Kerb.encodePart (Kerb.ReplyPart.mk se (Yd u v w) lf kv b now) li)),Zy .i64 (Xu (Kerb.encodePart (Kerb.ReplyPart.mk se (Yd u v w) lf kv b now) li))],[]))) (kT fun vs=>onCons vs fun x_3 r=>AV.onBs x_3 fun b_1=>onCons r fun x_4 r=>AV.onInt .i64 x_4 fun n=>onNil r (sel (!n==0) (some (Xj [t0,t1,Zy .i64 n],[])) (Zd (chk (decide (Zp b≤140737488355328)) (some (Zf b,[]))) (kB fun b_2=>some (Xj [Yv [Zy .i64 0,Zz [(107:UInt8),(114:UInt8),(98:UInt8),(116:UInt8),(103:UInt8),(116:UInt8)],Zz rl,Zz rl,Zz x,Zz y,Zz z,Zz u,Zz v,Zz w,Zy .u64 se,Zy .u64 sl,Zy .u64 0,Zf b_2,Zy .i64 now,Zy .i64 (Wb now lf)],Yv [Zy .u64 se,Zz u,Zz v,Zz w,Zy .i64 lf,Zy .i64 kv,Zf b,Zy .i64 now],Zy .i64 0],[])))))))):Option (AV×Blocks))) (by kernel_rfl) ?_
  delta kT kB
  try dsimp only [cStr,cBs,cBool,cU8,cInt,cSl,l63]
  simp only [Wp,decide_eq_true_eq] at hpre
  simp only [Kerb.isU64_iff] at hpre
  obtain ⟨⟨⟨⟨⟨⟨⟨h1,h2⟩,h3⟩,h4⟩,h5⟩,h6⟩,h7,h8⟩,h9,h10⟩:=hpre
  simp only [h1,h2,h3,h4,h5,h6,h7,h8,h9,h10,decide_true,Xk,↓A0,A0]
  unfold Kerb.grant Kerb.grantTkt
  dsimp only
  have hsl:=Kerb.sealTicket_len ⟨li,⟨x,y,z⟩,ad,se,lf,now,u,v⟩ tg
  generalize Kerb.sealTicket ⟨li,⟨x,y,z⟩,ad,se,lf,now,u,v⟩ tg=E at hsl
  by_cases he:E.err=0
  case neg=>rw [sel_pos (by simpa using he),if_pos he];rfl
  rw [sel_neg (by simpa using he),if_neg (by simpa using he)]
  generalize Kerb.encodePart ⟨se,⟨u,v,w⟩,lf,kv,E.val,now⟩ li=F
  by_cases hf:F.err=0
  case neg=>rw [sel_pos (by simpa using hf),if_pos hf];rfl
  rw [sel_neg (by simpa using hf),if_neg (by simpa using hf)]
  rw [chk_of (by simp;omega)]
  rfl
 ·cases h
theorem w147:Walked Tryz.prog G 147 12 sp147:=by
 refine ⟨Tryz.f147,Tryz.func147,by decide +kernel,rfl,fun xs bl r h=> ?_⟩
 unfold sp147 at h
 split at h
 ·rename_i op u1 u2 u3 kv qr tk sv ins bx rl els now ad sk se
  obtain ⟨hpre,h2⟩:=chk_inv h;cases h2
  show runFnH (G.env 147 12) G.rts (G.own 147) Tryz.f147 _ _ [0]=_
  refine Eq.trans (b:=(let t0:List (List AV):=[[Zy .i64 op,Zz u1,Zz u2,Zz u3,Zy .i64 kv,Zz qr,Zf tk,Zz sv,Zz ins,Zf bx,Zz rl,Zh 9 els,Zy .i64 now,Zy .i64 ad,Zy .i64 sk,Zy .u64 se]];let t1:AV:=Yv [Yy false,Zz [],Zz [],Zz [],Zy .i64 0,Zy .u64 0,Zy .i64 0,Zy .i64 0,Zz [],Zz []];let t3:Int×Int:=Kerb.serviceEnt (Yj rl (Yu Yw els)) [(107:UInt8),(114:UInt8),(98:UInt8),(116:UInt8),(103:UInt8),(116:UInt8)] rl now;let t2:Option (AV×Blocks):=some (Xj [t1,Zy .i64 35],t0);sel (!qr==rl) t2 (Zd (chk (Wx els Xg&&decide (Zp els≤1000000)) (some (Xj [Zy .i64 (Yf t3),Zy .i64 (Yk t3)],[]))) (kT fun vs=>cInt .i64 vs fun n r=>cInt .i64 r fun n_1 r=>onNil r (sel (!n_1==0) (some (Xj [t1,Zy .i64 n_1],t0)) (chk (decide (0≤n)&&decide (n<(↑(Zp els):Int))&&true) (Xz (Wq els (Wh n) Vz) fun cs=>cStr cs fun b r=>cStr r fun b r=>cInt .u64 r fun n r=>cInt .i64 r fun n_2 r=>cInt .i64 r fun n_3 r=>cInt .i64 r fun n_4 r=>cInt .i64 r fun n_5 r=>cInt .i64 r fun n_6 r=>cInt .i64 r fun n_7 r=>onNil r (sel (!kv==n_2) t2 (Zd (chk (decide (Zp tk≤140737488355328)) (some (Xj [Yv [Yy (Kerb.Ticket.little (Zg (Xm tk n))),Zz (Zj (Wy (Zg (Xm tk n)))),Zz (Zk (Wy (Zg (Xm tk n)))),Zz (Zv (Wy (Zg (Xm tk n)))),Zy .i64 (Kerb.Ticket.address (Zg (Xm tk n))),Zy .u64 (Kerb.Ticket.session (Zg (Xm tk n))),Zy .i64 (Kerb.Ticket.life (Zg (Xm tk n))),Zy .i64 (Kerb.Ticket.issued (Zg (Xm tk n))),Zz (Kerb.Ticket.service (Zg (Xm tk n))),Zz (Kerb.Ticket.inst (Zg (Xm tk n)))],Zy .i64 (Wg (Xm tk n))],[]))) (kT fun vs=>onCons vs fun x r=>Xz x fun cs=>cBool cs fun b r_1=>cStr r_1 fun b_1 r_2=>cStr r_2 fun b_2 r_3=>cStr r_3 fun b_3 r_4=>cInt .i64 r_4 fun n r_5=>cInt .u64 r_5 fun n_8 r_6=>cInt .i64 r_6 fun n_9 r_7=>cInt .i64 r_7 fun n_10 r_8=>cStr r_8 fun b_4 r_9=>cStr r_9 fun b_5 r_10=>onNil r_10 (cInt .i64 r fun n_11 r=>onNil r (sel (!n_11==0) (some (Xj [t1,Zy .i64 31],t0)) (sel (!b_4==[(107:UInt8),(114:UInt8),(98:UInt8),(116:UInt8),(103:UInt8),(116:UInt8)]) t2 (sel (!b_5==rl) t2 (sel (!b_3==rl) (some (Xj [t1,Zy .i64 36],t0)) (sel (!n==ad) (some (Xj [t1,Zy .i64 38],t0)) (sel (!Kerb.stateErr n_10 n_9 now sk==0) (some (Xj [t1,Zy .i64 (Kerb.stateErr n_10 n_9 now sk)],t0)) (some (Xj [Yv [Yy b,Zz b_1,Zz b_2,Zz b_3,Zy .i64 n,Zy .u64 n_8,Zy .i64 n_9,Zy .i64 n_10,Zz b_4,Zz b_5],Zy .i64 0],t0))))))))))))))))):Option (AV×Blocks))) (by kernel_rfl) ?_
  delta kT
  try dsimp only [cStr,cBs,cBool,cU8,cInt,cSl,l63]
  simp only [Wp,decide_eq_true_eq] at hpre
  obtain ⟨⟨⟨⟨⟨⟨⟨⟨⟨⟨⟨c1,c2⟩,c3⟩,c4⟩,c5⟩,c6⟩,c7⟩,c8⟩,c9⟩,c10⟩,hall⟩,hlen⟩:=hpre
  obtain ⟨es,rfl,hok⟩:=Wn hall
  rw [Yp]
  simp only [Ym] at hlen
  have tl:decide (tk.length≤140737488355328)=true:=by simp;omega
  have hkr:[(107:UInt8),(114:UInt8),(98:UInt8),(116:UInt8),(103:UInt8),(116:UInt8)]=Vj:=rfl
  simp only [hkr,hall,Ym,hlen,tl,decide_true,Xk,↓A0,A0]
  unfold Kerb.kaPresented
  dsimp only
  by_cases h1:qr=rl
  case neg=>rw [sel_pos (by simpa using h1),if_pos h1];try rfl
  rw [sel_neg (by simp [h1]),if_neg (by simp [h1])]
  have hs := @Kerb.serv_lt ⟨rl,es⟩ Vj rl now
  generalize Kerb.serviceEnt ⟨rl,es⟩ Vj rl now=F at hs ⊢
  obtain ⟨j,e⟩:=F
  dsimp only at hs ⊢
  by_cases h2:e=0
  case neg=>rw [sel_pos (by simpa using h2),if_pos h2];try rfl
  obtain ⟨g1,g2⟩:=hs h2
  rw [sel_neg (by simpa using h2),if_neg (by simpa using h2),chk_of (by simp;omega),Vf g2]
  unfold Kerb.entAt
  dsimp only
  generalize es.getD j.toNat Vq=x
  simp only [Zm,tl,↓A0,A0]
  by_cases h3:kv=x.kvno
  case neg=>rw [sel_pos (by simpa using h3),if_pos h3];try rfl
  rw [sel_neg (by simp [h3]),if_neg (by simp [h3])]
  generalize Xm tk x.key=T
  by_cases h4:T.err=0
  case neg=>rw [sel_pos (by simpa using h4),if_pos h4];try rfl
  rw [sel_neg (by simpa using h4),if_neg (by simpa using h4)]
  by_cases h5:T.val.service=Vj
  case neg=>rw [sel_pos (by simpa using h5),if_pos (.inl h5)];try rfl
  by_cases h6:T.val.inst=rl
  case neg=>rw [sel_neg (by simp [h5]),sel_pos (by simpa using h6),if_pos (.inr h6)];try rfl
  rw [sel_neg (by simp [h5]),sel_neg (by simp [h6]),if_neg (by simp [h5,h6])]
  by_cases h7:T.val.client.realm=rl
  case neg=>rw [sel_pos (by simpa using h7),if_pos h7];try rfl
  rw [sel_neg (by simp [h7]),if_neg (by simp [h7])]
  by_cases h8:T.val.address=ad
  case neg=>rw [sel_pos (by simpa using h8),if_pos h8];try rfl
  rw [sel_neg (by simp [h8]),if_neg (by simp [h8])]
  generalize Kerb.stateErr T.val.issued T.val.life now sk=Z
  by_cases h9:Z=0
  case neg=>rw [sel_pos (by simpa using h9),if_pos h9];try rfl
  rw [sel_neg (by simp [h9]),if_neg (by simp [h9])]
 ·cases h
theorem w154:Walked Tryz.prog G 154 12 sp154:=by
 refine ⟨Tryz.f154,Tryz.func154,by decide +kernel,rfl,fun xs bl r h=> ?_⟩
 unfold sp154 at h
 split at h
 ·rename_i dr dls gk c1 c2 c3 s1 s2 s3 ga gl gs gg gt gv gb gm op u1 u2 u3 kv qr tk sv ins bx rl els now ad sk se
  obtain ⟨hpre,h2⟩:=chk_inv h;cases h2
  show runFnH (G.env 154 12) G.rts (G.own 154) Tryz.f154 _ _ [0]=_
  refine Eq.trans (b:=(let t2:List AV:=[Zf [],Zy .i64 0,Zz [],Zz [],Zz [],Zz [],Zz [],Zz [],Zz [],Zz [],Zz [],Zy .u64 0,Zy .u64 0,Zy .u64 0,Zf [],Zy .i64 0,Zy .i64 0,Yy false];let t3:List (List AV):=[[Zy .i64 op,Zz u1,Zz u2,Zz u3,Zy .i64 kv,Zz qr,Zf tk,Zz sv,Zz ins,Zf bx,Zz rl,Zh 9 els,Zy .i64 now,Zy .i64 ad,Zy .i64 sk,Zy .u64 se]];let t4:Kerb.Granted:=Kerb.grant rl (Yd c1 c2 c3) (Yd s1 s2 s3) ga false now gl se gs gt gv;let t0:Yh:=Kerb.Granted.issue t4;let t1:Kerb.ReplyPart:=Kerb.Granted.part t4;Zd (chk (l63 c1&&l63 c2&&l63 c3&&l63 s1&&l63 s2&&l63 s3&&Wz se&&Wz gt) (some (Xj [Yv [Zy .i64 (Xf t0),Zz (Zj (Zu t0)),Zz (Zk (Zu t0)),Zz (Zv (Zu t0)),Zz (Zj (Zq t0)),Zz (Zk (Zq t0)),Zz (Zv (Zq t0)),Zz (Zj (Zw t0)),Zz (Zk (Zw t0)),Zz (Zv (Zw t0)),Zy .u64 (Yb t0),Zy .u64 (Xy t0),Zy .u64 (Yn t0),Zf (Xp t0),Zy .i64 (Xx t0),Zy .i64 (Xd t0)],Yv [Zy .u64 (Kerb.ReplyPart.session t1),Zz (Zj (Vp t1)),Zz (Zk (Vp t1)),Zz (Zv (Vp t1)),Zy .i64 (Kerb.ReplyPart.life t1),Zy .i64 (Kerb.ReplyPart.kvno t1),Zf (Kerb.ReplyPart.ticket t1),Zy .i64 (Kerb.ReplyPart.time t1)],Zy .i64 (Kerb.Granted.err t4)],[]))) (kT fun vs=>onCons vs fun x r=>Xz x fun cs=>cInt .i64 cs fun n r_1=>cStr r_1 fun b r_2=>cStr r_2 fun b_1 r_3=>cStr r_3 fun b_2 r_4=>cStr r_4 fun b_3 r_5=>cStr r_5 fun b_4 r_6=>cStr r_6 fun b_5 r_7=>cStr r_7 fun b_6 r_8=>cStr r_8 fun b_7 r_9=>cStr r_9 fun b_8 r_10=>cInt .u64 r_10 fun n r_11=>cInt .u64 r_11 fun n_1 r_12=>cInt .u64 r_12 fun n_2 r_13=>cBs r_13 fun b_9 r_14=>cInt .i64 r_14 fun n_3 r_15=>cInt .i64 r_15 fun n_4 r_16=>onNil r_16 (onCons r fun x r=>Xz x fun cs=>cInt .u64 cs fun n_5 r_17=>cStr r_17 fun b_10 r_18=>cStr r_18 fun b_11 r_19=>cStr r_19 fun b_12 r_20=>cInt .i64 r_20 fun n_6 r_21=>cInt .i64 r_21 fun n_7 r_22=>cBs r_22 fun b_13 r_23=>cInt .i64 r_23 fun n_8 r_24=>onNil r_24 (cInt .i64 r fun n_9 r=>onNil r (sel (!n_9==0) (some (Yv (Zz rl::Zh 9 els::t2),t3)) (Zd (chk (decide (0≤gm)&&decide (gm≤4294967295)) (some (Zy .i64 (Kerb.kaNext gm),[]))) (kI .i64 fun n_10=>let t5:Kerb.Enc:=Kerb.kaReplyDec op (Kerb.KaAnswer.mk gb n_10 se now (Vy n_4 4294967295) gv (Yd s1 s2 s3) b_9) gs;Zd (chk (l63 s1&&l63 s2&&l63 s3&&l63 gb&&Wz se&&Wz gs) (some (Xj [Zf (Xv t5),Zy .i64 (Xu t5)],t3))) fun (r:AV×Blocks)=>onConsB (Yk r) fun (x:List AV) (r_25:List (List AV))=>cInt .i64 x fun n_11 r_26=>cStr r_26 fun b_14 r_27=>cStr r_27 fun b_15 r_28=>cStr r_28 fun b_16 r_29=>cInt .i64 r_29 fun n_12 r_30=>cStr r_30 fun b_17 r_31=>cBs r_31 fun b_18 r_32=>cStr r_32 fun b_19 r_33=>cStr r_33 fun b_20 r_34=>cBs r_34 fun b_21 r_35=>cStr r_35 fun b_22 r_36=>cSl 9 r_36 fun b_23 r_37=>cInt .i64 r_37 fun n_13 r_38=>cInt .i64 r_38 fun n_14 r_39=>cInt .i64 r_39 fun n_15 r_40=>cInt .u64 r_40 fun n_16 r_41=>let t6:List (List AV):=[[Zy .i64 n_11,Zz b_14,Zz b_15,Zz b_16,Zy .i64 n_12,Zz b_17,Zf b_18,Zz b_19,Zz b_20,Zf b_21,Zz b_22,Zh 9 b_23,Zy .i64 n_13,Zy .i64 n_14,Zy .i64 n_15,Zy .u64 n_16]];onNil r_41 (onNilB r_25 (AV.onTup (Yf r) fun vs=>cBs vs fun b_24 r=>cInt .i64 r fun n_17 r=>onNil r (sel (!n_17==0) (some (Yv (Zz b_22::Zh 9 b_23::t2),t6)) (some (Yv [Zz dr,Zh 9 dls,Zf b_24,Zy .i64 gk,Zz b,Zz b_1,Zz b_2,Zz b_3,Zz b_4,Zz b_5,Zz b_6,Zz b_7,Zz b_8,Zy .u64 n,Zy .u64 n_1,Zy .u64 gg,Zf b_9,Zy .i64 n_3,Zy .i64 n_4,Yy true],t6))))))))))):Option (AV×Blocks))) (by kernel_rfl) ?_
  delta kT kI
  try dsimp only [cStr,cBs,cBool,cU8,cInt,cSl,l63]
  simp only [Wp,decide_eq_true_eq] at hpre
  obtain ⟨⟨⟨⟨⟨⟨⟨⟨⟨⟨⟨⟨⟨⟨d1,d2⟩,d3⟩,d4⟩,d5⟩,d6⟩,d7⟩,k1⟩,k2⟩,k3⟩,k4⟩,ha⟩,hb⟩,g0⟩,g1⟩:=hpre
  obtain ⟨es,rfl,hok⟩:=Wn ha
  obtain ⟨ds,rfl,hok2⟩:=Wn hb
  rw [Yp,Yp]
  simp only [d1,d2,d3,d4,d5,d6,d7,k1,k2,k3,k4,g0,g1,decide_true,Xk,↓A0,A0]
  unfold Vk Kerb.kaReplySeal
  dsimp only
  have hst := @Kerb.grant_stop rl ⟨c1,c2,c3⟩ ⟨s1,s2,s3⟩ ga false now gl se gs gt gv
  generalize Kerb.grant rl ⟨c1,c2,c3⟩ ⟨s1,s2,s3⟩ ga false now gl se gs gt gv=G at hst ⊢
  by_cases hg:G.err=0
  case neg=>rw [sel_pos (by simpa using hg),if_pos hg];rfl
  rw [sel_neg (by simpa using hg),if_neg (not_not_intro hg),hst hg]
  generalize Kerb.kaReplyDec op _ gs=R
  have hr2:¬ R.err=0→(R.err==0)=false:=fun h=>by simpa using h
  by_cases hr:R.err=0
  case neg=>rw [sel_pos (by simpa using hr),if_pos (hr2 hr)];rfl
  rw [sel_neg (by simpa using hr),if_neg (show ¬ (R.err==0)=false from by simp [hr])]
  rfl
 ·cases h
theorem w67:Walked Tryz.prog G 67 13 sp67:=by
 refine ⟨Tryz.f67,Tryz.func67,by decide +kernel,rfl,fun xs bl r h=> ?_⟩
 unfold sp67 at h
 split at h
 ·rename_i op u1 u2 u3 kv qr tk sv ins bx rl els now ad sk se
  obtain ⟨hpre,h2⟩:=chk_inv h;cases h2
  show runFnH (G.env 67 13) G.rts (G.own 67) Tryz.f67 _ _ [0]=_
  refine Eq.trans (b:=(let t0:List UInt8:=[(116:UInt8),(107:UInt8),(116:UInt8),(71:UInt8)];let t1:List AV:=[Zy .i64 0,Zz [],Zz [],Zz [],Zz [],Zz [],Zz [],Zz [],Zz [],Zz [],Zy .u64 0,Zy .u64 0,Zy .u64 0,Zf [],Zy .i64 0,Zy .i64 0,Yy false];let t3:List UInt8:=[(103:UInt8),(84:UInt8),(75:UInt8),(84:UInt8)];let t4:Kerb.Dec Kerb.Ticket:=Kerb.kaPresented (Yj rl (Yu Yw els)) now ad sk (Kerb.KaRequest.mk op (Yd u1 u2 u3) kv qr tk sv ins bx);let t2:Kerb.Ticket:=Zg t4;Zd (chk (l63 u1&&l63 u2&&l63 u3&&l63 qr&&l63 sv&&l63 ins&&l63 rl&&Wz se&&decide (Zp tk≤1000000)&&decide (Zp bx≤1000000)&&Wx els Xg&&decide (Zp els≤1000000)) (some (Xj [Yv [Yy (Kerb.Ticket.little t2),Zz (Zj (Wy t2)),Zz (Zk (Wy t2)),Zz (Zv (Wy t2)),Zy .i64 (Kerb.Ticket.address t2),Zy .u64 (Kerb.Ticket.session t2),Zy .i64 (Kerb.Ticket.life t2),Zy .i64 (Kerb.Ticket.issued t2),Zz (Kerb.Ticket.service t2),Zz (Kerb.Ticket.inst t2)],Zy .i64 (Wg t4)],[[Zy .i64 op,Zz u1,Zz u2,Zz u3,Zy .i64 kv,Zz qr,Zf tk,Zz sv,Zz ins,Zf bx,Zz rl,Zh 9 els,Zy .i64 now,Zy .i64 ad,Zy .i64 sk,Zy .u64 se]]))) fun (r:AV×Blocks)=>onConsB (Yk r) fun (x:List AV) (r_1:List (List AV))=>cInt .i64 x fun n r_2=>cStr r_2 fun b r_3=>cStr r_3 fun b_1 r_4=>cStr r_4 fun b_2 r_5=>cInt .i64 r_5 fun n_1 r_6=>cStr r_6 fun b_3 r_7=>cBs r_7 fun b_4 r_8=>cStr r_8 fun b_5 r_9=>cStr r_9 fun b_6 r_10=>cBs r_10 fun b_7 r_11=>cStr r_11 fun b_8 r_12=>cSl 9 r_12 fun b_9 r_13=>cInt .i64 r_13 fun n_2 r_14=>cInt .i64 r_14 fun n_3 r_15=>cInt .i64 r_15 fun n_4 r_16=>cInt .u64 r_16 fun n_5 r_17=>let t5:List (List AV):=[[Zy .i64 n,Zz b,Zz b_1,Zz b_2,Zy .i64 n_1,Zz b_3,Zf b_4,Zz b_5,Zz b_6,Zf b_7,Zz b_8,Zh 9 b_9,Zy .i64 n_2,Zy .i64 n_3,Zy .i64 n_4,Zy .u64 n_5]];onNil r_17 (onNilB r_1 (AV.onTup (Yf r) fun vs=>onCons vs fun x r=>Xz x fun cs=>cBool cs fun b r_18=>cStr r_18 fun b r_19=>cStr r_19 fun b_10 r_20=>cStr r_20 fun b_11 r_21=>let t6:Bool:=l63 b&&l63 b_10&&l63 b_11;cInt .i64 r_21 fun n_6 r_22=>cInt .u64 r_22 fun n_7 r_23=>cInt .i64 r_23 fun n_8 r_24=>cInt .i64 r_24 fun n_9 r_25=>cStr r_25 fun b_12 r_26=>cStr r_26 fun b_13 r_27=>onNil r_27 (cInt .i64 r fun n_10 r=>onNil r (sel (!n_10==0) (sel (!Xu (Zx (Zn n n_10 []))==0) (some (Yv (Zz b_8::Zh 9 b_9::Zf []::t1),t5)) (some (Yv (Zz b_8::Zh 9 b_9::Zf (Xv (Zx (Zn n n_10 [])))::t1),t5))) (Zd (chk (decide (Zp b_7≤140737488355328)) (some (Xj [Zf (Yf (Vx b_7 7 n_7)),Yy (Yk (Vx b_7 7 n_7))],[]))) (kT fun vs=>cBs vs fun b_14 r=>let t7:Vg:=Zg (Vw b_14 t3 n_2 n_4);cBool r fun b_15 r=>onNil r (sel (!b_15) (sel (!Xu (Zx (Zn n 31 []))==0) (some (Yv (Zz b_8::Zh 9 b_9::Zf []::t1),t5)) (some (Yv (Zz b_8::Zh 9 b_9::Zf (Xv (Zx (Zn n 31 [])))::t1),t5))) (Zd (chk (decide (Zp b_14≤1000000)) (some (Xj [Yv [Zz (Kerb.KaSecret.label t7),Zy .i64 (Kerb.KaSecret.time t7),Zy .i64 (Kerb.KaSecret.start t7),Zy .i64 (Kerb.KaSecret.stop t7),Zy .u64 (Kerb.KaSecret.new t7)],Zy .i64 (Wg (Vw b_14 t3 n_2 n_4))],t5))) fun (r:AV×Blocks)=>onConsB (Yk r) fun (x:List AV) (r_28:List (List AV))=>cInt .i64 x fun n r_29=>cStr r_29 fun b_16 r_30=>cStr r_30 fun b_17 r_31=>cStr r_31 fun b_18 r_32=>cInt .i64 r_32 fun n_11 r_33=>cStr r_33 fun b_19 r_34=>cBs r_34 fun b_20 r_35=>cStr r_35 fun b_21 r_36=>cStr r_36 fun b_22 r_37=>cBs r_37 fun b_23 r_38=>cStr r_38 fun b_24 r_39=>let t8:Bool:=t6&&l63 b_21&&l63 b_22&&l63 b_24&&true;cSl 9 r_39 fun b_25 r_40=>let t9:Wj:=Wf (Yj b_24 (Yu Yw b_25)) [] Kerb.noIssue false;let t10:AV:=Yv (Zz b_24::Zh 9 b_25::Zf []::t1);let t11:AV:=Yv (Zz b_24::Zh 9 b_25::Zf (Xv (Zx (Zn n 10 [])))::t1);let t12:AV:=Yv (Zz b_24::Zh 9 b_25::Zf (Xv (Zx (Zn n 3 [])))::t1);cInt .i64 r_40 fun n_12 r_41=>let t13:Kerb.Svc:=Kerb.svc (Yj b_24 (Yu Yw b_25)) (Yu Kerb.toCross []) b_21 b_22 n_12;cInt .i64 r_41 fun n_13 r_42=>cInt .i64 r_42 fun n_14 r_43=>cInt .u64 r_43 fun n_15 r_44=>let t14:List (List AV):=[[Zy .i64 n,Zz b_16,Zz b_17,Zz b_18,Zy .i64 n_11,Zz b_19,Zf b_20,Zz b_21,Zz b_22,Zf b_23,Zz b_24,Zh 9 b_25,Zy .i64 n_12,Zy .i64 n_13,Zy .i64 n_14,Zy .u64 n_15]];let t17:Option (AV×Blocks):=chk (decide (0≤n_15)&&decide (n_15<18446744073709551616)) (some (Zy .i64 (Wm n_15),[]));let t15:Option (AV×Blocks):=sel (!Xu (Zx (Zn n 3 []))==0) (some (t10,t14)) (some (t12,t14));let t16:Option (AV×Blocks):=sel (!Xu (Zx (Zn n 10 []))==0) (some (t10,t14)) (some (t11,t14));onNil r_44 (onNilB r_28 (AV.onTup (Yf r) fun vs=>onCons vs fun x r=>Xz x fun cs=>cStr cs fun b_26 r_45=>cInt .i64 r_45 fun n_16 r_46=>cInt .i64 r_46 fun n_17 r_47=>cInt .i64 r_47 fun n_18 r_48=>let t19:List AV:=[Zy .i64 n_18,Zy .i64 (Wb n_9 n_8)];let t18:Nat:=Zp t19;cInt .u64 r_48 fun n_19 r_49=>onNil r_49 (cInt .i64 r fun n_20 r=>onNil r (sel (!n_20==0) (sel (!Xu (Zx (Zn n n_20 []))==0) (some (t10,t14)) (some (Yv (Zz b_24::Zh 9 b_25::Zf (Xv (Zx (Zn n n_20 [])))::t1),t14))) (Zd (chk (Wx b_25 Xg&&decide (Zp b_25≤1000000)&&true&&true&&l63 b_22) (some (Xj [Zy .u64 (Kerb.Svc.key t13),Zy .i64 (Kerb.Svc.kvno t13),Zy .i64 (Kerb.Svc.life t13),Zy .i64 (Kerb.Svc.expires t13),Zy .i64 (Kerb.Svc.err t13)],[]))) (kT fun vs=>cInt .u64 vs fun n_21 r=>let t20:Bool:=t8&&Wz n_15&&Wz n_7&&Wz n_21&&Wz n_7&&Wx b_25 Xg&&Wx b_25 Xg&&decide (0≤n_16)&&decide (n_16≤4294967295);cInt .i64 r fun n_22 r=>cInt .i64 r fun n_23 r=>cInt .i64 r fun n_24 r=>cInt .i64 r fun n_25 r=>onNil r (sel (!n_25==0) (sel (!Xu (Zx (Zn n n_25 []))==0) (some (t10,t14)) (some (Yv (Zz b_24::Zh 9 b_25::Zf (Xv (Zx (Zn n n_25 [])))::t1),t14))) (chk (decide (0<(↑(Zp [Zy .i64 n_24]):Int))&&true) (AV.onInt .i64 (Wq [Zy .i64 n_24] (Wh 0) Vz) fun n_26=>sel (!n_26==0) (chk (room (t18+Zp [Zy .i64 n_26]) (nat_lit 8)) (Zd (chk (decide (Zp (t19++[Zy .i64 n_26])≤1000000)&&Wx [n_18,Wb n_9 n_8,n_26] Vv) (some (Xj [Zy .i64 (Yf (Yg n_12 n_23 [n_18,Wb n_9 n_8,n_26])),Yy (Yk (Yg n_12 n_23 [n_18,Wb n_9 n_8,n_26]))],[]))) (kT fun vs=>cInt .i64 vs fun n_27 r=>let t25:Kerb.Bytes×Yh×Bool:=Vk n t0 n_16 b_24 (Yd b b_10 b_11) (Yd b_21 b_22 b_24) n_6 n_12 n_27 n_15 n_7 n_21 n_22 4 n_7;let t24:Yh×Bool:=Yk t25;let t23:Bool:=Yk t24;let t22:Wj:=if t23=true then Wf (Yj b_24 (Yu Yw b_25)) (Yf t25) (Yf t24) true else t9;let t21:Yh:=Xb t22;cBool r fun b r=>onNil r (sel (!b) t15 (Zd t17 (kI .i64 fun n=>sel (!n==2) t16 (Zd (chk t20 (some (Yv [Zz (Xn (Yq t22)),Zh 9 (Yu Zm (Xw (Yq t22))),Zf (Xq t22),Zy .i64 (Xf t21),Zz (Zj (Zu t21)),Zz (Zk (Zu t21)),Zz (Zv (Zu t21)),Zz (Zj (Zq t21)),Zz (Zk (Zq t21)),Zz (Zv (Zq t21)),Zz (Zj (Zw t21)),Zz (Zk (Zw t21)),Zz (Zv (Zw t21)),Zy .u64 (Yb t21),Zy .u64 (Xy t21),Zy .u64 (Yn t21),Zf (Xp t21),Zy .i64 (Xx t21),Zy .i64 (Xd t21),Yy (Ww t22)],t14))) fun (r:AV×Blocks)=>onConsB (Yk r) fun (x:List AV) (r_50:List (List AV))=>cInt .i64 x fun n r_51=>cStr r_51 fun b r_52=>cStr r_52 fun b_27 r_53=>cStr r_53 fun b_28 r_54=>cInt .i64 r_54 fun n_28 r_55=>cStr r_55 fun b_29 r_56=>cBs r_56 fun b_30 r_57=>cStr r_57 fun b_31 r_58=>cStr r_58 fun b_32 r_59=>cBs r_59 fun b_33 r_60=>cStr r_60 fun b_34 r_61=>cSl 9 r_61 fun b_35 r_62=>cInt .i64 r_62 fun n_29 r_63=>cInt .i64 r_63 fun n_30 r_64=>cInt .i64 r_64 fun n_31 r_65=>cInt .u64 r_65 fun n_32 r_66=>onNil r_66 (onNilB r_50 (Xz (Yf r) fun cs=>cStr cs fun b_36 r=>cSl 9 r fun b_37 r=>cBs r fun b_38 r=>cInt .i64 r fun n_33 r=>cStr r fun b_39 r=>cStr r fun b_40 r=>cStr r fun b_41 r=>cStr r fun b_42 r=>cStr r fun b_43 r=>cStr r fun b_44 r=>cStr r fun b_45 r=>cStr r fun b_46 r=>cStr r fun b_47 r=>cInt .u64 r fun n_34 r=>cInt .u64 r fun n_35 r=>cInt .u64 r fun n_36 r=>cBs r fun b_48 r=>cInt .i64 r fun n_37 r=>cInt .i64 r fun n_38 r=>cBool r fun b_49 r=>onNil r (some (Yv [Zz b_36,Zh 9 b_37,Zf b_38,Zy .i64 n_33,Zz b_39,Zz b_40,Zz b_41,Zz b_42,Zz b_43,Zz b_44,Zz b_45,Zz b_46,Zz b_47,Zy .u64 n_34,Zy .u64 n_35,Zy .u64 n_36,Zf b_48,Zy .i64 n_37,Zy .i64 n_38,Yy b_49],[[Zy .i64 n,Zz b,Zz b_27,Zz b_28,Zy .i64 n_28,Zz b_29,Zf b_30,Zz b_31,Zz b_32,Zf b_33,Zz b_34,Zh 9 b_35,Zy .i64 n_29,Zy .i64 n_30,Zy .i64 n_31,Zy .u64 n_32]]))))))))))) (Zd (chk (decide (t18≤1000000)&&Wx [n_18,Wb n_9 n_8] Vv) (some (Xj [Zy .i64 (Yf (Yg n_12 n_23 [n_18,Wb n_9 n_8])),Yy (Yk (Yg n_12 n_23 [n_18,Wb n_9 n_8]))],[]))) (kT fun vs=>cInt .i64 vs fun n_27 r=>let t30:Kerb.Bytes×Yh×Bool:=Vk n t0 n_16 b_24 (Yd b b_10 b_11) (Yd b_21 b_22 b_24) n_6 n_12 n_27 n_15 n_7 n_21 n_22 4 n_7;let t29:Yh×Bool:=Yk t30;let t28:Bool:=Yk t29;let t27:Wj:=if t28=true then Wf (Yj b_24 (Yu Yw b_25)) (Yf t30) (Yf t29) true else t9;let t26:Yh:=Xb t27;cBool r fun b r=>onNil r (sel (!b) t15 (Zd t17 (kI .i64 fun n=>sel (!n==2) t16 (Zd (chk t20 (some (Yv [Zz (Xn (Yq t27)),Zh 9 (Yu Zm (Xw (Yq t27))),Zf (Xq t27),Zy .i64 (Xf t26),Zz (Zj (Zu t26)),Zz (Zk (Zu t26)),Zz (Zv (Zu t26)),Zz (Zj (Zq t26)),Zz (Zk (Zq t26)),Zz (Zv (Zq t26)),Zz (Zj (Zw t26)),Zz (Zk (Zw t26)),Zz (Zv (Zw t26)),Zy .u64 (Yb t26),Zy .u64 (Xy t26),Zy .u64 (Yn t26),Zf (Xp t26),Zy .i64 (Xx t26),Zy .i64 (Xd t26),Yy (Ww t27)],t14))) fun (r:AV×Blocks)=>onConsB (Yk r) fun (x:List AV) (r_50:List (List AV))=>cInt .i64 x fun n r_51=>cStr r_51 fun b r_52=>cStr r_52 fun b_27 r_53=>cStr r_53 fun b_28 r_54=>cInt .i64 r_54 fun n_28 r_55=>cStr r_55 fun b_29 r_56=>cBs r_56 fun b_30 r_57=>cStr r_57 fun b_31 r_58=>cStr r_58 fun b_32 r_59=>cBs r_59 fun b_33 r_60=>cStr r_60 fun b_34 r_61=>cSl 9 r_61 fun b_35 r_62=>cInt .i64 r_62 fun n_29 r_63=>cInt .i64 r_63 fun n_30 r_64=>cInt .i64 r_64 fun n_31 r_65=>cInt .u64 r_65 fun n_32 r_66=>onNil r_66 (onNilB r_50 (Xz (Yf r) fun cs=>cStr cs fun b_36 r=>cSl 9 r fun b_37 r=>cBs r fun b_38 r=>cInt .i64 r fun n_33 r=>cStr r fun b_39 r=>cStr r fun b_40 r=>cStr r fun b_41 r=>cStr r fun b_42 r=>cStr r fun b_43 r=>cStr r fun b_44 r=>cStr r fun b_45 r=>cStr r fun b_46 r=>cStr r fun b_47 r=>cInt .u64 r fun n_34 r=>cInt .u64 r fun n_35 r=>cInt .u64 r fun n_36 r=>cBs r fun b_48 r=>cInt .i64 r fun n_37 r=>cInt .i64 r fun n_38 r=>cBool r fun b_49 r=>onNil r (some (Yv [Zz b_36,Zh 9 b_37,Zf b_38,Zy .i64 n_33,Zz b_39,Zz b_40,Zz b_41,Zz b_42,Zz b_43,Zz b_44,Zz b_45,Zz b_46,Zz b_47,Zy .u64 n_34,Zy .u64 n_35,Zy .u64 n_36,Zf b_48,Zy .i64 n_37,Zy .i64 n_38,Yy b_49],[[Zy .i64 n,Zz b,Zz b_27,Zz b_28,Zy .i64 n_28,Zz b_29,Zf b_30,Zz b_31,Zz b_32,Zf b_33,Zz b_34,Zh 9 b_35,Zy .i64 n_29,Zy .i64 n_30,Zy .i64 n_31,Zy .u64 n_32]]))))))))))))))))))))))))))):Option (AV×Blocks))) (by kernel_rfl) ?_
  delta kT kI
  try dsimp only [cStr,cBs,cBool,cU8,cInt,cSl,l63]
  simp only [Wp,decide_eq_true_eq] at hpre
  obtain ⟨⟨hpre,hop⟩,hn⟩:=hpre
  obtain ⟨⟨⟨⟨⟨⟨⟨⟨⟨⟨⟨c1,c2⟩,c3⟩,c4⟩,c5⟩,c6⟩,c7⟩,c8⟩,c9⟩,c10⟩,hall⟩,hlen⟩:=hpre
  subst hop
  obtain ⟨es,rfl,hok⟩:=Wn hall
  rw [Yp]
  simp only [Ym] at hlen
  have hlb:[(103:UInt8),(84:UInt8),(75:UInt8),(84:UInt8)]=Kerb.lTicket:=rfl
  have hlb2:[(116:UInt8),(107:UInt8),(116:UInt8),(71:UInt8)]=Kerb.lGiven:=rfl
  have bl:decide (bx.length≤140737488355328)=true:=by simp;omega
  have q8:=Kerb.isU64_iff.1 c8
  have q88:(decide (0≤se)&&decide (se<18446744073709551616))=true:=by simp;omega
  simp only [hlb,hlb2,Yp,hall,hn,Ym,hlen,bl,c1,c2,c3,c4,c5,c6,c7,c8,c9,c10,q88,decide_true,Xk,List.map_nil,↓A0,A0]
  unfold Kerb.kaGetTicket Kerb.kaLife2
  dsimp only
  have tb:=Kerb.presented_bd ⟨rl,es⟩ now ad sk ⟨2,⟨u1,u2,u3⟩,kv,qr,tk,sv,ins,bx⟩
  generalize Kerb.kaPresented ⟨rl,es⟩ now ad sk ⟨2,⟨u1,u2,u3⟩,kv,qr,tk,sv,ins,bx⟩=T at tb ⊢
  by_cases h1:T.err=0
  case neg =>
   rw [sel_pos (by simpa using h1),if_pos h1]
   by_cases hr:(Zx ⟨2,T.err,[]⟩).err=0
   ·rw [sel_neg (by simpa using hr)];rfl
   ·rw [sel_pos (by simpa using hr),Yz hr];rfl
  rw [sel_neg (by simpa using h1),if_neg (not_not_intro h1)]
  have ol:=Kerb.openBox_len bx 7 T.val.session
  generalize Vx bx 7 T.val.session=O at ol ⊢
  obtain ⟨bd,ok⟩:=O
  dsimp only at ol ⊢
  cases ok
  ·rw [sel_pos (by rfl),if_pos rfl]
   by_cases hr:(Zx ⟨2,31,[]⟩).err=0
   ·rw [sel_neg (by simpa using hr)];rfl
   ·rw [sel_pos (by simpa using hr),Yz hr];rfl
  rw [sel_neg (by rfl),if_neg (show ¬ (true=false) from by decide)]
  rw [chk_of (by simp;omega)]
  have sb:=Kerb.kaSecOf_bd bd Kerb.lTicket now sk
  generalize Vw bd Kerb.lTicket now sk=S at sb ⊢
  by_cases h3:S.err=0
  case neg =>
   rw [sel_pos (by simpa using h3),if_pos h3]
   by_cases hr:(Zx ⟨2,S.err,[]⟩).err=0
   ·rw [sel_neg (by simpa using hr)];rfl
   ·rw [sel_pos (by simpa using hr),Yz hr];rfl
  rw [sel_neg (by simpa using h3),if_neg (not_not_intro h3)]
  have vb:=Kerb.svc_ok (d:=⟨rl,es⟩) (n:=sv) (i:=ins) (now:=now) hok
  generalize Kerb.svc ⟨rl,es⟩ [] sv ins now=V at vb ⊢
  by_cases h2:V.err=0
  case neg =>
   rw [sel_pos (by simpa using h2),if_pos h2]
   by_cases hr:(Zx ⟨2,V.err,[]⟩).err=0
   ·rw [sel_neg (by simpa using hr)];rfl
   ·rw [sel_pos (by simpa using hr),Yz hr];rfl
  rw [sel_neg (by simpa using h2),if_neg (not_not_intro h2)]
  have t0:decide (0≤S.val.time)=true:=decide_eq_true sb.1.1
  have t1:decide (S.val.time≤4294967295)=true:=decide_eq_true sb.1.2
  have s1:Vv S.val.stop=true:=by rw [Kerb.isI64_iff];unfold Kerb.KaSecret.bd at sb;omega
  have s2:=Kerb.tEnd_i64 T.val.issued T.val.life
  have k1:decide (T.val.client.name.length≤9223372036854775807)=true:=decide_eq_true (Wk tb.1 (by decide))
  have k2:decide (T.val.client.inst.length≤9223372036854775807)=true:=decide_eq_true (Wk tb.2.1 (by decide))
  have k3:decide (T.val.client.realm.length≤9223372036854775807)=true:=decide_eq_true (Wk tb.2.2.1 (by decide))
  try simp only [k1,k2,k3,Xk,Bool.true_and]
  have g0:Wq [Zy Yx V.expires] (Wh 0) Vz=Zy Yx V.expires:=rfl
  rw [chk_of (by rfl),g0,onInt_int]
  by_cases hv:V.expires=0
  ·rw [sel_neg (by simp [hv])]
   rw [chk_of (by simp [s1,s2,vb.2.2.2]),show Wu [S.val.stop,Wb T.val.issued T.val.life] V.expires=[S.val.stop,Wb T.val.issued T.val.life] from by simp [Wu,hv]]
   generalize Yg now V.life [S.val.stop,Wb T.val.issued T.val.life]=L
   obtain ⟨life,ok⟩:=L
   dsimp only
   cases ok
   ·rw [sel_pos (by rfl),if_pos rfl]
    by_cases hr:(Zx ⟨2,3,[]⟩).err=0
    ·rw [sel_neg (by simpa using hr)];rfl
    ·rw [sel_pos (by simpa using hr),Yz hr];rfl
   rw [sel_neg (by rfl),if_neg (show ¬ (true=false) from by decide)]
   by_cases h5:Wm se=2
   case neg =>
    rw [sel_pos (by simpa using h5),if_pos h5]
    by_cases hr:(Zx ⟨2,10,[]⟩).err=0
    ·rw [sel_neg (by simpa using hr)];rfl
    ·rw [sel_pos (by simpa using hr),Yz hr];rfl
   rw [sel_neg (by simpa using h5),if_neg (not_not_intro h5),chk_of (by rw [tb.2.2.2,vb.1,t0,t1];rfl)]
   rw [Kerb.kaGive_out]
  ·rw [sel_pos (by simpa using hv),chk_of (by rfl)]
   rw [chk_of (by simp [s1,s2,vb.2.2.2]),show Wu [S.val.stop,Wb T.val.issued T.val.life] V.expires=[S.val.stop,Wb T.val.issued T.val.life,V.expires] from by simp [Wu,hv]]
   generalize Yg now V.life [S.val.stop,Wb T.val.issued T.val.life,V.expires]=L
   obtain ⟨life,ok⟩:=L
   dsimp only
   cases ok
   ·rw [sel_pos (by rfl),if_pos rfl]
    by_cases hr:(Zx ⟨2,3,[]⟩).err=0
    ·rw [sel_neg (by simpa using hr)];rfl
    ·rw [sel_pos (by simpa using hr),Yz hr];rfl
   rw [sel_neg (by rfl),if_neg (show ¬ (true=false) from by decide)]
   by_cases h5:Wm se=2
   case neg =>
    rw [sel_pos (by simpa using h5),if_pos h5]
    by_cases hr:(Zx ⟨2,10,[]⟩).err=0
    ·rw [sel_neg (by simpa using hr)];rfl
    ·rw [sel_pos (by simpa using hr),Yz hr];rfl
   rw [sel_neg (by simpa using h5),if_neg (not_not_intro h5),chk_of (by rw [tb.2.2.2,vb.1,t0,t1];rfl)]
   rw [Kerb.kaGive_out]
 ·cases h
theorem w159:Walked Tryz.prog G 159 13 sp159:=by
 refine ⟨Tryz.f159,Tryz.func159,by decide +kernel,rfl,fun xs bl r h=> ?_⟩
 unfold sp159 at h
 split at h
 ·rename_i dr dls en ei ek ev ex em ea ef et bd op u1 u2 u3 kv qr tk sv ins bx rl els now ad sk se
  obtain ⟨hpre,h2⟩:=chk_inv h;cases h2
  show runFnH (G.env 159 13) G.rts (G.own 159) Tryz.f159 _ _ [0]=_
  refine Eq.trans (b:=(let t0:List UInt8:=[(107:UInt8),(114:UInt8),(98:UInt8),(116:UInt8),(103:UInt8),(116:UInt8)];let t1:List UInt8:=[(116:UInt8),(103:UInt8),(115:UInt8),(84:UInt8)];let t2:List AV:=[Zy .i64 0,Zz [],Zz [],Zz [],Zz [],Zz [],Zz [],Zz [],Zz [],Zz [],Zy .u64 0,Zy .u64 0,Zy .u64 0,Zf [],Zy .i64 0,Zy .i64 0,Yy false];let t4:Kerb.Dec Vg:=Vw bd [(103:UInt8),(84:UInt8),(71:UInt8),(83:UInt8)] now sk;let t3:Vg:=Zg t4;Zd (chk (decide (Zp bd≤1000000)) (some (Xj [Yv [Zz (Kerb.KaSecret.label t3),Zy .i64 (Kerb.KaSecret.time t3),Zy .i64 (Kerb.KaSecret.start t3),Zy .i64 (Kerb.KaSecret.stop t3),Zy .u64 (Kerb.KaSecret.new t3)],Zy .i64 (Wg t4)],[[Zy .i64 op,Zz u1,Zz u2,Zz u3,Zy .i64 kv,Zz qr,Zf tk,Zz sv,Zz ins,Zf bx,Zz rl,Zh 9 els,Zy .i64 now,Zy .i64 ad,Zy .i64 sk,Zy .u64 se]]))) fun (r:AV×Blocks)=>onConsB (Yk r) fun (x:List AV) (r_1:List (List AV))=>cInt .i64 x fun n r_2=>let t5:Bool := !Xu (Zx (Zn n 10 []))==0;let t6:Bool := !Xu (Zx (Zn n 3 []))==0;let t7:List AV:=Zf (Xv (Zx (Zn n 3 [])))::t2;let t8:List AV:=Zf (Xv (Zx (Zn n 10 [])))::t2;cStr r_2 fun b r_3=>cStr r_3 fun b_1 r_4=>let t9:Bool:=l63 b&&l63 b_1;cStr r_4 fun b_2 r_5=>let t10:Bool:=t9&&l63 b_2&&true;cInt .i64 r_5 fun n_1 r_6=>cStr r_6 fun b_3 r_7=>cBs r_7 fun b_4 r_8=>cStr r_8 fun b_5 r_9=>cStr r_9 fun b_6 r_10=>cBs r_10 fun b_7 r_11=>cStr r_11 fun b_8 r_12=>let t11:Bool:=t10&&l63 b_8&&l63 b_8&&true;cSl 9 r_12 fun b_9 r_13=>let t12:Wj:=Wf (Yj b_8 (Yu Yw b_9)) [] Kerb.noIssue false;let t13:AV:=Yv (Zz b_8::Zh 9 b_9::Zf []::t2);let t14:AV:=Yv (Zz b_8::Zh 9 b_9::t7);let t15:AV:=Yv (Zz b_8::Zh 9 b_9::t8);cInt .i64 r_13 fun n_2 r_14=>let t16:Kerb.Svc:=Kerb.svc (Yj b_8 (Yu Yw b_9)) (Yu Kerb.toCross []) t0 b_8 n_2;cInt .i64 r_14 fun n_3 r_15=>cInt .i64 r_15 fun n_4 r_16=>cInt .u64 r_16 fun n_5 r_17=>let t17:List (List AV):=[[Zy .i64 n,Zz b,Zz b_1,Zz b_2,Zy .i64 n_1,Zz b_3,Zf b_4,Zz b_5,Zz b_6,Zf b_7,Zz b_8,Zh 9 b_9,Zy .i64 n_2,Zy .i64 n_3,Zy .i64 n_4,Zy .u64 n_5]];let t18:Option (AV×Blocks):=chk (decide (0≤n_5)&&decide (n_5<18446744073709551616)) (some (Zy .i64 (Wm n_5),[]));let t21:Bool:=t11&&Wz n_5&&Wz ek;let t19:Option (AV×Blocks):=sel t6 (some (t13,t17)) (some (t14,t17));let t20:Option (AV×Blocks):=sel t5 (some (t13,t17)) (some (t15,t17));onNil r_17 (onNilB r_1 (AV.onTup (Yf r) fun vs=>onCons vs fun x r=>Xz x fun cs=>cStr cs fun b_10 r_18=>cInt .i64 r_18 fun n_6 r_19=>cInt .i64 r_19 fun n_7 r_20=>cInt .i64 r_20 fun n_8 r_21=>cInt .u64 r_21 fun n_9 r_22=>onNil r_22 (cInt .i64 r fun n_10 r=>onNil r (sel (!n_10==0) (sel (!Xu (Zx (Zn n n_10 []))==0) (some (t13,t17)) (some (Yv (Zz b_8::Zh 9 b_9::Zf (Xv (Zx (Zn n n_10 [])))::t2),t17))) (Zd (chk (Wx b_9 Xg&&decide (Zp b_9≤1000000)&&true&&true&&l63 b_8) (some (Xj [Zy .u64 (Kerb.Svc.key t16),Zy .i64 (Kerb.Svc.kvno t16),Zy .i64 (Kerb.Svc.life t16),Zy .i64 (Kerb.Svc.expires t16),Zy .i64 (Kerb.Svc.err t16)],[]))) (kT fun vs=>cInt .u64 vs fun n_11 r=>let t22:Bool:=t21&&Wz n_11&&true&&Wx b_9 Xg&&Wx dls Xg&&decide (0≤n_6)&&decide (n_6≤4294967295);cInt .i64 r fun n_12 r=>cInt .i64 r fun n_13 r=>cInt .i64 r fun n_14 r=>let t25:List AV:=[Zy .i64 ex,Zy .i64 n_14];let t23:Int:=(↑(Zp t25):Int);let t24:AV:=Wq t25 (Wh (Wv .i64 (0+1))) Vz;cInt .i64 r fun n_15 r=>onNil r (sel (!n_15==0) (sel (!Xu (Zx (Zn n n_15 []))==0) (some (t13,t17)) (some (Yv (Zz b_8::Zh 9 b_9::Zf (Xv (Zx (Zn n n_15 [])))::t2),t17))) (chk (decide (0<t23)&&true) (AV.onInt .i64 (Wq t25 (Wh 0) Vz) fun n_16=>let t27:List AV:=[Zy .i64 n_8]++[Zy .i64 n_16];let t26:Nat:=Zp t27;sel (!n_16==0) (chk (room (Zp [Zy .i64 n_8]+Zp [Zy .i64 n_16]) (nat_lit 8)) (chk (decide (Wv .i64 (0+1)<t23)&&true) (AV.onInt .i64 t24 fun n_17=>sel (!n_17==0) (chk (room (t26+Zp [Zy .i64 n_17]) (nat_lit 8)) (Zd (chk (decide (Zp (t27++[Zy .i64 n_17])≤1000000)&&Wx [n_8,n_16,n_17] Vv) (some (Xj [Zy .i64 (Yf (Yg n_2 (Vy em n_13) [n_8,n_16,n_17])),Yy (Yk (Yg n_2 (Vy em n_13) [n_8,n_16,n_17]))],[]))) (kT fun vs=>cInt .i64 vs fun n_18 r=>let t32:Kerb.Bytes×Yh×Bool:=Vk n t1 n_6 b_8 (Yd b b_1 b_2) (Yd t0 b_8 b_8) n_3 n_2 n_18 n_5 ek n_11 n_12 3 0;let t31:Yh×Bool:=Yk t32;let t30:Bool:=Yk t31;let t29:Wj:=if t30=true then Wf (Yj dr (Yu Yw dls)) (Yf t32) (Yf t31) true else t12;let t28:Yh:=Xb t29;cBool r fun b r=>onNil r (sel (!b) t19 (Zd t18 (kI .i64 fun n=>sel (!n==2) t20 (Zd (chk t22 (some (Yv [Zz (Xn (Yq t29)),Zh 9 (Yu Zm (Xw (Yq t29))),Zf (Xq t29),Zy .i64 (Xf t28),Zz (Zj (Zu t28)),Zz (Zk (Zu t28)),Zz (Zv (Zu t28)),Zz (Zj (Zq t28)),Zz (Zk (Zq t28)),Zz (Zv (Zq t28)),Zz (Zj (Zw t28)),Zz (Zk (Zw t28)),Zz (Zv (Zw t28)),Zy .u64 (Yb t28),Zy .u64 (Xy t28),Zy .u64 (Yn t28),Zf (Xp t28),Zy .i64 (Xx t28),Zy .i64 (Xd t28),Yy (Ww t29)],t17))) fun (r:AV×Blocks)=>onConsB (Yk r) fun (x:List AV) (r_23:List (List AV))=>cInt .i64 x fun n r_24=>cStr r_24 fun b r_25=>cStr r_25 fun b_11 r_26=>cStr r_26 fun b_12 r_27=>cInt .i64 r_27 fun n_19 r_28=>cStr r_28 fun b_13 r_29=>cBs r_29 fun b_14 r_30=>cStr r_30 fun b_15 r_31=>cStr r_31 fun b_16 r_32=>cBs r_32 fun b_17 r_33=>cStr r_33 fun b_18 r_34=>cSl 9 r_34 fun b_19 r_35=>cInt .i64 r_35 fun n_20 r_36=>cInt .i64 r_36 fun n_21 r_37=>cInt .i64 r_37 fun n_22 r_38=>cInt .u64 r_38 fun n_23 r_39=>onNil r_39 (onNilB r_23 (Xz (Yf r) fun cs=>cStr cs fun b_20 r=>cSl 9 r fun b_21 r=>cBs r fun b_22 r=>cInt .i64 r fun n_24 r=>cStr r fun b_23 r=>cStr r fun b_24 r=>cStr r fun b_25 r=>cStr r fun b_26 r=>cStr r fun b_27 r=>cStr r fun b_28 r=>cStr r fun b_29 r=>cStr r fun b_30 r=>cStr r fun b_31 r=>cInt .u64 r fun n_25 r=>cInt .u64 r fun n_26 r=>cInt .u64 r fun n_27 r=>cBs r fun b_32 r=>cInt .i64 r fun n_28 r=>cInt .i64 r fun n_29 r=>cBool r fun b_33 r=>onNil r (some (Yv [Zz b_20,Zh 9 b_21,Zf b_22,Zy .i64 n_24,Zz b_23,Zz b_24,Zz b_25,Zz b_26,Zz b_27,Zz b_28,Zz b_29,Zz b_30,Zz b_31,Zy .u64 n_25,Zy .u64 n_26,Zy .u64 n_27,Zf b_32,Zy .i64 n_28,Zy .i64 n_29,Yy b_33],[[Zy .i64 n,Zz b,Zz b_11,Zz b_12,Zy .i64 n_19,Zz b_13,Zf b_14,Zz b_15,Zz b_16,Zf b_17,Zz b_18,Zh 9 b_19,Zy .i64 n_20,Zy .i64 n_21,Zy .i64 n_22,Zy .u64 n_23]]))))))))))) (Zd (chk (decide (t26≤1000000)&&Wx [n_8,n_16] Vv) (some (Xj [Zy .i64 (Yf (Yg n_2 (Vy em n_13) [n_8,n_16])),Yy (Yk (Yg n_2 (Vy em n_13) [n_8,n_16]))],[]))) (kT fun vs=>cInt .i64 vs fun n_18 r=>let t37:Kerb.Bytes×Yh×Bool:=Vk n t1 n_6 b_8 (Yd b b_1 b_2) (Yd t0 b_8 b_8) n_3 n_2 n_18 n_5 ek n_11 n_12 3 0;let t36:Yh×Bool:=Yk t37;let t35:Bool:=Yk t36;let t34:Wj:=if t35=true then Wf (Yj dr (Yu Yw dls)) (Yf t37) (Yf t36) true else t12;let t33:Yh:=Xb t34;cBool r fun b r=>onNil r (sel (!b) t19 (Zd t18 (kI .i64 fun n=>sel (!n==2) t20 (Zd (chk t22 (some (Yv [Zz (Xn (Yq t34)),Zh 9 (Yu Zm (Xw (Yq t34))),Zf (Xq t34),Zy .i64 (Xf t33),Zz (Zj (Zu t33)),Zz (Zk (Zu t33)),Zz (Zv (Zu t33)),Zz (Zj (Zq t33)),Zz (Zk (Zq t33)),Zz (Zv (Zq t33)),Zz (Zj (Zw t33)),Zz (Zk (Zw t33)),Zz (Zv (Zw t33)),Zy .u64 (Yb t33),Zy .u64 (Xy t33),Zy .u64 (Yn t33),Zf (Xp t33),Zy .i64 (Xx t33),Zy .i64 (Xd t33),Yy (Ww t34)],t17))) fun (r:AV×Blocks)=>onConsB (Yk r) fun (x:List AV) (r_23:List (List AV))=>cInt .i64 x fun n r_24=>cStr r_24 fun b r_25=>cStr r_25 fun b_11 r_26=>cStr r_26 fun b_12 r_27=>cInt .i64 r_27 fun n_19 r_28=>cStr r_28 fun b_13 r_29=>cBs r_29 fun b_14 r_30=>cStr r_30 fun b_15 r_31=>cStr r_31 fun b_16 r_32=>cBs r_32 fun b_17 r_33=>cStr r_33 fun b_18 r_34=>cSl 9 r_34 fun b_19 r_35=>cInt .i64 r_35 fun n_20 r_36=>cInt .i64 r_36 fun n_21 r_37=>cInt .i64 r_37 fun n_22 r_38=>cInt .u64 r_38 fun n_23 r_39=>onNil r_39 (onNilB r_23 (Xz (Yf r) fun cs=>cStr cs fun b_20 r=>cSl 9 r fun b_21 r=>cBs r fun b_22 r=>cInt .i64 r fun n_24 r=>cStr r fun b_23 r=>cStr r fun b_24 r=>cStr r fun b_25 r=>cStr r fun b_26 r=>cStr r fun b_27 r=>cStr r fun b_28 r=>cStr r fun b_29 r=>cStr r fun b_30 r=>cStr r fun b_31 r=>cInt .u64 r fun n_25 r=>cInt .u64 r fun n_26 r=>cInt .u64 r fun n_27 r=>cBs r fun b_32 r=>cInt .i64 r fun n_28 r=>cInt .i64 r fun n_29 r=>cBool r fun b_33 r=>onNil r (some (Yv [Zz b_20,Zh 9 b_21,Zf b_22,Zy .i64 n_24,Zz b_23,Zz b_24,Zz b_25,Zz b_26,Zz b_27,Zz b_28,Zz b_29,Zz b_30,Zz b_31,Zy .u64 n_25,Zy .u64 n_26,Zy .u64 n_27,Zf b_32,Zy .i64 n_28,Zy .i64 n_29,Yy b_33],[[Zy .i64 n,Zz b,Zz b_11,Zz b_12,Zy .i64 n_19,Zz b_13,Zf b_14,Zz b_15,Zz b_16,Zf b_17,Zz b_18,Zh 9 b_19,Zy .i64 n_20,Zy .i64 n_21,Zy .i64 n_22,Zy .u64 n_23]]))))))))))))) (chk (decide (Wv .i64 (0+1)<t23)&&true) (AV.onInt .i64 t24 fun n_17=>sel (!n_17==0) (chk (room (Zp [Zy .i64 n_8]+Zp [Zy .i64 n_17]) (nat_lit 8)) (Zd (chk (decide (Zp ([Zy .i64 n_8]++[Zy .i64 n_17])≤1000000)&&Wx [n_8,n_17] Vv) (some (Xj [Zy .i64 (Yf (Yg n_2 (Vy em n_13) [n_8,n_17])),Yy (Yk (Yg n_2 (Vy em n_13) [n_8,n_17]))],[]))) (kT fun vs=>cInt .i64 vs fun n_18 r=>let t42:Kerb.Bytes×Yh×Bool:=Vk n t1 n_6 b_8 (Yd b b_1 b_2) (Yd t0 b_8 b_8) n_3 n_2 n_18 n_5 ek n_11 n_12 3 0;let t41:Yh×Bool:=Yk t42;let t40:Bool:=Yk t41;let t39:Wj:=if t40=true then Wf (Yj dr (Yu Yw dls)) (Yf t42) (Yf t41) true else t12;let t38:Yh:=Xb t39;cBool r fun b r=>onNil r (sel (!b) t19 (Zd t18 (kI .i64 fun n=>sel (!n==2) t20 (Zd (chk t22 (some (Yv [Zz (Xn (Yq t39)),Zh 9 (Yu Zm (Xw (Yq t39))),Zf (Xq t39),Zy .i64 (Xf t38),Zz (Zj (Zu t38)),Zz (Zk (Zu t38)),Zz (Zv (Zu t38)),Zz (Zj (Zq t38)),Zz (Zk (Zq t38)),Zz (Zv (Zq t38)),Zz (Zj (Zw t38)),Zz (Zk (Zw t38)),Zz (Zv (Zw t38)),Zy .u64 (Yb t38),Zy .u64 (Xy t38),Zy .u64 (Yn t38),Zf (Xp t38),Zy .i64 (Xx t38),Zy .i64 (Xd t38),Yy (Ww t39)],t17))) fun (r:AV×Blocks)=>onConsB (Yk r) fun (x:List AV) (r_23:List (List AV))=>cInt .i64 x fun n r_24=>cStr r_24 fun b r_25=>cStr r_25 fun b_11 r_26=>cStr r_26 fun b_12 r_27=>cInt .i64 r_27 fun n_19 r_28=>cStr r_28 fun b_13 r_29=>cBs r_29 fun b_14 r_30=>cStr r_30 fun b_15 r_31=>cStr r_31 fun b_16 r_32=>cBs r_32 fun b_17 r_33=>cStr r_33 fun b_18 r_34=>cSl 9 r_34 fun b_19 r_35=>cInt .i64 r_35 fun n_20 r_36=>cInt .i64 r_36 fun n_21 r_37=>cInt .i64 r_37 fun n_22 r_38=>cInt .u64 r_38 fun n_23 r_39=>onNil r_39 (onNilB r_23 (Xz (Yf r) fun cs=>cStr cs fun b_20 r=>cSl 9 r fun b_21 r=>cBs r fun b_22 r=>cInt .i64 r fun n_24 r=>cStr r fun b_23 r=>cStr r fun b_24 r=>cStr r fun b_25 r=>cStr r fun b_26 r=>cStr r fun b_27 r=>cStr r fun b_28 r=>cStr r fun b_29 r=>cStr r fun b_30 r=>cStr r fun b_31 r=>cInt .u64 r fun n_25 r=>cInt .u64 r fun n_26 r=>cInt .u64 r fun n_27 r=>cBs r fun b_32 r=>cInt .i64 r fun n_28 r=>cInt .i64 r fun n_29 r=>cBool r fun b_33 r=>onNil r (some (Yv [Zz b_20,Zh 9 b_21,Zf b_22,Zy .i64 n_24,Zz b_23,Zz b_24,Zz b_25,Zz b_26,Zz b_27,Zz b_28,Zz b_29,Zz b_30,Zz b_31,Zy .u64 n_25,Zy .u64 n_26,Zy .u64 n_27,Zf b_32,Zy .i64 n_28,Zy .i64 n_29,Yy b_33],[[Zy .i64 n,Zz b,Zz b_11,Zz b_12,Zy .i64 n_19,Zz b_13,Zf b_14,Zz b_15,Zz b_16,Zf b_17,Zz b_18,Zh 9 b_19,Zy .i64 n_20,Zy .i64 n_21,Zy .i64 n_22,Zy .u64 n_23]]))))))))))) (Zd (chk (decide (Zp [Zy .i64 n_8]≤1000000)&&Wx [n_8] Vv) (some (Xj [Zy .i64 (Yf (Yg n_2 (Vy em n_13) [n_8])),Yy (Yk (Yg n_2 (Vy em n_13) [n_8]))],[]))) (kT fun vs=>cInt .i64 vs fun n_18 r=>let t47:Kerb.Bytes×Yh×Bool:=Vk n t1 n_6 b_8 (Yd b b_1 b_2) (Yd t0 b_8 b_8) n_3 n_2 n_18 n_5 ek n_11 n_12 3 0;let t46:Yh×Bool:=Yk t47;let t45:Bool:=Yk t46;let t44:Wj:=if t45=true then Wf (Yj dr (Yu Yw dls)) (Yf t47) (Yf t46) true else t12;let t43:Yh:=Xb t44;cBool r fun b r=>onNil r (sel (!b) t19 (Zd t18 (kI .i64 fun n=>sel (!n==2) t20 (Zd (chk t22 (some (Yv [Zz (Xn (Yq t44)),Zh 9 (Yu Zm (Xw (Yq t44))),Zf (Xq t44),Zy .i64 (Xf t43),Zz (Zj (Zu t43)),Zz (Zk (Zu t43)),Zz (Zv (Zu t43)),Zz (Zj (Zq t43)),Zz (Zk (Zq t43)),Zz (Zv (Zq t43)),Zz (Zj (Zw t43)),Zz (Zk (Zw t43)),Zz (Zv (Zw t43)),Zy .u64 (Yb t43),Zy .u64 (Xy t43),Zy .u64 (Yn t43),Zf (Xp t43),Zy .i64 (Xx t43),Zy .i64 (Xd t43),Yy (Ww t44)],t17))) fun (r:AV×Blocks)=>onConsB (Yk r) fun (x:List AV) (r_23:List (List AV))=>cInt .i64 x fun n r_24=>cStr r_24 fun b r_25=>cStr r_25 fun b_11 r_26=>cStr r_26 fun b_12 r_27=>cInt .i64 r_27 fun n_19 r_28=>cStr r_28 fun b_13 r_29=>cBs r_29 fun b_14 r_30=>cStr r_30 fun b_15 r_31=>cStr r_31 fun b_16 r_32=>cBs r_32 fun b_17 r_33=>cStr r_33 fun b_18 r_34=>cSl 9 r_34 fun b_19 r_35=>cInt .i64 r_35 fun n_20 r_36=>cInt .i64 r_36 fun n_21 r_37=>cInt .i64 r_37 fun n_22 r_38=>cInt .u64 r_38 fun n_23 r_39=>onNil r_39 (onNilB r_23 (Xz (Yf r) fun cs=>cStr cs fun b_20 r=>cSl 9 r fun b_21 r=>cBs r fun b_22 r=>cInt .i64 r fun n_24 r=>cStr r fun b_23 r=>cStr r fun b_24 r=>cStr r fun b_25 r=>cStr r fun b_26 r=>cStr r fun b_27 r=>cStr r fun b_28 r=>cStr r fun b_29 r=>cStr r fun b_30 r=>cStr r fun b_31 r=>cInt .u64 r fun n_25 r=>cInt .u64 r fun n_26 r=>cInt .u64 r fun n_27 r=>cBs r fun b_32 r=>cInt .i64 r fun n_28 r=>cInt .i64 r fun n_29 r=>cBool r fun b_33 r=>onNil r (some (Yv [Zz b_20,Zh 9 b_21,Zf b_22,Zy .i64 n_24,Zz b_23,Zz b_24,Zz b_25,Zz b_26,Zz b_27,Zz b_28,Zz b_29,Zz b_30,Zz b_31,Zy .u64 n_25,Zy .u64 n_26,Zy .u64 n_27,Zf b_32,Zy .i64 n_28,Zy .i64 n_29,Yy b_33],[[Zy .i64 n,Zz b,Zz b_11,Zz b_12,Zy .i64 n_19,Zz b_13,Zf b_14,Zz b_15,Zz b_16,Zf b_17,Zz b_18,Zh 9 b_19,Zy .i64 n_20,Zy .i64 n_21,Zy .i64 n_22,Zy .u64 n_23]]))))))))))))))))))))):Option (AV×Blocks))) (by kernel_rfl) ?_
  delta kT kI
  try dsimp only [cStr,cBs,cBool,cU8,cInt,cSl,l63]
  simp only [Wp,decide_eq_true_eq] at hpre
  obtain ⟨⟨⟨⟨⟨⟨⟨hpre,hd⟩,hbl⟩,hop⟩,hn⟩,e1⟩,e2⟩,e3⟩:=hpre
  obtain ⟨⟨⟨⟨⟨⟨⟨⟨⟨⟨⟨c1,c2⟩,c3⟩,c4⟩,c5⟩,c6⟩,c7⟩,c8⟩,c9⟩,c10⟩,hall⟩,hlen⟩:=hpre
  obtain ⟨es,rfl,hok⟩:=Wn hall
  obtain ⟨ds,rfl,hok2⟩:=Wn hd
  rw [Yp,Yp]
  simp only [Ym] at hlen
  have hkr:[(107:UInt8),(114:UInt8),(98:UInt8),(116:UInt8),(103:UInt8),(116:UInt8)]=Vj:=rfl
  have hlb:[(103:UInt8),(84:UInt8),(71:UInt8),(83:UInt8)]=Kerb.lGet:=rfl
  have hlb2:[(116:UInt8),(103:UInt8),(115:UInt8),(84:UInt8)]=Kerb.lGot:=rfl
  have q8:=Kerb.isU64_iff.1 c8
  have q88:(decide (0≤se)&&decide (se<18446744073709551616))=true:=by simp;omega
  simp only [hkr,hlb,hlb2,Yp,hall,hd,Ym,hlen,hbl,c1,c2,c3,c4,c5,c6,c7,c8,e1,q88,decide_true,Xk,List.map_nil,↓A0,A0]
  unfold Kerb.kaAuthenticate Kerb.kaLife1
  dsimp only
  have sb:=Kerb.kaSecOf_bd bd Kerb.lGet now sk
  generalize Vw bd Kerb.lGet now sk=S at sb ⊢
  by_cases h1:S.err=0
  case neg =>
   rw [sel_pos (by simpa using h1),if_pos h1]
   by_cases hr:(Zx ⟨op,S.err,[]⟩).err=0
   ·rw [sel_neg (by simpa using hr)];rfl
   ·rw [sel_pos (by simpa using hr),Yz hr];rfl
  rw [sel_neg (by simpa using h1),if_neg (not_not_intro h1)]
  have vb:=Kerb.svc_ok (d:=⟨rl,es⟩) (n:=Vj) (i:=rl) (now:=now) hok
  generalize Kerb.svc ⟨rl,es⟩ [] Vj rl now=V at vb ⊢
  by_cases h2:V.err=0
  case neg =>
   rw [sel_pos (by simpa using h2),if_pos h2]
   by_cases hr:(Zx ⟨op,V.err,[]⟩).err=0
   ·rw [sel_neg (by simpa using hr)];rfl
   ·rw [sel_pos (by simpa using hr),Yz hr];rfl
  rw [sel_neg (by simpa using h2),if_neg (not_not_intro h2)]
  have t0:decide (0≤S.val.time)=true:=decide_eq_true sb.1.1
  have t1:decide (S.val.time≤4294967295)=true:=decide_eq_true sb.1.2
  have s1:Vv S.val.stop=true:=by rw [Kerb.isI64_iff];unfold Kerb.KaSecret.bd at sb;omega
  have g0:Wq [Zy Yx ex,Zy Yx V.expires] (Wh 0) Vz=Zy Yx ex:=rfl
  have g1:Wq [Zy Yx ex,Zy Yx V.expires] (Wh (Wv .i64 (0+1))) Vz=Zy Yx V.expires:=rfl
  rw [chk_of (by rfl),g0,onInt_int]
  by_cases hx:ex=0
  ·rw [sel_neg (by simp [hx]),chk_of (by rfl),g1,onInt_int]
   by_cases hv:V.expires=0
   ·rw [sel_neg (by simp [hv])]
    rw [chk_of (by simp [s1,e3,vb.2.2.2]),show Wu (Wu [S.val.stop] ex) V.expires=[S.val.stop] from by simp [Wu,hx,hv]]
    generalize Yg now (Vy em V.life) [S.val.stop]=L
    obtain ⟨life,ok⟩:=L
    dsimp only
    cases ok
    ·rw [sel_pos (by rfl),if_pos rfl]
     by_cases hr:(Zx ⟨op,3,[]⟩).err=0
     ·rw [sel_neg (by simpa using hr)];rfl
     ·rw [sel_pos (by simpa using hr),Yz hr];rfl
    rw [sel_neg (by rfl),if_neg (show ¬ (true=false) from by decide)]
    by_cases h5:Wm se=2
    case neg =>
     rw [sel_pos (by simpa using h5),if_pos h5]
     by_cases hr:(Zx ⟨op,10,[]⟩).err=0
     ·rw [sel_neg (by simpa using hr)];rfl
     ·rw [sel_pos (by simpa using hr),Yz hr];rfl
    rw [sel_neg (by simpa using h5),if_neg (not_not_intro h5),chk_of (by rw [vb.1,t0,t1];rfl)]
    rfl
   ·rw [sel_pos (by simpa using hv),chk_of (by rfl)]
    rw [chk_of (by simp [s1,e3,vb.2.2.2]),show Wu (Wu [S.val.stop] ex) V.expires=[S.val.stop,V.expires] from by simp [Wu,hx,hv]]
    generalize Yg now (Vy em V.life) [S.val.stop,V.expires]=L
    obtain ⟨life,ok⟩:=L
    dsimp only
    cases ok
    ·rw [sel_pos (by rfl),if_pos rfl]
     by_cases hr:(Zx ⟨op,3,[]⟩).err=0
     ·rw [sel_neg (by simpa using hr)];rfl
     ·rw [sel_pos (by simpa using hr),Yz hr];rfl
    rw [sel_neg (by rfl),if_neg (show ¬ (true=false) from by decide)]
    by_cases h5:Wm se=2
    case neg =>
     rw [sel_pos (by simpa using h5),if_pos h5]
     by_cases hr:(Zx ⟨op,10,[]⟩).err=0
     ·rw [sel_neg (by simpa using hr)];rfl
     ·rw [sel_pos (by simpa using hr),Yz hr];rfl
    rw [sel_neg (by simpa using h5),if_neg (not_not_intro h5),chk_of (by rw [vb.1,t0,t1];rfl)]
    rfl
  ·rw [sel_pos (by simpa using hx),chk_of (by rfl),chk_of (by rfl),g1,onInt_int]
   by_cases hv:V.expires=0
   ·rw [sel_neg (by simp [hv])]
    rw [chk_of (by simp [s1,e3,vb.2.2.2]),show Wu (Wu [S.val.stop] ex) V.expires=[S.val.stop,ex] from by simp [Wu,hx,hv]]
    generalize Yg now (Vy em V.life) [S.val.stop,ex]=L
    obtain ⟨life,ok⟩:=L
    dsimp only
    cases ok
    ·rw [sel_pos (by rfl),if_pos rfl]
     by_cases hr:(Zx ⟨op,3,[]⟩).err=0
     ·rw [sel_neg (by simpa using hr)];rfl
     ·rw [sel_pos (by simpa using hr),Yz hr];rfl
    rw [sel_neg (by rfl),if_neg (show ¬ (true=false) from by decide)]
    by_cases h5:Wm se=2
    case neg =>
     rw [sel_pos (by simpa using h5),if_pos h5]
     by_cases hr:(Zx ⟨op,10,[]⟩).err=0
     ·rw [sel_neg (by simpa using hr)];rfl
     ·rw [sel_pos (by simpa using hr),Yz hr];rfl
    rw [sel_neg (by simpa using h5),if_neg (not_not_intro h5),chk_of (by rw [vb.1,t0,t1];rfl)]
    rfl
   ·rw [sel_pos (by simpa using hv),chk_of (by rfl)]
    rw [chk_of (by simp [s1,e3,vb.2.2.2]),show Wu (Wu [S.val.stop] ex) V.expires=[S.val.stop,ex,V.expires] from by simp [Wu,hx,hv]]
    generalize Yg now (Vy em V.life) [S.val.stop,ex,V.expires]=L
    obtain ⟨life,ok⟩:=L
    dsimp only
    cases ok
    ·rw [sel_pos (by rfl),if_pos rfl]
     by_cases hr:(Zx ⟨op,3,[]⟩).err=0
     ·rw [sel_neg (by simpa using hr)];rfl
     ·rw [sel_pos (by simpa using hr),Yz hr];rfl
    rw [sel_neg (by rfl),if_neg (show ¬ (true=false) from by decide)]
    by_cases h5:Wm se=2
    case neg =>
     rw [sel_pos (by simpa using h5),if_pos h5]
     by_cases hr:(Zx ⟨op,10,[]⟩).err=0
     ·rw [sel_neg (by simpa using hr)];rfl
     ·rw [sel_pos (by simpa using hr),Yz hr];rfl
    rw [sel_neg (by simpa using h5),if_neg (not_not_intro h5),chk_of (by rw [vb.1,t0,t1];rfl)]
    rfl
 ·cases h
theorem w68:Walked Tryz.prog G 68 14 sp68:=by
 refine ⟨Tryz.f68,Tryz.func68,by decide +kernel,rfl,fun xs bl r h=> ?_⟩
 unfold sp68 at h
 split at h
 ·rename_i op u1 u2 u3 kv qr tk sv ins bx rl els now ad sk se
  obtain ⟨hpre,h2⟩:=chk_inv h;cases h2
  show runFnH (G.env 68 14) G.rts (G.own 68) Tryz.f68 _ _ [0]=_
  refine Eq.trans (b:=(let t1:List (List AV):=[[Zy .i64 op,Zz u1,Zz u2,Zz u3,Zy .i64 kv,Zz qr,Zf tk,Zz sv,Zz ins,Zf bx,Zz rl,Zh 9 els,Zy .i64 now,Zy .i64 ad,Zy .i64 sk,Zy .u64 se]];let t2:List AV:=[Zy .i64 0,Zz [],Zz [],Zz [],Zz [],Zz [],Zz [],Zz [],Zz [],Zz [],Zy .u64 0,Zy .u64 0,Zy .u64 0,Zf [],Zy .i64 0,Zy .i64 0,Yy false];let t3:Bool:=l63 u1&&l63 u2&&l63 u3&&l63 qr&&l63 sv&&l63 ins&&l63 rl&&Wz se&&decide (Zp tk≤1000000)&&decide (Zp bx≤1000000)&&Wx els Xg&&decide (Zp els≤1000000);let t0:Option (AV×Blocks):=some (Yv (Zz rl::Zh 9 els::Zf []::t2),t1);sel (!u3==rl) (sel (!Xu (Zx (Zn op 8 []))==0) t0 (some (Yv (Zz rl::Zh 9 els::Zf (Xv (Zx (Zn op 8 [])))::t2),t1))) (Zd (chk (Wx els Xg&&decide (Zp els≤1000000)) (some (Xj [Zy .i64 (Yf (Kerb.clientEnt (Yj rl (Yu Yw els)) u1 u2 now)),Zy .i64 (Yk (Kerb.clientEnt (Yj rl (Yu Yw els)) u1 u2 now))],[]))) (kT fun vs=>cInt .i64 vs fun n r=>let t5:Wj:=Wf (Kerb.kaFailed (Yj rl (Yu Yw els)) n now) (Kerb.kaRefuse op 62) Kerb.noIssue false;let t4:Yh:=Xb t5;cInt .i64 r fun n_1 r=>onNil r (sel (!n_1==0) (sel (!Xu (Zx (Zn op n_1 []))==0) t0 (some (Yv (Zz rl::Zh 9 els::Zf (Xv (Zx (Zn op n_1 [])))::t2),t1))) (chk (decide (0≤n)&&decide (n<(↑(Zp els):Int))&&true) (Xz (Wq els (Wh n) Vz) fun cs=>cStr cs fun b r=>cStr r fun b_1 r=>cInt .u64 r fun n_2 r=>cInt .i64 r fun n_3 r=>cInt .i64 r fun n_4 r=>cInt .i64 r fun n_5 r=>cInt .i64 r fun n_6 r=>cInt .i64 r fun n_7 r=>cInt .i64 r fun n_8 r=>let t6:Kerb.Entry:=Kerb.Entry.mk b b_1 n_2 n_3 n_4 n_5 n_6 n_7 n_8;let t8:Kerb.Dec Kerb.Db:=Kerb.putEnt (Yj rl (Yu Yw els)) n (Kerb.Entry.mk b b_1 n_2 n_3 n_4 n_5 n_6 0 n_8);let t7:Kerb.Db:=Zg t8;onNil r (sel (decide (now<n_8)) (sel (!Xu (Zx (Zn op 81 []))==0) t0 (some (Yv (Zz rl::Zh 9 els::Zf (Xv (Zx (Zn op 81 [])))::t2),t1))) (Zd (chk (decide (Zp bx≤140737488355328)) (some (Xj [Zf (Yf (Vx bx 7 n_2)),Yy (Yk (Vx bx 7 n_2))],[]))) (kT fun vs=>cBs vs fun b_2 r=>cBool r fun b_3 r=>onNil r (sel (!b_3) (Zd (chk (t3&&decide (Kerb.Db.err (Yj rl (Yu Yw els))=0)&&decide (0≤n)&&decide (n<(↑(Zp els):Int))&&Kerb.kaOp op&&Vu now 4294967295) (some (Yv [Zz (Xn (Yq t5)),Zh 9 (Yu Zm (Xw (Yq t5))),Zf (Xq t5),Zy .i64 (Xf t4),Zz (Zj (Zu t4)),Zz (Zk (Zu t4)),Zz (Zv (Zu t4)),Zz (Zj (Zq t4)),Zz (Zk (Zq t4)),Zz (Zv (Zq t4)),Zz (Zj (Zw t4)),Zz (Zk (Zw t4)),Zz (Zv (Zw t4)),Zy .u64 (Yb t4),Zy .u64 (Xy t4),Zy .u64 (Yn t4),Zf (Xp t4),Zy .i64 (Xx t4),Zy .i64 (Xd t4),Yy (Ww t5)],t1))) fun (r:AV×Blocks)=>onConsB (Yk r) fun (x:List AV) (r_1:List (List AV))=>cInt .i64 x fun n r_2=>cStr r_2 fun b r_3=>cStr r_3 fun b_4 r_4=>cStr r_4 fun b_5 r_5=>cInt .i64 r_5 fun n_9 r_6=>cStr r_6 fun b_6 r_7=>cBs r_7 fun b_7 r_8=>cStr r_8 fun b_8 r_9=>cStr r_9 fun b_9 r_10=>cBs r_10 fun b_10 r_11=>cStr r_11 fun b_11 r_12=>cSl 9 r_12 fun b_12 r_13=>cInt .i64 r_13 fun n_10 r_14=>cInt .i64 r_14 fun n_11 r_15=>cInt .i64 r_15 fun n_12 r_16=>cInt .u64 r_16 fun n_13 r_17=>onNil r_17 (onNilB r_1 (Xz (Yf r) fun cs=>cStr cs fun b_13 r=>cSl 9 r fun b_14 r=>cBs r fun b_15 r=>cInt .i64 r fun n_14 r=>cStr r fun b_16 r=>cStr r fun b_17 r=>cStr r fun b_18 r=>cStr r fun b_19 r=>cStr r fun b_20 r=>cStr r fun b_21 r=>cStr r fun b_22 r=>cStr r fun b_23 r=>cStr r fun b_24 r=>cInt .u64 r fun n_15 r=>cInt .u64 r fun n_16 r=>cInt .u64 r fun n_17 r=>cBs r fun b_25 r=>cInt .i64 r fun n_18 r=>cInt .i64 r fun n_19 r=>cBool r fun b_26 r=>onNil r (some (Yv [Zz b_13,Zh 9 b_14,Zf b_15,Zy .i64 n_14,Zz b_16,Zz b_17,Zz b_18,Zz b_19,Zz b_20,Zz b_21,Zz b_22,Zz b_23,Zz b_24,Zy .u64 n_15,Zy .u64 n_16,Zy .u64 n_17,Zf b_25,Zy .i64 n_18,Zy .i64 n_19,Yy b_26],[[Zy .i64 n,Zz b,Zz b_4,Zz b_5,Zy .i64 n_9,Zz b_6,Zf b_7,Zz b_8,Zz b_9,Zf b_10,Zz b_11,Zh 9 b_12,Zy .i64 n_10,Zy .i64 n_11,Zy .i64 n_12,Zy .u64 n_13]]))))) (Zd (chk (l63 rl&&Wx els Xg&&decide (Zp els≤1000000)&&l63 b&&l63 b_1&&Wz n_2) (some (Xj [Yv [Zz (Xn t7),Zh 9 (Yu Zm (Xw t7))],Zy .i64 (Wg t8)],[]))) (kT fun vs=>onCons vs fun x r=>Xz x fun cs=>cStr cs fun b r_1=>cSl 9 r_1 fun b_4 r_2=>let t11:Wj:=Kerb.kaAuthenticate (Yj rl (Yu Yw els)) (Yj b (Yu Yw b_4)) t6 op now ad sk se (Yd u1 u2 u3) b_2;let t12:Wj:=Kerb.kaChangePw (Yj rl (Yu Yw els)) (Yj b (Yu Yw b_4)) n op now sk b_2;let t9:Yh:=Xb t11;let t10:Yh:=Xb t12;onNil r_2 (cInt .i64 r fun n_9 r=>onNil r (sel (!n_9==0) t0 (sel (op==1) (Zd (chk (t3&&Wx b_4 Xg&&decide (Zp b_2≤1000000)&&Kerb.kaOp op&&Vu now 4294967295&&Wz n_2&&Vv n_5&&Vv n_4) (some (Yv [Zz (Xn (Yq t11)),Zh 9 (Yu Zm (Xw (Yq t11))),Zf (Xq t11),Zy .i64 (Xf t9),Zz (Zj (Zu t9)),Zz (Zk (Zu t9)),Zz (Zv (Zu t9)),Zz (Zj (Zq t9)),Zz (Zk (Zq t9)),Zz (Zv (Zq t9)),Zz (Zj (Zw t9)),Zz (Zk (Zw t9)),Zz (Zv (Zw t9)),Zy .u64 (Yb t9),Zy .u64 (Xy t9),Zy .u64 (Yn t9),Zf (Xp t9),Zy .i64 (Xx t9),Zy .i64 (Xd t9),Yy (Ww t11)],t1))) fun (r:AV×Blocks)=>onConsB (Yk r) fun (x:List AV) (r_3:List (List AV))=>cInt .i64 x fun n r_4=>cStr r_4 fun b r_5=>cStr r_5 fun b_5 r_6=>cStr r_6 fun b_6 r_7=>cInt .i64 r_7 fun n_10 r_8=>cStr r_8 fun b_7 r_9=>cBs r_9 fun b_8 r_10=>cStr r_10 fun b_9 r_11=>cStr r_11 fun b_10 r_12=>cBs r_12 fun b_11 r_13=>cStr r_13 fun b_12 r_14=>cSl 9 r_14 fun b_13 r_15=>cInt .i64 r_15 fun n_11 r_16=>cInt .i64 r_16 fun n_12 r_17=>cInt .i64 r_17 fun n_13 r_18=>cInt .u64 r_18 fun n_14 r_19=>onNil r_19 (onNilB r_3 (Xz (Yf r) fun cs=>cStr cs fun b_14 r=>cSl 9 r fun b_15 r=>cBs r fun b_16 r=>cInt .i64 r fun n_15 r=>cStr r fun b_17 r=>cStr r fun b_18 r=>cStr r fun b_19 r=>cStr r fun b_20 r=>cStr r fun b_21 r=>cStr r fun b_22 r=>cStr r fun b_23 r=>cStr r fun b_24 r=>cStr r fun b_25 r=>cInt .u64 r fun n_16 r=>cInt .u64 r fun n_17 r=>cInt .u64 r fun n_18 r=>cBs r fun b_26 r=>cInt .i64 r fun n_19 r=>cInt .i64 r fun n_20 r=>cBool r fun b_27 r=>onNil r (some (Yv [Zz b_14,Zh 9 b_15,Zf b_16,Zy .i64 n_15,Zz b_17,Zz b_18,Zz b_19,Zz b_20,Zz b_21,Zz b_22,Zz b_23,Zz b_24,Zz b_25,Zy .u64 n_16,Zy .u64 n_17,Zy .u64 n_18,Zf b_26,Zy .i64 n_19,Zy .i64 n_20,Yy b_27],[[Zy .i64 n,Zz b,Zz b_5,Zz b_6,Zy .i64 n_10,Zz b_7,Zf b_8,Zz b_9,Zz b_10,Zf b_11,Zz b_12,Zh 9 b_13,Zy .i64 n_11,Zy .i64 n_12,Zy .i64 n_13,Zy .u64 n_14]]))))) (Zd (chk (t3&&Wx b_4 Xg&&decide (Zp b_4≤1000000)&&decide (Zp b_2≤1000000)&&Kerb.kaOp op&&decide (0≤n)&&decide (n<(↑(Zp els):Int))&&l63 b) (some (Yv [Zz (Xn (Yq t12)),Zh 9 (Yu Zm (Xw (Yq t12))),Zf (Xq t12),Zy .i64 (Xf t10),Zz (Zj (Zu t10)),Zz (Zk (Zu t10)),Zz (Zv (Zu t10)),Zz (Zj (Zq t10)),Zz (Zk (Zq t10)),Zz (Zv (Zq t10)),Zz (Zj (Zw t10)),Zz (Zk (Zw t10)),Zz (Zv (Zw t10)),Zy .u64 (Yb t10),Zy .u64 (Xy t10),Zy .u64 (Yn t10),Zf (Xp t10),Zy .i64 (Xx t10),Zy .i64 (Xd t10),Yy (Ww t12)],t1))) fun (r:AV×Blocks)=>onConsB (Yk r) fun (x:List AV) (r_3:List (List AV))=>cInt .i64 x fun n r_4=>cStr r_4 fun b r_5=>cStr r_5 fun b_5 r_6=>cStr r_6 fun b_6 r_7=>cInt .i64 r_7 fun n_10 r_8=>cStr r_8 fun b_7 r_9=>cBs r_9 fun b_8 r_10=>cStr r_10 fun b_9 r_11=>cStr r_11 fun b_10 r_12=>cBs r_12 fun b_11 r_13=>cStr r_13 fun b_12 r_14=>cSl 9 r_14 fun b_13 r_15=>cInt .i64 r_15 fun n_11 r_16=>cInt .i64 r_16 fun n_12 r_17=>cInt .i64 r_17 fun n_13 r_18=>cInt .u64 r_18 fun n_14 r_19=>onNil r_19 (onNilB r_3 (Xz (Yf r) fun cs=>cStr cs fun b_14 r=>cSl 9 r fun b_15 r=>cBs r fun b_16 r=>cInt .i64 r fun n_15 r=>cStr r fun b_17 r=>cStr r fun b_18 r=>cStr r fun b_19 r=>cStr r fun b_20 r=>cStr r fun b_21 r=>cStr r fun b_22 r=>cStr r fun b_23 r=>cStr r fun b_24 r=>cStr r fun b_25 r=>cInt .u64 r fun n_16 r=>cInt .u64 r fun n_17 r=>cInt .u64 r fun n_18 r=>cBs r fun b_26 r=>cInt .i64 r fun n_19 r=>cInt .i64 r fun n_20 r=>cBool r fun b_27 r=>onNil r (some (Yv [Zz b_14,Zh 9 b_15,Zf b_16,Zy .i64 n_15,Zz b_17,Zz b_18,Zz b_19,Zz b_20,Zz b_21,Zz b_22,Zz b_23,Zz b_24,Zz b_25,Zy .u64 n_16,Zy .u64 n_17,Zy .u64 n_18,Zf b_26,Zy .i64 n_19,Zy .i64 n_20,Yy b_27],[[Zy .i64 n,Zz b,Zz b_5,Zz b_6,Zy .i64 n_10,Zz b_7,Zf b_8,Zz b_9,Zz b_10,Zf b_11,Zz b_12,Zh 9 b_13,Zy .i64 n_11,Zy .i64 n_12,Zy .i64 n_13,Zy .u64 n_14]]))))))))))))))))))):Option (AV×Blocks))) (by kernel_rfl) ?_
  delta kT
  try dsimp only [cStr,cBs,cBool,cU8,cInt,cSl,l63]
  simp only [Wp,decide_eq_true_eq] at hpre
  obtain ⟨⟨⟨⟨hpre,he⟩,hop⟩,hop2⟩,hn⟩:=hpre
  obtain ⟨⟨⟨⟨⟨⟨⟨⟨⟨⟨⟨c1,c2⟩,c3⟩,c4⟩,c5⟩,c6⟩,c7⟩,c8⟩,c9⟩,c10⟩,hall⟩,hlen⟩:=hpre
  obtain ⟨es,rfl,hok⟩:=Wn hall
  rw [Yp] at he ⊢
  simp only [Ym] at hlen
  have bl:decide (bx.length≤140737488355328)=true:=by simp;omega
  simp only [Yp,hall,hn,hop,he,Ym,hlen,bl,c1,c2,c3,c4,c5,c6,c7,c8,c9,c10,eq_self,decide_true,Xk,List.map_nil,↓A0,A0]
  unfold Kerb.kaByUser
  dsimp only
  by_cases h1:u3=rl
  case neg =>
   rw [sel_pos (by simpa using h1),if_pos h1]
   by_cases hr:(Zx ⟨op,8,[]⟩).err=0
   ·rw [sel_neg (by simpa using hr)];rfl
   ·rw [sel_pos (by simpa using hr),Yz hr];rfl
  rw [sel_neg (by simp [h1]),if_neg (not_not_intro h1)]
  have hs := @Kerb.clie_lt ⟨rl,es⟩ u1 u2 now
  generalize Kerb.clientEnt ⟨rl,es⟩ u1 u2 now=F at hs ⊢
  obtain ⟨i,e⟩:=F
  dsimp only at hs ⊢
  by_cases h2:e=0
  case neg =>
   rw [sel_pos (by simpa using h2),if_pos h2]
   by_cases hr:(Zx ⟨op,e,[]⟩).err=0
   ·rw [sel_neg (by simpa using hr)];rfl
   ·rw [sel_pos (by simpa using hr),Yz hr];rfl
  obtain ⟨g1,g2⟩:=hs h2
  have g3:i<(es.length:Int):=by omega
  have i0:decide (0≤i)=true:=decide_eq_true g1
  have i1:decide (i<(es.length:Int))=true:=decide_eq_true g3
  have hp:=Kerb.putEnt_clear (d:=⟨rl,es⟩) (i:=i) he g1 g3
  have ck:=Kerb.kaClear_ok (d:=⟨rl,es⟩) (i:=i) hok
  have ca:=Kerb.all_ents ck
  have cl:=Kerb.kaClear_len ⟨rl,es⟩ i
  have cr:(Kerb.kaClear ⟨rl,es⟩ i).realm=rl:=rfl
  have ho:=hok _ (Kerb.ent_mem g2)
  rw [sel_neg (by simpa using h2),if_neg (not_not_intro h2),chk_of (by rw [i0,i1];rfl),Vf g2]
  unfold Kerb.entAt at hp ⊢
  dsimp only at hp cl ⊢
  generalize Kerb.kaClear ⟨rl,es⟩ i=C at hp ck ca cl cr ⊢
  generalize es.getD i.toNat Vq=x at hp ho ⊢
  simp only [Zm,i0,i1,↓A0,A0]
  by_cases h3:now<x.till
  ·rw [sel_pos (by simpa using h3),if_pos h3]
   by_cases hr:(Zx ⟨op,81,[]⟩).err=0
   ·rw [sel_neg (by simpa using hr)];rfl
   ·rw [sel_pos (by simpa using hr),Yz hr];rfl
  rw [sel_neg (by simpa using h3),if_neg h3]
  have ol:=Kerb.openBox_len bx 7 x.key
  generalize Vx bx 7 x.key=O at ol ⊢
  obtain ⟨bd,ok⟩:=O
  dsimp only at ol ⊢
  cases ok
  ·rw [sel_pos (by rfl),if_pos rfl]
   try rw [chk_of (by rfl)]
   try rfl
  rw [sel_neg (by rfl),if_neg (show ¬ (true=false) from by decide)]
  obtain ⟨o1,o2,o3,o4,o5,o6,_⟩:=ho
  have bd1:decide (Zp bd≤1000000)=true:=by simp;omega
  have cl2:decide (C.entries.length≤1000000)=true:=by simp;omega
  have cr2:decide (C.realm.length≤9223372036854775807)=true:=by rw [cr];exact decide_eq_true c7
  simp only [o1,o2,o3,o5,o6,hp,ca,cr2,cl2,c7,bd1,Ym,Yp,decide_true,Xk,eq_self,↓A0,A0]
  rw [sel_neg (by rfl)]
  by_cases h4:op=1
  ·rw [sel_pos (by simpa using h4),if_pos h4]
  ·rw [sel_neg (by simpa using h4),if_neg h4]
 ·cases h
theorem w25:Walked Tryz.prog G 25 15 sp25:=by
 refine ⟨Tryz.f25,Tryz.func25,by decide +kernel,rfl,fun xs bl r h=> ?_⟩
 unfold sp25 at h
 split at h
 ·rename_i rl els now ad sk se msg
  obtain ⟨hpre,h2⟩:=chk_inv h;cases h2
  refine Eq.trans (b:=(let t0:Option (AV×Blocks):=some (Xj [Yv [Zz rl,Zh 9 els],Zf [],Yv [Zy .i64 0,Zz [],Zz [],Zz [],Zz [],Zz [],Zz [],Zz [],Zz [],Zz [],Zy .u64 0,Zy .u64 0,Zy .u64 0,Zf [],Zy .i64 0,Zy .i64 0],Yy false],[]);let t1:List AV:=[Zz rl,Zh 9 els,Zy .i64 now,Zy .i64 ad,Zy .i64 sk,Zy .u64 se];sel (decide (now<0)) t0 (sel (decide (now>4294967295)) t0 (sel (decide (ad<0)) t0 (sel (decide (ad>4294967295)) t0 (Zd (chk (decide (Zp msg≤140737488355328)) (some (Xj [Yv [Zy .i64 (Kerb.KaRequest.op (Zg (Zb msg))),Zz (Zj (Wd (Zg (Zb msg)))),Zz (Zk (Wd (Zg (Zb msg)))),Zz (Zv (Wd (Zg (Zb msg)))),Zy .i64 (Kerb.KaRequest.kvno (Zg (Zb msg))),Zz (Kerb.KaRequest.realm (Zg (Zb msg))),Zf (Kerb.KaRequest.ticket (Zg (Zb msg))),Zz (Kerb.KaRequest.service (Zg (Zb msg))),Zz (Kerb.KaRequest.inst (Zg (Zb msg))),Zf (Kerb.KaRequest.box (Zg (Zb msg)))],Zy .i64 (Wg (Zb msg))],[]))) (kT fun vs=>onCons vs fun x r=>Xz x fun cs=>cInt .i64 cs fun n r_1=>cStr r_1 fun b r_2=>cStr r_2 fun b_1 r_3=>cStr r_3 fun b_2 r_4=>let t2:Bool:=l63 b&&l63 b_1&&l63 b_2;cInt .i64 r_4 fun n_1 r_5=>cStr r_5 fun b_3 r_6=>cBs r_6 fun b_4 r_7=>cStr r_7 fun b_5 r_8=>cStr r_8 fun b_6 r_9=>let t3:Bool:=t2&&l63 b_3&&l63 b_5&&l63 b_6&&l63 rl&&Wz se&&decide (Zp b_4≤1000000);cBs r_9 fun b_7 r_10=>let t6:Wj:=Kerb.kaGetTicket (Yj rl (Yu Yw els)) now ad sk se (Kerb.KaRequest.mk n (Yd b b_1 b_2) n_1 b_3 b_4 b_5 b_6 b_7);let t7:Wj:=Kerb.kaByUser (Yj rl (Yu Yw els)) now ad sk se (Kerb.KaRequest.mk n (Yd b b_1 b_2) n_1 b_3 b_4 b_5 b_6 b_7);let t8:List (List AV):=[Zy .i64 n::Zz b::Zz b_1::Zz b_2::Zy .i64 n_1::Zz b_3::Zf b_4::Zz b_5::Zz b_6::Zf b_7::t1];let t9:Bool:=t3&&decide (Zp b_7≤1000000)&&Wx els Xg&&decide (Zp els≤1000000);let t4:Yh:=Xb t6;let t5:Yh:=Xb t7;onNil r_10 (cInt .i64 r fun n_2 r=>onNil r (sel (!n_2==0) t0 (sel (n==2) (Zd (chk (t9&&decide (n=2)&&Vu now 4294967295) (some (Yv [Zz (Xn (Yq t6)),Zh 9 (Yu Zm (Xw (Yq t6))),Zf (Xq t6),Zy .i64 (Xf t4),Zz (Zj (Zu t4)),Zz (Zk (Zu t4)),Zz (Zv (Zu t4)),Zz (Zj (Zq t4)),Zz (Zk (Zq t4)),Zz (Zv (Zq t4)),Zz (Zj (Zw t4)),Zz (Zk (Zw t4)),Zz (Zv (Zw t4)),Zy .u64 (Yb t4),Zy .u64 (Xy t4),Zy .u64 (Yn t4),Zf (Xp t4),Zy .i64 (Xx t4),Zy .i64 (Xd t4),Yy (Ww t6)],t8))) fun (r:AV×Blocks)=>onConsB (Yk r) fun (x:List AV) (r_11:List (List AV))=>cInt .i64 x fun n r_12=>cStr r_12 fun b r_13=>cStr r_13 fun b r_14=>cStr r_14 fun b r_15=>cInt .i64 r_15 fun n r_16=>cStr r_16 fun b r_17=>cBs r_17 fun b r_18=>cStr r_18 fun b r_19=>cStr r_19 fun b r_20=>cBs r_20 fun b r_21=>cStr r_21 fun b r_22=>cSl 9 r_22 fun b r_23=>cInt .i64 r_23 fun n r_24=>cInt .i64 r_24 fun n r_25=>cInt .i64 r_25 fun n r_26=>cInt .u64 r_26 fun n r_27=>onNil r_27 (onNilB r_11 (Xz (Yf r) fun cs=>cStr cs fun b r=>cSl 9 r fun b_8 r=>cBs r fun b_9 r=>cInt .i64 r fun n r=>cStr r fun b_10 r=>cStr r fun b_11 r=>cStr r fun b_12 r=>cStr r fun b_13 r=>cStr r fun b_14 r=>cStr r fun b_15 r=>cStr r fun b_16 r=>cStr r fun b_17 r=>cStr r fun b_18 r=>cInt .u64 r fun n_3 r=>cInt .u64 r fun n_4 r=>cInt .u64 r fun n_5 r=>cBs r fun b_19 r=>cInt .i64 r fun n_6 r=>cInt .i64 r fun n_7 r=>cBool r fun b_20 r=>onNil r (some (Xj [Yv [Zz b,Zh 9 b_8],Zf b_9,Yv [Zy .i64 n,Zz b_10,Zz b_11,Zz b_12,Zz b_13,Zz b_14,Zz b_15,Zz b_16,Zz b_17,Zz b_18,Zy .u64 n_3,Zy .u64 n_4,Zy .u64 n_5,Zf b_19,Zy .i64 n_6,Zy .i64 n_7],Yy b_20],[]))))) (Zd (chk (t9&&decide (Kerb.Db.err (Yj rl (Yu Yw els))=0)&&Kerb.kaOp n&&decide (n≠2)&&Vu now 4294967295) (some (Yv [Zz (Xn (Yq t7)),Zh 9 (Yu Zm (Xw (Yq t7))),Zf (Xq t7),Zy .i64 (Xf t5),Zz (Zj (Zu t5)),Zz (Zk (Zu t5)),Zz (Zv (Zu t5)),Zz (Zj (Zq t5)),Zz (Zk (Zq t5)),Zz (Zv (Zq t5)),Zz (Zj (Zw t5)),Zz (Zk (Zw t5)),Zz (Zv (Zw t5)),Zy .u64 (Yb t5),Zy .u64 (Xy t5),Zy .u64 (Yn t5),Zf (Xp t5),Zy .i64 (Xx t5),Zy .i64 (Xd t5),Yy (Ww t7)],t8))) fun (r:AV×Blocks)=>onConsB (Yk r) fun (x:List AV) (r_11:List (List AV))=>cInt .i64 x fun n r_12=>cStr r_12 fun b r_13=>cStr r_13 fun b r_14=>cStr r_14 fun b r_15=>cInt .i64 r_15 fun n r_16=>cStr r_16 fun b r_17=>cBs r_17 fun b r_18=>cStr r_18 fun b r_19=>cStr r_19 fun b r_20=>cBs r_20 fun b r_21=>cStr r_21 fun b r_22=>cSl 9 r_22 fun b r_23=>cInt .i64 r_23 fun n r_24=>cInt .i64 r_24 fun n r_25=>cInt .i64 r_25 fun n r_26=>cInt .u64 r_26 fun n r_27=>onNil r_27 (onNilB r_11 (Xz (Yf r) fun cs=>cStr cs fun b r=>cSl 9 r fun b_8 r=>cBs r fun b_9 r=>cInt .i64 r fun n r=>cStr r fun b_10 r=>cStr r fun b_11 r=>cStr r fun b_12 r=>cStr r fun b_13 r=>cStr r fun b_14 r=>cStr r fun b_15 r=>cStr r fun b_16 r=>cStr r fun b_17 r=>cStr r fun b_18 r=>cInt .u64 r fun n_3 r=>cInt .u64 r fun n_4 r=>cInt .u64 r fun n_5 r=>cBs r fun b_19 r=>cInt .i64 r fun n_6 r=>cInt .i64 r fun n_7 r=>cBool r fun b_20 r=>onNil r (some (Xj [Yv [Zz b,Zh 9 b_8],Zf b_9,Yv [Zy .i64 n,Zz b_10,Zz b_11,Zz b_12,Zz b_13,Zz b_14,Zz b_15,Zz b_16,Zz b_17,Zz b_18,Zy .u64 n_3,Zy .u64 n_4,Zy .u64 n_5,Zf b_19,Zy .i64 n_6,Zy .i64 n_7],Yy b_20],[]))))))))))))):Option (AV×Blocks))) (by kernel_rfl) ?_
  delta kT
  try dsimp only [cStr,cBs,cBool,cU8,cInt,cSl,l63]
  simp only [Wp,decide_eq_true_eq] at hpre
  obtain ⟨⟨⟨⟨⟨c7,hall⟩,hlen⟩,he⟩,c8⟩,hm⟩:=hpre
  obtain ⟨es,rfl,hok⟩:=Wn hall
  rw [Yp] at he ⊢
  simp only [Ym] at hlen
  have ml:decide (msg.length≤140737488355328)=true:=by simp;omega
  simp only [Yp,hall,he,Ym,hlen,ml,c7,c8,eq_self,decide_true,Xk,List.map_nil,↓A0,A0]
  unfold Kerb.kaserver
  try dsimp only
  by_cases hw:Vu now 4294967295=true
  case neg =>
   have hw2:Vu now 4294967295=false:=by simpa using hw
   rw [hw2,Bool.false_and,Bool.not_false,if_pos rfl]
   by_cases h1:now<0
   ·rw [sel_pos (by simpa using h1)];rfl
   rw [sel_neg (by simpa using h1),sel_pos (by simp only [decide_eq_true_eq];rw [Kerb.within_iff] at hw;omega)];rfl
  have w1:=Kerb.within_iff.1 hw
  rw [sel_neg (by simp;omega),sel_neg (by simp;omega)]
  by_cases hv:Vu ad 4294967295=true
  case neg =>
   have hw2:Vu ad 4294967295=false:=by simpa using hv
   rw [hw2,Bool.and_false,Bool.not_false,if_pos rfl]
   by_cases h1:ad<0
   ·rw [sel_pos (by simpa using h1)];rfl
   rw [sel_neg (by simpa using h1),sel_pos (by simp only [decide_eq_true_eq];rw [Kerb.within_iff] at hv;omega)];rfl
  have w2:=Kerb.within_iff.1 hv
  rw [sel_neg (by simp;omega),sel_neg (by simp;omega),hw,hv,if_neg (show ¬ ((!(true&&true))=true) from by decide)]
  have rb := @Kerb.kaReq_bd msg
  generalize Zb msg=R at rb ⊢
  by_cases h1:R.err=0
  case neg=>rw [sel_pos (by simpa using h1),if_pos h1];rfl
  rw [sel_neg (by simpa using h1),if_neg (not_not_intro h1)]
  obtain ⟨⟨r1,r2,r3,r4,r5,r6⟩,r7,r8,r9⟩:=rb h1
  have d1:decide (R.val.user.name.length≤9223372036854775807)=true:=decide_eq_true (Wk r1 (by decide))
  have d2:decide (R.val.user.inst.length≤9223372036854775807)=true:=decide_eq_true (Wk r2 (by decide))
  have d3:decide (R.val.user.realm.length≤9223372036854775807)=true:=decide_eq_true (Wk r3 (by decide))
  have d4:decide (R.val.realm.length≤9223372036854775807)=true:=decide_eq_true (Wk r4 (by decide))
  have d5:decide (R.val.service.length≤9223372036854775807)=true:=decide_eq_true (Wk r5 (by decide))
  have d6:decide (R.val.inst.length≤9223372036854775807)=true:=decide_eq_true (Wk r6 (by decide))
  have d8:decide (R.val.ticket.length≤1000000)=true:=decide_eq_true (Wk r8 (by decide))
  have d9:decide (R.val.box.length≤1000000)=true:=decide_eq_true (Wk r9 (by decide))
  by_cases h2:R.val.op=2
  ·rw [sel_pos (by simpa using h2),if_pos h2]
   simp only [h2,d1,d2,d3,d4,d5,d6,d8,d9,hw,c8,eq_self,decide_true,Xk,↓A0,A0]
   obtain ⟨⟨op,user,kvno,realm,ticket,service,inst,box⟩,err⟩:=R
   dsimp only at h2 ⊢
   subst h2
   rfl
  ·rw [sel_neg (by simpa using h2),if_neg h2]
   have h3:decide (R.val.op≠2)=true:=decide_eq_true h2
   simp only [h3,d1,d2,d3,d4,d5,d6,d8,d9,hw,r7,c8,he,eq_self,decide_true,Xk,↓A0,A0]
 ·cases h
theorem p22  : runFn (G.env 22 16) G.rts (G.own 22) Tryz.f22 [] []=some (.bool true,[]):=by kernel_rfl
theorem w22:Walked Tryz.prog G 22 16 sp22:=by
 refine ⟨Tryz.f22,Tryz.func22,by decide +kernel,rfl,fun xs bl r h=> ?_⟩
 unfold sp22 at h
 split at h
 ·cases h;exact p22
 ·cases h
set_option maxHeartbeats 4000000 in
theorem w5:Walked Tryz.prog G 5 17 sp5:=by
 refine ⟨Tryz.f5,Tryz.func5,by decide +kernel,rfl,fun xs bl r h=> ?_⟩
 unfold sp5 at h
 split at h
 ·rename_i ls lf bd skw
  obtain ⟨hpre,h2⟩:=chk_inv h;cases h2
  refine Eq.trans (b:=(sel (decide ((↑(Zp ls):Int)>40)) (some (Yy true,[])) (Zd (loopM (fun (st:List AV)=>cSl 13 st fun b r=>cU8 r fun b_1 r=>cBool r fun b_2 r=>cStr r fun b_3 r=>cSl 9 r fun b_4 r=>cInt .i64 r fun n r=>let t0:Option (List AV ⊕ Ex×List AV):=some (Sum.inr (Ex.ret,[Zh 13 b,AV.u8 b_1,Yy false,Zz b_3,Zh 9 b_4,Zy .i64 n]));let t1:Bool:=decide (0≤n)&&decide (n<(↑(Zp b):Int))&&true;onNil r (sel (decide (n<(↑(Zp b):Int))) (chk t1 (Xz (Wq b (Wh n) Vz) fun cs=>cU8 cs fun b_5 r=>cU8 r fun b_6 r=>cU8 r fun b_7 r=>cU8 r fun b_8 r=>cU8 r fun b_9 r=>cU8 r fun b_10 r=>cU8 r fun b_11 r=>cU8 r fun b_12 r=>cU8 r fun b_13 r=>cU8 r fun b_14 r=>let t2:Int:=Int.tmod (Wv .i64 (Int.tdiv (Wv .i64 (↑(UInt8.toNat b_14):Int)) 2)) 2;cU8 r fun b_15 r=>cU8 r fun b_16 r=>cInt .u16 r fun n_1 r=>onNil r (Zd (chk (decide (0≤Wv .i64 (20+n))&&decide (Wv .i64 (20+n)≤1000)) (some (Zy .u64 (Kerb.session (Wv .i64 (20+n))),[]))) (kI .u64 fun n_2=>chk t1 (Xz (Wq b (Wh n) Vz) fun cs=>cU8 cs fun b_17 r=>cU8 r fun b_18 r=>cU8 r fun b_19 r=>cU8 r fun b_20 r=>cU8 r fun b_21 r=>cU8 r fun b_22 r=>cU8 r fun b_23 r=>cU8 r fun b_24 r=>cU8 r fun b_25 r=>cU8 r fun b_26 r=>cU8 r fun b_27 r=>cU8 r fun b_28 r=>cInt .u16 r fun n_3 r=>onNil r (Zd (chk (decide (0≤n_3)&&decide (n_3≤65535)) (some (Zf (Vd (Kerb.KAsk.mk b_17 b_18 b_19 b_20 b_21 b_22 b_23 b_24 b_25 b_26 b_27 b_28 n_3)),[]))) (kB fun b_29=>let t4:Wj:=Kerb.kaserver (Yj b_3 (Yu Yw b_4)) 1100 t2 (Wv .i64 (↑(UInt8.toNat b_1):Int)) n_2 b_29;let t3:Yh:=Xb t4;Zd (chk (l63 b_3&&Wx b_4 Xg&&decide (Zp b_4≤1000000)&&decide (Kerb.Db.err (Yj b_3 (Yu Yw b_4))=0)&&Wz n_2&&decide (Zp b_29≤1000000)) (some (Xj [Yv [Zz (Xn (Yq t4)),Zh 9 (Yu Zm (Xw (Yq t4)))],Zf (Xq t4),Yv [Zy .i64 (Xf t3),Zz (Zj (Zu t3)),Zz (Zk (Zu t3)),Zz (Zv (Zu t3)),Zz (Zj (Zq t3)),Zz (Zk (Zq t3)),Zz (Zv (Zq t3)),Zz (Zj (Zw t3)),Zz (Zk (Zw t3)),Zz (Zv (Zw t3)),Zy .u64 (Yb t3),Zy .u64 (Xy t3),Zy .u64 (Yn t3),Zf (Xp t3),Zy .i64 (Xx t3),Zy .i64 (Xd t3)],Yy (Ww t4)],[]))) (kT fun vs=>onCons vs fun x r=>Xz x fun cs=>cStr cs fun b_30 r_1=>cSl 9 r_1 fun b_31 r_2=>onNil r_2 (cBs r fun b_32 r=>onCons r fun x r=>Xz x fun cs=>cInt .i64 cs fun n_4 r_3=>cStr r_3 fun b_33 r_4=>cStr r_4 fun b_34 r_5=>cStr r_5 fun b_35 r_6=>cStr r_6 fun b_36 r_7=>cStr r_7 fun b_37 r_8=>cStr r_8 fun b_38 r_9=>cStr r_9 fun b_39 r_10=>cStr r_10 fun b_40 r_11=>cStr r_11 fun b_41 r_12=>cInt .u64 r_12 fun n_5 r_13=>cInt .u64 r_13 fun n_6 r_14=>cInt .u64 r_14 fun n_7 r_15=>cBs r_15 fun b_42 r_16=>cInt .i64 r_16 fun n_8 r_17=>cInt .i64 r_17 fun n_9 r_18=>onNil r_18 (cBool r fun b_43 r=>onNil r (chk t1 (Xz (Wq b (Wh n) Vz) fun cs=>cU8 cs fun b_44 r=>cU8 r fun b_45 r=>cU8 r fun b_46 r=>cU8 r fun b_47 r=>cU8 r fun b_48 r=>cU8 r fun b_49 r=>cU8 r fun b_50 r=>cU8 r fun b_51 r=>cU8 r fun b_52 r=>cU8 r fun b_53 r=>cU8 r fun b_54 r=>cU8 r fun b_55 r=>cInt .u16 r fun n_10 r=>onNil r (Zd (chk (decide (0≤n_10)&&decide (n_10≤65535)) (some (Zf (Vd (Kerb.KAsk.mk b_44 b_45 b_46 b_47 b_48 b_49 b_50 b_51 b_52 b_53 b_54 b_55 n_10)),[]))) (kB fun b_56=>Zd (chk (decide (Zp b_56≤140737488355328)) (some (Xj [Yv [Zy .i64 (Kerb.KaRequest.op (Zg (Zb b_56))),Zz (Zj (Wd (Zg (Zb b_56)))),Zz (Zk (Wd (Zg (Zb b_56)))),Zz (Zv (Wd (Zg (Zb b_56)))),Zy .i64 (Kerb.KaRequest.kvno (Zg (Zb b_56))),Zz (Kerb.KaRequest.realm (Zg (Zb b_56))),Zf (Kerb.KaRequest.ticket (Zg (Zb b_56))),Zz (Kerb.KaRequest.service (Zg (Zb b_56))),Zz (Kerb.KaRequest.inst (Zg (Zb b_56))),Zf (Kerb.KaRequest.box (Zg (Zb b_56)))],Zy .i64 (Wg (Zb b_56))],[]))) (kT fun vs=>onCons vs fun x r=>Xz x fun cs=>cInt .i64 cs fun n_11 r_19=>cStr r_19 fun b_57 r_20=>cStr r_20 fun b_58 r_21=>cStr r_21 fun b_59 r_22=>cInt .i64 r_22 fun n_12 r_23=>cStr r_23 fun b_60 r_24=>cBs r_24 fun b_61 r_25=>cStr r_25 fun b_62 r_26=>cStr r_26 fun b_63 r_27=>cBs r_27 fun b_64 r_28=>onNil r_28 (cInt .i64 r fun n_13 r=>onNil r (sel (!b_30==b_3) t0 (sel (!(↑(Zp b_31):Int)==(↑(Zp b_4):Int)) t0 (Zd (chk (l63 b_30&&Wx b_31 Xg&&decide (Zp b_31≤1000000)) (some (Zy .i64 (Kerb.Db.err (Yj b_30 (Yu Yw b_31))),[]))) (kI .i64 fun n_14=>sel (!n_14==0) t0 (Zd (loopM (fun (st:List AV)=>cSl 13 st fun b r=>cU8 r fun b_65 r=>cBool r fun b_66 r=>cStr r fun b_67 r=>cSl 9 r fun b_68 r=>cInt .i64 r fun n r=>cStr r fun b_69 r=>cSl 9 r fun b_70 r=>cInt .i64 r fun n_15 r=>cStr r fun b_71 r=>cStr r fun b_72 r=>cStr r fun b_73 r=>cInt .i64 r fun n_16 r=>cStr r fun b_74 r=>cBs r fun b_75 r=>cStr r fun b_76 r=>cStr r fun b_77 r=>cBs r fun b_78 r=>cInt .i64 r fun n_17 r=>cInt .i64 r fun n_18 r=>let t6:Option (List AV ⊕ Ex×List AV):=some (Sum.inl [Zh 13 b,AV.u8 b_65,Yy b_66,Zz b_67,Zh 9 b_68,Zy .i64 n,Zz b_69,Zh 9 b_70,Zy .i64 n_15,Zz b_71,Zz b_72,Zz b_73,Zy .i64 n_16,Zz b_74,Zf b_75,Zz b_76,Zz b_77,Zf b_78,Zy .i64 n_17,Zy .i64 (Wv .i64 (n_18+1))]);let t7:List AV:=[Zz b_67,Zh 9 b_68,Zy .i64 n,Zz b_69,Zh 9 b_70,Zy .i64 n_15,Zz b_71,Zz b_72,Zz b_73,Zy .i64 n_16,Zz b_74,Zf b_75,Zz b_76,Zz b_77,Zf b_78,Zy .i64 n_17,Zy .i64 n_18];let t5:Option (List AV ⊕ Ex×List AV):=some (Sum.inr (Ex.ret,Zh 13 b::AV.u8 b_65::Yy false::t7));onNil r (sel (decide (n_18<(↑(Zp b_68):Int))) (chk (decide (0≤n_18)&&decide (n_18<(↑(Zp b_68):Int))&&true) (Xz (Wq b_68 (Wh n_18) Vz) fun cs=>cStr cs fun b r=>cStr r fun b_79 r=>cInt .u64 r fun n r=>cInt .i64 r fun n_19 r=>cInt .i64 r fun n_20 r=>cInt .i64 r fun n_21 r=>cInt .i64 r fun n_22 r=>cInt .i64 r fun n_23 r=>cInt .i64 r fun n_24 r=>onNil r (chk (decide (0≤n_18)&&decide (n_18<(↑(Zp b_70):Int))&&true) (Xz (Wq b_70 (Wh n_18) Vz) fun cs=>cStr cs fun b_80 r=>cStr r fun b_81 r=>cInt .u64 r fun n_25 r=>cInt .i64 r fun n_26 r=>cInt .i64 r fun n_27 r=>cInt .i64 r fun n_28 r=>cInt .i64 r fun n_29 r=>cInt .i64 r fun n_30 r=>cInt .i64 r fun n_31 r=>let t9:Option (List AV ⊕ Ex×List AV):=sel (!(b==b_80&&(b_79==b_81&&(n_25==n_25&&(n_26==n_26&&(n_20==n_27&&(n_21==n_28&&(n_22==n_29&&(n_30==n_30&&n_31==n_31))))))))) t5 t6;let t8:Option (List AV ⊕ Ex×List AV):=sel (!n_15==3) t5 t9;onNil r (sel (b==b_80&&(b_79==b_81&&(n==n_25&&(n_19==n_26&&(n_20==n_27&&(n_21==n_28&&(n_22==n_29&&(n_23==n_30&&n_24==n_31)))))))) t6 (sel (!n_17==0) t5 (sel (n_15==2) t5 (sel (!b==b_71) t5 (sel (!b_79==b_72) t5 (sel (!n==n_25) t8 (sel (!n_19==n_26) t8 t9))))))))))) (some (Sum.inr (Ex.exit 2,Zh 13 b::AV.u8 b_65::Yy b_66::t7))))) [Zh 13 b,AV.u8 b_1,Yy b_2,Zz b_3,Zh 9 b_4,Zy .i64 n,Zz b_30,Zh 9 b_31,Zy .i64 n_11,Zz b_57,Zz b_58,Zz b_59,Zy .i64 n_12,Zz b_60,Zf b_61,Zz b_62,Zz b_63,Zf b_64,Zy .i64 n_13,Zy .i64 0]) fun (r:Ex×List AV)=>cSl 13 (Yk r) fun b r_29=>cU8 r_29 fun b_65 r_30=>cBool r_30 fun b_66 r_31=>cStr r_31 fun b_67 r_32=>cSl 9 r_32 fun b_68 r_33=>cInt .i64 r_33 fun n r_34=>cStr r_34 fun b_69 r_35=>cSl 9 r_35 fun b_70 r_36=>cInt .i64 r_36 fun n_15 r_37=>cStr r_37 fun b_71 r_38=>cStr r_38 fun b_72 r_39=>cStr r_39 fun b_73 r_40=>cInt .i64 r_40 fun n_16 r_41=>cStr r_41 fun b_74 r_42=>cBs r_42 fun b_75 r_43=>cStr r_43 fun b_76 r_44=>cStr r_44 fun b_77 r_45=>cBs r_45 fun b_78 r_46=>cInt .i64 r_46 fun n_17 r_47=>cInt .i64 r_47 fun n_18 r_48=>onNil r_48 (exK r.1 (some (Sum.inr (Ex.ret,[Zh 13 b,AV.u8 b_65,Yy b_66,Zz b_67,Zh 9 b_68,Zy .i64 n]))) fun (j:Nat)=>sel (Nat.beq j 2) (some (Sum.inl [Zh 13 b,AV.u8 b_65,Yy b_66,Zz b_69,Zh 9 b_70,Zy .i64 (Wv .i64 (n+1))])) none)))))))))))))))))))))) (some (Sum.inr (Ex.exit 0,[Zh 13 b,AV.u8 b_1,Yy b_2,Zz b_3,Zh 9 b_4,Zy .i64 n]))))) [Zh 13 ls,AV.u8 skw,Yy false,Zz (Xn (Kerb.simpleDb lf (9:UInt8) bd)),Zh 9 (Yu Zm (Xw (Kerb.simpleDb lf (9:UInt8) bd))),Zy .i64 0]) fun (r:Ex×List AV)=>cSl 13 (Yk r) fun b r_1=>cU8 r_1 fun b r_2=>cBool r_2 fun b r_3=>cStr r_3 fun b_1 r_4=>cSl 9 r_4 fun b_2 r_5=>cInt .i64 r_5 fun n r_6=>onNil r_6 (exK r.1 (some (Yy b,[])) fun (j:Nat)=>sel (Nat.beq j 0) (some (Yy true,[])) none)):Option (AV×Blocks))) (by kernel_rfl) ?_
  delta kT kB kI
  try dsimp only [cStr,cBs,cBool,cU8,cInt,cSl,l63]
  have hall:=hpre
  by_cases c1:(ls.length:Int)>40
  ·rw [sel_pos (by simpa using c1)]
  rw [sel_neg (by simpa using c1)]
  have kS:=Kerb.kept_simple lf 9 bd
  generalize Kerb.simpleDb lf 9 bd=X0 at kS ⊢
  refine loop_rounds (fun q:Kerb.Db×Nat=>[Zh 13 ls,AV.u8 skw,Yy false,Zz q.1.realm,Zh 9 (q.1.entries.map Zm),Zy Yx (q.2:Int)]) (fun q=>Kerb.Kept q.1∧q.2≤ls.length) (fun q=>ls.length-q.2)
   (fun r=>∃ q:Kerb.Db×Nat,r=(.exit 0,[Zh 13 ls,AV.u8 skw,Yy false,Zz q.1.realm,Zh 9 (q.1.entries.map Zm),Zy Yx (q.2:Int)])) (X0,0) ⟨kS,Nat.zero_le _⟩ rfl ?_ ?_
  ·rintro ⟨X,i⟩ ⟨kX,hi⟩
   simp only at kX hi
   simp (config:={maxSteps:=10000000}) only [↓sInt,↓sU8,↓sBool,↓sStr,↓sBs,↓sSl,↓sAgg,↓sTup,↓sCons,↓sNil,↓sNilB,↓sChk,↓sChkBind,↓sSome]
   by_cases hi2:(i:Int)<ls.length
   case neg =>
    rw [sel_neg (by simpa using hi2)]
    exact ⟨_,rfl,(X,i),rfl⟩
   have hi2:i<ls.length:=by omega
   rw [sel_pos (by simpa using hi2)]
   have hw:Kerb.isKAsk (Wq ls i Vz)=true:=by
    have hmem:Wq ls i Vz∈ls:=by rw [List.getD_eq_getElem?_getD,List.getElem?_eq_getElem hi2];exact List.getElem_mem hi2
    exact List.all_eq_true.1 hall _ hmem
   obtain ⟨o,u,s,e,n,t0,p,i0,l0,d0,w0,q0,h0,hg,hh0,hh1⟩:=Kerb.isKAsk_inv hw
   have c0:(decide ((0:Int)≤(i:Int))&&decide ((i:Int)<(ls.length:Int))&&true)=true:=by simp;omega
   have c1:(decide ((0:Int)≤h0)&&decide (h0≤65535))=true:=by simp;omega
   have w1:Wv .i64 (20+(i:Int))=20+(i:Int):=wrap_i64 (by omega) (by omega)
   have c2:(decide ((0:Int)≤20+(i:Int))&&decide (20+(i:Int)≤1000))=true:=by simp;omega
   have hm:=Kerb.msg_len ⟨o,u,s,e,n,t0,p,i0,l0,d0,w0,q0,h0⟩
   have hs:=Kerb.isU64_iff.2 (Kerb.session_bd2 (20+(i:Int)))
   have eD:Yj X.realm X.entries=X:=rfl
   have l1:X.realm.length≤9223372036854775807:=by have:=kX.realm;omega
   have l2:X.entries.length≤1000000:=by have:=kX.len;omega
   have l4:(Vd ⟨o,u,s,e,n,t0,p,i0,l0,d0,w0,q0,h0⟩).length≤140737488355328:=by omega
   simp (config:={maxSteps:=10000000}) only [c0,c1,c2,w1,Int.toNat_natCast,hg,hm,l4,hs,Yp,Ym,eD,l1,l2,kX.err,kX.all,decide_true,Xk,↓sInt,↓sU8,↓sBool,↓sStr,↓sBs,↓sSl,↓sAgg,↓sTup,↓sCons,↓sNil,↓sNilB,↓sChk,↓sChkBind,↓sSome]
   generalize Vd ⟨o,u,s,e,n,t0,p,i0,l0,d0,w0,q0,h0⟩=M
   generalize hO:Kerb.kaserver X 1100 _ _ _ M=O
   have hf:Kerb.Fine X O.db:=by rw [← hO];exact Kerb.kaserver_fine kX.err kX.ok
   have hnr:∀ n,Kerb.Near (Zb M) (X.entries.getD n Vq) (O.db.entries.getD n Vq):=fun n=>by rw [← hO];exact Kerb.kaserver_near kX.err n
   have kO:Kerb.Kept O.db:=Kerb.kept_of hf.err hf.ok
   have l3:O.db.entries.length≤1000000:=by have:=kO.len;omega
   have l5:O.db.realm.length≤9223372036854775807:=by have:=kO.realm;omega
   have eO:Yj O.db.realm O.db.entries=O.db:=rfl
   have e1:(O.db.realm==X.realm)=true:=by simpa using hf.realm
   have e2:((O.db.entries.length:Int)==(X.entries.length:Int))=true:=by rw [hf.len];simp
   have e3:((0:Int)==0)=true:=rfl
   simp (config:={maxSteps:=10000000}) only [Yp,Ym,eO,e1,e2,e3,l3,l5,kO.all,kO.err,Bool.not_true,sTrue,sFalse,decide_true,Xk,↓sInt,↓sU8,↓sBool,↓sStr,↓sBs,↓sSl,↓sAgg,↓sTup,↓sCons,↓sNil,↓sNilB,↓sChk,↓sChkBind,↓sSome]
   generalize Zb M=R at hnr ⊢
   refine loop_ex (fun j:Nat=>[Zh 13 ls,AV.u8 skw,Yy false,Zz X.realm,Zh 9 (X.entries.map Zm),Zy Yx (i:Int),Zz O.db.realm,Zh 9 (O.db.entries.map Zm),Zy Yx R.val.op,Zz R.val.user.name,Zz R.val.user.inst,Zz R.val.user.realm,Zy Yx R.val.kvno,Zz R.val.realm,Zf R.val.ticket,Zz R.val.service,Zz R.val.inst,Zf R.val.box,Zy Yx R.err,Zy Yx (j:Int)]) (fun j=>j≤X.entries.length) (fun j=>X.entries.length-j)
    (fun r=>∃ j:Nat,r=(Ex.exit 2,[Zh 13 ls,AV.u8 skw,Yy false,Zz X.realm,Zh 9 (X.entries.map Zm),Zy Yx (i:Int),Zz O.db.realm,Zh 9 (O.db.entries.map Zm),Zy Yx R.val.op,Zz R.val.user.name,Zz R.val.user.inst,Zz R.val.user.realm,Zy Yx R.val.kvno,Zz R.val.realm,Zf R.val.ticket,Zz R.val.service,Zz R.val.inst,Zf R.val.box,Zy Yx R.err,Zy Yx (j:Int)])) 0 (Nat.zero_le _) rfl ?_ ?_
   ·intro j hj
    simp (config:={maxSteps:=10000000}) only [Ym,↓sInt,↓sU8,↓sBool,↓sStr,↓sBs,↓sSl,↓sAgg,↓sTup,↓sCons,↓sNil,↓sNilB,↓sChk,↓sChkBind,↓sSome]
    by_cases hj1:(j:Int)<X.entries.length
    case neg =>
     rw [sel_neg (by simpa using hj1)]
     exact ⟨_,rfl,j,rfl⟩
    have hj2:j<X.entries.length:=by omega
    have hj3:j<O.db.entries.length:=by have:=hf.len;omega
    have d1:(decide ((0:Int)≤(j:Int))&&decide ((j:Int)<(X.entries.length:Int))&&true)=true:=by simp;omega
    have d2:(decide ((0:Int)≤(j:Int))&&decide ((j:Int)<(O.db.entries.length:Int))&&true)=true:=by simp;omega
    have g1:=Vf hj2
    have g2:=Vf hj3
    have hN:=hnr j
    rw [sel_pos (by simpa using hj1)]
    simp (config:={maxSteps:=10000000}) only [d1,d2,Int.toNat_natCast,g1,g2,Zm,↓sInt,↓sU8,↓sBool,↓sStr,↓sBs,↓sSl,↓sAgg,↓sTup,↓sCons,↓sNil,↓sNilB,↓sChk,↓sChkBind,↓sSome]
    generalize X.entries.getD j Vq=x at hN ⊢
    generalize O.db.entries.getD j Vq=y at hN ⊢
    rw [wrap_i64 (n:=(j:Int)+1) (by omega) (by omega)]
    have hnext:Round (fun j:Nat=>[Zh 13 ls,AV.u8 skw,Yy false,Zz X.realm,Zh 9 (X.entries.map Zm),Zy Yx (i:Int),Zz O.db.realm,Zh 9 (O.db.entries.map Zm),Zy Yx R.val.op,Zz R.val.user.name,Zz R.val.user.inst,Zz R.val.user.realm,Zy Yx R.val.kvno,Zz R.val.realm,Zf R.val.ticket,Zz R.val.service,Zz R.val.inst,Zf R.val.box,Zy Yx R.err,Zy Yx (j:Int)]) (fun j=>j≤X.entries.length) (fun j=>X.entries.length-j)
     (fun r=>∃ j:Nat,r=(Ex.exit 2,[Zh 13 ls,AV.u8 skw,Yy false,Zz X.realm,Zh 9 (X.entries.map Zm),Zy Yx (i:Int),Zz O.db.realm,Zh 9 (O.db.entries.map Zm),Zy Yx R.val.op,Zz R.val.user.name,Zz R.val.user.inst,Zz R.val.user.realm,Zy Yx R.val.kvno,Zz R.val.realm,Zf R.val.ticket,Zz R.val.service,Zz R.val.inst,Zf R.val.box,Zy Yx R.err,Zy Yx (j:Int)])) j (.inl [Zh 13 ls,AV.u8 skw,Yy false,Zz X.realm,Zh 9 (X.entries.map Zm),Zy Yx (i:Int),Zz O.db.realm,Zh 9 (O.db.entries.map Zm),Zy Yx R.val.op,Zz R.val.user.name,Zz R.val.user.inst,Zz R.val.user.realm,Zy Yx R.val.kvno,Zz R.val.realm,Zf R.val.ticket,Zz R.val.service,Zz R.val.inst,Zf R.val.box,Zy Yx R.err,Zy Yx ((j:Int)+1)]):=⟨j+1,rfl,by omega,by dsimp only;omega⟩
    by_cases hxy:x=y
    ·rw [sel_pos (Kerb.Entry.eqb_iff.2 hxy)]
     exact ⟨_,rfl,hnext⟩
    rw [sel_neg (by rw [Bool.eq_false_iff];exact fun h=>hxy (Kerb.Entry.eqb_iff.1 h))]
    rcases hN with hN | ⟨n1,n2,n3,n4,n5,n6,n7,n8,n9,n10⟩
    ·exact absurd hN hxy
    have m1:(R.err==0)=true:=by simpa using n1
    have m2:(R.val.op==2)=false:=by simpa using n2
    have m3:(x.name==R.val.user.name)=true:=by simpa using n3
    have m4:(x.inst==R.val.user.inst)=true:=by simpa using n4
    simp only [m1,m2,m3,m4,n6,n7,n8,n9,n10,beq_self_eq_true,Xk,Bool.not_true,sFalse]
    rcases n5 with ⟨n5,n5'⟩ | n5
    ·simp only [n5,n5',beq_self_eq_true,Bool.not_true,sFalse]
     exact ⟨_,rfl,hnext⟩
    ·have m5:(R.val.op==3)=true:=by simpa using n5
     simp only [m5,Bool.not_true,sFalse]
     cases (x.key==y.key)<;>cases (x.kvno==y.kvno)<;>exact ⟨_,rfl,hnext⟩
   ·rintro _ ⟨j,rfl⟩
    simp only [↓A0,A0]
    rw [sel_pos (by rfl)]
    refine ⟨_,rfl,(O.db,i+1),?_,⟨kO,by simp only;omega⟩,by simp only;omega⟩
    rw [wrap_i64 (by omega) (by omega)]
    rfl
  ·rintro _ ⟨⟨X,i⟩,rfl⟩
   simp only [↓A0,A0]
   rw [sel_pos (by rfl)]
 ·cases h
end Go.Proofs.YtaikjfcgemjghaaGreat
