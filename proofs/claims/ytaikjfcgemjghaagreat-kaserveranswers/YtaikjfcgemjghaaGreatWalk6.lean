/- What the functions of this seat compute. -/
import Derived.Test.YtaikjfcgemjghaaGreatTab
import Derived.Test.YtaikjfcgemjghaaGreatKerbPlain
import Derived.Test.YtaikjfcgemjghaaGreatAbsStep
import Derived.Test.YtaikjfcgemjghaaGreatKerbKaPlain
import Derived.Test.YtaikjfcgemjghaaGreatKerbKaRef
import Derived.Test.YtaikjfcgemjghaaGreatKerbCli3
import Derived.Test.YtaikjfcgemjghaaGreatKerbCli4
import Derived.Test.YtaikjfcgemjghaaGreatKerbCli5
import Derived.Test.YtaikjfcgemjghaaGreatKerbSrvL
import Derived.Test.YtaikjfcgemjghaaGreatKerbKac2
open Go.Abs.AV renaming int→Zz,str→Zy,bs→Zv,sl→Zk,bool→Zn,agg→Yj,onAgg→Yb,u8→Xg
open Kerb.Issue renaming service→Zx,server→Zu,client→Zq,session→Yp,granter→Yd,sealer→Ym,issued→Yh,text→Xu,stop→Xq,kind→Xj
open List renaming length→Zw,map→Yz,length_map→Xy,all→Xm
open Kerb.Prin renaming realm→Zj,name→Zd,inst→Zf,mk→Yf
open Kerb.Entry renaming av→Zp
open Go.IntKind renaming i64→Zg,wrap→Yv,u64→Xp
open Kerb renaming decodeKaRequest→Zb,toEntry→Zh,encodeKaReply→Yx,map_toEntry→Yg,isEntry→Xz,within→Xd,Db→Xb
open Option renaming bind→Zm
open Kerb.Db renaming mk→Yy,entries→Yu,realm→Yk
open Kerb.KaOut renaming db→Yw,answer→Yn,issue→Xw,ok→Xf
open Kerb.Dec renaming val→Yq
open Bool renaming and_self→Xx
open Kerb.KaReply renaming mk→Xv
open Nat renaming le_trans→Xk
open Prod renaming snd→Xn
open Kerb.KaRequest renaming user→Xh
namespace Go.Proofs.YtaikjfcgemjghaaGreat
open Go Go.Abs Go.Proofs
set_option linter.unusedVariables false
set_option linter.unusedSimpArgs false
set_option maxRecDepth 100000
theorem w68:Walked Tryz.prog G 68 14 sp68:=by
 refine ⟨Tryz.f68,Tryz.func68,by decide +kernel,rfl,fun xs bl r h=> ?_⟩
 unfold sp68 at h
 split at h
 ·rename_i op u1 u2 u3 kv qr tk sv ins bx rl els now ad sk se
  obtain ⟨hpre,h2⟩:=chk_inv h;cases h2
  show runFnH (G.env 68 14) G.rts (G.own 68) Tryz.f68 _ _ [0]=_
  refine Eq.trans (b:=(let t1:List (List AV):=[[Zz .i64 op,Zy u1,Zy u2,Zy u3,Zz .i64 kv,Zy qr,Zv tk,Zy sv,Zy ins,Zv bx,Zy rl,Zk 9 els,Zz .i64 now,Zz .i64 ad,Zz .i64 sk,Zz .u64 se]];let t2:List AV:=[Zz .i64 0,Zy [],Zy [],Zy [],Zy [],Zy [],Zy [],Zy [],Zy [],Zy [],Zz .u64 0,Zz .u64 0,Zz .u64 0,Zv [],Zz .i64 0,Zz .i64 0,Zn false];let t3:Bool:=l63 u1&&l63 u2&&l63 u3&&l63 qr&&l63 sv&&l63 ins&&l63 rl&&Kerb.isU64 se&&decide (Zw tk≤1000000)&&decide (Zw bx≤1000000)&&Xm els Xz&&decide (Zw els≤1000000);let t0:Option (AV×Blocks):=some (Yj (Zy rl::Zk 9 els::Zv []::t2),t1);sel (!u3==rl) (sel (!Kerb.Enc.err (Yx (Xv op 8 []))==0) t0 (some (Yj (Zy rl::Zk 9 els::Zv (Kerb.Enc.val (Yx (Xv op 8 [])))::t2),t1))) (Zm (chk (Xm els Xz&&decide (Zw els≤1000000)) (some (AV.tup [Zz .i64 (Prod.fst (Kerb.clientEnt (Yy rl (Yz Zh els)) u1 u2 now)),Zz .i64 (Xn (Kerb.clientEnt (Yy rl (Yz Zh els)) u1 u2 now))],[]))) (kT fun vs=>cInt .i64 vs fun n r=>let t5:Kerb.KaOut:=Kerb.KaOut.mk (Kerb.kaFailed (Yy rl (Yz Zh els)) n now) (Kerb.kaRefuse op 62) Kerb.noIssue false;let t4:Kerb.Issue:=Xw t5;cInt .i64 r fun n_1 r=>onNil r (sel (!n_1==0) (sel (!Kerb.Enc.err (Yx (Xv op n_1 []))==0) t0 (some (Yj (Zy rl::Zk 9 els::Zv (Kerb.Enc.val (Yx (Xv op n_1 [])))::t2),t1))) (chk (decide (0≤n)&&decide (n<(↑(Zw els):Int))&&true) (Yb (List.getD els (Int.toNat n) AV.undef) fun cs=>cStr cs fun b r=>cStr r fun b_1 r=>cInt .u64 r fun n_2 r=>cInt .i64 r fun n_3 r=>cInt .i64 r fun n_4 r=>cInt .i64 r fun n_5 r=>cInt .i64 r fun n_6 r=>cInt .i64 r fun n_7 r=>cInt .i64 r fun n_8 r=>let t6:Kerb.Entry:=Kerb.Entry.mk b b_1 n_2 n_3 n_4 n_5 n_6 n_7 n_8;let t8:Kerb.Dec Xb:=Kerb.putEnt (Yy rl (Yz Zh els)) n (Kerb.Entry.mk b b_1 n_2 n_3 n_4 n_5 n_6 0 n_8);let t7:Xb:=Yq t8;onNil r (sel (decide (now<n_8)) (sel (!Kerb.Enc.err (Yx (Xv op 81 []))==0) t0 (some (Yj (Zy rl::Zk 9 els::Zv (Kerb.Enc.val (Yx (Xv op 81 [])))::t2),t1))) (Zm (chk (decide (Zw bx≤140737488355328)) (some (AV.tup [Zv (Prod.fst (Kerb.openBox bx 7 n_2)),Zn (Xn (Kerb.openBox bx 7 n_2))],[]))) (kT fun vs=>cBs vs fun b_2 r=>cBool r fun b_3 r=>onNil r (sel (!b_3) (Zm (chk (t3&&decide (Kerb.Db.err (Yy rl (Yz Zh els))=0)&&decide (0≤n)&&decide (n<(↑(Zw els):Int))&&Kerb.kaOp op&&Xd now 4294967295) (some (Yj [Zy (Yk (Yw t5)),Zk 9 (Yz Zp (Yu (Yw t5))),Zv (Yn t5),Zz .i64 (Xj t4),Zy (Zd (Zu t4)),Zy (Zf (Zu t4)),Zy (Zj (Zu t4)),Zy (Zd (Zq t4)),Zy (Zf (Zq t4)),Zy (Zj (Zq t4)),Zy (Zd (Zx t4)),Zy (Zf (Zx t4)),Zy (Zj (Zx t4)),Zz .u64 (Yp t4),Zz .u64 (Ym t4),Zz .u64 (Yd t4),Zv (Xu t4),Zz .i64 (Yh t4),Zz .i64 (Xq t4),Zn (Xf t5)],t1))) fun (r:AV×Blocks)=>onConsB (Xn r) fun (x:List AV) (r_1:List (List AV))=>cInt .i64 x fun n r_2=>cStr r_2 fun b r_3=>cStr r_3 fun b_4 r_4=>cStr r_4 fun b_5 r_5=>cInt .i64 r_5 fun n_9 r_6=>cStr r_6 fun b_6 r_7=>cBs r_7 fun b_7 r_8=>cStr r_8 fun b_8 r_9=>cStr r_9 fun b_9 r_10=>cBs r_10 fun b_10 r_11=>cStr r_11 fun b_11 r_12=>cSl 9 r_12 fun b_12 r_13=>cInt .i64 r_13 fun n_10 r_14=>cInt .i64 r_14 fun n_11 r_15=>cInt .i64 r_15 fun n_12 r_16=>cInt .u64 r_16 fun n_13 r_17=>onNil r_17 (onNilB r_1 (Yb (Prod.fst r) fun cs=>cStr cs fun b_13 r=>cSl 9 r fun b_14 r=>cBs r fun b_15 r=>cInt .i64 r fun n_14 r=>cStr r fun b_16 r=>cStr r fun b_17 r=>cStr r fun b_18 r=>cStr r fun b_19 r=>cStr r fun b_20 r=>cStr r fun b_21 r=>cStr r fun b_22 r=>cStr r fun b_23 r=>cStr r fun b_24 r=>cInt .u64 r fun n_15 r=>cInt .u64 r fun n_16 r=>cInt .u64 r fun n_17 r=>cBs r fun b_25 r=>cInt .i64 r fun n_18 r=>cInt .i64 r fun n_19 r=>cBool r fun b_26 r=>onNil r (some (Yj [Zy b_13,Zk 9 b_14,Zv b_15,Zz .i64 n_14,Zy b_16,Zy b_17,Zy b_18,Zy b_19,Zy b_20,Zy b_21,Zy b_22,Zy b_23,Zy b_24,Zz .u64 n_15,Zz .u64 n_16,Zz .u64 n_17,Zv b_25,Zz .i64 n_18,Zz .i64 n_19,Zn b_26],[[Zz .i64 n,Zy b,Zy b_4,Zy b_5,Zz .i64 n_9,Zy b_6,Zv b_7,Zy b_8,Zy b_9,Zv b_10,Zy b_11,Zk 9 b_12,Zz .i64 n_10,Zz .i64 n_11,Zz .i64 n_12,Zz .u64 n_13]]))))) (Zm (chk (l63 rl&&Xm els Xz&&decide (Zw els≤1000000)&&l63 b&&l63 b_1&&Kerb.isU64 n_2) (some (AV.tup [Yj [Zy (Yk t7),Zk 9 (Yz Zp (Yu t7))],Zz .i64 (Kerb.Dec.err t8)],[]))) (kT fun vs=>onCons vs fun x r=>Yb x fun cs=>cStr cs fun b r_1=>cSl 9 r_1 fun b_4 r_2=>let t11:Kerb.KaOut:=Kerb.kaAuthenticate (Yy rl (Yz Zh els)) (Yy b (Yz Zh b_4)) t6 op now ad sk se (Yf u1 u2 u3) b_2;let t12:Kerb.KaOut:=Kerb.kaChangePw (Yy rl (Yz Zh els)) (Yy b (Yz Zh b_4)) n op now sk b_2;let t9:Kerb.Issue:=Xw t11;let t10:Kerb.Issue:=Xw t12;onNil r_2 (cInt .i64 r fun n_9 r=>onNil r (sel (!n_9==0) t0 (sel (op==1) (Zm (chk (t3&&Xm b_4 Xz&&decide (Zw b_2≤1000000)&&Kerb.kaOp op&&Xd now 4294967295&&Kerb.isU64 n_2&&Kerb.isI64 n_5&&Kerb.isI64 n_4) (some (Yj [Zy (Yk (Yw t11)),Zk 9 (Yz Zp (Yu (Yw t11))),Zv (Yn t11),Zz .i64 (Xj t9),Zy (Zd (Zu t9)),Zy (Zf (Zu t9)),Zy (Zj (Zu t9)),Zy (Zd (Zq t9)),Zy (Zf (Zq t9)),Zy (Zj (Zq t9)),Zy (Zd (Zx t9)),Zy (Zf (Zx t9)),Zy (Zj (Zx t9)),Zz .u64 (Yp t9),Zz .u64 (Ym t9),Zz .u64 (Yd t9),Zv (Xu t9),Zz .i64 (Yh t9),Zz .i64 (Xq t9),Zn (Xf t11)],t1))) fun (r:AV×Blocks)=>onConsB (Xn r) fun (x:List AV) (r_3:List (List AV))=>cInt .i64 x fun n r_4=>cStr r_4 fun b r_5=>cStr r_5 fun b_5 r_6=>cStr r_6 fun b_6 r_7=>cInt .i64 r_7 fun n_10 r_8=>cStr r_8 fun b_7 r_9=>cBs r_9 fun b_8 r_10=>cStr r_10 fun b_9 r_11=>cStr r_11 fun b_10 r_12=>cBs r_12 fun b_11 r_13=>cStr r_13 fun b_12 r_14=>cSl 9 r_14 fun b_13 r_15=>cInt .i64 r_15 fun n_11 r_16=>cInt .i64 r_16 fun n_12 r_17=>cInt .i64 r_17 fun n_13 r_18=>cInt .u64 r_18 fun n_14 r_19=>onNil r_19 (onNilB r_3 (Yb (Prod.fst r) fun cs=>cStr cs fun b_14 r=>cSl 9 r fun b_15 r=>cBs r fun b_16 r=>cInt .i64 r fun n_15 r=>cStr r fun b_17 r=>cStr r fun b_18 r=>cStr r fun b_19 r=>cStr r fun b_20 r=>cStr r fun b_21 r=>cStr r fun b_22 r=>cStr r fun b_23 r=>cStr r fun b_24 r=>cStr r fun b_25 r=>cInt .u64 r fun n_16 r=>cInt .u64 r fun n_17 r=>cInt .u64 r fun n_18 r=>cBs r fun b_26 r=>cInt .i64 r fun n_19 r=>cInt .i64 r fun n_20 r=>cBool r fun b_27 r=>onNil r (some (Yj [Zy b_14,Zk 9 b_15,Zv b_16,Zz .i64 n_15,Zy b_17,Zy b_18,Zy b_19,Zy b_20,Zy b_21,Zy b_22,Zy b_23,Zy b_24,Zy b_25,Zz .u64 n_16,Zz .u64 n_17,Zz .u64 n_18,Zv b_26,Zz .i64 n_19,Zz .i64 n_20,Zn b_27],[[Zz .i64 n,Zy b,Zy b_5,Zy b_6,Zz .i64 n_10,Zy b_7,Zv b_8,Zy b_9,Zy b_10,Zv b_11,Zy b_12,Zk 9 b_13,Zz .i64 n_11,Zz .i64 n_12,Zz .i64 n_13,Zz .u64 n_14]]))))) (Zm (chk (t3&&Xm b_4 Xz&&decide (Zw b_4≤1000000)&&decide (Zw b_2≤1000000)&&Kerb.kaOp op&&decide (0≤n)&&decide (n<(↑(Zw els):Int))&&l63 b) (some (Yj [Zy (Yk (Yw t12)),Zk 9 (Yz Zp (Yu (Yw t12))),Zv (Yn t12),Zz .i64 (Xj t10),Zy (Zd (Zu t10)),Zy (Zf (Zu t10)),Zy (Zj (Zu t10)),Zy (Zd (Zq t10)),Zy (Zf (Zq t10)),Zy (Zj (Zq t10)),Zy (Zd (Zx t10)),Zy (Zf (Zx t10)),Zy (Zj (Zx t10)),Zz .u64 (Yp t10),Zz .u64 (Ym t10),Zz .u64 (Yd t10),Zv (Xu t10),Zz .i64 (Yh t10),Zz .i64 (Xq t10),Zn (Xf t12)],t1))) fun (r:AV×Blocks)=>onConsB (Xn r) fun (x:List AV) (r_3:List (List AV))=>cInt .i64 x fun n r_4=>cStr r_4 fun b r_5=>cStr r_5 fun b_5 r_6=>cStr r_6 fun b_6 r_7=>cInt .i64 r_7 fun n_10 r_8=>cStr r_8 fun b_7 r_9=>cBs r_9 fun b_8 r_10=>cStr r_10 fun b_9 r_11=>cStr r_11 fun b_10 r_12=>cBs r_12 fun b_11 r_13=>cStr r_13 fun b_12 r_14=>cSl 9 r_14 fun b_13 r_15=>cInt .i64 r_15 fun n_11 r_16=>cInt .i64 r_16 fun n_12 r_17=>cInt .i64 r_17 fun n_13 r_18=>cInt .u64 r_18 fun n_14 r_19=>onNil r_19 (onNilB r_3 (Yb (Prod.fst r) fun cs=>cStr cs fun b_14 r=>cSl 9 r fun b_15 r=>cBs r fun b_16 r=>cInt .i64 r fun n_15 r=>cStr r fun b_17 r=>cStr r fun b_18 r=>cStr r fun b_19 r=>cStr r fun b_20 r=>cStr r fun b_21 r=>cStr r fun b_22 r=>cStr r fun b_23 r=>cStr r fun b_24 r=>cStr r fun b_25 r=>cInt .u64 r fun n_16 r=>cInt .u64 r fun n_17 r=>cInt .u64 r fun n_18 r=>cBs r fun b_26 r=>cInt .i64 r fun n_19 r=>cInt .i64 r fun n_20 r=>cBool r fun b_27 r=>onNil r (some (Yj [Zy b_14,Zk 9 b_15,Zv b_16,Zz .i64 n_15,Zy b_17,Zy b_18,Zy b_19,Zy b_20,Zy b_21,Zy b_22,Zy b_23,Zy b_24,Zy b_25,Zz .u64 n_16,Zz .u64 n_17,Zz .u64 n_18,Zv b_26,Zz .i64 n_19,Zz .i64 n_20,Zn b_27],[[Zz .i64 n,Zy b,Zy b_5,Zy b_6,Zz .i64 n_10,Zy b_7,Zv b_8,Zy b_9,Zy b_10,Zv b_11,Zy b_12,Zk 9 b_13,Zz .i64 n_11,Zz .i64 n_12,Zz .i64 n_13,Zz .u64 n_14]]))))))))))))))))))):Option (AV×Blocks))) (by kernel_rfl) ?_
  delta kT
  try dsimp only [cStr,cBs,cBool,cU8,cInt,cSl,l63]
  simp only [Bool.and_eq_true,decide_eq_true_eq] at hpre
  obtain ⟨⟨⟨⟨hpre,he⟩,hop⟩,hop2⟩,hn⟩:=hpre
  obtain ⟨⟨⟨⟨⟨⟨⟨⟨⟨⟨⟨c1,c2⟩,c3⟩,c4⟩,c5⟩,c6⟩,c7⟩,c8⟩,c9⟩,c10⟩,hall⟩,hlen⟩:=hpre
  obtain ⟨es,rfl,hok⟩:=Kerb.ents_of hall
  rw [Yg] at he ⊢
  simp only [Xy] at hlen
  have bl:decide (bx.length≤140737488355328)=true:=by simp;omega
  simp only [Yg,hall,hn,hop,he,Xy,hlen,bl,c1,c2,c3,c4,c5,c6,c7,c8,c9,c10,eq_self,decide_true,Xx,List.map_nil,↓A0,A0]
  unfold Kerb.kaByUser
  dsimp only
  by_cases h1:u3=rl
  case neg =>
   rw [sel_pos (by simpa using h1),if_pos h1]
   by_cases hr:(Yx ⟨op,8,[]⟩).err=0
   ·rw [sel_neg (by simpa using hr)];rfl
   ·rw [sel_pos (by simpa using hr),Kerb.kaRefuse_nil hr];rfl
  rw [sel_neg (by simp [h1]),if_neg (not_not_intro h1)]
  have hs := @Kerb.clie_lt ⟨rl,es⟩ u1 u2 now
  generalize Kerb.clientEnt ⟨rl,es⟩ u1 u2 now=F at hs ⊢
  obtain ⟨i,e⟩:=F
  dsimp only at hs ⊢
  by_cases h2:e=0
  case neg =>
   rw [sel_pos (by simpa using h2),if_pos h2]
   by_cases hr:(Yx ⟨op,e,[]⟩).err=0
   ·rw [sel_neg (by simpa using hr)];rfl
   ·rw [sel_pos (by simpa using hr),Kerb.kaRefuse_nil hr];rfl
  obtain ⟨g1,g2⟩:=hs h2
  have g3:i<(es.length:Int):=by omega
  have i0:decide (0≤i)=true:=decide_eq_true g1
  have i1:decide (i<(es.length:Int))=true:=decide_eq_true g3
  have hp:=Kerb.putEnt_clear (d:=⟨rl,es⟩) (i:=i) he g1 g3
  have ck:=Kerb.kaClear_ok (d:=⟨rl,es⟩) (i:=i) hok
  have ca:=Kerb.all_ents ck
  have cl:=Kerb.kaClear_len ⟨rl,es⟩ i
  have cr:(Kerb.kaClear ⟨rl,es⟩ i).realm=rl:=rfl
  have ho:=hok _ (Kerb.ent_mem g2)
  rw [sel_neg (by simpa using h2),if_neg (not_not_intro h2),chk_of (by rw [i0,i1];rfl),Kerb.getD_ent g2]
  unfold Kerb.entAt at hp ⊢
  dsimp only at hp cl ⊢
  generalize Kerb.kaClear ⟨rl,es⟩ i=C at hp ck ca cl cr ⊢
  generalize es.getD i.toNat Kerb.noEntry=x at hp ho ⊢
  simp only [Zp,i0,i1,↓A0,A0]
  by_cases h3:now<x.till
  ·rw [sel_pos (by simpa using h3),if_pos h3]
   by_cases hr:(Yx ⟨op,81,[]⟩).err=0
   ·rw [sel_neg (by simpa using hr)];rfl
   ·rw [sel_pos (by simpa using hr),Kerb.kaRefuse_nil hr];rfl
  rw [sel_neg (by simpa using h3),if_neg h3]
  have ol:=Kerb.openBox_len bx 7 x.key
  generalize Kerb.openBox bx 7 x.key=O at ol ⊢
  obtain ⟨bd,ok⟩:=O
  dsimp only at ol ⊢
  cases ok
  ·rw [sel_pos (by rfl),if_pos rfl]
   try rw [chk_of (by rfl)]
   try rfl
  rw [sel_neg (by rfl),if_neg (show ¬ (true=false) from by decide)]
  obtain ⟨o1,o2,o3,o4,o5,o6,_⟩:=ho
  have bd1:decide (Zw bd≤1000000)=true:=by simp;omega
  have cl2:decide (C.entries.length≤1000000)=true:=by simp;omega
  have cr2:decide (C.realm.length≤9223372036854775807)=true:=by rw [cr];exact decide_eq_true c7
  simp only [o1,o2,o3,o5,o6,hp,ca,cr2,cl2,c7,bd1,Xy,Yg,decide_true,Xx,eq_self,↓A0,A0]
  rw [sel_neg (by rfl)]
  by_cases h4:op=1
  ·rw [sel_pos (by simpa using h4),if_pos h4]
  ·rw [sel_neg (by simpa using h4),if_neg h4]
 ·cases h
theorem w25:Walked Tryz.prog G 25 15 sp25:=by
 refine ⟨Tryz.f25,Tryz.func25,by decide +kernel,rfl,fun xs bl r h=> ?_⟩
 unfold sp25 at h
 split at h
 ·rename_i rl els now ad sk se msg
  obtain ⟨hpre,h2⟩:=chk_inv h;cases h2
  refine Eq.trans (b:=(let t0:Option (AV×Blocks):=some (AV.tup [Yj [Zy rl,Zk 9 els],Zv [],Yj [Zz .i64 0,Zy [],Zy [],Zy [],Zy [],Zy [],Zy [],Zy [],Zy [],Zy [],Zz .u64 0,Zz .u64 0,Zz .u64 0,Zv [],Zz .i64 0,Zz .i64 0],Zn false],[]);let t1:List AV:=[Zy rl,Zk 9 els,Zz .i64 now,Zz .i64 ad,Zz .i64 sk,Zz .u64 se];sel (decide (now<0)) t0 (sel (decide (now>4294967295)) t0 (sel (decide (ad<0)) t0 (sel (decide (ad>4294967295)) t0 (Zm (chk (decide (Zw msg≤140737488355328)) (some (AV.tup [Yj [Zz .i64 (Kerb.KaRequest.op (Yq (Zb msg))),Zy (Zd (Xh (Yq (Zb msg)))),Zy (Zf (Xh (Yq (Zb msg)))),Zy (Zj (Xh (Yq (Zb msg)))),Zz .i64 (Kerb.KaRequest.kvno (Yq (Zb msg))),Zy (Kerb.KaRequest.realm (Yq (Zb msg))),Zv (Kerb.KaRequest.ticket (Yq (Zb msg))),Zy (Kerb.KaRequest.service (Yq (Zb msg))),Zy (Kerb.KaRequest.inst (Yq (Zb msg))),Zv (Kerb.KaRequest.box (Yq (Zb msg)))],Zz .i64 (Kerb.Dec.err (Zb msg))],[]))) (kT fun vs=>onCons vs fun x r=>Yb x fun cs=>cInt .i64 cs fun n r_1=>cStr r_1 fun b r_2=>cStr r_2 fun b_1 r_3=>cStr r_3 fun b_2 r_4=>let t2:Bool:=l63 b&&l63 b_1&&l63 b_2;cInt .i64 r_4 fun n_1 r_5=>cStr r_5 fun b_3 r_6=>cBs r_6 fun b_4 r_7=>cStr r_7 fun b_5 r_8=>cStr r_8 fun b_6 r_9=>let t3:Bool:=t2&&l63 b_3&&l63 b_5&&l63 b_6&&l63 rl&&Kerb.isU64 se&&decide (Zw b_4≤1000000);cBs r_9 fun b_7 r_10=>let t6:Kerb.KaOut:=Kerb.kaGetTicket (Yy rl (Yz Zh els)) now ad sk se (Kerb.KaRequest.mk n (Yf b b_1 b_2) n_1 b_3 b_4 b_5 b_6 b_7);let t7:Kerb.KaOut:=Kerb.kaByUser (Yy rl (Yz Zh els)) now ad sk se (Kerb.KaRequest.mk n (Yf b b_1 b_2) n_1 b_3 b_4 b_5 b_6 b_7);let t8:List (List AV):=[Zz .i64 n::Zy b::Zy b_1::Zy b_2::Zz .i64 n_1::Zy b_3::Zv b_4::Zy b_5::Zy b_6::Zv b_7::t1];let t9:Bool:=t3&&decide (Zw b_7≤1000000)&&Xm els Xz&&decide (Zw els≤1000000);let t4:Kerb.Issue:=Xw t6;let t5:Kerb.Issue:=Xw t7;onNil r_10 (cInt .i64 r fun n_2 r=>onNil r (sel (!n_2==0) t0 (sel (n==2) (Zm (chk (t9&&decide (n=2)&&Xd now 4294967295) (some (Yj [Zy (Yk (Yw t6)),Zk 9 (Yz Zp (Yu (Yw t6))),Zv (Yn t6),Zz .i64 (Xj t4),Zy (Zd (Zu t4)),Zy (Zf (Zu t4)),Zy (Zj (Zu t4)),Zy (Zd (Zq t4)),Zy (Zf (Zq t4)),Zy (Zj (Zq t4)),Zy (Zd (Zx t4)),Zy (Zf (Zx t4)),Zy (Zj (Zx t4)),Zz .u64 (Yp t4),Zz .u64 (Ym t4),Zz .u64 (Yd t4),Zv (Xu t4),Zz .i64 (Yh t4),Zz .i64 (Xq t4),Zn (Xf t6)],t8))) fun (r:AV×Blocks)=>onConsB (Xn r) fun (x:List AV) (r_11:List (List AV))=>cInt .i64 x fun n r_12=>cStr r_12 fun b r_13=>cStr r_13 fun b r_14=>cStr r_14 fun b r_15=>cInt .i64 r_15 fun n r_16=>cStr r_16 fun b r_17=>cBs r_17 fun b r_18=>cStr r_18 fun b r_19=>cStr r_19 fun b r_20=>cBs r_20 fun b r_21=>cStr r_21 fun b r_22=>cSl 9 r_22 fun b r_23=>cInt .i64 r_23 fun n r_24=>cInt .i64 r_24 fun n r_25=>cInt .i64 r_25 fun n r_26=>cInt .u64 r_26 fun n r_27=>onNil r_27 (onNilB r_11 (Yb (Prod.fst r) fun cs=>cStr cs fun b r=>cSl 9 r fun b_8 r=>cBs r fun b_9 r=>cInt .i64 r fun n r=>cStr r fun b_10 r=>cStr r fun b_11 r=>cStr r fun b_12 r=>cStr r fun b_13 r=>cStr r fun b_14 r=>cStr r fun b_15 r=>cStr r fun b_16 r=>cStr r fun b_17 r=>cStr r fun b_18 r=>cInt .u64 r fun n_3 r=>cInt .u64 r fun n_4 r=>cInt .u64 r fun n_5 r=>cBs r fun b_19 r=>cInt .i64 r fun n_6 r=>cInt .i64 r fun n_7 r=>cBool r fun b_20 r=>onNil r (some (AV.tup [Yj [Zy b,Zk 9 b_8],Zv b_9,Yj [Zz .i64 n,Zy b_10,Zy b_11,Zy b_12,Zy b_13,Zy b_14,Zy b_15,Zy b_16,Zy b_17,Zy b_18,Zz .u64 n_3,Zz .u64 n_4,Zz .u64 n_5,Zv b_19,Zz .i64 n_6,Zz .i64 n_7],Zn b_20],[]))))) (Zm (chk (t9&&decide (Kerb.Db.err (Yy rl (Yz Zh els))=0)&&Kerb.kaOp n&&decide (n≠2)&&Xd now 4294967295) (some (Yj [Zy (Yk (Yw t7)),Zk 9 (Yz Zp (Yu (Yw t7))),Zv (Yn t7),Zz .i64 (Xj t5),Zy (Zd (Zu t5)),Zy (Zf (Zu t5)),Zy (Zj (Zu t5)),Zy (Zd (Zq t5)),Zy (Zf (Zq t5)),Zy (Zj (Zq t5)),Zy (Zd (Zx t5)),Zy (Zf (Zx t5)),Zy (Zj (Zx t5)),Zz .u64 (Yp t5),Zz .u64 (Ym t5),Zz .u64 (Yd t5),Zv (Xu t5),Zz .i64 (Yh t5),Zz .i64 (Xq t5),Zn (Xf t7)],t8))) fun (r:AV×Blocks)=>onConsB (Xn r) fun (x:List AV) (r_11:List (List AV))=>cInt .i64 x fun n r_12=>cStr r_12 fun b r_13=>cStr r_13 fun b r_14=>cStr r_14 fun b r_15=>cInt .i64 r_15 fun n r_16=>cStr r_16 fun b r_17=>cBs r_17 fun b r_18=>cStr r_18 fun b r_19=>cStr r_19 fun b r_20=>cBs r_20 fun b r_21=>cStr r_21 fun b r_22=>cSl 9 r_22 fun b r_23=>cInt .i64 r_23 fun n r_24=>cInt .i64 r_24 fun n r_25=>cInt .i64 r_25 fun n r_26=>cInt .u64 r_26 fun n r_27=>onNil r_27 (onNilB r_11 (Yb (Prod.fst r) fun cs=>cStr cs fun b r=>cSl 9 r fun b_8 r=>cBs r fun b_9 r=>cInt .i64 r fun n r=>cStr r fun b_10 r=>cStr r fun b_11 r=>cStr r fun b_12 r=>cStr r fun b_13 r=>cStr r fun b_14 r=>cStr r fun b_15 r=>cStr r fun b_16 r=>cStr r fun b_17 r=>cStr r fun b_18 r=>cInt .u64 r fun n_3 r=>cInt .u64 r fun n_4 r=>cInt .u64 r fun n_5 r=>cBs r fun b_19 r=>cInt .i64 r fun n_6 r=>cInt .i64 r fun n_7 r=>cBool r fun b_20 r=>onNil r (some (AV.tup [Yj [Zy b,Zk 9 b_8],Zv b_9,Yj [Zz .i64 n,Zy b_10,Zy b_11,Zy b_12,Zy b_13,Zy b_14,Zy b_15,Zy b_16,Zy b_17,Zy b_18,Zz .u64 n_3,Zz .u64 n_4,Zz .u64 n_5,Zv b_19,Zz .i64 n_6,Zz .i64 n_7],Zn b_20],[]))))))))))))):Option (AV×Blocks))) (by kernel_rfl) ?_
  delta kT
  try dsimp only [cStr,cBs,cBool,cU8,cInt,cSl,l63]
  simp only [Bool.and_eq_true,decide_eq_true_eq] at hpre
  obtain ⟨⟨⟨⟨⟨c7,hall⟩,hlen⟩,he⟩,c8⟩,hm⟩:=hpre
  obtain ⟨es,rfl,hok⟩:=Kerb.ents_of hall
  rw [Yg] at he ⊢
  simp only [Xy] at hlen
  have ml:decide (msg.length≤140737488355328)=true:=by simp;omega
  simp only [Yg,hall,he,Xy,hlen,ml,c7,c8,eq_self,decide_true,Xx,List.map_nil,↓A0,A0]
  unfold Kerb.kaserver
  try dsimp only
  by_cases hw:Xd now 4294967295=true
  case neg =>
   have hw2:Xd now 4294967295=false:=by simpa using hw
   rw [hw2,Bool.false_and,Bool.not_false,if_pos rfl]
   by_cases h1:now<0
   ·rw [sel_pos (by simpa using h1)];rfl
   rw [sel_neg (by simpa using h1),sel_pos (by simp only [decide_eq_true_eq];rw [Kerb.within_iff] at hw;omega)];rfl
  have w1:=Kerb.within_iff.1 hw
  rw [sel_neg (by simp;omega),sel_neg (by simp;omega)]
  by_cases hv:Xd ad 4294967295=true
  case neg =>
   have hw2:Xd ad 4294967295=false:=by simpa using hv
   rw [hw2,Bool.and_false,Bool.not_false,if_pos rfl]
   by_cases h1:ad<0
   ·rw [sel_pos (by simpa using h1)];rfl
   rw [sel_neg (by simpa using h1),sel_pos (by simp only [decide_eq_true_eq];rw [Kerb.within_iff] at hv;omega)];rfl
  have w2:=Kerb.within_iff.1 hv
  rw [sel_neg (by simp;omega),sel_neg (by simp;omega),hw,hv,if_neg (show ¬ ((!(true&&true))=true) from by decide)]
  have rb := @Kerb.kaReq_bd msg
  generalize Zb msg=R at rb ⊢
  by_cases h1:R.err=0
  case neg=>rw [sel_pos (by simpa using h1),if_pos h1];rfl
  rw [sel_neg (by simpa using h1),if_neg (not_not_intro h1)]
  obtain ⟨⟨r1,r2,r3,r4,r5,r6⟩,r7,r8,r9⟩:=rb h1
  have d1:decide (R.val.user.name.length≤9223372036854775807)=true:=decide_eq_true (Xk r1 (by decide))
  have d2:decide (R.val.user.inst.length≤9223372036854775807)=true:=decide_eq_true (Xk r2 (by decide))
  have d3:decide (R.val.user.realm.length≤9223372036854775807)=true:=decide_eq_true (Xk r3 (by decide))
  have d4:decide (R.val.realm.length≤9223372036854775807)=true:=decide_eq_true (Xk r4 (by decide))
  have d5:decide (R.val.service.length≤9223372036854775807)=true:=decide_eq_true (Xk r5 (by decide))
  have d6:decide (R.val.inst.length≤9223372036854775807)=true:=decide_eq_true (Xk r6 (by decide))
  have d8:decide (R.val.ticket.length≤1000000)=true:=decide_eq_true (Xk r8 (by decide))
  have d9:decide (R.val.box.length≤1000000)=true:=decide_eq_true (Xk r9 (by decide))
  by_cases h2:R.val.op=2
  ·rw [sel_pos (by simpa using h2),if_pos h2]
   simp only [h2,d1,d2,d3,d4,d5,d6,d8,d9,hw,c8,eq_self,decide_true,Xx,↓A0,A0]
   obtain ⟨⟨op,user,kvno,realm,ticket,service,inst,box⟩,err⟩:=R
   dsimp only at h2 ⊢
   subst h2
   rfl
  ·rw [sel_neg (by simpa using h2),if_neg h2]
   have h3:decide (R.val.op≠2)=true:=decide_eq_true h2
   simp only [h3,d1,d2,d3,d4,d5,d6,d8,d9,hw,r7,c8,he,eq_self,decide_true,Xx,↓A0,A0]
 ·cases h
theorem p22  : runFn (G.env 22 16) G.rts (G.own 22) Tryz.f22 [] []=some (.bool true,[]):=by kernel_rfl
theorem w22:Walked Tryz.prog G 22 16 sp22:=by
 refine ⟨Tryz.f22,Tryz.func22,by decide +kernel,rfl,fun xs bl r h=> ?_⟩
 unfold sp22 at h
 split at h
 ·cases h;exact p22
 ·cases h
set_option maxHeartbeats 4000000 in
theorem w4:Walked Tryz.prog G 4 17 sp4:=by
 refine ⟨Tryz.f4,Tryz.func4,by decide +kernel,rfl,fun xs bl r h=> ?_⟩
 unfold sp4 at h
 split at h
 ·rename_i ls d nw lf xp bd skw raw rn ra k
  obtain ⟨hpre,h2⟩:=chk_inv h;cases h2
  refine Eq.trans (b:=(sel (decide ((↑(Zw ls):Int)>40)) (some (Zn true,[])) (sel (decide ((↑(Zw d):Int)>200)) (some (Zn true,[])) (sel (decide ((↑(Zw raw):Int)>400)) (some (Zn true,[])) (Zm (chk (decide (Zw d≤100000)&&true) (some (Yj [Zy (Yk (Kerb.dataDb d 0)),Zk 9 (Yz Zp (Yu (Kerb.dataDb d 0)))],[]))) (kA fun cs=>cStr cs fun b r=>cSl 9 r fun b_1 r=>onNil r (Zm (loopM (fun (st:List AV)=>cSl 13 st fun b r=>cBs r fun b_2 r=>cU8 r fun b_3 r=>cBs r fun b_4 r=>cInt .i64 r fun n r=>cInt .i64 r fun n_1 r=>cInt .u64 r fun n_2 r=>cBool r fun b_5 r=>cStr r fun b_6 r=>cSl 9 r fun b_7 r=>cStr r fun b_8 r=>cSl 9 r fun b_9 r=>cInt .i64 r fun n_3 r=>onNil r (sel (decide (n_3≤(↑(Zw b):Int))) (Zm (sel (decide (n_3<(↑(Zw b):Int))) (chk (decide (0≤n_3)&&decide (n_3<(↑(Zw b):Int))&&true) (Yb (List.getD b (Int.toNat n_3) AV.undef) fun cs=>cU8 cs fun b_10 r=>cU8 r fun b_11 r=>cU8 r fun b_12 r=>cU8 r fun b_13 r=>cU8 r fun b_14 r=>cU8 r fun b_15 r=>cU8 r fun b_16 r=>cU8 r fun b_17 r=>cU8 r fun b_18 r=>cU8 r fun b_19 r=>cU8 r fun b_20 r=>cU8 r fun b_21 r=>cInt .u16 r fun n_4 r=>onNil r (Zm (chk (decide (0≤n_4)&&decide (n_4≤65535)) (some (Zv (Kerb.KAsk.message (Kerb.KAsk.mk b_10 b_11 b_12 b_13 b_14 b_15 b_16 b_17 b_18 b_19 b_20 b_21 n_4)),[]))) (kB fun b_22=>chk (decide (0≤n_3)&&decide (n_3<(↑(Zw b):Int))&&true) (Yb (List.getD b (Int.toNat n_3) AV.undef) fun cs=>cU8 cs fun b_23 r=>cU8 r fun b_24 r=>cU8 r fun b_25 r=>cU8 r fun b_26 r=>cU8 r fun b_27 r=>cU8 r fun b_28 r=>cU8 r fun b_29 r=>cU8 r fun b_30 r=>cU8 r fun b_31 r=>cU8 r fun b_32 r=>cU8 r fun b_33 r=>cU8 r fun b_34 r=>cInt .u16 r fun n_5 r=>onNil r (Zm (chk (decide (0≤Yv .i64 (20+n_3))&&decide (Yv .i64 (20+n_3)≤1000)) (some (Zz .u64 (Kerb.session (Yv .i64 (20+n_3))),[]))) (kI .u64 fun n_6=>let t0:List AV:=[Zz .i64 (Int.tmod (Yv .i64 (Int.tdiv (Yv .i64 (↑(UInt8.toNat b_32):Int)) 2)) 2),Zz .u64 n_6];Zm (sel (decide (n_3<(↑(Zw b_2):Int))) (chk (decide (0≤n_3)&&decide (n_3<(↑(Zw b_2):Int))) (some (Zk 13 b::Zv b_2::Xg b_3::Zv b_4::Zz .i64 n::Zz .i64 n_1::Zz .u64 n_2::Zn b_5::Zy b_6::Zk 9 b_7::Zy b_8::Zk 9 b_9::Zz .i64 n_3::Zv b_22::Zz .i64 (Yv .i64 (1000+Yv .i64 (Yv .i64 (↑(UInt8.toNat (List.getD b_2 (Int.toNat n_3) (0:UInt8))):Int)*5)))::t0))) (some (Zk 13 b::Zv b_2::Xg b_3::Zv b_4::Zz .i64 n::Zz .i64 n_1::Zz .u64 n_2::Zn b_5::Zy b_6::Zk 9 b_7::Zy b_8::Zk 9 b_9::Zz .i64 n_3::Zv b_22::Zz .i64 1100::t0))) fun l=>cSl 13 l fun b r=>cBs r fun b_35 r=>cU8 r fun b_36 r=>cBs r fun b_37 r=>cInt .i64 r fun n r=>cInt .i64 r fun n_7 r=>cInt .u64 r fun n_8 r=>cBool r fun b_38 r=>cStr r fun b_39 r=>cSl 9 r fun b_40 r=>cStr r fun b_41 r=>cSl 9 r fun b_42 r=>cInt .i64 r fun n_9 r=>cBs r fun b_43 r=>cInt .i64 r fun n_10 r=>cInt .i64 r fun n_11 r=>cInt .u64 r fun n_12 r=>onNil r (some [Zk 13 b,Zv b_35,Xg b_36,Zv b_37,Zz .i64 n,Zz .i64 n_7,Zz .u64 n_8,Zn b_38,Zy b_39,Zk 9 b_40,Zy b_41,Zk 9 b_42,Zz .i64 n_9,Zv b_43,Zz .i64 n_10,Zz .i64 n_11,Zz .u64 n_12])))))))) (some [Zk 13 b,Zv b_2,Xg b_3,Zv b_4,Zz .i64 n,Zz .i64 n_1,Zz .u64 n_2,Zn b_5,Zy b_6,Zk 9 b_7,Zy b_8,Zk 9 b_9,Zz .i64 n_3,Zv b_4,Zz .i64 n,Zz .i64 n_1,Zz .u64 n_2])) fun l=>cSl 13 l fun b r=>cBs r fun b_10 r=>cU8 r fun b_11 r=>cBs r fun b_12 r=>cInt .i64 r fun n r=>cInt .i64 r fun n_4 r=>cInt .u64 r fun n_5 r=>cBool r fun b_13 r=>cStr r fun b_14 r=>cSl 9 r fun b_15 r=>cStr r fun b_16 r=>cSl 9 r fun b_17 r=>cInt .i64 r fun n_6 r=>cBs r fun b_18 r=>cInt .i64 r fun n_7 r=>cInt .i64 r fun n_8 r=>cInt .u64 r fun n_9 r=>onNil r (Zm (loopM (fun (st:List AV)=>cSl 13 st fun b r=>cBs r fun b_19 r=>cU8 r fun b_20 r=>cBs r fun b_21 r=>cInt .i64 r fun n r=>cInt .i64 r fun n_10 r=>cInt .u64 r fun n_11 r=>cBool r fun b_22 r=>cStr r fun b_23 r=>cSl 9 r fun b_24 r=>let t1:List AV:=[Yj [Zy b_23,Zk 9 b_24]];cStr r fun b_25 r=>cSl 9 r fun b_26 r=>cInt .i64 r fun n_12 r=>cBs r fun b_27 r=>cInt .i64 r fun n_13 r=>cInt .i64 r fun n_14 r=>cInt .u64 r fun n_15 r=>cInt .i64 r fun n_16 r=>let t5:List AV:=[Zz .i64 n_12,Zv b_27,Zz .i64 n_13,Zz .i64 n_14,Zz .u64 n_15,Zz .i64 n_16];let t4:List AV:=Zy b_25::Zk 9 b_26::t5;let t3:List AV:=Zy b_23::Zk 9 b_24::t4;let t2:Option (List AV ⊕ Ex×List AV):=some (Sum.inr (Ex.ret,Zk 13 b::Zv b_19::Xg b_20::Zv b_21::Zz .i64 n::Zz .i64 n_10::Zz .u64 n_11::Zn false::t3));onNil r (sel (decide (n_16<2)) (chk (decide (0≤n_16)&&decide (n_16<(↑(Zw (Yj [Zy b_25,Zk 9 b_26]::t1)):Int))&&true) (Yb (List.getD (Yj [Zy b_25,Zk 9 b_26]::t1) (Int.toNat n_16) AV.undef) fun cs=>cStr cs fun b_28 r=>cSl 9 r fun b_29 r=>let t8:Kerb.KaOut:=Kerb.kaserver (Yy b_28 (Yz Zh b_29)) n_13 n_14 (Yv .i64 (↑(UInt8.toNat b_20):Int)) n_15 b_27;let t7:Kerb.Issue:=Xw t8;let t6:Option (AV×Blocks):=chk (l63 b_28&&Xm b_29 Xz&&decide (Zw b_29≤1000000)&&decide (Kerb.Db.err (Yy b_28 (Yz Zh b_29))=0)&&Kerb.isU64 n_15&&decide (Zw b_27≤1000000)) (some (AV.tup [Yj [Zy (Yk (Yw t8)),Zk 9 (Yz Zp (Yu (Yw t8)))],Zv (Yn t8),Yj [Zz .i64 (Xj t7),Zy (Zd (Zu t7)),Zy (Zf (Zu t7)),Zy (Zj (Zu t7)),Zy (Zd (Zq t7)),Zy (Zf (Zq t7)),Zy (Zj (Zq t7)),Zy (Zd (Zx t7)),Zy (Zf (Zx t7)),Zy (Zj (Zx t7)),Zz .u64 (Yp t7),Zz .u64 (Ym t7),Zz .u64 (Yd t7),Zv (Xu t7),Zz .i64 (Yh t7),Zz .i64 (Xq t7)],Zn (Xf t8)],[]));onNil r (Zm t6 (kT fun vs=>onCons vs fun x r=>Yb x fun cs=>cStr cs fun b_30 r_1=>cSl 9 r_1 fun b_31 r_2=>onNil r_2 (cBs r fun b_32 r=>onCons r fun x r=>Yb x fun cs=>cInt .i64 cs fun n_17 r_3=>cStr r_3 fun b_33 r_4=>cStr r_4 fun b_34 r_5=>cStr r_5 fun b_35 r_6=>cStr r_6 fun b_36 r_7=>cStr r_7 fun b_37 r_8=>cStr r_8 fun b_38 r_9=>cStr r_9 fun b_39 r_10=>cStr r_10 fun b_40 r_11=>cStr r_11 fun b_41 r_12=>cInt .u64 r_12 fun n_18 r_13=>cInt .u64 r_13 fun n_19 r_14=>cInt .u64 r_14 fun n_20 r_15=>cBs r_15 fun b_42 r_16=>cInt .i64 r_16 fun n_21 r_17=>cInt .i64 r_17 fun n_22 r_18=>onNil r_18 (cBool r fun b_43 r=>onNil r (Zm t6 (kT fun vs=>onCons vs fun x r=>Yb x fun cs=>cStr cs fun b_44 r_19=>cSl 9 r_19 fun b_45 r_20=>onNil r_20 (cBs r fun b_46 r=>onCons r fun x r=>Yb x fun cs=>cInt .i64 cs fun n_23 r_21=>cStr r_21 fun b_47 r_22=>cStr r_22 fun b_48 r_23=>cStr r_23 fun b_49 r_24=>cStr r_24 fun b_50 r_25=>cStr r_25 fun b_51 r_26=>cStr r_26 fun b_52 r_27=>cStr r_27 fun b_53 r_28=>cStr r_28 fun b_54 r_29=>cStr r_29 fun b_55 r_30=>cInt .u64 r_30 fun n_24 r_31=>cInt .u64 r_31 fun n_25 r_32=>cInt .u64 r_32 fun n_26 r_33=>cBs r_33 fun b_56 r_34=>cInt .i64 r_34 fun n_27 r_35=>cInt .i64 r_35 fun n_28 r_36=>onNil r_36 (cBool r fun b_57 r=>onNil r (Zm (chk (Xm b_31 Xz&&Xm b_45 Xz&&decide (Zw b_31≤1000000)) (some (Zn (Kerb.Db.same (Yy b_30 (Yz Zh b_31)) (Yy b_44 (Yz Zh b_45))),[]))) (kL fun b_58=>sel (!b_58) t2 (sel (!b_32==b_46) t2 (sel (!Kerb.Issue.same (Kerb.Issue.mk n_17 (Yf b_33 b_34 b_35) (Yf b_36 b_37 b_38) (Yf b_39 b_40 b_41) n_18 n_19 n_20 b_42 n_21 n_22) (Kerb.Issue.mk n_23 (Yf b_47 b_48 b_49) (Yf b_50 b_51 b_52) (Yf b_53 b_54 b_55) n_24 n_25 n_26 b_56 n_27 n_28)) t2 (sel (!b_43==b_57) t2 (Zm (sel (n_16==1) (some (Zk 13 b::Zv b_19::Xg b_20::Zv b_21::Zz .i64 n::Zz .i64 n_10::Zz .u64 n_11::Zn b_22::Zy b_44::Zk 9 b_45::t4)) (some (Zk 13 b::Zv b_19::Xg b_20::Zv b_21::Zz .i64 n::Zz .i64 n_10::Zz .u64 n_11::Zn b_22::Zy b_23::Zk 9 b_24::Zy b_44::Zk 9 b_45::t5))) fun l=>cSl 13 l fun b r=>cBs r fun b_59 r=>cU8 r fun b_60 r=>cBs r fun b_61 r=>cInt .i64 r fun n r=>cInt .i64 r fun n_29 r=>cInt .u64 r fun n_30 r=>cBool r fun b_62 r=>cStr r fun b_63 r=>cSl 9 r fun b_64 r=>cStr r fun b_65 r=>cSl 9 r fun b_66 r=>cInt .i64 r fun n_31 r=>cBs r fun b_67 r=>cInt .i64 r fun n_32 r=>cInt .i64 r fun n_33 r=>cInt .u64 r fun n_34 r=>cInt .i64 r fun n_35 r=>onNil r (some (Sum.inl [Zk 13 b,Zv b_59,Xg b_60,Zv b_61,Zz .i64 n,Zz .i64 n_29,Zz .u64 n_30,Zn b_62,Zy b_63,Zk 9 b_64,Zy b_65,Zk 9 b_66,Zz .i64 n_31,Zv b_67,Zz .i64 n_32,Zz .i64 n_33,Zz .u64 n_34,Zz .i64 (Yv .i64 (n_35+1))])))))))))))))))))) (some (Sum.inr (Ex.exit 2,Zk 13 b::Zv b_19::Xg b_20::Zv b_21::Zz .i64 n::Zz .i64 n_10::Zz .u64 n_11::Zn b_22::t3))))) [Zk 13 b,Zv b_10,Xg b_11,Zv b_12,Zz .i64 n,Zz .i64 n_4,Zz .u64 n_5,Zn b_13,Zy b_14,Zk 9 b_15,Zy b_16,Zk 9 b_17,Zz .i64 n_6,Zv b_18,Zz .i64 n_7,Zz .i64 n_8,Zz .u64 n_9,Zz .i64 0]) fun (r:Ex×List AV)=>cSl 13 (Xn r) fun b r_1=>cBs r_1 fun b_19 r_2=>cU8 r_2 fun b_20 r_3=>cBs r_3 fun b_21 r_4=>cInt .i64 r_4 fun n r_5=>cInt .i64 r_5 fun n_10 r_6=>cInt .u64 r_6 fun n_11 r_7=>cBool r_7 fun b_22 r_8=>cStr r_8 fun b_23 r_9=>cSl 9 r_9 fun b_24 r_10=>cStr r_10 fun b_25 r_11=>cSl 9 r_11 fun b_26 r_12=>cInt .i64 r_12 fun n_12 r_13=>cBs r_13 fun b_27 r_14=>cInt .i64 r_14 fun n_13 r_15=>cInt .i64 r_15 fun n_14 r_16=>cInt .u64 r_16 fun n_15 r_17=>cInt .i64 r_17 fun n_16 r_18=>onNil r_18 (exK r.1 (some (Sum.inr (Ex.ret,[Zk 13 b,Zv b_19,Xg b_20,Zv b_21,Zz .i64 n,Zz .i64 n_10,Zz .u64 n_11,Zn b_22,Zy b_23,Zk 9 b_24,Zy b_25,Zk 9 b_26,Zz .i64 n_12]))) fun (j:Nat)=>sel (Nat.beq j 2) (some (Sum.inl [Zk 13 b,Zv b_19,Xg b_20,Zv b_21,Zz .i64 n,Zz .i64 n_10,Zz .u64 n_11,Zn b_22,Zy b_23,Zk 9 b_24,Zy b_25,Zk 9 b_26,Zz .i64 (Yv .i64 (n_12+1))])) none))) (some (Sum.inr (Ex.exit 0,[Zk 13 b,Zv b_2,Xg b_3,Zv b_4,Zz .i64 n,Zz .i64 n_1,Zz .u64 n_2,Zn b_5,Zy b_6,Zk 9 b_7,Zy b_8,Zk 9 b_9,Zz .i64 n_3]))))) [Zk 13 ls,Zv nw,Xg skw,Zv raw,Zz .i64 rn,Zz .i64 ra,Zz .u64 k,Zn false,Zy (Yk (Kerb.simpleDb lf xp bd)),Zk 9 (Yz Zp (Yu (Kerb.simpleDb lf xp bd))),Zy b,Zk 9 b_1,Zz .i64 0]) fun (r:Ex×List AV)=>cSl 13 (Xn r) fun b r_1=>cBs r_1 fun b r_2=>cU8 r_2 fun b r_3=>cBs r_3 fun b r_4=>cInt .i64 r_4 fun n r_5=>cInt .i64 r_5 fun n r_6=>cInt .u64 r_6 fun n r_7=>cBool r_7 fun b r_8=>cStr r_8 fun b_2 r_9=>cSl 9 r_9 fun b_3 r_10=>cStr r_10 fun b_4 r_11=>cSl 9 r_11 fun b_5 r_12=>cInt .i64 r_12 fun n r_13=>onNil r_13 (exK r.1 (some (Zn b,[])) fun (j:Nat)=>sel (Nat.beq j 0) (some (Zn true,[])) none)))))):Option (AV×Blocks))) (by kernel_rfl) ?_
  delta kT kA kB kL kI
  try dsimp only [cStr,cBs,cBool,cU8,cInt,cSl,l63]
  simp only [Bool.and_eq_true,decide_eq_true_eq] at hpre
  obtain ⟨⟨hall,k0⟩,k1⟩:=hpre
  by_cases c1:(ls.length:Int)>40
  ·rw [sel_pos (by simpa using c1)]
  rw [sel_neg (by simpa using c1)]
  by_cases c2:(d.length:Int)>200
  ·rw [sel_pos (by simpa using c2)]
  rw [sel_neg (by simpa using c2)]
  by_cases c3:(raw.length:Int)>400
  ·rw [sel_pos (by simpa using c3)]
  rw [sel_neg (by simpa using c3)]
  have hd:d.length≤100000:=by omega
  simp (config:={maxSteps:=10000000}) only [hd,decide_true,Xx,↓sInt,↓sU8,↓sBool,↓sStr,↓sBs,↓sSl,↓sAgg,↓sTup,↓sCons,↓sNil,↓sNilB,↓sChk,↓sChkBind,↓sSome]
  have kS:=Kerb.kept_simple lf xp bd
  have kD:=Kerb.kept_data d 0
  generalize Kerb.simpleDb lf xp bd=X0 at kS ⊢
  generalize Kerb.dataDb d 0=Y0 at kD ⊢
  refine loop_rounds (fun q:Xb×Xb×Nat=>[Zk 13 ls,Zv nw,Xg skw,Zv raw,Zz Zg rn,Zz Zg ra,Zz Xp k,Zn false,Zy q.1.realm,Zk 9 (q.1.entries.map Zp),Zy q.2.1.realm,Zk 9 (q.2.1.entries.map Zp),Zz Zg (q.2.2:Int)]) (fun q=>Kerb.Kept q.1∧Kerb.Kept q.2.1∧q.2.2≤ls.length+1) (fun q=>ls.length+1-q.2.2)
   (fun r=>∃ q:Xb×Xb×Nat,r=(.exit 0,[Zk 13 ls,Zv nw,Xg skw,Zv raw,Zz Zg rn,Zz Zg ra,Zz Xp k,Zn false,Zy q.1.realm,Zk 9 (q.1.entries.map Zp),Zy q.2.1.realm,Zk 9 (q.2.1.entries.map Zp),Zz Zg (q.2.2:Int)])) (X0,Y0,0) ⟨kS,kD,Nat.zero_le _⟩ rfl ?_ ?_
  ·rintro ⟨X,Y,i⟩ ⟨kX,kY,hi⟩
   simp only at kX kY hi
   simp (config:={maxSteps:=10000000}) only [↓sInt,↓sU8,↓sBool,↓sStr,↓sBs,↓sSl,↓sAgg,↓sTup,↓sCons,↓sNil,↓sNilB,↓sChk,↓sChkBind,↓sSome]
   by_cases hi1:(i:Int)≤ls.length
   case neg =>
    rw [sel_neg (by simpa using hi1)]
    exact ⟨_,rfl,(X,Y,i),rfl⟩
   rw [sel_pos (by simpa using hi1)]
   refine bind_ex (fun l=>∃ (b:List UInt8) (t ad se:Int),l=[Zk 13 ls,Zv nw,Xg skw,Zv raw,Zz Zg rn,Zz Zg ra,Zz Xp k,Zn false,Zy X.realm,Zk 9 (X.entries.map Zp),Zy Y.realm,Zk 9 (Y.entries.map Zp),Zz Zg (i:Int),Zv b,Zz Zg t,Zz Zg ad,Zz Xp se]∧b.length≤1000000∧Kerb.isU64 se=true) ?_ ?_
   ·by_cases hi2:(i:Int)<ls.length
    case neg =>
     rw [sel_neg (by simpa using hi2)]
     exact ⟨_,rfl,raw,rn,ra,k,rfl,by omega,Kerb.isU64_iff.2 ⟨k0,k1⟩⟩
    have hi2:i<ls.length:=by omega
    rw [sel_pos (by simpa using hi2)]
    have hw:Kerb.isKAsk (List.getD ls i AV.undef)=true:=by
     have hmem:List.getD ls i AV.undef∈ls:=by rw [List.getD_eq_getElem?_getD,List.getElem?_eq_getElem hi2];exact List.getElem_mem hi2
     exact List.all_eq_true.1 hall _ hmem
    obtain ⟨o,u,s,e,n,t0,p,i0,l0,d0,w0,q0,h0,hg,hh0,hh1⟩:=Kerb.isKAsk_inv hw
    have c0:(decide ((0:Int)≤(i:Int))&&decide ((i:Int)<(ls.length:Int))&&true)=true:=by simp;omega
    have c1:(decide ((0:Int)≤h0)&&decide (h0≤65535))=true:=by simp;omega
    have w1:Yv .i64 (20+(i:Int))=20+(i:Int):=wrap_i64 (by omega) (by omega)
    have c2:(decide ((0:Int)≤20+(i:Int))&&decide (20+(i:Int)≤1000))=true:=by simp;omega
    simp (config:={maxSteps:=10000000}) only [c0,c1,c2,w1,Int.toNat_natCast,hg,↓sInt,↓sU8,↓sBool,↓sStr,↓sBs,↓sSl,↓sAgg,↓sTup,↓sCons,↓sNil,↓sNilB,↓sChk,↓sChkBind,↓sSome]
    have hm:=Kerb.msg_len ⟨o,u,s,e,n,t0,p,i0,l0,d0,w0,q0,h0⟩
    have hs:=Kerb.isU64_iff.2 (Kerb.session_bd2 (20+(i:Int)))
    by_cases hi3:(i:Int)<nw.length
    ·have c3:(decide ((0:Int)≤(i:Int))&&decide ((i:Int)<(nw.length:Int)))=true:=by simp;omega
     rw [sel_pos (by simpa using hi3),c3]
     exact ⟨_,rfl,_,_,_,_,rfl,hm,hs⟩
    ·rw [sel_neg (by simpa using hi3)]
     exact ⟨_,rfl,_,_,_,_,rfl,hm,hs⟩
   rintro _ ⟨b,t,ad,se,rfl,hb,hse⟩
   simp (config:={maxSteps:=10000000}) only [↓sInt,↓sU8,↓sBool,↓sStr,↓sBs,↓sSl,↓sAgg,↓sTup,↓sCons,↓sNil,↓sNilB,↓sChk,↓sChkBind,↓sSome]
   refine loop_ex (fun q:Xb×Xb×Nat=>[Zk 13 ls,Zv nw,Xg skw,Zv raw,Zz Zg rn,Zz Zg ra,Zz Xp k,Zn false,Zy q.1.realm,Zk 9 (q.1.entries.map Zp),Zy q.2.1.realm,Zk 9 (q.2.1.entries.map Zp),Zz Zg (i:Int),Zv b,Zz Zg t,Zz Zg ad,Zz Xp se,Zz Zg (q.2.2:Int)]) (fun q=>Kerb.Kept q.1∧Kerb.Kept q.2.1∧q.2.2≤2) (fun q=>2-q.2.2)
    (fun r=>∃ q:Xb×Xb×Nat,(Kerb.Kept q.1∧Kerb.Kept q.2.1)∧r=(.exit 2,[Zk 13 ls,Zv nw,Xg skw,Zv raw,Zz Zg rn,Zz Zg ra,Zz Xp k,Zn false,Zy q.1.realm,Zk 9 (q.1.entries.map Zp),Zy q.2.1.realm,Zk 9 (q.2.1.entries.map Zp),Zz Zg (i:Int),Zv b,Zz Zg t,Zz Zg ad,Zz Xp se,Zz Zg (q.2.2:Int)])) (X,Y,0) ⟨kX,kY,Nat.zero_le _⟩ rfl ?_ ?_
   ·rintro ⟨X,Y,j⟩ ⟨kX,kY,hj⟩
    simp only at kX kY hj
    simp (config:={maxSteps:=10000000}) only [↓sInt,↓sU8,↓sBool,↓sStr,↓sBs,↓sSl,↓sAgg,↓sTup,↓sCons,↓sNil,↓sNilB,↓sChk,↓sChkBind,↓sSome]
    by_cases hj1:(j:Int)<2
    case neg =>
     rw [sel_neg (by simpa using hj1)]
     exact ⟨_,rfl,(X,Y,j),⟨kX,kY⟩,rfl⟩
    have hj2:j<2:=by omega
    rw [sel_pos (by simpa using hj1),chk_of (by simp;omega)]
    obtain ⟨D,hD,kd⟩:=Kerb.pick2 (P:=fun v=>∃ D:Xb,v=Yj [Zy D.realm,Zk 9 (D.entries.map Zp)]∧Kerb.Kept D) (d:=AV.undef) hj2 ⟨Y,rfl,kY⟩ ⟨X,rfl,kX⟩
    rw [hD]
    have eD:Yy D.realm D.entries=D:=rfl
    have l1:D.realm.length≤9223372036854775807:=by have:=kd.realm;omega
    have l2:D.entries.length≤1000000:=by have:=kd.len;omega
    simp (config:={maxSteps:=10000000}) only [Yg,Xy,eD,l1,l2,kd.err,kd.all,hse,hb,decide_true,Xx,↓sInt,↓sU8,↓sBool,↓sStr,↓sBs,↓sSl,↓sAgg,↓sTup,↓sCons,↓sNil,↓sNilB,↓sChk,↓sChkBind,↓sSome]
    have kO:=Kerb.kept_ka (now:=t) (ad:=ad) (sk:=Yv .i64 (skw.toNat:Int)) (se:=se) (msg:=b) kd
    generalize Kerb.kaserver D t ad _ se b=O at kO ⊢
    have l3:O.db.entries.length≤1000000:=by have:=kO.len;omega
    have eO:Yy O.db.realm O.db.entries=O.db:=rfl
    have eI:Kerb.Issue.mk O.issue.kind ⟨O.issue.server.name,O.issue.server.inst,O.issue.server.realm⟩ ⟨O.issue.client.name,O.issue.client.inst,O.issue.client.realm⟩ ⟨O.issue.service.name,O.issue.service.inst,O.issue.service.realm⟩ O.issue.session O.issue.sealer O.issue.granter O.issue.text O.issue.issued O.issue.stop=O.issue:=rfl
    simp (config:={maxSteps:=10000000}) only [Yg,Xy,eO,eI,l3,kO.all,Kerb.Db.same_refl,Kerb.Issue.same_refl,beq_self_eq_true,Bool.not_true,sTrue,sFalse,decide_true,Xx,↓sInt,↓sU8,↓sBool,↓sStr,↓sBs,↓sSl,↓sAgg,↓sTup,↓sCons,↓sNil,↓sNilB,↓sChk,↓sChkBind,↓sSome]
    by_cases hj3:(j:Int)=1
    ·rw [show ((j:Int)==1)=true from by simpa using hj3,sel_true]
     refine ⟨_,rfl,(O.db,Y,j+1),?_,⟨kO,kY,by simp only;omega⟩,by simp only;omega⟩
     rw [wrap_i64 (by omega) (by omega)]
     rfl
    ·rw [show ((j:Int)==1)=false from by simpa using hj3,sel_false]
     refine ⟨_,rfl,(X,O.db,j+1),?_,⟨kX,kO,by simp only;omega⟩,by simp only;omega⟩
     rw [wrap_i64 (by omega) (by omega)]
     rfl
   ·rintro _ ⟨⟨X,Y,j⟩,⟨kX,kY⟩,rfl⟩
    simp only [↓A0,A0]
    rw [sel_pos (by rfl)]
    refine ⟨_,rfl,(X,Y,i+1),?_,⟨kX,kY,by simp only;omega⟩,by simp only;omega⟩
    rw [wrap_i64 (by omega) (by omega)]
    rfl
  ·rintro _ ⟨⟨X,Y,i⟩,rfl⟩
   simp only [↓A0,A0]
   rw [sel_pos (by rfl)]
 ·cases h
end Go.Proofs.YtaikjfcgemjghaaGreat
