/- What the functions of this seat compute. -/
import Derived.Test.YtaikjfcgemjghaaGreatTab
import Derived.Test.YtaikjfcgemjghaaGreatKerbPlain
import Derived.Test.YtaikjfcgemjghaaGreatAbsStep
import Derived.Test.YtaikjfcgemjghaaGreatKerbKaPlain
import Derived.Test.YtaikjfcgemjghaaGreatKerbKaRef
import Derived.Test.YtaikjfcgemjghaaGreatKerbCli3
import Derived.Test.YtaikjfcgemjghaaGreatKerbCli4
import Derived.Test.YtaikjfcgemjghaaGreatKerbCli5
import Derived.Test.YtaikjfcgemjghaaGreatKerbSrvL
import Derived.Test.YtaikjfcgemjghaaGreatKerbKac2
import Derived.Test.YtaikjfcgemjghaaGreatKerbSrvP
import Derived.Test.YtaikjfcgemjghaaGreatKerbSrvB
open Go.Abs.AV renaming str→Zz,int→Zy,bs→Zg,bool→Zm,agg→Zh,sl→Yy,tup→Yq,u8→Yf,onAgg→Xw,undef→Vq
open Kerb renaming encodeKaReply→Zx,kaRefuse_nil→Yz,toEntry→Yx,map_toEntry→Yn,u8i→Xy,grantLife→Xx,decodeKaRequest→Xv,Issue→Xk,isEntry→Xb,decodeKaAnswer→Xn,decodeTicket→Xm,openTicket→Wv,isU64→Wq,ends2→Wf,openBox→Wg,KaOut→Wb,ents_of→Wn,tEnd→Vx,imin→Vw,classOf→Vv,kaSecretOf→Vu,isI64→Vj,get→Vk,within→Vf,encodeTicket→Vg,u8i_bd→Vn,krbtgt→Vm,kaGive→Vh,kaReplyDec→Uz,prin→Uw,decodeKaReply→Uv,getD_ent→Uq,KaSecret→Uj
open Option renaming bind→Zw
open List renaming length→Zv,map→Yw,length_map→Xj,all→Wj,getD→Vy
open Kerb.Issue renaming service→Zu,server→Zj,client→Zk,session→Xu,granter→Xq,sealer→Xp,issued→Xd,text→Xh,stop→Wz,kind→Wy
open Kerb.Prin renaming realm→Zq,name→Zp,inst→Zd,mk→Yu
open Kerb.Dec renaming val→Zf,err→Wd
open Kerb.KaReply renaming mk→Zb
open Go.IntKind renaming wrap→Zn,i64→Yh
open Kerb.Entry renaming av→Yv
open Prod renaming snd→Yj,fst→Yk
open Kerb.Enc renaming err→Yp,val→Yg
open Kerb.KaOut renaming db→Yd,answer→Xg,issue→Wx,ok→Wp,mk→Wh
open Kerb.Db renaming mk→Yb,entries→Xz,realm→Xf
open Bool renaming and_self→Ym,and_eq_true→Wu
open Nat renaming le_trans→Ww
open Kerb.Ticket renaming client→Wk,mk→Vb
open Int renaming toNat→Wm,tmod_eq_emod_of_nonneg→Vp,tmod→Vd
open UInt8 renaming toNat→Vz
open Kerb.KaAnswer renaming mk→Uy,service→Uu
open Kerb.ReplyPart renaming service→Ux
open Kerb.KaRequest renaming user→Uk
namespace Go.Proofs.YtaikjfcgemjghaaGreat
open Go Go.Abs Go.Proofs
set_option linter.unusedVariables false
set_option linter.unusedSimpArgs false
set_option maxRecDepth 100000
theorem w156:Walked Tryz.prog G 156 10 sp156:=by
 refine ⟨Tryz.f156,Tryz.func156,by decide +kernel,rfl,fun xs bl r h=> ?_⟩
 unfold sp156 at h
 split at h
 ·rename_i i op u1 u2 u3 kv qr tk sv ins bx rl els now ad sk se
  obtain ⟨hpre,h2⟩:=chk_inv h;cases h2
  show runFnH (G.env 156 10) G.rts (G.own 156) Tryz.f156 _ _ [0]=_
  refine Eq.trans (b:=(let t1:List (List AV):=[[Zy .i64 op,Zz u1,Zz u2,Zz u3,Zy .i64 kv,Zz qr,Zg tk,Zz sv,Zz ins,Zg bx,Zz rl,Yy 9 els,Zy .i64 now,Zy .i64 ad,Zy .i64 sk,Zy .u64 se]];let t3:List AV:=[Zy .i64 0,Zz [],Zz [],Zz [],Zz [],Zz [],Zz [],Zz [],Zz [],Zz [],Zy .u64 0,Zy .u64 0,Zy .u64 0,Zg [],Zy .i64 0,Zy .i64 0,Zm false];let t4:Bool:=l63 rl&&Wj els Xb&&decide (Zv els≤1000000);let t0:Option (AV×Blocks):=some (Zh (Zz rl::Yy 9 els::Zg []::t3),t1);let t2:List AV:=Zg (Yg (Zx (Zb op 62 [])))::t3;chk (decide (0≤i)&&decide (i<(↑(Zv els):Int))&&true) (Xw (Vy els (Wm i) Vq) fun cs=>cStr cs fun b r=>cStr r fun b_1 r=>cInt .u64 r fun n r=>let t5:Bool:=t4&&l63 b&&l63 b_1&&Wq n;cInt .i64 r fun n_1 r=>cInt .i64 r fun n_2 r=>cInt .i64 r fun n_3 r=>cInt .i64 r fun n_4 r=>let t7:Kerb.Dec Kerb.Db:=Kerb.putEnt (Yb rl (Yw Yx els)) i (Kerb.Entry.mk b b_1 n n_1 n_2 n_3 n_4 0 (Vw (Zn .i64 (now+600)) 4294967295));let t6:Kerb.Db:=Zf t7;cInt .i64 r fun n_5 r=>cInt .i64 r fun n_6 r=>let t9:Kerb.Dec Kerb.Db:=Kerb.putEnt (Yb rl (Yw Yx els)) i (Kerb.Entry.mk b b_1 n n_1 n_2 n_3 n_4 (Zn .i64 (n_5+1)) n_6);let t8:Kerb.Db:=Zf t9;onNil r (sel (decide (Zn .i64 (n_5+1)≥20)) (Zw (chk t5 (some (Yq [Zh [Zz (Xf t6),Yy 9 (Yw Yv (Xz t6))],Zy .i64 (Wd t7)],[]))) (kT fun vs=>onCons vs fun x r=>Xw x fun cs=>cStr cs fun b r_1=>cSl 9 r_1 fun b_2 r_2=>onNil r_2 (cInt .i64 r fun n r=>onNil r (sel (!n==0) t0 (sel (!Yp (Zx (Zb op 62 []))==0) t0 (some (Zh (Zz b::Yy 9 b_2::t2),t1))))))) (Zw (chk t5 (some (Yq [Zh [Zz (Xf t8),Yy 9 (Yw Yv (Xz t8))],Zy .i64 (Wd t9)],[]))) (kT fun vs=>onCons vs fun x r=>Xw x fun cs=>cStr cs fun b r_1=>cSl 9 r_1 fun b_2 r_2=>onNil r_2 (cInt .i64 r fun n r=>onNil r (sel (!n==0) t0 (sel (!Yp (Zx (Zb op 62 []))==0) t0 (some (Zh (Zz b::Yy 9 b_2::t2),t1))))))))):Option (AV×Blocks))) (by kernel_rfl) ?_
  delta kT
  try dsimp only [cStr,cBs,cBool,cU8,cInt,cSl,l63]
  simp only [Wu,decide_eq_true_eq] at hpre
  obtain ⟨⟨⟨⟨⟨hpre,he⟩,h0⟩,h1⟩,hop⟩,hn⟩:=hpre
  obtain ⟨⟨⟨⟨⟨⟨⟨⟨⟨⟨⟨c1,c2⟩,c3⟩,c4⟩,c5⟩,c6⟩,c7⟩,c8⟩,c9⟩,c10⟩,hall⟩,hlen⟩:=hpre
  obtain ⟨es,rfl,hok⟩:=Wn hall
  rw [Yn] at *
  simp only [Xj] at hlen h1
  have i0:decide (0≤i)=true:=by simp;omega
  have i1:decide (i<(es.length:Int))=true:=by simp;omega
  simp only [hall,Xj,hlen,c7,i0,i1,decide_true,Ym,↓A0,A0]
  rw [Uq (by omega)]
  have hp:=Kerb.putEnt_failed (d:=⟨rl,es⟩) he h0 h1 hn
  have hx:=Kerb.entAt_err (d:=⟨rl,es⟩) he h0 h1
  have ho:=hok _ (Kerb.ent_mem (es:=es) (i:=i.toNat) (by omega))
  unfold Kerb.entAt at hp hx
  dsimp only at hp hx
  generalize es.getD i.toNat Kerb.noEntry=e at hp hx ho
  have x9:=Kerb.within_iff.1 (Kerb.Entry.err_inv hx).2.2.2.2.2.2.2.2
  have n9:=Kerb.within_iff.1 hn
  have hr:=Kerb.kaRefuse_ok (op:=op) (c:=62) hop (by decide) (by decide)
  obtain ⟨o1,o2,o3,_⟩:=ho
  simp only [Yv,o1,o2,o3,hr,decide_true,Ym,↓A0,A0]
  unfold Kerb.Entry.failed at hp
  rw [wrap_i64 (n:=e.fails+1) (by omega) (by omega)]
  by_cases hf:20≤e.fails+1
  ·rw [if_pos hf] at hp
   rw [sel_pos (by simpa using hf),wrap_i64 (by omega) (by omega),hp]
   rfl
  ·rw [if_neg hf] at hp
   rw [sel_neg (by simpa using hf),hp]
   rfl
 ·cases h
theorem w225:Walked Tryz.prog G 225 10 sp225:=by
 refine ⟨Tryz.f225,Tryz.func225,by decide +kernel,rfl,fun xs bl r h=> ?_⟩
 unfold sp225 at h
 split at h
 ·rename_i key al at_ ase ast aen akv a1 a2 a3 atk op u1 u2 u3 kv qr tk sv ins bx rl els now ad sk se
  obtain ⟨hpre,h2⟩:=chk_inv h;cases h2
  show runFnH (G.env 225 10) G.rts (G.own 225) Tryz.f225 _ _ [0]=_
  refine Eq.trans (b:=(let t0:List (List AV):=[[Zy .i64 op,Zz u1,Zz u2,Zz u3,Zy .i64 kv,Zz qr,Zg tk,Zz sv,Zz ins,Zg bx,Zz rl,Yy 9 els,Zy .i64 now,Zy .i64 ad,Zy .i64 sk,Zy .u64 se]];Zw (chk (l63 a1&&l63 a2&&l63 a3&&decide (0≤ase)&&decide (ase<18446744073709551616)) (some (Yq [Zg (Yg (Kerb.encodeKaAnswer (Uy al at_ ase ast aen akv (Yu a1 a2 a3) atk))),Zy .i64 (Yp (Kerb.encodeKaAnswer (Uy al at_ ase ast aen akv (Yu a1 a2 a3) atk)))],[]))) (kT fun vs=>cBs vs fun b r=>cInt .i64 r fun n r=>onNil r (sel (!n==0) (some (Yq [Zg [],Zy .i64 n],t0)) (Zw (chk (decide (0≤key)&&decide (key<18446744073709551616)) (some (Yq [Zg (Yg (Kerb.makeBox 8 key b)),Zy .i64 (Yp (Kerb.makeBox 8 key b))],[]))) (kT fun vs=>cBs vs fun b r=>cInt .i64 r fun n r=>onNil r (sel (!n==0) (some (Yq [Zg [],Zy .i64 n],t0)) (some (Yq [Zg (Yg (Zx (Zb op 0 b))),Zy .i64 (Yp (Zx (Zb op 0 b)))],t0))))))):Option (AV×Blocks))) (by kernel_rfl) ?_
  delta kT
  try dsimp only [cStr,cBs,cBool,cU8,cInt,cSl,l63]
  simp only [Wu,decide_eq_true_eq] at hpre
  simp only [Kerb.isU64_iff] at hpre
  obtain ⟨⟨⟨⟨⟨h1,h2⟩,h3⟩,h4⟩,h5,h6⟩,h7,h8⟩:=hpre
  simp only [h1,h2,h3,h4,h5,h6,h7,h8,decide_true,Ym,↓A0,A0]
  unfold Uz
  try dsimp only
  generalize Kerb.encodeKaAnswer _=E
  by_cases he:E.err=0
  case neg=>rw [sel_pos (by simpa using he),if_pos he]
  rw [sel_neg (by simpa using he),if_neg (by simpa using he)]
  generalize Kerb.makeBox _ _ _=F
  by_cases hf:F.err=0
  case neg=>rw [sel_pos (by simpa using hf),if_pos hf]
  rw [sel_neg (by simpa using hf),if_neg (by simpa using hf)]
 ·cases h
theorem w249:Walked Tryz.prog G 249 10 sp249:=by
 refine ⟨Tryz.f249,Tryz.func249,by decide +kernel,rfl,fun xs bl r h=> ?_⟩
 unfold sp249 at h
 split at h
 ·rename_i b
  obtain ⟨hpre,h2⟩:=chk_inv h;cases h2
  refine Eq.trans (b:=(let t1:AV:=Zh [Zm false,Zz [],Zz [],Zz [],Zy .i64 0,Zy .u64 0,Zy .i64 0,Zy .i64 0,Zz [],Zz []];let t0:Option (AV×Blocks):=some (Yq [t1,Zy .i64 100],[]);Zw (chk (decide (Zv b≤4611686018427387904)) (some (Yq [Zy .i64 (Kerb.Got.val (Vk b 0 1 false)),Zy .i64 (Kerb.Got.next (Vk b 0 1 false)),Zy .i64 (Kerb.Got.err (Vk b 0 1 false))],[]))) (kT fun vs=>cInt .i64 vs fun n r=>cInt .i64 r fun n_1 r=>cInt .i64 r fun n_2 r=>onNil r (sel (decide (n>1)) (some (Yq [t1,Zy .i64 7],[])) (Zw (chk (decide (Zv b≤4611686018427387904)) (some (Yq [Zh [Zz (Zp (Kerb.GotP.val (Uw b n_1))),Zz (Zd (Kerb.GotP.val (Uw b n_1))),Zz (Zq (Kerb.GotP.val (Uw b n_1)))],Zy .i64 (Kerb.GotP.next (Uw b n_1)),Zy .i64 (Kerb.GotP.err (Uw b n_1))],[]))) (kT fun vs=>onCons vs fun x r=>Xw x fun cs=>cStr cs fun b_1 r_1=>cStr r_1 fun b_2 r_2=>cStr r_2 fun b_3 r_3=>onNil r_3 (cInt .i64 r fun n_3 r=>cInt .i64 r fun n_4 r=>onNil r (Zw (chk (decide (Zv b≤4611686018427387904)) (some (Yq [Zy .i64 (Kerb.Got.val (Vk b n_3 4 (n==1))),Zy .i64 (Kerb.Got.next (Vk b n_3 4 (n==1))),Zy .i64 (Kerb.Got.err (Vk b n_3 4 (n==1)))],[]))) (kT fun vs=>cInt .i64 vs fun n_5 r=>cInt .i64 r fun n_6 r=>cInt .i64 r fun n_7 r=>onNil r (Zw (chk (decide (Zv b≤140737488355328)) (some (Yq [Zg (Kerb.GotB.val (Kerb.bytes b n_6 8)),Zy .i64 (Kerb.GotB.next (Kerb.bytes b n_6 8)),Zy .i64 (Kerb.GotB.err (Kerb.bytes b n_6 8))],[]))) (kT fun vs=>cBs vs fun b_4 r=>cInt .i64 r fun n_8 r=>cInt .i64 r fun n_9 r=>onNil r (Zw (chk (decide (Zv b_4≤4611686018427387904)) (some (Yq [Zy .u64 (Yk (Kerb.keyRead b_4)),Zm (Yj (Kerb.keyRead b_4))],[]))) (kT fun vs=>cInt .u64 vs fun n_10 r=>cBool r fun b_5 r=>onNil r (Zw (chk (decide (Zv b≤4611686018427387904)) (some (Yq [Zy .i64 (Kerb.Got.val (Vk b n_8 1 false)),Zy .i64 (Kerb.Got.next (Vk b n_8 1 false)),Zy .i64 (Kerb.Got.err (Vk b n_8 1 false))],[]))) (kT fun vs=>cInt .i64 vs fun n_11 r=>cInt .i64 r fun n_12 r=>cInt .i64 r fun n_13 r=>onNil r (Zw (chk (decide (Zv b≤4611686018427387904)) (some (Yq [Zy .i64 (Kerb.Got.val (Vk b n_12 4 (n==1))),Zy .i64 (Kerb.Got.next (Vk b n_12 4 (n==1))),Zy .i64 (Kerb.Got.err (Vk b n_12 4 (n==1)))],[]))) (kT fun vs=>cInt .i64 vs fun n_14 r=>cInt .i64 r fun n_15 r=>cInt .i64 r fun n_16 r=>onNil r (Zw (chk (decide (Zv b≤4611686018427387904)) (some (Yq [Zz (Kerb.GotB.val (Kerb.text b n_15)),Zy .i64 (Kerb.GotB.next (Kerb.text b n_15)),Zy .i64 (Kerb.GotB.err (Kerb.text b n_15))],[]))) (kT fun vs=>cStr vs fun b_6 r=>cInt .i64 r fun n_17 r=>cInt .i64 r fun n_18 r=>onNil r (Zw (chk (decide (Zv b≤4611686018427387904)) (some (Yq [Zz (Kerb.GotB.val (Kerb.text b n_17)),Zy .i64 (Kerb.GotB.next (Kerb.text b n_17)),Zy .i64 (Kerb.GotB.err (Kerb.text b n_17))],[]))) (kT fun vs=>cStr vs fun b_7 r=>let t2:Kerb.Enc:=Vg (Vb (n==1) (Yu b_1 b_2 b_3) n_5 n_10 n_11 n_14 b_6 b_7);cInt .i64 r fun n_19 r=>cInt .i64 r fun n_20 r=>onNil r (Zw (chk (l63 b_1&&l63 b_2&&l63 b_3&&l63 b_6&&l63 b_7&&decide (0≤n_10)&&decide (n_10<18446744073709551616)) (some (Yq [Zg (Yg t2),Zy .i64 (Yp t2)],[]))) (kT fun vs=>cBs vs fun b_8 r=>cInt .i64 r fun n_21 r=>onNil r (sel (!n_21==0) t0 (sel (!b_8==b) t0 (some (Yq [Zh [Zm (n==1),Zz b_1,Zz b_2,Zz b_3,Zy .i64 n_5,Zy .u64 n_10,Zy .i64 n_11,Zy .i64 n_14,Zz b_6,Zz b_7],Zy .i64 0],[]))))))))))))))))))))))))):Option (AV×Blocks))) (by kernel_rfl) ?_
  delta kT
  try dsimp only [cStr,cBs,cBool,cU8,cInt,cSl,l63]
  have hb:=of_decide_eq_true hpre
  have hpre2:decide (b.length≤4611686018427387904)=true:=by simp;omega
  simp only [hpre,hpre2,↓A0,A0]
  unfold Xm
  by_cases h7:1<(Vk b 0 1 false).val
  ·rw [sel_pos (by simpa using h7),if_pos h7];try rfl
  rw [sel_neg (by simpa using h7),if_neg h7]
  have hl:∀ p n,(Kerb.bytes b p n).val.length≤4611686018427387904:=fun p n=>Ww (Kerb.bytes_len b p n) (by omega)
  have hk:∀ q,0≤(Kerb.keyRead q).1∧(Kerb.keyRead q).1<18446744073709551616:=Kerb.keyRead_bd
  have hx:∀ q,(Kerb.text b q).val.length≤40:=Kerb.text_len b
  have lp:∀ q (_:Unit),(Uw b q).val.name.length≤40∧(Uw b q).val.inst.length≤40∧(Uw b q).val.realm.length≤40:=fun q _=>Kerb.prin_len b q
  rw [chk_of (by simp only [decide_eq_true_eq];exact hl _ _),chk_of (by simp only [Wu,decide_eq_true_eq];exact ⟨⟨⟨⟨⟨⟨Ww (lp _ ()).1 (by decide),Ww (lp _ ()).2.1 (by decide)⟩,Ww (lp _ ()).2.2 (by decide)⟩,Ww (hx _) (by decide)⟩,Ww (hx _) (by decide)⟩,(hk _).1⟩,(hk _).2⟩)]
  exact Kerb.decBy_fin (no:=Kerb.noTicket) (enc:=Vg) (rd:=fun b=>(Kerb.readTicket b,false)) _ false rfl (fun x e=>(Yq [Zh [Zm (x).little,Zz (x).client.name,Zz (x).client.inst,Zz (x).client.realm,Zy Yh (x).address,Zy IntKind.u64 (x).session,Zy Yh (x).life,Zy Yh (x).issued,Zz (x).service,Zz (x).inst],Zy Yh e],([]:Blocks)))
 ·cases h
theorem w250:Walked Tryz.prog G 250 10 sp250:=by
 refine ⟨Tryz.f250,Tryz.func250,by decide +kernel,rfl,fun xs bl r h=> ?_⟩
 unfold sp250 at h
 split at h
 ·rename_i li x y z ad k lf iss sv ins key
  obtain ⟨hpre,h2⟩:=chk_inv h;cases h2
  refine Eq.trans (b:=(Zw (chk (decide (Zv x≤9223372036854775807)&&decide (Zv y≤9223372036854775807)&&decide (Zv z≤9223372036854775807)&&decide (Zv sv≤9223372036854775807)&&decide (Zv ins≤9223372036854775807)&&decide (0≤k)&&decide (k<18446744073709551616)) (some (Yq [Zg (Yg (Vg (Vb li (Yu x y z) ad k lf iss sv ins))),Zy .i64 (Yp (Vg (Vb li (Yu x y z) ad k lf iss sv ins)))],[]))) fun (r:AV×Blocks)=>onNilB (Yj r) (AV.onTup (Yk r) fun vs=>onCons vs fun x r=>AV.onBs x fun b=>onCons r fun x r=>AV.onInt .i64 x fun n=>onNil r (sel (!n==0) (some (Yq [Zg [],Zy .i64 n],[])) (Zw (chk (decide (0≤key)&&decide (key<18446744073709551616)) (some (Yq [Zg (Yg (Kerb.makeBox 1 key b)),Zy .i64 (Yp (Kerb.makeBox 1 key b))],[]))) fun (r:AV×Blocks)=>onNilB (Yj r) (AV.onTup (Yk r) fun vs=>onCons vs fun x r=>AV.onBs x fun b=>onCons r fun x r=>AV.onInt .i64 x fun n=>onNil r (some (Yq [Zg b,Zy .i64 n],[])))))):Option (AV×Blocks))) (by kernel_rfl) ?_
  simp only [Wu,decide_eq_true_eq] at hpre
  obtain ⟨⟨⟨⟨⟨⟨⟨⟨h1,h2⟩,h3⟩,h4⟩,h5⟩,h6⟩,h7⟩,h8⟩,h9⟩:=hpre
  simp only [h1,h2,h3,h4,h5,h6,h7,h8,h9,decide_true,Ym,↓A0,A0]
  unfold Kerb.sealTicket
  generalize Vg _=E
  by_cases he:E.err=0
  ·rw [sel_neg (by simpa using he),if_neg (by simpa using he)]
  ·rw [sel_pos (by simpa using he),if_pos he]
 ·cases h
theorem w160:Walked Tryz.prog G 160 11 sp160:=by
 refine ⟨Tryz.f160,Tryz.func160,by decide +kernel,rfl,fun xs bl r h=> ?_⟩
 unfold sp160 at h
 split at h
 ·rename_i dr dls i bd op u1 u2 u3 kv qr tk sv ins bx rl els now ad sk se
  obtain ⟨hpre,h2⟩:=chk_inv h;cases h2
  show runFnH (G.env 160 11) G.rts (G.own 160) Tryz.f160 _ _ [0]=_
  refine Eq.trans (b:=(let t1:List AV:=[Zy .i64 0,Zz [],Zz [],Zz [],Zz [],Zz [],Zz [],Zz [],Zz [],Zz [],Zy .u64 0,Zy .u64 0,Zy .u64 0,Zg [],Zy .i64 0,Zy .i64 0,Zm false];let t3:Kerb.Dec Uj:=Vu bd [(67:UInt8),(80:UInt8),(87:UInt8),(108:UInt8)] now sk;let t0:List AV:=Zg []::t1;let t2:Uj:=Zf t3;Zw (chk (decide (Zv bd≤1000000)) (some (Yq [Zh [Zz (Kerb.KaSecret.label t2),Zy .i64 (Kerb.KaSecret.time t2),Zy .i64 (Kerb.KaSecret.start t2),Zy .i64 (Kerb.KaSecret.stop t2),Zy .u64 (Kerb.KaSecret.new t2)],Zy .i64 (Wd t3)],[[Zy .i64 op,Zz u1,Zz u2,Zz u3,Zy .i64 kv,Zz qr,Zg tk,Zz sv,Zz ins,Zg bx,Zz rl,Yy 9 els,Zy .i64 now,Zy .i64 ad,Zy .i64 sk,Zy .u64 se]]))) fun (r:AV×Blocks)=>onConsB (Yj r) fun (x:List AV) (r_1:List (List AV))=>cInt .i64 x fun n r_2=>cStr r_2 fun b r_3=>cStr r_3 fun b_1 r_4=>cStr r_4 fun b_2 r_5=>cInt .i64 r_5 fun n_1 r_6=>cStr r_6 fun b_3 r_7=>cBs r_7 fun b_4 r_8=>cStr r_8 fun b_5 r_9=>cStr r_9 fun b_6 r_10=>cBs r_10 fun b_7 r_11=>cStr r_11 fun b_8 r_12=>cSl 9 r_12 fun b_9 r_13=>let t4:AV:=Zh (Zz b_8::Yy 9 b_9::t0);cInt .i64 r_13 fun n_2 r_14=>cInt .i64 r_14 fun n_3 r_15=>cInt .i64 r_15 fun n_4 r_16=>cInt .u64 r_16 fun n_5 r_17=>let t5:List (List AV):=[[Zy .i64 n,Zz b,Zz b_1,Zz b_2,Zy .i64 n_1,Zz b_3,Zg b_4,Zz b_5,Zz b_6,Zg b_7,Zz b_8,Yy 9 b_9,Zy .i64 n_2,Zy .i64 n_3,Zy .i64 n_4,Zy .u64 n_5]];onNil r_17 (onNilB r_1 (AV.onTup (Yk r) fun vs=>onCons vs fun x r=>Xw x fun cs=>cStr cs fun b r_18=>cInt .i64 r_18 fun n_6 r_19=>cInt .i64 r_19 fun n_7 r_20=>cInt .i64 r_20 fun n_8 r_21=>cInt .u64 r_21 fun n_9 r_22=>onNil r_22 (cInt .i64 r fun n_10 r=>onNil r (sel (!n_10==0) (sel (!Yp (Zx (Zb n n_10 []))==0) (some (t4,t5)) (some (Zh (Zz b_8::Yy 9 b_9::Zg (Yg (Zx (Zb n n_10 [])))::t1),t5))) (Zw (chk (decide (0≤n_9)&&decide (n_9<18446744073709551616)) (some (Zy .i64 (Vv n_9),[]))) (kI .i64 fun n_11=>sel (!n_11==1) (sel (!Yp (Zx (Zb n 10 []))==0) (some (t4,t5)) (some (Zh (Zz b_8::Yy 9 b_9::Zg (Yg (Zx (Zb n 10 [])))::t1),t5))) (chk (decide (0≤i)&&decide (i<(↑(Zv b_9):Int))&&true) (Xw (Vy b_9 (Wm i) Vq) fun cs=>cStr cs fun b r=>cStr r fun b r=>cInt .u64 r fun n_12 r=>cInt .i64 r fun n_13 r=>cInt .i64 r fun n_14 r=>cInt .i64 r fun n_15 r=>cInt .i64 r fun n_16 r=>cInt .i64 r fun n_17 r=>cInt .i64 r fun n_18 r=>onNil r (Zw (chk (l63 dr&&Wj dls Xb&&decide (Zv dls≤1000000)&&decide (0≤n_9)&&decide (n_9<18446744073709551616)) (some (Yq [Zh [Zz (Xf (Zf (Kerb.rekey (Yb dr (Yw Yx dls)) i n_9))),Yy 9 (Yw Yv (Xz (Zf (Kerb.rekey (Yb dr (Yw Yx dls)) i n_9))))],Zy .i64 (Wd (Kerb.rekey (Yb dr (Yw Yx dls)) i n_9))],[]))) (kT fun vs=>onCons vs fun x r=>Xw x fun cs=>cStr cs fun b r_23=>cSl 9 r_23 fun b_10 r_24=>onNil r_24 (cInt .i64 r fun n_19 r=>onNil r (sel (!n_19==0) (some (t4,t5)) (Zw (chk (decide (0≤n_6)&&decide (n_6≤4294967295)) (some (Zy .i64 (Kerb.kaNext n_6),[]))) (kI .i64 fun n_20=>let t6:Kerb.Enc:=Uz n (Uy [(67:UInt8),(80:UInt8),(87:UInt8),(100:UInt8)] n_20 0 0 0 0 (Yu [] [] []) []) n_12;Zw (chk (Wq n_12) (some (Yq [Zg (Yg t6),Zy .i64 (Yp t6)],t5))) fun (r:AV×Blocks)=>onConsB (Yj r) fun (x:List AV) (r_25:List (List AV))=>cInt .i64 x fun n r_26=>cStr r_26 fun b_11 r_27=>cStr r_27 fun b_12 r_28=>cStr r_28 fun b_13 r_29=>cInt .i64 r_29 fun n_21 r_30=>cStr r_30 fun b_14 r_31=>cBs r_31 fun b_15 r_32=>cStr r_32 fun b_16 r_33=>cStr r_33 fun b_17 r_34=>cBs r_34 fun b_18 r_35=>cStr r_35 fun b_19 r_36=>cSl 9 r_36 fun b_20 r_37=>cInt .i64 r_37 fun n_22 r_38=>cInt .i64 r_38 fun n_23 r_39=>cInt .i64 r_39 fun n_24 r_40=>cInt .u64 r_40 fun n_25 r_41=>let t7:List (List AV):=[[Zy .i64 n,Zz b_11,Zz b_12,Zz b_13,Zy .i64 n_21,Zz b_14,Zg b_15,Zz b_16,Zz b_17,Zg b_18,Zz b_19,Yy 9 b_20,Zy .i64 n_22,Zy .i64 n_23,Zy .i64 n_24,Zy .u64 n_25]];onNil r_41 (onNilB r_25 (AV.onTup (Yk r) fun vs=>cBs vs fun b_21 r=>cInt .i64 r fun n r=>onNil r (sel (!n==0) (some (Zh (Zz b_19::Yy 9 b_20::t0),t7)) (some (Zh (Zz b::Yy 9 b_10::Zg b_21::t1),t7))))))))))))))))))):Option (AV×Blocks))) (by kernel_rfl) ?_
  delta kT kI
  try dsimp only [cStr,cBs,cBool,cU8,cInt,cSl,l63]
  simp only [Wu,decide_eq_true_eq] at hpre
  obtain ⟨⟨⟨⟨⟨⟨⟨hpre,hd⟩,hdl⟩,hbl⟩,hop⟩,h0⟩,h1⟩,hdr⟩:=hpre
  obtain ⟨⟨⟨⟨⟨⟨⟨⟨⟨⟨⟨c1,c2⟩,c3⟩,c4⟩,c5⟩,c6⟩,c7⟩,c8⟩,c9⟩,c10⟩,hall⟩,hlen⟩:=hpre
  obtain ⟨es,rfl,hok⟩:=Wn hall
  obtain ⟨ds,rfl,hok2⟩:=Wn hd
  rw [Yn,Yn]
  simp only [Xj] at hlen hdl h1
  have hlb:[(67:UInt8),(80:UInt8),(87:UInt8),(108:UInt8)]=Kerb.lChange:=rfl
  have hlb2:[(67:UInt8),(80:UInt8),(87:UInt8),(100:UInt8)]=Kerb.lDone:=rfl
  have i0:decide (0≤i)=true:=by simp;omega
  have i1:decide (i<(es.length:Int))=true:=by simp;omega
  simp only [hlb,hlb2,Yn,hall,hd,Xj,hlen,hdl,hbl,hdr,i0,i1,c1,c2,c3,c4,c5,c6,c7,c8,decide_true,Ym,List.map_nil,↓A0,A0]
  unfold Kerb.kaChangePw
  dsimp only
  have sb:=Kerb.kaSecOf_bd bd Kerb.lChange now sk
  generalize Vu bd Kerb.lChange now sk=S at sb ⊢
  by_cases h1:S.err=0
  case neg =>
   rw [sel_pos (by simpa using h1),if_pos h1]
   by_cases hr:(Zx ⟨op,S.err,[]⟩).err=0
   ·rw [sel_neg (by simpa using hr)];rfl
   ·rw [sel_pos (by simpa using hr),Yz hr];rfl
  rw [sel_neg (by simpa using h1),if_neg (not_not_intro h1)]
  rw [chk_of (by simp;exact sb.2.2)]
  by_cases h2:Vv S.val.new=1
  case neg =>
   rw [sel_pos (by simpa using h2),if_pos h2]
   by_cases hr:(Zx ⟨op,10,[]⟩).err=0
   ·rw [sel_neg (by simpa using hr)];rfl
   ·rw [sel_pos (by simpa using hr),Yz hr];rfl
  rw [sel_neg (by simpa using h2),if_neg (not_not_intro h2)]
  rw [Uq (by omega)]
  have ho:=hok _ (Kerb.ent_mem (es:=es) (i:=i.toNat) (by omega))
  unfold Kerb.entAt Kerb.kaReplySeal
  dsimp only
  generalize es.getD i.toNat Kerb.noEntry=e at ho ⊢
  have t0:decide (0≤S.val.time)=true:=decide_eq_true sb.1.1
  have t1:decide (S.val.time≤4294967295)=true:=decide_eq_true sb.1.2
  have n0:decide (0≤S.val.new)=true:=decide_eq_true sb.2.2.1
  have n1:decide (S.val.new<18446744073709551616)=true:=decide_eq_true sb.2.2.2
  simp only [Yv,n0,n1,t0,t1,ho.2.2.1,Ym,↓A0,A0]
  rw [show Kerb.noPrin=⟨[],[],[]⟩ from rfl]
  generalize Kerb.rekey ⟨dr,ds⟩ i S.val.new=R
  generalize Uz op _ e.key=B
  by_cases hr:R.err=0
  case neg=>rw [sel_pos (by simpa using hr),if_pos (.inr hr)];rfl
  by_cases hb:B.err=0
  case neg =>
   have hb2:(B.err==0)=false:=by simpa using hb
   rw [sel_neg (by simpa using hr),sel_pos (by simpa using hb),if_pos (.inl hb2)];rfl
  have hb3:¬ ((B.err==0)=false∨R.err≠0):=by simp [hb,hr]
  rw [sel_neg (by simpa using hr),sel_neg (by simpa using hb),if_neg hb3]
  rfl
 ·cases h
theorem w217:Walked Tryz.prog G 217 11 sp217:=by
 refine ⟨Tryz.f217,Tryz.func217,by decide +kernel,rfl,fun xs bl r h=> ?_⟩
 unfold sp217 at h
 split at h
 ·rename_i b k
  obtain ⟨hpre,h2⟩:=chk_inv h;cases h2
  refine Eq.trans (b:=(Zw (chk (decide (Zv b≤140737488355328)) (some (Yq [Zg (Yk (Wg b 1 k)),Zm (Yj (Wg b 1 k))],[]))) (kT fun vs=>cBs vs fun b r=>cBool r fun b_1 r=>onNil r (sel (!b_1) (some (Yq [Zh [Zm false,Zz [],Zz [],Zz [],Zy .i64 0,Zy .u64 0,Zy .i64 0,Zy .i64 0,Zz [],Zz []],Zy .i64 31],[])) (Zw (chk (decide (Zv b≤140737488355328)) (some (Yq [Zh [Zm (Kerb.Ticket.little (Zf (Xm b))),Zz (Zp (Wk (Zf (Xm b)))),Zz (Zd (Wk (Zf (Xm b)))),Zz (Zq (Wk (Zf (Xm b)))),Zy .i64 (Kerb.Ticket.address (Zf (Xm b))),Zy .u64 (Kerb.Ticket.session (Zf (Xm b))),Zy .i64 (Kerb.Ticket.life (Zf (Xm b))),Zy .i64 (Kerb.Ticket.issued (Zf (Xm b))),Zz (Kerb.Ticket.service (Zf (Xm b))),Zz (Kerb.Ticket.inst (Zf (Xm b)))],Zy .i64 (Wd (Xm b))],[]))) (kT fun vs=>onCons vs fun x r=>Xw x fun cs=>cBool cs fun b r_1=>cStr r_1 fun b_2 r_2=>cStr r_2 fun b_3 r_3=>cStr r_3 fun b_4 r_4=>cInt .i64 r_4 fun n r_5=>cInt .u64 r_5 fun n_1 r_6=>cInt .i64 r_6 fun n_2 r_7=>cInt .i64 r_7 fun n_3 r_8=>cStr r_8 fun b_5 r_9=>cStr r_9 fun b_6 r_10=>onNil r_10 (cInt .i64 r fun n_4 r=>onNil r (some (Yq [Zh [Zm b,Zz b_2,Zz b_3,Zz b_4,Zy .i64 n,Zy .u64 n_1,Zy .i64 n_2,Zy .i64 n_3,Zz b_5,Zz b_6],Zy .i64 n_4],[]))))))):Option (AV×Blocks))) (by kernel_rfl) ?_
  delta kT
  try dsimp only [cStr,cBs,cBool,cU8,cInt,cSl,l63]
  have hb:=of_decide_eq_true hpre
  have hl:=Kerb.openBox_len b 1 k
  simp only [hpre,↓A0,A0]
  unfold Wv
  cases h:(Wg b 1 k).2
  ·rfl
  ·rw [sel_neg (by simp),chk_of (by simp;omega)]
   rfl
 ·cases h
theorem w224:Walked Tryz.prog G 224 11 sp224:=by
 refine ⟨Tryz.f224,Tryz.func224,by decide +kernel,rfl,fun xs bl r h=> ?_⟩
 unfold sp224 at h
 split at h
 ·rename_i rl els x y z u v w ad li now lf se sl tg kv
  obtain ⟨hpre,h2⟩:=chk_inv h;cases h2
  refine Eq.trans (b:=(let t0:AV:=Zh [Zy .i64 0,Zz [],Zz [],Zz [],Zz [],Zz [],Zz [],Zz [],Zz [],Zz [],Zy .u64 0,Zy .u64 0,Zy .u64 0,Zg [],Zy .i64 0,Zy .i64 0];let t1:AV:=Zh [Zy .u64 0,Zz [],Zz [],Zz [],Zy .i64 0,Zy .i64 0,Zg [],Zy .i64 0];Zw (chk (l63 x&&l63 y&&l63 z&&l63 u&&l63 v&&decide (0≤se)&&decide (se<18446744073709551616)&&decide (0≤tg)&&decide (tg<18446744073709551616)) (some (Yq [Zg (Yg (Kerb.sealTicket (Vb li (Yu x y z) ad se lf now u v) tg)),Zy .i64 (Yp (Kerb.sealTicket (Vb li (Yu x y z) ad se lf now u v) tg))],[]))) (kT fun vs=>onCons vs fun x_1 r=>AV.onBs x_1 fun b=>onCons r fun x_2 r=>AV.onInt .i64 x_2 fun n=>onNil r (sel (!n==0) (some (Yq [t0,t1,Zy .i64 n],[])) (Zw (chk (l63 u&&l63 v&&l63 w&&decide (0≤se)&&decide (se<18446744073709551616)) (some (Yq [Zg (Yg (Kerb.encodePart (Kerb.ReplyPart.mk se (Yu u v w) lf kv b now) li)),Zy .i64 (Yp (Kerb.encodePart (Kerb.ReplyPart.mk se (Yu u v w) lf kv b now) li))],[]))) (kT fun vs=>onCons vs fun x_3 r=>AV.onBs x_3 fun b_1=>onCons r fun x_4 r=>AV.onInt .i64 x_4 fun n=>onNil r (sel (!n==0) (some (Yq [t0,t1,Zy .i64 n],[])) (Zw (chk (decide (Zv b≤140737488355328)) (some (Zg b,[]))) (kB fun b_2=>some (Yq [Zh [Zy .i64 0,Zz [(107:UInt8),(114:UInt8),(98:UInt8),(116:UInt8),(103:UInt8),(116:UInt8)],Zz rl,Zz rl,Zz x,Zz y,Zz z,Zz u,Zz v,Zz w,Zy .u64 se,Zy .u64 sl,Zy .u64 0,Zg b_2,Zy .i64 now,Zy .i64 (Vx now lf)],Zh [Zy .u64 se,Zz u,Zz v,Zz w,Zy .i64 lf,Zy .i64 kv,Zg b,Zy .i64 now],Zy .i64 0],[])))))))):Option (AV×Blocks))) (by kernel_rfl) ?_
  delta kT kB
  try dsimp only [cStr,cBs,cBool,cU8,cInt,cSl,l63]
  simp only [Wu,decide_eq_true_eq] at hpre
  simp only [Kerb.isU64_iff] at hpre
  obtain ⟨⟨⟨⟨⟨⟨⟨h1,h2⟩,h3⟩,h4⟩,h5⟩,h6⟩,h7,h8⟩,h9,h10⟩:=hpre
  simp only [h1,h2,h3,h4,h5,h6,h7,h8,h9,h10,decide_true,Ym,↓A0,A0]
  unfold Kerb.grant Kerb.grantTkt
  dsimp only
  have hsl:=Kerb.sealTicket_len ⟨li,⟨x,y,z⟩,ad,se,lf,now,u,v⟩ tg
  generalize Kerb.sealTicket ⟨li,⟨x,y,z⟩,ad,se,lf,now,u,v⟩ tg=E at hsl
  by_cases he:E.err=0
  case neg=>rw [sel_pos (by simpa using he),if_pos he];rfl
  rw [sel_neg (by simpa using he),if_neg (by simpa using he)]
  generalize Kerb.encodePart ⟨se,⟨u,v,w⟩,lf,kv,E.val,now⟩ li=F
  by_cases hf:F.err=0
  case neg=>rw [sel_pos (by simpa using hf),if_pos hf];rfl
  rw [sel_neg (by simpa using hf),if_neg (by simpa using hf)]
  rw [chk_of (by simp;omega)]
  rfl
 ·cases h
theorem w147:Walked Tryz.prog G 147 12 sp147:=by
 refine ⟨Tryz.f147,Tryz.func147,by decide +kernel,rfl,fun xs bl r h=> ?_⟩
 unfold sp147 at h
 split at h
 ·rename_i op u1 u2 u3 kv qr tk sv ins bx rl els now ad sk se
  obtain ⟨hpre,h2⟩:=chk_inv h;cases h2
  show runFnH (G.env 147 12) G.rts (G.own 147) Tryz.f147 _ _ [0]=_
  refine Eq.trans (b:=(let t0:List (List AV):=[[Zy .i64 op,Zz u1,Zz u2,Zz u3,Zy .i64 kv,Zz qr,Zg tk,Zz sv,Zz ins,Zg bx,Zz rl,Yy 9 els,Zy .i64 now,Zy .i64 ad,Zy .i64 sk,Zy .u64 se]];let t1:AV:=Zh [Zm false,Zz [],Zz [],Zz [],Zy .i64 0,Zy .u64 0,Zy .i64 0,Zy .i64 0,Zz [],Zz []];let t3:Int×Int:=Kerb.serviceEnt (Yb rl (Yw Yx els)) [(107:UInt8),(114:UInt8),(98:UInt8),(116:UInt8),(103:UInt8),(116:UInt8)] rl now;let t2:Option (AV×Blocks):=some (Yq [t1,Zy .i64 35],t0);sel (!qr==rl) t2 (Zw (chk (Wj els Xb&&decide (Zv els≤1000000)) (some (Yq [Zy .i64 (Yk t3),Zy .i64 (Yj t3)],[]))) (kT fun vs=>cInt .i64 vs fun n r=>cInt .i64 r fun n_1 r=>onNil r (sel (!n_1==0) (some (Yq [t1,Zy .i64 n_1],t0)) (chk (decide (0≤n)&&decide (n<(↑(Zv els):Int))&&true) (Xw (Vy els (Wm n) Vq) fun cs=>cStr cs fun b r=>cStr r fun b r=>cInt .u64 r fun n r=>cInt .i64 r fun n_2 r=>cInt .i64 r fun n_3 r=>cInt .i64 r fun n_4 r=>cInt .i64 r fun n_5 r=>cInt .i64 r fun n_6 r=>cInt .i64 r fun n_7 r=>onNil r (sel (!kv==n_2) t2 (Zw (chk (decide (Zv tk≤140737488355328)) (some (Yq [Zh [Zm (Kerb.Ticket.little (Zf (Wv tk n))),Zz (Zp (Wk (Zf (Wv tk n)))),Zz (Zd (Wk (Zf (Wv tk n)))),Zz (Zq (Wk (Zf (Wv tk n)))),Zy .i64 (Kerb.Ticket.address (Zf (Wv tk n))),Zy .u64 (Kerb.Ticket.session (Zf (Wv tk n))),Zy .i64 (Kerb.Ticket.life (Zf (Wv tk n))),Zy .i64 (Kerb.Ticket.issued (Zf (Wv tk n))),Zz (Kerb.Ticket.service (Zf (Wv tk n))),Zz (Kerb.Ticket.inst (Zf (Wv tk n)))],Zy .i64 (Wd (Wv tk n))],[]))) (kT fun vs=>onCons vs fun x r=>Xw x fun cs=>cBool cs fun b r_1=>cStr r_1 fun b_1 r_2=>cStr r_2 fun b_2 r_3=>cStr r_3 fun b_3 r_4=>cInt .i64 r_4 fun n r_5=>cInt .u64 r_5 fun n_8 r_6=>cInt .i64 r_6 fun n_9 r_7=>cInt .i64 r_7 fun n_10 r_8=>cStr r_8 fun b_4 r_9=>cStr r_9 fun b_5 r_10=>onNil r_10 (cInt .i64 r fun n_11 r=>onNil r (sel (!n_11==0) (some (Yq [t1,Zy .i64 31],t0)) (sel (!b_4==[(107:UInt8),(114:UInt8),(98:UInt8),(116:UInt8),(103:UInt8),(116:UInt8)]) t2 (sel (!b_5==rl) t2 (sel (!b_3==rl) (some (Yq [t1,Zy .i64 36],t0)) (sel (!n==ad) (some (Yq [t1,Zy .i64 38],t0)) (sel (!Kerb.stateErr n_10 n_9 now sk==0) (some (Yq [t1,Zy .i64 (Kerb.stateErr n_10 n_9 now sk)],t0)) (some (Yq [Zh [Zm b,Zz b_1,Zz b_2,Zz b_3,Zy .i64 n,Zy .u64 n_8,Zy .i64 n_9,Zy .i64 n_10,Zz b_4,Zz b_5],Zy .i64 0],t0))))))))))))))))):Option (AV×Blocks))) (by kernel_rfl) ?_
  delta kT
  try dsimp only [cStr,cBs,cBool,cU8,cInt,cSl,l63]
  simp only [Wu,decide_eq_true_eq] at hpre
  obtain ⟨⟨⟨⟨⟨⟨⟨⟨⟨⟨⟨c1,c2⟩,c3⟩,c4⟩,c5⟩,c6⟩,c7⟩,c8⟩,c9⟩,c10⟩,hall⟩,hlen⟩:=hpre
  obtain ⟨es,rfl,hok⟩:=Wn hall
  rw [Yn]
  simp only [Xj] at hlen
  have tl:decide (tk.length≤140737488355328)=true:=by simp;omega
  have hkr:[(107:UInt8),(114:UInt8),(98:UInt8),(116:UInt8),(103:UInt8),(116:UInt8)]=Vm:=rfl
  simp only [hkr,hall,Xj,hlen,tl,decide_true,Ym,↓A0,A0]
  unfold Kerb.kaPresented
  dsimp only
  by_cases h1:qr=rl
  case neg=>rw [sel_pos (by simpa using h1),if_pos h1];try rfl
  rw [sel_neg (by simp [h1]),if_neg (by simp [h1])]
  have hs := @Kerb.serv_lt ⟨rl,es⟩ Vm rl now
  generalize Kerb.serviceEnt ⟨rl,es⟩ Vm rl now=F at hs ⊢
  obtain ⟨j,e⟩:=F
  dsimp only at hs ⊢
  by_cases h2:e=0
  case neg=>rw [sel_pos (by simpa using h2),if_pos h2];try rfl
  obtain ⟨g1,g2⟩:=hs h2
  rw [sel_neg (by simpa using h2),if_neg (by simpa using h2),chk_of (by simp;omega),Uq g2]
  unfold Kerb.entAt
  dsimp only
  generalize es.getD j.toNat Kerb.noEntry=x
  simp only [Yv,tl,↓A0,A0]
  by_cases h3:kv=x.kvno
  case neg=>rw [sel_pos (by simpa using h3),if_pos h3];try rfl
  rw [sel_neg (by simp [h3]),if_neg (by simp [h3])]
  generalize Wv tk x.key=T
  by_cases h4:T.err=0
  case neg=>rw [sel_pos (by simpa using h4),if_pos h4];try rfl
  rw [sel_neg (by simpa using h4),if_neg (by simpa using h4)]
  by_cases h5:T.val.service=Vm
  case neg=>rw [sel_pos (by simpa using h5),if_pos (.inl h5)];try rfl
  by_cases h6:T.val.inst=rl
  case neg=>rw [sel_neg (by simp [h5]),sel_pos (by simpa using h6),if_pos (.inr h6)];try rfl
  rw [sel_neg (by simp [h5]),sel_neg (by simp [h6]),if_neg (by simp [h5,h6])]
  by_cases h7:T.val.client.realm=rl
  case neg=>rw [sel_pos (by simpa using h7),if_pos h7];try rfl
  rw [sel_neg (by simp [h7]),if_neg (by simp [h7])]
  by_cases h8:T.val.address=ad
  case neg=>rw [sel_pos (by simpa using h8),if_pos h8];try rfl
  rw [sel_neg (by simp [h8]),if_neg (by simp [h8])]
  generalize Kerb.stateErr T.val.issued T.val.life now sk=Z
  by_cases h9:Z=0
  case neg=>rw [sel_pos (by simpa using h9),if_pos h9];try rfl
  rw [sel_neg (by simp [h9]),if_neg (by simp [h9])]
 ·cases h
theorem w154:Walked Tryz.prog G 154 12 sp154:=by
 refine ⟨Tryz.f154,Tryz.func154,by decide +kernel,rfl,fun xs bl r h=> ?_⟩
 unfold sp154 at h
 split at h
 ·rename_i dr dls gk c1 c2 c3 s1 s2 s3 ga gl gs gg gt gv gb gm op u1 u2 u3 kv qr tk sv ins bx rl els now ad sk se
  obtain ⟨hpre,h2⟩:=chk_inv h;cases h2
  show runFnH (G.env 154 12) G.rts (G.own 154) Tryz.f154 _ _ [0]=_
  refine Eq.trans (b:=(let t2:List AV:=[Zg [],Zy .i64 0,Zz [],Zz [],Zz [],Zz [],Zz [],Zz [],Zz [],Zz [],Zz [],Zy .u64 0,Zy .u64 0,Zy .u64 0,Zg [],Zy .i64 0,Zy .i64 0,Zm false];let t3:List (List AV):=[[Zy .i64 op,Zz u1,Zz u2,Zz u3,Zy .i64 kv,Zz qr,Zg tk,Zz sv,Zz ins,Zg bx,Zz rl,Yy 9 els,Zy .i64 now,Zy .i64 ad,Zy .i64 sk,Zy .u64 se]];let t4:Kerb.Granted:=Kerb.grant rl (Yu c1 c2 c3) (Yu s1 s2 s3) ga false now gl se gs gt gv;let t0:Xk:=Kerb.Granted.issue t4;let t1:Kerb.ReplyPart:=Kerb.Granted.part t4;Zw (chk (l63 c1&&l63 c2&&l63 c3&&l63 s1&&l63 s2&&l63 s3&&Wq se&&Wq gt) (some (Yq [Zh [Zy .i64 (Wy t0),Zz (Zp (Zj t0)),Zz (Zd (Zj t0)),Zz (Zq (Zj t0)),Zz (Zp (Zk t0)),Zz (Zd (Zk t0)),Zz (Zq (Zk t0)),Zz (Zp (Zu t0)),Zz (Zd (Zu t0)),Zz (Zq (Zu t0)),Zy .u64 (Xu t0),Zy .u64 (Xp t0),Zy .u64 (Xq t0),Zg (Xh t0),Zy .i64 (Xd t0),Zy .i64 (Wz t0)],Zh [Zy .u64 (Kerb.ReplyPart.session t1),Zz (Zp (Ux t1)),Zz (Zd (Ux t1)),Zz (Zq (Ux t1)),Zy .i64 (Kerb.ReplyPart.life t1),Zy .i64 (Kerb.ReplyPart.kvno t1),Zg (Kerb.ReplyPart.ticket t1),Zy .i64 (Kerb.ReplyPart.time t1)],Zy .i64 (Kerb.Granted.err t4)],[]))) (kT fun vs=>onCons vs fun x r=>Xw x fun cs=>cInt .i64 cs fun n r_1=>cStr r_1 fun b r_2=>cStr r_2 fun b_1 r_3=>cStr r_3 fun b_2 r_4=>cStr r_4 fun b_3 r_5=>cStr r_5 fun b_4 r_6=>cStr r_6 fun b_5 r_7=>cStr r_7 fun b_6 r_8=>cStr r_8 fun b_7 r_9=>cStr r_9 fun b_8 r_10=>cInt .u64 r_10 fun n r_11=>cInt .u64 r_11 fun n_1 r_12=>cInt .u64 r_12 fun n_2 r_13=>cBs r_13 fun b_9 r_14=>cInt .i64 r_14 fun n_3 r_15=>cInt .i64 r_15 fun n_4 r_16=>onNil r_16 (onCons r fun x r=>Xw x fun cs=>cInt .u64 cs fun n_5 r_17=>cStr r_17 fun b_10 r_18=>cStr r_18 fun b_11 r_19=>cStr r_19 fun b_12 r_20=>cInt .i64 r_20 fun n_6 r_21=>cInt .i64 r_21 fun n_7 r_22=>cBs r_22 fun b_13 r_23=>cInt .i64 r_23 fun n_8 r_24=>onNil r_24 (cInt .i64 r fun n_9 r=>onNil r (sel (!n_9==0) (some (Zh (Zz rl::Yy 9 els::t2),t3)) (Zw (chk (decide (0≤gm)&&decide (gm≤4294967295)) (some (Zy .i64 (Kerb.kaNext gm),[]))) (kI .i64 fun n_10=>let t5:Kerb.Enc:=Uz op (Uy gb n_10 se now (Vw n_4 4294967295) gv (Yu s1 s2 s3) b_9) gs;Zw (chk (l63 s1&&l63 s2&&l63 s3&&l63 gb&&Wq se&&Wq gs) (some (Yq [Zg (Yg t5),Zy .i64 (Yp t5)],t3))) fun (r:AV×Blocks)=>onConsB (Yj r) fun (x:List AV) (r_25:List (List AV))=>cInt .i64 x fun n_11 r_26=>cStr r_26 fun b_14 r_27=>cStr r_27 fun b_15 r_28=>cStr r_28 fun b_16 r_29=>cInt .i64 r_29 fun n_12 r_30=>cStr r_30 fun b_17 r_31=>cBs r_31 fun b_18 r_32=>cStr r_32 fun b_19 r_33=>cStr r_33 fun b_20 r_34=>cBs r_34 fun b_21 r_35=>cStr r_35 fun b_22 r_36=>cSl 9 r_36 fun b_23 r_37=>cInt .i64 r_37 fun n_13 r_38=>cInt .i64 r_38 fun n_14 r_39=>cInt .i64 r_39 fun n_15 r_40=>cInt .u64 r_40 fun n_16 r_41=>let t6:List (List AV):=[[Zy .i64 n_11,Zz b_14,Zz b_15,Zz b_16,Zy .i64 n_12,Zz b_17,Zg b_18,Zz b_19,Zz b_20,Zg b_21,Zz b_22,Yy 9 b_23,Zy .i64 n_13,Zy .i64 n_14,Zy .i64 n_15,Zy .u64 n_16]];onNil r_41 (onNilB r_25 (AV.onTup (Yk r) fun vs=>cBs vs fun b_24 r=>cInt .i64 r fun n_17 r=>onNil r (sel (!n_17==0) (some (Zh (Zz b_22::Yy 9 b_23::t2),t6)) (some (Zh [Zz dr,Yy 9 dls,Zg b_24,Zy .i64 gk,Zz b,Zz b_1,Zz b_2,Zz b_3,Zz b_4,Zz b_5,Zz b_6,Zz b_7,Zz b_8,Zy .u64 n,Zy .u64 n_1,Zy .u64 gg,Zg b_9,Zy .i64 n_3,Zy .i64 n_4,Zm true],t6))))))))))):Option (AV×Blocks))) (by kernel_rfl) ?_
  delta kT kI
  try dsimp only [cStr,cBs,cBool,cU8,cInt,cSl,l63]
  simp only [Wu,decide_eq_true_eq] at hpre
  obtain ⟨⟨⟨⟨⟨⟨⟨⟨⟨⟨⟨⟨⟨⟨d1,d2⟩,d3⟩,d4⟩,d5⟩,d6⟩,d7⟩,k1⟩,k2⟩,k3⟩,k4⟩,ha⟩,hb⟩,g0⟩,g1⟩:=hpre
  obtain ⟨es,rfl,hok⟩:=Wn ha
  obtain ⟨ds,rfl,hok2⟩:=Wn hb
  rw [Yn,Yn]
  simp only [d1,d2,d3,d4,d5,d6,d7,k1,k2,k3,k4,g0,g1,decide_true,Ym,↓A0,A0]
  unfold Vh Kerb.kaReplySeal
  dsimp only
  have hst := @Kerb.grant_stop rl ⟨c1,c2,c3⟩ ⟨s1,s2,s3⟩ ga false now gl se gs gt gv
  generalize Kerb.grant rl ⟨c1,c2,c3⟩ ⟨s1,s2,s3⟩ ga false now gl se gs gt gv=G at hst ⊢
  by_cases hg:G.err=0
  case neg=>rw [sel_pos (by simpa using hg),if_pos hg];rfl
  rw [sel_neg (by simpa using hg),if_neg (not_not_intro hg),hst hg]
  generalize Uz op _ gs=R
  have hr2:¬ R.err=0→(R.err==0)=false:=fun h=>by simpa using h
  by_cases hr:R.err=0
  case neg=>rw [sel_pos (by simpa using hr),if_pos (hr2 hr)];rfl
  rw [sel_neg (by simpa using hr),if_neg (show ¬ (R.err==0)=false from by simp [hr])]
  rfl
 ·cases h
theorem w67:Walked Tryz.prog G 67 13 sp67:=by
 refine ⟨Tryz.f67,Tryz.func67,by decide +kernel,rfl,fun xs bl r h=> ?_⟩
 unfold sp67 at h
 split at h
 ·rename_i op u1 u2 u3 kv qr tk sv ins bx rl els now ad sk se
  obtain ⟨hpre,h2⟩:=chk_inv h;cases h2
  show runFnH (G.env 67 13) G.rts (G.own 67) Tryz.f67 _ _ [0]=_
  refine Eq.trans (b:=(let t0:List UInt8:=[(116:UInt8),(107:UInt8),(116:UInt8),(71:UInt8)];let t1:List AV:=[Zy .i64 0,Zz [],Zz [],Zz [],Zz [],Zz [],Zz [],Zz [],Zz [],Zz [],Zy .u64 0,Zy .u64 0,Zy .u64 0,Zg [],Zy .i64 0,Zy .i64 0,Zm false];let t3:List UInt8:=[(103:UInt8),(84:UInt8),(75:UInt8),(84:UInt8)];let t4:Kerb.Dec Kerb.Ticket:=Kerb.kaPresented (Yb rl (Yw Yx els)) now ad sk (Kerb.KaRequest.mk op (Yu u1 u2 u3) kv qr tk sv ins bx);let t2:Kerb.Ticket:=Zf t4;Zw (chk (l63 u1&&l63 u2&&l63 u3&&l63 qr&&l63 sv&&l63 ins&&l63 rl&&Wq se&&decide (Zv tk≤1000000)&&decide (Zv bx≤1000000)&&Wj els Xb&&decide (Zv els≤1000000)) (some (Yq [Zh [Zm (Kerb.Ticket.little t2),Zz (Zp (Wk t2)),Zz (Zd (Wk t2)),Zz (Zq (Wk t2)),Zy .i64 (Kerb.Ticket.address t2),Zy .u64 (Kerb.Ticket.session t2),Zy .i64 (Kerb.Ticket.life t2),Zy .i64 (Kerb.Ticket.issued t2),Zz (Kerb.Ticket.service t2),Zz (Kerb.Ticket.inst t2)],Zy .i64 (Wd t4)],[[Zy .i64 op,Zz u1,Zz u2,Zz u3,Zy .i64 kv,Zz qr,Zg tk,Zz sv,Zz ins,Zg bx,Zz rl,Yy 9 els,Zy .i64 now,Zy .i64 ad,Zy .i64 sk,Zy .u64 se]]))) fun (r:AV×Blocks)=>onConsB (Yj r) fun (x:List AV) (r_1:List (List AV))=>cInt .i64 x fun n r_2=>cStr r_2 fun b r_3=>cStr r_3 fun b_1 r_4=>cStr r_4 fun b_2 r_5=>cInt .i64 r_5 fun n_1 r_6=>cStr r_6 fun b_3 r_7=>cBs r_7 fun b_4 r_8=>cStr r_8 fun b_5 r_9=>cStr r_9 fun b_6 r_10=>cBs r_10 fun b_7 r_11=>cStr r_11 fun b_8 r_12=>cSl 9 r_12 fun b_9 r_13=>cInt .i64 r_13 fun n_2 r_14=>cInt .i64 r_14 fun n_3 r_15=>cInt .i64 r_15 fun n_4 r_16=>cInt .u64 r_16 fun n_5 r_17=>let t5:List (List AV):=[[Zy .i64 n,Zz b,Zz b_1,Zz b_2,Zy .i64 n_1,Zz b_3,Zg b_4,Zz b_5,Zz b_6,Zg b_7,Zz b_8,Yy 9 b_9,Zy .i64 n_2,Zy .i64 n_3,Zy .i64 n_4,Zy .u64 n_5]];onNil r_17 (onNilB r_1 (AV.onTup (Yk r) fun vs=>onCons vs fun x r=>Xw x fun cs=>cBool cs fun b r_18=>cStr r_18 fun b r_19=>cStr r_19 fun b_10 r_20=>cStr r_20 fun b_11 r_21=>let t6:Bool:=l63 b&&l63 b_10&&l63 b_11;cInt .i64 r_21 fun n_6 r_22=>cInt .u64 r_22 fun n_7 r_23=>cInt .i64 r_23 fun n_8 r_24=>cInt .i64 r_24 fun n_9 r_25=>cStr r_25 fun b_12 r_26=>cStr r_26 fun b_13 r_27=>onNil r_27 (cInt .i64 r fun n_10 r=>onNil r (sel (!n_10==0) (sel (!Yp (Zx (Zb n n_10 []))==0) (some (Zh (Zz b_8::Yy 9 b_9::Zg []::t1),t5)) (some (Zh (Zz b_8::Yy 9 b_9::Zg (Yg (Zx (Zb n n_10 [])))::t1),t5))) (Zw (chk (decide (Zv b_7≤140737488355328)) (some (Yq [Zg (Yk (Wg b_7 7 n_7)),Zm (Yj (Wg b_7 7 n_7))],[]))) (kT fun vs=>cBs vs fun b_14 r=>let t7:Uj:=Zf (Vu b_14 t3 n_2 n_4);cBool r fun b_15 r=>onNil r (sel (!b_15) (sel (!Yp (Zx (Zb n 31 []))==0) (some (Zh (Zz b_8::Yy 9 b_9::Zg []::t1),t5)) (some (Zh (Zz b_8::Yy 9 b_9::Zg (Yg (Zx (Zb n 31 [])))::t1),t5))) (Zw (chk (decide (Zv b_14≤1000000)) (some (Yq [Zh [Zz (Kerb.KaSecret.label t7),Zy .i64 (Kerb.KaSecret.time t7),Zy .i64 (Kerb.KaSecret.start t7),Zy .i64 (Kerb.KaSecret.stop t7),Zy .u64 (Kerb.KaSecret.new t7)],Zy .i64 (Wd (Vu b_14 t3 n_2 n_4))],t5))) fun (r:AV×Blocks)=>onConsB (Yj r) fun (x:List AV) (r_28:List (List AV))=>cInt .i64 x fun n r_29=>cStr r_29 fun b_16 r_30=>cStr r_30 fun b_17 r_31=>cStr r_31 fun b_18 r_32=>cInt .i64 r_32 fun n_11 r_33=>cStr r_33 fun b_19 r_34=>cBs r_34 fun b_20 r_35=>cStr r_35 fun b_21 r_36=>cStr r_36 fun b_22 r_37=>cBs r_37 fun b_23 r_38=>cStr r_38 fun b_24 r_39=>let t8:Bool:=t6&&l63 b_21&&l63 b_22&&l63 b_24&&true;cSl 9 r_39 fun b_25 r_40=>let t9:Wb:=Wh (Yb b_24 (Yw Yx b_25)) [] Kerb.noIssue false;let t10:AV:=Zh (Zz b_24::Yy 9 b_25::Zg []::t1);let t11:AV:=Zh (Zz b_24::Yy 9 b_25::Zg (Yg (Zx (Zb n 10 [])))::t1);let t12:AV:=Zh (Zz b_24::Yy 9 b_25::Zg (Yg (Zx (Zb n 3 [])))::t1);cInt .i64 r_40 fun n_12 r_41=>let t13:Kerb.Svc:=Kerb.svc (Yb b_24 (Yw Yx b_25)) (Yw Kerb.toCross []) b_21 b_22 n_12;cInt .i64 r_41 fun n_13 r_42=>cInt .i64 r_42 fun n_14 r_43=>cInt .u64 r_43 fun n_15 r_44=>let t14:List (List AV):=[[Zy .i64 n,Zz b_16,Zz b_17,Zz b_18,Zy .i64 n_11,Zz b_19,Zg b_20,Zz b_21,Zz b_22,Zg b_23,Zz b_24,Yy 9 b_25,Zy .i64 n_12,Zy .i64 n_13,Zy .i64 n_14,Zy .u64 n_15]];let t17:Option (AV×Blocks):=chk (decide (0≤n_15)&&decide (n_15<18446744073709551616)) (some (Zy .i64 (Vv n_15),[]));let t15:Option (AV×Blocks):=sel (!Yp (Zx (Zb n 3 []))==0) (some (t10,t14)) (some (t12,t14));let t16:Option (AV×Blocks):=sel (!Yp (Zx (Zb n 10 []))==0) (some (t10,t14)) (some (t11,t14));onNil r_44 (onNilB r_28 (AV.onTup (Yk r) fun vs=>onCons vs fun x r=>Xw x fun cs=>cStr cs fun b_26 r_45=>cInt .i64 r_45 fun n_16 r_46=>cInt .i64 r_46 fun n_17 r_47=>cInt .i64 r_47 fun n_18 r_48=>let t19:List AV:=[Zy .i64 n_18,Zy .i64 (Vx n_9 n_8)];let t18:Nat:=Zv t19;cInt .u64 r_48 fun n_19 r_49=>onNil r_49 (cInt .i64 r fun n_20 r=>onNil r (sel (!n_20==0) (sel (!Yp (Zx (Zb n n_20 []))==0) (some (t10,t14)) (some (Zh (Zz b_24::Yy 9 b_25::Zg (Yg (Zx (Zb n n_20 [])))::t1),t14))) (Zw (chk (Wj b_25 Xb&&decide (Zv b_25≤1000000)&&true&&true&&l63 b_22) (some (Yq [Zy .u64 (Kerb.Svc.key t13),Zy .i64 (Kerb.Svc.kvno t13),Zy .i64 (Kerb.Svc.life t13),Zy .i64 (Kerb.Svc.expires t13),Zy .i64 (Kerb.Svc.err t13)],[]))) (kT fun vs=>cInt .u64 vs fun n_21 r=>let t20:Bool:=t8&&Wq n_15&&Wq n_7&&Wq n_21&&Wq n_7&&Wj b_25 Xb&&Wj b_25 Xb&&decide (0≤n_16)&&decide (n_16≤4294967295);cInt .i64 r fun n_22 r=>cInt .i64 r fun n_23 r=>cInt .i64 r fun n_24 r=>cInt .i64 r fun n_25 r=>onNil r (sel (!n_25==0) (sel (!Yp (Zx (Zb n n_25 []))==0) (some (t10,t14)) (some (Zh (Zz b_24::Yy 9 b_25::Zg (Yg (Zx (Zb n n_25 [])))::t1),t14))) (chk (decide (0<(↑(Zv [Zy .i64 n_24]):Int))&&true) (AV.onInt .i64 (Vy [Zy .i64 n_24] (Wm 0) Vq) fun n_26=>sel (!n_26==0) (chk (room (t18+Zv [Zy .i64 n_26]) (nat_lit 8)) (Zw (chk (decide (Zv (t19++[Zy .i64 n_26])≤1000000)&&Wj [n_18,Vx n_9 n_8,n_26] Vj) (some (Yq [Zy .i64 (Yk (Xx n_12 n_23 [n_18,Vx n_9 n_8,n_26])),Zm (Yj (Xx n_12 n_23 [n_18,Vx n_9 n_8,n_26]))],[]))) (kT fun vs=>cInt .i64 vs fun n_27 r=>let t25:Kerb.Bytes×Xk×Bool:=Vh n t0 n_16 b_24 (Yu b b_10 b_11) (Yu b_21 b_22 b_24) n_6 n_12 n_27 n_15 n_7 n_21 n_22 4 n_7;let t24:Xk×Bool:=Yj t25;let t23:Bool:=Yj t24;let t22:Wb:=if t23=true then Wh (Yb b_24 (Yw Yx b_25)) (Yk t25) (Yk t24) true else t9;let t21:Xk:=Wx t22;cBool r fun b r=>onNil r (sel (!b) t15 (Zw t17 (kI .i64 fun n=>sel (!n==2) t16 (Zw (chk t20 (some (Zh [Zz (Xf (Yd t22)),Yy 9 (Yw Yv (Xz (Yd t22))),Zg (Xg t22),Zy .i64 (Wy t21),Zz (Zp (Zj t21)),Zz (Zd (Zj t21)),Zz (Zq (Zj t21)),Zz (Zp (Zk t21)),Zz (Zd (Zk t21)),Zz (Zq (Zk t21)),Zz (Zp (Zu t21)),Zz (Zd (Zu t21)),Zz (Zq (Zu t21)),Zy .u64 (Xu t21),Zy .u64 (Xp t21),Zy .u64 (Xq t21),Zg (Xh t21),Zy .i64 (Xd t21),Zy .i64 (Wz t21),Zm (Wp t22)],t14))) fun (r:AV×Blocks)=>onConsB (Yj r) fun (x:List AV) (r_50:List (List AV))=>cInt .i64 x fun n r_51=>cStr r_51 fun b r_52=>cStr r_52 fun b_27 r_53=>cStr r_53 fun b_28 r_54=>cInt .i64 r_54 fun n_28 r_55=>cStr r_55 fun b_29 r_56=>cBs r_56 fun b_30 r_57=>cStr r_57 fun b_31 r_58=>cStr r_58 fun b_32 r_59=>cBs r_59 fun b_33 r_60=>cStr r_60 fun b_34 r_61=>cSl 9 r_61 fun b_35 r_62=>cInt .i64 r_62 fun n_29 r_63=>cInt .i64 r_63 fun n_30 r_64=>cInt .i64 r_64 fun n_31 r_65=>cInt .u64 r_65 fun n_32 r_66=>onNil r_66 (onNilB r_50 (Xw (Yk r) fun cs=>cStr cs fun b_36 r=>cSl 9 r fun b_37 r=>cBs r fun b_38 r=>cInt .i64 r fun n_33 r=>cStr r fun b_39 r=>cStr r fun b_40 r=>cStr r fun b_41 r=>cStr r fun b_42 r=>cStr r fun b_43 r=>cStr r fun b_44 r=>cStr r fun b_45 r=>cStr r fun b_46 r=>cStr r fun b_47 r=>cInt .u64 r fun n_34 r=>cInt .u64 r fun n_35 r=>cInt .u64 r fun n_36 r=>cBs r fun b_48 r=>cInt .i64 r fun n_37 r=>cInt .i64 r fun n_38 r=>cBool r fun b_49 r=>onNil r (some (Zh [Zz b_36,Yy 9 b_37,Zg b_38,Zy .i64 n_33,Zz b_39,Zz b_40,Zz b_41,Zz b_42,Zz b_43,Zz b_44,Zz b_45,Zz b_46,Zz b_47,Zy .u64 n_34,Zy .u64 n_35,Zy .u64 n_36,Zg b_48,Zy .i64 n_37,Zy .i64 n_38,Zm b_49],[[Zy .i64 n,Zz b,Zz b_27,Zz b_28,Zy .i64 n_28,Zz b_29,Zg b_30,Zz b_31,Zz b_32,Zg b_33,Zz b_34,Yy 9 b_35,Zy .i64 n_29,Zy .i64 n_30,Zy .i64 n_31,Zy .u64 n_32]]))))))))))) (Zw (chk (decide (t18≤1000000)&&Wj [n_18,Vx n_9 n_8] Vj) (some (Yq [Zy .i64 (Yk (Xx n_12 n_23 [n_18,Vx n_9 n_8])),Zm (Yj (Xx n_12 n_23 [n_18,Vx n_9 n_8]))],[]))) (kT fun vs=>cInt .i64 vs fun n_27 r=>let t30:Kerb.Bytes×Xk×Bool:=Vh n t0 n_16 b_24 (Yu b b_10 b_11) (Yu b_21 b_22 b_24) n_6 n_12 n_27 n_15 n_7 n_21 n_22 4 n_7;let t29:Xk×Bool:=Yj t30;let t28:Bool:=Yj t29;let t27:Wb:=if t28=true then Wh (Yb b_24 (Yw Yx b_25)) (Yk t30) (Yk t29) true else t9;let t26:Xk:=Wx t27;cBool r fun b r=>onNil r (sel (!b) t15 (Zw t17 (kI .i64 fun n=>sel (!n==2) t16 (Zw (chk t20 (some (Zh [Zz (Xf (Yd t27)),Yy 9 (Yw Yv (Xz (Yd t27))),Zg (Xg t27),Zy .i64 (Wy t26),Zz (Zp (Zj t26)),Zz (Zd (Zj t26)),Zz (Zq (Zj t26)),Zz (Zp (Zk t26)),Zz (Zd (Zk t26)),Zz (Zq (Zk t26)),Zz (Zp (Zu t26)),Zz (Zd (Zu t26)),Zz (Zq (Zu t26)),Zy .u64 (Xu t26),Zy .u64 (Xp t26),Zy .u64 (Xq t26),Zg (Xh t26),Zy .i64 (Xd t26),Zy .i64 (Wz t26),Zm (Wp t27)],t14))) fun (r:AV×Blocks)=>onConsB (Yj r) fun (x:List AV) (r_50:List (List AV))=>cInt .i64 x fun n r_51=>cStr r_51 fun b r_52=>cStr r_52 fun b_27 r_53=>cStr r_53 fun b_28 r_54=>cInt .i64 r_54 fun n_28 r_55=>cStr r_55 fun b_29 r_56=>cBs r_56 fun b_30 r_57=>cStr r_57 fun b_31 r_58=>cStr r_58 fun b_32 r_59=>cBs r_59 fun b_33 r_60=>cStr r_60 fun b_34 r_61=>cSl 9 r_61 fun b_35 r_62=>cInt .i64 r_62 fun n_29 r_63=>cInt .i64 r_63 fun n_30 r_64=>cInt .i64 r_64 fun n_31 r_65=>cInt .u64 r_65 fun n_32 r_66=>onNil r_66 (onNilB r_50 (Xw (Yk r) fun cs=>cStr cs fun b_36 r=>cSl 9 r fun b_37 r=>cBs r fun b_38 r=>cInt .i64 r fun n_33 r=>cStr r fun b_39 r=>cStr r fun b_40 r=>cStr r fun b_41 r=>cStr r fun b_42 r=>cStr r fun b_43 r=>cStr r fun b_44 r=>cStr r fun b_45 r=>cStr r fun b_46 r=>cStr r fun b_47 r=>cInt .u64 r fun n_34 r=>cInt .u64 r fun n_35 r=>cInt .u64 r fun n_36 r=>cBs r fun b_48 r=>cInt .i64 r fun n_37 r=>cInt .i64 r fun n_38 r=>cBool r fun b_49 r=>onNil r (some (Zh [Zz b_36,Yy 9 b_37,Zg b_38,Zy .i64 n_33,Zz b_39,Zz b_40,Zz b_41,Zz b_42,Zz b_43,Zz b_44,Zz b_45,Zz b_46,Zz b_47,Zy .u64 n_34,Zy .u64 n_35,Zy .u64 n_36,Zg b_48,Zy .i64 n_37,Zy .i64 n_38,Zm b_49],[[Zy .i64 n,Zz b,Zz b_27,Zz b_28,Zy .i64 n_28,Zz b_29,Zg b_30,Zz b_31,Zz b_32,Zg b_33,Zz b_34,Yy 9 b_35,Zy .i64 n_29,Zy .i64 n_30,Zy .i64 n_31,Zy .u64 n_32]]))))))))))))))))))))))))))):Option (AV×Blocks))) (by kernel_rfl) ?_
  delta kT kI
  try dsimp only [cStr,cBs,cBool,cU8,cInt,cSl,l63]
  simp only [Wu,decide_eq_true_eq] at hpre
  obtain ⟨⟨hpre,hop⟩,hn⟩:=hpre
  obtain ⟨⟨⟨⟨⟨⟨⟨⟨⟨⟨⟨c1,c2⟩,c3⟩,c4⟩,c5⟩,c6⟩,c7⟩,c8⟩,c9⟩,c10⟩,hall⟩,hlen⟩:=hpre
  subst hop
  obtain ⟨es,rfl,hok⟩:=Wn hall
  rw [Yn]
  simp only [Xj] at hlen
  have hlb:[(103:UInt8),(84:UInt8),(75:UInt8),(84:UInt8)]=Kerb.lTicket:=rfl
  have hlb2:[(116:UInt8),(107:UInt8),(116:UInt8),(71:UInt8)]=Kerb.lGiven:=rfl
  have bl:decide (bx.length≤140737488355328)=true:=by simp;omega
  have q8:=Kerb.isU64_iff.1 c8
  have q88:(decide (0≤se)&&decide (se<18446744073709551616))=true:=by simp;omega
  simp only [hlb,hlb2,Yn,hall,hn,Xj,hlen,bl,c1,c2,c3,c4,c5,c6,c7,c8,c9,c10,q88,decide_true,Ym,List.map_nil,↓A0,A0]
  unfold Kerb.kaGetTicket Kerb.kaLife2
  dsimp only
  have tb:=Kerb.presented_bd ⟨rl,es⟩ now ad sk ⟨2,⟨u1,u2,u3⟩,kv,qr,tk,sv,ins,bx⟩
  generalize Kerb.kaPresented ⟨rl,es⟩ now ad sk ⟨2,⟨u1,u2,u3⟩,kv,qr,tk,sv,ins,bx⟩=T at tb ⊢
  by_cases h1:T.err=0
  case neg =>
   rw [sel_pos (by simpa using h1),if_pos h1]
   by_cases hr:(Zx ⟨2,T.err,[]⟩).err=0
   ·rw [sel_neg (by simpa using hr)];rfl
   ·rw [sel_pos (by simpa using hr),Yz hr];rfl
  rw [sel_neg (by simpa using h1),if_neg (not_not_intro h1)]
  have ol:=Kerb.openBox_len bx 7 T.val.session
  generalize Wg bx 7 T.val.session=O at ol ⊢
  obtain ⟨bd,ok⟩:=O
  dsimp only at ol ⊢
  cases ok
  ·rw [sel_pos (by rfl),if_pos rfl]
   by_cases hr:(Zx ⟨2,31,[]⟩).err=0
   ·rw [sel_neg (by simpa using hr)];rfl
   ·rw [sel_pos (by simpa using hr),Yz hr];rfl
  rw [sel_neg (by rfl),if_neg (show ¬ (true=false) from by decide)]
  rw [chk_of (by simp;omega)]
  have sb:=Kerb.kaSecOf_bd bd Kerb.lTicket now sk
  generalize Vu bd Kerb.lTicket now sk=S at sb ⊢
  by_cases h3:S.err=0
  case neg =>
   rw [sel_pos (by simpa using h3),if_pos h3]
   by_cases hr:(Zx ⟨2,S.err,[]⟩).err=0
   ·rw [sel_neg (by simpa using hr)];rfl
   ·rw [sel_pos (by simpa using hr),Yz hr];rfl
  rw [sel_neg (by simpa using h3),if_neg (not_not_intro h3)]
  have vb:=Kerb.svc_ok (d:=⟨rl,es⟩) (n:=sv) (i:=ins) (now:=now) hok
  generalize Kerb.svc ⟨rl,es⟩ [] sv ins now=V at vb ⊢
  by_cases h2:V.err=0
  case neg =>
   rw [sel_pos (by simpa using h2),if_pos h2]
   by_cases hr:(Zx ⟨2,V.err,[]⟩).err=0
   ·rw [sel_neg (by simpa using hr)];rfl
   ·rw [sel_pos (by simpa using hr),Yz hr];rfl
  rw [sel_neg (by simpa using h2),if_neg (not_not_intro h2)]
  have t0:decide (0≤S.val.time)=true:=decide_eq_true sb.1.1
  have t1:decide (S.val.time≤4294967295)=true:=decide_eq_true sb.1.2
  have s1:Vj S.val.stop=true:=by rw [Kerb.isI64_iff];unfold Kerb.KaSecret.bd at sb;omega
  have s2:=Kerb.tEnd_i64 T.val.issued T.val.life
  have k1:decide (T.val.client.name.length≤9223372036854775807)=true:=decide_eq_true (Ww tb.1 (by decide))
  have k2:decide (T.val.client.inst.length≤9223372036854775807)=true:=decide_eq_true (Ww tb.2.1 (by decide))
  have k3:decide (T.val.client.realm.length≤9223372036854775807)=true:=decide_eq_true (Ww tb.2.2.1 (by decide))
  try simp only [k1,k2,k3,Ym,Bool.true_and]
  have g0:Vy [Zy Yh V.expires] (Wm 0) Vq=Zy Yh V.expires:=rfl
  rw [chk_of (by rfl),g0,onInt_int]
  by_cases hv:V.expires=0
  ·rw [sel_neg (by simp [hv])]
   rw [chk_of (by simp [s1,s2,vb.2.2.2]),show Wf [S.val.stop,Vx T.val.issued T.val.life] V.expires=[S.val.stop,Vx T.val.issued T.val.life] from by simp [Wf,hv]]
   generalize Xx now V.life [S.val.stop,Vx T.val.issued T.val.life]=L
   obtain ⟨life,ok⟩:=L
   dsimp only
   cases ok
   ·rw [sel_pos (by rfl),if_pos rfl]
    by_cases hr:(Zx ⟨2,3,[]⟩).err=0
    ·rw [sel_neg (by simpa using hr)];rfl
    ·rw [sel_pos (by simpa using hr),Yz hr];rfl
   rw [sel_neg (by rfl),if_neg (show ¬ (true=false) from by decide)]
   by_cases h5:Vv se=2
   case neg =>
    rw [sel_pos (by simpa using h5),if_pos h5]
    by_cases hr:(Zx ⟨2,10,[]⟩).err=0
    ·rw [sel_neg (by simpa using hr)];rfl
    ·rw [sel_pos (by simpa using hr),Yz hr];rfl
   rw [sel_neg (by simpa using h5),if_neg (not_not_intro h5),chk_of (by rw [tb.2.2.2,vb.1,t0,t1];rfl)]
   rw [Kerb.kaGive_out]
  ·rw [sel_pos (by simpa using hv),chk_of (by rfl)]
   rw [chk_of (by simp [s1,s2,vb.2.2.2]),show Wf [S.val.stop,Vx T.val.issued T.val.life] V.expires=[S.val.stop,Vx T.val.issued T.val.life,V.expires] from by simp [Wf,hv]]
   generalize Xx now V.life [S.val.stop,Vx T.val.issued T.val.life,V.expires]=L
   obtain ⟨life,ok⟩:=L
   dsimp only
   cases ok
   ·rw [sel_pos (by rfl),if_pos rfl]
    by_cases hr:(Zx ⟨2,3,[]⟩).err=0
    ·rw [sel_neg (by simpa using hr)];rfl
    ·rw [sel_pos (by simpa using hr),Yz hr];rfl
   rw [sel_neg (by rfl),if_neg (show ¬ (true=false) from by decide)]
   by_cases h5:Vv se=2
   case neg =>
    rw [sel_pos (by simpa using h5),if_pos h5]
    by_cases hr:(Zx ⟨2,10,[]⟩).err=0
    ·rw [sel_neg (by simpa using hr)];rfl
    ·rw [sel_pos (by simpa using hr),Yz hr];rfl
   rw [sel_neg (by simpa using h5),if_neg (not_not_intro h5),chk_of (by rw [tb.2.2.2,vb.1,t0,t1];rfl)]
   rw [Kerb.kaGive_out]
 ·cases h
theorem w159:Walked Tryz.prog G 159 13 sp159:=by
 refine ⟨Tryz.f159,Tryz.func159,by decide +kernel,rfl,fun xs bl r h=> ?_⟩
 unfold sp159 at h
 split at h
 ·rename_i dr dls en ei ek ev ex em ea ef et bd op u1 u2 u3 kv qr tk sv ins bx rl els now ad sk se
  obtain ⟨hpre,h2⟩:=chk_inv h;cases h2
  show runFnH (G.env 159 13) G.rts (G.own 159) Tryz.f159 _ _ [0]=_
  refine Eq.trans (b:=(let t0:List UInt8:=[(107:UInt8),(114:UInt8),(98:UInt8),(116:UInt8),(103:UInt8),(116:UInt8)];let t1:List UInt8:=[(116:UInt8),(103:UInt8),(115:UInt8),(84:UInt8)];let t2:List AV:=[Zy .i64 0,Zz [],Zz [],Zz [],Zz [],Zz [],Zz [],Zz [],Zz [],Zz [],Zy .u64 0,Zy .u64 0,Zy .u64 0,Zg [],Zy .i64 0,Zy .i64 0,Zm false];let t4:Kerb.Dec Uj:=Vu bd [(103:UInt8),(84:UInt8),(71:UInt8),(83:UInt8)] now sk;let t3:Uj:=Zf t4;Zw (chk (decide (Zv bd≤1000000)) (some (Yq [Zh [Zz (Kerb.KaSecret.label t3),Zy .i64 (Kerb.KaSecret.time t3),Zy .i64 (Kerb.KaSecret.start t3),Zy .i64 (Kerb.KaSecret.stop t3),Zy .u64 (Kerb.KaSecret.new t3)],Zy .i64 (Wd t4)],[[Zy .i64 op,Zz u1,Zz u2,Zz u3,Zy .i64 kv,Zz qr,Zg tk,Zz sv,Zz ins,Zg bx,Zz rl,Yy 9 els,Zy .i64 now,Zy .i64 ad,Zy .i64 sk,Zy .u64 se]]))) fun (r:AV×Blocks)=>onConsB (Yj r) fun (x:List AV) (r_1:List (List AV))=>cInt .i64 x fun n r_2=>let t5:Bool := !Yp (Zx (Zb n 10 []))==0;let t6:Bool := !Yp (Zx (Zb n 3 []))==0;let t7:List AV:=Zg (Yg (Zx (Zb n 3 [])))::t2;let t8:List AV:=Zg (Yg (Zx (Zb n 10 [])))::t2;cStr r_2 fun b r_3=>cStr r_3 fun b_1 r_4=>let t9:Bool:=l63 b&&l63 b_1;cStr r_4 fun b_2 r_5=>let t10:Bool:=t9&&l63 b_2&&true;cInt .i64 r_5 fun n_1 r_6=>cStr r_6 fun b_3 r_7=>cBs r_7 fun b_4 r_8=>cStr r_8 fun b_5 r_9=>cStr r_9 fun b_6 r_10=>cBs r_10 fun b_7 r_11=>cStr r_11 fun b_8 r_12=>let t11:Bool:=t10&&l63 b_8&&l63 b_8&&true;cSl 9 r_12 fun b_9 r_13=>let t12:Wb:=Wh (Yb b_8 (Yw Yx b_9)) [] Kerb.noIssue false;let t13:AV:=Zh (Zz b_8::Yy 9 b_9::Zg []::t2);let t14:AV:=Zh (Zz b_8::Yy 9 b_9::t7);let t15:AV:=Zh (Zz b_8::Yy 9 b_9::t8);cInt .i64 r_13 fun n_2 r_14=>let t16:Kerb.Svc:=Kerb.svc (Yb b_8 (Yw Yx b_9)) (Yw Kerb.toCross []) t0 b_8 n_2;cInt .i64 r_14 fun n_3 r_15=>cInt .i64 r_15 fun n_4 r_16=>cInt .u64 r_16 fun n_5 r_17=>let t17:List (List AV):=[[Zy .i64 n,Zz b,Zz b_1,Zz b_2,Zy .i64 n_1,Zz b_3,Zg b_4,Zz b_5,Zz b_6,Zg b_7,Zz b_8,Yy 9 b_9,Zy .i64 n_2,Zy .i64 n_3,Zy .i64 n_4,Zy .u64 n_5]];let t18:Option (AV×Blocks):=chk (decide (0≤n_5)&&decide (n_5<18446744073709551616)) (some (Zy .i64 (Vv n_5),[]));let t21:Bool:=t11&&Wq n_5&&Wq ek;let t19:Option (AV×Blocks):=sel t6 (some (t13,t17)) (some (t14,t17));let t20:Option (AV×Blocks):=sel t5 (some (t13,t17)) (some (t15,t17));onNil r_17 (onNilB r_1 (AV.onTup (Yk r) fun vs=>onCons vs fun x r=>Xw x fun cs=>cStr cs fun b_10 r_18=>cInt .i64 r_18 fun n_6 r_19=>cInt .i64 r_19 fun n_7 r_20=>cInt .i64 r_20 fun n_8 r_21=>cInt .u64 r_21 fun n_9 r_22=>onNil r_22 (cInt .i64 r fun n_10 r=>onNil r (sel (!n_10==0) (sel (!Yp (Zx (Zb n n_10 []))==0) (some (t13,t17)) (some (Zh (Zz b_8::Yy 9 b_9::Zg (Yg (Zx (Zb n n_10 [])))::t2),t17))) (Zw (chk (Wj b_9 Xb&&decide (Zv b_9≤1000000)&&true&&true&&l63 b_8) (some (Yq [Zy .u64 (Kerb.Svc.key t16),Zy .i64 (Kerb.Svc.kvno t16),Zy .i64 (Kerb.Svc.life t16),Zy .i64 (Kerb.Svc.expires t16),Zy .i64 (Kerb.Svc.err t16)],[]))) (kT fun vs=>cInt .u64 vs fun n_11 r=>let t22:Bool:=t21&&Wq n_11&&true&&Wj b_9 Xb&&Wj dls Xb&&decide (0≤n_6)&&decide (n_6≤4294967295);cInt .i64 r fun n_12 r=>cInt .i64 r fun n_13 r=>cInt .i64 r fun n_14 r=>let t25:List AV:=[Zy .i64 ex,Zy .i64 n_14];let t23:Int:=(↑(Zv t25):Int);let t24:AV:=Vy t25 (Wm (Zn .i64 (0+1))) Vq;cInt .i64 r fun n_15 r=>onNil r (sel (!n_15==0) (sel (!Yp (Zx (Zb n n_15 []))==0) (some (t13,t17)) (some (Zh (Zz b_8::Yy 9 b_9::Zg (Yg (Zx (Zb n n_15 [])))::t2),t17))) (chk (decide (0<t23)&&true) (AV.onInt .i64 (Vy t25 (Wm 0) Vq) fun n_16=>let t27:List AV:=[Zy .i64 n_8]++[Zy .i64 n_16];let t26:Nat:=Zv t27;sel (!n_16==0) (chk (room (Zv [Zy .i64 n_8]+Zv [Zy .i64 n_16]) (nat_lit 8)) (chk (decide (Zn .i64 (0+1)<t23)&&true) (AV.onInt .i64 t24 fun n_17=>sel (!n_17==0) (chk (room (t26+Zv [Zy .i64 n_17]) (nat_lit 8)) (Zw (chk (decide (Zv (t27++[Zy .i64 n_17])≤1000000)&&Wj [n_8,n_16,n_17] Vj) (some (Yq [Zy .i64 (Yk (Xx n_2 (Vw em n_13) [n_8,n_16,n_17])),Zm (Yj (Xx n_2 (Vw em n_13) [n_8,n_16,n_17]))],[]))) (kT fun vs=>cInt .i64 vs fun n_18 r=>let t32:Kerb.Bytes×Xk×Bool:=Vh n t1 n_6 b_8 (Yu b b_1 b_2) (Yu t0 b_8 b_8) n_3 n_2 n_18 n_5 ek n_11 n_12 3 0;let t31:Xk×Bool:=Yj t32;let t30:Bool:=Yj t31;let t29:Wb:=if t30=true then Wh (Yb dr (Yw Yx dls)) (Yk t32) (Yk t31) true else t12;let t28:Xk:=Wx t29;cBool r fun b r=>onNil r (sel (!b) t19 (Zw t18 (kI .i64 fun n=>sel (!n==2) t20 (Zw (chk t22 (some (Zh [Zz (Xf (Yd t29)),Yy 9 (Yw Yv (Xz (Yd t29))),Zg (Xg t29),Zy .i64 (Wy t28),Zz (Zp (Zj t28)),Zz (Zd (Zj t28)),Zz (Zq (Zj t28)),Zz (Zp (Zk t28)),Zz (Zd (Zk t28)),Zz (Zq (Zk t28)),Zz (Zp (Zu t28)),Zz (Zd (Zu t28)),Zz (Zq (Zu t28)),Zy .u64 (Xu t28),Zy .u64 (Xp t28),Zy .u64 (Xq t28),Zg (Xh t28),Zy .i64 (Xd t28),Zy .i64 (Wz t28),Zm (Wp t29)],t17))) fun (r:AV×Blocks)=>onConsB (Yj r) fun (x:List AV) (r_23:List (List AV))=>cInt .i64 x fun n r_24=>cStr r_24 fun b r_25=>cStr r_25 fun b_11 r_26=>cStr r_26 fun b_12 r_27=>cInt .i64 r_27 fun n_19 r_28=>cStr r_28 fun b_13 r_29=>cBs r_29 fun b_14 r_30=>cStr r_30 fun b_15 r_31=>cStr r_31 fun b_16 r_32=>cBs r_32 fun b_17 r_33=>cStr r_33 fun b_18 r_34=>cSl 9 r_34 fun b_19 r_35=>cInt .i64 r_35 fun n_20 r_36=>cInt .i64 r_36 fun n_21 r_37=>cInt .i64 r_37 fun n_22 r_38=>cInt .u64 r_38 fun n_23 r_39=>onNil r_39 (onNilB r_23 (Xw (Yk r) fun cs=>cStr cs fun b_20 r=>cSl 9 r fun b_21 r=>cBs r fun b_22 r=>cInt .i64 r fun n_24 r=>cStr r fun b_23 r=>cStr r fun b_24 r=>cStr r fun b_25 r=>cStr r fun b_26 r=>cStr r fun b_27 r=>cStr r fun b_28 r=>cStr r fun b_29 r=>cStr r fun b_30 r=>cStr r fun b_31 r=>cInt .u64 r fun n_25 r=>cInt .u64 r fun n_26 r=>cInt .u64 r fun n_27 r=>cBs r fun b_32 r=>cInt .i64 r fun n_28 r=>cInt .i64 r fun n_29 r=>cBool r fun b_33 r=>onNil r (some (Zh [Zz b_20,Yy 9 b_21,Zg b_22,Zy .i64 n_24,Zz b_23,Zz b_24,Zz b_25,Zz b_26,Zz b_27,Zz b_28,Zz b_29,Zz b_30,Zz b_31,Zy .u64 n_25,Zy .u64 n_26,Zy .u64 n_27,Zg b_32,Zy .i64 n_28,Zy .i64 n_29,Zm b_33],[[Zy .i64 n,Zz b,Zz b_11,Zz b_12,Zy .i64 n_19,Zz b_13,Zg b_14,Zz b_15,Zz b_16,Zg b_17,Zz b_18,Yy 9 b_19,Zy .i64 n_20,Zy .i64 n_21,Zy .i64 n_22,Zy .u64 n_23]]))))))))))) (Zw (chk (decide (t26≤1000000)&&Wj [n_8,n_16] Vj) (some (Yq [Zy .i64 (Yk (Xx n_2 (Vw em n_13) [n_8,n_16])),Zm (Yj (Xx n_2 (Vw em n_13) [n_8,n_16]))],[]))) (kT fun vs=>cInt .i64 vs fun n_18 r=>let t37:Kerb.Bytes×Xk×Bool:=Vh n t1 n_6 b_8 (Yu b b_1 b_2) (Yu t0 b_8 b_8) n_3 n_2 n_18 n_5 ek n_11 n_12 3 0;let t36:Xk×Bool:=Yj t37;let t35:Bool:=Yj t36;let t34:Wb:=if t35=true then Wh (Yb dr (Yw Yx dls)) (Yk t37) (Yk t36) true else t12;let t33:Xk:=Wx t34;cBool r fun b r=>onNil r (sel (!b) t19 (Zw t18 (kI .i64 fun n=>sel (!n==2) t20 (Zw (chk t22 (some (Zh [Zz (Xf (Yd t34)),Yy 9 (Yw Yv (Xz (Yd t34))),Zg (Xg t34),Zy .i64 (Wy t33),Zz (Zp (Zj t33)),Zz (Zd (Zj t33)),Zz (Zq (Zj t33)),Zz (Zp (Zk t33)),Zz (Zd (Zk t33)),Zz (Zq (Zk t33)),Zz (Zp (Zu t33)),Zz (Zd (Zu t33)),Zz (Zq (Zu t33)),Zy .u64 (Xu t33),Zy .u64 (Xp t33),Zy .u64 (Xq t33),Zg (Xh t33),Zy .i64 (Xd t33),Zy .i64 (Wz t33),Zm (Wp t34)],t17))) fun (r:AV×Blocks)=>onConsB (Yj r) fun (x:List AV) (r_23:List (List AV))=>cInt .i64 x fun n r_24=>cStr r_24 fun b r_25=>cStr r_25 fun b_11 r_26=>cStr r_26 fun b_12 r_27=>cInt .i64 r_27 fun n_19 r_28=>cStr r_28 fun b_13 r_29=>cBs r_29 fun b_14 r_30=>cStr r_30 fun b_15 r_31=>cStr r_31 fun b_16 r_32=>cBs r_32 fun b_17 r_33=>cStr r_33 fun b_18 r_34=>cSl 9 r_34 fun b_19 r_35=>cInt .i64 r_35 fun n_20 r_36=>cInt .i64 r_36 fun n_21 r_37=>cInt .i64 r_37 fun n_22 r_38=>cInt .u64 r_38 fun n_23 r_39=>onNil r_39 (onNilB r_23 (Xw (Yk r) fun cs=>cStr cs fun b_20 r=>cSl 9 r fun b_21 r=>cBs r fun b_22 r=>cInt .i64 r fun n_24 r=>cStr r fun b_23 r=>cStr r fun b_24 r=>cStr r fun b_25 r=>cStr r fun b_26 r=>cStr r fun b_27 r=>cStr r fun b_28 r=>cStr r fun b_29 r=>cStr r fun b_30 r=>cStr r fun b_31 r=>cInt .u64 r fun n_25 r=>cInt .u64 r fun n_26 r=>cInt .u64 r fun n_27 r=>cBs r fun b_32 r=>cInt .i64 r fun n_28 r=>cInt .i64 r fun n_29 r=>cBool r fun b_33 r=>onNil r (some (Zh [Zz b_20,Yy 9 b_21,Zg b_22,Zy .i64 n_24,Zz b_23,Zz b_24,Zz b_25,Zz b_26,Zz b_27,Zz b_28,Zz b_29,Zz b_30,Zz b_31,Zy .u64 n_25,Zy .u64 n_26,Zy .u64 n_27,Zg b_32,Zy .i64 n_28,Zy .i64 n_29,Zm b_33],[[Zy .i64 n,Zz b,Zz b_11,Zz b_12,Zy .i64 n_19,Zz b_13,Zg b_14,Zz b_15,Zz b_16,Zg b_17,Zz b_18,Yy 9 b_19,Zy .i64 n_20,Zy .i64 n_21,Zy .i64 n_22,Zy .u64 n_23]]))))))))))))) (chk (decide (Zn .i64 (0+1)<t23)&&true) (AV.onInt .i64 t24 fun n_17=>sel (!n_17==0) (chk (room (Zv [Zy .i64 n_8]+Zv [Zy .i64 n_17]) (nat_lit 8)) (Zw (chk (decide (Zv ([Zy .i64 n_8]++[Zy .i64 n_17])≤1000000)&&Wj [n_8,n_17] Vj) (some (Yq [Zy .i64 (Yk (Xx n_2 (Vw em n_13) [n_8,n_17])),Zm (Yj (Xx n_2 (Vw em n_13) [n_8,n_17]))],[]))) (kT fun vs=>cInt .i64 vs fun n_18 r=>let t42:Kerb.Bytes×Xk×Bool:=Vh n t1 n_6 b_8 (Yu b b_1 b_2) (Yu t0 b_8 b_8) n_3 n_2 n_18 n_5 ek n_11 n_12 3 0;let t41:Xk×Bool:=Yj t42;let t40:Bool:=Yj t41;let t39:Wb:=if t40=true then Wh (Yb dr (Yw Yx dls)) (Yk t42) (Yk t41) true else t12;let t38:Xk:=Wx t39;cBool r fun b r=>onNil r (sel (!b) t19 (Zw t18 (kI .i64 fun n=>sel (!n==2) t20 (Zw (chk t22 (some (Zh [Zz (Xf (Yd t39)),Yy 9 (Yw Yv (Xz (Yd t39))),Zg (Xg t39),Zy .i64 (Wy t38),Zz (Zp (Zj t38)),Zz (Zd (Zj t38)),Zz (Zq (Zj t38)),Zz (Zp (Zk t38)),Zz (Zd (Zk t38)),Zz (Zq (Zk t38)),Zz (Zp (Zu t38)),Zz (Zd (Zu t38)),Zz (Zq (Zu t38)),Zy .u64 (Xu t38),Zy .u64 (Xp t38),Zy .u64 (Xq t38),Zg (Xh t38),Zy .i64 (Xd t38),Zy .i64 (Wz t38),Zm (Wp t39)],t17))) fun (r:AV×Blocks)=>onConsB (Yj r) fun (x:List AV) (r_23:List (List AV))=>cInt .i64 x fun n r_24=>cStr r_24 fun b r_25=>cStr r_25 fun b_11 r_26=>cStr r_26 fun b_12 r_27=>cInt .i64 r_27 fun n_19 r_28=>cStr r_28 fun b_13 r_29=>cBs r_29 fun b_14 r_30=>cStr r_30 fun b_15 r_31=>cStr r_31 fun b_16 r_32=>cBs r_32 fun b_17 r_33=>cStr r_33 fun b_18 r_34=>cSl 9 r_34 fun b_19 r_35=>cInt .i64 r_35 fun n_20 r_36=>cInt .i64 r_36 fun n_21 r_37=>cInt .i64 r_37 fun n_22 r_38=>cInt .u64 r_38 fun n_23 r_39=>onNil r_39 (onNilB r_23 (Xw (Yk r) fun cs=>cStr cs fun b_20 r=>cSl 9 r fun b_21 r=>cBs r fun b_22 r=>cInt .i64 r fun n_24 r=>cStr r fun b_23 r=>cStr r fun b_24 r=>cStr r fun b_25 r=>cStr r fun b_26 r=>cStr r fun b_27 r=>cStr r fun b_28 r=>cStr r fun b_29 r=>cStr r fun b_30 r=>cStr r fun b_31 r=>cInt .u64 r fun n_25 r=>cInt .u64 r fun n_26 r=>cInt .u64 r fun n_27 r=>cBs r fun b_32 r=>cInt .i64 r fun n_28 r=>cInt .i64 r fun n_29 r=>cBool r fun b_33 r=>onNil r (some (Zh [Zz b_20,Yy 9 b_21,Zg b_22,Zy .i64 n_24,Zz b_23,Zz b_24,Zz b_25,Zz b_26,Zz b_27,Zz b_28,Zz b_29,Zz b_30,Zz b_31,Zy .u64 n_25,Zy .u64 n_26,Zy .u64 n_27,Zg b_32,Zy .i64 n_28,Zy .i64 n_29,Zm b_33],[[Zy .i64 n,Zz b,Zz b_11,Zz b_12,Zy .i64 n_19,Zz b_13,Zg b_14,Zz b_15,Zz b_16,Zg b_17,Zz b_18,Yy 9 b_19,Zy .i64 n_20,Zy .i64 n_21,Zy .i64 n_22,Zy .u64 n_23]]))))))))))) (Zw (chk (decide (Zv [Zy .i64 n_8]≤1000000)&&Wj [n_8] Vj) (some (Yq [Zy .i64 (Yk (Xx n_2 (Vw em n_13) [n_8])),Zm (Yj (Xx n_2 (Vw em n_13) [n_8]))],[]))) (kT fun vs=>cInt .i64 vs fun n_18 r=>let t47:Kerb.Bytes×Xk×Bool:=Vh n t1 n_6 b_8 (Yu b b_1 b_2) (Yu t0 b_8 b_8) n_3 n_2 n_18 n_5 ek n_11 n_12 3 0;let t46:Xk×Bool:=Yj t47;let t45:Bool:=Yj t46;let t44:Wb:=if t45=true then Wh (Yb dr (Yw Yx dls)) (Yk t47) (Yk t46) true else t12;let t43:Xk:=Wx t44;cBool r fun b r=>onNil r (sel (!b) t19 (Zw t18 (kI .i64 fun n=>sel (!n==2) t20 (Zw (chk t22 (some (Zh [Zz (Xf (Yd t44)),Yy 9 (Yw Yv (Xz (Yd t44))),Zg (Xg t44),Zy .i64 (Wy t43),Zz (Zp (Zj t43)),Zz (Zd (Zj t43)),Zz (Zq (Zj t43)),Zz (Zp (Zk t43)),Zz (Zd (Zk t43)),Zz (Zq (Zk t43)),Zz (Zp (Zu t43)),Zz (Zd (Zu t43)),Zz (Zq (Zu t43)),Zy .u64 (Xu t43),Zy .u64 (Xp t43),Zy .u64 (Xq t43),Zg (Xh t43),Zy .i64 (Xd t43),Zy .i64 (Wz t43),Zm (Wp t44)],t17))) fun (r:AV×Blocks)=>onConsB (Yj r) fun (x:List AV) (r_23:List (List AV))=>cInt .i64 x fun n r_24=>cStr r_24 fun b r_25=>cStr r_25 fun b_11 r_26=>cStr r_26 fun b_12 r_27=>cInt .i64 r_27 fun n_19 r_28=>cStr r_28 fun b_13 r_29=>cBs r_29 fun b_14 r_30=>cStr r_30 fun b_15 r_31=>cStr r_31 fun b_16 r_32=>cBs r_32 fun b_17 r_33=>cStr r_33 fun b_18 r_34=>cSl 9 r_34 fun b_19 r_35=>cInt .i64 r_35 fun n_20 r_36=>cInt .i64 r_36 fun n_21 r_37=>cInt .i64 r_37 fun n_22 r_38=>cInt .u64 r_38 fun n_23 r_39=>onNil r_39 (onNilB r_23 (Xw (Yk r) fun cs=>cStr cs fun b_20 r=>cSl 9 r fun b_21 r=>cBs r fun b_22 r=>cInt .i64 r fun n_24 r=>cStr r fun b_23 r=>cStr r fun b_24 r=>cStr r fun b_25 r=>cStr r fun b_26 r=>cStr r fun b_27 r=>cStr r fun b_28 r=>cStr r fun b_29 r=>cStr r fun b_30 r=>cStr r fun b_31 r=>cInt .u64 r fun n_25 r=>cInt .u64 r fun n_26 r=>cInt .u64 r fun n_27 r=>cBs r fun b_32 r=>cInt .i64 r fun n_28 r=>cInt .i64 r fun n_29 r=>cBool r fun b_33 r=>onNil r (some (Zh [Zz b_20,Yy 9 b_21,Zg b_22,Zy .i64 n_24,Zz b_23,Zz b_24,Zz b_25,Zz b_26,Zz b_27,Zz b_28,Zz b_29,Zz b_30,Zz b_31,Zy .u64 n_25,Zy .u64 n_26,Zy .u64 n_27,Zg b_32,Zy .i64 n_28,Zy .i64 n_29,Zm b_33],[[Zy .i64 n,Zz b,Zz b_11,Zz b_12,Zy .i64 n_19,Zz b_13,Zg b_14,Zz b_15,Zz b_16,Zg b_17,Zz b_18,Yy 9 b_19,Zy .i64 n_20,Zy .i64 n_21,Zy .i64 n_22,Zy .u64 n_23]]))))))))))))))))))))):Option (AV×Blocks))) (by kernel_rfl) ?_
  delta kT kI
  try dsimp only [cStr,cBs,cBool,cU8,cInt,cSl,l63]
  simp only [Wu,decide_eq_true_eq] at hpre
  obtain ⟨⟨⟨⟨⟨⟨⟨hpre,hd⟩,hbl⟩,hop⟩,hn⟩,e1⟩,e2⟩,e3⟩:=hpre
  obtain ⟨⟨⟨⟨⟨⟨⟨⟨⟨⟨⟨c1,c2⟩,c3⟩,c4⟩,c5⟩,c6⟩,c7⟩,c8⟩,c9⟩,c10⟩,hall⟩,hlen⟩:=hpre
  obtain ⟨es,rfl,hok⟩:=Wn hall
  obtain ⟨ds,rfl,hok2⟩:=Wn hd
  rw [Yn,Yn]
  simp only [Xj] at hlen
  have hkr:[(107:UInt8),(114:UInt8),(98:UInt8),(116:UInt8),(103:UInt8),(116:UInt8)]=Vm:=rfl
  have hlb:[(103:UInt8),(84:UInt8),(71:UInt8),(83:UInt8)]=Kerb.lGet:=rfl
  have hlb2:[(116:UInt8),(103:UInt8),(115:UInt8),(84:UInt8)]=Kerb.lGot:=rfl
  have q8:=Kerb.isU64_iff.1 c8
  have q88:(decide (0≤se)&&decide (se<18446744073709551616))=true:=by simp;omega
  simp only [hkr,hlb,hlb2,Yn,hall,hd,Xj,hlen,hbl,c1,c2,c3,c4,c5,c6,c7,c8,e1,q88,decide_true,Ym,List.map_nil,↓A0,A0]
  unfold Kerb.kaAuthenticate Kerb.kaLife1
  dsimp only
  have sb:=Kerb.kaSecOf_bd bd Kerb.lGet now sk
  generalize Vu bd Kerb.lGet now sk=S at sb ⊢
  by_cases h1:S.err=0
  case neg =>
   rw [sel_pos (by simpa using h1),if_pos h1]
   by_cases hr:(Zx ⟨op,S.err,[]⟩).err=0
   ·rw [sel_neg (by simpa using hr)];rfl
   ·rw [sel_pos (by simpa using hr),Yz hr];rfl
  rw [sel_neg (by simpa using h1),if_neg (not_not_intro h1)]
  have vb:=Kerb.svc_ok (d:=⟨rl,es⟩) (n:=Vm) (i:=rl) (now:=now) hok
  generalize Kerb.svc ⟨rl,es⟩ [] Vm rl now=V at vb ⊢
  by_cases h2:V.err=0
  case neg =>
   rw [sel_pos (by simpa using h2),if_pos h2]
   by_cases hr:(Zx ⟨op,V.err,[]⟩).err=0
   ·rw [sel_neg (by simpa using hr)];rfl
   ·rw [sel_pos (by simpa using hr),Yz hr];rfl
  rw [sel_neg (by simpa using h2),if_neg (not_not_intro h2)]
  have t0:decide (0≤S.val.time)=true:=decide_eq_true sb.1.1
  have t1:decide (S.val.time≤4294967295)=true:=decide_eq_true sb.1.2
  have s1:Vj S.val.stop=true:=by rw [Kerb.isI64_iff];unfold Kerb.KaSecret.bd at sb;omega
  have g0:Vy [Zy Yh ex,Zy Yh V.expires] (Wm 0) Vq=Zy Yh ex:=rfl
  have g1:Vy [Zy Yh ex,Zy Yh V.expires] (Wm (Zn .i64 (0+1))) Vq=Zy Yh V.expires:=rfl
  rw [chk_of (by rfl),g0,onInt_int]
  by_cases hx:ex=0
  ·rw [sel_neg (by simp [hx]),chk_of (by rfl),g1,onInt_int]
   by_cases hv:V.expires=0
   ·rw [sel_neg (by simp [hv])]
    rw [chk_of (by simp [s1,e3,vb.2.2.2]),show Wf (Wf [S.val.stop] ex) V.expires=[S.val.stop] from by simp [Wf,hx,hv]]
    generalize Xx now (Vw em V.life) [S.val.stop]=L
    obtain ⟨life,ok⟩:=L
    dsimp only
    cases ok
    ·rw [sel_pos (by rfl),if_pos rfl]
     by_cases hr:(Zx ⟨op,3,[]⟩).err=0
     ·rw [sel_neg (by simpa using hr)];rfl
     ·rw [sel_pos (by simpa using hr),Yz hr];rfl
    rw [sel_neg (by rfl),if_neg (show ¬ (true=false) from by decide)]
    by_cases h5:Vv se=2
    case neg =>
     rw [sel_pos (by simpa using h5),if_pos h5]
     by_cases hr:(Zx ⟨op,10,[]⟩).err=0
     ·rw [sel_neg (by simpa using hr)];rfl
     ·rw [sel_pos (by simpa using hr),Yz hr];rfl
    rw [sel_neg (by simpa using h5),if_neg (not_not_intro h5),chk_of (by rw [vb.1,t0,t1];rfl)]
    rfl
   ·rw [sel_pos (by simpa using hv),chk_of (by rfl)]
    rw [chk_of (by simp [s1,e3,vb.2.2.2]),show Wf (Wf [S.val.stop] ex) V.expires=[S.val.stop,V.expires] from by simp [Wf,hx,hv]]
    generalize Xx now (Vw em V.life) [S.val.stop,V.expires]=L
    obtain ⟨life,ok⟩:=L
    dsimp only
    cases ok
    ·rw [sel_pos (by rfl),if_pos rfl]
     by_cases hr:(Zx ⟨op,3,[]⟩).err=0
     ·rw [sel_neg (by simpa using hr)];rfl
     ·rw [sel_pos (by simpa using hr),Yz hr];rfl
    rw [sel_neg (by rfl),if_neg (show ¬ (true=false) from by decide)]
    by_cases h5:Vv se=2
    case neg =>
     rw [sel_pos (by simpa using h5),if_pos h5]
     by_cases hr:(Zx ⟨op,10,[]⟩).err=0
     ·rw [sel_neg (by simpa using hr)];rfl
     ·rw [sel_pos (by simpa using hr),Yz hr];rfl
    rw [sel_neg (by simpa using h5),if_neg (not_not_intro h5),chk_of (by rw [vb.1,t0,t1];rfl)]
    rfl
  ·rw [sel_pos (by simpa using hx),chk_of (by rfl),chk_of (by rfl),g1,onInt_int]
   by_cases hv:V.expires=0
   ·rw [sel_neg (by simp [hv])]
    rw [chk_of (by simp [s1,e3,vb.2.2.2]),show Wf (Wf [S.val.stop] ex) V.expires=[S.val.stop,ex] from by simp [Wf,hx,hv]]
    generalize Xx now (Vw em V.life) [S.val.stop,ex]=L
    obtain ⟨life,ok⟩:=L
    dsimp only
    cases ok
    ·rw [sel_pos (by rfl),if_pos rfl]
     by_cases hr:(Zx ⟨op,3,[]⟩).err=0
     ·rw [sel_neg (by simpa using hr)];rfl
     ·rw [sel_pos (by simpa using hr),Yz hr];rfl
    rw [sel_neg (by rfl),if_neg (show ¬ (true=false) from by decide)]
    by_cases h5:Vv se=2
    case neg =>
     rw [sel_pos (by simpa using h5),if_pos h5]
     by_cases hr:(Zx ⟨op,10,[]⟩).err=0
     ·rw [sel_neg (by simpa using hr)];rfl
     ·rw [sel_pos (by simpa using hr),Yz hr];rfl
    rw [sel_neg (by simpa using h5),if_neg (not_not_intro h5),chk_of (by rw [vb.1,t0,t1];rfl)]
    rfl
   ·rw [sel_pos (by simpa using hv),chk_of (by rfl)]
    rw [chk_of (by simp [s1,e3,vb.2.2.2]),show Wf (Wf [S.val.stop] ex) V.expires=[S.val.stop,ex,V.expires] from by simp [Wf,hx,hv]]
    generalize Xx now (Vw em V.life) [S.val.stop,ex,V.expires]=L
    obtain ⟨life,ok⟩:=L
    dsimp only
    cases ok
    ·rw [sel_pos (by rfl),if_pos rfl]
     by_cases hr:(Zx ⟨op,3,[]⟩).err=0
     ·rw [sel_neg (by simpa using hr)];rfl
     ·rw [sel_pos (by simpa using hr),Yz hr];rfl
    rw [sel_neg (by rfl),if_neg (show ¬ (true=false) from by decide)]
    by_cases h5:Vv se=2
    case neg =>
     rw [sel_pos (by simpa using h5),if_pos h5]
     by_cases hr:(Zx ⟨op,10,[]⟩).err=0
     ·rw [sel_neg (by simpa using hr)];rfl
     ·rw [sel_pos (by simpa using hr),Yz hr];rfl
    rw [sel_neg (by simpa using h5),if_neg (not_not_intro h5),chk_of (by rw [vb.1,t0,t1];rfl)]
    rfl
 ·cases h
theorem w68:Walked Tryz.prog G 68 14 sp68:=by
 refine ⟨Tryz.f68,Tryz.func68,by decide +kernel,rfl,fun xs bl r h=> ?_⟩
 unfold sp68 at h
 split at h
 ·rename_i op u1 u2 u3 kv qr tk sv ins bx rl els now ad sk se
  obtain ⟨hpre,h2⟩:=chk_inv h;cases h2
  show runFnH (G.env 68 14) G.rts (G.own 68) Tryz.f68 _ _ [0]=_
  refine Eq.trans (b:=(let t1:List (List AV):=[[Zy .i64 op,Zz u1,Zz u2,Zz u3,Zy .i64 kv,Zz qr,Zg tk,Zz sv,Zz ins,Zg bx,Zz rl,Yy 9 els,Zy .i64 now,Zy .i64 ad,Zy .i64 sk,Zy .u64 se]];let t2:List AV:=[Zy .i64 0,Zz [],Zz [],Zz [],Zz [],Zz [],Zz [],Zz [],Zz [],Zz [],Zy .u64 0,Zy .u64 0,Zy .u64 0,Zg [],Zy .i64 0,Zy .i64 0,Zm false];let t3:Bool:=l63 u1&&l63 u2&&l63 u3&&l63 qr&&l63 sv&&l63 ins&&l63 rl&&Wq se&&decide (Zv tk≤1000000)&&decide (Zv bx≤1000000)&&Wj els Xb&&decide (Zv els≤1000000);let t0:Option (AV×Blocks):=some (Zh (Zz rl::Yy 9 els::Zg []::t2),t1);sel (!u3==rl) (sel (!Yp (Zx (Zb op 8 []))==0) t0 (some (Zh (Zz rl::Yy 9 els::Zg (Yg (Zx (Zb op 8 [])))::t2),t1))) (Zw (chk (Wj els Xb&&decide (Zv els≤1000000)) (some (Yq [Zy .i64 (Yk (Kerb.clientEnt (Yb rl (Yw Yx els)) u1 u2 now)),Zy .i64 (Yj (Kerb.clientEnt (Yb rl (Yw Yx els)) u1 u2 now))],[]))) (kT fun vs=>cInt .i64 vs fun n r=>let t5:Wb:=Wh (Kerb.kaFailed (Yb rl (Yw Yx els)) n now) (Kerb.kaRefuse op 62) Kerb.noIssue false;let t4:Xk:=Wx t5;cInt .i64 r fun n_1 r=>onNil r (sel (!n_1==0) (sel (!Yp (Zx (Zb op n_1 []))==0) t0 (some (Zh (Zz rl::Yy 9 els::Zg (Yg (Zx (Zb op n_1 [])))::t2),t1))) (chk (decide (0≤n)&&decide (n<(↑(Zv els):Int))&&true) (Xw (Vy els (Wm n) Vq) fun cs=>cStr cs fun b r=>cStr r fun b_1 r=>cInt .u64 r fun n_2 r=>cInt .i64 r fun n_3 r=>cInt .i64 r fun n_4 r=>cInt .i64 r fun n_5 r=>cInt .i64 r fun n_6 r=>cInt .i64 r fun n_7 r=>cInt .i64 r fun n_8 r=>let t6:Kerb.Entry:=Kerb.Entry.mk b b_1 n_2 n_3 n_4 n_5 n_6 n_7 n_8;let t8:Kerb.Dec Kerb.Db:=Kerb.putEnt (Yb rl (Yw Yx els)) n (Kerb.Entry.mk b b_1 n_2 n_3 n_4 n_5 n_6 0 n_8);let t7:Kerb.Db:=Zf t8;onNil r (sel (decide (now<n_8)) (sel (!Yp (Zx (Zb op 81 []))==0) t0 (some (Zh (Zz rl::Yy 9 els::Zg (Yg (Zx (Zb op 81 [])))::t2),t1))) (Zw (chk (decide (Zv bx≤140737488355328)) (some (Yq [Zg (Yk (Wg bx 7 n_2)),Zm (Yj (Wg bx 7 n_2))],[]))) (kT fun vs=>cBs vs fun b_2 r=>cBool r fun b_3 r=>onNil r (sel (!b_3) (Zw (chk (t3&&decide (Kerb.Db.err (Yb rl (Yw Yx els))=0)&&decide (0≤n)&&decide (n<(↑(Zv els):Int))&&Kerb.kaOp op&&Vf now 4294967295) (some (Zh [Zz (Xf (Yd t5)),Yy 9 (Yw Yv (Xz (Yd t5))),Zg (Xg t5),Zy .i64 (Wy t4),Zz (Zp (Zj t4)),Zz (Zd (Zj t4)),Zz (Zq (Zj t4)),Zz (Zp (Zk t4)),Zz (Zd (Zk t4)),Zz (Zq (Zk t4)),Zz (Zp (Zu t4)),Zz (Zd (Zu t4)),Zz (Zq (Zu t4)),Zy .u64 (Xu t4),Zy .u64 (Xp t4),Zy .u64 (Xq t4),Zg (Xh t4),Zy .i64 (Xd t4),Zy .i64 (Wz t4),Zm (Wp t5)],t1))) fun (r:AV×Blocks)=>onConsB (Yj r) fun (x:List AV) (r_1:List (List AV))=>cInt .i64 x fun n r_2=>cStr r_2 fun b r_3=>cStr r_3 fun b_4 r_4=>cStr r_4 fun b_5 r_5=>cInt .i64 r_5 fun n_9 r_6=>cStr r_6 fun b_6 r_7=>cBs r_7 fun b_7 r_8=>cStr r_8 fun b_8 r_9=>cStr r_9 fun b_9 r_10=>cBs r_10 fun b_10 r_11=>cStr r_11 fun b_11 r_12=>cSl 9 r_12 fun b_12 r_13=>cInt .i64 r_13 fun n_10 r_14=>cInt .i64 r_14 fun n_11 r_15=>cInt .i64 r_15 fun n_12 r_16=>cInt .u64 r_16 fun n_13 r_17=>onNil r_17 (onNilB r_1 (Xw (Yk r) fun cs=>cStr cs fun b_13 r=>cSl 9 r fun b_14 r=>cBs r fun b_15 r=>cInt .i64 r fun n_14 r=>cStr r fun b_16 r=>cStr r fun b_17 r=>cStr r fun b_18 r=>cStr r fun b_19 r=>cStr r fun b_20 r=>cStr r fun b_21 r=>cStr r fun b_22 r=>cStr r fun b_23 r=>cStr r fun b_24 r=>cInt .u64 r fun n_15 r=>cInt .u64 r fun n_16 r=>cInt .u64 r fun n_17 r=>cBs r fun b_25 r=>cInt .i64 r fun n_18 r=>cInt .i64 r fun n_19 r=>cBool r fun b_26 r=>onNil r (some (Zh [Zz b_13,Yy 9 b_14,Zg b_15,Zy .i64 n_14,Zz b_16,Zz b_17,Zz b_18,Zz b_19,Zz b_20,Zz b_21,Zz b_22,Zz b_23,Zz b_24,Zy .u64 n_15,Zy .u64 n_16,Zy .u64 n_17,Zg b_25,Zy .i64 n_18,Zy .i64 n_19,Zm b_26],[[Zy .i64 n,Zz b,Zz b_4,Zz b_5,Zy .i64 n_9,Zz b_6,Zg b_7,Zz b_8,Zz b_9,Zg b_10,Zz b_11,Yy 9 b_12,Zy .i64 n_10,Zy .i64 n_11,Zy .i64 n_12,Zy .u64 n_13]]))))) (Zw (chk (l63 rl&&Wj els Xb&&decide (Zv els≤1000000)&&l63 b&&l63 b_1&&Wq n_2) (some (Yq [Zh [Zz (Xf t7),Yy 9 (Yw Yv (Xz t7))],Zy .i64 (Wd t8)],[]))) (kT fun vs=>onCons vs fun x r=>Xw x fun cs=>cStr cs fun b r_1=>cSl 9 r_1 fun b_4 r_2=>let t11:Wb:=Kerb.kaAuthenticate (Yb rl (Yw Yx els)) (Yb b (Yw Yx b_4)) t6 op now ad sk se (Yu u1 u2 u3) b_2;let t12:Wb:=Kerb.kaChangePw (Yb rl (Yw Yx els)) (Yb b (Yw Yx b_4)) n op now sk b_2;let t9:Xk:=Wx t11;let t10:Xk:=Wx t12;onNil r_2 (cInt .i64 r fun n_9 r=>onNil r (sel (!n_9==0) t0 (sel (op==1) (Zw (chk (t3&&Wj b_4 Xb&&decide (Zv b_2≤1000000)&&Kerb.kaOp op&&Vf now 4294967295&&Wq n_2&&Vj n_5&&Vj n_4) (some (Zh [Zz (Xf (Yd t11)),Yy 9 (Yw Yv (Xz (Yd t11))),Zg (Xg t11),Zy .i64 (Wy t9),Zz (Zp (Zj t9)),Zz (Zd (Zj t9)),Zz (Zq (Zj t9)),Zz (Zp (Zk t9)),Zz (Zd (Zk t9)),Zz (Zq (Zk t9)),Zz (Zp (Zu t9)),Zz (Zd (Zu t9)),Zz (Zq (Zu t9)),Zy .u64 (Xu t9),Zy .u64 (Xp t9),Zy .u64 (Xq t9),Zg (Xh t9),Zy .i64 (Xd t9),Zy .i64 (Wz t9),Zm (Wp t11)],t1))) fun (r:AV×Blocks)=>onConsB (Yj r) fun (x:List AV) (r_3:List (List AV))=>cInt .i64 x fun n r_4=>cStr r_4 fun b r_5=>cStr r_5 fun b_5 r_6=>cStr r_6 fun b_6 r_7=>cInt .i64 r_7 fun n_10 r_8=>cStr r_8 fun b_7 r_9=>cBs r_9 fun b_8 r_10=>cStr r_10 fun b_9 r_11=>cStr r_11 fun b_10 r_12=>cBs r_12 fun b_11 r_13=>cStr r_13 fun b_12 r_14=>cSl 9 r_14 fun b_13 r_15=>cInt .i64 r_15 fun n_11 r_16=>cInt .i64 r_16 fun n_12 r_17=>cInt .i64 r_17 fun n_13 r_18=>cInt .u64 r_18 fun n_14 r_19=>onNil r_19 (onNilB r_3 (Xw (Yk r) fun cs=>cStr cs fun b_14 r=>cSl 9 r fun b_15 r=>cBs r fun b_16 r=>cInt .i64 r fun n_15 r=>cStr r fun b_17 r=>cStr r fun b_18 r=>cStr r fun b_19 r=>cStr r fun b_20 r=>cStr r fun b_21 r=>cStr r fun b_22 r=>cStr r fun b_23 r=>cStr r fun b_24 r=>cStr r fun b_25 r=>cInt .u64 r fun n_16 r=>cInt .u64 r fun n_17 r=>cInt .u64 r fun n_18 r=>cBs r fun b_26 r=>cInt .i64 r fun n_19 r=>cInt .i64 r fun n_20 r=>cBool r fun b_27 r=>onNil r (some (Zh [Zz b_14,Yy 9 b_15,Zg b_16,Zy .i64 n_15,Zz b_17,Zz b_18,Zz b_19,Zz b_20,Zz b_21,Zz b_22,Zz b_23,Zz b_24,Zz b_25,Zy .u64 n_16,Zy .u64 n_17,Zy .u64 n_18,Zg b_26,Zy .i64 n_19,Zy .i64 n_20,Zm b_27],[[Zy .i64 n,Zz b,Zz b_5,Zz b_6,Zy .i64 n_10,Zz b_7,Zg b_8,Zz b_9,Zz b_10,Zg b_11,Zz b_12,Yy 9 b_13,Zy .i64 n_11,Zy .i64 n_12,Zy .i64 n_13,Zy .u64 n_14]]))))) (Zw (chk (t3&&Wj b_4 Xb&&decide (Zv b_4≤1000000)&&decide (Zv b_2≤1000000)&&Kerb.kaOp op&&decide (0≤n)&&decide (n<(↑(Zv els):Int))&&l63 b) (some (Zh [Zz (Xf (Yd t12)),Yy 9 (Yw Yv (Xz (Yd t12))),Zg (Xg t12),Zy .i64 (Wy t10),Zz (Zp (Zj t10)),Zz (Zd (Zj t10)),Zz (Zq (Zj t10)),Zz (Zp (Zk t10)),Zz (Zd (Zk t10)),Zz (Zq (Zk t10)),Zz (Zp (Zu t10)),Zz (Zd (Zu t10)),Zz (Zq (Zu t10)),Zy .u64 (Xu t10),Zy .u64 (Xp t10),Zy .u64 (Xq t10),Zg (Xh t10),Zy .i64 (Xd t10),Zy .i64 (Wz t10),Zm (Wp t12)],t1))) fun (r:AV×Blocks)=>onConsB (Yj r) fun (x:List AV) (r_3:List (List AV))=>cInt .i64 x fun n r_4=>cStr r_4 fun b r_5=>cStr r_5 fun b_5 r_6=>cStr r_6 fun b_6 r_7=>cInt .i64 r_7 fun n_10 r_8=>cStr r_8 fun b_7 r_9=>cBs r_9 fun b_8 r_10=>cStr r_10 fun b_9 r_11=>cStr r_11 fun b_10 r_12=>cBs r_12 fun b_11 r_13=>cStr r_13 fun b_12 r_14=>cSl 9 r_14 fun b_13 r_15=>cInt .i64 r_15 fun n_11 r_16=>cInt .i64 r_16 fun n_12 r_17=>cInt .i64 r_17 fun n_13 r_18=>cInt .u64 r_18 fun n_14 r_19=>onNil r_19 (onNilB r_3 (Xw (Yk r) fun cs=>cStr cs fun b_14 r=>cSl 9 r fun b_15 r=>cBs r fun b_16 r=>cInt .i64 r fun n_15 r=>cStr r fun b_17 r=>cStr r fun b_18 r=>cStr r fun b_19 r=>cStr r fun b_20 r=>cStr r fun b_21 r=>cStr r fun b_22 r=>cStr r fun b_23 r=>cStr r fun b_24 r=>cStr r fun b_25 r=>cInt .u64 r fun n_16 r=>cInt .u64 r fun n_17 r=>cInt .u64 r fun n_18 r=>cBs r fun b_26 r=>cInt .i64 r fun n_19 r=>cInt .i64 r fun n_20 r=>cBool r fun b_27 r=>onNil r (some (Zh [Zz b_14,Yy 9 b_15,Zg b_16,Zy .i64 n_15,Zz b_17,Zz b_18,Zz b_19,Zz b_20,Zz b_21,Zz b_22,Zz b_23,Zz b_24,Zz b_25,Zy .u64 n_16,Zy .u64 n_17,Zy .u64 n_18,Zg b_26,Zy .i64 n_19,Zy .i64 n_20,Zm b_27],[[Zy .i64 n,Zz b,Zz b_5,Zz b_6,Zy .i64 n_10,Zz b_7,Zg b_8,Zz b_9,Zz b_10,Zg b_11,Zz b_12,Yy 9 b_13,Zy .i64 n_11,Zy .i64 n_12,Zy .i64 n_13,Zy .u64 n_14]]))))))))))))))))))):Option (AV×Blocks))) (by kernel_rfl) ?_
  delta kT
  try dsimp only [cStr,cBs,cBool,cU8,cInt,cSl,l63]
  simp only [Wu,decide_eq_true_eq] at hpre
  obtain ⟨⟨⟨⟨hpre,he⟩,hop⟩,hop2⟩,hn⟩:=hpre
  obtain ⟨⟨⟨⟨⟨⟨⟨⟨⟨⟨⟨c1,c2⟩,c3⟩,c4⟩,c5⟩,c6⟩,c7⟩,c8⟩,c9⟩,c10⟩,hall⟩,hlen⟩:=hpre
  obtain ⟨es,rfl,hok⟩:=Wn hall
  rw [Yn] at he ⊢
  simp only [Xj] at hlen
  have bl:decide (bx.length≤140737488355328)=true:=by simp;omega
  simp only [Yn,hall,hn,hop,he,Xj,hlen,bl,c1,c2,c3,c4,c5,c6,c7,c8,c9,c10,eq_self,decide_true,Ym,List.map_nil,↓A0,A0]
  unfold Kerb.kaByUser
  dsimp only
  by_cases h1:u3=rl
  case neg =>
   rw [sel_pos (by simpa using h1),if_pos h1]
   by_cases hr:(Zx ⟨op,8,[]⟩).err=0
   ·rw [sel_neg (by simpa using hr)];rfl
   ·rw [sel_pos (by simpa using hr),Yz hr];rfl
  rw [sel_neg (by simp [h1]),if_neg (not_not_intro h1)]
  have hs := @Kerb.clie_lt ⟨rl,es⟩ u1 u2 now
  generalize Kerb.clientEnt ⟨rl,es⟩ u1 u2 now=F at hs ⊢
  obtain ⟨i,e⟩:=F
  dsimp only at hs ⊢
  by_cases h2:e=0
  case neg =>
   rw [sel_pos (by simpa using h2),if_pos h2]
   by_cases hr:(Zx ⟨op,e,[]⟩).err=0
   ·rw [sel_neg (by simpa using hr)];rfl
   ·rw [sel_pos (by simpa using hr),Yz hr];rfl
  obtain ⟨g1,g2⟩:=hs h2
  have g3:i<(es.length:Int):=by omega
  have i0:decide (0≤i)=true:=decide_eq_true g1
  have i1:decide (i<(es.length:Int))=true:=decide_eq_true g3
  have hp:=Kerb.putEnt_clear (d:=⟨rl,es⟩) (i:=i) he g1 g3
  have ck:=Kerb.kaClear_ok (d:=⟨rl,es⟩) (i:=i) hok
  have ca:=Kerb.all_ents ck
  have cl:=Kerb.kaClear_len ⟨rl,es⟩ i
  have cr:(Kerb.kaClear ⟨rl,es⟩ i).realm=rl:=rfl
  have ho:=hok _ (Kerb.ent_mem g2)
  rw [sel_neg (by simpa using h2),if_neg (not_not_intro h2),chk_of (by rw [i0,i1];rfl),Uq g2]
  unfold Kerb.entAt at hp ⊢
  dsimp only at hp cl ⊢
  generalize Kerb.kaClear ⟨rl,es⟩ i=C at hp ck ca cl cr ⊢
  generalize es.getD i.toNat Kerb.noEntry=x at hp ho ⊢
  simp only [Yv,i0,i1,↓A0,A0]
  by_cases h3:now<x.till
  ·rw [sel_pos (by simpa using h3),if_pos h3]
   by_cases hr:(Zx ⟨op,81,[]⟩).err=0
   ·rw [sel_neg (by simpa using hr)];rfl
   ·rw [sel_pos (by simpa using hr),Yz hr];rfl
  rw [sel_neg (by simpa using h3),if_neg h3]
  have ol:=Kerb.openBox_len bx 7 x.key
  generalize Wg bx 7 x.key=O at ol ⊢
  obtain ⟨bd,ok⟩:=O
  dsimp only at ol ⊢
  cases ok
  ·rw [sel_pos (by rfl),if_pos rfl]
   try rw [chk_of (by rfl)]
   try rfl
  rw [sel_neg (by rfl),if_neg (show ¬ (true=false) from by decide)]
  obtain ⟨o1,o2,o3,o4,o5,o6,_⟩:=ho
  have bd1:decide (Zv bd≤1000000)=true:=by simp;omega
  have cl2:decide (C.entries.length≤1000000)=true:=by simp;omega
  have cr2:decide (C.realm.length≤9223372036854775807)=true:=by rw [cr];exact decide_eq_true c7
  simp only [o1,o2,o3,o5,o6,hp,ca,cr2,cl2,c7,bd1,Xj,Yn,decide_true,Ym,eq_self,↓A0,A0]
  rw [sel_neg (by rfl)]
  by_cases h4:op=1
  ·rw [sel_pos (by simpa using h4),if_pos h4]
  ·rw [sel_neg (by simpa using h4),if_neg h4]
 ·cases h
theorem w25:Walked Tryz.prog G 25 15 sp25:=by
 refine ⟨Tryz.f25,Tryz.func25,by decide +kernel,rfl,fun xs bl r h=> ?_⟩
 unfold sp25 at h
 split at h
 ·rename_i rl els now ad sk se msg
  obtain ⟨hpre,h2⟩:=chk_inv h;cases h2
  refine Eq.trans (b:=(let t0:Option (AV×Blocks):=some (Yq [Zh [Zz rl,Yy 9 els],Zg [],Zh [Zy .i64 0,Zz [],Zz [],Zz [],Zz [],Zz [],Zz [],Zz [],Zz [],Zz [],Zy .u64 0,Zy .u64 0,Zy .u64 0,Zg [],Zy .i64 0,Zy .i64 0],Zm false],[]);let t1:List AV:=[Zz rl,Yy 9 els,Zy .i64 now,Zy .i64 ad,Zy .i64 sk,Zy .u64 se];sel (decide (now<0)) t0 (sel (decide (now>4294967295)) t0 (sel (decide (ad<0)) t0 (sel (decide (ad>4294967295)) t0 (Zw (chk (decide (Zv msg≤140737488355328)) (some (Yq [Zh [Zy .i64 (Kerb.KaRequest.op (Zf (Xv msg))),Zz (Zp (Uk (Zf (Xv msg)))),Zz (Zd (Uk (Zf (Xv msg)))),Zz (Zq (Uk (Zf (Xv msg)))),Zy .i64 (Kerb.KaRequest.kvno (Zf (Xv msg))),Zz (Kerb.KaRequest.realm (Zf (Xv msg))),Zg (Kerb.KaRequest.ticket (Zf (Xv msg))),Zz (Kerb.KaRequest.service (Zf (Xv msg))),Zz (Kerb.KaRequest.inst (Zf (Xv msg))),Zg (Kerb.KaRequest.box (Zf (Xv msg)))],Zy .i64 (Wd (Xv msg))],[]))) (kT fun vs=>onCons vs fun x r=>Xw x fun cs=>cInt .i64 cs fun n r_1=>cStr r_1 fun b r_2=>cStr r_2 fun b_1 r_3=>cStr r_3 fun b_2 r_4=>let t2:Bool:=l63 b&&l63 b_1&&l63 b_2;cInt .i64 r_4 fun n_1 r_5=>cStr r_5 fun b_3 r_6=>cBs r_6 fun b_4 r_7=>cStr r_7 fun b_5 r_8=>cStr r_8 fun b_6 r_9=>let t3:Bool:=t2&&l63 b_3&&l63 b_5&&l63 b_6&&l63 rl&&Wq se&&decide (Zv b_4≤1000000);cBs r_9 fun b_7 r_10=>let t6:Wb:=Kerb.kaGetTicket (Yb rl (Yw Yx els)) now ad sk se (Kerb.KaRequest.mk n (Yu b b_1 b_2) n_1 b_3 b_4 b_5 b_6 b_7);let t7:Wb:=Kerb.kaByUser (Yb rl (Yw Yx els)) now ad sk se (Kerb.KaRequest.mk n (Yu b b_1 b_2) n_1 b_3 b_4 b_5 b_6 b_7);let t8:List (List AV):=[Zy .i64 n::Zz b::Zz b_1::Zz b_2::Zy .i64 n_1::Zz b_3::Zg b_4::Zz b_5::Zz b_6::Zg b_7::t1];let t9:Bool:=t3&&decide (Zv b_7≤1000000)&&Wj els Xb&&decide (Zv els≤1000000);let t4:Xk:=Wx t6;let t5:Xk:=Wx t7;onNil r_10 (cInt .i64 r fun n_2 r=>onNil r (sel (!n_2==0) t0 (sel (n==2) (Zw (chk (t9&&decide (n=2)&&Vf now 4294967295) (some (Zh [Zz (Xf (Yd t6)),Yy 9 (Yw Yv (Xz (Yd t6))),Zg (Xg t6),Zy .i64 (Wy t4),Zz (Zp (Zj t4)),Zz (Zd (Zj t4)),Zz (Zq (Zj t4)),Zz (Zp (Zk t4)),Zz (Zd (Zk t4)),Zz (Zq (Zk t4)),Zz (Zp (Zu t4)),Zz (Zd (Zu t4)),Zz (Zq (Zu t4)),Zy .u64 (Xu t4),Zy .u64 (Xp t4),Zy .u64 (Xq t4),Zg (Xh t4),Zy .i64 (Xd t4),Zy .i64 (Wz t4),Zm (Wp t6)],t8))) fun (r:AV×Blocks)=>onConsB (Yj r) fun (x:List AV) (r_11:List (List AV))=>cInt .i64 x fun n r_12=>cStr r_12 fun b r_13=>cStr r_13 fun b r_14=>cStr r_14 fun b r_15=>cInt .i64 r_15 fun n r_16=>cStr r_16 fun b r_17=>cBs r_17 fun b r_18=>cStr r_18 fun b r_19=>cStr r_19 fun b r_20=>cBs r_20 fun b r_21=>cStr r_21 fun b r_22=>cSl 9 r_22 fun b r_23=>cInt .i64 r_23 fun n r_24=>cInt .i64 r_24 fun n r_25=>cInt .i64 r_25 fun n r_26=>cInt .u64 r_26 fun n r_27=>onNil r_27 (onNilB r_11 (Xw (Yk r) fun cs=>cStr cs fun b r=>cSl 9 r fun b_8 r=>cBs r fun b_9 r=>cInt .i64 r fun n r=>cStr r fun b_10 r=>cStr r fun b_11 r=>cStr r fun b_12 r=>cStr r fun b_13 r=>cStr r fun b_14 r=>cStr r fun b_15 r=>cStr r fun b_16 r=>cStr r fun b_17 r=>cStr r fun b_18 r=>cInt .u64 r fun n_3 r=>cInt .u64 r fun n_4 r=>cInt .u64 r fun n_5 r=>cBs r fun b_19 r=>cInt .i64 r fun n_6 r=>cInt .i64 r fun n_7 r=>cBool r fun b_20 r=>onNil r (some (Yq [Zh [Zz b,Yy 9 b_8],Zg b_9,Zh [Zy .i64 n,Zz b_10,Zz b_11,Zz b_12,Zz b_13,Zz b_14,Zz b_15,Zz b_16,Zz b_17,Zz b_18,Zy .u64 n_3,Zy .u64 n_4,Zy .u64 n_5,Zg b_19,Zy .i64 n_6,Zy .i64 n_7],Zm b_20],[]))))) (Zw (chk (t9&&decide (Kerb.Db.err (Yb rl (Yw Yx els))=0)&&Kerb.kaOp n&&decide (n≠2)&&Vf now 4294967295) (some (Zh [Zz (Xf (Yd t7)),Yy 9 (Yw Yv (Xz (Yd t7))),Zg (Xg t7),Zy .i64 (Wy t5),Zz (Zp (Zj t5)),Zz (Zd (Zj t5)),Zz (Zq (Zj t5)),Zz (Zp (Zk t5)),Zz (Zd (Zk t5)),Zz (Zq (Zk t5)),Zz (Zp (Zu t5)),Zz (Zd (Zu t5)),Zz (Zq (Zu t5)),Zy .u64 (Xu t5),Zy .u64 (Xp t5),Zy .u64 (Xq t5),Zg (Xh t5),Zy .i64 (Xd t5),Zy .i64 (Wz t5),Zm (Wp t7)],t8))) fun (r:AV×Blocks)=>onConsB (Yj r) fun (x:List AV) (r_11:List (List AV))=>cInt .i64 x fun n r_12=>cStr r_12 fun b r_13=>cStr r_13 fun b r_14=>cStr r_14 fun b r_15=>cInt .i64 r_15 fun n r_16=>cStr r_16 fun b r_17=>cBs r_17 fun b r_18=>cStr r_18 fun b r_19=>cStr r_19 fun b r_20=>cBs r_20 fun b r_21=>cStr r_21 fun b r_22=>cSl 9 r_22 fun b r_23=>cInt .i64 r_23 fun n r_24=>cInt .i64 r_24 fun n r_25=>cInt .i64 r_25 fun n r_26=>cInt .u64 r_26 fun n r_27=>onNil r_27 (onNilB r_11 (Xw (Yk r) fun cs=>cStr cs fun b r=>cSl 9 r fun b_8 r=>cBs r fun b_9 r=>cInt .i64 r fun n r=>cStr r fun b_10 r=>cStr r fun b_11 r=>cStr r fun b_12 r=>cStr r fun b_13 r=>cStr r fun b_14 r=>cStr r fun b_15 r=>cStr r fun b_16 r=>cStr r fun b_17 r=>cStr r fun b_18 r=>cInt .u64 r fun n_3 r=>cInt .u64 r fun n_4 r=>cInt .u64 r fun n_5 r=>cBs r fun b_19 r=>cInt .i64 r fun n_6 r=>cInt .i64 r fun n_7 r=>cBool r fun b_20 r=>onNil r (some (Yq [Zh [Zz b,Yy 9 b_8],Zg b_9,Zh [Zy .i64 n,Zz b_10,Zz b_11,Zz b_12,Zz b_13,Zz b_14,Zz b_15,Zz b_16,Zz b_17,Zz b_18,Zy .u64 n_3,Zy .u64 n_4,Zy .u64 n_5,Zg b_19,Zy .i64 n_6,Zy .i64 n_7],Zm b_20],[]))))))))))))):Option (AV×Blocks))) (by kernel_rfl) ?_
  delta kT
  try dsimp only [cStr,cBs,cBool,cU8,cInt,cSl,l63]
  simp only [Wu,decide_eq_true_eq] at hpre
  obtain ⟨⟨⟨⟨⟨c7,hall⟩,hlen⟩,he⟩,c8⟩,hm⟩:=hpre
  obtain ⟨es,rfl,hok⟩:=Wn hall
  rw [Yn] at he ⊢
  simp only [Xj] at hlen
  have ml:decide (msg.length≤140737488355328)=true:=by simp;omega
  simp only [Yn,hall,he,Xj,hlen,ml,c7,c8,eq_self,decide_true,Ym,List.map_nil,↓A0,A0]
  unfold Kerb.kaserver
  try dsimp only
  by_cases hw:Vf now 4294967295=true
  case neg =>
   have hw2:Vf now 4294967295=false:=by simpa using hw
   rw [hw2,Bool.false_and,Bool.not_false,if_pos rfl]
   by_cases h1:now<0
   ·rw [sel_pos (by simpa using h1)];rfl
   rw [sel_neg (by simpa using h1),sel_pos (by simp only [decide_eq_true_eq];rw [Kerb.within_iff] at hw;omega)];rfl
  have w1:=Kerb.within_iff.1 hw
  rw [sel_neg (by simp;omega),sel_neg (by simp;omega)]
  by_cases hv:Vf ad 4294967295=true
  case neg =>
   have hw2:Vf ad 4294967295=false:=by simpa using hv
   rw [hw2,Bool.and_false,Bool.not_false,if_pos rfl]
   by_cases h1:ad<0
   ·rw [sel_pos (by simpa using h1)];rfl
   rw [sel_neg (by simpa using h1),sel_pos (by simp only [decide_eq_true_eq];rw [Kerb.within_iff] at hv;omega)];rfl
  have w2:=Kerb.within_iff.1 hv
  rw [sel_neg (by simp;omega),sel_neg (by simp;omega),hw,hv,if_neg (show ¬ ((!(true&&true))=true) from by decide)]
  have rb := @Kerb.kaReq_bd msg
  generalize Xv msg=R at rb ⊢
  by_cases h1:R.err=0
  case neg=>rw [sel_pos (by simpa using h1),if_pos h1];rfl
  rw [sel_neg (by simpa using h1),if_neg (not_not_intro h1)]
  obtain ⟨⟨r1,r2,r3,r4,r5,r6⟩,r7,r8,r9⟩:=rb h1
  have d1:decide (R.val.user.name.length≤9223372036854775807)=true:=decide_eq_true (Ww r1 (by decide))
  have d2:decide (R.val.user.inst.length≤9223372036854775807)=true:=decide_eq_true (Ww r2 (by decide))
  have d3:decide (R.val.user.realm.length≤9223372036854775807)=true:=decide_eq_true (Ww r3 (by decide))
  have d4:decide (R.val.realm.length≤9223372036854775807)=true:=decide_eq_true (Ww r4 (by decide))
  have d5:decide (R.val.service.length≤9223372036854775807)=true:=decide_eq_true (Ww r5 (by decide))
  have d6:decide (R.val.inst.length≤9223372036854775807)=true:=decide_eq_true (Ww r6 (by decide))
  have d8:decide (R.val.ticket.length≤1000000)=true:=decide_eq_true (Ww r8 (by decide))
  have d9:decide (R.val.box.length≤1000000)=true:=decide_eq_true (Ww r9 (by decide))
  by_cases h2:R.val.op=2
  ·rw [sel_pos (by simpa using h2),if_pos h2]
   simp only [h2,d1,d2,d3,d4,d5,d6,d8,d9,hw,c8,eq_self,decide_true,Ym,↓A0,A0]
   obtain ⟨⟨op,user,kvno,realm,ticket,service,inst,box⟩,err⟩:=R
   dsimp only at h2 ⊢
   subst h2
   rfl
  ·rw [sel_neg (by simpa using h2),if_neg h2]
   have h3:decide (R.val.op≠2)=true:=decide_eq_true h2
   simp only [h3,d1,d2,d3,d4,d5,d6,d8,d9,hw,r7,c8,he,eq_self,decide_true,Ym,↓A0,A0]
 ·cases h
theorem p22  : runFn (G.env 22 16) G.rts (G.own 22) Tryz.f22 [] []=some (.bool true,[]):=by kernel_rfl
theorem w22:Walked Tryz.prog G 22 16 sp22:=by
 refine ⟨Tryz.f22,Tryz.func22,by decide +kernel,rfl,fun xs bl r h=> ?_⟩
 unfold sp22 at h
 split at h
 ·cases h;exact p22
 ·cases h
set_option maxHeartbeats 4000000 in
theorem w7:Walked Tryz.prog G 7 17 sp7:=by
 refine ⟨Tryz.f7,Tryz.func7,by decide +kernel,rfl,fun xs bl r h=> ?_⟩
 unfold sp7 at h
 split at h
 ·rename_i ls lf xp bd skw
  obtain ⟨hpre,h2⟩:=chk_inv h;cases h2
  refine Eq.trans (b:=(sel (decide ((↑(Zv ls):Int)>40)) (some (Zm true,[])) (Zw (loopM (fun (st:List AV)=>cSl 13 st fun b r=>cU8 r fun b_1 r=>cBool r fun b_2 r=>cStr r fun b_3 r=>cSl 9 r fun b_4 r=>cInt .i64 r fun n r=>onNil r (sel (decide (n<(↑(Zv b):Int))) (chk (decide (0≤n)&&decide (n<(↑(Zv b):Int))&&true) (Xw (Vy b (Wm n) Vq) fun cs=>cU8 cs fun b_5 r=>cU8 r fun b_6 r=>cU8 r fun b_7 r=>cU8 r fun b_8 r=>cU8 r fun b_9 r=>cU8 r fun b_10 r=>cU8 r fun b_11 r=>cU8 r fun b_12 r=>cU8 r fun b_13 r=>cU8 r fun b_14 r=>cU8 r fun b_15 r=>cU8 r fun b_16 r=>cInt .u16 r fun n_1 r=>onNil r (Zw (sel (UInt8.ofNat (Wm (Vd (↑(Vz b_15):Int) (↑(Vz (16:UInt8)):Int)))==(15:UInt8)) (some [Yy 13 b,Yf b_1,Zm b_2,Zz b_3,Yy 9 b_4,Zy .i64 n,Yf b_5,Yf b_6,Yf b_7,Yf b_8,Yf b_9,Yf b_10,Yf b_11,Yf b_12,Yf b_13,Yf b_14,Yf (0:UInt8),Yf b_16,Zy .u16 n_1]) (some [Yy 13 b,Yf b_1,Zm b_2,Zz b_3,Yy 9 b_4,Zy .i64 n,Yf b_5,Yf b_6,Yf b_7,Yf b_8,Yf b_9,Yf b_10,Yf b_11,Yf b_12,Yf b_13,Yf b_14,Yf b_15,Yf b_16,Zy .u16 n_1])) fun l=>cSl 13 l fun b r=>cU8 r fun b_17 r=>cBool r fun b_18 r=>cStr r fun b_19 r=>cSl 9 r fun b_20 r=>cInt .i64 r fun n r=>cU8 r fun b_21 r=>cU8 r fun b_22 r=>cU8 r fun b_23 r=>cU8 r fun b_24 r=>let t0:Int:=Vd (Zn .i64 (↑(Vz b_24):Int)) 4;cU8 r fun b_25 r=>cU8 r fun b_26 r=>cU8 r fun b_27 r=>cU8 r fun b_28 r=>cU8 r fun b_29 r=>cU8 r fun b_30 r=>let t1:Int:=Vd (Zn .i64 (Int.tdiv (Zn .i64 (↑(Vz b_30):Int)) 2)) 2;cU8 r fun b_31 r=>cU8 r fun b_32 r=>cInt .u16 r fun n_2 r=>onNil r (Zw (chk (decide (0≤Zn .i64 (20+n))&&decide (Zn .i64 (20+n)≤1000)) (some (Zy .u64 (Kerb.session (Zn .i64 (20+n))),[]))) (kI .u64 fun n_3=>Zw (chk (decide (0≤n_2)&&decide (n_2≤65535)) (some (Zg (Kerb.KAsk.message (Kerb.KAsk.mk b_21 b_22 b_23 b_24 b_25 b_26 b_27 b_28 b_29 b_30 b_31 b_32 n_2)),[]))) (kB fun b_33=>let t3:Wb:=Kerb.kaserver (Yb b_19 (Yw Yx b_20)) 1100 t1 (Zn .i64 (↑(Vz b_17):Int)) n_3 b_33;let t2:Xk:=Wx t3;Zw (chk (l63 b_19&&Wj b_20 Xb&&decide (Zv b_20≤1000000)&&decide (Kerb.Db.err (Yb b_19 (Yw Yx b_20))=0)&&Wq n_3&&decide (Zv b_33≤1000000)) (some (Yq [Zh [Zz (Xf (Yd t3)),Yy 9 (Yw Yv (Xz (Yd t3)))],Zg (Xg t3),Zh [Zy .i64 (Wy t2),Zz (Zp (Zj t2)),Zz (Zd (Zj t2)),Zz (Zq (Zj t2)),Zz (Zp (Zk t2)),Zz (Zd (Zk t2)),Zz (Zq (Zk t2)),Zz (Zp (Zu t2)),Zz (Zd (Zu t2)),Zz (Zq (Zu t2)),Zy .u64 (Xu t2),Zy .u64 (Xp t2),Zy .u64 (Xq t2),Zg (Xh t2),Zy .i64 (Xd t2),Zy .i64 (Wz t2)],Zm (Wp t3)],[]))) (kT fun vs=>onCons vs fun x r=>Xw x fun cs=>cStr cs fun b_34 r_1=>cSl 9 r_1 fun b_35 r_2=>onNil r_2 (cBs r fun b_36 r=>onCons r fun x r=>Xw x fun cs=>cInt .i64 cs fun n_4 r_3=>cStr r_3 fun b_37 r_4=>cStr r_4 fun b_38 r_5=>cStr r_5 fun b_39 r_6=>cStr r_6 fun b_40 r_7=>cStr r_7 fun b_41 r_8=>cStr r_8 fun b_42 r_9=>cStr r_9 fun b_43 r_10=>cStr r_10 fun b_44 r_11=>cStr r_11 fun b_45 r_12=>cInt .u64 r_12 fun n_5 r_13=>cInt .u64 r_13 fun n_6 r_14=>cInt .u64 r_14 fun n_7 r_15=>cBs r_15 fun b_46 r_16=>cInt .i64 r_16 fun n_8 r_17=>cInt .i64 r_17 fun n_9 r_18=>onNil r_18 (cBool r fun b_47 r=>onNil r (sel (!b_47) (some (Sum.inl [Yy 13 b,Yf b_17,Zm b_18,Zz b_34,Yy 9 b_35,Zy .i64 (Zn .i64 (n+1))])) (Zw (chk (decide (Zv b_36≤140737488355328)) (some (Yq [Zh [Zy .i64 (Kerb.KaReply.op (Zf (Uv b_36))),Zy .i64 (Kerb.KaReply.code (Zf (Uv b_36))),Zg (Kerb.KaReply.box (Zf (Uv b_36)))],Zy .i64 (Wd (Uv b_36))],[]))) (kT fun vs=>onCons vs fun x r=>Xw x fun cs=>cInt .i64 cs fun n_10 r_19=>cInt .i64 r_19 fun n_11 r_20=>cBs r_20 fun b_48 r_21=>onNil r_21 (cInt .i64 r fun n_12 r=>onNil r (Zw (chk (decide (0≤t0)&&decide (t0≤1000)) (some (Zy .u64 (Kerb.session t0),[]))) (kI .u64 fun n_13=>Zw (sel (n_4==3) (Zw (chk (Wj b_20 Xb&&decide (Zv b_20≤1000000)) (some (Yq [Zy .i64 (Yk (Kerb.findEnt (Yw Yx b_20) b_40 b_41)),Zy .i64 (Yj (Kerb.findEnt (Yw Yx b_20) b_40 b_41))],[]))) (kT fun vs=>cInt .i64 vs fun n_14 r=>cInt .i64 r fun n_15 r=>onNil r (chk (decide (0≤n_14)&&decide (n_14<(↑(Zv b_20):Int))&&true) (Xw (Vy b_20 (Wm n_14) Vq) fun cs=>cStr cs fun b_49 r=>cStr r fun b_50 r=>cInt .u64 r fun n_16 r=>cInt .i64 r fun n_17 r=>cInt .i64 r fun n_18 r=>cInt .i64 r fun n_19 r=>cInt .i64 r fun n_20 r=>cInt .i64 r fun n_21 r=>cInt .i64 r fun n_22 r=>onNil r (some [Yy 13 b,Yf b_17,Zm b_18,Zz b_34,Yy 9 b_35,Zy .i64 n,Yf b_21,Yf b_22,Yf b_23,Yf b_24,Yf b_25,Yf b_26,Yf b_27,Yf b_28,Yf b_29,Yf b_30,Yf b_31,Yf b_32,Zy .u16 n_2,Zy .i64 t1,Zy .i64 n_4,Zz b_37,Zz b_38,Zz b_39,Zz b_40,Zz b_41,Zz b_42,Zz b_43,Zz b_44,Zz b_45,Zy .u64 n_5,Zy .u64 n_6,Zy .u64 n_7,Zg b_46,Zy .i64 n_8,Zy .i64 n_9,Zy .i64 n_10,Zy .i64 n_11,Zg b_48,Zy .i64 n_12,Zy .u64 n_16]))))) (some [Yy 13 b,Yf b_17,Zm b_18,Zz b_34,Yy 9 b_35,Zy .i64 n,Yf b_21,Yf b_22,Yf b_23,Yf b_24,Yf b_25,Yf b_26,Yf b_27,Yf b_28,Yf b_29,Yf b_30,Yf b_31,Yf b_32,Zy .u16 n_2,Zy .i64 t1,Zy .i64 n_4,Zz b_37,Zz b_38,Zz b_39,Zz b_40,Zz b_41,Zz b_42,Zz b_43,Zz b_44,Zz b_45,Zy .u64 n_5,Zy .u64 n_6,Zy .u64 n_7,Zg b_46,Zy .i64 n_8,Zy .i64 n_9,Zy .i64 n_10,Zy .i64 n_11,Zg b_48,Zy .i64 n_12,Zy .u64 n_13])) fun l=>cSl 13 l fun b r=>cU8 r fun b_49 r=>cBool r fun b_50 r=>cStr r fun b_51 r=>cSl 9 r fun b_52 r=>cInt .i64 r fun n r=>let t4:Option (List AV ⊕ Ex×List AV):=some (Sum.inr (Ex.ret,[Yy 13 b,Yf b_49,Zm false,Zz b_51,Yy 9 b_52,Zy .i64 n]));let t5:Option (List AV ⊕ Ex×List AV):=some (Sum.inl [Yy 13 b,Yf b_49,Zm b_50,Zz b_51,Yy 9 b_52,Zy .i64 (Zn .i64 (n+1))]);cU8 r fun b r=>cU8 r fun b r=>let t6:Int:=Vd (Zn .i64 (↑(Vz b):Int)) 3;cU8 r fun b r=>cU8 r fun b r=>cU8 r fun b r=>cU8 r fun b r=>let t7:Int:=Zn .i64 (1000+Zn .i64 (↑(Vz b):Int));cU8 r fun b r=>cU8 r fun b_53 r=>cU8 r fun b_54 r=>let t8:Int:=Zn .i64 (Zn .i64 (1000+Zn .i64 (↑(Vz b_53):Int))+Zn .i64 (300*Zn .i64 (Vd (Zn .i64 (↑(Vz b_54):Int)) 40+1)));cU8 r fun b_55 r=>cU8 r fun b_56 r=>cU8 r fun b_57 r=>cInt .u16 r fun n_14 r=>cInt .i64 r fun n_15 r=>cInt .i64 r fun n_16 r=>cStr r fun b_58 r=>cStr r fun b_59 r=>cStr r fun b_60 r=>cStr r fun b_61 r=>cStr r fun b_62 r=>cStr r fun b_63 r=>cStr r fun b_64 r=>cStr r fun b_65 r=>cStr r fun b_66 r=>cInt .u64 r fun n_17 r=>cInt .u64 r fun n_18 r=>cInt .u64 r fun n_19 r=>cBs r fun b_67 r=>cInt .i64 r fun n_20 r=>cInt .i64 r fun n_21 r=>cInt .i64 r fun n_22 r=>cInt .i64 r fun n_23 r=>cBs r fun b_68 r=>cInt .i64 r fun n_24 r=>cInt .u64 r fun n_25 r=>onNil r (Zw (chk (decide (Zv b_68≤140737488355328)) (some (Yq [Zg (Yk (Wg b_68 8 n_25)),Zm (Yj (Wg b_68 8 n_25))],[]))) (kT fun vs=>cBs vs fun b_69 r=>cBool r fun b_70 r=>onNil r (Zw (chk (decide (Zv b_69≤140737488355328)) (some (Yq [Zh [Zz (Kerb.KaAnswer.label (Zf (Xn b_69))),Zy .i64 (Kerb.KaAnswer.time (Zf (Xn b_69))),Zy .u64 (Kerb.KaAnswer.session (Zf (Xn b_69))),Zy .i64 (Kerb.KaAnswer.start (Zf (Xn b_69))),Zy .i64 (Kerb.KaAnswer.stop (Zf (Xn b_69))),Zy .i64 (Kerb.KaAnswer.kvno (Zf (Xn b_69))),Zz (Zp (Uu (Zf (Xn b_69)))),Zz (Zd (Uu (Zf (Xn b_69)))),Zz (Zq (Uu (Zf (Xn b_69)))),Zg (Kerb.KaAnswer.ticket (Zf (Xn b_69)))],Zy .i64 (Wd (Xn b_69))],[]))) (kT fun vs=>onCons vs fun x r=>Xw x fun cs=>cStr cs fun b_71 r_22=>cInt .i64 r_22 fun n_26 r_23=>cInt .u64 r_23 fun n_27 r_24=>cInt .i64 r_24 fun n_28 r_25=>cInt .i64 r_25 fun n_29 r_26=>cInt .i64 r_26 fun n_30 r_27=>cStr r_27 fun b_72 r_28=>cStr r_28 fun b_73 r_29=>cStr r_29 fun b_74 r_30=>cBs r_30 fun b_75 r_31=>onNil r_31 (cInt .i64 r fun n_31 r=>onNil r (sel (!n_24==0) t4 (sel (!n_23==0) t4 (sel (!b_70) t4 (sel (!n_31==0) t4 (Zw (chk (decide (0≤Zn .i64 (20+n))&&decide (Zn .i64 (20+n)≤1000)) (some (Zy .u64 (Kerb.session (Zn .i64 (20+n))),[]))) (kI .u64 fun n=>sel (!n_27==n) t4 (sel (!n_17==n_27) t4 (sel (!n_18==n_25) t4 (sel (!n_26==Zn .i64 (t7+1)) t4 (sel (!n_28==1100) t4 (sel (!n_29==n_21) t4 (sel (decide (n_21>Zn .i64 (t7+Zn .i64 (Zn .i64 (↑(Vz b):Int)*50)))) t4 (Zw (chk (decide (0≤t6)&&decide (t6≤4611686018427387904)) (some (Zh [Zz (Zp (Kerb.user t6)),Zz (Zd (Kerb.user t6)),Zz (Zq (Kerb.user t6))],[]))) (kA fun cs=>cStr cs fun b r=>cStr r fun b_76 r=>cStr r fun b_77 r=>onNil r (sel (!(b_61==b&&(b_62==b_76&&b_63==b_77))) t4 (sel (n_16==4) (sel (decide (n_21>t8)) t4 (sel (!Vd (Zn .i64 (↑(Vz b_55):Int)) 2==n_15) t4 (sel (!n_19==n_25) t4 t5))) t5)))))))))))))))))))))))))))))))))))) (some (Sum.inr (Ex.exit 0,[Yy 13 b,Yf b_1,Zm b_2,Zz b_3,Yy 9 b_4,Zy .i64 n]))))) [Yy 13 ls,Yf skw,Zm false,Zz (Xf (Kerb.simpleDb lf xp bd)),Yy 9 (Yw Yv (Xz (Kerb.simpleDb lf xp bd))),Zy .i64 0]) fun (r:Ex×List AV)=>cSl 13 (Yj r) fun b r_1=>cU8 r_1 fun b r_2=>cBool r_2 fun b r_3=>cStr r_3 fun b_1 r_4=>cSl 9 r_4 fun b_2 r_5=>cInt .i64 r_5 fun n r_6=>onNil r_6 (exK r.1 (some (Zm b,[])) fun (j:Nat)=>sel (Nat.beq j 0) (some (Zm true,[])) none)):Option (AV×Blocks))) (by kernel_rfl) ?_
  delta kT kA kB kI
  try dsimp only [cStr,cBs,cBool,cU8,cInt,cSl,l63]
  have hall:=hpre
  by_cases c1:(ls.length:Int)>40
  ·rw [sel_pos (by simpa using c1)]
  rw [sel_neg (by simpa using c1)]
  have kS:=Kerb.kept_simple lf xp bd
  have rS:(Kerb.simpleDb lf xp bd).realm=[65,84,72]:=rfl
  generalize Kerb.simpleDb lf xp bd=X0 at kS rS ⊢
  refine loop_rounds (fun q:Kerb.Db×Nat=>[Yy 13 ls,Yf skw,Zm false,Zz q.1.realm,Yy 9 (q.1.entries.map Yv),Zy Yh (q.2:Int)]) (fun q=>Kerb.Kept q.1∧q.1.realm=[65,84,72]∧q.2≤ls.length) (fun q=>ls.length-q.2)
   (fun r=>∃ q:Kerb.Db×Nat,r=(Ex.exit 0,[Yy 13 ls,Yf skw,Zm false,Zz q.1.realm,Yy 9 (q.1.entries.map Yv),Zy Yh (q.2:Int)])) (X0,0) ⟨kS,rS,Nat.zero_le _⟩ rfl ?_ ?_
  ·rintro ⟨X,i⟩ ⟨kX,rX,hi⟩
   simp only at kX rX hi
   simp (config:={maxSteps:=10000000}) only [↓sInt,↓sU8,↓sBool,↓sStr,↓sBs,↓sSl,↓sAgg,↓sTup,↓sCons,↓sNil,↓sNilB,↓sChk,↓sChkBind,↓sSome]
   by_cases hi2:(i:Int)<ls.length
   case neg =>
    rw [sel_neg (by simpa using hi2)]
    exact ⟨_,rfl,(X,i),rfl⟩
   have hi2:i<ls.length:=by omega
   rw [sel_pos (by simpa using hi2)]
   have hw:Kerb.isKAsk (Vy ls i Vq)=true:=by
    have hmem:Vy ls i Vq∈ls:=by rw [List.getD_eq_getElem?_getD,List.getElem?_eq_getElem hi2];exact List.getElem_mem hi2
    exact List.all_eq_true.1 hall _ hmem
   obtain ⟨o,u,s,e,n,t0,p,i0,l0,d0,w0,q0,h0,hg,hh0,hh1⟩:=Kerb.isKAsk_inv hw
   have c0:(decide ((0:Int)≤(i:Int))&&decide ((i:Int)<(ls.length:Int))&&true)=true:=by simp;omega
   simp (config:={maxSteps:=10000000}) only [c0,Int.toNat_natCast,hg,↓sInt,↓sU8,↓sBool,↓sStr,↓sBs,↓sSl,↓sAgg,↓sTup,↓sCons,↓sNil,↓sNilB,↓sChk,↓sChkBind,↓sSome]
   refine bind_ex (fun l=>∃ w1:UInt8,w1.toNat % 16≠15∧l=[Yy 13 ls,Yf skw,Zm false,Zz X.realm,Yy 9 (X.entries.map Yv),Zy Yh (i:Int),Yf o,Yf u,Yf s,Yf e,Yf n,Yf t0,Yf p,Yf i0,Yf l0,Yf d0,Yf w1,Yf q0,Zy IntKind.u16 h0]) ?_ ?_
   ·have hq:(UInt8.ofNat (Wm (Vd (w0.toNat:Int) ((16:UInt8).toNat:Int)))==(15:UInt8))=decide (w0.toNat % 16=15):=by
     have h7:Wm (Vd (w0.toNat:Int) ((16:UInt8).toNat:Int))=w0.toNat % 16:=Kerb.tmod_u8 w0 16 (by omega)
     rw [h7];exact Kerb.u8_beq (k:=15) (by omega) (by decide)
    rw [hq]
    by_cases hw:w0.toNat % 16=15
    ·rw [decide_eq_true hw]
     exact ⟨_,rfl,0,by decide,rfl⟩
    ·rw [decide_eq_false hw]
     exact ⟨_,rfl,w0,hw,rfl⟩
   rintro _ ⟨w1,hw1,rfl⟩
   obtain ⟨a,ha⟩:∃ a,Kerb.KAsk.mk o u s e n t0 p i0 l0 d0 w1 q0 h0=a:=⟨_,rfl⟩
   have haw:a.w≠15:=by
    rw [Kerb.KAsk.w_nat,← ha]
    show ((w1.toNat % 16:Nat):Int)≠15
    omega
   have c1:(decide ((0:Int)≤h0)&&decide (h0≤65535))=true:=by simp;omega
   have v1:Zn .i64 (20+(i:Int))=20+(i:Int):=wrap_i64 (by omega) (by omega)
   have c2:(decide ((0:Int)≤20+(i:Int))&&decide (20+(i:Int)≤1000))=true:=by simp;omega
   have f0:=Kerb.wrap_u8i
   have hm:=Kerb.msg_len a
   have hs:=Kerb.isU64_iff.2 (Kerb.session_bd2 (20+(i:Int)))
   obtain ⟨AD,fad⟩:∃ AD,Vd (Zn .i64 (Int.tdiv (Xy d0) 2)) 2=AD:=⟨_,rfl⟩
   have eD:Yb X.realm X.entries=X:=rfl
   have l1:X.realm.length≤9223372036854775807:=by have:=kX.realm;omega
   have l2:X.entries.length≤1000000:=by have:=kX.len;omega
   have bt:=Vn t0
   have bp:=Vn p
   have bu:=Vn u
   have be:=Vn e
   have bi:=Vn i0
   have bl:=Vn l0
   have bd_:=Vn d0
   have f1:Zn .i64 (1000+Xy t0)=1000+Xy t0:=wrap_i64 (by omega) (by omega)
   have f2:Zn .i64 (1000+Xy t0+1)=1000+Xy t0+1:=wrap_i64 (by omega) (by omega)
   have f4:Zn .i64 (1000+Xy t0+Zn .i64 (Xy p*50))=1000+Xy t0+Xy p*50:=by rw [wrap_i64 (n:=Xy p*50) (by omega) (by omega)];exact wrap_i64 (by omega) (by omega)
   have f5:Vd (Xy u) 3=Xy u % 3:=Vp bu.1
   have f10:Vd (Xy e) 4=Xy e % 4:=Vp be.1
   have f11:Zn .i64 (Vd (Xy l0) 40+1)=Xy l0 % 40+1:=by rw [Vp bl.1];exact wrap_i64 (by omega) (by omega)
   have f12:Zn .i64 (1000+Xy i0)=1000+Xy i0:=wrap_i64 (by omega) (by omega)
   have f13:Zn .i64 (1000+Xy i0+Zn .i64 (300*(Xy l0 % 40+1)))=1000+Xy i0+300*(Xy l0 % 40+1):=by rw [wrap_i64 (n:=300*(Xy l0 % 40+1)) (by omega) (by omega)];exact wrap_i64 (by omega) (by omega)
   have f9:Vd (Xy d0) 2=Xy d0 % 2:=Vp bd_.1
   have f14:Zn .i64 ((i:Int)+1)=(i:Int)+1:=wrap_i64 (by omega) (by omega)
   have g2:(decide ((0:Int)≤Xy u % 3)&&decide (Xy u % 3≤4611686018427387904))=true:=by simp;omega
   have g7:(decide ((0:Int)≤Xy e % 4)&&decide (Xy e % 4≤1000))=true:=by simp;omega
   simp (config:={maxSteps:=10000000}) only [ha,c1,c2,v1,f0,fad,f14,Int.toNat_natCast,hm,hs,Yn,Xj,eD,l1,l2,kX.err,kX.all,decide_true,Ym,↓sInt,↓sU8,↓sBool,↓sStr,↓sBs,↓sSl,↓sAgg,↓sTup,↓sCons,↓sNil,↓sNilB,↓sChk,↓sChkBind,↓sSome]
   have hB:=fun h=>Kerb.kaserver_bound (ad:=AD) (sk:=Xy skw) haw rX kX.ok (Kerb.session_bd2 (20+(i:Int))) h
   have hf:=Kerb.kaserver_fine (now:=1100) (ad:=AD) (sk:=Xy skw) (se:=Kerb.session (20+(i:Int))) (msg:=a.message) kX.err kX.ok
   generalize Kerb.kaserver X 1100 AD (Xy skw) (Kerb.session (20+(i:Int))) a.message=O at hB hf ⊢
   have kO:Kerb.Kept O.db:=Kerb.kept_of hf.err hf.ok
   have rO:O.db.realm=[65,84,72]:=hf.realm.trans rX
   have hnext:∀ (R:Ex×List AV→Prop),Round (fun q:Kerb.Db×Nat=>[Yy 13 ls,Yf skw,Zm false,Zz q.1.realm,Yy 9 (q.1.entries.map Yv),Zy Yh (q.2:Int)]) (fun q=>Kerb.Kept q.1∧q.1.realm=[65,84,72]∧q.2≤ls.length) (fun q=>ls.length-q.2) R (X,i) (.inl [Yy 13 ls,Yf skw,Zm false,Zz O.db.realm,Yy 9 (O.db.entries.map Yv),Zy Yh ((i:Int)+1)]):=fun R=>⟨(O.db,i+1),rfl,⟨kO,rO,by simp only;omega⟩,by simp only;omega⟩
   cases hok:O.ok
   ·exact ⟨_,rfl,hnext _⟩
   obtain ⟨R,Y,k,B⟩:=hB hok
   have x1:O.answer.length≤140737488355328:=by have:=B.len;omega
   have x2:R.box.length≤1012:=by
    have:=Kerb.kaRep_box O.answer
    rw [B.dec] at this
    exact this
   have x3:=Kerb.openBox_len R.box 8 k
   have x4:R.box.length≤140737488355328:=by omega
   have x5:(Wg R.box 8 k).1.length≤140737488355328:=by omega
   have e1:((0:Int)==0)=true:=rfl
   simp (config:={maxSteps:=10000000}) only [x1,B.dec,f10,g7,Bool.not_true,sFalse,decide_true,Ym,↓sInt,↓sU8,↓sBool,↓sStr,↓sBs,↓sSl,↓sAgg,↓sTup,↓sCons,↓sNil,↓sNilB,↓sChk,↓sChkBind,↓sSome]
   refine bind_ex (fun l=>l=[Yy 13 ls,Yf skw,Zm false,Zz O.db.realm,Yy 9 (O.db.entries.map Yv),Zy Yh (i:Int),Yf o,Yf u,Yf s,Yf e,Yf n,Yf t0,Yf p,Yf i0,Yf l0,Yf d0,Yf w1,Yf q0,Zy IntKind.u16 h0,Zy Yh AD,Zy Yh O.issue.kind,Zz O.issue.server.name,Zz O.issue.server.inst,Zz O.issue.server.realm,Zz O.issue.client.name,Zz O.issue.client.inst,Zz O.issue.client.realm,Zz O.issue.service.name,Zz O.issue.service.inst,Zz O.issue.service.realm,Zy IntKind.u64 O.issue.session,Zy IntKind.u64 O.issue.sealer,Zy IntKind.u64 O.issue.granter,Zg O.issue.text,Zy Yh O.issue.issued,Zy Yh O.issue.stop,Zy Yh R.op,Zy Yh R.code,Zg R.box,Zy Yh 0,Zy IntKind.u64 k]) ?_ ?_
   ·rcases B.kind with ⟨h3,hk,j0,j1⟩ | ⟨h4,hk,_⟩
    ·have hj:(Kerb.findEnt X.entries O.issue.client.name O.issue.client.inst).1.toNat<X.entries.length:=by omega
     have gj:=Uq hj
     have cj:(decide (0≤(Kerb.findEnt X.entries O.issue.client.name O.issue.client.inst).1)&&decide ((Kerb.findEnt X.entries O.issue.client.name O.issue.client.inst).1<(X.entries.length:Int))&&true)=true:=by simp;omega
     unfold Kerb.entAt at hk
     simp (config:={maxSteps:=10000000}) only [h3,beq_self_eq_true,sTrue,kX.all,l2,cj,gj,Yv,← hk,decide_true,Ym,↓sInt,↓sU8,↓sBool,↓sStr,↓sBs,↓sSl,↓sAgg,↓sTup,↓sCons,↓sNil,↓sNilB,↓sChk,↓sChkBind,↓sSome]
     exact ⟨_,rfl,rfl⟩
    ·have e4:((4:Int)==3)=false:=rfl
     simp (config:={maxSteps:=10000000}) only [h4,e4,sFalse]
     refine ⟨_,rfl,?_⟩
     rw [hk,← ha]
   rintro _ rfl
   have m1:=B.time
   have m2:=B.most
   have m3:=B.client
   have m4:=B.kind
   rw [← ha] at m1 m2 m3 m4
   dsimp only at m1 m2 m3 m4
   have m5:decide (O.issue.stop>1000+Xy t0+Xy p*50)=false:=by simp;omega
   simp (config:={maxSteps:=10000000}) only [x4,x5,B.opens,B.says,e1,B.code,c2,v1,B.ses,B.ises,B.sealr,m1,m3,m5,B.start,B.stop,f0,f1,f2,f4,f5,g2,beq_self_eq_true,decide_true,Ym,Bool.not_true,sFalse,↓sInt,↓sU8,↓sBool,↓sStr,↓sBs,↓sSl,↓sAgg,↓sTup,↓sCons,↓sNil,↓sNilB,↓sChk,↓sChkBind,↓sSome]
   rcases m4 with ⟨h3,_⟩ | ⟨h4,_,s1,s2,s3⟩
   ·have e4:((3:Int)==4)=false:=rfl
    simp only [h3,e4,sFalse,f14]
    exact ⟨_,rfl,hnext _⟩
   ·have m6:decide (O.issue.stop>1000+Xy i0+300*(Xy l0 % 40+1))=false:=by simp;omega
    simp only [h4,beq_self_eq_true,sTrue,f0,f9,f11,f12,f13,m6,s2,s3,Bool.not_true,sFalse,f14]
    exact ⟨_,rfl,hnext _⟩
  ·rintro _ ⟨⟨X,i⟩,rfl⟩
   simp only [↓A0,A0]
   rw [sel_pos (by rfl)]
 ·cases h
end Go.Proofs.YtaikjfcgemjghaaGreat
