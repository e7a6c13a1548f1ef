/- What the functions of this seat compute. -/
import Derived.Test.YtaikjfcgemjghaaGreatTab
import Derived.Test.YtaikjfcgemjghaaGreatKerbPlain
import Derived.Test.YtaikjfcgemjghaaGreatAbsStep
import Derived.Test.YtaikjfcgemjghaaGreatKerbKaPlain
import Derived.Test.YtaikjfcgemjghaaGreatKerbKaRef
import Derived.Test.YtaikjfcgemjghaaGreatKerbCli3
import Derived.Test.YtaikjfcgemjghaaGreatKerbCli4
import Derived.Test.YtaikjfcgemjghaaGreatKerbCli5
import Derived.Test.YtaikjfcgemjghaaGreatKerbSrvL
import Derived.Test.YtaikjfcgemjghaaGreatKerbKac2
open Go.Abs.AV renaming int→Zz,str→Zy,u8→Zx,bs→Zq,bool→Zf,tup→Yz,ownB→Yn,onInt→Ym,agg→Xy,onAgg→Xm,undef→Ux,sl→Uw,onOwnB→Uk,onBool→Up
open Option renaming bind→Zw
open List renaming length→Zv,append→Xq,length_map→Wx,getD→Wm,map→Vy,all→Uj
open Go.IntKind renaming i64→Zu,wrap→Zj,u64→Xb,u16→Wh
open Kerb renaming keyBytes_len→Zk,decodeKaSecret→Zp,putPrin_len→Zd,u8i→Zg,within→Zb,putN_len→Zm,kaRefuse→Yk,encodeKaSecret→Yh,decodeTicket→Xz,openTicket→Xx,krbtgt→Xw,get→Xp,user→Xg,text→Xh,long→Wz,validInst→Wy,validRealm→Ww,u8i_bd→Wv,validName→Wj,toEntry→Wg,serviceEnt→Wn,noPrin→Vx,pGet→Vv,map_toEntry→Vu,getD_ent→Vj,sealTicket→Vk,isU64→Vp,rdPrin→Vd,putN→Vf,pBytes→Vg,session→Vb,grantLife→Vn,findCross→Vm,keyValid→Uz,encodeKaRequest→Uy,openBox→Uv,isEntry→Uu,classOf→Uq
open Kerb.Dec renaming val→Zn,err→Ud
open Bool renaming not_true→Zh,and_eq_true→Yu,and_self→Xu,not_false→Xf
open UInt8 renaming toNat→Yy,ofNat→Xn
open Kerb.Prin renaming mk→Yx,realm→Yj,name→Yg,inst→Yb,valid→Xv
open Prod renaming snd→Yw,fst→Yq
open Kerb.KAsk renaming mk→Yv
open Int renaming tmod_eq_emod_of_nonneg→Yp,tmod→Yd,toNat→Yf
open Nat renaming le_trans→Xj
open Kerb.Entry renaming av→Xk
open Kerb.ReplyPart renaming service→Xd
open Kerb.Ticket renaming client→Wu,mk→Vq
open Kerb.Issue renaming service→Wq,server→Wd,client→Wf
open Kerb.Enc renaming val→Wk,err→Wp
open Kerb.KaSecret renaming mk→Wb
open Kerb.Got renaming err→Vz
open Kerb.GotB renaming err→Vw
open Kerb.Db renaming mk→Vh
namespace Go.Proofs.YtaikjfcgemjghaaGreat
open Go Go.Abs Go.Proofs
set_option linter.unusedVariables false
set_option linter.unusedSimpArgs false
set_option maxRecDepth 100000
theorem w128:Walked Tryz.prog G 128 6 sp128:=by
 refine ⟨Tryz.f128,Tryz.func128,by decide +kernel,rfl,fun xs bl r h=> ?_⟩
 unfold sp128 at h
 split at h
 ·rename_i s
  obtain ⟨hpre,h2⟩:=chk_inv h;cases h2
  refine Eq.trans (b:=(sel (!s==[]) (Zw (chk (decide (Zv s≤9223372036854775807)) (some (Zf (Wy s),[]))) fun (r:AV×Blocks)=>onNilB (Yw r) (Up (Yq r) fun b=>some (Zf b,[]))) (some (Zf false,[])):Option (AV×Blocks))) (by kernel_rfl) ?_
  simp only [A0]
  rw [chk_of hpre]
  simp only [Ww]
  cases s<;>rfl
 ·cases h
theorem w191:Walked Tryz.prog G 191 6 sp191:=by
 refine ⟨Tryz.f191,Tryz.func191,by decide +kernel,rfl,fun xs bl r h=> ?_⟩
 unfold sp191 at h
 split at h
 ·rename_i b
  obtain ⟨hpre,h2⟩:=chk_inv h;cases h2
  refine Eq.trans (b:=(let t2:AV:=Xy [Zf false,Zy [],Zy [],Zy [],Zz .i64 0,Zz .u64 0,Zz .i64 0,Zz .i64 0,Zy [],Zy []];let t1:Option (AV×Blocks):=some (Yz [t2,Zz .i64 100],[]);let t0:Option (AV×Blocks):=Zw (chk (decide (Zv b≤140737488355328)) (some (Zz .i64 (Kerb.Got.val (Xp b 0 1 false)),[[Zq b,Zz .i64 (bif false || !Vz (Xp b 0 1 false)==0 then 0 else Kerb.Got.next (Xp b 0 1 false)),Zf false,Zf !Vz (Xp b 0 1 false)==0]]))) fun (r:AV×Blocks)=>onConsB (Yw r) fun (x:List AV) (r_1:List (List AV))=>cBs x fun b_1 r_2=>cInt .i64 r_2 fun n r_3=>cBool r_3 fun b_2 r_4=>cBool r_4 fun b_3 r_5=>onNil r_5 (onNilB r_1 (Ym .i64 (Yq r) fun n_1=>Zw (chk (decide (Zv b_1≤140737488355328)) (some (Xy [Zy (Yg (Kerb.RdP.p (Vd b_1 n b_3))),Zy (Yb (Kerb.RdP.p (Vd b_1 n b_3))),Zy (Yj (Kerb.RdP.p (Vd b_1 n b_3)))],[[Zq b_1,Zz .i64 (Kerb.RdP.pos (Vd b_1 n b_3)),Zf (n_1==1),Zf (Kerb.RdP.bad (Vd b_1 n b_3))]]))) fun (r:AV×Blocks)=>onConsB (Yw r) fun (x:List AV) (r_6:List (List AV))=>cBs x fun b_4 r_7=>cInt .i64 r_7 fun n r_8=>cBool r_8 fun b_5 r_9=>cBool r_9 fun b_6 r_10=>onNil r_10 (onNilB r_6 (Xm (Yq r) fun cs=>cStr cs fun b_7 r=>cStr r fun b_8 r=>cStr r fun b_9 r=>onNil r (Zw (chk (decide (Zv b_4≤140737488355328)) (some (Zz .i64 (Kerb.Got.val (Xp b_4 n 4 b_5)),[[Zq b_4,Zz .i64 (bif b_6 || !Vz (Xp b_4 n 4 b_5)==0 then n else Kerb.Got.next (Xp b_4 n 4 b_5)),Zf b_5,Zf (b_6 || !Vz (Xp b_4 n 4 b_5)==0)]]))) fun (r:AV×Blocks)=>onConsB (Yw r) fun (x:List AV) (r_11:List (List AV))=>cBs x fun b_10 r_12=>cInt .i64 r_12 fun n r_13=>cBool r_13 fun b_11 r_14=>cBool r_14 fun b_12 r_15=>onNil r_15 (onNilB r_11 (Ym .i64 (Yq r) fun n_2=>Zw (chk (decide (Zv b_10≤140737488355328)) (some (Zq (Kerb.GotB.val (Kerb.bytes b_10 n 8)),[[Zq b_10,Zz .i64 (bif b_12 || !Vw (Kerb.bytes b_10 n 8)==0 then n else Kerb.GotB.next (Kerb.bytes b_10 n 8)),Zf b_11,Zf (b_12 || !Vw (Kerb.bytes b_10 n 8)==0)]]))) fun (r:AV×Blocks)=>onConsB (Yw r) fun (x:List AV) (r_16:List (List AV))=>cBs x fun b_13 r_17=>cInt .i64 r_17 fun n r_18=>cBool r_18 fun b_14 r_19=>cBool r_19 fun b_15 r_20=>onNil r_20 (onNilB r_16 (AV.onBs (Yq r) fun b_16=>Zw (chk (decide (Zv b_16≤4611686018427387904)) (some (Yz [Zz .u64 (Yq (Kerb.keyRead b_16)),Zf (Yw (Kerb.keyRead b_16))],[]))) (kT fun vs=>cInt .u64 vs fun n_3 r=>cBool r fun b_17 r=>onNil r (Zw (chk (decide (Zv b_13≤140737488355328)) (some (Zz .i64 (Kerb.Got.val (Xp b_13 n 1 false)),[[Zq b_13,Zz .i64 (bif b_15 || !Vz (Xp b_13 n 1 false)==0 then n else Kerb.Got.next (Xp b_13 n 1 false)),Zf b_14,Zf (b_15 || !Vz (Xp b_13 n 1 false)==0)]]))) fun (r:AV×Blocks)=>onConsB (Yw r) fun (x:List AV) (r_21:List (List AV))=>cBs x fun b_18 r_22=>cInt .i64 r_22 fun n r_23=>cBool r_23 fun b_19 r_24=>cBool r_24 fun b_20 r_25=>onNil r_25 (onNilB r_21 (Ym .i64 (Yq r) fun n_4=>Zw (chk (decide (Zv b_18≤140737488355328)) (some (Zz .i64 (Kerb.Got.val (Xp b_18 n 4 b_19)),[[Zq b_18,Zz .i64 (bif b_20 || !Vz (Xp b_18 n 4 b_19)==0 then n else Kerb.Got.next (Xp b_18 n 4 b_19)),Zf b_19,Zf (b_20 || !Vz (Xp b_18 n 4 b_19)==0)]]))) fun (r:AV×Blocks)=>onConsB (Yw r) fun (x:List AV) (r_26:List (List AV))=>cBs x fun b_21 r_27=>cInt .i64 r_27 fun n r_28=>cBool r_28 fun b_22 r_29=>cBool r_29 fun b_23 r_30=>onNil r_30 (onNilB r_26 (Ym .i64 (Yq r) fun n_5=>Zw (chk (decide (Zv b_21≤140737488355328)) (some (Zy (Kerb.GotB.val (Xh b_21 n)),[[Zq b_21,Zz .i64 (bif b_23 || !Vw (Xh b_21 n)==0 then n else Kerb.GotB.next (Xh b_21 n)),Zf b_22,Zf (b_23 || !Vw (Xh b_21 n)==0)]]))) fun (r:AV×Blocks)=>onConsB (Yw r) fun (x:List AV) (r_31:List (List AV))=>cBs x fun b_24 r_32=>cInt .i64 r_32 fun n r_33=>cBool r_33 fun b_25 r_34=>cBool r_34 fun b_26 r_35=>onNil r_35 (onNilB r_31 (AV.onStr (Yq r) fun b_27=>Zw (chk (decide (Zv b_24≤140737488355328)) (some (Zy (Kerb.GotB.val (Xh b_24 n)),[[Zq b_24,Zz .i64 (bif b_26 || !Vw (Xh b_24 n)==0 then n else Kerb.GotB.next (Xh b_24 n)),Zf b_25,Zf (b_26 || !Vw (Xh b_24 n)==0)]]))) fun (r:AV×Blocks)=>onConsB (Yw r) fun (x:List AV) (r_36:List (List AV))=>cBs x fun b_28 r_37=>cInt .i64 r_37 fun n r_38=>cBool r_38 fun b_29 r_39=>cBool r_39 fun b_30 r_40=>onNil r_40 (onNilB r_36 (AV.onStr (Yq r) fun b_31=>Zw (chk (l63 b_7&&l63 b_8&&l63 b_9&&l63 b_27&&l63 b_31&&decide (0≤n_3)&&decide (n_3<18446744073709551616)) (some (Yz [Zq (Wk (Kerb.encodeTicket (Vq (n_1==1) (Yx b_7 b_8 b_9) n_2 n_3 n_4 n_5 b_27 b_31))),Zz .i64 (Wp (Kerb.encodeTicket (Vq (n_1==1) (Yx b_7 b_8 b_9) n_2 n_3 n_4 n_5 b_27 b_31)))],[]))) (kT fun vs=>cBs vs fun b_32 r=>cInt .i64 r fun n r=>onNil r (sel b_30 t1 (sel (!n==0) t1 (sel (!b_32==b) t1 (some (Yz [Xy [Zf (n_1==1),Zy b_7,Zy b_8,Zy b_9,Zz .i64 n_2,Zz .u64 n_3,Zz .i64 n_4,Zz .i64 n_5,Zy b_27,Zy b_31],Zz .i64 0],[])))))))))))))))))))))))));sel (decide ((↑(Zv b):Int)>0)) (chk (decide (0<(↑(Zv b):Int))) (sel (decide ((↑(Yy (Wm b (Yf 0) (0:UInt8))):Int)>(↑(Yy (1:UInt8)):Int))) (some (Yz [t2,Zz .i64 7],[])) t0)) t0:Option (AV×Blocks))) (by kernel_rfl) ?_
  delta kT
  try dsimp only [cStr,cBs,cBool,cU8,cInt,cSl,l63]
  have hb:=of_decide_eq_true hpre
  simp only [hpre,↓A0,A0]
  unfold Xz
  rw [Kerb.decTicket_ref]
  have hl:∀ p n,(Kerb.bytes b p n).val.length≤4611686018427387904:=fun p n=>Xj (Kerb.bytes_len b p n) (by omega)
  have hk:∀ q,0≤(Kerb.keyRead q).1∧(Kerb.keyRead q).1<18446744073709551616:=Kerb.keyRead_bd
  have hx:∀ q,(Xh b q).val.length≤40:=Kerb.text_len b
  have lp:∀ q bd,(Vd b q bd).p.name.length≤40∧(Vd b q bd).p.inst.length≤40∧(Vd b q bd).p.realm.length≤40:=Kerb.rdPrin_len b
  have h7b:¬ (0<b.length)→¬ 1<(Xp b 0 1 false).val:=by
   intro h
   have:b=[]:=List.eq_nil_of_length_eq_zero (by omega)
   subst this
   decide
  have hv:0<b.length→(Xp b 0 1 false).val=((Wm b (Yf 0) 0).toNat:Int):=by
   intro h
   cases b with
   | nil=>simp at h
   | cons c r =>
    have hr:Kerb.room (c::r) 0 1=0:=Kerb.room_zero.2 ⟨by omega,by simp only [List.length_cons];omega,by omega,by simp only [List.length_cons];omega⟩
    unfold Xp
    rw [if_pos hr]
    simp [Kerb.cut,Kerb.valB]
  have fin:=Kerb.decBy_fin (no:=Kerb.noTicket) (enc:=Kerb.encodeTicket) (b:=b) (rd:=fun b=>((Kerb.rdTicket b).val,(Kerb.rdTicket b).bad)) _ _ rfl (fun x e=>(Yz [Xy [Zf (x).little,Zy (x).client.name,Zy (x).client.inst,Zy (x).client.realm,Zz Zu (x).address,Zz Xb (x).session,Zz Zu (x).life,Zz Zu (x).issued,Zy (x).service,Zy (x).inst],Zz Zu e],([]:Blocks)))
  by_cases h:0<b.length
  ·rw [sel_pos (by simp only [decide_eq_true_eq];omega),chk_of (by simp only [decide_eq_true_eq];omega)]
   have hv:=hv h
   by_cases h7:1<(Xp b 0 1 false).val
   ·rw [sel_pos (by rw [hv] at h7;exact decide_eq_true h7),if_pos h7]
    rfl
   rw [sel_neg (by rw [hv] at h7;exact decide_eq_false h7),if_neg h7]
   rw [chk_of (by simp only [decide_eq_true_eq];exact hl _ _),chk_of (by simp only [Yu,decide_eq_true_eq];exact ⟨⟨⟨⟨⟨⟨Xj (lp _ _).1 (by decide),Xj (lp _ _).2.1 (by decide)⟩,Xj (lp _ _).2.2 (by decide)⟩,Xj (hx _) (by decide)⟩,Xj (hx _) (by decide)⟩,(hk _).1⟩,(hk _).2⟩)]
   exact fin
  ·rw [sel_neg (by simp only [decide_eq_false_iff_not];omega),if_neg (h7b h)]
   rw [chk_of (by simp only [decide_eq_true_eq];exact hl _ _),chk_of (by simp only [Yu,decide_eq_true_eq];exact ⟨⟨⟨⟨⟨⟨Xj (lp _ _).1 (by decide),Xj (lp _ _).2.1 (by decide)⟩,Xj (lp _ _).2.2 (by decide)⟩,Xj (hx _) (by decide)⟩,Xj (hx _) (by decide)⟩,(hk _).1⟩,(hk _).2⟩)]
   exact fin
 ·cases h
theorem w220:Walked Tryz.prog G 220 6 sp220:=by
 refine ⟨Tryz.f220,Tryz.func220,by decide +kernel,rfl,fun xs bl r h=> ?_⟩
 unfold sp220 at h
 split at h
 ·rename_i b
  obtain ⟨hpre,h2⟩:=chk_inv h;cases h2
  refine Eq.trans (b:=(let t0:Option (AV×Blocks):=some (Yz [Xy [Zy [],Zz .i64 0,Zz .i64 0,Zz .i64 0,Zz .u64 0],Zz .i64 100],[]);Zw (chk (decide (Zv b≤140737488355328)) (some (Zq (Kerb.Rd.val (Vg b 4 0 false)),[[Zq b,Zz .i64 (Kerb.Rd.pos (Vg b 4 0 false)),Zf (Kerb.Rd.bad (Vg b 4 0 false))]]))) fun (r:AV×Blocks)=>onConsB (Yw r) fun (x:List AV) (r_1:List (List AV))=>cBs x fun b_1 r_2=>cInt .i64 r_2 fun n r_3=>cBool r_3 fun b_2 r_4=>onNil r_4 (onNilB r_1 (AV.onBs (Yq r) fun b_3=>Zw (chk (decide (Zv b_1≤140737488355328)) (some (Zz .i64 (Kerb.Rd.val (Vv b_1 4 n b_2)),[[Zq b_1,Zz .i64 (Kerb.Rd.pos (Vv b_1 4 n b_2)),Zf (Kerb.Rd.bad (Vv b_1 4 n b_2))]]))) fun (r:AV×Blocks)=>onConsB (Yw r) fun (x:List AV) (r_5:List (List AV))=>cBs x fun b_4 r_6=>cInt .i64 r_6 fun n r_7=>cBool r_7 fun b_5 r_8=>onNil r_8 (onNilB r_5 (Ym .i64 (Yq r) fun n_1=>sel (Kerb.timed b_3) (Zw (chk (decide (Zv b_4≤140737488355328)) (some (Zz .i64 (Kerb.Rd.val (Vv b_4 4 n b_5)),[[Zq b_4,Zz .i64 (Kerb.Rd.pos (Vv b_4 4 n b_5)),Zf (Kerb.Rd.bad (Vv b_4 4 n b_5))]]))) fun (r:AV×Blocks)=>onConsB (Yw r) fun (x:List AV) (r_9:List (List AV))=>cBs x fun b_6 r_10=>cInt .i64 r_10 fun n r_11=>cBool r_11 fun b_7 r_12=>onNil r_12 (onNilB r_9 (Ym .i64 (Yq r) fun n_2=>Zw (chk (decide (Zv b_6≤140737488355328)) (some (Zz .i64 (Kerb.Rd.val (Vv b_6 4 n b_7)),[[Zq b_6,Zz .i64 (Kerb.Rd.pos (Vv b_6 4 n b_7)),Zf (Kerb.Rd.bad (Vv b_6 4 n b_7))]]))) fun (r:AV×Blocks)=>onConsB (Yw r) fun (x:List AV) (r_13:List (List AV))=>cBs x fun b_8 r_14=>cInt .i64 r_14 fun n r_15=>cBool r_15 fun b_9 r_16=>onNil r_16 (onNilB r_13 (Ym .i64 (Yq r) fun n=>sel b_9 t0 (sel (!Wp (Yh (Wb b_3 n_1 n_2 n 0))==0) t0 (sel (!Wk (Yh (Wb b_3 n_1 n_2 n 0))==b) t0 (some (Yz [Xy [Zy b_3,Zz .i64 n_1,Zz .i64 n_2,Zz .i64 n,Zz .u64 0],Zz .i64 0],[]))))))))) (Zw (chk (decide (Zv b_4≤140737488355328)) (some (Zz .u64 (Kerb.Rd.val (Kerb.pKey b_4 n b_5)),[[Zq b_4,Zz .i64 (Kerb.Rd.pos (Kerb.pKey b_4 n b_5)),Zf (Kerb.Rd.bad (Kerb.pKey b_4 n b_5))]]))) fun (r:AV×Blocks)=>onConsB (Yw r) fun (x:List AV) (r_9:List (List AV))=>cBs x fun b_6 r_10=>cInt .i64 r_10 fun n r_11=>cBool r_11 fun b_7 r_12=>onNil r_12 (onNilB r_9 (Ym .u64 (Yq r) fun n=>sel b_7 t0 (Zw (chk (decide (0≤n)&&decide (n<18446744073709551616)) (some (Yz [Zq (Wk (Yh (Wb b_3 n_1 0 0 n))),Zz .i64 (Wp (Yh (Wb b_3 n_1 0 0 n)))],[]))) (kT fun vs=>cBs vs fun b_8 r=>cInt .i64 r fun n_2 r=>onNil r (sel (!n_2==0) t0 (sel (!b_8==b) t0 (some (Yz [Xy [Zy b_3,Zz .i64 n_1,Zz .i64 0,Zz .i64 0,Zz .u64 n],Zz .i64 0],[]))))))))))))):Option (AV×Blocks))) (by kernel_rfl) ?_
  delta kT
  try dsimp only [cStr,cBs,cBool,cU8,cInt,cSl,l63]
  have hb:=of_decide_eq_true hpre
  simp only [A0,hpre]
  cases ht:Kerb.timed (Vg b 4 0 false).val
  ·have hk:=Kerb.pKey_bd b (Vv b 4 (Vg b 4 0 false).pos (Vg b 4 0 false).bad).pos (Vv b 4 (Vg b 4 0 false).pos (Vg b 4 0 false).bad).bad
   rw [sel_false,chk_of (by simp;omega)]
   exact Kerb.decBy_fin (no:=Kerb.noKaSecret) (enc:=Yh) (rd:=Kerb.readKaSec) _ _ (by unfold Kerb.readKaSec Kerb.pSec;dsimp only;rw [ht];rfl) (fun x e=>(Yz [Xy [Zy (x).label,Zz Zu (x).time,Zz Zu (x).start,Zz Zu (x).stop,Zz Xb (x).new],Zz Zu e],([]:Blocks)))
  ·rw [sel_true]
   exact Kerb.decBy_fin (no:=Kerb.noKaSecret) (enc:=Yh) (rd:=Kerb.readKaSec) _ _ (by unfold Kerb.readKaSec Kerb.pSec;dsimp only;rw [ht];rfl) (fun x e=>(Yz [Xy [Zy (x).label,Zz Zu (x).time,Zz Zu (x).start,Zz Zu (x).stop,Zz Xb (x).new],Zz Zu e],([]:Blocks)))
 ·cases h
theorem w229:Walked Tryz.prog G 229 6 sp229:=by
 refine ⟨Tryz.f229,Tryz.func229,by decide +kernel,rfl,fun xs bl r h=> ?_⟩
 unfold sp229 at h
 split at h
 ·rename_i en ei ek ev ex em ea ef et
  obtain ⟨hpre,h2⟩:=chk_inv h;cases h2
  refine Eq.trans (b:=(let t0:Option (AV×Blocks):=sel (!Zb ev 255) (some (Zz .i64 104,[])) (sel (!Zb ex 4294967295) (some (Zz .i64 104,[])) (sel (!Zb et 4294967295) (some (Zz .i64 104,[])) (sel (!Zb em 255) (some (Zz .i64 104,[])) (sel (!Zb ea 3) (some (Zz .i64 104,[])) (sel (!Zb ef 20) (some (Zz .i64 104,[])) (some (Zz .i64 0,[])))))));Zw (chk (l63 en) (some (Zf (Wj en),[]))) (kL fun b=>sel (!b) (some (Zz .i64 103,[])) (Zw (chk (l63 ei) (some (Zf (Wy ei),[]))) (kL fun b=>sel (!b) (some (Zz .i64 103,[])) (sel (!ek==0) (Zw (chk (decide (0≤ek)&&decide (ek<18446744073709551616)) (some (Zf (Uz ek),[]))) (kL fun b=>sel (!b) (some (Zz .i64 10,[])) t0)) t0)))):Option (AV×Blocks))) (by kernel_rfl) ?_
  delta kL
  try dsimp only [cStr,cBs,cBool,cU8,cInt,cSl,l63]
  simp only [Yu,decide_eq_true_eq] at hpre
  obtain ⟨⟨h1,h2⟩,h3⟩:=hpre
  have h4:(decide (0≤ek)&&decide (ek<18446744073709551616))=true:=h3
  simp only [h1,h2,h4,decide_true,↓A0,A0]
  unfold Kerb.Entry.err
  dsimp only
  cases Wj en
  ·rfl
  cases Wy ei
  ·rfl
  simp only [Zh,Xf,sel_true,sel_false]
  rw [if_neg (by simp)]
  by_cases hk:ek=0
  ·rw [sel_neg (by simp [hk]),if_neg (by simp [hk])]
   cases Zb ev 255<;>cases Zb ex 4294967295<;>cases Zb et 4294967295<;>cases Zb em 255<;>cases Zb ea 3<;>cases Zb ef 20<;>rfl
  rw [sel_pos (by simpa using hk)]
  cases hv:Uz ek
  ·rw [if_pos ⟨hk,rfl⟩];rfl
  simp only [Zh,Xf,sel_true,sel_false]
  rw [if_neg (by simp)]
  cases Zb ev 255<;>cases Zb ex 4294967295<;>cases Zb et 4294967295<;>cases Zb em 255<;>cases Zb ea 3<;>cases Zb ef 20<;>rfl
 ·cases h
set_option maxHeartbeats 4000000 in
theorem w24:Walked Tryz.prog G 24 7 sp24:=by
 refine ⟨Tryz.f24,Tryz.func24,by decide +kernel,rfl,fun xs bl r h=> ?_⟩
 unfold sp24 at h
 split at h
 ·rename_i o u s e n t p i l a w d hw
  obtain ⟨hpre,h2⟩:=chk_inv h;cases h2
  refine Eq.trans (b:=(let t0:Int:=Zj .i64 (Zj .i64 (1+Yd (Zj .i64 (↑(Yy o):Int)) 3)-1);let t1:AV:=Zy [(107:UInt8),(114:UInt8),(98:UInt8),(116:UInt8),(103:UInt8),(116:UInt8)];let t4:AV:=Zy [(65:UInt8),(84:UInt8),(72:UInt8)];let t5:List AV:=[Zy [(103:UInt8),(84:UInt8),(71:UInt8),(83:UInt8)],Zy [(103:UInt8),(84:UInt8),(75:UInt8),(84:UInt8)],Zy [(67:UInt8),(80:UInt8),(87:UInt8),(108:UInt8)]];let t6:List AV:=[Zy [(103:UInt8),(84:UInt8),(75:UInt8),(84:UInt8)],Zy [(67:UInt8),(80:UInt8),(87:UInt8),(108:UInt8)],Zy [(103:UInt8),(84:UInt8),(71:UInt8),(83:UInt8)]];let t8:AV:=Zz .i64 (Zj .i64 (1000+Zj .i64 (↑(Yy t):Int)));let t9:List AV:=[Zz .i64 0,Zy [],Zq [],Zy [],Zy [],Zq []];let t2:Int:=(↑(Zv t6):Int);let t3:Int:=(↑(Zv t5):Int);let t7:List AV:=[t8,Zz .i64 0,Zz .i64 0,Zz .u64 0];let t10:List AV:=[t1,t4,Zz .u64 (Wz 3),t4,Zz .i64 6];chk (decide (0≤t0)&&decide (t0<t3)&&true) (AV.onStr (Wm t5 (Yf t0) Ux) fun b=>Zw (sel (Xn (Yf (Yd (↑(Yy w):Int) (↑(Yy (16:UInt8)):Int)))==(1:UInt8)) (chk (decide (0≤t0)&&decide (t0<t2)&&true) (AV.onStr (Wm t6 (Yf t0) Ux) fun b=>some (Zx o::Zx u::Zx s::Zx e::Zx n::Zx t::Zx p::Zx i::Zx l::Zx a::Zx w::Zx d::Zz .u16 hw::Zq []::Zz .i64 (Zj .i64 (1+Yd (Zj .i64 (↑(Yy o):Int)) 3))::t8::Zy b::t7))) (some (Zx o::Zx u::Zx s::Zx e::Zx n::Zx t::Zx p::Zx i::Zx l::Zx a::Zx w::Zx d::Zz .u16 hw::Zq []::Zz .i64 (Zj .i64 (1+Yd (Zj .i64 (↑(Yy o):Int)) 3))::t8::Zy b::t7))) fun l=>cU8 l fun b r=>cU8 r fun b_1 r=>cU8 r fun b_2 r=>cU8 r fun b_3 r=>cU8 r fun b_4 r=>let t11:Int:=Zj .i64 (30+Yd (Zj .i64 (↑(Yy b_4):Int)) 3);cU8 r fun b_5 r=>cU8 r fun b_6 r=>cU8 r fun b_7 r=>cU8 r fun b_8 r=>cU8 r fun b_9 r=>cU8 r fun b_10 r=>cU8 r fun b_11 r=>cInt .u16 r fun n r=>cBs r fun b_12 r=>cInt .i64 r fun n_1 r=>cInt .i64 r fun n_2 r=>cStr r fun b_13 r=>cInt .i64 r fun n_3 r=>cInt .i64 r fun n_4 r=>cInt .i64 r fun n_5 r=>cInt .u64 r fun n_6 r=>onNil r (Zw (sel (b_13==[(67:UInt8),(80:UInt8),(87:UInt8),(108:UInt8)]) (Zw (chk (decide (0≤t11)&&decide (t11≤1000)) (some (Zz .u64 (Wz t11),[]))) (kI .u64 fun n_7=>Zw (sel (Xn (Yf (Yd (↑(Yy b_10):Int) (↑(Yy (16:UInt8)):Int)))==(2:UInt8)) (some [Zx b,Zx b_1,Zx b_2,Zx b_3,Zx b_4,Zx b_5,Zx b_6,Zx b_7,Zx b_8,Zx b_9,Zx b_10,Zx b_11,Zz .u16 n,Zq b_12,Zz .i64 n_1,Zy b_13,Zz .i64 n_3,Zz .i64 n_4,Zz .i64 n_5,Zz .u64 (Vb 5)]) (some [Zx b,Zx b_1,Zx b_2,Zx b_3,Zx b_4,Zx b_5,Zx b_6,Zx b_7,Zx b_8,Zx b_9,Zx b_10,Zx b_11,Zz .u16 n,Zq b_12,Zz .i64 n_1,Zy b_13,Zz .i64 n_3,Zz .i64 n_4,Zz .i64 n_5,Zz .u64 n_7])) fun l=>cU8 l fun b r=>cU8 r fun b_14 r=>cU8 r fun b_15 r=>cU8 r fun b_16 r=>cU8 r fun b_17 r=>cU8 r fun b_18 r=>cU8 r fun b_19 r=>cU8 r fun b_20 r=>cU8 r fun b_21 r=>cU8 r fun b_22 r=>cU8 r fun b_23 r=>cU8 r fun b_24 r=>cInt .u16 r fun n r=>cBs r fun b_25 r=>cInt .i64 r fun n_8 r=>cStr r fun b_26 r=>cInt .i64 r fun n_9 r=>cInt .i64 r fun n_10 r=>cInt .i64 r fun n_11 r=>cInt .u64 r fun n_12 r=>onNil r (some [Zx b,Zx b_14,Zx b_15,Zx b_16,Zx b_17,Zx b_18,Zx b_19,Zx b_20,Zx b_21,Zx b_22,Zx b_23,Zx b_24,Zz .u16 n,Zq b_25,Zz .i64 n_8,Zy b_26,Zz .i64 n_9,Zz .i64 n_10,Zz .i64 n_11,Zz .u64 n_12]))) (some [Zx b,Zx b_1,Zx b_2,Zx b_3,Zx b_4,Zx b_5,Zx b_6,Zx b_7,Zx b_8,Zx b_9,Zx b_10,Zx b_11,Zz .u16 n,Zq b_12,Zz .i64 n_1,Zy b_13,Zz .i64 n_3,Zz .i64 n_2,Zz .i64 (Zj .i64 (n_2+Zj .i64 (Zj .i64 (↑(Yy b_6):Int)*50))),Zz .u64 n_6])) fun l=>cU8 l fun b r=>cU8 r fun b_14 r=>cU8 r fun b_15 r=>cU8 r fun b_16 r=>cU8 r fun b_17 r=>cU8 r fun b_18 r=>cU8 r fun b_19 r=>cU8 r fun b_20 r=>cU8 r fun b_21 r=>cU8 r fun b_22 r=>cU8 r fun b_23 r=>cU8 r fun b_24 r=>cInt .u16 r fun n r=>cBs r fun b_25 r=>cInt .i64 r fun n_7 r=>cStr r fun b_26 r=>cInt .i64 r fun n_8 r=>cInt .i64 r fun n_9 r=>cInt .i64 r fun n_10 r=>cInt .u64 r fun n_11 r=>onNil r (Zw (chk (decide (0≤n_11)&&decide (n_11<18446744073709551616)) (some (Yz [Yn (Wk (Yh (Wb b_26 n_8 n_9 n_10 n_11))),Zz .i64 (Wp (Yh (Wb b_26 n_8 n_9 n_10 n_11)))],[]))) (kT fun vs=>onCons vs fun x r=>Uk x fun l=>cInt .i64 r fun n_12 r=>onNil r (Zw (sel (Xn (Yf (Yd (↑(Yy b_23):Int) (↑(Yy (16:UInt8)):Int)))==(3:UInt8)) (chk (room (Zv l+Zv [(0:UInt8)]) 1) (some [Zx b,Zx b_14,Zx b_15,Zx b_16,Zx b_17,Zx b_18,Zx b_19,Zx b_20,Zx b_21,Zx b_22,Zx b_23,Zx b_24,Zz .u16 n,Zq b_25,Zz .i64 n_7,Yn (l++[(0:UInt8)])])) (some [Zx b,Zx b_14,Zx b_15,Zx b_16,Zx b_17,Zx b_18,Zx b_19,Zx b_20,Zx b_21,Zx b_22,Zx b_23,Zx b_24,Zz .u16 n,Zq b_25,Zz .i64 n_7,Yn l])) fun l=>cU8 l fun b r=>cU8 r fun b_27 r=>let t12:Int:=Yd (Zj .i64 (↑(Yy b_27):Int)) 3;cU8 r fun b_28 r=>cU8 r fun b_29 r=>cU8 r fun b_30 r=>cU8 r fun b_31 r=>cU8 r fun b_32 r=>cU8 r fun b_33 r=>cU8 r fun b_34 r=>cU8 r fun b_35 r=>cU8 r fun b_36 r=>cU8 r fun b_37 r=>let t13:Int:=Zj .i64 (30+Yd (Zj .i64 (Int.tdiv (Zj .i64 (↑(Yy b_37):Int)) 4)) 3);cInt .u16 r fun n r=>cBs r fun b_38 r=>cInt .i64 r fun n_13 r=>onCons r fun x r=>Uk x fun b_39=>onNil r (Zw (chk (decide (0≤t12)&&decide (t12≤1000)) (some (Zz .u64 (Wz t12),[]))) (kI .u64 fun n_14=>Zw (sel (Xn (Yf (Yd (↑(Yy b_37):Int) (↑(Yy (4:UInt8)):Int)))==(3:UInt8)) (Zw (chk (decide (0≤t13)&&decide (t13≤1000)) (some (Zz .u64 (Wz t13),[]))) (kI .u64 fun n_15=>some [Zx b,Zx b_27,Zx b_28,Zx b_29,Zx b_30,Zx b_31,Zx b_32,Zx b_33,Zx b_34,Zx b_35,Zx b_36,Zx b_37,Zz .u16 n,Zq b_38,Zz .i64 n_13,Yn b_39,Zz .i64 t12,Zz .u64 n_15])) (some [Zx b,Zx b_27,Zx b_28,Zx b_29,Zx b_30,Zx b_31,Zx b_32,Zx b_33,Zx b_34,Zx b_35,Zx b_36,Zx b_37,Zz .u16 n,Zq b_38,Zz .i64 n_13,Yn b_39,Zz .i64 t12,Zz .u64 n_14])) fun l=>cU8 l fun b r=>cU8 r fun b_40 r=>let t14:Int:=Zj .i64 (3+Yd (Zj .i64 (↑(Yy b_40):Int)) 6);cU8 r fun b_41 r=>cU8 r fun b_42 r=>cU8 r fun b_43 r=>cU8 r fun b_44 r=>cU8 r fun b_45 r=>cU8 r fun b_46 r=>cU8 r fun b_47 r=>cU8 r fun b_48 r=>cU8 r fun b_49 r=>cU8 r fun b_50 r=>cInt .u16 r fun n r=>cBs r fun b_51 r=>cInt .i64 r fun n_15 r=>onCons r fun x r=>Uk x fun b_52=>cInt .i64 r fun n_16 r=>cInt .u64 r fun n_17 r=>onNil r (Zw (chk (decide (0≤n_16)&&decide (n_16≤4611686018427387904)) (some (Xy [Zy (Yg (Xg n_16)),Zy (Yb (Xg n_16)),Zy (Yj (Xg n_16))],[]))) (kA fun cs=>cStr cs fun b_53 r=>cStr r fun b_54 r=>cStr r fun b_55 r=>onNil r (Zw (sel (Xn (Yf (Yd (↑(Yy b_49):Int) (↑(Yy (16:UInt8)):Int)))==(4:UInt8)) (Zw (chk (decide (0≤t14)&&decide (t14≤4611686018427387904)) (some (Xy [Zy (Yg (Xg t14)),Zy (Yb (Xg t14)),Zy (Yj (Xg t14))],[]))) (kA fun cs=>cStr cs fun b_56 r=>cStr r fun b_57 r=>cStr r fun b_58 r=>onNil r (some (Zx b::Zx b_40::Zx b_41::Zx b_42::Zx b_43::Zx b_44::Zx b_45::Zx b_46::Zx b_47::Zx b_48::Zx b_49::Zx b_50::Zz .u16 n::Zq b_51::Zz .i64 n_15::Yn b_52::Zz .i64 n_16::Zz .u64 n_17::Zz .i64 n_15::Zy b_56::Zy b_57::Zy b_58::t9)))) (some (Zx b::Zx b_40::Zx b_41::Zx b_42::Zx b_43::Zx b_44::Zx b_45::Zx b_46::Zx b_47::Zx b_48::Zx b_49::Zx b_50::Zz .u16 n::Zq b_51::Zz .i64 n_15::Yn b_52::Zz .i64 n_16::Zz .u64 n_17::Zz .i64 n_15::Zy b_53::Zy b_54::Zy b_55::t9))) fun l=>cU8 l fun b r=>cU8 r fun b_56 r=>cU8 r fun b_57 r=>cU8 r fun b_58 r=>let t15:Int:=Yd (Zj .i64 (↑(Yy b_58):Int)) 4;cU8 r fun b_59 r=>cU8 r fun b_60 r=>cU8 r fun b_61 r=>cU8 r fun b_62 r=>let t16:AV:=Zz .i64 (Zj .i64 (1000+Zj .i64 (↑(Yy b_62):Int)));cU8 r fun b_63 r=>let t17:AV:=Zz .i64 (Yd (Zj .i64 (↑(Yy b_63):Int)) 40);cU8 r fun b_64 r=>let t18:AV:=Zz .i64 (Yd (Zj .i64 (↑(Yy b_64):Int)) 2);cU8 r fun b_65 r=>let t19:UInt8:=Xn (Yf (Yd (↑(Yy b_65):Int) (↑(Yy (16:UInt8)):Int)));cU8 r fun b_66 r=>cInt .u16 r fun n r=>cBs r fun b_67 r=>cInt .i64 r fun n_18 r=>onCons r fun x r=>Uk x fun b_68=>cInt .i64 r fun n_19 r=>cInt .u64 r fun n_20 r=>cInt .i64 r fun n_21 r=>cStr r fun b_69 r=>cStr r fun b_70 r=>cStr r fun b_71 r=>cInt .i64 r fun n_22 r=>cStr r fun b_72 r=>cBs r fun b_73 r=>cStr r fun b_74 r=>cStr r fun b_75 r=>cBs r fun b_76 r=>onNil r (Zw (sel (n_18==2) (Zw (chk (decide (0≤n_19)&&decide (n_19≤4611686018427387904)) (some (Xy [Zy (Yg (Xg n_19)),Zy (Yb (Xg n_19)),Zy (Yj (Xg n_19))],[]))) (kA fun cs=>cStr cs fun b_77 r=>cStr r fun b_78 r=>cStr r fun b_79 r=>onNil r (Zw (chk (decide (0≤t15)&&decide (t15≤1000)) (some (Zz .u64 (Vb t15),[]))) (kI .u64 fun n_23=>Zw (sel (t19==(5:UInt8)) (Zw (chk (decide (0≤Zj .i64 (3+n_19))&&decide (Zj .i64 (3+n_19)≤4611686018427387904)) (some (Xy [Zy (Yg (Xg (Zj .i64 (3+n_19)))),Zy (Yb (Xg (Zj .i64 (3+n_19)))),Zy (Yj (Xg (Zj .i64 (3+n_19))))],[]))) (kA fun cs=>cStr cs fun b_80 r=>cStr r fun b_81 r=>cStr r fun b_82 r=>onNil r (some (Zx b::Zx b_56::Zx b_57::Zx b_58::Zx b_59::Zx b_60::Zx b_61::Zx b_62::Zx b_63::Zx b_64::Zx b_65::Zx b_66::Zz .u16 n::Zq b_67::Zz .i64 n_18::Yn b_68::Zz .i64 n_21::Zy b_69::Zy b_70::Zy b_71::Zz .i64 n_22::Zy b_72::Zq b_73::Zy b_74::Zy b_75::Zq b_76::Zf false::Zy b_80::Zy b_81::Zy b_82::t18::Zz .u64 n_23::t17::t16::t10)))) (sel (t19==(6:UInt8)) (some [Zx b,Zx b_56,Zx b_57,Zx b_58,Zx b_59,Zx b_60,Zx b_61,Zx b_62,Zx b_63,Zx b_64,Zx b_65,Zx b_66,Zz .u16 n,Zq b_67,Zz .i64 n_18,Yn b_68,Zz .i64 n_21,Zy b_69,Zy b_70,Zy b_71,Zz .i64 n_22,Zy b_72,Zq b_73,Zy b_74,Zy b_75,Zq b_76,Zf false,Zy b_77,Zy b_78,Zy b_79,t18,Zz .u64 n_23,t17,t16,t1,Zy [(66:UInt8),(79:UInt8),(83:UInt8)],Zz .u64 (Wz 3),t4,Zz .i64 6]) (sel (t19==(8:UInt8)) (some [Zx b,Zx b_56,Zx b_57,Zx b_58,Zx b_59,Zx b_60,Zx b_61,Zx b_62,Zx b_63,Zx b_64,Zx b_65,Zx b_66,Zz .u16 n,Zq b_67,Zz .i64 n_18,Yn b_68,Zz .i64 n_21,Zy b_69,Zy b_70,Zy b_71,Zz .i64 n_22,Zy b_72,Zq b_73,Zy b_74,Zy b_75,Zq b_76,Zf false,Zy b_77,Zy b_78,Zy b_79,t18,Zz .u64 n_23,t17,t16,t1,t4,Zz .u64 (Wz 4),t4,Zz .i64 6]) (sel (t19==(9:UInt8)) (some [Zx b,Zx b_56,Zx b_57,Zx b_58,Zx b_59,Zx b_60,Zx b_61,Zx b_62,Zx b_63,Zx b_64,Zx b_65,Zx b_66,Zz .u16 n,Zq b_67,Zz .i64 n_18,Yn b_68,Zz .i64 n_21,Zy b_69,Zy b_70,Zy b_71,Zz .i64 n_22,Zy b_72,Zq b_73,Zy b_74,Zy b_75,Zq b_76,Zf false,Zy b_77,Zy b_78,Zy b_79,t18,Zz .u64 n_23,t17,t16,t1,t4,Zz .u64 (Wz 3),Zy [(66:UInt8),(79:UInt8),(83:UInt8)],Zz .i64 6]) (sel (t19==(10:UInt8)) (some [Zx b,Zx b_56,Zx b_57,Zx b_58,Zx b_59,Zx b_60,Zx b_61,Zx b_62,Zx b_63,Zx b_64,Zx b_65,Zx b_66,Zz .u16 n,Zq b_67,Zz .i64 n_18,Yn b_68,Zz .i64 n_21,Zy b_69,Zy b_70,Zy b_71,Zz .i64 n_22,Zy b_72,Zq b_73,Zy b_74,Zy b_75,Zq b_76,Zf false,Zy b_77,Zy b_78,Zy b_79,t18,Zz .u64 n_23,t17,t16,t1,t4,Zz .u64 (Wz 3),t4,Zz .i64 5]) (some (Zx b::Zx b_56::Zx b_57::Zx b_58::Zx b_59::Zx b_60::Zx b_61::Zx b_62::Zx b_63::Zx b_64::Zx b_65::Zx b_66::Zz .u16 n::Zq b_67::Zz .i64 n_18::Yn b_68::Zz .i64 n_21::Zy b_69::Zy b_70::Zy b_71::Zz .i64 n_22::Zy b_72::Zq b_73::Zy b_74::Zy b_75::Zq b_76::Zf false::Zy b_77::Zy b_78::Zy b_79::t18::Zz .u64 n_23::t17::t16::t10))))))) fun l=>cU8 l fun b r=>cU8 r fun b_80 r=>cU8 r fun b_81 r=>let t20:Int:=Yd (Zj .i64 (↑(Yy b_81):Int)) 3;cU8 r fun b_82 r=>cU8 r fun b_83 r=>cU8 r fun b_84 r=>cU8 r fun b_85 r=>cU8 r fun b_86 r=>cU8 r fun b_87 r=>cU8 r fun b_88 r=>cU8 r fun b_89 r=>cU8 r fun b_90 r=>cInt .u16 r fun n r=>cBs r fun b_91 r=>cInt .i64 r fun n_24 r=>onCons r fun x r=>Uk x fun b_92=>cInt .i64 r fun n_25 r=>cStr r fun b_93 r=>cStr r fun b_94 r=>cStr r fun b_95 r=>cInt .i64 r fun n_26 r=>cStr r fun b_96 r=>cBs r fun b_97 r=>cStr r fun b_98 r=>cStr r fun b_99 r=>cBs r fun b_100 r=>cBool r fun b_101 r=>cStr r fun b_102 r=>cStr r fun b_103 r=>cStr r fun b_104 r=>cInt .i64 r fun n_27 r=>cInt .u64 r fun n_28 r=>cInt .i64 r fun n_29 r=>cInt .i64 r fun n_30 r=>cStr r fun b_105 r=>cStr r fun b_106 r=>cInt .u64 r fun n_31 r=>cStr r fun b_107 r=>cInt .i64 r fun n_32 r=>onNil r (Zw (chk (l63 b_102&&l63 b_103&&l63 b_104&&l63 b_105&&l63 b_106&&decide (0≤n_28)&&decide (n_28<18446744073709551616)&&decide (0≤n_31)&&decide (n_31<18446744073709551616)) (some (Yz [Zq (Wk (Vk (Vq b_101 (Yx b_102 b_103 b_104) n_27 n_28 n_29 n_30 b_105 b_106) n_31)),Zz .i64 (Wp (Vk (Vq b_101 (Yx b_102 b_103 b_104) n_27 n_28 n_29 n_30 b_105 b_106) n_31))],[]))) (kT fun vs=>cBs vs fun b_108 r=>cInt .i64 r fun n_33 r=>onNil r (Zw (chk (decide (0≤t20)&&decide (t20≤4611686018427387904)) (some (Xy [Zy (Yg (Kerb.service t20)),Zy (Yb (Kerb.service t20)),Zy (Yj (Kerb.service t20))],[]))) (kA fun cs=>cStr cs fun b_109 r=>cStr r fun b_110 r=>cStr r fun b_111 r=>onNil r (Zw (sel (Xn (Yf (Yd (↑(Yy b_89):Int) (↑(Yy (16:UInt8)):Int)))==(11:UInt8)) (some [Zx b,Zx b_80,Zx b_81,Zx b_82,Zx b_83,Zx b_84,Zx b_85,Zx b_86,Zx b_87,Zx b_88,Zx b_89,Zx b_90,Zz .u16 n,Zq b_91,Zz .i64 n_24,Yn b_92,Zz .i64 n_25,Zy b_93,Zy b_94,Zy b_95,Zz .i64 n_26,Zy b_96,Zq b_97,Zy b_98,Zy b_99,Zq b_100,Zf b_101,Zy b_102,Zy b_103,Zy b_104,Zz .i64 n_27,Zz .u64 n_28,Zz .i64 n_29,Zz .i64 n_30,Zy b_105,Zy b_106,Zy b_107,Zz .i64 n_32,Zq b_108,Zy Xw,Zy (Kerb.realm 1),Zy (Kerb.realm 0)]) (some [Zx b,Zx b_80,Zx b_81,Zx b_82,Zx b_83,Zx b_84,Zx b_85,Zx b_86,Zx b_87,Zx b_88,Zx b_89,Zx b_90,Zz .u16 n,Zq b_91,Zz .i64 n_24,Yn b_92,Zz .i64 n_25,Zy b_93,Zy b_94,Zy b_95,Zz .i64 n_26,Zy b_96,Zq b_97,Zy b_98,Zy b_99,Zq b_100,Zf b_101,Zy b_102,Zy b_103,Zy b_104,Zz .i64 n_27,Zz .u64 n_28,Zz .i64 n_29,Zz .i64 n_30,Zy b_105,Zy b_106,Zy b_107,Zz .i64 n_32,Zq b_108,Zy b_109,Zy b_110,Zy b_111])) fun l=>cU8 l fun b r=>cU8 r fun b_112 r=>cU8 r fun b_113 r=>cU8 r fun b_114 r=>cU8 r fun b_115 r=>cU8 r fun b_116 r=>cU8 r fun b_117 r=>cU8 r fun b_118 r=>cU8 r fun b_119 r=>cU8 r fun b_120 r=>cU8 r fun b_121 r=>cU8 r fun b_122 r=>cInt .u16 r fun n r=>cBs r fun b_123 r=>cInt .i64 r fun n_34 r=>onCons r fun x r=>Uk x fun b_124=>cInt .i64 r fun n_35 r=>cStr r fun b_125 r=>cStr r fun b_126 r=>cStr r fun b_127 r=>cInt .i64 r fun n_36 r=>cStr r fun b_128 r=>cBs r fun b_129 r=>cStr r fun b_130 r=>cStr r fun b_131 r=>cBs r fun b_132 r=>cBool r fun b_133 r=>cStr r fun b_134 r=>cStr r fun b_135 r=>cStr r fun b_136 r=>cInt .i64 r fun n_37 r=>cInt .u64 r fun n_38 r=>cInt .i64 r fun n_39 r=>cInt .i64 r fun n_40 r=>cStr r fun b_137 r=>cStr r fun b_138 r=>cStr r fun b_139 r=>cInt .i64 r fun n_41 r=>cBs r fun b_140 r=>cStr r fun b_141 r=>cStr r fun b_142 r=>cStr r fun b_143 r=>onNil r (some [Zx b,Zx b_112,Zx b_113,Zx b_114,Zx b_115,Zx b_116,Zx b_117,Zx b_118,Zx b_119,Zx b_120,Zx b_121,Zx b_122,Zz .u16 n,Zq b_123,Yn b_124,Zz .u64 n_38,Zz .i64 n_34,Zy [],Zy [],Zy [],Zz .i64 n_41,Zy b_139,Zq b_140,Zy b_141,Zy b_142,Zq []])))))))))) (some [Zx b,Zx b_56,Zx b_57,Zx b_58,Zx b_59,Zx b_60,Zx b_61,Zx b_62,Zx b_63,Zx b_64,Zx b_65,Zx b_66,Zz .u16 n,Zq b_67,Yn b_68,Zz .u64 n_20,Zz .i64 n_21,Zy b_69,Zy b_70,Zy b_71,Zz .i64 n_22,Zy b_72,Zq b_73,Zy b_74,Zy b_75,Zq b_76])) fun l=>cU8 l fun b r=>cU8 r fun b_77 r=>cU8 r fun b_78 r=>cU8 r fun b_79 r=>cU8 r fun b_80 r=>cU8 r fun b_81 r=>cU8 r fun b_82 r=>cU8 r fun b_83 r=>cU8 r fun b_84 r=>cU8 r fun b_85 r=>cU8 r fun b_86 r=>cU8 r fun b_87 r=>cInt .u16 r fun n r=>cBs r fun b_88 r=>onCons r fun x r=>Uk x fun b_89=>cInt .u64 r fun n_23 r=>cInt .i64 r fun n_24 r=>cStr r fun b_90 r=>cStr r fun b_91 r=>cStr r fun b_92 r=>cInt .i64 r fun n_25 r=>cStr r fun b_93 r=>cBs r fun b_94 r=>cStr r fun b_95 r=>cStr r fun b_96 r=>cBs r fun b_97 r=>let t21:List AV:=[Zz .i64 n_24,Zy b_90,Zy b_91,Zy b_92,Zz .i64 n_25,Zy b_93,Zq b_94,Zy b_95,Zy b_96,Zq b_97];onNil r (Zw (sel (Xn (Yf (Yd (↑(Yy b_86):Int) (↑(Yy (16:UInt8)):Int)))==(7:UInt8)) (some (Zx b::Zx b_77::Zx b_78::Zx b_79::Zx b_80::Zx b_81::Zx b_82::Zx b_83::Zx b_84::Zx b_85::Zx b_86::Zx b_87::Zz .u16 n::Zq b_88::Yn b_89::Zz .u64 (Wz 99)::t21)) (some (Zx b::Zx b_77::Zx b_78::Zx b_79::Zx b_80::Zx b_81::Zx b_82::Zx b_83::Zx b_84::Zx b_85::Zx b_86::Zx b_87::Zz .u16 n::Zq b_88::Yn b_89::Zz .u64 n_23::t21))) fun l=>cU8 l fun b r=>cU8 r fun b r=>cU8 r fun b r=>cU8 r fun b r=>cU8 r fun b r=>cU8 r fun b r=>cU8 r fun b r=>cU8 r fun b r=>cU8 r fun b r=>cU8 r fun b r=>cU8 r fun b r=>cU8 r fun b_98 r=>cInt .u16 r fun n r=>cBs r fun b_99 r=>onCons r fun x r=>Uk x fun b_100=>cInt .u64 r fun n_26 r=>cInt .i64 r fun n_27 r=>cStr r fun b_101 r=>cStr r fun b_102 r=>cStr r fun b_103 r=>cInt .i64 r fun n_28 r=>cStr r fun b_104 r=>cBs r fun b_105 r=>cStr r fun b_106 r=>cStr r fun b_107 r=>cBs r fun b_108 r=>onNil r (Zw (chk (decide (0≤n_26)&&decide (n_26<18446744073709551616)) (some (Yz [Zq (Wk (Kerb.makeBox 7 n_26 b_100)),Zz .i64 (Wp (Kerb.makeBox 7 n_26 b_100))],[]))) (kT fun vs=>cBs vs fun b_109 r=>cInt .i64 r fun n_29 r=>onNil r (Zw (chk (l63 b_101&&l63 b_102&&l63 b_103&&l63 b_104&&l63 b_106&&l63 b_107) (some (Yz [Zq (Wk (Uy (Kerb.KaRequest.mk n_27 (Yx b_101 b_102 b_103) n_28 b_104 b_105 b_106 b_107 b_109))),Zz .i64 (Wp (Uy (Kerb.KaRequest.mk n_27 (Yx b_101 b_102 b_103) n_28 b_104 b_105 b_106 b_107 b_109)))],[]))) (kT fun vs=>cBs vs fun b_110 r=>cInt .i64 r fun n_30 r=>onNil r (sel (Xn (Yf (Yd (↑(Yy b):Int) (↑(Yy (16:UInt8)):Int)))==(15:UInt8)) (Zw (chk (decide (Zv b_110≤1000000)&&decide (0≤n)&&decide (n≤65535)) (some (Zq (Kerb.spoil b_110 n),[]))) (kB fun b=>some (Zq b,[]))) (some (Zq b_110,[]))))))))))))))))))):Option (AV×Blocks))) (by kernel_rfl) ?_
  delta kT kA kB kI
  try dsimp only [cStr,cBs,cBool,cU8,cInt,cSl,l63]
  simp only [Yu,decide_eq_true_eq] at hpre
  obtain ⟨hh0,hh1⟩:=hpre
  have bu:=Wv u
  have bs_:=Wv s
  have be:=Wv e
  have bn:=Wv n
  have bt:=Wv t
  have bp:=Wv p
  have bi:=Wv i
  have bl:=Wv l
  have ba:=Wv a
  have bd_:=Wv d
  obtain ⟨m,hm⟩:∃ m,w.toNat % 16=m:=⟨_,rfl⟩
  have q:∀ k:Nat,k<256→(Xn (Yf (Yd (w.toNat:Int) ((16:UInt8).toNat:Int)))==Xn k)=decide (m=k):=fun k hk=>by
   have h7:Yf (Yd (w.toNat:Int) ((16:UInt8).toNat:Int))=w.toNat % 16:=Kerb.tmod_u8 w 16 (by omega)
   rw [h7,hm,Kerb.u8_beq (by omega) hk]
  have q1:(_==(1:UInt8))=_:=q 1 (by omega)
  have q2:(_==(2:UInt8))=_:=q 2 (by omega)
  have q3:(_==(3:UInt8))=_:=q 3 (by omega)
  have q4:(_==(4:UInt8))=_:=q 4 (by omega)
  have q5:(_==(5:UInt8))=_:=q 5 (by omega)
  have q6:(_==(6:UInt8))=_:=q 6 (by omega)
  have q7:(_==(7:UInt8))=_:=q 7 (by omega)
  have q8:(_==(8:UInt8))=_:=q 8 (by omega)
  have q9:(_==(9:UInt8))=_:=q 9 (by omega)
  have q10:(_==(10:UInt8))=_:=q 10 (by omega)
  have q11:(_==(11:UInt8))=_:=q 11 (by omega)
  have q15:(_==(15:UInt8))=_:=q 15 (by omega)
  obtain ⟨U,hU⟩:∃ U,Zg u % 3=U:=⟨_,rfl⟩
  have f0:=Kerb.wrap_u8i
  have f1:Zj .i64 (1000+Zg t)=1000+Zg t:=wrap_i64 (by omega) (by omega)
  have f2:Zj .i64 (30+Yd (Zg n) 3)=30+Zg n % 3:=by rw [Yp bn.1];exact wrap_i64 (by omega) (by omega)
  have f4:Zj .i64 (1000+Zg t+Zj .i64 (Zg p*50))=1000+Zg t+Zg p*50:=by rw [wrap_i64 (n:=Zg p*50) (by omega) (by omega)];exact wrap_i64 (by omega) (by omega)
  have f5:Yd (Zg u) 3=U:=by rw [Yp bu.1];exact hU
  have f6:Zj .i64 (3+Yd (Zg u) 6)=3+Zg u % 6:=by rw [Yp bu.1];exact wrap_i64 (by omega) (by omega)
  have f7:Zj .i64 (3+U)=3+U:=wrap_i64 (by omega) (by omega)
  have f8:Zj .i64 (30+Yd (Zj .i64 (Int.tdiv (Zg d) 4)) 3)=30+Zg d / 4 % 3:=by rw [Int.tdiv_eq_ediv_of_nonneg bd_.1,wrap_i64 (n:=Zg d / 4) (by omega) (by omega),Yp (by omega)];exact wrap_i64 (by omega) (by omega)
  have f9:Yd (Zg a) 2=Zg a % 2:=Yp ba.1
  have f10:Yd (Zg e) 4=Zg e % 4:=Yp be.1
  have f11:Yd (Zg l) 40=Zg l % 40:=Yp bl.1
  have f12:Zj .i64 (1000+Zg i)=1000+Zg i:=wrap_i64 (by omega) (by omega)
  have f13:Yd (Zg s) 3=Zg s % 3:=Yp bs_.1
  have g1:(decide ((0:Int)≤30+Zg n % 3)&&decide (30+Zg n % 3≤1000))=true:=by simp;omega
  have g2:(decide ((0:Int)≤U)&&decide (U≤1000))=true:=by simp;omega
  have g3:(decide ((0:Int)≤30+Zg d / 4 % 3)&&decide (30+Zg d / 4 % 3≤1000))=true:=by simp;omega
  have g4:(decide ((0:Int)≤U)&&decide (U≤4611686018427387904))=true:=by simp;omega
  have g5:(decide ((0:Int)≤3+Zg u % 6)&&decide (3+Zg u % 6≤4611686018427387904))=true:=by simp;omega
  have g6:(decide ((0:Int)≤3+U)&&decide (3+U≤4611686018427387904))=true:=by simp;omega
  have g7:(decide ((0:Int)≤Zg e % 4)&&decide (Zg e % 4≤1000))=true:=by simp;omega
  have g8:(decide ((0:Int)≤Zg s % 3)&&decide (Zg s % 3≤4611686018427387904))=true:=by simp;omega
  have g9:(decide ((0:Int)≤hw)&&decide (hw≤65535))=true:=by simp;omega
  have qd:(Xn (Yf (Yd (d.toNat:Int) ((4:UInt8).toNat:Int)))==(3:UInt8))=decide (d.toNat % 4=3):=by
   have h7:Yf (Yd (d.toNat:Int) ((4:UInt8).toNat:Int))=d.toNat % 4:=Kerb.tmod_u8 d 4 (by omega)
   rw [h7];exact Kerb.u8_beq (k:=3) (by omega) (by decide)
  obtain ⟨K,hK⟩:∃ K,Kerb.KAsk.kop (Yv o u s e n t p i l a w d hw)=K:=⟨_,rfl⟩
  have hKb:1≤K∧K≤3:=by rw [← hK];exact Kerb.KAsk.kop_bd (Yv o u s e n t p i l a w d hw)
  have eo:Zj .i64 (1+Yd (Zg o) 3)=K:=by
   have bo:=Wv o
   rw [Yp bo.1,wrap_i64 (by omega) (by omega)];exact hK
  have k1:=fun l0 l1 l2=>Kerb.KAsk.pick3_chk l0 l1 l2 hKb
  have k2:=fun l0 l1 l2=>Kerb.KAsk.pick3_get l0 l1 l2 hKb
  obtain ⟨LB,hLB⟩:∃ x,Kerb.KAsk.label (Yv o u s e n t p i l a w d hw)=x:=⟨_,rfl⟩
  have eLB:LB=cond (decide (m=1)) (Kerb.KAsk.pick3 [103,84,75,84] [67,80,87,108] [103,84,71,83] (K-1)) (Kerb.KAsk.pick3 [103,84,71,83] [103,84,75,84] [67,80,87,108] (K-1)):=by rw [← hLB,← hK];exact Kerb.KAsk.label_c (Yv o u s e n t p i l a w d hw) hm
  obtain ⟨S,hS⟩:∃ x,Kerb.KAsk.secret (Yv o u s e n t p i l a w d hw)=x:=⟨_,rfl⟩
  have eS:S=cond (LB==[67,80,87,108]) ⟨LB,1000+Zg t,0,0,cond (decide (m=2)) (Vb 5) (Wz (30+Zg n % 3))⟩ ⟨LB,1000+Zg t,1000+Zg t,1000+Zg t+Zg p*50,0⟩:=by rw [← hS,← hLB];exact Kerb.KAsk.secret_c (Yv o u s e n t p i l a w d hw) hm
  have gS:0≤S.new∧S.new<18446744073709551616:=by
   rw [eS]
   cases (LB==[67,80,87,108])<;>cases (decide (m=2))
   ·exact (show (0:Int)≤0∧(0:Int)<18446744073709551616 by decide)
   ·exact (show (0:Int)≤0∧(0:Int)<18446744073709551616 by decide)
   ·exact Kerb.long_bd _
   ·exact Kerb.session_bd2 _
  obtain ⟨BODY,hBODY⟩:∃ x,Kerb.KAsk.body (Yv o u s e n t p i l a w d hw)=x:=⟨_,rfl⟩
  have eBODY:BODY=cond (decide (m=3)) ((Yh S).val++[0]) (Yh S).val:=by rw [← hBODY,← hS];exact Kerb.KAsk.body_c (Yv o u s e n t p i l a w d hw) hm
  have lS:=Kerb.encKaSec_len S
  obtain ⟨K0,hK0⟩:∃ x,Kerb.KAsk.key0 (Yv o u s e n t p i l a w d hw)=x:=⟨_,rfl⟩
  have eK0:K0=cond (decide (d.toNat % 4=3)) (Wz (30+Zg d / 4 % 3)) (Wz U):=by rw [← hK0,← hU];rfl
  obtain ⟨US,hUS⟩:∃ x,cond (decide (m=4)) (Xg (3+Zg u % 6)) (Xg U)=x:=⟨_,rfl⟩
  obtain ⟨SEA,hSEA⟩:∃ x,Kerb.KAsk.sealed (Yv o u s e n t p i l a w d hw)=x:=⟨_,rfl⟩
  obtain ⟨WA,hWA⟩:∃ x,Kerb.KAsk.want (Yv o u s e n t p i l a w d hw)=x:=⟨_,rfl⟩
  have eWA:WA=cond (decide (m=11)) (Kerb.tgs [65,84,72] [66,79,83]) (Kerb.service (Zg s % 3)):=by rw [← hWA];exact Kerb.KAsk.want_c (Yv o u s e n t p i l a w d hw) hm
  obtain ⟨R0,hR0⟩:∃ x,Kerb.KAsk.req0 (Yv o u s e n t p i l a w d hw)=x:=⟨_,rfl⟩
  have eR0:R0=cond (K==2) ⟨2,Vx,cond (decide (m=10)) 5 6,cond (decide (m=9)) [66,79,83] [65,84,72],SEA,WA.name,WA.inst,[]⟩ ⟨K,US,0,[],[],[],[],[]⟩:=by rw [← hR0,← hUS,← hSEA,← hWA,← hK,← hU,← hm];rfl
  obtain ⟨KE,hKE⟩:∃ x,Kerb.KAsk.key (Yv o u s e n t p i l a w d hw)=x:=⟨_,rfl⟩
  obtain ⟨K1,hK1⟩:∃ x,cond (K==2) (Vb (Zg e % 4)) K0=x:=⟨_,rfl⟩
  have eKE:KE=cond (decide (m=7)) (Wz 99) K1:=by rw [← hKE,← hK1,← hK,← hK0];exact Kerb.KAsk.key_c (Yv o u s e n t p i l a w d hw) hm
  simp (config:={maxSteps:=10000000}) only [f0,f1,f2,f4,f5,f6,f7,f8,f9,f10,f11,f12,f13,g1,g2,g3,g4,g5,g6,g7,g8,g9,qd,q1,q2,q3,q4,q5,q6,q7,q8,q9,q10,q11,q15,eo,k1,k2,↓sInt,↓sU8,↓sBool,↓sStr,↓sBs,↓sSl,↓sAgg,↓sTup,↓sCons,↓sNil,↓sNilB,↓sChk,↓sChkBind,↓sSome]
  refine bind_via (fun ls=>ls=[Zx o,Zx u,Zx s,Zx e,Zx n,Zx t,Zx p,Zx i,Zx l,Zx a,Zx w,Zx d,Zz Wh hw,Zq [],Zz Zu K,Zz Zu (1000+Zg t),Zy LB,Zz Zu (1000+Zg t),Zz Zu 0,Zz Zu 0,Zz Xb 0]) ⟨_,?_,rfl⟩ ?_
  ·rw [eLB]
   cases (decide (m=1))<;>rfl
  rintro _ rfl
  simp (config:={maxSteps:=10000000}) only [f0,f1,f2,f4,f5,f6,f7,f8,f9,f10,f11,f12,f13,g1,g2,g3,g4,g5,g6,g7,g8,g9,qd,q1,q2,q3,q4,q5,q6,q7,q8,q9,q10,q11,q15,↓sInt,↓sU8,↓sBool,↓sStr,↓sBs,↓sSl,↓sAgg,↓sTup,↓sCons,↓sNil,↓sNilB,↓sChk,↓sChkBind,↓sSome]
  refine bind_via (fun ls=>ls=[Zx o,Zx u,Zx s,Zx e,Zx n,Zx t,Zx p,Zx i,Zx l,Zx a,Zx w,Zx d,Zz Wh hw,Zq [],Zz Zu K,Zy S.label,Zz Zu S.time,Zz Zu S.start,Zz Zu S.stop,Zz Xb S.new]) ⟨_,?_,rfl⟩ ?_
  ·rw [eS]
   cases (LB==[67,80,87,108])<;>cases (decide (m=2))<;>rfl
  rintro _ rfl
  simp (config:={maxSteps:=10000000}) only [gS,decide_true,Xu,f0,f1,f2,f4,f5,f6,f7,f8,f9,f10,f11,f12,f13,g1,g2,g3,g4,g5,g6,g7,g8,g9,qd,q1,q2,q3,q4,q5,q6,q7,q8,q9,q10,q11,q15,↓sInt,↓sU8,↓sBool,↓sStr,↓sBs,↓sSl,↓sAgg,↓sTup,↓sCons,↓sNil,↓sNilB,↓sChk,↓sChkBind,↓sSome]
  refine bind_via (fun ls=>ls=[Zx o,Zx u,Zx s,Zx e,Zx n,Zx t,Zx p,Zx i,Zx l,Zx a,Zx w,Zx d,Zz Wh hw,Zq [],Zz Zu K,Yn BODY]) ⟨_,?_,rfl⟩ ?_
  ·rw [eBODY]
   cases (decide (m=3))
   ·rfl
   ·show chk (Go.Abs.room ((Yh S).val.length+1) 1) _=_
    rw [chk_of (Kerb.room_ok (by omega))]
    rfl
  rintro _ rfl
  simp (config:={maxSteps:=10000000}) only [f0,f1,f2,f4,f5,f6,f7,f8,f9,f10,f11,f12,f13,g1,g2,g3,g4,g5,g6,g7,g8,g9,qd,q1,q2,q3,q4,q5,q6,q7,q8,q9,q10,q11,q15,↓sInt,↓sU8,↓sBool,↓sStr,↓sBs,↓sSl,↓sAgg,↓sTup,↓sCons,↓sNil,↓sNilB,↓sChk,↓sChkBind,↓sSome]
  refine bind_via (fun ls=>ls=[Zx o,Zx u,Zx s,Zx e,Zx n,Zx t,Zx p,Zx i,Zx l,Zx a,Zx w,Zx d,Zz Wh hw,Zq [],Zz Zu K,Yn BODY,Zz Zu U,Zz Xb K0]) ⟨_,?_,rfl⟩ ?_
  ·rw [eK0]
   cases (decide (d.toNat % 4=3))<;>rfl
  rintro _ rfl
  simp (config:={maxSteps:=10000000}) only [f0,f1,f2,f4,f5,f6,f7,f8,f9,f10,f11,f12,f13,g1,g2,g3,g4,g5,g6,g7,g8,g9,qd,q1,q2,q3,q4,q5,q6,q7,q8,q9,q10,q11,q15,↓sInt,↓sU8,↓sBool,↓sStr,↓sBs,↓sSl,↓sAgg,↓sTup,↓sCons,↓sNil,↓sNilB,↓sChk,↓sChkBind,↓sSome]
  refine bind_via (fun ls=>ls=[Zx o,Zx u,Zx s,Zx e,Zx n,Zx t,Zx p,Zx i,Zx l,Zx a,Zx w,Zx d,Zz Wh hw,Zq [],Zz Zu K,Yn BODY,Zz Zu U,Zz Xb K0,Zz Zu K,Zy US.name,Zy US.inst,Zy US.realm,Zz Zu 0,Zy [],Zq [],Zy [],Zy [],Zq []]) ⟨_,?_,rfl⟩ ?_
  ·rw [← hUS]
   cases (decide (m=4))<;>rfl
  rintro _ rfl
  simp (config:={maxSteps:=10000000}) only [f0,f1,f2,f4,f5,f6,f7,f8,f9,f10,f11,f12,f13,g1,g2,g3,g4,g5,g6,g7,g8,g9,qd,q1,q2,q3,q4,q5,q6,q7,q8,q9,q10,q11,q15,↓sInt,↓sU8,↓sBool,↓sStr,↓sBs,↓sSl,↓sAgg,↓sTup,↓sCons,↓sNil,↓sNilB,↓sChk,↓sChkBind,↓sSome]
  refine bind_via (fun ls=>ls=[Zx o,Zx u,Zx s,Zx e,Zx n,Zx t,Zx p,Zx i,Zx l,Zx a,Zx w,Zx d,Zz Wh hw,Zq [],Yn BODY,Zz Xb K1,Zz Zu R0.op,Zy R0.user.name,Zy R0.user.inst,Zy R0.user.realm,Zz Zu R0.kvno,Zy R0.realm,Zq R0.ticket,Zy R0.service,Zy R0.inst,Zq []]) ⟨_,?_,rfl⟩ ?_
  ·obtain ⟨SKQ,hSK⟩:∃ x,cond (decide (m=8)) (Wz 4) (Wz 3)=x:=⟨_,rfl⟩
   obtain ⟨CL,hCL⟩:∃ x,cond (decide (m=5)) (Xg (3+U)) (Xg U)=x:=⟨_,rfl⟩
   obtain ⟨TI,hTI⟩:∃ x,cond (decide (m=6)) ([66,79,83]:List UInt8) [65,84,72]=x:=⟨_,rfl⟩
   obtain ⟨RL,hRL⟩:∃ x,cond (decide (m=9)) ([66,79,83]:List UInt8) [65,84,72]=x:=⟨_,rfl⟩
   obtain ⟨KV,hKV⟩:∃ x,cond (decide (m=10)) (5:Int) 6=x:=⟨_,rfl⟩
   have eSEA:SEA=(Vk ⟨false,CL,Zg a % 2,Vb (Zg e % 4),Zg l % 40,1000+Zg i,Xw,TI⟩ SKQ).val:=by
    rw [← hSEA,← hSK,← hCL,← hTI,← hU]
    exact (Kerb.KAsk.sealed_c (Yv o u s e n t p i l a w d hw) hm).trans (by rw [Kerb.KAsk.tkt_c (Yv o u s e n t p i l a w d hw) hm];rfl)
   cases hk2:(K==2)
   ·rw [eR0,← hK1,hk2]
    rfl
   have hK2:K=2:=by simpa using hk2
   rw [sel_true]
   refine bind_via (fun ls=>ls=[Zx o,Zx u,Zx s,Zx e,Zx n,Zx t,Zx p,Zx i,Zx l,Zx a,Zx w,Zx d,Zz Wh hw,Zq [],Zz Zu K,Yn BODY,Zz Zu K,Zy US.name,Zy US.inst,Zy US.realm,Zz Zu 0,Zy [],Zq [],Zy [],Zy [],Zq [],Zf false,Zy CL.name,Zy CL.inst,Zy CL.realm,Zz Zu (Zg a % 2),Zz Xb (Vb (Zg e % 4)),Zz Zu (Zg l % 40),Zz Zu (1000+Zg i),Zy Xw,Zy TI,Zz Xb SKQ,Zy RL,Zz Zu KV]) ⟨_,?_,rfl⟩ ?_
   ·rw [← hSK,← hCL,← hTI,← hRL,← hKV]
    by_cases h5:m=5
    ·rw [h5];rfl
    by_cases h6:m=6
    ·rw [h6];rfl
    by_cases h8:m=8
    ·rw [h8];rfl
    by_cases h9:m=9
    ·rw [h9];rfl
    by_cases h10:m=10
    ·rw [h10];rfl
    rw [decide_eq_false h5,decide_eq_false h6,decide_eq_false h8,decide_eq_false h9,decide_eq_false h10]
    rfl
   rintro _ rfl
   have gC:CL.name.length≤9223372036854775807∧CL.inst.length≤9223372036854775807∧CL.realm.length≤9223372036854775807:=by
    rw [← hCL]
    cases (decide (m=5))
    ·exact Kerb.user_dec _
    ·exact Kerb.user_dec _
   have gT:TI.length≤9223372036854775807:=by
    rw [← hTI]
    cases (decide (m=6))<;>decide
   have gK:0≤SKQ∧SKQ<18446744073709551616:=by
    rw [← hSK]
    cases (decide (m=8))<;>exact Kerb.long_bd _
   have gE:=Kerb.session_bd2 (Zg e % 4)
   have gB:Kerb.krbtgt.length≤9223372036854775807:=by decide
   simp (config:={maxSteps:=10000000}) only [gC,gT,gK,gE,gB,decide_true,Xu,f0,f1,f2,f4,f5,f6,f7,f8,f9,f10,f11,f12,f13,g1,g2,g3,g4,g5,g6,g7,g8,g9,qd,q1,q2,q3,q4,q5,q6,q7,q8,q9,q10,q11,q15,↓sInt,↓sU8,↓sBool,↓sStr,↓sBs,↓sSl,↓sAgg,↓sTup,↓sCons,↓sNil,↓sNilB,↓sChk,↓sChkBind,↓sSome]
   refine bind_via (fun ls=>ls=[Zx o,Zx u,Zx s,Zx e,Zx n,Zx t,Zx p,Zx i,Zx l,Zx a,Zx w,Zx d,Zz Wh hw,Zq [],Zz Zu K,Yn BODY,Zz Zu K,Zy US.name,Zy US.inst,Zy US.realm,Zz Zu 0,Zy [],Zq [],Zy [],Zy [],Zq [],Zf false,Zy CL.name,Zy CL.inst,Zy CL.realm,Zz Zu (Zg a % 2),Zz Xb (Vb (Zg e % 4)),Zz Zu (Zg l % 40),Zz Zu (1000+Zg i),Zy Xw,Zy TI,Zy RL,Zz Zu KV,Zq SEA,Zy WA.name,Zy WA.inst,Zy WA.realm]) ⟨_,?_,rfl⟩ ?_
   ·rw [eWA,eSEA]
    cases (decide (m=11))<;>rfl
   rintro _ rfl
   rw [eR0,← hK1,hk2,hRL,hKV,hK2]
   rfl
  rintro _ rfl
  simp (config:={maxSteps:=10000000}) only [f0,f1,f2,f4,f5,f6,f7,f8,f9,f10,f11,f12,f13,g1,g2,g3,g4,g5,g6,g7,g8,g9,qd,q1,q2,q3,q4,q5,q6,q7,q8,q9,q10,q11,q15,↓sInt,↓sU8,↓sBool,↓sStr,↓sBs,↓sSl,↓sAgg,↓sTup,↓sCons,↓sNil,↓sNilB,↓sChk,↓sChkBind,↓sSome]
  refine bind_via (fun ls=>ls=[Zx o,Zx u,Zx s,Zx e,Zx n,Zx t,Zx p,Zx i,Zx l,Zx a,Zx w,Zx d,Zz Wh hw,Zq [],Yn BODY,Zz Xb KE,Zz Zu R0.op,Zy R0.user.name,Zy R0.user.inst,Zy R0.user.realm,Zz Zu R0.kvno,Zy R0.realm,Zq R0.ticket,Zy R0.service,Zy R0.inst,Zq []]) ⟨_,?_,rfl⟩ ?_
  ·rw [eKE]
   cases (decide (m=7))<;>rfl
  rintro _ rfl
  have gK:0≤KE∧KE<18446744073709551616:=by
   rw [eKE,← hK1,eK0]
   cases (decide (m=7))<;>cases (K==2)<;>cases (decide (d.toNat % 4=3))
   all_goals first | exact Kerb.long_bd _ | exact Kerb.session_bd2 _
  have gW:WA.name.length≤9223372036854775807∧WA.inst.length≤9223372036854775807:=by
   rw [eWA]
   cases (decide (m=11))
   ·exact ⟨(Kerb.service_dec _).1,(Kerb.service_dec _).2.1⟩
   ·exact (show (Kerb.tgs [65,84,72] [66,79,83]).name.length≤9223372036854775807∧(Kerb.tgs [65,84,72] [66,79,83]).inst.length≤9223372036854775807 by decide)
  have gU:US.name.length≤9223372036854775807∧US.inst.length≤9223372036854775807∧US.realm.length≤9223372036854775807:=by
   rw [← hUS]
   cases (decide (m=4))<;>exact Kerb.user_dec _
  have gR:(R0.user.name.length≤9223372036854775807∧R0.user.inst.length≤9223372036854775807∧R0.user.realm.length≤9223372036854775807)∧R0.realm.length≤9223372036854775807∧R0.service.length≤9223372036854775807∧R0.inst.length≤9223372036854775807:=by
   rw [eR0]
   cases (K==2)
   ·exact ⟨gU,by simp,by simp,by simp⟩
   ·refine ⟨⟨by simp [Vx],by simp [Vx],by simp [Vx]⟩,?_,gW.1,gW.2⟩
    cases (decide (m=9))<;>simp
  have lQ:(Uy (Kerb.KAsk.req (Yv o u s e n t p i l a w d hw))).val.length≤1000000:=by have:=Kerb.encKaReq_len (Kerb.KAsk.req (Yv o u s e n t p i l a w d hw));omega
  have eQ:Kerb.KAsk.req (Yv o u s e n t p i l a w d hw)={ R0 with box:=(Kerb.makeBox 7 KE BODY).val }:=by rw [← hR0,← hKE,← hBODY];exact Kerb.KAsk.req_c (Yv o u s e n t p i l a w d hw)
  have eM:=Kerb.KAsk.message_c (Yv o u s e n t p i l a w d hw) hm
  rw [eM,eQ]
  rw [eQ] at lQ
  simp (config:={maxSteps:=10000000}) only [gK,gR,lQ,decide_true,Xu,f0,f1,f2,f4,f5,f6,f7,f8,f9,f10,f11,f12,f13,g1,g2,g3,g4,g5,g6,g7,g8,g9,qd,q1,q2,q3,q4,q5,q6,q7,q8,q9,q10,q11,q15,↓sInt,↓sU8,↓sBool,↓sStr,↓sBs,↓sSl,↓sAgg,↓sTup,↓sCons,↓sNil,↓sNilB,↓sChk,↓sChkBind,↓sSome]
  cases (decide (m=15))<;>simp only [lQ,g9,decide_true,Xu,Bool.true_and,cond_true,cond_false,↓A0,A0]
 ·cases h
theorem w56:Walked Tryz.prog G 56 7 sp56:=by
 refine ⟨Tryz.f56,Tryz.func56,by decide +kernel,rfl,fun xs bl r h=> ?_⟩
 unfold sp56 at h
 split at h
 ·rename_i a b c
  obtain ⟨hpre,h2⟩:=chk_inv h;cases h2
  refine Eq.trans (b:=(Zw (chk (decide (Zv a≤9223372036854775807)) (some (Zf (Wj a),[]))) fun (r:AV×Blocks)=>onNilB (Yw r) (Up (Yq r) fun b_1=>sel b_1 (Zw (chk (decide (Zv b≤9223372036854775807)) (some (Zf (Wy b),[]))) fun (r:AV×Blocks)=>onNilB (Yw r) (Up (Yq r) fun b=>sel b (Zw (chk (decide (Zv c≤9223372036854775807)) (some (Zf (Ww c),[]))) fun (r:AV×Blocks)=>onNilB (Yw r) (Up (Yq r) fun b=>some (Zf b,[]))) (some (Zf false,[])))) (some (Zf false,[]))):Option (AV×Blocks))) (by kernel_rfl) ?_
  simp only [Yu,decide_eq_true_eq] at hpre
  simp only [A0]
  rw [chk_of (by simp;omega),chk_of (by simp;omega),chk_of (by simp;omega)]
  simp only [Xv]
  cases Wj a<;>cases Wy b<;>rfl
 ·cases h
theorem w98:Walked Tryz.prog G 98 7 sp98:=by
 refine ⟨Tryz.f98,Tryz.func98,by decide +kernel,rfl,fun xs bl r h=> ?_⟩
 unfold sp98 at h
 split at h
 ·rename_i b k
  obtain ⟨hpre,h2⟩:=chk_inv h;cases h2
  refine Eq.trans (b:=(Zw (chk (decide (Zv b≤140737488355328)) (some (Yz [Zq (Yq (Uv b 1 k)),Zf (Yw (Uv b 1 k))],[]))) (kT fun vs=>cBs vs fun b r=>cBool r fun b_1 r=>onNil r (sel (!b_1) (some (Yz [Xy [Zf false,Zy [],Zy [],Zy [],Zz .i64 0,Zz .u64 0,Zz .i64 0,Zz .i64 0,Zy [],Zy []],Zz .i64 31],[])) (Zw (chk (decide (Zv b≤140737488355328)) (some (Yz [Xy [Zf (Kerb.Ticket.little (Zn (Xz b))),Zy (Yg (Wu (Zn (Xz b)))),Zy (Yb (Wu (Zn (Xz b)))),Zy (Yj (Wu (Zn (Xz b)))),Zz .i64 (Kerb.Ticket.address (Zn (Xz b))),Zz .u64 (Kerb.Ticket.session (Zn (Xz b))),Zz .i64 (Kerb.Ticket.life (Zn (Xz b))),Zz .i64 (Kerb.Ticket.issued (Zn (Xz b))),Zy (Kerb.Ticket.service (Zn (Xz b))),Zy (Kerb.Ticket.inst (Zn (Xz b)))],Zz .i64 (Ud (Xz b))],[]))) (kT fun vs=>onCons vs fun x r=>Xm x fun cs=>cBool cs fun b r_1=>cStr r_1 fun b_2 r_2=>cStr r_2 fun b_3 r_3=>cStr r_3 fun b_4 r_4=>cInt .i64 r_4 fun n r_5=>cInt .u64 r_5 fun n_1 r_6=>cInt .i64 r_6 fun n_2 r_7=>cInt .i64 r_7 fun n_3 r_8=>cStr r_8 fun b_5 r_9=>cStr r_9 fun b_6 r_10=>onNil r_10 (cInt .i64 r fun n_4 r=>onNil r (some (Yz [Xy [Zf b,Zy b_2,Zy b_3,Zy b_4,Zz .i64 n,Zz .u64 n_1,Zz .i64 n_2,Zz .i64 n_3,Zy b_5,Zy b_6],Zz .i64 n_4],[]))))))):Option (AV×Blocks))) (by kernel_rfl) ?_
  delta kT
  try dsimp only [cStr,cBs,cBool,cU8,cInt,cSl,l63]
  have hb:=of_decide_eq_true hpre
  have hl:=Kerb.openBox_len b 1 k
  simp only [hpre,↓A0,A0]
  unfold Xx
  cases h:(Uv b 1 k).2
  ·rfl
  ·rw [sel_neg (by simp),chk_of (by simp;omega)]
   rfl
 ·cases h
theorem w107:Walked Tryz.prog G 107 7 sp107:=by
 refine ⟨Tryz.f107,Tryz.func107,by decide +kernel,rfl,fun xs bl r h=> ?_⟩
 unfold sp107 at h
 split at h
 ·rename_i rl els x y z u v w ad li now lf se sl tg kv
  obtain ⟨hpre,h2⟩:=chk_inv h;cases h2
  refine Eq.trans (b:=(let t0:AV:=Xy [Zz .i64 0,Zy [],Zy [],Zy [],Zy [],Zy [],Zy [],Zy [],Zy [],Zy [],Zz .u64 0,Zz .u64 0,Zz .u64 0,Zq [],Zz .i64 0,Zz .i64 0];let t1:AV:=Xy [Zz .u64 0,Zy [],Zy [],Zy [],Zz .i64 0,Zz .i64 0,Zq [],Zz .i64 0];Zw (chk (l63 x&&l63 y&&l63 z&&l63 u&&l63 v&&decide (0≤se)&&decide (se<18446744073709551616)&&decide (0≤tg)&&decide (tg<18446744073709551616)) (some (Yz [Zq (Wk (Vk (Vq li (Yx x y z) ad se lf now u v) tg)),Zz .i64 (Wp (Vk (Vq li (Yx x y z) ad se lf now u v) tg))],[]))) (kT fun vs=>onCons vs fun x_1 r=>AV.onBs x_1 fun b=>onCons r fun x_2 r=>Ym .i64 x_2 fun n=>onNil r (sel (!n==0) (some (Yz [t0,t1,Zz .i64 n],[])) (Zw (chk (l63 u&&l63 v&&l63 w&&decide (0≤se)&&decide (se<18446744073709551616)) (some (Yz [Zq (Wk (Kerb.encodePart (Kerb.ReplyPart.mk se (Yx u v w) lf kv b now) li)),Zz .i64 (Wp (Kerb.encodePart (Kerb.ReplyPart.mk se (Yx u v w) lf kv b now) li))],[]))) (kT fun vs=>onCons vs fun x_3 r=>AV.onBs x_3 fun b_1=>onCons r fun x_4 r=>Ym .i64 x_4 fun n=>onNil r (sel (!n==0) (some (Yz [t0,t1,Zz .i64 n],[])) (some (Yz [Xy [Zz .i64 0,Zy [(107:UInt8),(114:UInt8),(98:UInt8),(116:UInt8),(103:UInt8),(116:UInt8)],Zy rl,Zy rl,Zy x,Zy y,Zy z,Zy u,Zy v,Zy w,Zz .u64 se,Zz .u64 sl,Zz .u64 0,Zq b,Zz .i64 now,Zz .i64 (Kerb.tEnd now lf)],Xy [Zz .u64 se,Zy u,Zy v,Zy w,Zz .i64 lf,Zz .i64 kv,Zq b,Zz .i64 now],Zz .i64 0],[]))))))):Option (AV×Blocks))) (by kernel_rfl) ?_
  delta kT
  try dsimp only [cStr,cBs,cBool,cU8,cInt,cSl,l63]
  simp only [Yu,decide_eq_true_eq] at hpre
  simp only [Kerb.isU64_iff] at hpre
  obtain ⟨⟨⟨⟨⟨⟨⟨h1,h2⟩,h3⟩,h4⟩,h5⟩,h6⟩,h7,h8⟩,h9,h10⟩:=hpre
  simp only [h1,h2,h3,h4,h5,h6,h7,h8,h9,h10,decide_true,Xu,↓A0,A0]
  unfold Kerb.grant Kerb.grantTkt
  dsimp only
  have hsl:=Kerb.sealTicket_len ⟨li,⟨x,y,z⟩,ad,se,lf,now,u,v⟩ tg
  generalize Vk ⟨li,⟨x,y,z⟩,ad,se,lf,now,u,v⟩ tg=E at hsl
  by_cases he:E.err=0
  case neg=>rw [sel_pos (by simpa using he),if_pos he];rfl
  rw [sel_neg (by simpa using he),if_neg (by simpa using he)]
  generalize Kerb.encodePart ⟨se,⟨u,v,w⟩,lf,kv,E.val,now⟩ li=F
  by_cases hf:F.err=0
  case neg=>rw [sel_pos (by simpa using hf),if_pos hf];rfl
  rw [sel_neg (by simpa using hf),if_neg (by simpa using hf)]
  rfl
 ·cases h
theorem w149:Walked Tryz.prog G 149 7 sp149:=by
 refine ⟨Tryz.f149,Tryz.func149,by decide +kernel,rfl,fun xs bl r h=> ?_⟩
 unfold sp149 at h
 split at h
 ·rename_i bd lb op u1 u2 u3 kv qr tk sv ins bx rl els now ad sk se
  obtain ⟨hpre,h2⟩:=chk_inv h;cases h2
  show runFnH (G.env 149 7) G.rts (G.own 149) Tryz.f149 _ _ [0]=_
  refine Eq.trans (b:=(let t0:List (List AV):=[[Zz .i64 op,Zy u1,Zy u2,Zy u3,Zz .i64 kv,Zy qr,Zq tk,Zy sv,Zy ins,Zq bx,Zy rl,Uw 9 els,Zz .i64 now,Zz .i64 ad,Zz .i64 sk,Zz .u64 se]];let t2:AV:=Xy [Zy [],Zz .i64 0,Zz .i64 0,Zz .i64 0,Zz .u64 0];let t1:Option (AV×Blocks):=some (Yz [t2,Zz .i64 80],t0);Zw (chk (decide (Zv bd≤140737488355328)) (some (Yz [Xy [Zy (Kerb.KaSecret.label (Zn (Zp bd))),Zz .i64 (Kerb.KaSecret.time (Zn (Zp bd))),Zz .i64 (Kerb.KaSecret.start (Zn (Zp bd))),Zz .i64 (Kerb.KaSecret.stop (Zn (Zp bd))),Zz .u64 (Kerb.KaSecret.new (Zn (Zp bd)))],Zz .i64 (Ud (Zp bd))],[]))) (kT fun vs=>onCons vs fun x r=>Xm x fun cs=>cStr cs fun b r_1=>cInt .i64 r_1 fun n r_2=>cInt .i64 r_2 fun n_1 r_3=>cInt .i64 r_3 fun n_2 r_4=>cInt .u64 r_4 fun n_3 r_5=>onNil r_5 (cInt .i64 r fun n_4 r=>onNil r (sel (!n_4==0) t1 (sel (!b==lb) t1 (sel (!Kerb.near n now sk) (some (Yz [t2,Zz .i64 37],t0)) (some (Yz [Xy [Zy b,Zz .i64 n,Zz .i64 n_1,Zz .i64 n_2,Zz .u64 n_3],Zz .i64 0],t0))))))):Option (AV×Blocks))) (by kernel_rfl) ?_
  delta kT
  try dsimp only [cStr,cBs,cBool,cU8,cInt,cSl,l63]
  simp only [Yu,decide_eq_true_eq] at hpre
  have hb:decide (bd.length≤140737488355328)=true:=by simp;omega
  simp only [hb,↓A0,A0]
  unfold Kerb.kaSecretOf
  generalize Zp bd=D
  by_cases h1:D.err=0
  case neg=>rw [sel_pos (by simpa using h1),if_pos (.inl h1)];rfl
  by_cases h2:D.val.label=lb
  case neg=>rw [sel_neg (by simpa using h1),sel_pos (by simpa using h2),if_pos (.inr h2)];rfl
  rw [sel_neg (by simpa using h1),sel_neg (by simp [h2]),if_neg (by simp [h1,h2])]
  cases hn:Kerb.near D.val.time now sk
  ·rfl
  ·rfl
 ·cases h
theorem w150:Walked Tryz.prog G 150 7 sp150:=by
 refine ⟨Tryz.f150,Tryz.func150,by decide +kernel,rfl,fun xs bl r h=> ?_⟩
 unfold sp150 at h
 split at h
 ·rename_i rl els xls n i now
  obtain ⟨hpre,h2⟩:=chk_inv h;cases h2
  refine Eq.trans (b:=(let t0:Option (AV×Blocks):=Zw (chk (Uj els Uu&&decide (Zv els≤1000000)) (some (Yz [Zz .i64 (Yq (Wn (Vh rl (Vy Wg els)) n i now)),Zz .i64 (Yw (Wn (Vh rl (Vy Wg els)) n i now))],[]))) (kT fun vs=>cInt .i64 vs fun n r=>cInt .i64 r fun n_1 r=>onNil r (sel (!n_1==0) (some (Yz [Zz .u64 0,Zz .i64 0,Zz .i64 0,Zz .i64 0,Zz .i64 n_1],[])) (chk (decide (0≤n)&&decide (n<(↑(Zv els):Int))&&true) (Xm (Wm els (Yf n) Ux) fun cs=>cStr cs fun b r=>cStr r fun b r=>cInt .u64 r fun n r=>cInt .i64 r fun n_2 r=>cInt .i64 r fun n_3 r=>cInt .i64 r fun n_4 r=>cInt .i64 r fun n_5 r=>cInt .i64 r fun n_6 r=>cInt .i64 r fun n_7 r=>onNil r (some (Yz [Zz .u64 n,Zz .i64 n_2,Zz .i64 n_4,Zz .i64 n_3,Zz .i64 0],[]))))));sel (n==Xw) (Zw (chk (l63 i) (some (Zf (Ww i),[]))) (kL fun b=>sel b (sel (!i==rl) (Zw (chk (Uj xls Kerb.isCross&&decide (Zv xls≤1000000)) (some (Yz [Zz .i64 (Yq (Vm (Vy Kerb.toCross xls) rl i)),Zf (Yw (Vm (Vy Kerb.toCross xls) rl i))],[]))) (kT fun vs=>cInt .i64 vs fun n r=>cBool r fun b r=>onNil r (sel (!b) (some (Yz [Zz .u64 0,Zz .i64 0,Zz .i64 0,Zz .i64 0,Zz .i64 8],[])) (chk (decide (0≤n)&&decide (n<(↑(Zv xls):Int))&&true) (Xm (Wm xls (Yf n) Ux) fun cs=>cStr cs fun b r=>cStr r fun b r=>cInt .i64 r fun n_1 r=>cInt .u64 r fun n_2 r=>onNil r (chk (decide (0≤n)&&decide (n<(↑(Zv xls):Int))&&true) (Xm (Wm xls (Yf n) Ux) fun cs=>cStr cs fun b r=>cStr r fun b r=>cInt .i64 r fun n r=>cInt .u64 r fun n_3 r=>onNil r (some (Yz [Zz .u64 n_2,Zz .i64 n,Zz .i64 255,Zz .i64 0,Zz .i64 0],[]))))))))) t0) t0)) t0:Option (AV×Blocks))) (by kernel_rfl) ?_
  delta kT kL
  try dsimp only [cStr,cBs,cBool,cU8,cInt,cSl,l63]
  simp only [Yu,decide_eq_true_eq] at hpre
  obtain ⟨⟨⟨⟨hall,hlen⟩,hx⟩,hxl⟩,hi⟩:=hpre
  obtain ⟨es,rfl,hok⟩:=Kerb.ents_of hall
  obtain ⟨cs,rfl⟩:=Kerb.cross_of hx
  rw [Vu,Kerb.map_toCross]
  simp only [hall,hlen,hx,hxl,hi,decide_true,Xu,↓A0,A0]
  simp only [Wx] at hlen hxl ⊢
  unfold Kerb.svc
  dsimp only
  have hkr:(n==[(107:UInt8),(114:UInt8),(98:UInt8),(116:UInt8),(103:UInt8),(116:UInt8)])=(n==Xw):=rfl
  try rw [hkr]
  cases n==Xw
  ·simp only [Zh,Xf,sel_true,sel_false]
   by_cases he:(Wn ⟨rl,es⟩ n i now).2=0
   case neg=>rw [sel_pos (by simpa using he),if_neg (by simp),if_pos he]
   obtain ⟨u1,u2⟩:=Kerb.serv_lt he
   dsimp only at u2
   rw [sel_neg (by simpa using he),if_neg (by simp),if_neg (by simpa using he),chk_of (by simp;omega),Vj u2]
   simp only [Xk,↓A0,A0]
  cases Ww i
  ·simp only [Zh,Xf,sel_true,sel_false]
   by_cases he:(Wn ⟨rl,es⟩ n i now).2=0
   case neg=>rw [sel_pos (by simpa using he),if_neg (by simp),if_pos he]
   obtain ⟨u1,u2⟩:=Kerb.serv_lt he
   dsimp only at u2
   rw [sel_neg (by simpa using he),if_neg (by simp),if_neg (by simpa using he),chk_of (by simp;omega),Vj u2]
   simp only [Xk,↓A0,A0]
  cases i==rl
  ·simp only [Zh,Xf,sel_true,sel_false]
   by_cases he:(Vm cs rl i).2=true
   ·obtain ⟨u1,u2⟩:=Kerb.findCross_lt he
    have hk:(decide (0≤(Vm cs rl i).1)&&decide ((Vm cs rl i).1<(cs.length:Int))&&true)=true:=by simp;omega
    simp only [he,hk,Kerb.getD_cross u2,Kerb.Cross.av,Zh,Xu,Xf,if_true,↓A0,A0]
   ·have he2:(Vm cs rl i).2=false:=by simpa using he
    rw [he2]
    rfl
  ·simp only [Zh,Xf,sel_true,sel_false]
   by_cases he:(Wn ⟨rl,es⟩ n i now).2=0
   case neg=>rw [sel_pos (by simpa using he),if_neg (by simp),if_pos he]
   obtain ⟨u1,u2⟩:=Kerb.serv_lt he
   dsimp only at u2
   rw [sel_neg (by simpa using he),if_neg (by simp),if_neg (by simpa using he),chk_of (by simp;omega),Vj u2]
   simp only [Xk,↓A0,A0]
 ·cases h
theorem w253:Walked Tryz.prog G 253 7 sp253:=by
 refine ⟨Tryz.f253,Tryz.func253,by decide +kernel,rfl,fun xs bl r h=> ?_⟩
 unfold sp253 at h
 split at h
 ·rename_i rl els
  obtain ⟨hpre,h2⟩:=chk_inv h;cases h2
  refine Eq.trans (b:=(Zw (chk (l63 rl) (some (Zf (Ww rl),[]))) (kL fun b=>sel (!b) (some (Zz .i64 103,[])) (sel (decide ((↑(Zv els):Int)>60)) (some (Zz .i64 106,[])) (Zw (loopM (fun (st:List AV)=>cStr st fun b r=>cSl 9 r fun b_1 r=>cInt .i64 r fun n r=>cSl 9 r fun b_2 r=>cInt .i64 r fun n_1 r=>cInt .i64 r fun n_2 r=>let t0:Option (List AV ⊕ Ex×List AV):=some (Sum.inl [Zy b,Uw 9 b_1,Zz .i64 n,Uw 9 b_2,Zz .i64 n_1,Zz .i64 (Zj .i64 (n_2+1))]);let t1:List AV:=[Uw 9 b_2,Zz .i64 n_1,Zz .i64 n_2];onNil r (sel (decide (n_2<n_1)) (chk (decide (0≤n_2)&&decide (n_2<(↑(Zv b_2):Int))&&true) (Xm (Wm b_2 (Yf n_2) Ux) fun cs=>cStr cs fun b_3 r=>cStr r fun b_4 r=>cInt .u64 r fun n r=>cInt .i64 r fun n_3 r=>cInt .i64 r fun n_4 r=>cInt .i64 r fun n_5 r=>cInt .i64 r fun n_6 r=>cInt .i64 r fun n_7 r=>cInt .i64 r fun n_8 r=>onNil r (Zw (chk (l63 b_3&&l63 b_4&&Vp n) (some (Zz .i64 (Kerb.Entry.err (Kerb.Entry.mk b_3 b_4 n n_3 n_4 n_5 n_6 n_7 n_8)),[]))) (kI .i64 fun n=>sel (!n==0) (some (Sum.inr (Ex.ret,Zy b::Uw 9 b_1::Zz .i64 n::t1))) (sel (decide (n_2>0)) (chk (decide (0≤Zj .i64 (n_2-1))&&decide (Zj .i64 (n_2-1)<(↑(Zv b_1):Int))&&true) (Xm (Wm b_1 (Yf (Zj .i64 (n_2-1))) Ux) fun cs=>cStr cs fun b_5 r=>cStr r fun b_6 r=>cInt .u64 r fun n r=>cInt .i64 r fun n r=>cInt .i64 r fun n r=>cInt .i64 r fun n r=>cInt .i64 r fun n r=>cInt .i64 r fun n r=>cInt .i64 r fun n r=>onNil r (sel (decide ((if Kerb.cmpB b_3 b_5=0 then Kerb.cmpB b_4 b_6 else Kerb.cmpB b_3 b_5)<0)) (some (Sum.inr (Ex.ret,Zy b::Uw 9 b_1::Zz .i64 110::t1))) t0))) t0))))) (some (Sum.inr (Ex.exit 0,Zy b::Uw 9 b_1::Zz .i64 n::t1))))) [Zy rl,Uw 9 els,Zz .i64 0,Uw 9 els,Zz .i64 (↑(Zv els):Int),Zz .i64 0]) fun (r:Ex×List AV)=>cStr (Yw r) fun b r_1=>cSl 9 r_1 fun b r_2=>cInt .i64 r_2 fun n r_3=>cSl 9 r_3 fun b r_4=>cInt .i64 r_4 fun n_1 r_5=>cInt .i64 r_5 fun n_2 r_6=>onNil r_6 (exK r.1 (some (Zz .i64 n,[])) fun (j:Nat)=>sel (Nat.beq j 0) (some (Zz .i64 0,[])) none)))):Option (AV×Blocks))) (by kernel_rfl) ?_
  delta kL kI
  try dsimp only [cStr,cBs,cBool,cU8,cInt,cSl,l63]
  simp only [Yu,decide_eq_true_eq] at hpre
  obtain ⟨⟨hr,hall⟩,hlen⟩:=hpre
  obtain ⟨es,rfl,hok⟩:=Kerb.ents_of hall
  rw [Vu]
  simp only [Wx] at hlen
  unfold Kerb.Db.err
  simp only [hr,decide_true,↓A0,A0,Wx]
  cases hv:Ww rl
  ·rfl
  simp only [Zh,Xf,sel_true,sel_false]
  rw [if_neg (by simp)]
  by_cases h60:60<es.length
  ·rw [sel_pos (by simp;omega),if_pos h60]
  rw [sel_neg (by simp;omega),if_neg h60]
  have hex:∃ z,Kerb.entriesErr none es=z:=⟨_,rfl⟩
  obtain ⟨z,hz⟩:=hex
  rw [hz]
  refine loop_rounds (fun i:Nat=>[Zy rl,Uw 9 (es.map Xk),Zz Zu 0,Uw 9 (es.map Xk),Zz Zu (es.length:Int),Zz Zu (i:Int)]) (fun i=>i≤es.length∧Kerb.entriesErr (Kerb.prevOf es i) (es.drop i)=z) (fun i=>es.length-i)
   (fun r=>∃ (e:Int) (i:Nat),r.2=[Zy rl,Uw 9 (es.map Xk),Zz Zu e,Uw 9 (es.map Xk),Zz Zu (es.length:Int),Zz Zu (i:Int)]∧((r.1 = .ret∧e=z)∨(r.1 = .exit 0∧z=0))) 0 ⟨Nat.zero_le _,hz⟩ rfl ?_ ?_
  ·rintro i ⟨hi,hinv⟩
   simp only [↓A0,A0,Wx]
   rcases Nat.lt_or_ge i es.length with h | h
   ·rw [Kerb.errs_step h] at hinv
    have hx:=hok _ (Kerb.ent_mem h)
    rw [sel_pos (by simp;omega),chk_of (by simp;omega),Int.toNat_natCast,Vj h]
    obtain ⟨n,hn⟩:∃ e,es.getD i Kerb.noEntry=e:=⟨_,rfl⟩
    rw [hn] at hinv hx ⊢
    obtain ⟨x1,x2,x3,_⟩:=hx
    simp only [Xk,↓A0,A0,x1,x2,x3,decide_true,Xu]
    by_cases he:n.err=0
    ·rw [sel_neg (by simpa using he)]
     rw [if_neg (by simpa using he)] at hinv
     by_cases h0:0<i
     ·have hp:Kerb.prevOf es i=some (es.getD (i-1) Kerb.noEntry):=by rw [Kerb.prevOf,if_neg (by omega)]
      rw [hp] at hinv
      have hw:Zj .i64 ((i:Int)-1)=((i-1:Nat):Int):=by rw [wrap_i64 (by omega) (by omega)];omega
      rw [sel_pos (by simpa using h0),hw]
      rw [chk_of (by simp;omega),Int.toNat_natCast,Vj (by omega)]
      obtain ⟨m,hm⟩:∃ e,es.getD (i-1) Kerb.noEntry=e:=⟨_,rfl⟩
      rw [hm] at hinv ⊢
      simp only [Xk,↓A0,A0]
      rw [Kerb.cmp_less n m]
      by_cases hl:n.less m=true
      ·rw [sel_pos (by simpa using hl)]
       rw [if_pos hl] at hinv
       exact ⟨_,rfl,110,i,rfl,.inl ⟨rfl,hinv⟩⟩
      ·rw [sel_neg (by simpa using hl),wrap_i64 (by omega) (by omega)]
       rw [if_neg hl] at hinv
       exact ⟨_,rfl,i+1,rfl,⟨by omega,hinv⟩,by dsimp only;omega⟩
     ·have hp:Kerb.prevOf es i=none:=by rw [Kerb.prevOf,if_pos (by omega)]
      rw [hp] at hinv
      rw [sel_neg (by simpa using h0),wrap_i64 (by omega) (by omega)]
      rw [if_neg (by simp)] at hinv
      exact ⟨_,rfl,i+1,rfl,⟨by omega,hinv⟩,by dsimp only;omega⟩
    ·rw [sel_pos (by simpa using he)]
     rw [if_pos (by simpa using he)] at hinv
     exact ⟨_,rfl,n.err,i,rfl,.inl ⟨rfl,hinv⟩⟩
   ·rw [sel_neg (by simp;omega)]
    rw [List.drop_eq_nil_of_le h] at hinv
    exact ⟨_,rfl,0,i,rfl,.inr ⟨rfl,by rw [← hinv];rfl⟩⟩
  ·rintro ⟨e,l⟩ ⟨e2,i,rfl,⟨rfl,rfl⟩ | ⟨rfl,h⟩⟩
   ·rfl
   ·rw [h];rfl
 ·cases h
theorem w45:Walked Tryz.prog G 45 8 sp45:=by
 refine ⟨Tryz.f45,Tryz.func45,by decide +kernel,rfl,fun xs bl r h=> ?_⟩
 unfold sp45 at h
 split at h
 ·rename_i rl els now ad sk se op u1 u2 u3 kv qr tk sv ins bx
  obtain ⟨hpre,h2⟩:=chk_inv h;cases h2
  refine Eq.trans (b:=(let t0:List AV:=[Xy [Zz .i64 0,Zy [],Zy [],Zy [],Zy [],Zy [],Zy [],Zy [],Zy [],Zy [],Zz .u64 0,Zz .u64 0,Zz .u64 0,Zq [],Zz .i64 0,Zz .i64 0],Zf false];let t1:Kerb.Svc:=Kerb.svc (Vh rl (Vy Wg els)) (Vy Kerb.toCross []) sv ins now;let t3:Int×Int:=Wn (Vh rl (Vy Wg els)) [(107:UInt8),(114:UInt8),(98:UInt8),(116:UInt8),(103:UInt8),(116:UInt8)] rl now;let t2:Option (AV×Blocks):=some (Yz (Zq (Yk 2 35)::t0),[]);sel (!qr==rl) t2 (Zw (chk (Uj els Uu&&decide (Zv els≤1000000)) (some (Yz [Zz .i64 (Yq t3),Zz .i64 (Yw t3)],[]))) (kT fun vs=>cInt .i64 vs fun n r=>cInt .i64 r fun n_1 r=>onNil r (sel (!n_1==0) (some (Yz (Zq (Yk 2 n_1)::t0),[])) (chk (decide (0≤n)&&decide (n<(↑(Zv els):Int))&&true) (Xm (Wm els (Yf n) Ux) fun cs=>cStr cs fun b r=>cStr r fun b r=>cInt .u64 r fun n_2 r=>cInt .i64 r fun n_3 r=>cInt .i64 r fun n_4 r=>cInt .i64 r fun n_5 r=>cInt .i64 r fun n_6 r=>cInt .i64 r fun n_7 r=>cInt .i64 r fun n_8 r=>onNil r (sel (!kv==n_3) t2 (chk (decide (0≤n)&&decide (n<(↑(Zv els):Int))&&true) (Xm (Wm els (Yf n) Ux) fun cs=>cStr cs fun b r=>cStr r fun b r=>cInt .u64 r fun n r=>cInt .i64 r fun n_9 r=>cInt .i64 r fun n_10 r=>cInt .i64 r fun n_11 r=>cInt .i64 r fun n_12 r=>cInt .i64 r fun n_13 r=>cInt .i64 r fun n_14 r=>onNil r (Zw (chk (decide (Zv tk≤140737488355328)) (some (Yz [Xy [Zf (Kerb.Ticket.little (Zn (Xx tk n))),Zy (Yg (Wu (Zn (Xx tk n)))),Zy (Yb (Wu (Zn (Xx tk n)))),Zy (Yj (Wu (Zn (Xx tk n)))),Zz .i64 (Kerb.Ticket.address (Zn (Xx tk n))),Zz .u64 (Kerb.Ticket.session (Zn (Xx tk n))),Zz .i64 (Kerb.Ticket.life (Zn (Xx tk n))),Zz .i64 (Kerb.Ticket.issued (Zn (Xx tk n))),Zy (Kerb.Ticket.service (Zn (Xx tk n))),Zy (Kerb.Ticket.inst (Zn (Xx tk n)))],Zz .i64 (Ud (Xx tk n))],[]))) (kT fun vs=>onCons vs fun x r=>Xm x fun cs=>cBool cs fun b r_1=>cStr r_1 fun b r_2=>cStr r_2 fun b_1 r_3=>cStr r_3 fun b_2 r_4=>cInt .i64 r_4 fun n r_5=>cInt .u64 r_5 fun n_15 r_6=>cInt .i64 r_6 fun n_16 r_7=>cInt .i64 r_7 fun n_17 r_8=>cStr r_8 fun b_3 r_9=>cStr r_9 fun b_4 r_10=>onNil r_10 (cInt .i64 r fun n_18 r=>onNil r (sel (!n_18==0) (some (Yz (Zq (Yk 2 31)::t0),[])) (sel (!b_3==[(107:UInt8),(114:UInt8),(98:UInt8),(116:UInt8),(103:UInt8),(116:UInt8)]) t2 (sel (!b_4==rl) t2 (sel (!b_2==rl) (some (Yz (Zq (Yk 2 36)::t0),[])) (sel (!ad==n) (some (Yz (Zq (Yk 2 38)::t0),[])) (sel (!Kerb.stateErr n_17 n_16 now sk==0) (some (Yz (Zq (Yk 2 (Kerb.stateErr n_17 n_16 now sk))::t0),[])) (Zw (chk (decide (Zv bx≤140737488355328)) (some (Yz [Zq (Yq (Uv bx 7 n_15)),Zf (Yw (Uv bx 7 n_15))],[]))) (kT fun vs=>cBs vs fun b_5 r=>cBool r fun b_6 r=>onNil r (sel (!b_6) (some (Yz (Zq (Yk 2 31)::t0),[])) (Zw (chk (decide (Zv b_5≤140737488355328)) (some (Yz [Xy [Zy (Kerb.KaSecret.label (Zn (Zp b_5))),Zz .i64 (Kerb.KaSecret.time (Zn (Zp b_5))),Zz .i64 (Kerb.KaSecret.start (Zn (Zp b_5))),Zz .i64 (Kerb.KaSecret.stop (Zn (Zp b_5))),Zz .u64 (Kerb.KaSecret.new (Zn (Zp b_5)))],Zz .i64 (Ud (Zp b_5))],[]))) (kT fun vs=>onCons vs fun x r=>Xm x fun cs=>cStr cs fun b_7 r_11=>cInt .i64 r_11 fun n_19 r_12=>cInt .i64 r_12 fun n_20 r_13=>cInt .i64 r_13 fun n_21 r_14=>let t4:List AV:=[Zz .i64 n_21,Zz .i64 (Kerb.tEnd n_17 n_16)];cInt .u64 r_14 fun n_22 r_15=>onNil r_15 (cInt .i64 r fun n_23 r=>onNil r (sel (!n_23==0) (some (Yz (Zq (Yk 2 80)::t0),[])) (sel (!b_7==[(103:UInt8),(84:UInt8),(75:UInt8),(84:UInt8)]) (some (Yz (Zq (Yk 2 80)::t0),[])) (sel (!Kerb.near n_19 now sk) (some (Yz (Zq (Yk 2 37)::t0),[])) (Zw (chk (Uj els Uu&&decide (Zv els≤1000000)&&true&&true&&l63 ins) (some (Yz [Zz .u64 (Kerb.Svc.key t1),Zz .i64 (Kerb.Svc.kvno t1),Zz .i64 (Kerb.Svc.life t1),Zz .i64 (Kerb.Svc.expires t1),Zz .i64 (Kerb.Svc.err t1)],[]))) (kT fun vs=>cInt .u64 vs fun n_24 r=>cInt .i64 r fun n_25 r=>cInt .i64 r fun n_26 r=>cInt .i64 r fun n_27 r=>cInt .i64 r fun n_28 r=>onNil r (sel (!n_28==0) (some (Yz (Zq (Yk 2 n_28)::t0),[])) (Zw (chk (decide (Zv t4≤1000000)) (some (Uw 1 (if n_27=0 then t4 else t4++[Zz .i64 n_27]),[]))) fun (r:AV×Blocks)=>onNilB (Yw r) (AV.onSl 1 (Yq r) fun b_8=>Zw (chk (allInts b_8&&decide (Zv b_8≤1000000)&&Uj (intsIn b_8) Kerb.isI64) (some (Yz [Zz .i64 (Yq (Vn now n_26 (intsIn b_8))),Zf (Yw (Vn now n_26 (intsIn b_8)))],[]))) (kT fun vs=>cInt .i64 vs fun n_29 r=>let t7:Kerb.Granted:=Kerb.grant rl (Yx b b_1 b_2) (Yx sv ins rl) n false now n_29 se n_15 n_24 n_25;let t5:Kerb.Issue:=Kerb.Granted.issue t7;let t6:Kerb.ReplyPart:=Kerb.Granted.part t7;cBool r fun b_9 r=>onNil r (sel (!b_9) (some (Yz (Zq (Yk 2 3)::t0),[])) (Zw (chk (decide (0≤se)&&decide (se<18446744073709551616)) (some (Zz .i64 (Uq se),[]))) (kI .i64 fun n=>sel (!n==2) (some (Yz (Zq (Yk 2 10)::t0),[])) (Zw (chk (l63 b&&l63 b_1&&l63 b_2&&l63 sv&&l63 ins&&l63 rl&&Vp se&&Vp n_24) (some (Yz [Xy [Zz .i64 (Kerb.Issue.kind t5),Zy (Yg (Wd t5)),Zy (Yb (Wd t5)),Zy (Yj (Wd t5)),Zy (Yg (Wf t5)),Zy (Yb (Wf t5)),Zy (Yj (Wf t5)),Zy (Yg (Wq t5)),Zy (Yb (Wq t5)),Zy (Yj (Wq t5)),Zz .u64 (Kerb.Issue.session t5),Zz .u64 (Kerb.Issue.sealer t5),Zz .u64 (Kerb.Issue.granter t5),Zq (Kerb.Issue.text t5),Zz .i64 (Kerb.Issue.issued t5),Zz .i64 (Kerb.Issue.stop t5)],Xy [Zz .u64 (Kerb.ReplyPart.session t6),Zy (Yg (Xd t6)),Zy (Yb (Xd t6)),Zy (Yj (Xd t6)),Zz .i64 (Kerb.ReplyPart.life t6),Zz .i64 (Kerb.ReplyPart.kvno t6),Zq (Kerb.ReplyPart.ticket t6),Zz .i64 (Kerb.ReplyPart.time t6)],Zz .i64 (Kerb.Granted.err t7)],[]))) (kT fun vs=>onCons vs fun x r=>Xm x fun cs=>cInt .i64 cs fun n r_16=>cStr r_16 fun b r_17=>cStr r_17 fun b_10 r_18=>cStr r_18 fun b_11 r_19=>cStr r_19 fun b_12 r_20=>cStr r_20 fun b_13 r_21=>cStr r_21 fun b_14 r_22=>cStr r_22 fun b_15 r_23=>cStr r_23 fun b_16 r_24=>cStr r_24 fun b_17 r_25=>cInt .u64 r_25 fun n r_26=>cInt .u64 r_26 fun n_30 r_27=>cInt .u64 r_27 fun n_31 r_28=>cBs r_28 fun b_18 r_29=>cInt .i64 r_29 fun n_32 r_30=>cInt .i64 r_30 fun n_33 r_31=>onNil r_31 (onCons r fun x r=>Xm x fun cs=>cInt .u64 cs fun n_34 r_32=>cStr r_32 fun b_19 r_33=>cStr r_33 fun b_20 r_34=>cStr r_34 fun b_21 r_35=>cInt .i64 r_35 fun n_35 r_36=>cInt .i64 r_36 fun n_36 r_37=>let t8:Kerb.Bytes×Bool:=Kerb.kaReplySeal 2 (Kerb.KaAnswer.mk [(116:UInt8),(107:UInt8),(116:UInt8),(71:UInt8)] (Kerb.kaNext n_19) n n_32 (Kerb.imin n_33 4294967295) n_36 (Yx b_15 b_16 b_17) b_18) n_15;cBs r_37 fun b_22 r_38=>cInt .i64 r_38 fun n_37 r_39=>onNil r_39 (cInt .i64 r fun n_38 r=>onNil r (sel (!n_38==0) (some (Yz (Zq []::t0),[])) (Zw (chk (l63 b_15&&l63 b_16&&l63 b_17&&true&&Vp n&&Vp n_15&&decide (0≤n_19)&&decide (n_19≤4294967295)) (some (Yz [Zq (Yq t8),Zf (Yw t8)],[]))) (kT fun vs=>cBs vs fun b_23 r=>cBool r fun b_24 r=>onNil r (sel (!b_24) (some (Yz (Zq []::t0),[])) (some (Yz [Zq b_23,Xy [Zz .i64 4,Zy b,Zy b_10,Zy b_11,Zy b_12,Zy b_13,Zy b_14,Zy b_15,Zy b_16,Zy b_17,Zz .u64 n,Zz .u64 n_30,Zz .u64 n_15,Zq b_18,Zz .i64 n_32,Zz .i64 n_33],Zf true],[]))))))))))))))))))))))))))))))))))))))))))))):Option (AV×Blocks))) (by kernel_rfl) ?_
  delta kT kI
  try dsimp only [cStr,cBs,cBool,cU8,cInt,cSl,l63]
  simp only [Yu,decide_eq_true_eq] at hpre
  obtain ⟨hpre,hn⟩:=hpre
  obtain ⟨⟨⟨⟨⟨⟨⟨⟨⟨⟨⟨c1,c2⟩,c3⟩,c4⟩,c5⟩,c6⟩,c7⟩,c8⟩,c9⟩,c10⟩,hall⟩,hlen⟩:=hpre
  obtain ⟨es,rfl,hok⟩:=Kerb.ents_of hall
  rw [Vu]
  simp only [Wx] at hlen
  have hkr:[(107:UInt8),(114:UInt8),(98:UInt8),(116:UInt8),(103:UInt8),(116:UInt8)]=Xw:=rfl
  have hlb:[(103:UInt8),(84:UInt8),(75:UInt8),(84:UInt8)]=Kerb.lTicket:=rfl
  have hlb2:[(116:UInt8),(107:UInt8),(116:UInt8),(71:UInt8)]=Kerb.lGiven:=rfl
  have tl:decide (tk.length≤140737488355328)=true:=by simp;omega
  have bl:decide (bx.length≤140737488355328)=true:=by simp;omega
  have q8:=Kerb.isU64_iff.1 c8
  have q88:(decide (0≤se)&&decide (se<18446744073709551616))=true:=by simp;omega
  simp only [hkr,hlb,hlb2,Vu,hall,hn,Wx,hlen,tl,bl,c1,c2,c3,c4,c5,c6,c7,c8,q88,decide_true,Xu,List.map_nil,↓A0,A0]
  unfold Kerb.kaGetTicket Kerb.kaLife2 Kerb.kaGive
  try dsimp only
  obtain ⟨P,hP⟩:∃ P,P=Kerb.kaPresented ⟨rl,es⟩ now ad sk ⟨op,⟨u1,u2,u3⟩,kv,qr,tk,sv,ins,bx⟩:=⟨_,rfl⟩
  rw [← hP]
  unfold Kerb.kaPresented at hP
  dsimp only at hP
  by_cases h1:qr=rl
  case neg =>
   rw [if_pos h1] at hP
   subst hP
   rw [sel_pos (by simpa using h1)]
   try rfl
  rw [if_neg (not_not_intro h1)] at hP
  rw [sel_neg (by simpa using h1)]
  have hs := @Kerb.serv_lt ⟨rl,es⟩ Xw rl now
  generalize Wn ⟨rl,es⟩ Xw rl now=F at hs hP ⊢
  obtain ⟨j,e⟩:=F
  dsimp only at hs hP ⊢
  by_cases h2:e=0
  case neg =>
   rw [if_pos h2] at hP
   subst hP
   rw [sel_pos (by simpa using h2)]
   dsimp only
   rw [if_pos h2]
   rfl
  rw [if_neg (not_not_intro h2)] at hP
  rw [sel_neg (by simpa using h2)]
  obtain ⟨g1,g2⟩:=hs h2
  have j0:decide (0≤j)=true:=decide_eq_true g1
  have j1:decide (j<(es.length:Int))=true:=decide_eq_true (by omega)
  rw [chk_of (by rw [j0,j1];rfl),Vj g2]
  unfold Kerb.entAt at hP
  dsimp only at hP
  generalize es.getD j.toNat Kerb.noEntry=w at hP ⊢
  simp only [Xk,tl,j0,j1,Xu,↓A0,A0]
  by_cases h3:kv=w.kvno
  case neg =>
   rw [if_pos h3] at hP
   subst hP
   rw [sel_pos (by simpa using h3)]
   try rfl
  rw [if_neg (not_not_intro h3)] at hP
  rw [sel_neg (by simpa using h3)]
  have tb:=Kerb.openTicket_bd tk w.key
  generalize Xx tk w.key=T at tb hP ⊢
  by_cases h4:T.err=0
  case neg =>
   rw [if_pos h4] at hP
   subst hP
   rw [sel_pos (by simpa using h4)]
   try rfl
  rw [if_neg (not_not_intro h4)] at hP
  rw [sel_neg (by simpa using h4)]
  by_cases h5:T.val.service=Xw
  case neg =>
   rw [if_pos (.inl h5)] at hP
   subst hP
   rw [sel_pos (by simpa using h5)]
   try rfl
  by_cases h6:T.val.inst=rl
  case neg =>
   rw [if_pos (.inr h6)] at hP
   subst hP
   rw [sel_neg (by simp [h5]),sel_pos (by simpa using h6)]
   try rfl
  rw [if_neg (by simp [h5,h6])] at hP
  rw [sel_neg (by simp [h5]),sel_neg (by simp [h6])]
  by_cases h7:T.val.client.realm=rl
  case neg =>
   rw [if_pos h7] at hP
   subst hP
   rw [sel_pos (by simpa using h7)]
   try rfl
  rw [if_neg (not_not_intro h7)] at hP
  rw [sel_neg (by simpa using h7)]
  by_cases h8:T.val.address=ad
  case neg =>
   rw [if_pos h8] at hP
   subst hP
   rw [sel_pos (by simpa using fun h:ad=T.val.address=>h8 h.symm)]
   try rfl
  rw [if_neg (not_not_intro h8)] at hP
  rw [sel_neg (by simp [h8])]
  generalize Kerb.stateErr T.val.issued T.val.life now sk=Z at hP ⊢
  by_cases h9:Z=0
  case neg =>
   rw [if_pos h9] at hP
   subst hP
   rw [sel_pos (by simpa using h9)]
   dsimp only
   rw [if_pos h9]
   rfl
  rw [if_neg (not_not_intro h9)] at hP
  rw [sel_neg (by simpa using h9)]
  subst hP
  dsimp only
  have ol:=Kerb.openBox_len bx 7 T.val.session
  generalize Uv bx 7 T.val.session=O at ol ⊢
  obtain ⟨bd,ok⟩:=O
  dsimp only at ol ⊢
  cases ok
  ·rw [sel_pos (by rfl),if_neg (show ¬ ((0:Int)≠0) from by decide),if_pos rfl];try rfl
  rw [sel_neg (by rfl),if_neg (show ¬ ((0:Int)≠0) from by decide),if_neg (show ¬ (true=false) from by decide)]
  rw [chk_of (by simp;omega)]
  have sb:=Kerb.kaSec_bd bd
  by_cases h1:(Zp bd).err=0
  case neg=>rw [sel_pos (by simpa using h1),Kerb.kaSecOf_1 h1];rfl
  by_cases h2:(Zp bd).val.label=Kerb.lTicket
  case neg=>rw [sel_neg (by simpa using h1),sel_pos (by simpa using h2),Kerb.kaSecOf_2 h2];rfl
  rw [sel_neg (by simpa using h1),sel_neg (by simpa using h2)]
  cases h3:Kerb.near (Zp bd).val.time now sk
  ·rw [Kerb.kaSecOf_3 h1 h2 h3];rfl
  rw [sel_neg (by rfl),Kerb.kaSecOf_4 h1 h2 h3]
  generalize Zp bd=D at sb
  dsimp only
  have vb:=Kerb.svc_ok (d:=⟨rl,es⟩) (n:=sv) (i:=ins) (now:=now) hok
  generalize Kerb.svc ⟨rl,es⟩ [] sv ins now=V at vb ⊢
  by_cases h4:V.err=0
  case neg=>rw [sel_pos (by simpa using h4),if_neg (show ¬ ((0:Int)≠0) from by decide),if_pos h4];try rfl
  rw [sel_neg (by simpa using h4),if_neg (show ¬ ((0:Int)≠0) from by decide),if_neg (not_not_intro h4)]
  obtain ⟨n1,n2,n3⟩:=Kerb.ends_nest2 D.val.stop (Kerb.tEnd T.val.issued T.val.life) V.expires
  have s1:Kerb.isI64 D.val.stop=true:=by rw [Kerb.isI64_iff];unfold Kerb.KaSecret.bd at sb;omega
  have n4:=Kerb.ends_i64 (l:=[D.val.stop,Kerb.tEnd T.val.issued T.val.life]) (by simp [s1,Kerb.tEnd_i64]) vb.2.2.2
  rw [chk_of (by simp),n1,chk_of (by rw [n2,n4,decide_eq_true n3];rfl)]
  generalize Vn now V.life _=L
  obtain ⟨life,ok⟩:=L
  dsimp only
  cases ok
  ·rw [sel_pos (by rfl),if_pos rfl];try rfl
  rw [sel_neg (by rfl),if_neg (show ¬ (true=false) from by decide)]
  by_cases h5:Uq se=2
  case neg=>rw [sel_pos (by simpa using h5),if_pos h5];try rfl
  rw [sel_neg (by simpa using h5),if_neg (not_not_intro h5)]
  have k1:decide (T.val.client.name.length≤9223372036854775807)=true:=decide_eq_true (Xj tb.1 (by decide))
  have k2:decide (T.val.client.inst.length≤9223372036854775807)=true:=decide_eq_true (Xj tb.2.1 (by decide))
  have k3:decide (T.val.client.realm.length≤9223372036854775807)=true:=decide_eq_true (Xj tb.2.2.1 (by decide))
  rw [chk_of (by rw [vb.1,k1,k2,k3];rfl),show Yx T.val.client.name T.val.client.inst T.val.client.realm=T.val.client from rfl]
  have gi := @Kerb.grant_is rl T.val.client ⟨sv,ins,rl⟩ T.val.address false now life se T.val.session V.key V.kvno
  generalize Kerb.grant rl T.val.client ⟨sv,ins,rl⟩ T.val.address false now life se T.val.session V.key V.kvno=G at gi ⊢
  by_cases hg:G.err=0
  case neg=>rw [sel_pos (by simpa using hg),if_pos hg];try rfl
  rw [sel_neg (by simpa using hg),if_neg (not_not_intro hg)]
  obtain ⟨X,rfl⟩:=gi hg
  dsimp only
  rw [chk_of (by simp [sb.1.1,sb.1.2,tb.2.2.2,c8,c7,c6,c5,Kerb.lGiven])]
  generalize Kerb.kaReplySeal 2 _ T.val.session=B
  obtain ⟨ans,ok⟩:=B
  dsimp only
  cases ok
  ·rw [sel_pos (by rfl),if_pos rfl];try rfl
  ·rfl
 ·cases h
theorem w50:Walked Tryz.prog G 50 8 sp50:=by
 refine ⟨Tryz.f50,Tryz.func50,by decide +kernel,rfl,fun xs bl r h=> ?_⟩
 unfold sp50 at h
 split at h
 ·rename_i rl els i now ad sk se x y z bd
  obtain ⟨hpre,h2⟩:=chk_inv h;cases h2
  refine Eq.trans (b:=(let t0:Kerb.Prin:=Yx [(107:UInt8),(114:UInt8),(98:UInt8),(116:UInt8),(103:UInt8),(116:UInt8)] rl rl;let t1:List AV:=[Xy [Zz .i64 0,Zy [],Zy [],Zy [],Zy [],Zy [],Zy [],Zy [],Zy [],Zy [],Zz .u64 0,Zz .u64 0,Zz .u64 0,Zq [],Zz .i64 0,Zz .i64 0],Zf false];let t2:Kerb.Svc:=Kerb.svc (Vh rl (Vy Wg els)) (Vy Kerb.toCross []) [(107:UInt8),(114:UInt8),(98:UInt8),(116:UInt8),(103:UInt8),(116:UInt8)] rl now;let t3:AV:=Xy [Zy rl,Uw 9 els];Zw (chk (decide (Zv bd≤140737488355328)) (some (Yz [Xy [Zy (Kerb.KaSecret.label (Zn (Zp bd))),Zz .i64 (Kerb.KaSecret.time (Zn (Zp bd))),Zz .i64 (Kerb.KaSecret.start (Zn (Zp bd))),Zz .i64 (Kerb.KaSecret.stop (Zn (Zp bd))),Zz .u64 (Kerb.KaSecret.new (Zn (Zp bd)))],Zz .i64 (Ud (Zp bd))],[]))) (kT fun vs=>onCons vs fun x_1 r=>Xm x_1 fun cs=>onCons cs fun x_2 r_1=>AV.onStr x_2 fun b=>onCons r_1 fun x_3 r_2=>Ym .i64 x_3 fun n=>onCons r_2 fun x_4 r_3=>Ym .i64 x_4 fun n_1=>onCons r_3 fun x_5 r_4=>Ym .i64 x_5 fun n_2=>onCons r_4 fun x_6 r_5=>Ym .u64 x_6 fun n_3=>onNil r_5 (onCons r fun x_7 r=>Ym .i64 x_7 fun n_4=>onNil r (sel (!n_4==0) (some (Yz (t3::Zq (Yk 1 80)::t1),[])) (sel (!b==[(103:UInt8),(84:UInt8),(71:UInt8),(83:UInt8)]) (some (Yz (t3::Zq (Yk 1 80)::t1),[])) (sel (!Kerb.near n now sk) (some (Yz (t3::Zq (Yk 1 37)::t1),[])) (Zw (chk (Uj els Uu&&decide (Zv els≤1000000)&&true&&true&&l63 rl) (some (Yz [Zz .u64 (Kerb.Svc.key t2),Zz .i64 (Kerb.Svc.kvno t2),Zz .i64 (Kerb.Svc.life t2),Zz .i64 (Kerb.Svc.expires t2),Zz .i64 (Kerb.Svc.err t2)],[]))) (kT fun vs=>onCons vs fun x_8 r=>Ym .u64 x_8 fun n_5=>onCons r fun x_9 r=>Ym .i64 x_9 fun n_6=>onCons r fun x_10 r=>Ym .i64 x_10 fun n_7=>onCons r fun x_11 r=>Ym .i64 x_11 fun n_8=>onCons r fun x_12 r=>Ym .i64 x_12 fun n_9=>onNil r (sel (!n_9==0) (some (Yz (t3::Zq (Yk 1 n_9)::t1),[])) (chk (decide (0≤i)&&decide (i<(↑(Zv els):Int))&&true) (Xm (Wm els (Yf i) Ux) fun cs=>onCons cs fun x_13 r=>AV.onStr x_13 fun b=>onCons r fun x_14 r=>AV.onStr x_14 fun b=>onCons r fun x_15 r=>Ym .u64 x_15 fun n_10=>onCons r fun x_16 r=>Ym .i64 x_16 fun n_11=>onCons r fun x_17 r=>Ym .i64 x_17 fun n_12=>onCons r fun x_18 r=>Ym .i64 x_18 fun n_13=>onCons r fun x_19 r=>Ym .i64 x_19 fun n_14=>onCons r fun x_20 r=>Ym .i64 x_20 fun n_15=>onCons r fun x_21 r=>Ym .i64 x_21 fun n_16=>onNil r (Zw (chk (decide (Zv [Zz .i64 n_2]≤1000000)) (some (Uw 1 (if n_12=0 then [Zz .i64 n_2] else [Zz .i64 n_2]++[Zz .i64 n_12]),[]))) fun (r:AV×Blocks)=>onNilB (Yw r) (AV.onSl 1 (Yq r) fun b=>Zw (chk (decide (Zv b≤1000000)) (some (Uw 1 (if n_8=0 then b else b++[Zz .i64 n_8]),[]))) fun (r:AV×Blocks)=>onNilB (Yw r) (AV.onSl 1 (Yq r) fun b=>Zw (chk (allInts b&&decide (Zv b≤1000000)&&Uj (intsIn b) Kerb.isI64) (some (Yz [Zz .i64 (Yq (Vn now (Kerb.imin n_13 n_7) (intsIn b))),Zf (Yw (Vn now (Kerb.imin n_13 n_7) (intsIn b)))],[]))) (kT fun vs=>onCons vs fun x_22 r=>Ym .i64 x_22 fun n_17=>let t6:Kerb.Granted:=Kerb.grant rl (Yx x y z) t0 ad false now n_17 se n_10 n_5 n_6;let t4:Kerb.Issue:=Kerb.Granted.issue t6;let t5:Kerb.ReplyPart:=Kerb.Granted.part t6;onCons r fun x_23 r=>Up x_23 fun b=>onNil r (sel (!b) (some (Yz (t3::Zq (Yk 1 3)::t1),[])) (Zw (chk (decide (0≤se)&&decide (se<18446744073709551616)) (some (Zz .i64 (Uq se),[]))) (kI .i64 fun n_18=>sel (!n_18==2) (some (Yz (t3::Zq (Yk 1 10)::t1),[])) (Zw (chk (l63 x&&l63 y&&l63 z&&true&&l63 rl&&l63 rl&&Vp se&&Vp n_5) (some (Yz [Xy [Zz .i64 (Kerb.Issue.kind t4),Zy (Yg (Wd t4)),Zy (Yb (Wd t4)),Zy (Yj (Wd t4)),Zy (Yg (Wf t4)),Zy (Yb (Wf t4)),Zy (Yj (Wf t4)),Zy (Yg (Wq t4)),Zy (Yb (Wq t4)),Zy (Yj (Wq t4)),Zz .u64 (Kerb.Issue.session t4),Zz .u64 (Kerb.Issue.sealer t4),Zz .u64 (Kerb.Issue.granter t4),Zq (Kerb.Issue.text t4),Zz .i64 (Kerb.Issue.issued t4),Zz .i64 (Kerb.Issue.stop t4)],Xy [Zz .u64 (Kerb.ReplyPart.session t5),Zy (Yg (Xd t5)),Zy (Yb (Xd t5)),Zy (Yj (Xd t5)),Zz .i64 (Kerb.ReplyPart.life t5),Zz .i64 (Kerb.ReplyPart.kvno t5),Zq (Kerb.ReplyPart.ticket t5),Zz .i64 (Kerb.ReplyPart.time t5)],Zz .i64 (Kerb.Granted.err t6)],[]))) (kT fun vs=>onCons vs fun x r=>Xm x fun cs=>cInt .i64 cs fun n_19 r_6=>cStr r_6 fun b r_7=>cStr r_7 fun b_1 r_8=>cStr r_8 fun b_2 r_9=>cStr r_9 fun b_3 r_10=>cStr r_10 fun b_4 r_11=>cStr r_11 fun b_5 r_12=>cStr r_12 fun b_6 r_13=>cStr r_13 fun b_7 r_14=>cStr r_14 fun b_8 r_15=>cInt .u64 r_15 fun n_20 r_16=>cInt .u64 r_16 fun n_21 r_17=>cInt .u64 r_17 fun n_22 r_18=>cBs r_18 fun b_9 r_19=>cInt .i64 r_19 fun n_23 r_20=>cInt .i64 r_20 fun n_24 r_21=>onNil r_21 (onCons r fun x r=>Xm x fun cs=>cInt .u64 cs fun n_25 r_22=>cStr r_22 fun b_10 r_23=>cStr r_23 fun b_11 r_24=>cStr r_24 fun b_12 r_25=>cInt .i64 r_25 fun n_26 r_26=>cInt .i64 r_26 fun n_27 r_27=>let t7:Kerb.Bytes×Bool:=Kerb.kaReplySeal 1 (Kerb.KaAnswer.mk [(116:UInt8),(103:UInt8),(115:UInt8),(84:UInt8)] (Kerb.kaNext n) n_20 n_23 (Kerb.imin n_24 4294967295) n_27 (Yx b_6 b_7 b_8) b_9) n_10;cBs r_27 fun b_13 r_28=>cInt .i64 r_28 fun n_28 r_29=>onNil r_29 (cInt .i64 r fun n_29 r=>onNil r (sel (!n_29==0) (some (Yz (t3::Zq []::t1),[])) (Zw (chk (l63 b_6&&l63 b_7&&l63 b_8&&true&&Vp n_20&&Vp n_10&&decide (0≤n)&&decide (n≤4294967295)) (some (Yz [Zq (Yq t7),Zf (Yw t7)],[]))) (kT fun vs=>cBs vs fun b_14 r=>cBool r fun b_15 r=>onNil r (sel (!b_15) (some (Yz (t3::Zq []::t1),[])) (Zw (chk (Uj els Uu&&decide (Zv els≤1000000)&&decide (0≤i)&&decide (i<(↑(Zv els):Int))) (some (Xy [Zy (Kerb.Db.realm (Kerb.kaClear (Vh rl (Vy Wg els)) i)),Uw 9 (Vy Xk (Kerb.Db.entries (Kerb.kaClear (Vh rl (Vy Wg els)) i)))],[]))) (kA fun cs=>cStr cs fun b_16 r=>cSl 9 r fun b_17 r=>onNil r (some (Yz [Xy [Zy b_16,Uw 9 b_17],Zq b_14,Xy [Zz .i64 3,Zy b,Zy b_1,Zy b_2,Zy b_3,Zy b_4,Zy b_5,Zy b_6,Zy b_7,Zy b_8,Zz .u64 n_20,Zz .u64 n_21,Zz .u64 n_22,Zq b_9,Zz .i64 n_23,Zz .i64 n_24],Zf true],[]))))))))))))))))))))))))))))):Option (AV×Blocks))) (by kernel_rfl) ?_
  delta kT kA kI
  try dsimp only [cStr,cBs,cBool,cU8,cInt,cSl,l63]
  simp only [Yu,decide_eq_true_eq] at hpre
  obtain ⟨⟨⟨⟨⟨⟨⟨⟨⟨⟨c7,hall⟩,hlen⟩,p1⟩,p2⟩,p3⟩,hbl⟩,h0⟩,h1⟩,hn⟩,c8⟩:=hpre
  obtain ⟨es,rfl,hok⟩:=Kerb.ents_of hall
  rw [Vu] at *
  simp only [Wx] at hlen h1
  have i0:decide (0≤i)=true:=by simp;omega
  have i1:decide (i<(es.length:Int))=true:=by simp;omega
  have hkr:[(107:UInt8),(114:UInt8),(98:UInt8),(116:UInt8),(103:UInt8),(116:UInt8)]=Xw:=rfl
  have hlb:[(103:UInt8),(84:UInt8),(71:UInt8),(83:UInt8)]=Kerb.lGet:=rfl
  have hlb2:[(116:UInt8),(103:UInt8),(115:UInt8),(84:UInt8)]=Kerb.lGot:=rfl
  have q8:=Kerb.isU64_iff.1 c8
  have q88:(decide (0≤se)&&decide (se<18446744073709551616))=true:=by simp;omega
  have bl:decide (bd.length≤140737488355328)=true:=by simp;omega
  simp only [hkr,hlb,hlb2,Vu,hall,Wx,hlen,bl,c7,c8,p1,p2,p3,q88,i0,i1,decide_true,Xu,List.map_nil,↓A0,A0]
  unfold Kerb.kaAuthenticate Kerb.kaLife1 Kerb.kaGive
  dsimp only
  have sb:=Kerb.kaSec_bd bd
  by_cases h1:(Zp bd).err=0
  case neg=>rw [sel_pos (by simpa using h1),Kerb.kaSecOf_1 h1];rfl
  by_cases h2:(Zp bd).val.label=Kerb.lGet
  case neg=>rw [sel_neg (by simpa using h1),sel_pos (by simpa using h2),Kerb.kaSecOf_2 h2];rfl
  rw [sel_neg (by simpa using h1),sel_neg (by simpa using h2)]
  cases h3:Kerb.near (Zp bd).val.time now sk
  ·rw [Kerb.kaSecOf_3 h1 h2 h3];rfl
  rw [sel_neg (by rfl),Kerb.kaSecOf_4 h1 h2 h3]
  generalize Zp bd=D at sb
  dsimp only
  have vb:=Kerb.svc_ok (d:=⟨rl,es⟩) (n:=Xw) (i:=rl) (now:=now) hok
  generalize Kerb.svc ⟨rl,es⟩ [] Xw rl now=V at vb ⊢
  by_cases h4:V.err=0
  case neg=>rw [sel_pos (by simpa using h4),if_neg (show ¬ ((0:Int)≠0) from by decide),if_pos h4];rfl
  rw [sel_neg (by simpa using h4),if_neg (show ¬ ((0:Int)≠0) from by decide),if_neg (not_not_intro h4),Vj (by omega)]
  have ho:=hok _ (Kerb.ent_mem (es:=es) (i:=i.toNat) (by omega))
  unfold Kerb.entAt
  dsimp only
  generalize es.getD i.toNat Kerb.noEntry=w at ho ⊢
  obtain ⟨n1,n2,n3⟩:=Kerb.ends_nest D.val.stop w.expires V.expires
  have s1:Kerb.isI64 D.val.stop=true:=by rw [Kerb.isI64_iff];unfold Kerb.KaSecret.bd at sb;omega
  have n4:=Kerb.ends_i64 (Kerb.ends_i64 (l:=[D.val.stop]) (by simp [s1]) ho.2.2.2.2.1) vb.2.2.2
  simp only [Xk,↓A0,A0]
  rw [chk_of (by simp),chk_of (by split<;>rfl),n1,chk_of (by rw [n2,n4,decide_eq_true n3];rfl)]
  generalize Vn now (Kerb.imin w.maxLife V.life) _=L
  obtain ⟨life,ok⟩:=L
  dsimp only
  cases ok
  ·rw [sel_pos (by rfl),if_pos rfl];try rfl
  rw [sel_neg (by rfl),if_neg (show ¬ (true=false) from by decide)]
  by_cases h5:Uq se=2
  case neg=>rw [sel_pos (by simpa using h5),if_pos h5];try rfl
  rw [sel_neg (by simpa using h5),if_neg (not_not_intro h5)]
  rw [chk_of (by rw [vb.1];rfl),show Kerb.tgs rl rl=⟨Xw,rl,rl⟩ from rfl]
  have gi := @Kerb.grant_is rl ⟨x,y,z⟩ ⟨Xw,rl,rl⟩ ad false now life se w.key V.key V.kvno
  generalize Kerb.grant rl ⟨x,y,z⟩ ⟨Xw,rl,rl⟩ ad false now life se w.key V.key V.kvno=G at gi ⊢
  by_cases hg:G.err=0
  case neg=>rw [sel_pos (by simpa using hg),if_pos hg];try rfl
  rw [sel_neg (by simpa using hg),if_neg (not_not_intro hg)]
  obtain ⟨X,rfl⟩:=gi hg
  dsimp only
  rw [chk_of (by simp [sb.1.1,sb.1.2,ho.2.2.1,c8,c7,Xw])]
  generalize Kerb.kaReplySeal 1 _ w.key=B
  obtain ⟨ans,ok⟩:=B
  dsimp only
  cases ok
  ·rw [sel_pos (by rfl),if_pos rfl];try rfl
  ·rfl
 ·cases h
theorem w184:Walked Tryz.prog G 184 8 sp184:=by
 refine ⟨Tryz.f184,Tryz.func184,by decide +kernel,rfl,fun xs bl r h=> ?_⟩
 unfold sp184 at h
 split at h
 ·rename_i op ux uy uz kv rl tk sv ins bx
  obtain ⟨hpre,h2⟩:=chk_inv h;cases h2
  refine Eq.trans (b:=(sel (!Kerb.kaOp op) (some (Zz .i64 40,[])) (sel (!op==2) (Zw (chk (l63 ux&&l63 uy&&l63 uz) (some (Zf (Xv (Yx ux uy uz)),[]))) (kL fun b=>sel (!b) (some (Zz .i64 103,[])) (sel (decide ((↑(Zv bx):Int)>1012)) (some (Zz .i64 105,[])) (sel (!kv==0) (some (Zz .i64 108,[])) (sel (!rl==[]) (some (Zz .i64 108,[])) (sel (decide ((↑(Zv tk):Int)>0)) (some (Zz .i64 108,[])) (sel (!sv==[]) (some (Zz .i64 108,[])) (sel (!ins==[]) (some (Zz .i64 108,[])) (some (Zz .i64 0,[])))))))))) (Zw (chk (l63 rl) (some (Zf (Ww rl),[]))) (kL fun b=>sel (!b) (some (Zz .i64 103,[])) (Zw (chk (l63 sv) (some (Zf (Wj sv),[]))) (kL fun b=>sel (!b) (some (Zz .i64 103,[])) (Zw (chk (l63 ins) (some (Zf (Wy ins),[]))) (kL fun b=>sel (!b) (some (Zz .i64 103,[])) (sel (!Zb kv 255) (some (Zz .i64 104,[])) (sel (decide ((↑(Zv tk):Int)>255)) (some (Zz .i64 105,[])) (sel (decide ((↑(Zv bx):Int)>1012)) (some (Zz .i64 105,[])) (sel (!(ux==[]&&(uy==[]&&uz==[]))) (some (Zz .i64 108,[])) (some (Zz .i64 0,[]))))))))))))):Option (AV×Blocks))) (by kernel_rfl) ?_
  delta kL
  try dsimp only [cStr,cBs,cBool,cU8,cInt,cSl,l63]
  simp only [Yu,decide_eq_true_eq] at hpre
  simp only [A0]
  rw [chk_of (by simp;omega),chk_of (by simp;omega),chk_of (by simp;omega),chk_of (by simp;omega)]
  unfold Uy
  simp only
  cases h0:Kerb.kaOp op
  ·rfl
  rw [Zh,sel_false,if_neg (by simp)]
  cases h1:(op==2)
  ·rw [Xf,sel_true,if_neg (by simp)]
   cases h2:Xv ⟨ux,uy,uz⟩
   ·rfl
   rw [Zh,sel_false,if_neg (by simp)]
   by_cases h3:1012<bx.length
   ·rw [sel_pos (by simp;omega),if_pos h3]
   rw [sel_neg (by simp;omega),if_neg h3]
   by_cases h4:kv=0
   case neg=>rw [sel_pos (by simpa using h4),if_pos (.inl h4)]
   rw [sel_neg (by simp [h4])]
   by_cases h5:rl=[]
   case neg=>rw [sel_pos (by simpa using h5),if_pos (.inr (.inl h5))]
   rw [sel_neg (by simp [h5])]
   by_cases h6:tk=[]
   case neg=>rw [sel_pos (by have:=List.length_pos_iff.2 h6;simp;omega),if_pos (.inr (.inr (.inl h6)))]
   rw [sel_neg (by simp [h6])]
   by_cases h7:sv=[]
   case neg=>rw [sel_pos (by simpa using h7),if_pos (.inr (.inr (.inr (.inl h7))))]
   rw [sel_neg (by simp [h7])]
   by_cases h8:ins=[]
   case neg=>rw [sel_pos (by simpa using h8),if_pos (.inr (.inr (.inr (.inr h8))))]
   rw [sel_neg (by simp [h8]),if_neg (by simp [h4,h5,h6,h7,h8])]
  ·rw [Zh,sel_false,if_pos rfl]
   cases h2:Ww rl
   ·rfl
   rw [Zh,sel_false]
   cases h3:Wj sv
   ·rfl
   rw [Zh,sel_false]
   cases h4:Wy ins
   ·rfl
   rw [Zh,sel_false,if_neg (by simp)]
   cases h5:Zb kv 255
   ·rfl
   rw [Zh,sel_false,if_neg (by simp)]
   by_cases h6:255<tk.length
   ·rw [sel_pos (by simp;omega),if_pos (.inl h6)]
   rw [sel_neg (by simp;omega)]
   by_cases h7:1012<bx.length
   ·rw [sel_pos (by simp;omega),if_pos (.inr h7)]
   rw [sel_neg (by simp;omega),if_neg (by omega)]
   show sel (!(Kerb.Prin.isNo ⟨ux,uy,uz⟩)) _ _=_
   cases Kerb.Prin.isNo ⟨ux,uy,uz⟩<;>rfl
 ·cases h
theorem w215:Walked Tryz.prog G 215 8 sp215:=by
 refine ⟨Tryz.f215,Tryz.func215,by decide +kernel,rfl,fun xs bl r h=> ?_⟩
 unfold sp215 at h
 split at h
 ·rename_i b pos
  obtain ⟨hpre,h2⟩:=chk_inv h;cases h2
  refine Eq.trans (b:=(Zw (loopM (fun (st:List AV)=>cBs st fun b r=>cInt .i64 r fun n r=>let t0:Option (AV×Blocks):=chk (decide (Zv b≤4611686018427387904)) (some (Yz [Zy (Kerb.GotB.val (Xh b n)),Zz .i64 (Kerb.GotB.next (Xh b n)),Zz .i64 (Vw (Xh b n))],[]));cStr r fun b_1 r=>cStr r fun b_2 r=>cStr r fun b_3 r=>cInt .i64 r fun n_1 r=>cInt .i64 r fun n_2 r=>cStr r fun b_4 r=>cStr r fun b_5 r=>cStr r fun b_6 r=>cInt .i64 r fun n_3 r=>cInt .i64 r fun n_4 r=>let t1:List AV:=[Zy b_6,Zz .i64 n_3,Zz .i64 (Zj .i64 (n_4+1))];onNil r (sel (decide (n_4<n_3)) (chk (decide (0≤n_4)&&decide (n_4<(↑(Zv [0,1,2]):Int))&&true) (sel (Nat.beq (Yf n_4) 0) (Zw t0 (kT fun vs=>cStr vs fun b_7 r=>cInt .i64 r fun n r=>cInt .i64 r fun n_5 r=>onNil r (sel (!n_5==0) (some (Sum.inr (Ex.ret,[Zq b,Zz .i64 n,Zy [],Zy [],Zy [],Zz .i64 0,Zz .i64 n_5,Zy b_7,Zy b_5,Zy b_6,Zz .i64 n_3,Zz .i64 n_4]))) (some (Sum.inl (Zq b::Zz .i64 n::Zy b_1::Zy b_2::Zy b_3::Zz .i64 n_1::Zz .i64 n_2::Zy b_7::Zy b_5::t1)))))) (sel (Nat.beq (Yf n_4-1) 0) (Zw t0 (kT fun vs=>cStr vs fun b_7 r=>cInt .i64 r fun n r=>cInt .i64 r fun n_5 r=>onNil r (sel (!n_5==0) (some (Sum.inr (Ex.ret,[Zq b,Zz .i64 n,Zy [],Zy [],Zy [],Zz .i64 0,Zz .i64 n_5,Zy b_4,Zy b_7,Zy b_6,Zz .i64 n_3,Zz .i64 n_4]))) (some (Sum.inl (Zq b::Zz .i64 n::Zy b_1::Zy b_2::Zy b_3::Zz .i64 n_1::Zz .i64 n_2::Zy b_4::Zy b_7::t1)))))) (sel (Nat.beq (Yf n_4-1-1) 0) (Zw t0 (kT fun vs=>cStr vs fun b_7 r=>cInt .i64 r fun n r=>cInt .i64 r fun n_5 r=>onNil r (sel (!n_5==0) (some (Sum.inr (Ex.ret,[Zq b,Zz .i64 n,Zy [],Zy [],Zy [],Zz .i64 0,Zz .i64 n_5,Zy b_4,Zy b_5,Zy b_7,Zz .i64 n_3,Zz .i64 n_4]))) (some (Sum.inl [Zq b,Zz .i64 n,Zy b_1,Zy b_2,Zy b_3,Zz .i64 n_1,Zz .i64 n_2,Zy b_4,Zy b_5,Zy b_7,Zz .i64 n_3,Zz .i64 (Zj .i64 (n_4+1))]))))) none)))) (some (Sum.inr (Ex.exit 0,[Zq b,Zz .i64 n,Zy b_1,Zy b_2,Zy b_3,Zz .i64 n_1,Zz .i64 n_2,Zy b_4,Zy b_5,Zy b_6,Zz .i64 n_3,Zz .i64 n_4]))))) [Zq b,Zz .i64 pos,Zy [],Zy [],Zy [],Zz .i64 0,Zz .i64 0,Zy [],Zy [],Zy [],Zz .i64 (↑(Zv [0+0,0+1,0+2]):Int),Zz .i64 0]) fun (r:Ex×List AV)=>cBs (Yw r) fun b r_1=>cInt .i64 r_1 fun n r_2=>cStr r_2 fun b r_3=>cStr r_3 fun b_1 r_4=>cStr r_4 fun b_2 r_5=>cInt .i64 r_5 fun n_1 r_6=>cInt .i64 r_6 fun n_2 r_7=>cStr r_7 fun b_3 r_8=>cStr r_8 fun b_4 r_9=>cStr r_9 fun b_5 r_10=>cInt .i64 r_10 fun n_3 r_11=>cInt .i64 r_11 fun n_4 r_12=>onNil r_12 (exK r.1 (some (Yz [Xy [Zy b,Zy b_1,Zy b_2],Zz .i64 n_1,Zz .i64 n_2],[])) fun (j:Nat)=>sel (Nat.beq j 0) (Zw (chk (l63 b_3&&l63 b_4&&l63 b_5) (some (Zf (Xv (Yx b_3 b_4 b_5)),[]))) (kL fun b=>sel (!b) (some (Yz [Xy [Zy [],Zy [],Zy []],Zz .i64 0,Zz .i64 103],[])) (some (Yz [Xy [Zy b_3,Zy b_4,Zy b_5],Zz .i64 n,Zz .i64 0],[])))) none):Option (AV×Blocks))) (by kernel_rfl) ?_
  delta kT kL
  try dsimp only [cStr,cBs,cBool,cU8,cInt,cSl,l63]
  have hb:=of_decide_eq_true hpre
  obtain ⟨T0,hT0⟩:∃ T,T=Xh b pos:=⟨_,rfl⟩
  obtain ⟨T1,hT1⟩:∃ T,T=Xh b T0.next:=⟨_,rfl⟩
  obtain ⟨T2,hT2⟩:∃ T,T=Xh b T1.next:=⟨_,rfl⟩
  have hp:Kerb.prin b pos=if T0.err≠0 then ⟨Vx,0,T0.err⟩ else if T1.err≠0 then ⟨Vx,0,T1.err⟩ else if T2.err≠0 then ⟨Vx,0,T2.err⟩
    else if Xv ⟨T0.val,T1.val,T2.val⟩ then ⟨⟨T0.val,T1.val,T2.val⟩,T2.next,0⟩ else ⟨Vx,0,103⟩:=by
   rw [hT2,hT1,hT0];rfl
  have k0:=Kerb.text_len b pos
  rw [← hT0] at k0
  have k1:=Kerb.text_len b T0.next
  rw [← hT1] at k1
  have k2:=Kerb.text_len b T1.next
  rw [← hT2] at k2
  refine loop_rounds (fun i:Nat=>match i with
    | 0=>[Zq b,Zz Zu pos,Zy [],Zy [],Zy [],Zz Zu 0,Zz Zu 0,Zy [],Zy [],Zy [],Zz Zu 3,Zz Zu 0]
    | 1=>[Zq b,Zz Zu T0.next,Zy [],Zy [],Zy [],Zz Zu 0,Zz Zu 0,Zy T0.val,Zy [],Zy [],Zz Zu 3,Zz Zu 1]
    | 2=>[Zq b,Zz Zu T1.next,Zy [],Zy [],Zy [],Zz Zu 0,Zz Zu 0,Zy T0.val,Zy T1.val,Zy [],Zz Zu 3,Zz Zu 2]
    | _=>[Zq b,Zz Zu T2.next,Zy [],Zy [],Zy [],Zz Zu 0,Zz Zu 0,Zy T0.val,Zy T1.val,Zy T2.val,Zz Zu 3,Zz Zu 3])
   (fun i=>i≤3∧(1≤i→T0.err=0)∧(2≤i→T1.err=0)∧(3≤i→T2.err=0)) (fun i=>3-i)
   (fun r=>(T0.err=0∧T1.err=0∧T2.err=0∧r=(Ex.exit 0,[Zq b,Zz Zu T2.next,Zy [],Zy [],Zy [],Zz Zu 0,Zz Zu 0,Zy T0.val,Zy T1.val,Zy T2.val,Zz Zu 3,Zz Zu 3])) ∨
    ∃ n x y z i,Kerb.prin b pos=⟨Vx,0,(Kerb.prin b pos).err⟩∧r=(Ex.ret,[Zq b,Zz Zu n,Zy [],Zy [],Zy [],Zz Zu 0,Zz Zu (Kerb.prin b pos).err,Zy x,Zy y,Zy z,Zz Zu 3,Zz Zu i])) 0 ⟨by omega,by omega,by omega,by omega⟩ rfl ?_ ?_
  ·rintro i ⟨hi,g0,g1,g2⟩
   have hc:i=0∨i=1∨i=2∨i=3:=by omega
   rcases hc with rfl | rfl | rfl | rfl
   ·simp only [A0]
    rw [sel_pos (by decide),chk_of (by decide),sel_pos (by decide),chk_of hpre,← hT0]
    by_cases h:T0.err=0
    ·rw [sel_neg (by simp [h])]
     exact ⟨_,rfl,1,rfl,⟨by omega,fun _=>h,by omega,by omega⟩,by dsimp only;omega⟩
    ·rw [sel_pos (by simpa using h)]
     exact ⟨_,rfl,.inr ⟨_,_,_,_,_,by rw [hp,if_pos h],by rw [hp,if_pos h]⟩⟩
   ·simp only [A0]
    have e0:=g0 (by omega)
    rw [sel_pos (by decide),chk_of (by decide),sel_neg (by decide),sel_pos (by decide),chk_of hpre,← hT1]
    by_cases h:T1.err=0
    ·rw [sel_neg (by simp [h])]
     exact ⟨_,rfl,2,rfl,⟨by omega,fun _=>e0,fun _=>h,by omega⟩,by dsimp only;omega⟩
    ·rw [sel_pos (by simpa using h)]
     exact ⟨_,rfl,.inr ⟨_,_,_,_,_,by rw [hp,if_neg (by simp [e0]),if_pos h],by rw [hp,if_neg (by simp [e0]),if_pos h]⟩⟩
   ·simp only [A0]
    have e0:=g0 (by omega)
    have e1:=g1 (by omega)
    rw [sel_pos (by decide),chk_of (by decide),sel_neg (by decide),sel_neg (by decide),sel_pos (by decide),chk_of hpre,← hT2]
    by_cases h:T2.err=0
    ·rw [sel_neg (by simp [h])]
     exact ⟨_,rfl,3,rfl,⟨by omega,fun _=>e0,fun _=>e1,fun _=>h⟩,by dsimp only;omega⟩
    ·rw [sel_pos (by simpa using h)]
     exact ⟨_,rfl,.inr ⟨_,_,_,_,_,by rw [hp,if_neg (by simp [e0]),if_neg (by simp [e1]),if_pos h],by rw [hp,if_neg (by simp [e0]),if_neg (by simp [e1]),if_pos h]⟩⟩
   ·simp only [A0]
    rw [sel_neg (by decide)]
    exact ⟨_,rfl,.inl ⟨g0 (by omega),g1 (by omega),g2 (by omega),rfl⟩⟩
  ·rintro r (⟨e0,e1,e2,rfl⟩ | ⟨n,x,y,z,i,h,rfl⟩)
   ·simp only [A0]
    rw [sel_pos (Nat.beq_refl _),chk_of (by simp;omega),hp,if_neg (by simp [e0]),if_neg (by simp [e1]),if_neg (by simp [e2])]
    cases hv:Xv ⟨T0.val,T1.val,T2.val⟩
    ·rfl
    ·rfl
   ·simp only [A0]
    rw [h]
    rfl
 ·cases h
theorem w228:Walked Tryz.prog G 228 8 sp228:=by
 refine ⟨Tryz.f228,Tryz.func228,by decide +kernel,rfl,fun xs bl r h=> ?_⟩
 unfold sp228 at h
 split at h
 ·rename_i rl els i
  obtain ⟨hpre,h2⟩:=chk_inv h;cases h2
  refine Eq.trans (b:=(Zw (chk (decide (Zv rl≤9223372036854775807)&&Uj els Uu&&decide (Zv els≤1000000)) (some (Zz .i64 (Kerb.Db.err (Vh rl (Vy Wg els))),[]))) fun (r:AV×Blocks)=>onNilB (Yw r) (Ym .i64 (Yq r) fun n=>sel (!n==0) (some (Zz .i64 n,[])) (sel (decide (i<0)) (some (Zz .i64 104,[])) (sel (decide (i≥(↑(Zv els):Int))) (some (Zz .i64 104,[])) (some (Zz .i64 0,[]))))):Option (AV×Blocks))) (by kernel_rfl) ?_
  simp only [Yu,decide_eq_true_eq] at hpre
  obtain ⟨⟨hr,hall⟩,hlen⟩:=hpre
  simp only [hr,hall,hlen,decide_true,Xu,↓A0,A0]
  generalize Kerb.Db.err ⟨rl,els.map Wg⟩=z
  by_cases h:z=0
  case neg=>rw [sel_pos (by simpa using h),if_pos h]
  rw [sel_neg (by simpa using h),if_neg (by simpa using h)]
  by_cases h1:i<0
  ·rw [sel_pos (by simpa using h1),if_pos (.inl h1)]
  rw [sel_neg (by simpa using h1)]
  by_cases h2:(els.length:Int)≤i
  ·rw [sel_pos (by simpa using h2),if_pos (.inr h2)]
  ·rw [sel_neg (by simpa using h2),if_neg (by omega)]
 ·cases h
theorem w245:Walked Tryz.prog G 245 8 sp245:=by
 refine ⟨Tryz.f245,Tryz.func245,by decide +kernel,rfl,fun xs bl r h=> ?_⟩
 unfold sp245 at h
 split at h
 ·rename_i lb t k st en kv x y z tk
  obtain ⟨hpre,h2⟩:=chk_inv h;cases h2
  refine Eq.trans (b:=(let t0:Option (AV×Blocks):=sel (!Zb t 4294967295) (some (Zz .i64 104,[])) (sel (!Kerb.ticketed lb) (sel (!k==0) (some (Zz .i64 108,[])) (sel (!st==0) (some (Zz .i64 108,[])) (sel (!en==0) (some (Zz .i64 108,[])) (sel (!kv==0) (some (Zz .i64 108,[])) (sel (!(x==[]&&(y==[]&&z==[]))) (some (Zz .i64 108,[])) (sel (decide ((↑(Zv tk):Int)>0)) (some (Zz .i64 108,[])) (some (Zz .i64 0,[])))))))) (Zw (chk (decide (0≤k)&&decide (k<18446744073709551616)) (some (Zf (Uz k),[]))) (kL fun b=>sel (!b) (some (Zz .i64 10,[])) (sel (!Zb st 4294967295) (some (Zz .i64 104,[])) (sel (!Zb en 4294967295) (some (Zz .i64 104,[])) (sel (!Zb kv 255) (some (Zz .i64 104,[])) (Zw (chk (l63 x&&l63 y&&l63 z) (some (Zf (Xv (Yx x y z)),[]))) (kL fun b=>sel (!b) (some (Zz .i64 103,[])) (sel (decide ((↑(Zv tk):Int)>255)) (some (Zz .i64 105,[])) (some (Zz .i64 0,[])))))))))));sel (!Kerb.ticketed lb) (sel (!lb==[(67:UInt8),(80:UInt8),(87:UInt8),(100:UInt8)]) (some (Zz .i64 80,[])) t0) t0:Option (AV×Blocks))) (by kernel_rfl) ?_
  delta kL
  try dsimp only [cStr,cBs,cBool,cU8,cInt,cSl,l63]
  have eGet:([103,84,71,83]:List UInt8)=Kerb.lGet:=rfl
  have eTick:([103,84,75,84]:List UInt8)=Kerb.lTicket:=rfl
  have eChg:([67,80,87,108]:List UInt8)=Kerb.lChange:=rfl
  have eDone:([67,80,87,100]:List UInt8)=Kerb.lDone:=rfl
  have eGot:([116,103,115,84]:List UInt8)=Kerb.lGot:=rfl
  have eGiven:([116,107,116,71]:List UInt8)=Kerb.lGiven:=rfl
  have hpre':=hpre
  simp only [Yu,decide_eq_true_eq] at hpre
  have hk:(decide (0≤k)&&decide (k<18446744073709551616))=true:=by simp;omega
  have hv:(decide (x.length≤9223372036854775807)&&decide (y.length≤9223372036854775807)&&decide (z.length≤9223372036854775807))=true:=by simp;omega
  simp only [A0,eDone,hk,hv]
  unfold Kerb.encodeKaAnswer
  simp only
  cases ht:Kerb.ticketed lb
  ·rw [Xf,sel_true]
   cases hc:(lb==Kerb.lDone)
   ·rfl
   rw [Zh,sel_false,if_neg (by simp)]
   cases h1:Zb t 4294967295
   ·rfl
   rw [Zh,sel_false,if_neg (by simp),sel_true,if_neg (by simp)]
   by_cases h2:k=0
   case neg=>rw [sel_pos (by simpa using h2),if_pos (.inl h2)]
   rw [sel_neg (by simp [h2])]
   by_cases h3:st=0
   case neg=>rw [sel_pos (by simpa using h3),if_pos (.inr (.inl h3))]
   rw [sel_neg (by simp [h3])]
   by_cases h4:en=0
   case neg=>rw [sel_pos (by simpa using h4),if_pos (.inr (.inr (.inl h4)))]
   rw [sel_neg (by simp [h4])]
   by_cases h5:kv=0
   case neg=>rw [sel_pos (by simpa using h5),if_pos (.inr (.inr (.inr (.inl h5))))]
   rw [sel_neg (by simp [h5])]
   show sel (!(Kerb.Prin.isNo ⟨x,y,z⟩)) _ _=_
   cases h6:Kerb.Prin.isNo ⟨x,y,z⟩
   ·rw [if_pos (.inr (.inr (.inr (.inr (.inl rfl)))))];rfl
   rw [Zh,sel_false]
   by_cases h7:tk=[]
   case neg=>rw [sel_pos (by have:=List.length_pos_iff.2 h7;simp;omega),if_pos (.inr (.inr (.inr (.inr (.inr h7)))))]
   rw [sel_neg (by simp [h7]),if_neg (by simp [h2,h3,h4,h5,h7])]
  ·rw [Zh,sel_false,if_neg (by simp)]
   cases h1:Zb t 4294967295
   ·rfl
   rw [Zh,sel_false,if_neg (by simp),sel_false,if_pos rfl]
   cases h2:Uz k
   ·rfl
   rw [Zh,sel_false,if_neg (by simp)]
   cases h3:Zb st 4294967295
   ·rfl
   rw [Zh,sel_false]
   cases h4:Zb en 4294967295
   ·rfl
   rw [Zh,sel_false]
   cases h5:Zb kv 255
   ·rfl
   rw [Zh,sel_false,if_neg (by simp)]
   cases h6:Xv ⟨x,y,z⟩
   ·rfl
   rw [Zh,sel_false,if_neg (by simp)]
   by_cases h7:255<tk.length
   ·rw [sel_pos (by simp;omega),if_pos h7]
   ·rw [sel_neg (by simp;omega),if_neg h7]
 ·cases h
theorem w251:Walked Tryz.prog G 251 8 sp251:=by
 refine ⟨Tryz.f251,Tryz.func251,by decide +kernel,rfl,fun xs bl r h=> ?_⟩
 unfold sp251 at h
 split at h
 ·rename_i k x y z lf kv tk t little
  obtain ⟨hpre,h2⟩:=chk_inv h;cases h2
  refine Eq.trans (b:=(let t0:Option (AV×Blocks):=some (Yz [Zq [],Zz .i64 104],[]);let t1:List UInt8:=[]++Vf 0 1 false;let t2:List UInt8:=[]++Vf 1 1 false;let t3:Option (AV×Blocks):=chk (decide (0≤k)&&decide (k<18446744073709551616)) (some (Zq (Kerb.keyBytes k),[]));Zw (chk (decide (0≤k)&&decide (k<18446744073709551616)) (some (Zf (Uz k),[]))) (kL fun b=>sel (!b) (some (Yz [Zq [],Zz .i64 10],[])) (Zw (chk (l63 x&&l63 y&&l63 z) (some (Zf (Xv (Yx x y z)),[]))) (kL fun b=>sel (!b) (some (Yz [Zq [],Zz .i64 103],[])) (sel (!Zb lf 255) t0 (sel (!Zb kv 255) t0 (sel (!Zb t 4294967295) t0 (sel (decide ((↑(Zv tk):Int)>255)) (some (Yz [Zq [],Zz .i64 105],[])) (sel little (Zw t3 (kB fun b=>Zw (chk (decide (Zv (Xq t2 (Xq b []))≤140737488355328)&&decide (Zv [Zq t2,Zq b]≤1000)) (some (Yn (Xq t2 (Xq b [])),[]))) (kO fun l=>Zw (chk (decide (Zv l+Zv x+Zv y+Zv z≤70368744170000)) (some (Zq (Kerb.putPrin l (Yx x y z)),[]))) (kB fun b=>Zw (chk (decide (Zv b≤70368744177664)) (some (Yn (b++Vf lf 1 false),[]))) (kO fun l=>Zw (chk (decide (Zv l≤70368744177664)) (some (Yn (l++Vf kv 1 false),[]))) (kO fun l=>Zw (chk (decide (Zv l≤70368744177664)) (some (Yn (l++Vf (↑(Zv tk):Int) 1 false),[]))) (kO fun l=>Zw (chk (decide (Zv (Xq l (Xq tk []))≤140737488355328)&&decide (Zv [Zq l,Zq tk]≤1000)) (some (Yn (Xq l (Xq tk [])),[]))) (kO fun l=>Zw (chk (decide (Zv l≤70368744177664)) (some (Yn (l++Vf t 4 little),[]))) (kO fun l=>Zw (chk (decide (Zv l≤70368744177664)) (some (Zq (Kerb.pad l),[]))) (kB fun b=>some (Yz [Zq b,Zz .i64 0],[]))))))))))) (Zw t3 (kB fun b=>Zw (chk (decide (Zv (Xq t1 (Xq b []))≤140737488355328)&&decide (Zv [Zq t1,Zq b]≤1000)) (some (Yn (Xq t1 (Xq b [])),[]))) (kO fun l=>Zw (chk (decide (Zv l+Zv x+Zv y+Zv z≤70368744170000)) (some (Zq (Kerb.putPrin l (Yx x y z)),[]))) (kB fun b=>Zw (chk (decide (Zv b≤70368744177664)) (some (Yn (b++Vf lf 1 false),[]))) (kO fun l=>Zw (chk (decide (Zv l≤70368744177664)) (some (Yn (l++Vf kv 1 false),[]))) (kO fun l=>Zw (chk (decide (Zv l≤70368744177664)) (some (Yn (l++Vf (↑(Zv tk):Int) 1 false),[]))) (kO fun l=>Zw (chk (decide (Zv (Xq l (Xq tk []))≤140737488355328)&&decide (Zv [Zq l,Zq tk]≤1000)) (some (Yn (Xq l (Xq tk [])),[]))) (kO fun l=>Zw (chk (decide (Zv l≤70368744177664)) (some (Yn (l++Vf t 4 little),[]))) (kO fun l=>Zw (chk (decide (Zv l≤70368744177664)) (some (Zq (Kerb.pad l),[]))) (kB fun b=>some (Yz [Zq b,Zz .i64 0],[]))))))))))))))))))):Option (AV×Blocks))) (by kernel_rfl) ?_
  delta kB kO kL
  try dsimp only [cStr,cBs,cBool,cU8,cInt,cSl,l63]
  simp only [Yu,decide_eq_true_eq] at hpre
  obtain ⟨⟨⟨⟨q1,q2⟩,q3⟩,h0⟩,h1⟩:=hpre
  simp only [A0]
  unfold Kerb.encodePart
  rw [chk_of (by simp [h0,h1])]
  cases hk:Uz k
  ·rfl
  rw [Zh,sel_false,chk_of (by simp [q1,q2,q3])]
  cases h1:Xv ⟨x,y,z⟩
  ·rfl
  rw [Zh,sel_false]
  cases h4:Zb lf 255
  ·rfl
  rw [Zh,sel_false]
  cases h5:Zb kv 255
  ·rfl
  rw [Zh,sel_false]
  cases h6:Zb t 4294967295
  ·rfl
  rw [Zh,sel_false]
  by_cases h7:255<tk.length
  ·rw [sel_pos (by simp;omega),if_neg (by simp),if_neg (by simp),if_neg (by simp),if_pos h7]
  have l1:=Kerb.valid_len h1
  simp only at l1
  rw [sel_neg (by simp;omega),if_neg (by simp),if_neg (by simp),if_neg (by simp),if_neg h7]
  cases little
  ·rw [sel_false,chk_of (by simp;omega),chk_of (by first | (simp [Zd,Zm,Zk];done) | (simp [Zd,Zm,Zk];omega)),chk_of (by first | (simp [Zd,Zm,Zk];done) | (simp [Zd,Zm,Zk];omega)),chk_of (by first | (simp [Zd,Zm,Zk];done) | (simp [Zd,Zm,Zk];omega)),chk_of (by first | (simp [Zd,Zm,Zk];done) | (simp [Zd,Zm,Zk];omega)),chk_of (by first | (simp [Zd,Zm,Zk];done) | (simp [Zd,Zm,Zk];omega)),chk_of (by first | (simp [Zd,Zm,Zk];done) | (simp [Zd,Zm,Zk];omega)),chk_of (by first | (simp [Zd,Zm,Zk];done) | (simp [Zd,Zm,Zk];omega)),chk_of (by first | (simp [Zd,Zm,Zk];done) | (simp [Zd,Zm,Zk];omega))]
   simp
  ·rw [sel_true,chk_of (by simp;omega),chk_of (by first | (simp [Zd,Zm,Zk];done) | (simp [Zd,Zm,Zk];omega)),chk_of (by first | (simp [Zd,Zm,Zk];done) | (simp [Zd,Zm,Zk];omega)),chk_of (by first | (simp [Zd,Zm,Zk];done) | (simp [Zd,Zm,Zk];omega)),chk_of (by first | (simp [Zd,Zm,Zk];done) | (simp [Zd,Zm,Zk];omega)),chk_of (by first | (simp [Zd,Zm,Zk];done) | (simp [Zd,Zm,Zk];omega)),chk_of (by first | (simp [Zd,Zm,Zk];done) | (simp [Zd,Zm,Zk];omega)),chk_of (by first | (simp [Zd,Zm,Zk];done) | (simp [Zd,Zm,Zk];omega)),chk_of (by first | (simp [Zd,Zm,Zk];done) | (simp [Zd,Zm,Zk];omega))]
   simp
 ·cases h
theorem w265:Walked Tryz.prog G 265 8 sp265:=by
 refine ⟨Tryz.f265,Tryz.func265,by decide +kernel,rfl,fun xs bl r h=> ?_⟩
 unfold sp265 at h
 split at h
 ·rename_i li x y z ad k lf iss sv ins
  obtain ⟨hpre,h2⟩:=chk_inv h;cases h2
  refine Eq.trans (b:=(Zw (chk (decide (Zv x≤9223372036854775807)&&decide (Zv y≤9223372036854775807)&&decide (Zv z≤9223372036854775807)) (some (Zf (Xv (Yx x y z)),[]))) fun (r:AV×Blocks)=>onNilB (Yw r) (Up (Yq r) fun b=>sel (!b) (some (Zz .i64 103,[])) (Zw (chk (decide (Zv sv≤9223372036854775807)) (some (Zf (Wj sv),[]))) fun (r:AV×Blocks)=>onNilB (Yw r) (Up (Yq r) fun b=>sel (!b) (some (Zz .i64 103,[])) (Zw (chk (decide (Zv ins≤9223372036854775807)) (some (Zf (Wy ins),[]))) fun (r:AV×Blocks)=>onNilB (Yw r) (Up (Yq r) fun b=>sel (!b) (some (Zz .i64 103,[])) (Zw (chk (decide (0≤k)&&decide (k<18446744073709551616)) (some (Zz .i64 (Uq k),[]))) fun (r:AV×Blocks)=>onNilB (Yw r) (Ym .i64 (Yq r) fun n=>sel (!n==2) (some (Zz .i64 10,[])) (sel (!Zb ad 4294967295) (some (Zz .i64 104,[])) (sel (!Zb lf 255) (some (Zz .i64 104,[])) (sel (!Zb iss 4294967295) (some (Zz .i64 104,[])) (some (Zz .i64 0,[])))))))))))):Option (AV×Blocks))) (by kernel_rfl) ?_
  simp only [Yu,decide_eq_true_eq] at hpre
  obtain ⟨⟨⟨⟨⟨⟨h1,h2⟩,h3⟩,h4⟩,h5⟩,h6⟩,h7⟩:=hpre
  simp only [h1,h2,h3,h4,h5,h6,h7,decide_true,Xu,↓A0,A0]
  unfold Kerb.Ticket.err
  dsimp only
  cases Xv ⟨x,y,z⟩
  ·rfl
  cases Wj sv
  ·rfl
  cases Wy ins
  ·rfl
  simp only [Zh,Xu,sel_false]
  by_cases hc:Uq k=2
  case neg=>rw [sel_pos (by simpa using hc),if_neg (by simp),if_pos hc]
  rw [sel_neg (by simp [hc]),if_neg (by simp),if_neg (by simp [hc])]
  cases Zb ad 4294967295
  ·rfl
  cases Zb lf 255
  ·rfl
  cases Zb iss 4294967295
  ·rfl
  rfl
 ·cases h
end Go.Proofs.YtaikjfcgemjghaaGreat
