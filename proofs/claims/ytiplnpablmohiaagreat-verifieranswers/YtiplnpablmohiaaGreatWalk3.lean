/- What the functions of this seat compute. -/
import Derived.Test.YtiplnpablmohiaaGreatTab
import Derived.Test.YtiplnpablmohiaaGreatKerbPlain
import Derived.Test.YtiplnpablmohiaaGreatAbsStep
import Derived.Test.YtiplnpablmohiaaGreatKerbCli3
import Derived.Test.YtiplnpablmohiaaGreatKerbCli4
import Derived.Test.YtiplnpablmohiaaGreatKerbKac4
import Derived.Test.YtiplnpablmohiaaGreatKerbVerL
open Go.Abs.AV renaming int→Zz,str→Zy,tup→Zq,agg→Zb,bool→Zh,bs→Yb,onAgg→Yh,sl→Xg
open Kerb.Dec renaming val→Zx,err→Xp
open List renaming length→Zw,map→Yz,length_map→Xy
open Option renaming bind→Zv
open Kerb renaming openTicket→Zu,vRead→Zj,decodeTicket→Zd,get→Yy,openReq→Yu,decodeAp→Yq,prin→Yj,decodeAuth→Yd,openBox→Yf,openAuth→Yg,u8i→Yn,serviceAnswer→Xq,toSKey→Ww,decodeMutual→Wv
open Kerb.Prin renaming realm→Zk,name→Zf,inst→Zg,mk→Yx
open Kerb.Server renaming replay→Zp,me→Zn,mk→Xz,keys→Xd
open Kerb.Ticket renaming client→Zm
open Kerb.Auth renaming client→Yw
open Kerb.VRead renaming a→Yv,s→Xx
open Kerb.Accepted renaming client→Yk
open Go.IntKind renaming i64→Yp,wrap→Xw
open Kerb.RCache renaming marks→Ym,mk→Xu,floor→Wz,size→Wx
open Kerb.Got renaming next→Xv,val→Xj,err→Xk
open Kerb.GotP renaming val→Xf
open Bool renaming and_eq_true→Xb,not_true→Xh,and_self→Wq
open Kerb.Mark renaming av→Xn
open Kerb.ApRequest renaming mk→Xm
open Nat renaming le_trans→Wy
open Kerb.SKey renaming av→Wu
namespace Go.Proofs.YtiplnpablmohiaaGreat
open Go Go.Abs Go.Proofs
set_option linter.unusedVariables false
set_option linter.unusedSimpArgs false
set_option maxRecDepth 100000
theorem w154:Walked Tryz.prog G 154 10 sp154:=by
 refine ⟨Tryz.f154,Tryz.func154,by decide +kernel,rfl,fun xs bl r h=> ?_⟩
 unfold sp154 at h
 split at h
 ·rename_i b
  obtain ⟨hpre,h2⟩:=chk_inv h;cases h2
  refine Eq.trans (b:=(let t1:AV:=Zb [Zh false,Zy [],Zy [],Zy [],Zz .i64 0,Zz .u64 0,Zz .i64 0,Zz .i64 0,Zy [],Zy []];let t0:Option (AV×Blocks):=some (Zq [t1,Zz .i64 100],[]);Zv (chk (decide (Zw b≤4611686018427387904)) (some (Zq [Zz .i64 (Xj (Yy b 0 1 false)),Zz .i64 (Xv (Yy b 0 1 false)),Zz .i64 (Xk (Yy b 0 1 false))],[]))) (kT fun vs=>cInt .i64 vs fun n r=>cInt .i64 r fun n_1 r=>cInt .i64 r fun n_2 r=>onNil r (sel (decide (n>1)) (some (Zq [t1,Zz .i64 7],[])) (Zv (chk (decide (Zw b≤4611686018427387904)) (some (Zq [Zb [Zy (Zf (Xf (Yj b n_1))),Zy (Zg (Xf (Yj b n_1))),Zy (Zk (Xf (Yj b n_1)))],Zz .i64 (Kerb.GotP.next (Yj b n_1)),Zz .i64 (Kerb.GotP.err (Yj b n_1))],[]))) (kT fun vs=>onCons vs fun x r=>Yh x fun cs=>cStr cs fun b_1 r_1=>cStr r_1 fun b_2 r_2=>cStr r_2 fun b_3 r_3=>onNil r_3 (cInt .i64 r fun n_3 r=>cInt .i64 r fun n_4 r=>onNil r (Zv (chk (decide (Zw b≤4611686018427387904)) (some (Zq [Zz .i64 (Xj (Yy b n_3 4 (n==1))),Zz .i64 (Xv (Yy b n_3 4 (n==1))),Zz .i64 (Xk (Yy b n_3 4 (n==1)))],[]))) (kT fun vs=>cInt .i64 vs fun n_5 r=>cInt .i64 r fun n_6 r=>cInt .i64 r fun n_7 r=>onNil r (Zv (chk (decide (Zw b≤140737488355328)) (some (Zq [Yb (Kerb.GotB.val (Kerb.bytes b n_6 8)),Zz .i64 (Kerb.GotB.next (Kerb.bytes b n_6 8)),Zz .i64 (Kerb.GotB.err (Kerb.bytes b n_6 8))],[]))) (kT fun vs=>cBs vs fun b_4 r=>cInt .i64 r fun n_8 r=>cInt .i64 r fun n_9 r=>onNil r (Zv (chk (decide (Zw b_4≤4611686018427387904)) (some (Zq [Zz .u64 (Prod.fst (Kerb.keyRead b_4)),Zh (Prod.snd (Kerb.keyRead b_4))],[]))) (kT fun vs=>cInt .u64 vs fun n_10 r=>cBool r fun b_5 r=>onNil r (Zv (chk (decide (Zw b≤4611686018427387904)) (some (Zq [Zz .i64 (Xj (Yy b n_8 1 false)),Zz .i64 (Xv (Yy b n_8 1 false)),Zz .i64 (Xk (Yy b n_8 1 false))],[]))) (kT fun vs=>cInt .i64 vs fun n_11 r=>cInt .i64 r fun n_12 r=>cInt .i64 r fun n_13 r=>onNil r (Zv (chk (decide (Zw b≤4611686018427387904)) (some (Zq [Zz .i64 (Xj (Yy b n_12 4 (n==1))),Zz .i64 (Xv (Yy b n_12 4 (n==1))),Zz .i64 (Xk (Yy b n_12 4 (n==1)))],[]))) (kT fun vs=>cInt .i64 vs fun n_14 r=>cInt .i64 r fun n_15 r=>cInt .i64 r fun n_16 r=>onNil r (Zv (chk (decide (Zw b≤4611686018427387904)) (some (Zq [Zy (Kerb.GotB.val (Kerb.text b n_15)),Zz .i64 (Kerb.GotB.next (Kerb.text b n_15)),Zz .i64 (Kerb.GotB.err (Kerb.text b n_15))],[]))) (kT fun vs=>cStr vs fun b_6 r=>cInt .i64 r fun n_17 r=>cInt .i64 r fun n_18 r=>onNil r (Zv (chk (decide (Zw b≤4611686018427387904)) (some (Zq [Zy (Kerb.GotB.val (Kerb.text b n_17)),Zz .i64 (Kerb.GotB.next (Kerb.text b n_17)),Zz .i64 (Kerb.GotB.err (Kerb.text b n_17))],[]))) (kT fun vs=>cStr vs fun b_7 r=>let t2:Kerb.Enc:=Kerb.encodeTicket (Kerb.Ticket.mk (n==1) (Yx b_1 b_2 b_3) n_5 n_10 n_11 n_14 b_6 b_7);cInt .i64 r fun n_19 r=>cInt .i64 r fun n_20 r=>onNil r (Zv (chk (l63 b_1&&l63 b_2&&l63 b_3&&l63 b_6&&l63 b_7&&decide (0≤n_10)&&decide (n_10<18446744073709551616)) (some (Zq [Yb (Kerb.Enc.val t2),Zz .i64 (Kerb.Enc.err t2)],[]))) (kT fun vs=>cBs vs fun b_8 r=>cInt .i64 r fun n_21 r=>onNil r (sel (!n_21==0) t0 (sel (!b_8==b) t0 (some (Zq [Zb [Zh (n==1),Zy b_1,Zy b_2,Zy b_3,Zz .i64 n_5,Zz .u64 n_10,Zz .i64 n_11,Zz .i64 n_14,Zy b_6,Zy b_7],Zz .i64 0],[]))))))))))))))))))))))))):Option (AV×Blocks))) (by kernel_rfl) ?_
  delta kT
  try dsimp only [cStr,cBs,cBool,cU8,cInt,cSl,l63]
  have hb:=of_decide_eq_true hpre
  have hpre2:decide (b.length≤4611686018427387904)=true:=by simp;omega
  simp only [hpre,hpre2,↓A0,A0]
  unfold Zd
  by_cases h7:1<(Yy b 0 1 false).val
  ·rw [sel_pos (by simpa using h7),if_pos h7];try rfl
  rw [sel_neg (by simpa using h7),if_neg h7]
  have hl:∀ p n,(Kerb.bytes b p n).val.length≤4611686018427387904:=fun p n=>Wy (Kerb.bytes_len b p n) (by omega)
  have hk:∀ q,0≤(Kerb.keyRead q).1∧(Kerb.keyRead q).1<18446744073709551616:=Kerb.keyRead_bd
  have hx:∀ q,(Kerb.text b q).val.length≤40:=Kerb.text_len b
  have lp:∀ q (_:Unit),(Yj b q).val.name.length≤40∧(Yj b q).val.inst.length≤40∧(Yj b q).val.realm.length≤40:=fun q _=>Kerb.prin_len b q
  rw [chk_of (by simp only [decide_eq_true_eq];exact hl _ _),chk_of (by simp only [Xb,decide_eq_true_eq];exact ⟨⟨⟨⟨⟨⟨Wy (lp _ ()).1 (by decide),Wy (lp _ ()).2.1 (by decide)⟩,Wy (lp _ ()).2.2 (by decide)⟩,Wy (hx _) (by decide)⟩,Wy (hx _) (by decide)⟩,(hk _).1⟩,(hk _).2⟩)]
  exact Kerb.decBy_fin (no:=Kerb.noTicket) (enc:=Kerb.encodeTicket) (rd:=fun b=>(Kerb.readTicket b,false)) _ false rfl (fun x e=>(Zq [Zb [Zh (x).little,Zy (x).client.name,Zy (x).client.inst,Zy (x).client.realm,Zz Yp (x).address,Zz IntKind.u64 (x).session,Zz Yp (x).life,Zz Yp (x).issued,Zy (x).service,Zy (x).inst],Zz Yp e],([]:Blocks)))
 ·cases h
theorem w155:Walked Tryz.prog G 155 10 sp155:=by
 refine ⟨Tryz.f155,Tryz.func155,by decide +kernel,rfl,fun xs bl r h=> ?_⟩
 unfold sp155 at h
 split at h
 ·rename_i b li
  obtain ⟨hpre,h2⟩:=chk_inv h;cases h2
  refine Eq.trans (b:=(let t0:Option (AV×Blocks):=some (Zq [Zb [Zy [],Zy [],Zy [],Zz .i64 0,Zz .i64 0,Zz .i64 0],Zz .i64 100],[]);Zv (chk (decide (Zw b≤4611686018427387904)) (some (Zq [Zb [Zy (Zf (Xf (Yj b 1))),Zy (Zg (Xf (Yj b 1))),Zy (Zk (Xf (Yj b 1)))],Zz .i64 (Kerb.GotP.next (Yj b 1)),Zz .i64 (Kerb.GotP.err (Yj b 1))],[]))) (kT fun vs=>onCons vs fun x r=>Yh x fun cs=>cStr cs fun b_1 r_1=>cStr r_1 fun b_2 r_2=>cStr r_2 fun b_3 r_3=>onNil r_3 (cInt .i64 r fun n r=>cInt .i64 r fun n_1 r=>onNil r (Zv (chk (decide (Zw b≤4611686018427387904)) (some (Zq [Zz .i64 (Xj (Yy b n 4 li)),Zz .i64 (Xv (Yy b n 4 li)),Zz .i64 (Xk (Yy b n 4 li))],[]))) (kT fun vs=>cInt .i64 vs fun n r=>cInt .i64 r fun n_2 r=>cInt .i64 r fun n_3 r=>onNil r (Zv (chk (decide (Zw b≤4611686018427387904)) (some (Zq [Zz .i64 (Xj (Yy b n_2 1 false)),Zz .i64 (Xv (Yy b n_2 1 false)),Zz .i64 (Xk (Yy b n_2 1 false))],[]))) (kT fun vs=>cInt .i64 vs fun n_4 r=>cInt .i64 r fun n_5 r=>cInt .i64 r fun n_6 r=>onNil r (Zv (chk (decide (Zw b≤4611686018427387904)) (some (Zq [Zz .i64 (Xj (Yy b n_5 4 li)),Zz .i64 (Xv (Yy b n_5 4 li)),Zz .i64 (Xk (Yy b n_5 4 li))],[]))) (kT fun vs=>cInt .i64 vs fun n_7 r=>cInt .i64 r fun n_8 r=>cInt .i64 r fun n_9 r=>onNil r (Zv (chk (l63 b_1&&l63 b_2&&l63 b_3) (some (Zq [Yb (Kerb.Enc.val (Kerb.encodeAuth (Kerb.Auth.mk (Yx b_1 b_2 b_3) n n_4 n_7) li)),Zz .i64 (Kerb.Enc.err (Kerb.encodeAuth (Kerb.Auth.mk (Yx b_1 b_2 b_3) n n_4 n_7) li))],[]))) (kT fun vs=>cBs vs fun b_4 r=>cInt .i64 r fun n_10 r=>onNil r (sel (!n_10==0) t0 (sel (!b_4==b) t0 (some (Zq [Zb [Zy b_1,Zy b_2,Zy b_3,Zz .i64 n,Zz .i64 n_4,Zz .i64 n_7],Zz .i64 0],[])))))))))))))):Option (AV×Blocks))) (by kernel_rfl) ?_
  delta kT
  try dsimp only [cStr,cBs,cBool,cU8,cInt,cSl,l63]
  have hb:=of_decide_eq_true hpre
  have hpre2:decide (b.length≤4611686018427387904)=true:=by simp;omega
  obtain ⟨n1,n2,n3⟩:=Kerb.prin_len b 1
  have g1:(Yj b 1).val.name.length≤9223372036854775807:=by omega
  have g2:(Yj b 1).val.inst.length≤9223372036854775807:=by omega
  have g3:(Yj b 1).val.realm.length≤9223372036854775807:=by omega
  simp only [hpre2,g1,g2,g3,decide_true,Wq,↓A0,A0]
  exact Kerb.decBy_fin (no:=Kerb.noAuth) (enc:=fun a=>Kerb.encodeAuth a li) (rd:=fun b=>(Kerb.readAuth b li,false)) _ false rfl (fun x e=>(Zq [.agg [.str (x).client.name,.str (x).client.inst,.str (x).client.realm,.int .i64 (x).checksum,.int .i64 (x).tick,.int .i64 (x).time],Zz Yp e],([]:Blocks)))
 ·cases h
theorem w97:Walked Tryz.prog G 97 11 sp97:=by
 refine ⟨Tryz.f97,Tryz.func97,by decide +kernel,rfl,fun xs bl r h=> ?_⟩
 unfold sp97 at h
 split at h
 ·rename_i b k
  obtain ⟨hpre,h2⟩:=chk_inv h;cases h2
  refine Eq.trans (b:=(Zv (chk (decide (Zw b≤140737488355328)) (some (Zq [Yb (Prod.fst (Yf b 1 k)),Zh (Prod.snd (Yf b 1 k))],[]))) (kT fun vs=>cBs vs fun b r=>cBool r fun b_1 r=>onNil r (sel (!b_1) (some (Zq [Zb [Zh false,Zy [],Zy [],Zy [],Zz .i64 0,Zz .u64 0,Zz .i64 0,Zz .i64 0,Zy [],Zy []],Zz .i64 31],[])) (Zv (chk (decide (Zw b≤140737488355328)) (some (Zq [Zb [Zh (Kerb.Ticket.little (Zx (Zd b))),Zy (Zf (Zm (Zx (Zd b)))),Zy (Zg (Zm (Zx (Zd b)))),Zy (Zk (Zm (Zx (Zd b)))),Zz .i64 (Kerb.Ticket.address (Zx (Zd b))),Zz .u64 (Kerb.Ticket.session (Zx (Zd b))),Zz .i64 (Kerb.Ticket.life (Zx (Zd b))),Zz .i64 (Kerb.Ticket.issued (Zx (Zd b))),Zy (Kerb.Ticket.service (Zx (Zd b))),Zy (Kerb.Ticket.inst (Zx (Zd b)))],Zz .i64 (Xp (Zd b))],[]))) (kT fun vs=>onCons vs fun x r=>Yh x fun cs=>cBool cs fun b r_1=>cStr r_1 fun b_2 r_2=>cStr r_2 fun b_3 r_3=>cStr r_3 fun b_4 r_4=>cInt .i64 r_4 fun n r_5=>cInt .u64 r_5 fun n_1 r_6=>cInt .i64 r_6 fun n_2 r_7=>cInt .i64 r_7 fun n_3 r_8=>cStr r_8 fun b_5 r_9=>cStr r_9 fun b_6 r_10=>onNil r_10 (cInt .i64 r fun n_4 r=>onNil r (some (Zq [Zb [Zh b,Zy b_2,Zy b_3,Zy b_4,Zz .i64 n,Zz .u64 n_1,Zz .i64 n_2,Zz .i64 n_3,Zy b_5,Zy b_6],Zz .i64 n_4],[]))))))):Option (AV×Blocks))) (by kernel_rfl) ?_
  delta kT
  try dsimp only [cStr,cBs,cBool,cU8,cInt,cSl,l63]
  have hb:=of_decide_eq_true hpre
  have hl:=Kerb.openBox_len b 1 k
  simp only [hpre,↓A0,A0]
  unfold Zu
  cases h:(Yf b 1 k).2
  ·rfl
  ·rw [sel_neg (by simp),chk_of (by simp;omega)]
   rfl
 ·cases h
theorem w99:Walked Tryz.prog G 99 11 sp99:=by
 refine ⟨Tryz.f99,Tryz.func99,by decide +kernel,rfl,fun xs bl r h=> ?_⟩
 unfold sp99 at h
 split at h
 ·rename_i b li k
  obtain ⟨hpre,h2⟩:=chk_inv h;cases h2
  refine Eq.trans (b:=(let t0:Option (AV×Blocks):=some (Zq [Zb [Zy [],Zy [],Zy [],Zz .i64 0,Zz .i64 0,Zz .i64 0],Zz .i64 31],[]);Zv (chk (decide (Zw b≤140737488355328)) (some (Zq [Yb (Prod.fst (Yf b 2 k)),Zh (Prod.snd (Yf b 2 k))],[]))) (kT fun vs=>cBs vs fun b r=>cBool r fun b_1 r=>onNil r (sel (!b_1) t0 (Zv (chk (decide (Zw b≤140737488355328)) (some (Zq [Zb [Zy (Zf (Yw (Zx (Yd b li)))),Zy (Zg (Yw (Zx (Yd b li)))),Zy (Zk (Yw (Zx (Yd b li)))),Zz .i64 (Kerb.Auth.checksum (Zx (Yd b li))),Zz .i64 (Kerb.Auth.tick (Zx (Yd b li))),Zz .i64 (Kerb.Auth.time (Zx (Yd b li)))],Zz .i64 (Xp (Yd b li))],[]))) (kT fun vs=>onCons vs fun x r=>Yh x fun cs=>cStr cs fun b r_1=>cStr r_1 fun b_2 r_2=>cStr r_2 fun b_3 r_3=>cInt .i64 r_3 fun n r_4=>cInt .i64 r_4 fun n_1 r_5=>cInt .i64 r_5 fun n_2 r_6=>onNil r_6 (cInt .i64 r fun n_3 r=>onNil r (sel (!n_3==0) t0 (some (Zq [Zb [Zy b,Zy b_2,Zy b_3,Zz .i64 n,Zz .i64 n_1,Zz .i64 n_2],Zz .i64 0],[])))))))):Option (AV×Blocks))) (by kernel_rfl) ?_
  delta kT
  try dsimp only [cStr,cBs,cBool,cU8,cInt,cSl,l63]
  have hb:=of_decide_eq_true hpre
  have hpre2:decide (b.length≤4611686018427387904)=true:=by simp;omega
  have hl:=Kerb.openBox_len b 2 k
  have hl2:decide ((Yf b 2 k).1.length≤140737488355328)=true:=by simp;omega
  simp only [hpre,hl2,↓A0,A0]
  unfold Yg
  cases h1:(Yf b 2 k).2
  ·rfl
  rw [Xh,sel_false,if_neg (by simp)]
  by_cases h2:(Yd (Yf b 2 k).1 li).err=0
  case neg=>rw [sel_pos (by simpa using h2),if_pos h2];rfl
  rw [sel_neg (by simpa using h2),if_neg (by simpa using h2)]
 ·cases h
theorem w45:Walked Tryz.prog G 45 12 sp45:=by
 refine ⟨Tryz.f45,Tryz.func45,by decide +kernel,rfl,fun xs bl r h=> ?_⟩
 unfold sp45 at h
 split at h
 ·rename_i m1 m2 m3 kls sz fl mls sk rli rmu rkv rrl rtk rau
  obtain ⟨hpre,h2⟩:=chk_inv h;cases h2
  refine Eq.trans (b:=(let t1:AV:=Zb [Zh false,Zy [],Zy [],Zy [],Zz .i64 0,Zz .u64 0,Zz .i64 0,Zz .i64 0,Zy [],Zy []];let t2:AV:=Zb [Zy [],Zy [],Zy [],Zz .i64 0,Zz .i64 0,Zz .i64 0];let t0:Option (AV×Blocks):=some (Zq [t1,t2,Zz .i64 35],[]);sel (!rrl==m3) t0 (Zv (chk (List.all kls Kerb.isSKey&&decide (Zw kls≤1000000)) (some (Zq [Zz .u64 (Prod.fst (Kerb.skFind (Yz Ww kls) (Yx m1 m2 m3) rkv)),Zh (Prod.snd (Kerb.skFind (Yz Ww kls) (Yx m1 m2 m3) rkv))],[]))) (kT fun vs=>cInt .u64 vs fun n r=>cBool r fun b r=>onNil r (sel (!b) t0 (Zv (chk (decide (Zw rtk≤140737488355328)) (some (Zq [Zb [Zh (Kerb.Ticket.little (Zx (Zu rtk n))),Zy (Zf (Zm (Zx (Zu rtk n)))),Zy (Zg (Zm (Zx (Zu rtk n)))),Zy (Zk (Zm (Zx (Zu rtk n)))),Zz .i64 (Kerb.Ticket.address (Zx (Zu rtk n))),Zz .u64 (Kerb.Ticket.session (Zx (Zu rtk n))),Zz .i64 (Kerb.Ticket.life (Zx (Zu rtk n))),Zz .i64 (Kerb.Ticket.issued (Zx (Zu rtk n))),Zy (Kerb.Ticket.service (Zx (Zu rtk n))),Zy (Kerb.Ticket.inst (Zx (Zu rtk n)))],Zz .i64 (Xp (Zu rtk n))],[]))) (kT fun vs=>onCons vs fun x r=>Yh x fun cs=>cBool cs fun b r_1=>cStr r_1 fun b_1 r_2=>cStr r_2 fun b_2 r_3=>cStr r_3 fun b_3 r_4=>cInt .i64 r_4 fun n r_5=>cInt .u64 r_5 fun n_1 r_6=>cInt .i64 r_6 fun n_2 r_7=>cInt .i64 r_7 fun n_3 r_8=>cStr r_8 fun b_4 r_9=>cStr r_9 fun b_5 r_10=>onNil r_10 (cInt .i64 r fun n_4 r=>onNil r (sel (n_4==7) (some (Zq [t1,t2,Zz .i64 7],[])) (sel (!n_4==0) (some (Zq [t1,t2,Zz .i64 31],[])) (sel (!(b_4==m1&&(b_5==m2&&m3==m3))) t0 (Zv (chk (decide (Zw rau≤140737488355328)) (some (Zq [Zb [Zy (Zf (Yw (Zx (Yg rau rli n_1)))),Zy (Zg (Yw (Zx (Yg rau rli n_1)))),Zy (Zk (Yw (Zx (Yg rau rli n_1)))),Zz .i64 (Kerb.Auth.checksum (Zx (Yg rau rli n_1))),Zz .i64 (Kerb.Auth.tick (Zx (Yg rau rli n_1))),Zz .i64 (Kerb.Auth.time (Zx (Yg rau rli n_1)))],Zz .i64 (Xp (Yg rau rli n_1))],[]))) (kT fun vs=>onCons vs fun x r=>Yh x fun cs=>cStr cs fun b_6 r_11=>cStr r_11 fun b_7 r_12=>cStr r_12 fun b_8 r_13=>cInt .i64 r_13 fun n_5 r_14=>cInt .i64 r_14 fun n_6 r_15=>cInt .i64 r_15 fun n_7 r_16=>onNil r_16 (cInt .i64 r fun n_8 r=>onNil r (sel (!n_8==0) (some (Zq [t1,t2,Zz .i64 31],[])) (some (Zq [Zb [Zh b,Zy b_1,Zy b_2,Zy b_3,Zz .i64 n,Zz .u64 n_1,Zz .i64 n_2,Zz .i64 n_3,Zy b_4,Zy b_5],Zb [Zy b_6,Zy b_7,Zy b_8,Zz .i64 n_5,Zz .i64 n_6,Zz .i64 n_7],Zz .i64 0],[]))))))))))))))):Option (AV×Blocks))) (by kernel_rfl) ?_
  delta kT
  try dsimp only [cStr,cBs,cBool,cU8,cInt,cSl,l63]
  simp only [Xb,decide_eq_true_eq] at hpre
  obtain ⟨⟨⟨⟨⟨⟨⟨⟨l1,l2⟩,l3⟩,ka⟩,kl⟩,ma⟩,ml⟩,t1⟩,u1⟩:=hpre
  obtain ⟨ks,rfl,hks⟩:=Kerb.skeys_of ka
  obtain ⟨ms,rfl,hms⟩:=Kerb.marks_of ma
  have hkT:=Kerb.skeys_all hks
  have hmT:=Kerb.marks_all hms
  simp only [Xy] at kl ml
  have t2:rtk.length≤140737488355328:=by omega
  have u2:rau.length≤140737488355328:=by omega
  simp only [Kerb.map_toSKey,Kerb.map_toMark,Xy,hkT,kl,t2,u2,decide_true,Wq,↓A0,A0]
  unfold Yu
  by_cases g1:rrl=m3
  case neg=>rw [sel_pos (by simpa using g1),if_pos (by simpa using g1)];rfl
  rw [sel_neg (by simpa using g1),if_neg (by simpa using g1)]
  dsimp only
  cases g2:(Kerb.skFind ks ⟨m1,m2,m3⟩ rkv).2
  ·rfl
  rw [Xh,sel_false,if_neg (by simp)]
  generalize (Kerb.skFind ks ⟨m1,m2,m3⟩ rkv).1=K
  by_cases g3:(Zu rtk K).err=7
  ·rw [sel_pos (by simpa using g3),if_pos g3];rfl
  rw [sel_neg (by simpa using g3),if_neg g3]
  by_cases g4:(Zu rtk K).err=0
  case neg=>rw [sel_pos (by simpa using g4),if_pos g4];rfl
  rw [sel_neg (by simpa using g4),if_neg (by simpa using g4)]
  have g5:((Zu rtk K).val.service==m1&&((Zu rtk K).val.inst==m2&&m3==m3))=(Kerb.ticketFor (Zu rtk K).val m3).eqb ⟨m1,m2,m3⟩:=rfl
  rw [g5]
  cases g6:(Kerb.ticketFor (Zu rtk K).val m3).eqb ⟨m1,m2,m3⟩
  ·rfl
  rw [Xh,sel_false,if_neg (by simp)]
  by_cases g7:(Yg rau rli (Zu rtk K).val.session).err=0
  case neg=>rw [sel_pos (by simpa using g7),if_pos g7];rfl
  rw [sel_neg (by simpa using g7),if_neg (by simpa using g7)]
 ·cases h
theorem w20:Walked Tryz.prog G 20 13 sp20:=by
 refine ⟨Tryz.f20,Tryz.func20,by decide +kernel,rfl,fun xs bl r h=> ?_⟩
 unfold sp20 at h
 split at h
 ·rename_i m1 m2 m3 kls sz fl mls sk rli rmu rkv rrl rtk rau src now
  obtain ⟨hpre,h2⟩:=chk_inv h;cases h2
  refine Eq.trans (b:=(let t0:AV:=Zb [Zy [],Zy [],Zy [],Zz .u64 0,Zz .i64 0,Zz .i64 0,Zz .i64 0,Zz .i64 0,Zz .i64 0,Zz .i64 0,Yb [],Yb []];Zv (chk (decide (Zw kls≤1000000)&&decide (Zw mls≤1000000)) (some (Zb [Zy m1,Zy m2,Zy m3,Xg 5 kls,Zz .i64 sz,Zz .i64 fl,Xg 5 mls,Zz .i64 sk],[]))) (kA fun cs=>cStr cs fun b r=>cStr r fun b_1 r=>cStr r fun b_2 r=>let t1:Bool:=l63 b&&l63 b_1&&l63 b_2;cSl 5 r fun b_3 r=>cInt .i64 r fun n r=>cInt .i64 r fun n_1 r=>cSl 5 r fun b_4 r=>let t2:Bool:=t1&&List.all b_3 Kerb.isSKey&&decide (Zw b_3≤1000000)&&List.all b_4 Kerb.isMark&&decide (Zw b_4≤1000000);cInt .i64 r fun n_2 r=>let t4:AV:=Zb [Zy b,Zy b_1,Zy b_2,Xg 5 b_3,Zz .i64 n,Zz .i64 n_1,Xg 5 b_4,Zz .i64 n_2];let t6:Kerb.Opened:=Yu (Xz (Yx b b_1 b_2) (Yz Ww b_3) (Xu n n_1 (Yz Kerb.toMark b_4)) n_2) (Xm rli rmu rkv rrl rtk rau);let t3:Kerb.Ticket:=Kerb.Opened.ticket t6;let t5:Kerb.Auth:=Kerb.Opened.auth t6;onNil r (Zv (chk t2 (some (Zz .i64 (Kerb.Server.err (Xz (Yx b b_1 b_2) (Yz Ww b_3) (Xu n n_1 (Yz Kerb.toMark b_4)) n_2)),[]))) (kI .i64 fun n_3=>sel (!n_3==0) (some (Zq [t4,t0,Zz .i64 108],[])) (Zv (chk (t2&&decide (Zw rtk≤1000000)&&decide (Zw rau≤1000000)) (some (Zq [Zb [Zh (Kerb.Ticket.little t3),Zy (Zf (Zm t3)),Zy (Zg (Zm t3)),Zy (Zk (Zm t3)),Zz .i64 (Kerb.Ticket.address t3),Zz .u64 (Kerb.Ticket.session t3),Zz .i64 (Kerb.Ticket.life t3),Zz .i64 (Kerb.Ticket.issued t3),Zy (Kerb.Ticket.service t3),Zy (Kerb.Ticket.inst t3)],Zb [Zy (Zf (Yw t5)),Zy (Zg (Yw t5)),Zy (Zk (Yw t5)),Zz .i64 (Kerb.Auth.checksum t5),Zz .i64 (Kerb.Auth.tick t5),Zz .i64 (Kerb.Auth.time t5)],Zz .i64 (Kerb.Opened.err t6)],[]))) (kT fun vs=>onCons vs fun x r=>Yh x fun cs=>cBool cs fun b_5 r_1=>cStr r_1 fun b_6 r_2=>cStr r_2 fun b_7 r_3=>cStr r_3 fun b_8 r_4=>cInt .i64 r_4 fun n_4 r_5=>cInt .u64 r_5 fun n_5 r_6=>cInt .i64 r_6 fun n_6 r_7=>cInt .i64 r_7 fun n_7 r_8=>cStr r_8 fun b_9 r_9=>cStr r_9 fun b_10 r_10=>onNil r_10 (onCons r fun x r=>Yh x fun cs=>cStr cs fun b_11 r_11=>cStr r_11 fun b_12 r_12=>cStr r_12 fun b_13 r_13=>cInt .i64 r_13 fun n_8 r_14=>cInt .i64 r_14 fun n_9 r_15=>cInt .i64 r_15 fun n_10 r_16=>let t8:Int:=Kerb.judge (Kerb.Ticket.mk b_5 (Yx b_6 b_7 b_8) n_4 n_5 n_6 n_7 b_9 b_10) (Kerb.Auth.mk (Yx b_11 b_12 b_13) n_8 n_9 n_10) src now n_2;let t9:Kerb.Dec Kerb.RCache:=Kerb.addMark (Xu n n_1 (Yz Kerb.toMark b_4)) (Kerb.Mark.mk (Yx b_11 b_12 b_13) n_10 n_9) now n_2;let t7:Kerb.RCache:=Zx t9;onNil r_16 (cInt .i64 r fun n r=>onNil r (sel (!n==0) (some (Zq [t4,t0,Zz .i64 n],[])) (sel (!t8==0) (some (Zq [t4,t0,Zz .i64 t8],[])) (Zv (chk (List.all b_4 Kerb.isMark&&decide (Zw b_4≤1000000)&&l63 b_11&&l63 b_12&&l63 b_13) (some (Zq [Zb [Zz .i64 (Wx t7),Zz .i64 (Wz t7),Xg 5 (Yz Xn (Ym t7))],Zz .i64 (Xp t9)],[]))) (kT fun vs=>onCons vs fun x r=>Yh x fun cs=>cInt .i64 cs fun n r_17=>cInt .i64 r_17 fun n_11 r_18=>cSl 5 r_18 fun b_14 r_19=>onNil r_19 (cInt .i64 r fun n_12 r=>onNil r (sel (!n_12==0) (some (Zq [t4,t0,Zz .i64 n_12],[])) (Zv (chk (decide (Zw rtk≤140737488355328)) (some (Yb rtk,[]))) (kB fun b_15=>Zv (chk (decide (Zw rau≤140737488355328)) (some (Yb rau,[]))) (kB fun b_16=>some (Zq [Zb [Zy b,Zy b_1,Zy b_2,Xg 5 b_3,Zz .i64 n,Zz .i64 n_11,Xg 5 b_14,Zz .i64 n_2],Zb [Zy b_6,Zy b_7,Zy b_8,Zz .u64 n_5,Zz .i64 n_4,Zz .i64 n_8,Zz .i64 n_10,Zz .i64 n_9,Zz .i64 n_7,Zz .i64 n_6,Yb b_15,Yb b_16],Zz .i64 0],[]))))))))))))))))):Option (AV×Blocks))) (by kernel_rfl) ?_
  delta kT kA kB kI
  try dsimp only [cStr,cBs,cBool,cU8,cInt,cSl,l63]
  simp only [Xb,decide_eq_true_eq] at hpre
  obtain ⟨⟨⟨⟨⟨⟨⟨⟨l1,l2⟩,l3⟩,ka⟩,kl⟩,ma⟩,ml⟩,t1⟩,u1⟩:=hpre
  obtain ⟨ks,rfl,hks⟩:=Kerb.skeys_of ka
  obtain ⟨ms,rfl,hms⟩:=Kerb.marks_of ma
  have hkT:=Kerb.skeys_all hks
  have hmT:=Kerb.marks_all hms
  simp only [Xy] at kl ml
  have t2:rtk.length≤140737488355328:=by omega
  have u2:rau.length≤140737488355328:=by omega
  obtain ⟨S,hS⟩:∃ S,Xz ⟨m1,m2,m3⟩ ks ⟨sz,fl,ms⟩ sk=S:=⟨_,rfl⟩
  obtain ⟨R,hR⟩:∃ R,Xm rli rmu rkv rrl rtk rau=R:=⟨_,rfl⟩
  have hb:=(Kerb.openReq_bd S R).1
  have e1:=hb.1
  have e2:=hb.2.1
  have e3:=hb.2.2
  simp only [Kerb.map_toSKey,Kerb.map_toMark,Xy,hkT,hmT,kl,ml,l1,l2,l3,t1,u1,t2,u2,decide_true,Wq,hS,hR,e1,e2,e3,↓sInt,↓sU8,↓sBool,↓sStr,↓sBs,↓sSl,↓sAgg,↓sTup,↓sCons,↓sNil,↓sNilB,↓sChk,↓sChkBind,↓sSome]
  unfold Kerb.verify
  by_cases g1:S.err=0
  case neg=>rw [sel_pos (by simpa using g1),if_pos g1,← hS];rfl
  rw [sel_neg (by simpa using g1),if_neg (by simpa using g1)]
  by_cases g2:(Yu S R).err=0
  case neg=>rw [sel_pos (by simpa using g2),if_pos g2,← hS];rfl
  rw [sel_neg (by simpa using g2),if_neg (by simpa using g2)]
  have h0:sk=S.skew:=by rw [← hS]
  have h1:Xu sz fl ms=S.replay:=by rw [← hS]
  rw [h0,h1]
  by_cases g3:Kerb.judge (Yu S R).ticket (Yu S R).auth src now S.skew=0
  case neg=>rw [sel_pos (by simpa using g3),if_pos g3,← hS];rfl
  rw [sel_neg (by simpa using g3),if_neg (by simpa using g3)]
  rw [show Kerb.Mark.mk ⟨(Yu S R).auth.client.name,(Yu S R).auth.client.inst,(Yu S R).auth.client.realm⟩ (Yu S R).auth.time (Yu S R).auth.tick=Kerb.markOf (Yu S R).auth from rfl]
  by_cases g4:(Kerb.addMark S.replay (Kerb.markOf (Yu S R).auth) now S.skew).err=0
  case neg=>rw [sel_pos (by simpa using g4),if_pos g4,← hS];rfl
  rw [sel_neg (by simpa using g4),if_neg (by simpa using g4),← hS,← hR]
 ·cases h
theorem w14:Walked Tryz.prog G 14 14 sp14:=by
 refine ⟨Tryz.f14,Tryz.func14,by decide +kernel,rfl,fun xs bl r h=> ?_⟩
 unfold sp14 at h
 split at h
 ·rename_i m1 m2 m3 kls sz fl mls sk msg src now
  obtain ⟨hpre,h2⟩:=chk_inv h;cases h2
  refine Eq.trans (b:=(let t0:Kerb.Server:=Xz (Yx m1 m2 m3) (Yz Ww kls) (Xu sz fl (Yz Kerb.toMark mls)) sk;let t1:Option (AV×Blocks):=chk (decide (Zw kls≤1000000)&&decide (Zw mls≤1000000)) (some (Zb [Zy m1,Zy m2,Zy m3,Xg 5 kls,Zz .i64 sz,Zz .i64 fl,Xg 5 mls,Zz .i64 sk],[]));let t2:AV:=Zb [Zy [],Zy [],Zy [],Zz .u64 0,Zz .i64 0,Zz .i64 0,Zz .i64 0,Zz .i64 0,Zz .i64 0,Zz .i64 0,Yb [],Yb []];Zv (chk (decide (Zw msg≤140737488355328)) (some (Zq [Zb [Zh (Kerb.ApRequest.little (Zx (Yq msg))),Zh (Kerb.ApRequest.mutual_ (Zx (Yq msg))),Zz .i64 (Kerb.ApRequest.kvno (Zx (Yq msg))),Zy (Kerb.ApRequest.realm (Zx (Yq msg))),Yb (Kerb.ApRequest.ticket (Zx (Yq msg))),Yb (Kerb.ApRequest.auth (Zx (Yq msg)))],Zz .i64 (Xp (Yq msg))],[]))) (kT fun vs=>onCons vs fun x r=>Yh x fun cs=>cBool cs fun b r_1=>cBool r_1 fun b_1 r_2=>cInt .i64 r_2 fun n r_3=>cStr r_3 fun b_2 r_4=>cBs r_4 fun b_3 r_5=>cBs r_5 fun b_4 r_6=>let t5:Kerb.Verified:=Kerb.verify t0 (Xm b b_1 n b_2 b_3 b_4) src now;let t3:Kerb.Accepted:=Kerb.Verified.a t5;let t4:Kerb.Server:=Kerb.Verified.s t5;onNil r_6 (cInt .i64 r fun n r=>let t6:Option (AV×Blocks):=Zv t1 (kA fun cs=>cStr cs fun b r=>cStr r fun b_5 r=>cStr r fun b_6 r=>cSl 5 r fun b_7 r=>cInt .i64 r fun n_1 r=>cInt .i64 r fun n_2 r=>cSl 5 r fun b_8 r=>cInt .i64 r fun n_3 r=>onNil r (some (Zq [Zb [Zy b,Zy b_5,Zy b_6,Xg 5 b_7,Zz .i64 n_1,Zz .i64 n_2,Xg 5 b_8,Zz .i64 n_3],t2,Yb [],Zz .i64 n],[])));onNil r (sel (!n==0) (AV.onInt .i64 (List.getD [Zz .i64 39,Zz .i64 40] (Int.toNat 0) AV.undef) fun n_1=>sel (n==n_1) t6 (AV.onInt .i64 (List.getD [Zz .i64 39,Zz .i64 40] (Int.toNat (Xw .i64 (0+1))) AV.undef) fun n_2=>sel (n==n_2) t6 (Zv t1 (kA fun cs=>cStr cs fun b r=>cStr r fun b_5 r=>cStr r fun b_6 r=>cSl 5 r fun b_7 r=>cInt .i64 r fun n r=>cInt .i64 r fun n_3 r=>cSl 5 r fun b_8 r=>cInt .i64 r fun n_4 r=>onNil r (some (Zq [Zb [Zy b,Zy b_5,Zy b_6,Xg 5 b_7,Zz .i64 n,Zz .i64 n_3,Xg 5 b_8,Zz .i64 n_4],t2,Yb [],Zz .i64 31],[])))))) (Zv (chk (l63 m1&&l63 m2&&l63 m3&&List.all kls Kerb.isSKey&&decide (Zw kls≤1000000)&&List.all mls Kerb.isMark&&decide (Zw mls≤1000000)&&decide (Zw b_3≤1000000)&&decide (Zw b_4≤1000000)) (some (Zq [Zb [Zy (Zf (Zn t4)),Zy (Zg (Zn t4)),Zy (Zk (Zn t4)),Xg 5 (Yz Wu (Xd t4)),Zz .i64 (Wx (Zp t4)),Zz .i64 (Wz (Zp t4)),Xg 5 (Yz Xn (Ym (Zp t4))),Zz .i64 (Kerb.Server.skew t4)],Zb [Zy (Zf (Yk t3)),Zy (Zg (Yk t3)),Zy (Zk (Yk t3)),Zz .u64 (Kerb.Accepted.session t3),Zz .i64 (Kerb.Accepted.address t3),Zz .i64 (Kerb.Accepted.checksum t3),Zz .i64 (Kerb.Accepted.time t3),Zz .i64 (Kerb.Accepted.tick t3),Zz .i64 (Kerb.Accepted.issued t3),Zz .i64 (Kerb.Accepted.life t3),Yb (Kerb.Accepted.ticket t3),Yb (Kerb.Accepted.auth t3)],Zz .i64 (Kerb.Verified.err t5)],[]))) (kT fun vs=>onCons vs fun x r=>Yh x fun cs=>cStr cs fun b_5 r_7=>cStr r_7 fun b_6 r_8=>cStr r_8 fun b_7 r_9=>cSl 5 r_9 fun b_8 r_10=>cInt .i64 r_10 fun n r_11=>cInt .i64 r_11 fun n_1 r_12=>cSl 5 r_12 fun b_9 r_13=>cInt .i64 r_13 fun n_2 r_14=>let t7:AV:=Zb [Zy b_5,Zy b_6,Zy b_7,Xg 5 b_8,Zz .i64 n,Zz .i64 n_1,Xg 5 b_9,Zz .i64 n_2];onNil r_14 (onCons r fun x r=>Yh x fun cs=>cStr cs fun b_10 r_15=>cStr r_15 fun b_11 r_16=>cStr r_16 fun b_12 r_17=>cInt .u64 r_17 fun n r_18=>cInt .i64 r_18 fun n_3 r_19=>cInt .i64 r_19 fun n_4 r_20=>cInt .i64 r_20 fun n_5 r_21=>cInt .i64 r_21 fun n_6 r_22=>cInt .i64 r_22 fun n_7 r_23=>cInt .i64 r_23 fun n_8 r_24=>cBs r_24 fun b_13 r_25=>cBs r_25 fun b_14 r_26=>let t8:AV:=Zb [Zy b_10,Zy b_11,Zy b_12,Zz .u64 n,Zz .i64 n_3,Zz .i64 n_4,Zz .i64 n_5,Zz .i64 n_6,Zz .i64 n_7,Zz .i64 n_8,Yb b_13,Yb b_14];onNil r_26 (cInt .i64 r fun n_9 r=>let t9:Option (AV×Blocks):=some (Zq [t7,t8,Yb [],Zz .i64 n_9],[]);onNil r (sel (!n_9==0) t9 (sel (!b_1) t9 (Zv (chk (decide (0≤n)&&decide (n<18446744073709551616)) (some (Zq [Yb (Kerb.Enc.val (Xq n n_4 n_5 n_6 b)),Zz .i64 (Kerb.Enc.err (Xq n n_4 n_5 n_6 b))],[]))) (kT fun vs=>cBs vs fun b r=>cInt .i64 r fun n r=>onNil r (sel (!n==0) (Zv t1 (kA fun cs=>cStr cs fun b r=>cStr r fun b_15 r=>cStr r fun b_16 r=>cSl 5 r fun b_17 r=>cInt .i64 r fun n_10 r=>cInt .i64 r fun n_11 r=>cSl 5 r fun b_18 r=>cInt .i64 r fun n_12 r=>onNil r (some (Zq [Zb [Zy b,Zy b_15,Zy b_16,Xg 5 b_17,Zz .i64 n_10,Zz .i64 n_11,Xg 5 b_18,Zz .i64 n_12],t2,Yb [],Zz .i64 n],[])))) (some (Zq [t7,t8,Yb b,Zz .i64 0],[])))))))))))))):Option (AV×Blocks))) (by kernel_rfl) ?_
  delta kT kA
  try dsimp only [cStr,cBs,cBool,cU8,cInt,cSl,l63]
  simp only [Xb,decide_eq_true_eq] at hpre
  obtain ⟨⟨⟨⟨⟨⟨⟨l1,l2⟩,l3⟩,ka⟩,kl⟩,ma⟩,ml⟩,hm⟩:=hpre
  obtain ⟨ks,rfl,hks⟩:=Kerb.skeys_of ka
  obtain ⟨ms,rfl,hms⟩:=Kerb.marks_of ma
  have hkT:=Kerb.skeys_all hks
  have hmT:=Kerb.marks_all hms
  simp only [Xy] at kl ml
  have hm2:msg.length≤140737488355328:=by omega
  obtain ⟨S,hS⟩:∃ S,Xz ⟨m1,m2,m3⟩ ks ⟨sz,fl,ms⟩ sk=S:=⟨_,rfl⟩
  obtain ⟨R,hR⟩:∃ R,(Yq msg).val=R:=⟨_,rfl⟩
  have hb:=Kerb.decodeAp_bd msg
  rw [hR] at hb
  have d1:R.ticket.length≤1000000:=by omega
  have d2:R.auth.length≤1000000:=by omega
  have hRe:Xm R.little R.mutual_ R.kvno R.realm R.ticket R.auth=R:=rfl
  have hs:=Kerb.verify_bd S R src now
  simp only [Kerb.map_toSKey,Kerb.map_toMark,Xy,hkT,hmT,kl,ml,l1,l2,l3,hm2,decide_true,Wq,hS,hR,hRe,d1,d2,hs,↓sInt,↓sU8,↓sBool,↓sStr,↓sBs,↓sSl,↓sAgg,↓sTup,↓sCons,↓sNil,↓sNilB,↓sChk,↓sChkBind,↓sSome]
  unfold Zj
  rw [hR]
  by_cases g1:(Yq msg).err=0
  case neg =>
   rw [sel_pos (by simpa using g1),if_pos g1]
   have q0:List.getD [Zz Yp 39,Zz Yp 40] (Int.toNat 0) AV.undef=Zz Yp 39:=rfl
   have q1:List.getD [Zz Yp 39,Zz Yp 40] (Int.toNat (Xw .i64 (0+1))) AV.undef=Zz Yp 40:=rfl
   rw [q0,onInt_int,q1,onInt_int]
   by_cases g2:(Yq msg).err=39
   ·rw [sel_pos (by simpa using g2),if_pos (.inl g2),← hS];rfl
   rw [sel_neg (by simpa using g2)]
   by_cases g3:(Yq msg).err=40
   ·rw [sel_pos (by simpa using g3),if_pos (.inr g3),← hS];rfl
   rw [sel_neg (by simpa using g3),if_neg (by simp [g2,g3]),← hS];rfl
  rw [sel_neg (by simpa using g1),if_neg (by simpa using g1)]
  obtain ⟨V,hV⟩:∃ V,Kerb.verify S R src now=V:=⟨_,rfl⟩
  have hno := @Kerb.verify_no S R src now
  rw [hV] at hno ⊢
  by_cases g4:V.err=0
  case neg =>
   have hn:=hno g4
   rw [sel_pos (by simpa using g4),if_pos g4,hn]
  rw [sel_neg (by simpa using g4),if_neg (by simpa using g4)]
  cases g5:R.mutual_
  ·rw [if_pos rfl,g4];rfl
  rw [if_neg (by simp),Xh,sel_false]
  unfold Kerb.Accepted.reply
  by_cases g6:(Xq V.a.session V.a.checksum V.a.time V.a.tick R.little).err=0
  case neg=>rw [sel_pos (by simpa using g6),if_pos g6,← hS];rfl
  rw [sel_neg (by simpa using g6),if_neg (by simpa using g6)]
 ·cases h
theorem p9  : runFn (G.env 9 15) G.rts (G.own 9) Tryz.f9 [] []=some (.bool true,[]):=by kernel_rfl
theorem w9:Walked Tryz.prog G 9 15 sp9:=by
 refine ⟨Tryz.f9,Tryz.func9,by decide +kernel,rfl,fun xs bl r h=> ?_⟩
 unfold sp9 at h
 split at h
 ·cases h;exact p9
 ·cases h
set_option maxHeartbeats 4000000 in
theorem w7:Walked Tryz.prog G 7 16 sp7:=by
 refine ⟨Tryz.f7,Tryz.func7,by decide +kernel,rfl,fun xs bl r h=> ?_⟩
 unfold sp7 at h
 split at h
 ·rename_i cu co cv cr lt tn mt cad cfr cis ctm ctk clf ccs cky ckv css ctt cau sz
  obtain ⟨hpre,h2⟩:=chk_inv h;cases h2
  refine Eq.trans (b:=(let t1:Int:=Int.tmod (Xw .i64 (↑(UInt8.toNat cad):Int)) 3;let t5:Kerb.Case:=Kerb.Case.mk cu (0:UInt8) (UInt8.ofNat (Int.toNat (Int.tmod (↑(UInt8.toNat cv):Int) (↑(UInt8.toNat (6:UInt8)):Int)))) (0:UInt8) lt tn mt cad cfr (10:UInt8) (10:UInt8) ctk (255:UInt8) ccs cky (0:UInt8) css 0 0;let t6:Int:=Int.tmod (Xw .i64 (↑(UInt8.toNat css):Int)) 4;let t4:Kerb.Server:=Kerb.Case.server t5 sz (75:UInt8);let t2:Bool:=decide (Zw (Zf (Zn t4))≤9223372036854775807)&&decide (Zw (Zg (Zn t4))≤9223372036854775807)&&decide (Zw (Zk (Zn t4))≤9223372036854775807);let t3:Kerb.Prin:=Yx (Zf (Zn t4)) (Zg (Zn t4)) (Zk (Zn t4));let t0:Kerb.Server:=Xz t3 (Yz Ww (Yz Wu (Xd t4))) (Xu (Wx (Zp t4)) (Wz (Zp t4)) (Yz Kerb.toMark (Yz Xn (Ym (Zp t4))))) (Kerb.Server.skew t4);Zv (chk (t2&&true&&true&&true&&decide (0≤ccs)&&decide (ccs≤4294967295)&&true&&true&&true&&true) (some (Yb (Kerb.Case.msg t5 t3 (Kerb.long 2) 2),[]))) (kB fun b=>Zv (chk (t2&&List.all (Yz Wu (Xd t4)) Kerb.isSKey&&decide (Zw (Yz Wu (Xd t4))≤1000000)&&List.all (Yz Xn (Ym (Zp t4))) Kerb.isMark&&decide (Zw (Yz Xn (Ym (Zp t4)))≤1000000)&&decide (Zw b≤1000000)) (some (Zq [Zb [Zy (Zf (Zn (Xx (Zj t0 b t1 1080)))),Zy (Zg (Zn (Xx (Zj t0 b t1 1080)))),Zy (Zk (Zn (Xx (Zj t0 b t1 1080)))),Xg 5 (Yz Wu (Xd (Xx (Zj t0 b t1 1080)))),Zz .i64 (Wx (Zp (Xx (Zj t0 b t1 1080)))),Zz .i64 (Wz (Zp (Xx (Zj t0 b t1 1080)))),Xg 5 (Yz Xn (Ym (Zp (Xx (Zj t0 b t1 1080))))),Zz .i64 (Kerb.Server.skew (Xx (Zj t0 b t1 1080)))],Zb [Zy (Zf (Yk (Yv (Zj t0 b t1 1080)))),Zy (Zg (Yk (Yv (Zj t0 b t1 1080)))),Zy (Zk (Yk (Yv (Zj t0 b t1 1080)))),Zz .u64 (Kerb.Accepted.session (Yv (Zj t0 b t1 1080))),Zz .i64 (Kerb.Accepted.address (Yv (Zj t0 b t1 1080))),Zz .i64 (Kerb.Accepted.checksum (Yv (Zj t0 b t1 1080))),Zz .i64 (Kerb.Accepted.time (Yv (Zj t0 b t1 1080))),Zz .i64 (Kerb.Accepted.tick (Yv (Zj t0 b t1 1080))),Zz .i64 (Kerb.Accepted.issued (Yv (Zj t0 b t1 1080))),Zz .i64 (Kerb.Accepted.life (Yv (Zj t0 b t1 1080))),Yb (Kerb.Accepted.ticket (Yv (Zj t0 b t1 1080))),Yb (Kerb.Accepted.auth (Yv (Zj t0 b t1 1080)))],Yb (Kerb.VRead.answer (Zj t0 b t1 1080)),Zz .i64 (Kerb.VRead.err (Zj t0 b t1 1080))],[]))) (kT fun vs=>onCons vs fun x r=>Yh x fun cs=>cStr cs fun b r_1=>cStr r_1 fun b r_2=>cStr r_2 fun b r_3=>cSl 5 r_3 fun b r_4=>cInt .i64 r_4 fun n r_5=>cInt .i64 r_5 fun n r_6=>cSl 5 r_6 fun b r_7=>cInt .i64 r_7 fun n r_8=>onNil r_8 (onCons r fun x r=>Yh x fun cs=>cStr cs fun b r_9=>cStr r_9 fun b r_10=>cStr r_10 fun b r_11=>cInt .u64 r_11 fun n r_12=>cInt .i64 r_12 fun n r_13=>cInt .i64 r_13 fun n r_14=>cInt .i64 r_14 fun n r_15=>cInt .i64 r_15 fun n_1 r_16=>cInt .i64 r_16 fun n_2 r_17=>cInt .i64 r_17 fun n_3 r_18=>cBs r_18 fun b r_19=>cBs r_19 fun b r_20=>onNil r_20 (cBs r fun b r=>cInt .i64 r fun n_4 r=>let t7:Option (AV×Blocks):=sel (n_4==0) (some (Zh ((↑(Zw b):Int)==0),[])) (some (Zh false,[]));onNil r (sel (!n_4==0) t7 (sel (!mt) t7 (Zv (chk (decide (Zw b≤140737488355328)) (some (Zq [Yb (Kerb.DecAns.val (Kerb.decodeAns b)),Zh (Kerb.DecAns.little (Kerb.decodeAns b)),Zz .i64 (Kerb.DecAns.err (Kerb.decodeAns b))],[]))) (kT fun vs=>cBs vs fun b r=>cBool r fun b_1 r=>cInt .i64 r fun n_5 r=>onNil r (Zv (chk (decide (0≤t6)&&decide (t6≤1000)) (some (Zz .u64 (Kerb.session t6),[]))) (kI .u64 fun n_6=>Zv (chk (decide (Zw b≤140737488355328)) (some (Zq [Yb (Prod.fst (Yf b 4 n_6)),Zh (Prod.snd (Yf b 4 n_6))],[]))) (kT fun vs=>cBs vs fun b r=>cBool r fun b_2 r=>onNil r (Zv (chk (decide (Zw b≤140737488355328)) (some (Zq [Zb [Zz .i64 (Kerb.Mutual.checksum (Zx (Wv b b_1))),Zz .i64 (Kerb.Mutual.tick (Zx (Wv b b_1))),Zz .i64 (Kerb.Mutual.time (Zx (Wv b b_1)))],Zz .i64 (Xp (Wv b b_1))],[]))) (kT fun vs=>onCons vs fun x r=>Yh x fun cs=>cInt .i64 cs fun n_7 r_21=>cInt .i64 r_21 fun n_8 r_22=>cInt .i64 r_22 fun n_9 r_23=>onNil r_23 (cInt .i64 r fun n_10 r=>onNil r (sel (n_5==0) (sel b_2 (sel (n_10==0) (sel (b_1==lt) (sel (Xw .u32 n_7==Xw .u32 (ccs+1)) (sel (n_8==n_1) (some (Zh (n_9==n),[])) (some (Zh false,[]))) (some (Zh false,[]))) (some (Zh false,[]))) (some (Zh false,[]))) (some (Zh false,[]))) (some (Zh false,[]))))))))))))))))):Option (AV×Blocks))) (by kernel_rfl) ?_
  delta kT kB kI
  try dsimp only [cStr,cBs,cBool,cU8,cInt,cSl,l63]
  simp only [Xb,decide_eq_true_eq] at hpre
  obtain ⟨⟨⟨⟨⟨c0,c1⟩,t0⟩,t1⟩,a0⟩,a1⟩:=hpre
  obtain ⟨sv,hsv⟩:∃ q,UInt8.ofNat (Int.toNat (Int.tmod (cv.toNat:Int) ((6:UInt8).toNat:Int)))=q:=⟨_,rfl⟩
  have hsv6:sv.toNat<6:=by
   rw [← hsv,show Int.toNat (Int.tmod (cv.toNat:Int) ((6:UInt8).toNat:Int))=cv.toNat % 6 from Kerb.tmod_u8 cv 6 (by omega)]
   simp
   omega
  obtain ⟨C,hC⟩:∃ C,Kerb.Case.mk cu 0 sv 0 lt tn mt cad cfr 10 10 ctk 255 ccs cky 0 css 0 0=C:=⟨_,rfl⟩
  have hCs:C.still sv=C:=by rw [← hC];rfl
  have hok:C.ok:=by rw [← hC];exact ⟨Kerb.isU32_iff.2 ⟨c0,c1⟩,rfl,rfl⟩
  obtain ⟨h1,h2,h3,h4,h5⟩:=Kerb.still_read (c:=C) (sv:=sv) (size:=sz) hok hsv6
  rw [hCs] at h1
  have g1:C.mutual_=mt:=by rw [← hC]
  have g2:C.little=lt:=by rw [← hC]
  have g3:C.checksum=ccs:=by rw [← hC]
  have g4:C.ses=Kerb.session (Yn css % 4):=by rw [← hC];rfl
  have g5:C.tick=ctk:=by rw [← hC]
  have g6:C.address=cad:=by rw [← hC]
  rw [g6] at h1
  obtain ⟨s,hs0⟩:∃ s,C.server sz 75=s:=⟨_,rfl⟩
  have hs:Kerb.Reached s:=hs0 ▸ Kerb.reached_server _ _ _
  have hme:C.me=s.me:=by rw [← hs0];rfl
  rw [hs0,hme] at h1
  have e1:=hs.name.1
  have e2:=hs.name.2.1
  have e3:=hs.name.2.2
  have hkT:=Kerb.skeys_all hs.keys
  have hmT:=Kerb.marks_all hs.marks
  have kl:=hs.lens.1
  have ml:=hs.lens.2
  have hS:Xz ⟨s.me.name,s.me.inst,s.me.realm⟩ s.keys ⟨s.replay.size,s.replay.floor,s.replay.marks⟩ s.skew=s:=rfl
  have lm:=Kerb.msg18_len C s.me (Kerb.long 2) 2
  obtain ⟨M,hM2⟩:∃ M,C.msg s.me (Kerb.long 2) 2=M:=⟨_,rfl⟩
  rw [hM2] at lm h1
  have lM:M.length≤1000000:=by omega
  obtain ⟨V,hV⟩:∃ V,Zj s M (Yn cad % 3) 1080=V:=⟨_,rfl⟩
  rw [hV] at h1
  have v1:V.err=0:=by rw [h1]
  have v2:V.answer=cond mt (Xq C.ses C.checksum 1080 (Yn C.tick % 3) C.little).val []:=by rw [h1,g1]
  have v3:V.a.tick=Yn C.tick % 3:=by rw [h1]
  have v4:V.a.time=1080:=by rw [h1]
  have b1:=Kerb.u8i_bd cad
  have b2:=Kerb.u8i_bd css
  have z1:Int.tmod (Yn cad) 3=Yn cad % 3:=Int.tmod_eq_emod_of_nonneg b1.1
  have z2:Int.tmod (Yn css) 4=Yn css % 4:=Int.tmod_eq_emod_of_nonneg b2.1
  have z3:(decide ((0:Int)≤Yn css % 4)&&decide (Yn css % 4≤1000))=true:=by simp;omega
  have hMm:Yx s.me.name s.me.inst s.me.realm=s.me:=rfl
  simp (config:={maxSteps:=10000000}) only [hsv,hC,hs0,hMm,hM2,lM,hV,v1,v3,v4,c0,c1,Kerb.wrap_u8i,z1,z2,z3,BEq.rfl,Xh,↓sTrue,↓sFalse,e1,e2,e3,hkT,hmT,kl,ml,hS,Kerb.map_toSKey,Kerb.map_toMark,Xy,decide_true,Wq,Bool.true_and,Bool.and_true,↓sInt,↓sU8,↓sBool,↓sStr,↓sBs,↓sSl,↓sAgg,↓sTup,↓sCons,↓sNil,↓sNilB,↓sChk,↓sChkBind,↓sSome]
  cases hmt:mt
  ·rw [hmt,cond_false] at v2
   rw [v2]
   rfl
  rw [hmt,cond_true] at v2
  have lA:=Kerb.serviceAnswer_len C.ses C.checksum 1080 (Yn C.tick % 3) C.little
  obtain ⟨A,hA⟩:∃ A,(Xq C.ses C.checksum 1080 (Yn C.tick % 3) C.little).val=A:=⟨_,rfl⟩
  rw [hA] at v2 h3 lA
  obtain ⟨B,hB⟩:∃ B,(Kerb.makeBox 4 C.ses (Kerb.encodeMutual ⟨Kerb.nextSum C.checksum,Yn C.tick % 3,1080⟩ C.little).val).val=B:=⟨_,rfl⟩
  rw [hB] at h3 h4
  have lB:=Kerb.decodeAns_len A
  rw [h3] at lB
  dsimp only at lB
  obtain ⟨D,hD⟩:∃ D,(Kerb.encodeMutual ⟨Kerb.nextSum C.checksum,Yn C.tick % 3,1080⟩ C.little).val=D:=⟨_,rfl⟩
  have lD:=Kerb.encodeMutual_len ⟨Kerb.nextSum C.checksum,Yn C.tick % 3,1080⟩ C.little
  rw [hD] at h4 h5 lD
  rw [g4] at h4
  have lA2:A.length≤140737488355328:=by omega
  have lB2:B.length≤140737488355328:=by omega
  have lD2:D.length≤140737488355328:=by omega
  rw [g2] at h3 h5
  have hw:(Xw .u32 (Kerb.nextSum C.checksum)==Xw .u32 (ccs+1))=true:=by
   rw [g3,Kerb.wrap_u32,Kerb.wrap_u32]
   unfold Kerb.nextSum
   simp
  simp (config:={maxSteps:=10000000}) only [v2,h3,h4,h5,hw,lA2,lB2,lD2,decide_true,BEq.rfl,Xh,↓sTrue,↓sFalse,↓sInt,↓sU8,↓sBool,↓sStr,↓sBs,↓sSl,↓sAgg,↓sTup,↓sCons,↓sNil,↓sNilB,↓sChk,↓sChkBind,↓sSome]
 ·cases h
end Go.Proofs.YtiplnpablmohiaaGreat
