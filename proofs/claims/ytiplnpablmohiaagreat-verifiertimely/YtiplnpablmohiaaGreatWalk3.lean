/- What the functions of this seat compute. -/
import Derived.Test.YtiplnpablmohiaaGreatTab
import Derived.Test.YtiplnpablmohiaaGreatKerbPlain
import Derived.Test.YtiplnpablmohiaaGreatAbsStep
import Derived.Test.YtiplnpablmohiaaGreatKerbCli7
import Derived.Test.YtiplnpablmohiaaGreatKerbCli3
import Derived.Test.YtiplnpablmohiaaGreatKerbCli4
import Derived.Test.YtiplnpablmohiaaGreatKerbKac4
import Derived.Test.YtiplnpablmohiaaGreatKerbVerL
open Go.Abs.AV renaming int→Zz,str→Zw,sl→Zg,bool→Zh,agg→Yk,bs→Yp
open Kerb renaming u8i→Zy,decodeAp→Zk,Server→Yu
open Go.IntKind renaming wrap→Zx,i64→Zq
open List renaming length→Zv,map→Zn,all→Yv,length_map→Yj
open Kerb.Server renaming replay→Zu,me→Zp,mk→Zb
open Option renaming bind→Zj
open Kerb.Accepted renaming client→Zd
open Int renaming tmod_eq_emod_of_nonneg→Zf
open Kerb.Prin renaming realm→Zm,name→Yz,inst→Yy,mk→Yx
open Kerb.ApRequest renaming mk→Yw
open Kerb.Dec renaming val→Yq
open Kerb.SKey renaming av→Yd
open Kerb.Mark renaming av→Yf
namespace Go.Proofs.YtiplnpablmohiaaGreat
open Go Go.Abs Go.Proofs
set_option linter.unusedVariables false
set_option linter.unusedSimpArgs false
set_option maxRecDepth 100000
theorem w14:Walked Tryz.prog G 14 14 sp14:=by
 refine ⟨Tryz.f14,Tryz.func14,by decide +kernel,rfl,fun xs bl r h=> ?_⟩
 unfold sp14 at h
 split at h
 ·rename_i m1 m2 m3 kls sz fl mls sk msg src now
  obtain ⟨hpre,h2⟩:=chk_inv h;cases h2
  refine Eq.trans (b:=(let t0:Yu:=Zb (Yx m1 m2 m3) (Zn Kerb.toSKey kls) (Kerb.RCache.mk sz fl (Zn Kerb.toMark mls)) sk;let t1:Option (AV×Blocks):=chk (decide (Zv kls≤1000000)&&decide (Zv mls≤1000000)) (some (Yk [Zw m1,Zw m2,Zw m3,Zg 5 kls,Zz .i64 sz,Zz .i64 fl,Zg 5 mls,Zz .i64 sk],[]));let t2:AV:=Yk [Zw [],Zw [],Zw [],Zz .u64 0,Zz .i64 0,Zz .i64 0,Zz .i64 0,Zz .i64 0,Zz .i64 0,Zz .i64 0,Yp [],Yp []];Zj (chk (decide (Zv msg≤140737488355328)) (some (AV.tup [Yk [Zh (Kerb.ApRequest.little (Yq (Zk msg))),Zh (Kerb.ApRequest.mutual_ (Yq (Zk msg))),Zz .i64 (Kerb.ApRequest.kvno (Yq (Zk msg))),Zw (Kerb.ApRequest.realm (Yq (Zk msg))),Yp (Kerb.ApRequest.ticket (Yq (Zk msg))),Yp (Kerb.ApRequest.auth (Yq (Zk msg)))],Zz .i64 (Kerb.Dec.err (Zk msg))],[]))) (kT fun vs=>onCons vs fun x r=>AV.onAgg x fun cs=>cBool cs fun b r_1=>cBool r_1 fun b_1 r_2=>cInt .i64 r_2 fun n r_3=>cStr r_3 fun b_2 r_4=>cBs r_4 fun b_3 r_5=>cBs r_5 fun b_4 r_6=>let t5:Kerb.Verified:=Kerb.verify t0 (Yw b b_1 n b_2 b_3 b_4) src now;let t3:Kerb.Accepted:=Kerb.Verified.a t5;let t4:Yu:=Kerb.Verified.s t5;onNil r_6 (cInt .i64 r fun n r=>let t6:Option (AV×Blocks):=Zj t1 (kA fun cs=>cStr cs fun b r=>cStr r fun b_5 r=>cStr r fun b_6 r=>cSl 5 r fun b_7 r=>cInt .i64 r fun n_1 r=>cInt .i64 r fun n_2 r=>cSl 5 r fun b_8 r=>cInt .i64 r fun n_3 r=>onNil r (some (AV.tup [Yk [Zw b,Zw b_5,Zw b_6,Zg 5 b_7,Zz .i64 n_1,Zz .i64 n_2,Zg 5 b_8,Zz .i64 n_3],t2,Yp [],Zz .i64 n],[])));onNil r (sel (!n==0) (AV.onInt .i64 (List.getD [Zz .i64 39,Zz .i64 40] (Int.toNat 0) AV.undef) fun n_1=>sel (n==n_1) t6 (AV.onInt .i64 (List.getD [Zz .i64 39,Zz .i64 40] (Int.toNat (Zx .i64 (0+1))) AV.undef) fun n_2=>sel (n==n_2) t6 (Zj t1 (kA fun cs=>cStr cs fun b r=>cStr r fun b_5 r=>cStr r fun b_6 r=>cSl 5 r fun b_7 r=>cInt .i64 r fun n r=>cInt .i64 r fun n_3 r=>cSl 5 r fun b_8 r=>cInt .i64 r fun n_4 r=>onNil r (some (AV.tup [Yk [Zw b,Zw b_5,Zw b_6,Zg 5 b_7,Zz .i64 n,Zz .i64 n_3,Zg 5 b_8,Zz .i64 n_4],t2,Yp [],Zz .i64 31],[])))))) (Zj (chk (l63 m1&&l63 m2&&l63 m3&&Yv kls Kerb.isSKey&&decide (Zv kls≤1000000)&&Yv mls Kerb.isMark&&decide (Zv mls≤1000000)&&decide (Zv b_3≤1000000)&&decide (Zv b_4≤1000000)) (some (AV.tup [Yk [Zw (Yz (Zp t4)),Zw (Yy (Zp t4)),Zw (Zm (Zp t4)),Zg 5 (Zn Yd (Kerb.Server.keys t4)),Zz .i64 (Kerb.RCache.size (Zu t4)),Zz .i64 (Kerb.RCache.floor (Zu t4)),Zg 5 (Zn Yf (Kerb.RCache.marks (Zu t4))),Zz .i64 (Kerb.Server.skew t4)],Yk [Zw (Yz (Zd t3)),Zw (Yy (Zd t3)),Zw (Zm (Zd t3)),Zz .u64 (Kerb.Accepted.session t3),Zz .i64 (Kerb.Accepted.address t3),Zz .i64 (Kerb.Accepted.checksum t3),Zz .i64 (Kerb.Accepted.time t3),Zz .i64 (Kerb.Accepted.tick t3),Zz .i64 (Kerb.Accepted.issued t3),Zz .i64 (Kerb.Accepted.life t3),Yp (Kerb.Accepted.ticket t3),Yp (Kerb.Accepted.auth t3)],Zz .i64 (Kerb.Verified.err t5)],[]))) (kT fun vs=>onCons vs fun x r=>AV.onAgg x fun cs=>cStr cs fun b_5 r_7=>cStr r_7 fun b_6 r_8=>cStr r_8 fun b_7 r_9=>cSl 5 r_9 fun b_8 r_10=>cInt .i64 r_10 fun n r_11=>cInt .i64 r_11 fun n_1 r_12=>cSl 5 r_12 fun b_9 r_13=>cInt .i64 r_13 fun n_2 r_14=>let t7:AV:=Yk [Zw b_5,Zw b_6,Zw b_7,Zg 5 b_8,Zz .i64 n,Zz .i64 n_1,Zg 5 b_9,Zz .i64 n_2];onNil r_14 (onCons r fun x r=>AV.onAgg x fun cs=>cStr cs fun b_10 r_15=>cStr r_15 fun b_11 r_16=>cStr r_16 fun b_12 r_17=>cInt .u64 r_17 fun n r_18=>cInt .i64 r_18 fun n_3 r_19=>cInt .i64 r_19 fun n_4 r_20=>cInt .i64 r_20 fun n_5 r_21=>cInt .i64 r_21 fun n_6 r_22=>cInt .i64 r_22 fun n_7 r_23=>cInt .i64 r_23 fun n_8 r_24=>cBs r_24 fun b_13 r_25=>cBs r_25 fun b_14 r_26=>let t8:AV:=Yk [Zw b_10,Zw b_11,Zw b_12,Zz .u64 n,Zz .i64 n_3,Zz .i64 n_4,Zz .i64 n_5,Zz .i64 n_6,Zz .i64 n_7,Zz .i64 n_8,Yp b_13,Yp b_14];onNil r_26 (cInt .i64 r fun n_9 r=>let t9:Option (AV×Blocks):=some (AV.tup [t7,t8,Yp [],Zz .i64 n_9],[]);onNil r (sel (!n_9==0) t9 (sel (!b_1) t9 (Zj (chk (decide (0≤n)&&decide (n<18446744073709551616)) (some (AV.tup [Yp (Kerb.Enc.val (Kerb.serviceAnswer n n_4 n_5 n_6 b)),Zz .i64 (Kerb.Enc.err (Kerb.serviceAnswer n n_4 n_5 n_6 b))],[]))) (kT fun vs=>cBs vs fun b r=>cInt .i64 r fun n r=>onNil r (sel (!n==0) (Zj t1 (kA fun cs=>cStr cs fun b r=>cStr r fun b_15 r=>cStr r fun b_16 r=>cSl 5 r fun b_17 r=>cInt .i64 r fun n_10 r=>cInt .i64 r fun n_11 r=>cSl 5 r fun b_18 r=>cInt .i64 r fun n_12 r=>onNil r (some (AV.tup [Yk [Zw b,Zw b_15,Zw b_16,Zg 5 b_17,Zz .i64 n_10,Zz .i64 n_11,Zg 5 b_18,Zz .i64 n_12],t2,Yp [],Zz .i64 n],[])))) (some (AV.tup [t7,t8,Yp b,Zz .i64 0],[])))))))))))))):Option (AV×Blocks))) (by kernel_rfl) ?_
  delta kT kA
  try dsimp only [cStr,cBs,cBool,cU8,cInt,cSl,l63]
  simp only [Bool.and_eq_true,decide_eq_true_eq] at hpre
  obtain ⟨⟨⟨⟨⟨⟨⟨l1,l2⟩,l3⟩,ka⟩,kl⟩,ma⟩,ml⟩,hm⟩:=hpre
  obtain ⟨ks,rfl,hks⟩:=Kerb.skeys_of ka
  obtain ⟨ms,rfl,hms⟩:=Kerb.marks_of ma
  have hkT:=Kerb.skeys_all hks
  have hmT:=Kerb.marks_all hms
  simp only [Yj] at kl ml
  have hm2:msg.length≤140737488355328:=by omega
  obtain ⟨S,hS⟩:∃ S,Zb ⟨m1,m2,m3⟩ ks ⟨sz,fl,ms⟩ sk=S:=⟨_,rfl⟩
  obtain ⟨R,hR⟩:∃ R,(Zk msg).val=R:=⟨_,rfl⟩
  have hb:=Kerb.decodeAp_bd msg
  rw [hR] at hb
  have d1:R.ticket.length≤1000000:=by omega
  have d2:R.auth.length≤1000000:=by omega
  have hRe:Yw R.little R.mutual_ R.kvno R.realm R.ticket R.auth=R:=rfl
  have hs:=Kerb.verify_bd S R src now
  simp only [Kerb.map_toSKey,Kerb.map_toMark,Yj,hkT,hmT,kl,ml,l1,l2,l3,hm2,decide_true,Bool.and_self,hS,hR,hRe,d1,d2,hs,↓sInt,↓sU8,↓sBool,↓sStr,↓sBs,↓sSl,↓sAgg,↓sTup,↓sCons,↓sNil,↓sNilB,↓sChk,↓sChkBind,↓sSome]
  unfold Kerb.vRead
  rw [hR]
  by_cases g1:(Zk msg).err=0
  case neg =>
   rw [sel_pos (by simpa using g1),if_pos g1]
   have q0:List.getD [Zz Zq 39,Zz Zq 40] (Int.toNat 0) AV.undef=Zz Zq 39:=rfl
   have q1:List.getD [Zz Zq 39,Zz Zq 40] (Int.toNat (Zx .i64 (0+1))) AV.undef=Zz Zq 40:=rfl
   rw [q0,onInt_int,q1,onInt_int]
   by_cases g2:(Zk msg).err=39
   ·rw [sel_pos (by simpa using g2),if_pos (.inl g2),← hS];rfl
   rw [sel_neg (by simpa using g2)]
   by_cases g3:(Zk msg).err=40
   ·rw [sel_pos (by simpa using g3),if_pos (.inr g3),← hS];rfl
   rw [sel_neg (by simpa using g3),if_neg (by simp [g2,g3]),← hS];rfl
  rw [sel_neg (by simpa using g1),if_neg (by simpa using g1)]
  obtain ⟨V,hV⟩:∃ V,Kerb.verify S R src now=V:=⟨_,rfl⟩
  have hno := @Kerb.verify_no S R src now
  rw [hV] at hno ⊢
  by_cases g4:V.err=0
  case neg =>
   have hn:=hno g4
   rw [sel_pos (by simpa using g4),if_pos g4,hn]
  rw [sel_neg (by simpa using g4),if_neg (by simpa using g4)]
  cases g5:R.mutual_
  ·rw [if_pos rfl,g4];rfl
  rw [if_neg (by simp),Bool.not_true,sel_false]
  unfold Kerb.Accepted.reply
  by_cases g6:(Kerb.serviceAnswer V.a.session V.a.checksum V.a.time V.a.tick R.little).err=0
  case neg=>rw [sel_pos (by simpa using g6),if_pos g6,← hS];rfl
  rw [sel_neg (by simpa using g6),if_neg (by simpa using g6)]
 ·cases h
theorem p9  : runFn (G.env 9 15) G.rts (G.own 9) Tryz.f9 [] []=some (.bool true,[]):=by kernel_rfl
theorem w9:Walked Tryz.prog G 9 15 sp9:=by
 refine ⟨Tryz.f9,Tryz.func9,by decide +kernel,rfl,fun xs bl r h=> ?_⟩
 unfold sp9 at h
 split at h
 ·cases h;exact p9
 ·cases h
set_option maxHeartbeats 8000000 in
theorem w5:Walked Tryz.prog G 5 16 sp5:=by
 refine ⟨Tryz.f5,Tryz.func5,by decide +kernel,rfl,fun xs bl r h=> ?_⟩
 unfold sp5 at h
 split at h
 ·rename_i cu co cv cr lt tn mt cad cfr cis ctm ctk clf ccs cky ckv css ctt cau sz sk ls
  obtain ⟨hpre,h2⟩:=chk_inv h;cases h2
  refine Eq.trans (b:=(let t0:Yu:=Kerb.Case.server (Kerb.Case.mk cu co cv cr lt tn mt cad cfr cis ctm ctk clf ccs cky ckv css ctt cau) sz sk;sel (decide ((↑(Zv ls):Int)>30)) (some (Zh true,[])) (Zj (loopM (fun (st:List AV)=>cSl 19 st fun b r=>cBool r fun b_1 r=>cStr r fun b_2 r=>cStr r fun b_3 r=>cStr r fun b_4 r=>let t1:Bool:=l63 b_2&&l63 b_3&&l63 b_4;cSl 5 r fun b_5 r=>cInt .i64 r fun n r=>cInt .i64 r fun n_1 r=>cSl 5 r fun b_6 r=>cInt .i64 r fun n_2 r=>let t2:Yu:=Zb (Yx b_2 b_3 b_4) (Zn Kerb.toSKey b_5) (Kerb.RCache.mk n n_1 (Zn Kerb.toMark b_6)) n_2;cInt .i64 r fun n_3 r=>let t4:List AV:=[Zw b_2,Zw b_3,Zw b_4,Zg 5 b_5,Zz .i64 n,Zz .i64 n_1,Zg 5 b_6,Zz .i64 n_2,Zz .i64 n_3];let t3:Option (List AV ⊕ Ex×List AV):=some (Sum.inr (Ex.ret,Zg 19 b::Zh false::t4));onNil r (sel (decide (n_3<(↑(Zv b):Int))) (chk (decide (0≤n_3)&&decide (n_3<(↑(Zv b):Int))&&true) (AV.onAgg (List.getD b (Int.toNat n_3) AV.undef) fun cs=>cU8 cs fun b_7 r=>let t5:Int:=Int.tmod (Zx .i64 (↑(UInt8.toNat b_7):Int)) 6;cU8 r fun b_8 r=>cU8 r fun b_9 r=>cU8 r fun b_10 r=>cBool r fun b_11 r=>cBool r fun b_12 r=>cBool r fun b_13 r=>cU8 r fun b_14 r=>cU8 r fun b_15 r=>let t6:Int:=Zx .i64 (1000+Zx .i64 (Zx .i64 (↑(UInt8.toNat b_15):Int)*8));let t7:Int:=Int.tmod (Zx .i64 (↑(UInt8.toNat b_15):Int)) 4;cU8 r fun b_16 r=>cU8 r fun b_17 r=>cU8 r fun b_18 r=>cU8 r fun b_19 r=>cInt .u32 r fun n_4 r=>cU8 r fun b_20 r=>let t8:Int:=Zx .i64 (1+Int.tmod (Zx .i64 (↑(UInt8.toNat b_20):Int)) 2);cU8 r fun b_21 r=>cU8 r fun b_22 r=>let t9:Kerb.Case:=Kerb.Case.mk b_7 b_8 b_9 b_10 b_11 b_12 b_13 b_14 b_15 b_16 b_17 b_18 b_19 n_4 b_20 b_21 b_22 0 0;cInt .u16 r fun n_5 r=>cInt .u16 r fun n_6 r=>onNil r (Zj (chk (decide (0≤t8)&&decide (t8≤1000)) (some (Zz .u64 (Kerb.long t8),[]))) (kI .u64 fun n_7=>let t10:Kerb.ApRequest:=Kerb.Case.req t9 (Yx b_2 b_3 b_4) n_7 t8;Zj (chk (t1&&Kerb.isU64 n_7&&decide (0≤t8)&&decide (t8≤1000)&&decide (0≤n_4)&&decide (n_4≤4294967295)&&true&&true&&true&&true) (some (Yk [Zh (Kerb.ApRequest.little t10),Zh (Kerb.ApRequest.mutual_ t10),Zz .i64 (Kerb.ApRequest.kvno t10),Zw (Kerb.ApRequest.realm t10),Yp (Kerb.ApRequest.ticket t10),Yp (Kerb.ApRequest.auth t10)],[]))) (kA fun cs=>cBool cs fun b_23 r=>cBool r fun b_24 r=>cInt .i64 r fun n_8 r=>cStr r fun b_25 r=>cBs r fun b_26 r=>cBs r fun b_27 r=>let t13:Kerb.Verified:=Kerb.verify t2 (Yw b_23 b_24 n_8 b_25 b_26 b_27) t7 t6;let t11:Kerb.Accepted:=Kerb.Verified.a t13;let t12:Yu:=Kerb.Verified.s t13;onNil r (Zj (chk (t1&&Yv b_5 Kerb.isSKey&&decide (Zv b_5≤1000000)&&Yv b_6 Kerb.isMark&&decide (Zv b_6≤1000000)&&decide (Zv b_26≤1000000)&&decide (Zv b_27≤1000000)) (some (AV.tup [Yk [Zw (Yz (Zp t12)),Zw (Yy (Zp t12)),Zw (Zm (Zp t12)),Zg 5 (Zn Yd (Kerb.Server.keys t12)),Zz .i64 (Kerb.RCache.size (Zu t12)),Zz .i64 (Kerb.RCache.floor (Zu t12)),Zg 5 (Zn Yf (Kerb.RCache.marks (Zu t12))),Zz .i64 (Kerb.Server.skew t12)],Yk [Zw (Yz (Zd t11)),Zw (Yy (Zd t11)),Zw (Zm (Zd t11)),Zz .u64 (Kerb.Accepted.session t11),Zz .i64 (Kerb.Accepted.address t11),Zz .i64 (Kerb.Accepted.checksum t11),Zz .i64 (Kerb.Accepted.time t11),Zz .i64 (Kerb.Accepted.tick t11),Zz .i64 (Kerb.Accepted.issued t11),Zz .i64 (Kerb.Accepted.life t11),Yp (Kerb.Accepted.ticket t11),Yp (Kerb.Accepted.auth t11)],Zz .i64 (Kerb.Verified.err t13)],[]))) (kT fun vs=>onCons vs fun x r=>AV.onAgg x fun cs=>cStr cs fun b_28 r_1=>cStr r_1 fun b_29 r_2=>cStr r_2 fun b_30 r_3=>cSl 5 r_3 fun b_31 r_4=>cInt .i64 r_4 fun n_9 r_5=>cInt .i64 r_5 fun n_10 r_6=>cSl 5 r_6 fun b_32 r_7=>cInt .i64 r_7 fun n_11 r_8=>onNil r_8 (onCons r fun x r=>AV.onAgg x fun cs=>cStr cs fun b_33 r_9=>cStr r_9 fun b_34 r_10=>cStr r_10 fun b_35 r_11=>cInt .u64 r_11 fun n_12 r_12=>cInt .i64 r_12 fun n_13 r_13=>cInt .i64 r_13 fun n_14 r_14=>cInt .i64 r_14 fun n_15 r_15=>cInt .i64 r_15 fun n_16 r_16=>cInt .i64 r_16 fun n_17 r_17=>cInt .i64 r_17 fun n_18 r_18=>let t14:Int:=Zx .i64 (Zx .i64 (n_17+Zx .i64 (300*Zx .i64 (n_18+1)))+n_2);cBs r_18 fun b_36 r_19=>cBs r_19 fun b_37 r_20=>onNil r_20 (cInt .i64 r fun n_19 r=>onNil r (sel (!n_19==0) (Zj (chk (Yv b_31 Kerb.isSKey&&decide (Zv b_31≤1000000)&&Yv b_32 Kerb.isMark&&decide (Zv b_32≤1000000)&&Yv b_5 Kerb.isSKey&&Yv b_6 Kerb.isMark) (some (Zh (Kerb.Server.same (Zb (Yx b_28 b_29 b_30) (Zn Kerb.toSKey b_31) (Kerb.RCache.mk n_9 n_10 (Zn Kerb.toMark b_32)) n_11) t2),[]))) (kL fun b_38=>sel (!b_38) t3 (some (Sum.inl [Zg 19 b,Zh b_1,Zw b_2,Zw b_3,Zw b_4,Zg 5 b_5,Zz .i64 n,Zz .i64 n_1,Zg 5 b_6,Zz .i64 n_2,Zz .i64 (Zx .i64 (n_3+1))])))) (sel (decide (Zx .i64 (n_15-t6)>n_2)) t3 (sel (decide (Zx .i64 (t6-n_15)>n_2)) t3 (sel (decide (Zx .i64 (n_17-n_2)>t6)) t3 (sel (decide (t6>t14)) t3 (sel (!n_13==t7) t3 (Zj (chk (decide (0≤t5)&&decide (t5≤4611686018427387904)) (some (Yk [Zw (Yz (Kerb.user t5)),Zw (Yy (Kerb.user t5)),Zw (Zm (Kerb.user t5))],[]))) (kA fun cs=>cStr cs fun b_38 r=>cStr r fun b_39 r=>cStr r fun b_40 r=>onNil r (sel (!(b_33==b_38&&(b_34==b_39&&b_35==b_40))) t3 (sel (!b_36==b_26) t3 (sel (!b_37==b_27) t3 (sel (decide ((↑(Zv b_32):Int)>Zx .i64 ((↑(Zv b_6):Int)+1))) t3 (sel (decide ((↑(Zv b_32):Int)>n_9)) t3 (Zj (chk (l63 b_28&&l63 b_29&&l63 b_30&&Yv b_31 Kerb.isSKey&&decide (Zv b_31≤1000000)&&Yv b_32 Kerb.isMark&&decide (Zv b_32≤1000000)) (some (Zz .i64 (Kerb.Server.err (Zb (Yx b_28 b_29 b_30) (Zn Kerb.toSKey b_31) (Kerb.RCache.mk n_9 n_10 (Zn Kerb.toMark b_32)) n_11)),[]))) (kI .i64 fun n=>sel (!n==0) t3 (some (Sum.inl [Zg 19 b,Zh b_1,Zw b_28,Zw b_29,Zw b_30,Zg 5 b_31,Zz .i64 n_9,Zz .i64 n_10,Zg 5 b_32,Zz .i64 n_11,Zz .i64 (Zx .i64 (n_3+1))])))))))))))))))))))))))))) (some (Sum.inr (Ex.exit 0,Zg 19 b::Zh b_1::t4))))) [Zg 19 ls,Zh false,Zw (Yz (Zp t0)),Zw (Yy (Zp t0)),Zw (Zm (Zp t0)),Zg 5 (Zn Yd (Kerb.Server.keys t0)),Zz .i64 (Kerb.RCache.size (Zu t0)),Zz .i64 (Kerb.RCache.floor (Zu t0)),Zg 5 (Zn Yf (Kerb.RCache.marks (Zu t0))),Zz .i64 (Kerb.Server.skew t0),Zz .i64 0]) fun (r:Ex×List AV)=>cSl 19 (Prod.snd r) fun b r_1=>cBool r_1 fun b r_2=>cStr r_2 fun b_1 r_3=>cStr r_3 fun b_2 r_4=>cStr r_4 fun b_3 r_5=>cSl 5 r_5 fun b_4 r_6=>cInt .i64 r_6 fun n r_7=>cInt .i64 r_7 fun n r_8=>cSl 5 r_8 fun b_5 r_9=>cInt .i64 r_9 fun n r_10=>cInt .i64 r_10 fun n r_11=>onNil r_11 (exK r.1 (some (Zh b,[])) fun (j:Nat)=>sel (Nat.beq j 0) (some (Zh true,[])) none)):Option (AV×Blocks))) (by kernel_rfl) ?_
  delta kT kA kL kI
  try dsimp only [cStr,cBs,cBool,cU8,cInt,cSl,l63]
  simp only [Bool.and_eq_true,decide_eq_true_eq] at hpre
  obtain ⟨⟨⟨⟨⟨⟨hall,c0⟩,c1⟩,t0⟩,t1⟩,a0⟩,a1⟩:=hpre
  obtain ⟨cs,rfl,hok⟩:=Kerb.cases_of hall
  simp only [Yj]
  by_cases q1:((cs.length:Nat):Int)>30
  ·rw [sel_pos (by simpa using q1)]
  rw [sel_neg (by simpa using q1)]
  refine loop_rounds (fun q:Nat×Yu=>[Zg 19 (cs.map Kerb.Case.av),Zh false,Zw (q.2).me.name,Zw (q.2).me.inst,Zw (q.2).me.realm,Zg 5 ((q.2).keys.map Yd),Zz Zq ((q.2).replay).size,Zz Zq ((q.2).replay).floor,Zg 5 (((q.2).replay).marks.map Yf),Zz Zq (q.2).skew,Zz Zq (q.1:Int)]) (fun q=>q.1≤cs.length∧Kerb.Reached q.2) (fun q=>cs.length-q.1)
   (fun r=>∃ q:Nat×Yu,r=(Ex.exit 0,[Zg 19 (cs.map Kerb.Case.av),Zh false,Zw (q.2).me.name,Zw (q.2).me.inst,Zw (q.2).me.realm,Zg 5 ((q.2).keys.map Yd),Zz Zq ((q.2).replay).size,Zz Zq ((q.2).replay).floor,Zg 5 (((q.2).replay).marks.map Yf),Zz Zq (q.2).skew,Zz Zq (q.1:Int)])) (0,Kerb.Case.server (Kerb.Case.mk cu co cv cr lt tn mt cad cfr cis ctm ctk clf ccs cky ckv css ctt cau) sz sk) ⟨Nat.zero_le _,Kerb.reached_server _ _ _⟩ rfl ?_ ?_
  ·rintro ⟨i,s⟩ ⟨hi,hs⟩
   dsimp only at hi hs
   simp (config:={maxSteps:=10000000}) only [Yj,↓sInt,↓sU8,↓sBool,↓sStr,↓sBs,↓sSl,↓sAgg,↓sTup,↓sCons,↓sNil,↓sNilB,↓sChk,↓sChkBind,↓sSome]
   by_cases hlt:i<cs.length
   case neg =>
    rw [sel_neg (by simp;omega)]
    exact ⟨_,rfl,(i,s),rfl⟩
   rw [sel_pos (by simp;omega)]
   obtain ⟨c,hc⟩:∃ c,cs.getD i Kerb.noCase=c:=⟨_,rfl⟩
   have hco:c.ok:=hok c (hc ▸ Kerb.mem_row hlt)
   have hg:(cs.map Kerb.Case.av).getD i AV.undef=c.av:=by rw [Kerb.getD_row (d:=Kerb.noCase) hlt,hc]
   have o1:=Kerb.isU32_iff.1 hco.1
   have o2:=Kerb.isU16_iff.1 hco.2.1
   have o3:=Kerb.isU16_iff.1 hco.2.2
   have bk:=Kerb.u8i_bd c.key
   have bf:=Kerb.u8i_bd c.src
   have ba:=Kerb.u8i_bd c.address
   have z1:Int.tmod (Zy c.key) 16=Zy c.key % 16:=Zf bk.1
   have z2:Int.tmod (Zy c.key) 2=Zy c.key % 2:=Zf bk.1
   have z3:Zx .i64 (Int.tdiv (Zy c.key % 16) 15)=Zy c.key % 16 / 15:=by rw [Int.tdiv_eq_ediv_of_nonneg (by omega)];exact wrap_i64 (by omega) (by omega)
   have z4:Zx .i64 (1+Zy c.key % 16 / 15)=1+Zy c.key % 16 / 15:=wrap_i64 (by omega) (by omega)
   have z5:Zx .i64 (1+Zy c.key % 16 / 15+Zy c.key % 2)=1+Zy c.key % 16 / 15+Zy c.key % 2:=wrap_i64 (by omega) (by omega)
   have z6:Zx .i64 (1+Zy c.key % 2)=1+Zy c.key % 2:=wrap_i64 (by omega) (by omega)
   have z7:Zx .i64 (1000+Zx .i64 (Zy c.src*8))=1000+Zy c.src*8:=by rw [wrap_i64 (n:=Zy c.src*8) (by omega) (by omega)];exact wrap_i64 (by omega) (by omega)
   have z8:Int.tmod (Zy c.src) 4=Zy c.src % 4:=Zf bf.1
   have z9:Int.tmod (Zy c.address) 3=Zy c.address % 3:=Zf ba.1
   have y1:(decide ((0:Int)≤1+Zy c.key % 16 / 15+Zy c.key % 2)&&decide (1+Zy c.key % 16 / 15+Zy c.key % 2≤1000))=true:=by simp;omega
   have y2:(decide ((0:Int)≤1+Zy c.key % 2)&&decide (1+Zy c.key % 2≤1000))=true:=by simp;omega
   have w1:decide ((0:Int)≤1+Zy c.key % 2)=true:=by simp;omega
   have w2:decide (1+Zy c.key % 2≤1000)=true:=by simp;omega
   have hl64:∀ n,Kerb.isU64 (Kerb.long n)=true:=fun n=>Kerb.isU64_iff.2 (Kerb.long_bd n)
   have e1:=hs.name.1
   have e2:=hs.name.2.1
   have e3:=hs.name.2.2
   have hkT:=Kerb.skeys_all hs.keys
   have hmT:=Kerb.marks_all hs.marks
   have kl:=hs.lens.1
   have ml:=hs.lens.2
   have hS:Zb ⟨s.me.name,s.me.inst,s.me.realm⟩ s.keys ⟨s.replay.size,s.replay.floor,s.replay.marks⟩ s.skew=s:=rfl
   have hk1:(decide ((0:Int)≤(i:Int))&&decide ((i:Int)<(cs.length:Int))&&true)=true:=by simp;omega
   have bc:=Kerb.u8i_bd c.client
   have za:Int.tmod (Zy c.client) 6=Zy c.client % 6:=Zf bc.1
   have zb:(decide ((0:Int)≤Zy c.client % 6)&&decide (Zy c.client % 6≤4611686018427387904))=true:=by simp;omega
   obtain ⟨d,hd⟩:∃ d:Kerb.Case,Kerb.Case.mk c.client c.other c.service c.realm c.little c.turned c.mutual_ c.address c.src c.issued c.time c.tick c.life c.checksum c.key c.kvno c.session 0 0=d:=⟨_,rfl⟩
   have hdw:d.who=Kerb.user (Zy c.client % 6):=by rw [← hd];rfl
   have hdt:d.ticket=0:=by rw [← hd]
   have hpR:=Kerb.req_len d s.me (Kerb.long (1+Zy c.key % 2)) (1+Zy c.key % 2)
   obtain ⟨R,hR⟩:∃ R,Kerb.Case.req d s.me (Kerb.long (1+Zy c.key % 2)) (1+Zy c.key % 2)=R:=⟨_,rfl⟩
   rw [hR] at hpR
   have hRe:Yw R.little R.mutual_ R.kvno R.realm R.ticket R.auth=R:=rfl
   have hM:Yx s.me.name s.me.inst s.me.realm=s.me:=rfl
   have r1:=hpR.1
   have r2:=hpR.2
   obtain ⟨V,hV⟩:∃ V,Kerb.verify s R (Zy c.src % 4) (1000+Zy c.src*8)=V:=⟨_,rfl⟩
   have hq:Kerb.Reached V.s:=hV ▸ Kerb.reached_verify hs
   have hkT2:=Kerb.skeys_all hq.keys
   have hmT2:=Kerb.marks_all hq.marks
   have kl2:=hq.lens.1
   have ml2:=hq.lens.2
   have v1:=hq.name.1
   have v2:=hq.name.2.1
   have v3:=hq.name.2.2
   have hS2:Zb ⟨V.s.me.name,V.s.me.inst,V.s.me.realm⟩ V.s.keys ⟨V.s.replay.size,V.s.replay.floor,V.s.replay.marks⟩ V.s.skew=V.s:=rfl
   simp (config:={maxSteps:=10000000}) only [hk1,hd,za,zb,hg,Kerb.Case.av,Kerb.wrap_u8i,z1,z2,z3,z4,z5,z6,z7,z8,z9,y1,y2,w1,w2,hl64,o1,o2,o3,decide_true,Bool.and_self,Int.toNat_natCast,hR,hRe,hM,r1,r2,hV,hkT2,hmT2,kl2,ml2,v1,v2,v3,hS2,e1,e2,e3,hkT,hmT,kl,ml,hS,Kerb.map_toSKey,Kerb.map_toMark,Yj,decide_true,Bool.and_self,Bool.true_and,Bool.and_true,↓sInt,↓sU8,↓sBool,↓sStr,↓sBs,↓sSl,↓sAgg,↓sTup,↓sCons,↓sNil,↓sNilB,↓sChk,↓sChkBind,↓sSome]
   by_cases he:V.err=0
   case neg =>
    have hsame:V.s=s:=hV ▸ Kerb.verify_same s R _ _ (by rw [hV];exact he)
    rw [sel_pos (by simpa using he),hsame,Kerb.Server.same_refl,Bool.not_true,sel_false,wrap_i64 (by omega) (by omega)]
    exact ⟨_,rfl,(i+1,s),rfl,⟨by dsimp only;omega,hs⟩,by dsimp only;omega⟩
   rw [sel_neg (by simpa using he)]
   obtain ⟨t,a,hT⟩:=Kerb.taken (s:=s) (r:=R) (src:=Zy c.src % 4) (now:=(1000+Zy c.src*8)) (by rw [hV];exact he)
   have hF:=Kerb.fits hT
   have hcl:V.a.client=Kerb.user (Zy c.client % 6):=by
    rw [← hdw,← hV,hT.is]
    have hT2:=hT
    rw [← hR] at hT2
    have:=Kerb.case_taken (Kerb.long_bd _) hdt hT2
    rw [this];rfl
   rw [hV] at hF
   obtain ⟨g0,g1,g2,g3,g4,g5,g6,g7,g8,g9,ga,gb,gc,gd,ge,gf,gg⟩:=hF
   rw [wrap_i64 (n:=V.a.time-(1000+Zy c.src*8)) (by omega) (by omega),wrap_i64 (n:=(1000+Zy c.src*8)-V.a.time) (by omega) (by omega),wrap_i64 (n:=V.a.issued-s.skew) (by omega) (by omega),wrap_i64 (n:=V.a.life+1) (by omega) (by omega),wrap_i64 (n:=300*(V.a.life+1)) (by omega) (by omega),wrap_i64 (n:=V.a.issued+300*(V.a.life+1)) (by omega) (by omega),wrap_i64 (n:=V.a.issued+300*(V.a.life+1)+s.skew) (by omega) (by omega)]
   rw [sel_neg (by simp;omega),sel_neg (by simp;omega),sel_neg (by simp;omega),sel_neg (by simp;omega),sel_neg (by simp [ga])]
   rw [hcl,gb,gc]
   have hml:=hs.lens.2
   rw [wrap_i64 (n:=(s.replay.marks.length:Int)+1) (by omega) (by omega)]
   simp only [BEq.rfl,Bool.and_self,Bool.not_true,sel_false,gg]
   rw [sel_neg (by simp;omega),sel_neg (by simp;omega),wrap_i64 (by omega) (by omega)]
   exact ⟨_,rfl,(i+1,V.s),rfl,⟨by dsimp only;omega,hq⟩,by dsimp only;omega⟩
  ·rintro _ ⟨q,rfl⟩
   simp (config:={maxSteps:=10000000}) only [↓A0,A0]
   rw [sel_pos (Nat.beq_refl _)]
 ·cases h
end Go.Proofs.YtiplnpablmohiaaGreat
