/- What the functions of this seat compute. -/
import Derived.Test.YtiplnpablmohiaaGreatTab
import Derived.Test.YtiplnpablmohiaaGreatKerbPlain
import Derived.Test.YtiplnpablmohiaaGreatAbsStep
import Derived.Test.YtiplnpablmohiaaGreatKerbCli3
import Derived.Test.YtiplnpablmohiaaGreatKerbCli4
import Derived.Test.YtiplnpablmohiaaGreatKerbKac4
import Derived.Test.YtiplnpablmohiaaGreatKerbVerL
open Go.Abs.AV renaming int→Zz,str→Zy,sl→Zu,bool→Zp,ownL→Zh
open Go.IntKind renaming i64→Zx,wrap→Zv
open Kerb renaming u8i→Zw
open Kerb.Mark renaming av→Zq
open Int renaming tmod_eq_emod_of_nonneg→Zj,tmod→Zb
open List renaming length→Zk,length_map→Yz
open Kerb.Server renaming replay→Zd,me→Zg
open Kerb.SKey renaming av→Zf
open UInt8 renaming toNat→Zn
open Kerb.Case renaming av→Zm
open Kerb.Accepted renaming client→Yy
namespace Go.Proofs.YtiplnpablmohiaaGreat
open Go Go.Abs Go.Proofs
set_option linter.unusedVariables false
set_option linter.unusedSimpArgs false
set_option maxRecDepth 100000
set_option maxHeartbeats 8000000 in
theorem w6:Walked Tryz.prog G 6 16 sp6:=by
 refine ⟨Tryz.f6,Tryz.func6,by decide +kernel,rfl,fun xs bl r h=> ?_⟩
 unfold sp6 at h
 split at h
 ·rename_i cu co cv cr lt tn mt cad cfr cis ctm ctk clf ccs cky ckv css ctt cau sz sk ls
  obtain ⟨hpre,h2⟩:=chk_inv h;cases h2
  refine Eq.trans (b:=(let t0:Kerb.Server:=Kerb.Case.server (Kerb.Case.mk cu co cv cr lt tn mt cad cfr cis ctm ctk clf ccs cky ckv css ctt cau) (UInt8.ofNat (Int.toNat (Zb (↑(Zn sz):Int) (↑(Zn (4:UInt8)):Int)))) sk;sel (decide ((↑(Zk ls):Int)>30)) (some (Zp true,[])) (Option.bind (loopM (fun (st:List AV)=>cU8 st fun b r=>cSl 19 r fun b_1 r=>cBool r fun b_2 r=>cStr r fun b_3 r=>cStr r fun b_4 r=>cStr r fun b_5 r=>let t1:Bool:=l63 b_3&&l63 b_4&&l63 b_5;cSl 5 r fun b_6 r=>cInt .i64 r fun n r=>cInt .i64 r fun n_1 r=>cSl 5 r fun b_7 r=>cInt .i64 r fun n_2 r=>let t2:Kerb.Server:=Kerb.Server.mk (Kerb.Prin.mk b_3 b_4 b_5) (List.map Kerb.toSKey b_6) (Kerb.RCache.mk n n_1 (List.map Kerb.toMark b_7)) n_2;onCons r fun x r=>AV.onOwnL x fun b_8=>cInt .i64 r fun n_3 r=>onNil r (sel (decide (n_3<(↑(Zk b_1):Int))) (chk (decide (0≤n_3)&&decide (n_3<(↑(Zk b_1):Int))&&true) (AV.onAgg (List.getD b_1 (Int.toNat n_3) AV.undef) fun cs=>cU8 cs fun b_9 r=>cU8 r fun b_10 r=>cU8 r fun b_11 r=>cU8 r fun b_12 r=>cBool r fun b_13 r=>cBool r fun b_14 r=>cBool r fun b_15 r=>cU8 r fun b_16 r=>let t3:Int:=Zb (Zv .i64 (↑(Zn b_16):Int)) 3;cU8 r fun b_17 r=>let t4:Int:=Zv .i64 (1000+Zv .i64 (Zv .i64 (↑(Zn b_17):Int)*8));cU8 r fun b_18 r=>cU8 r fun b_19 r=>cU8 r fun b_20 r=>cU8 r fun b_21 r=>cInt .u32 r fun n_4 r=>cU8 r fun b_22 r=>cU8 r fun b_23 r=>cU8 r fun b_24 r=>cInt .u16 r fun n_5 r=>cInt .u16 r fun n_6 r=>let t5:Kerb.ApRequest:=Kerb.Case.req (Kerb.Case.mk b_9 b_10 b_11 b_12 b_13 b_14 b_15 b_16 b_17 b_18 b_19 b_20 b_21 n_4 b_22 b_23 b_24 n_5 n_6) (Kerb.Prin.mk b_3 b_4 b_5) (Kerb.long 1) 1;onNil r (Option.bind (chk (t1&&true&&true&&true&&decide (0≤n_4)&&decide (n_4≤4294967295)&&decide (0≤n_5)&&decide (n_5≤65535)&&decide (0≤n_6)&&decide (n_6≤65535)) (some (AV.agg [Zp (Kerb.ApRequest.little t5),Zp (Kerb.ApRequest.mutual_ t5),Zz .i64 (Kerb.ApRequest.kvno t5),Zy (Kerb.ApRequest.realm t5),AV.bs (Kerb.ApRequest.ticket t5),AV.bs (Kerb.ApRequest.auth t5)],[]))) (kA fun cs=>cBool cs fun b_25 r=>cBool r fun b_26 r=>cInt .i64 r fun n_7 r=>cStr r fun b_27 r=>cBs r fun b_28 r=>cBs r fun b_29 r=>let t8:Kerb.Verified:=Kerb.verify t2 (Kerb.ApRequest.mk b_25 b_26 n_7 b_27 b_28 b_29) t3 t4;let t6:Kerb.Accepted:=Kerb.Verified.a t8;let t7:Kerb.Server:=Kerb.Verified.s t8;onNil r (Option.bind (chk (t1&&List.all b_6 Kerb.isSKey&&decide (Zk b_6≤1000000)&&List.all b_7 Kerb.isMark&&decide (Zk b_7≤1000000)&&decide (Zk b_28≤1000000)&&decide (Zk b_29≤1000000)) (some (AV.tup [AV.agg [Zy (Kerb.Prin.name (Zg t7)),Zy (Kerb.Prin.inst (Zg t7)),Zy (Kerb.Prin.realm (Zg t7)),Zu 5 (List.map Zf (Kerb.Server.keys t7)),Zz .i64 (Kerb.RCache.size (Zd t7)),Zz .i64 (Kerb.RCache.floor (Zd t7)),Zu 5 (List.map Zq (Kerb.RCache.marks (Zd t7))),Zz .i64 (Kerb.Server.skew t7)],AV.agg [Zy (Kerb.Prin.name (Yy t6)),Zy (Kerb.Prin.inst (Yy t6)),Zy (Kerb.Prin.realm (Yy t6)),Zz .u64 (Kerb.Accepted.session t6),Zz .i64 (Kerb.Accepted.address t6),Zz .i64 (Kerb.Accepted.checksum t6),Zz .i64 (Kerb.Accepted.time t6),Zz .i64 (Kerb.Accepted.tick t6),Zz .i64 (Kerb.Accepted.issued t6),Zz .i64 (Kerb.Accepted.life t6),AV.bs (Kerb.Accepted.ticket t6),AV.bs (Kerb.Accepted.auth t6)],Zz .i64 (Kerb.Verified.err t8)],[]))) (kT fun vs=>onCons vs fun x r=>AV.onAgg x fun cs=>cStr cs fun b_30 r_1=>cStr r_1 fun b_31 r_2=>cStr r_2 fun b_32 r_3=>cSl 5 r_3 fun b_33 r_4=>cInt .i64 r_4 fun n_8 r_5=>cInt .i64 r_5 fun n_9 r_6=>cSl 5 r_6 fun b_34 r_7=>cInt .i64 r_7 fun n_10 r_8=>onNil r_8 (onCons r fun x r=>AV.onAgg x fun cs=>cStr cs fun b_35 r_9=>cStr r_9 fun b_36 r_10=>cStr r_10 fun b_37 r_11=>cInt .u64 r_11 fun n_11 r_12=>cInt .i64 r_12 fun n_12 r_13=>cInt .i64 r_13 fun n_13 r_14=>cInt .i64 r_14 fun n_14 r_15=>cInt .i64 r_15 fun n_15 r_16=>cInt .i64 r_16 fun n_16 r_17=>cInt .i64 r_17 fun n_17 r_18=>cBs r_18 fun b_38 r_19=>cBs r_19 fun b_39 r_20=>onNil r_20 (cInt .i64 r fun n_18 r=>onNil r (sel (!n_18==0) (some (Sum.inl [AV.u8 b,Zu 19 b_1,Zp b_2,Zy b_3,Zy b_4,Zy b_5,Zu 5 b_6,Zz .i64 n,Zz .i64 n_1,Zu 5 b_7,Zz .i64 n_2,Zh b_8,Zz .i64 (Zv .i64 (n_3+1))])) (Option.bind (loopM (fun (st:List AV)=>cU8 st fun b r=>cSl 19 r fun b_40 r=>cBool r fun b_41 r=>cStr r fun b_42 r=>cStr r fun b_43 r=>cStr r fun b_44 r=>cSl 5 r fun b_45 r=>cInt .i64 r fun n r=>cInt .i64 r fun n_19 r=>cSl 5 r fun b_46 r=>cInt .i64 r fun n_20 r=>onCons r fun x r=>AV.onOwnL x fun b_47=>cInt .i64 r fun n_21 r=>cStr r fun b_48 r=>cStr r fun b_49 r=>cStr r fun b_50 r=>cSl 5 r fun b_51 r=>cInt .i64 r fun n_22 r=>cInt .i64 r fun n_23 r=>cSl 5 r fun b_52 r=>cInt .i64 r fun n_24 r=>cStr r fun b_53 r=>cStr r fun b_54 r=>cStr r fun b_55 r=>cInt .i64 r fun n_25 r=>cInt .i64 r fun n_26 r=>cInt .i64 r fun n_27 r=>let t9:List AV:=[Zy b_42,Zy b_43,Zy b_44,Zu 5 b_45,Zz .i64 n,Zz .i64 n_19,Zu 5 b_46,Zz .i64 n_20,Zh b_47,Zz .i64 n_21,Zy b_48,Zy b_49,Zy b_50,Zu 5 b_51,Zz .i64 n_22,Zz .i64 n_23,Zu 5 b_52,Zz .i64 n_24,Zy b_53,Zy b_54,Zy b_55,Zz .i64 n_25,Zz .i64 n_26,Zz .i64 n_27];onNil r (sel (decide (n_27<(↑(Zk b_47):Int))) (chk (decide (0≤n_27)&&decide (n_27<(↑(Zk b_47):Int))&&true) (chk (Nat.blt (Int.toNat n_27) (Zk b_47)&&true) (AV.onAgg (List.getD b_47 (Int.toNat n_27) AV.undef) fun cs=>cStr cs fun b_56 r=>cStr r fun b_57 r=>cStr r fun b_58 r=>cInt .i64 r fun n_28 r=>cInt .i64 r fun n_29 r=>onNil r (sel (b_56==b_53&&(b_57==b_54&&(b_58==b_55&&(n_28==n_25&&n_29==n_26)))) (some (Sum.inr (Ex.ret,AV.u8 b::Zu 19 b_40::Zp false::t9))) (some (Sum.inl [AV.u8 b,Zu 19 b_40,Zp b_41,Zy b_42,Zy b_43,Zy b_44,Zu 5 b_45,Zz .i64 n,Zz .i64 n_19,Zu 5 b_46,Zz .i64 n_20,Zh b_47,Zz .i64 n_21,Zy b_48,Zy b_49,Zy b_50,Zu 5 b_51,Zz .i64 n_22,Zz .i64 n_23,Zu 5 b_52,Zz .i64 n_24,Zy b_53,Zy b_54,Zy b_55,Zz .i64 n_25,Zz .i64 n_26,Zz .i64 (Zv .i64 (n_27+1))])))))) (some (Sum.inr (Ex.exit 2,AV.u8 b::Zu 19 b_40::Zp b_41::t9))))) [AV.u8 b,Zu 19 b_1,Zp b_2,Zy b_3,Zy b_4,Zy b_5,Zu 5 b_6,Zz .i64 n,Zz .i64 n_1,Zu 5 b_7,Zz .i64 n_2,Zh b_8,Zz .i64 n_3,Zy b_30,Zy b_31,Zy b_32,Zu 5 b_33,Zz .i64 n_8,Zz .i64 n_9,Zu 5 b_34,Zz .i64 n_10,Zy b_35,Zy b_36,Zy b_37,Zz .i64 n_14,Zz .i64 n_15,Zz .i64 0]) fun (r:Ex×List AV)=>cU8 (Prod.snd r) fun b r_21=>let t10:Int:=Zv .i64 (1+Zb (Zv .i64 (↑(Zn (UInt8.ofNat (Int.toNat (Zb (↑(Zn b):Int) (↑(Zn (4:UInt8)):Int))))):Int)) 40);cSl 19 r_21 fun b_40 r_22=>cBool r_22 fun b_41 r_23=>cStr r_23 fun b_42 r_24=>cStr r_24 fun b_43 r_25=>cStr r_25 fun b_44 r_26=>cSl 5 r_26 fun b_45 r_27=>cInt .i64 r_27 fun n r_28=>cInt .i64 r_28 fun n_19 r_29=>cSl 5 r_29 fun b_46 r_30=>cInt .i64 r_30 fun n_20 r_31=>onCons r_31 fun x r_32=>AV.onOwnL x fun b_47=>cInt .i64 r_32 fun n_21 r_33=>let t11:List AV:=[Zy b_42,Zy b_43,Zy b_44,Zu 5 b_45,Zz .i64 n,Zz .i64 n_19,Zu 5 b_46,Zz .i64 n_20,Zh b_47,Zz .i64 n_21];cStr r_33 fun b_48 r_34=>cStr r_34 fun b_49 r_35=>cStr r_35 fun b_50 r_36=>cSl 5 r_36 fun b_51 r_37=>cInt .i64 r_37 fun n r_38=>cInt .i64 r_38 fun n_22 r_39=>cSl 5 r_39 fun b_52 r_40=>cInt .i64 r_40 fun n_23 r_41=>cStr r_41 fun b_53 r_42=>cStr r_42 fun b_54 r_43=>cStr r_43 fun b_55 r_44=>cInt .i64 r_44 fun n_24 r_45=>cInt .i64 r_45 fun n_25 r_46=>let t12:List AV:=[AV.agg [Zy b_53,Zy b_54,Zy b_55,Zz .i64 n_24,Zz .i64 n_25]];cInt .i64 r_46 fun n_26 r_47=>onNil r_47 (exK r.1 (some (Sum.inr (Ex.ret,AV.u8 b::Zu 19 b_40::Zp b_41::t11))) fun (j:Nat)=>sel (Nat.beq j 2) (sel (decide ((↑(Zk b_52):Int)>t10)) (some (Sum.inr (Ex.ret,AV.u8 b::Zu 19 b_40::Zp false::t11))) (chk (room (Zk b_47+Zk t12) (nat_lit 64)) (some (Sum.inl [AV.u8 b,Zu 19 b_40,Zp b_41,Zy b_48,Zy b_49,Zy b_50,Zu 5 b_51,Zz .i64 n,Zz .i64 n_22,Zu 5 b_52,Zz .i64 n_23,Zh (b_47++t12),Zz .i64 (Zv .i64 (n_21+1))])))) none))))))))))) (some (Sum.inr (Ex.exit 0,[AV.u8 b,Zu 19 b_1,Zp b_2,Zy b_3,Zy b_4,Zy b_5,Zu 5 b_6,Zz .i64 n,Zz .i64 n_1,Zu 5 b_7,Zz .i64 n_2,Zh b_8,Zz .i64 n_3]))))) [AV.u8 sz,Zu 19 ls,Zp false,Zy (Kerb.Prin.name (Zg t0)),Zy (Kerb.Prin.inst (Zg t0)),Zy (Kerb.Prin.realm (Zg t0)),Zu 5 (List.map Zf (Kerb.Server.keys t0)),Zz .i64 (Kerb.RCache.size (Zd t0)),Zz .i64 (Kerb.RCache.floor (Zd t0)),Zu 5 (List.map Zq (Kerb.RCache.marks (Zd t0))),Zz .i64 (Kerb.Server.skew t0),Zh [],Zz .i64 0]) fun (r:Ex×List AV)=>cU8 (Prod.snd r) fun b r_1=>cSl 19 r_1 fun b r_2=>cBool r_2 fun b r_3=>cStr r_3 fun b_1 r_4=>cStr r_4 fun b_2 r_5=>cStr r_5 fun b_3 r_6=>cSl 5 r_6 fun b_4 r_7=>cInt .i64 r_7 fun n r_8=>cInt .i64 r_8 fun n r_9=>cSl 5 r_9 fun b_5 r_10=>cInt .i64 r_10 fun n r_11=>onCons r_11 fun x r_12=>AV.onOwnL x fun b_6=>cInt .i64 r_12 fun n r_13=>onNil r_13 (exK r.1 (some (Zp b,[])) fun (j:Nat)=>sel (Nat.beq j 0) (some (Zp true,[])) none)):Option (AV×Blocks))) (by kernel_rfl) ?_
  delta kT kA
  try dsimp only [cStr,cBs,cBool,cU8,cInt,cSl,l63]
  simp only [Bool.and_eq_true,decide_eq_true_eq] at hpre
  obtain ⟨⟨⟨⟨⟨⟨hall,c0⟩,c1⟩,t0⟩,t1⟩,a0⟩,a1⟩:=hpre
  obtain ⟨cs,rfl,hok⟩:=Kerb.cases_of hall
  simp only [Yz]
  by_cases q1:((cs.length:Nat):Int)>30
  ·rw [sel_pos (by simpa using q1)]
  rw [sel_neg (by simpa using q1)]
  obtain ⟨zq,hzq⟩:∃ q,UInt8.ofNat (Int.toNat (Zb (sz.toNat:Int) ((4:UInt8).toNat:Int)))=q:=⟨_,rfl⟩
  have b4:=Kerb.u8i_bd zq
  have hZ:Zv .i64 (1+Zb (Zv .i64 (zq.toNat:Int)) 40)=1+Zw zq % 40:=by rw [Kerb.wrap_u8i,Zj b4.1];exact wrap_i64 (by omega) (by omega)
  have hZ2:Zv .i64 (1+Zb (Zw zq) 40)=1+Zw zq % 40:=by rw [Zj b4.1];exact wrap_i64 (by omega) (by omega)
  refine loop_rounds (fun q:Nat×Kerb.Server×List Kerb.Mark=>[AV.u8 sz,Zu 19 (cs.map Zm),Zp false,Zy (q.2.1).me.name,Zy (q.2.1).me.inst,Zy (q.2.1).me.realm,Zu 5 ((q.2.1).keys.map Zf),Zz Zx ((q.2.1).replay).size,Zz Zx ((q.2.1).replay).floor,Zu 5 (((q.2.1).replay).marks.map Zq),Zz Zx (q.2.1).skew,Zh (q.2.2.map Zq),Zz Zx (q.1:Int)]) (fun q=>q.1≤cs.length∧Kerb.Reached q.2.1∧q.2.1.replay.size=1+Zw zq % 40∧Kerb.Seen q.2.1 q.2.2∧q.2.2.length≤q.1) (fun q=>cs.length-q.1)
   (fun r=>∃ q:Nat×Kerb.Server×List Kerb.Mark,r=(Ex.exit 0,[AV.u8 sz,Zu 19 (cs.map Zm),Zp false,Zy (q.2.1).me.name,Zy (q.2.1).me.inst,Zy (q.2.1).me.realm,Zu 5 ((q.2.1).keys.map Zf),Zz Zx ((q.2.1).replay).size,Zz Zx ((q.2.1).replay).floor,Zu 5 (((q.2.1).replay).marks.map Zq),Zz Zx (q.2.1).skew,Zh (q.2.2.map Zq),Zz Zx (q.1:Int)])) (0,Kerb.Case.server (Kerb.Case.mk cu co cv cr lt tn mt cad cfr cis ctm ctk clf ccs cky ckv css ctt cau) zq sk,[]) ⟨Nat.zero_le _,Kerb.reached_server _ _ _,rfl,(fun m hm=>by cases hm),Nat.le_refl _⟩ (by rw [hzq];rfl) ?_ ?_
  ·rintro ⟨i,s,seen⟩ ⟨hi,hs,hsz,hseen,hsl⟩
   dsimp only at hi hs hsz hseen hsl
   simp (config:={maxSteps:=10000000}) only [Yz,↓sOwnL,↓sInt,↓sU8,↓sBool,↓sStr,↓sBs,↓sSl,↓sAgg,↓sTup,↓sCons,↓sNil,↓sNilB,↓sChk,↓sChkBind,↓sSome]
   by_cases hlt:i<cs.length
   case neg =>
    rw [sel_neg (by simp;omega)]
    exact ⟨_,rfl,(i,s,seen),rfl⟩
   rw [sel_pos (by simp;omega)]
   obtain ⟨c,hc⟩:∃ c,cs.getD i Kerb.noCase=c:=⟨_,rfl⟩
   have hco:c.ok:=hok c (hc ▸ Kerb.mem_row hlt)
   have hg:(cs.map Zm).getD i AV.undef=c.av:=by rw [Kerb.getD_row (d:=Kerb.noCase) hlt,hc]
   have o1:=Kerb.isU32_iff.1 hco.1
   have o2:=Kerb.isU16_iff.1 hco.2.1
   have o3:=Kerb.isU16_iff.1 hco.2.2
   have bk:=Kerb.u8i_bd c.key
   have bf:=Kerb.u8i_bd c.src
   have ba:=Kerb.u8i_bd c.address
   have z1:Zb (Zw c.key) 16=Zw c.key % 16:=Zj bk.1
   have z2:Zb (Zw c.key) 2=Zw c.key % 2:=Zj bk.1
   have z3:Zv .i64 (Int.tdiv (Zw c.key % 16) 15)=Zw c.key % 16 / 15:=by rw [Int.tdiv_eq_ediv_of_nonneg (by omega)];exact wrap_i64 (by omega) (by omega)
   have z4:Zv .i64 (1+Zw c.key % 16 / 15)=1+Zw c.key % 16 / 15:=wrap_i64 (by omega) (by omega)
   have z5:Zv .i64 (1+Zw c.key % 16 / 15+Zw c.key % 2)=1+Zw c.key % 16 / 15+Zw c.key % 2:=wrap_i64 (by omega) (by omega)
   have z6:Zv .i64 (1+Zw c.key % 2)=1+Zw c.key % 2:=wrap_i64 (by omega) (by omega)
   have z7:Zv .i64 (1000+Zv .i64 (Zw c.src*8))=1000+Zw c.src*8:=by rw [wrap_i64 (n:=Zw c.src*8) (by omega) (by omega)];exact wrap_i64 (by omega) (by omega)
   have z8:Zb (Zw c.src) 4=Zw c.src % 4:=Zj bf.1
   have z9:Zb (Zw c.address) 3=Zw c.address % 3:=Zj ba.1
   have y1:(decide ((0:Int)≤1+Zw c.key % 16 / 15+Zw c.key % 2)&&decide (1+Zw c.key % 16 / 15+Zw c.key % 2≤1000))=true:=by simp;omega
   have y2:(decide ((0:Int)≤1+Zw c.key % 2)&&decide (1+Zw c.key % 2≤1000))=true:=by simp;omega
   have w1:decide ((0:Int)≤1+Zw c.key % 2)=true:=by simp;omega
   have w2:decide (1+Zw c.key % 2≤1000)=true:=by simp;omega
   have hl64:∀ n,Kerb.isU64 (Kerb.long n)=true:=fun n=>Kerb.isU64_iff.2 (Kerb.long_bd n)
   have e1:=hs.name.1
   have e2:=hs.name.2.1
   have e3:=hs.name.2.2
   have hkT:=Kerb.skeys_all hs.keys
   have hmT:=Kerb.marks_all hs.marks
   have kl:=hs.lens.1
   have ml:=hs.lens.2
   have hS:Kerb.Server.mk ⟨s.me.name,s.me.inst,s.me.realm⟩ s.keys ⟨s.replay.size,s.replay.floor,s.replay.marks⟩ s.skew=s:=rfl
   have hk1:(decide ((0:Int)≤(i:Int))&&decide ((i:Int)<(cs.length:Int))&&true)=true:=by simp;omega
   have hC:Kerb.Case.mk c.client c.other c.service c.realm c.little c.turned c.mutual_ c.address c.src c.issued c.time c.tick c.life c.checksum c.key c.kvno c.session c.ticket c.auth=c:=rfl
   have hpR:=Kerb.req_len c s.me (Kerb.long 1) 1
   obtain ⟨R,hR⟩:∃ R,Kerb.Case.req c s.me (Kerb.long 1) 1=R:=⟨_,rfl⟩
   rw [hR] at hpR
   have hRe:Kerb.ApRequest.mk R.little R.mutual_ R.kvno R.realm R.ticket R.auth=R:=rfl
   have hM:Kerb.Prin.mk s.me.name s.me.inst s.me.realm=s.me:=rfl
   have r1:=hpR.1
   have r2:=hpR.2
   obtain ⟨V,hV⟩:∃ V,Kerb.verify s R (Zw c.address % 3) (1000+Zw c.src*8)=V:=⟨_,rfl⟩
   have hq:Kerb.Reached V.s:=hV ▸ Kerb.reached_verify hs
   have hkT2:=Kerb.skeys_all hq.keys
   have hmT2:=Kerb.marks_all hq.marks
   have kl2:=hq.lens.1
   have ml2:=hq.lens.2
   have v1:=hq.name.1
   have v2:=hq.name.2.1
   have v3:=hq.name.2.2
   have hS2:Kerb.Server.mk ⟨V.s.me.name,V.s.me.inst,V.s.me.realm⟩ V.s.keys ⟨V.s.replay.size,V.s.replay.floor,V.s.replay.marks⟩ V.s.skew=V.s:=rfl
   simp (config:={maxSteps:=10000000}) only [hk1,hC,hzq,hZ,hZ2,hg,Zm,Kerb.wrap_u8i,z1,z2,z3,z4,z5,z6,z7,z8,z9,y1,y2,w1,w2,hl64,o1,o2,o3,decide_true,Bool.and_self,Int.toNat_natCast,hR,hRe,hM,r1,r2,hV,hkT2,hmT2,kl2,ml2,v1,v2,v3,hS2,e1,e2,e3,hkT,hmT,kl,ml,hS,Kerb.map_toSKey,Kerb.map_toMark,Yz,decide_true,Bool.and_self,Bool.true_and,Bool.and_true,↓sInt,↓sU8,↓sBool,↓sStr,↓sBs,↓sSl,↓sAgg,↓sTup,↓sCons,↓sNil,↓sNilB,↓sChk,↓sChkBind,↓sSome]
   by_cases he:V.err=0
   case neg =>
    rw [sel_pos (by simpa using he),wrap_i64 (by omega) (by omega)]
    exact ⟨_,rfl,(i+1,s,seen),rfl,⟨by dsimp only;omega,hs,hsz,hseen,by dsimp only;omega⟩,by dsimp only;omega⟩
   rw [sel_neg (by simpa using he)]
   obtain ⟨t,a,hT⟩:=Kerb.taken (s:=s) (r:=R) (src:=(Zw c.address % 3)) (now:=(1000+Zw c.src*8)) (by rw [hV];exact he)
   have hF:=Kerb.fits hT
   obtain ⟨hnew,hseen2⟩:=Kerb.seen_new hT hseen
   have hmk:=Kerb.mark_of_V hT
   rw [hV] at hF hseen2 hmk
   obtain ⟨g0,g1,g2,g3,g4,g5,g6,g7,g8,g9,ga,gb,gc,gd,ge,gf,gg⟩:=hF
   rw [← hmk] at hnew hseen2
   have hmk:True:=trivial
   refine loop_ex (fun k:Nat=>[AV.u8 sz,Zu 19 (cs.map Zm),Zp false,Zy (s).me.name,Zy (s).me.inst,Zy (s).me.realm,Zu 5 ((s).keys.map Zf),Zz Zx ((s).replay).size,Zz Zx ((s).replay).floor,Zu 5 (((s).replay).marks.map Zq),Zz Zx (s).skew,Zh (seen.map Zq),Zz Zx (i:Int),Zy (V.s).me.name,Zy (V.s).me.inst,Zy (V.s).me.realm,Zu 5 ((V.s).keys.map Zf),Zz Zx ((V.s).replay).size,Zz Zx ((V.s).replay).floor,Zu 5 (((V.s).replay).marks.map Zq),Zz Zx (V.s).skew,Zy V.a.client.name,Zy V.a.client.inst,Zy V.a.client.realm,Zz Zx V.a.time,Zz Zx V.a.tick,Zz Zx (k:Int)]) (fun k=>k≤seen.length) (fun k=>seen.length-k) (fun r=>r=(Ex.exit 2,[AV.u8 sz,Zu 19 (cs.map Zm),Zp false,Zy (s).me.name,Zy (s).me.inst,Zy (s).me.realm,Zu 5 ((s).keys.map Zf),Zz Zx ((s).replay).size,Zz Zx ((s).replay).floor,Zu 5 (((s).replay).marks.map Zq),Zz Zx (s).skew,Zh (seen.map Zq),Zz Zx (i:Int),Zy (V.s).me.name,Zy (V.s).me.inst,Zy (V.s).me.realm,Zu 5 ((V.s).keys.map Zf),Zz Zx ((V.s).replay).size,Zz Zx ((V.s).replay).floor,Zu 5 (((V.s).replay).marks.map Zq),Zz Zx (V.s).skew,Zy V.a.client.name,Zy V.a.client.inst,Zy V.a.client.realm,Zz Zx V.a.time,Zz Zx V.a.tick,Zz Zx (seen.length:Int)])) 0 (Nat.zero_le _) rfl ?_ ?_
   ·intro k hk
    simp (config:={maxSteps:=10000000}) only [Yz,↓sOwnL,↓sInt,↓sU8,↓sBool,↓sStr,↓sBs,↓sSl,↓sAgg,↓sTup,↓sCons,↓sNil,↓sNilB,↓sChk,↓sChkBind,↓sSome]
    by_cases h3:k<seen.length
    case neg =>
     have:k=seen.length:=by omega
     subst this
     rw [sel_neg (by simp)]
     exact ⟨_,rfl,rfl⟩
    rw [sel_pos (by simp;omega)]
    obtain ⟨d,hd⟩:∃ d,seen.getD k Kerb.noMark=d:=⟨_,rfl⟩
    have hdm:d∈seen:=hd ▸ Kerb.mem_row h3
    have hgk:(seen.map Zq).getD k AV.undef=d.av:=by rw [Kerb.getD_row (d:=Kerb.noMark) h3,hd]
    have hkk:(decide ((0:Int)≤(k:Int))&&decide ((k:Int)<(seen.length:Int))&&true)=true:=by simp;omega
    have hbk:(Nat.blt k seen.length&&true)=true:=by simp [Nat.blt_eq];omega
    have hkk2:(decide ((0:Int)≤(k:Int))&&decide ((k:Int)<(seen.length:Int)))=true:=by simp;omega
    have hbk2:Nat.blt k seen.length=true:=by simp [Nat.blt_eq];omega
    simp (config:={maxSteps:=10000000}) only [hkk,hbk,hkk2,hbk2,hgk,Int.toNat_natCast,Zq,↓sInt,↓sU8,↓sBool,↓sStr,↓sBs,↓sSl,↓sAgg,↓sTup,↓sCons,↓sNil,↓sNilB,↓sChk,↓sChkBind,↓sSome]
    have hne:(d.client.name==V.a.client.name&&(d.client.inst==V.a.client.inst&&(d.client.realm==V.a.client.realm&&(d.time==V.a.time&&d.tick==V.a.tick))))=false:=by
     show d.eqb ⟨V.a.client,V.a.time,V.a.tick⟩=false
     cases hq2:d.eqb ⟨V.a.client,V.a.time,V.a.tick⟩
     ·rfl
     ·exact absurd (Kerb.Mark.eqb_iff.1 hq2 ▸ hdm) hnew
    rw [hne,sel_false,wrap_i64 (by omega) (by omega)]
    exact ⟨_,rfl,k+1,rfl,by omega,by dsimp only;omega⟩
   ·rintro _ rfl
    simp (config:={maxSteps:=10000000}) only [hzq,hZ,hZ2,Yz,List.length_cons,List.length_nil,↓sOwnL,↓sExit,↓sInt,↓sU8,↓sBool,↓sStr,↓sBs,↓sSl,↓sAgg,↓sTup,↓sCons,↓sNil,↓sNilB,↓sChk,↓sChkBind,↓sSome]
    rw [sel_pos (Nat.beq_refl _),sel_neg (by simp;omega),chk_of (by simp [Go.Abs.room];omega),wrap_i64 (by omega) (by omega)]
    refine ⟨_,rfl,(i+1,V.s,seen++[⟨V.a.client,V.a.time,V.a.tick⟩]),?_,⟨by dsimp only;omega,hq,by dsimp only;omega,hseen2,by dsimp only;simp;omega⟩,by dsimp only;omega⟩
    dsimp only
    rw [List.map_append]
    rfl
  ·rintro _ ⟨q,rfl⟩
   simp (config:={maxSteps:=10000000}) only [↓A0,A0]
   rw [sel_pos (Nat.beq_refl _)]
 ·cases h
end Go.Proofs.YtiplnpablmohiaaGreat
