/- What the functions of this seat compute. -/
import Derived.Test.YtiplnpablmohiaaGreatTab
import Derived.Test.YtiplnpablmohiaaGreatKerbPlain
import Derived.Test.YtiplnpablmohiaaGreatAbsStep
import Derived.Test.YtiplnpablmohiaaGreatKerbCli7
import Derived.Test.YtiplnpablmohiaaGreatKerbCli3
import Derived.Test.YtiplnpablmohiaaGreatKerbCli4
import Derived.Test.YtiplnpablmohiaaGreatKerbKac4
import Derived.Test.YtiplnpablmohiaaGreatKerbVerL
open Go.Abs.AV renaming int→Zz,str→Zw,sl→Zq,bool→Zj,bs→Zg,u8→Zm
open Go.IntKind renaming i64→Zy,wrap→Zv
open Kerb renaming u8i→Zx,vRead→Zu
open Kerb.VRead renaming a→Zk,s→Zb
open List renaming length→Zp,map→Yj
open Kerb.Server renaming replay→Zd,mk→Yz,me→Yy
open Option renaming bind→Zf
open Kerb.Case renaming av→Zn
open Int renaming tmod_eq_emod_of_nonneg→Zh,tmod→Yq
open Kerb.SKey renaming av→Yx
open Kerb.Prin renaming mk→Yw
open Kerb.Mark renaming av→Yv
open UInt8 renaming toNat→Yu
open Kerb.Accepted renaming client→Yk
namespace Go.Proofs.YtiplnpablmohiaaGreat
open Go Go.Abs Go.Proofs
set_option linter.unusedVariables false
set_option linter.unusedSimpArgs false
set_option maxRecDepth 100000
set_option maxHeartbeats 4000000 in
theorem w3:Walked Tryz.prog G 3 16 sp3:=by
 refine ⟨Tryz.f3,Tryz.func3,by decide +kernel,rfl,fun xs bl r h=> ?_⟩
 unfold sp3 at h
 split at h
 ·rename_i cu co cv cr lt tn mt cad cfr cis ctm ctk clf ccs cky ckv css ctt cau sz sk ls raw src now
  obtain ⟨hpre,h2⟩:=chk_inv h;cases h2
  refine Eq.trans (b:=(let t0:Kerb.Server:=Kerb.Case.server (Kerb.Case.mk cu co cv cr lt tn mt cad cfr cis ctm ctk clf ccs cky ckv css ctt cau) sz sk;sel (decide ((↑(Zp ls):Int)>30)) (some (Zj true,[])) (sel (decide ((↑(Zp raw):Int)>500)) (some (Zj true,[])) (Zf (loopM (fun (st:List AV)=>cSl 19 st fun b r=>cBs r fun b_1 r=>cInt .i64 r fun n r=>cInt .i64 r fun n_1 r=>cBool r fun b_2 r=>cStr r fun b_3 r=>cStr r fun b_4 r=>cStr r fun b_5 r=>cSl 5 r fun b_6 r=>cInt .i64 r fun n_2 r=>cInt .i64 r fun n_3 r=>cSl 5 r fun b_7 r=>cInt .i64 r fun n_4 r=>cInt .i64 r fun n_5 r=>onNil r (sel (decide (n_5≤(↑(Zp b):Int))) (Zf (sel (decide (n_5<(↑(Zp b):Int))) (chk (decide (0≤n_5)&&decide (n_5<(↑(Zp b):Int))&&true) (AV.onAgg (List.getD b (Int.toNat n_5) AV.undef) fun cs=>cU8 cs fun b_8 r=>cU8 r fun b_9 r=>cU8 r fun b_10 r=>cU8 r fun b_11 r=>cBool r fun b_12 r=>cBool r fun b_13 r=>cBool r fun b_14 r=>cU8 r fun b_15 r=>cU8 r fun b_16 r=>let t1:AV:=Zz .i64 (Zv .i64 (1000+Zv .i64 (Zv .i64 (↑(Yu b_16):Int)*8)));cU8 r fun b_17 r=>cU8 r fun b_18 r=>cU8 r fun b_19 r=>cU8 r fun b_20 r=>cInt .u32 r fun n_6 r=>cU8 r fun b_21 r=>let t2:Int:=Zv .i64 (Zv .i64 (1+Zv .i64 (Int.tdiv (Yq (Zv .i64 (↑(Yu b_21):Int)) 16) 15))+Yq (Zv .i64 (↑(Yu b_21):Int)) 2);let t3:Int:=Zv .i64 (1+Yq (Zv .i64 (↑(Yu b_21):Int)) 2);cU8 r fun b_22 r=>cU8 r fun b_23 r=>cInt .u16 r fun n_7 r=>cInt .u16 r fun n_8 r=>let t4:List AV:=[t1,Zm b_8,Zm b_9,Zm b_10,Zm b_11,Zj b_12,Zj b_13,Zj b_14,Zm b_15,Zm b_16,Zm b_17,Zm b_18,Zm b_19,Zm b_20,Zz .u32 n_6,Zm b_21,Zm b_22,Zm b_23,Zz .u16 n_7,Zz .u16 n_8];onNil r (Zf (chk (decide (0≤t2)&&decide (t2≤1000)) (some (Zz .u64 (Kerb.long t2),[]))) (kI .u64 fun n_9=>Zf (chk (l63 b_3&&l63 b_4&&l63 b_5&&Kerb.isU64 n_9&&decide (0≤t3)&&decide (t3≤1000)&&decide (0≤n_6)&&decide (n_6≤4294967295)&&decide (0≤n_7)&&decide (n_7≤65535)&&decide (0≤n_8)&&decide (n_8≤65535)) (some (Zg (Kerb.Case.msg (Kerb.Case.mk b_8 b_9 b_10 b_11 b_12 b_13 b_14 b_15 b_16 b_17 b_18 b_19 b_20 n_6 b_21 b_22 b_23 n_7 n_8) (Yw b_3 b_4 b_5) n_9 t3),[]))) (kB fun b_24=>Zf (sel (UInt8.ofNat (Int.toNat (Yq (↑(Yu b_11):Int) (↑(Yu (8:UInt8)):Int)))==(3:UInt8)) (some (Zq 19 b::Zg b_1::Zz .i64 n::Zz .i64 n_1::Zj b_2::Zw b_3::Zw b_4::Zw b_5::Zq 5 b_6::Zz .i64 n_2::Zz .i64 n_3::Zq 5 b_7::Zz .i64 n_4::Zz .i64 n_5::Zg b_24::Zz .i64 (Yq (Zv .i64 (↑(Yu b_16):Int)) 4)::t4)) (some (Zq 19 b::Zg b_1::Zz .i64 n::Zz .i64 n_1::Zj b_2::Zw b_3::Zw b_4::Zw b_5::Zq 5 b_6::Zz .i64 n_2::Zz .i64 n_3::Zq 5 b_7::Zz .i64 n_4::Zz .i64 n_5::Zg b_24::Zz .i64 (Yq (Zv .i64 (↑(Yu b_15):Int)) 3)::t4))) fun l=>cSl 19 l fun b r=>cBs r fun b_25 r=>cInt .i64 r fun n r=>cInt .i64 r fun n_10 r=>cBool r fun b_26 r=>cStr r fun b_27 r=>cStr r fun b_28 r=>cStr r fun b_29 r=>cSl 5 r fun b_30 r=>cInt .i64 r fun n_11 r=>cInt .i64 r fun n_12 r=>cSl 5 r fun b_31 r=>cInt .i64 r fun n_13 r=>cInt .i64 r fun n_14 r=>cBs r fun b_32 r=>cInt .i64 r fun n_15 r=>cInt .i64 r fun n_16 r=>cU8 r fun b_33 r=>cU8 r fun b_34 r=>cU8 r fun b_35 r=>cU8 r fun b_36 r=>cBool r fun b_37 r=>cBool r fun b_38 r=>cBool r fun b_39 r=>cU8 r fun b_40 r=>cU8 r fun b_41 r=>cU8 r fun b_42 r=>cU8 r fun b_43 r=>cU8 r fun b_44 r=>cU8 r fun b_45 r=>cInt .u32 r fun n_17 r=>cU8 r fun b_46 r=>cU8 r fun b_47 r=>cU8 r fun b_48 r=>cInt .u16 r fun n_18 r=>cInt .u16 r fun n_19 r=>onNil r (Zf (sel (Yq n_17 16==9) (Zf (chk (decide (Zp b_32≤1000000)&&decide (0≤n_19)&&decide (n_19≤65535)) (some (Zg (Kerb.spoil b_32 n_19),[]))) (kB fun b_49=>some [Zq 19 b,Zg b_25,Zz .i64 n,Zz .i64 n_10,Zj b_26,Zw b_27,Zw b_28,Zw b_29,Zq 5 b_30,Zz .i64 n_11,Zz .i64 n_12,Zq 5 b_31,Zz .i64 n_13,Zz .i64 n_14,Zg b_49,Zz .i64 n_15,Zz .i64 n_16])) (some [Zq 19 b,Zg b_25,Zz .i64 n,Zz .i64 n_10,Zj b_26,Zw b_27,Zw b_28,Zw b_29,Zq 5 b_30,Zz .i64 n_11,Zz .i64 n_12,Zq 5 b_31,Zz .i64 n_13,Zz .i64 n_14,Zg b_32,Zz .i64 n_15,Zz .i64 n_16])) fun l=>cSl 19 l fun b r=>cBs r fun b_49 r=>cInt .i64 r fun n r=>cInt .i64 r fun n_20 r=>cBool r fun b_50 r=>cStr r fun b_51 r=>cStr r fun b_52 r=>cStr r fun b_53 r=>cSl 5 r fun b_54 r=>cInt .i64 r fun n_21 r=>cInt .i64 r fun n_22 r=>cSl 5 r fun b_55 r=>cInt .i64 r fun n_23 r=>cInt .i64 r fun n_24 r=>cBs r fun b_56 r=>cInt .i64 r fun n_25 r=>cInt .i64 r fun n_26 r=>onNil r (some [Zq 19 b,Zg b_49,Zz .i64 n,Zz .i64 n_20,Zj b_50,Zw b_51,Zw b_52,Zw b_53,Zq 5 b_54,Zz .i64 n_21,Zz .i64 n_22,Zq 5 b_55,Zz .i64 n_23,Zz .i64 n_24,Zg b_56,Zz .i64 n_25,Zz .i64 n_26]))))))) (some [Zq 19 b,Zg b_1,Zz .i64 n,Zz .i64 n_1,Zj b_2,Zw b_3,Zw b_4,Zw b_5,Zq 5 b_6,Zz .i64 n_2,Zz .i64 n_3,Zq 5 b_7,Zz .i64 n_4,Zz .i64 n_5,Zg b_1,Zz .i64 n,Zz .i64 n_1])) fun l=>cSl 19 l fun b r=>cBs r fun b_8 r=>cInt .i64 r fun n r=>cInt .i64 r fun n_6 r=>cBool r fun b_9 r=>cStr r fun b_10 r=>cStr r fun b_11 r=>cStr r fun b_12 r=>let t5:Bool:=l63 b_10&&l63 b_11&&l63 b_12;cSl 5 r fun b_13 r=>cInt .i64 r fun n_7 r=>cInt .i64 r fun n_8 r=>cSl 5 r fun b_14 r=>let t6:Bool:=t5&&List.all b_13 Kerb.isSKey&&decide (Zp b_13≤1000000)&&List.all b_14 Kerb.isMark&&decide (Zp b_14≤1000000);cInt .i64 r fun n_9 r=>let t7:Kerb.Server:=Yz (Yw b_10 b_11 b_12) (Yj Kerb.toSKey b_13) (Kerb.RCache.mk n_7 n_8 (Yj Kerb.toMark b_14)) n_9;cInt .i64 r fun n_10 r=>let t8:Option (List AV ⊕ Ex×List AV):=some (Sum.inr (Ex.ret,[Zq 19 b,Zg b_8,Zz .i64 n,Zz .i64 n_6,Zj false,Zw b_10,Zw b_11,Zw b_12,Zq 5 b_13,Zz .i64 n_7,Zz .i64 n_8,Zq 5 b_14,Zz .i64 n_9,Zz .i64 n_10]));cBs r fun b_15 r=>cInt .i64 r fun n_11 r=>cInt .i64 r fun n_12 r=>let t9:Option (AV×Blocks):=chk (t6&&decide (Zp b_15≤1000000)) (some (AV.tup [AV.agg [Zw (Kerb.Prin.name (Yy (Zb (Zu t7 b_15 n_11 n_12)))),Zw (Kerb.Prin.inst (Yy (Zb (Zu t7 b_15 n_11 n_12)))),Zw (Kerb.Prin.realm (Yy (Zb (Zu t7 b_15 n_11 n_12)))),Zq 5 (Yj Yx (Kerb.Server.keys (Zb (Zu t7 b_15 n_11 n_12)))),Zz .i64 (Kerb.RCache.size (Zd (Zb (Zu t7 b_15 n_11 n_12)))),Zz .i64 (Kerb.RCache.floor (Zd (Zb (Zu t7 b_15 n_11 n_12)))),Zq 5 (Yj Yv (Kerb.RCache.marks (Zd (Zb (Zu t7 b_15 n_11 n_12))))),Zz .i64 (Kerb.Server.skew (Zb (Zu t7 b_15 n_11 n_12)))],AV.agg [Zw (Kerb.Prin.name (Yk (Zk (Zu t7 b_15 n_11 n_12)))),Zw (Kerb.Prin.inst (Yk (Zk (Zu t7 b_15 n_11 n_12)))),Zw (Kerb.Prin.realm (Yk (Zk (Zu t7 b_15 n_11 n_12)))),Zz .u64 (Kerb.Accepted.session (Zk (Zu t7 b_15 n_11 n_12))),Zz .i64 (Kerb.Accepted.address (Zk (Zu t7 b_15 n_11 n_12))),Zz .i64 (Kerb.Accepted.checksum (Zk (Zu t7 b_15 n_11 n_12))),Zz .i64 (Kerb.Accepted.time (Zk (Zu t7 b_15 n_11 n_12))),Zz .i64 (Kerb.Accepted.tick (Zk (Zu t7 b_15 n_11 n_12))),Zz .i64 (Kerb.Accepted.issued (Zk (Zu t7 b_15 n_11 n_12))),Zz .i64 (Kerb.Accepted.life (Zk (Zu t7 b_15 n_11 n_12))),Zg (Kerb.Accepted.ticket (Zk (Zu t7 b_15 n_11 n_12))),Zg (Kerb.Accepted.auth (Zk (Zu t7 b_15 n_11 n_12)))],Zg (Kerb.VRead.answer (Zu t7 b_15 n_11 n_12)),Zz .i64 (Kerb.VRead.err (Zu t7 b_15 n_11 n_12))],[]));onNil r (Zf t9 (kT fun vs=>onCons vs fun x r=>AV.onAgg x fun cs=>cStr cs fun b_16 r_1=>cStr r_1 fun b_17 r_2=>cStr r_2 fun b_18 r_3=>cSl 5 r_3 fun b_19 r_4=>cInt .i64 r_4 fun n_13 r_5=>cInt .i64 r_5 fun n_14 r_6=>cSl 5 r_6 fun b_20 r_7=>cInt .i64 r_7 fun n_15 r_8=>onNil r_8 (onCons r fun x r=>AV.onAgg x fun cs=>cStr cs fun b_21 r_9=>cStr r_9 fun b_22 r_10=>cStr r_10 fun b_23 r_11=>cInt .u64 r_11 fun n_16 r_12=>cInt .i64 r_12 fun n_17 r_13=>cInt .i64 r_13 fun n_18 r_14=>cInt .i64 r_14 fun n_19 r_15=>cInt .i64 r_15 fun n_20 r_16=>cInt .i64 r_16 fun n_21 r_17=>cInt .i64 r_17 fun n_22 r_18=>cBs r_18 fun b_24 r_19=>cBs r_19 fun b_25 r_20=>onNil r_20 (cBs r fun b_26 r=>cInt .i64 r fun n_23 r=>onNil r (Zf t9 (kT fun vs=>onCons vs fun x r=>AV.onAgg x fun cs=>cStr cs fun b_27 r_21=>cStr r_21 fun b_28 r_22=>cStr r_22 fun b_29 r_23=>cSl 5 r_23 fun b_30 r_24=>cInt .i64 r_24 fun n_24 r_25=>cInt .i64 r_25 fun n_25 r_26=>cSl 5 r_26 fun b_31 r_27=>cInt .i64 r_27 fun n_26 r_28=>onNil r_28 (onCons r fun x r=>AV.onAgg x fun cs=>cStr cs fun b_32 r_29=>cStr r_29 fun b_33 r_30=>cStr r_30 fun b_34 r_31=>cInt .u64 r_31 fun n_27 r_32=>cInt .i64 r_32 fun n_28 r_33=>cInt .i64 r_33 fun n_29 r_34=>cInt .i64 r_34 fun n_30 r_35=>cInt .i64 r_35 fun n_31 r_36=>cInt .i64 r_36 fun n_32 r_37=>cInt .i64 r_37 fun n_33 r_38=>cBs r_38 fun b_35 r_39=>cBs r_39 fun b_36 r_40=>onNil r_40 (cBs r fun b_37 r=>cInt .i64 r fun n_34 r=>onNil r (Zf (chk (List.all b_19 Kerb.isSKey&&decide (Zp b_19≤1000000)&&List.all b_20 Kerb.isMark&&decide (Zp b_20≤1000000)&&List.all b_30 Kerb.isSKey&&List.all b_31 Kerb.isMark) (some (Zj (Kerb.Server.same (Yz (Yw b_16 b_17 b_18) (Yj Kerb.toSKey b_19) (Kerb.RCache.mk n_13 n_14 (Yj Kerb.toMark b_20)) n_15) (Yz (Yw b_27 b_28 b_29) (Yj Kerb.toSKey b_30) (Kerb.RCache.mk n_24 n_25 (Yj Kerb.toMark b_31)) n_26)),[]))) (kL fun b_38=>sel (!b_38) t8 (sel (!Kerb.Accepted.same (Kerb.Accepted.mk (Yw b_21 b_22 b_23) n_16 n_17 n_18 n_19 n_20 n_21 n_22 b_24 b_25) (Kerb.Accepted.mk (Yw b_32 b_33 b_34) n_27 n_28 n_29 n_30 n_31 n_32 n_33 b_35 b_36)) t8 (sel (!b_26==b_37) t8 (sel (!n_23==n_34) t8 (some (Sum.inl [Zq 19 b,Zg b_8,Zz .i64 n,Zz .i64 n_6,Zj b_9,Zw b_27,Zw b_28,Zw b_29,Zq 5 b_30,Zz .i64 n_24,Zz .i64 n_25,Zq 5 b_31,Zz .i64 n_26,Zz .i64 (Zv .i64 (n_10+1))])))))))))))))))) (some (Sum.inr (Ex.exit 0,[Zq 19 b,Zg b_1,Zz .i64 n,Zz .i64 n_1,Zj b_2,Zw b_3,Zw b_4,Zw b_5,Zq 5 b_6,Zz .i64 n_2,Zz .i64 n_3,Zq 5 b_7,Zz .i64 n_4,Zz .i64 n_5]))))) [Zq 19 ls,Zg raw,Zz .i64 src,Zz .i64 now,Zj false,Zw (Kerb.Prin.name (Yy t0)),Zw (Kerb.Prin.inst (Yy t0)),Zw (Kerb.Prin.realm (Yy t0)),Zq 5 (Yj Yx (Kerb.Server.keys t0)),Zz .i64 (Kerb.RCache.size (Zd t0)),Zz .i64 (Kerb.RCache.floor (Zd t0)),Zq 5 (Yj Yv (Kerb.RCache.marks (Zd t0))),Zz .i64 (Kerb.Server.skew t0),Zz .i64 0]) fun (r:Ex×List AV)=>cSl 19 (Prod.snd r) fun b r_1=>cBs r_1 fun b r_2=>cInt .i64 r_2 fun n r_3=>cInt .i64 r_3 fun n r_4=>cBool r_4 fun b r_5=>cStr r_5 fun b_1 r_6=>cStr r_6 fun b_2 r_7=>cStr r_7 fun b_3 r_8=>cSl 5 r_8 fun b_4 r_9=>cInt .i64 r_9 fun n r_10=>cInt .i64 r_10 fun n r_11=>cSl 5 r_11 fun b_5 r_12=>cInt .i64 r_12 fun n r_13=>cInt .i64 r_13 fun n r_14=>onNil r_14 (exK r.1 (some (Zj b,[])) fun (j:Nat)=>sel (Nat.beq j 0) (some (Zj true,[])) none))):Option (AV×Blocks))) (by kernel_rfl) ?_
  delta kT kB kL kI
  try dsimp only [cStr,cBs,cBool,cU8,cInt,cSl,l63]
  simp only [Bool.and_eq_true,decide_eq_true_eq] at hpre
  obtain ⟨⟨⟨⟨⟨⟨hall,c0⟩,c1⟩,t0⟩,t1⟩,a0⟩,a1⟩:=hpre
  obtain ⟨cs,rfl,hok⟩:=Kerb.cases_of hall
  simp only [List.length_map]
  by_cases q1:((cs.length:Nat):Int)>30
  ·rw [sel_pos (by simpa using q1)]
  rw [sel_neg (by simpa using q1)]
  by_cases q2:((raw.length:Nat):Int)>500
  ·rw [sel_pos (by simpa using q2)]
  rw [sel_neg (by simpa using q2)]
  refine loop_rounds (fun q:Nat×Kerb.Server=>[Zq 19 (cs.map Zn),Zg raw,Zz Zy src,Zz Zy now,Zj false,Zw (q.2).me.name,Zw (q.2).me.inst,Zw (q.2).me.realm,Zq 5 ((q.2).keys.map Yx),Zz Zy ((q.2).replay).size,Zz Zy ((q.2).replay).floor,Zq 5 (((q.2).replay).marks.map Yv),Zz Zy (q.2).skew,Zz Zy (q.1:Int)]) (fun q=>q.1≤cs.length+1∧Kerb.Reached q.2) (fun q=>cs.length+1-q.1)
   (fun r=>∃ q:Nat×Kerb.Server,r=(Ex.exit 0,[Zq 19 (cs.map Zn),Zg raw,Zz Zy src,Zz Zy now,Zj false,Zw (q.2).me.name,Zw (q.2).me.inst,Zw (q.2).me.realm,Zq 5 ((q.2).keys.map Yx),Zz Zy ((q.2).replay).size,Zz Zy ((q.2).replay).floor,Zq 5 (((q.2).replay).marks.map Yv),Zz Zy (q.2).skew,Zz Zy (q.1:Int)])) (0,Kerb.Case.server (Kerb.Case.mk cu co cv cr lt tn mt cad cfr cis ctm ctk clf ccs cky ckv css ctt cau) sz sk) ⟨Nat.zero_le _,Kerb.reached_server _ _ _⟩ rfl ?_ ?_
  ·rintro ⟨i,s⟩ ⟨hi,hs⟩
   dsimp only at hi hs
   simp (config:={maxSteps:=10000000}) only [List.length_map,↓sInt,↓sU8,↓sBool,↓sStr,↓sBs,↓sSl,↓sAgg,↓sTup,↓sCons,↓sNil,↓sNilB,↓sChk,↓sChkBind,↓sSome]
   by_cases hle:i≤cs.length
   case neg =>
    rw [sel_neg (by simp;omega)]
    exact ⟨_,rfl,(i,s),rfl⟩
   rw [sel_pos (by simp;omega)]
   refine bind_ex (fun ls=>∃ (B:List UInt8) (f t:Int),ls=[Zq 19 (cs.map Zn),Zg raw,Zz Zy src,Zz Zy now,Zj false,Zw (s).me.name,Zw (s).me.inst,Zw (s).me.realm,Zq 5 ((s).keys.map Yx),Zz Zy ((s).replay).size,Zz Zy ((s).replay).floor,Zq 5 (((s).replay).marks.map Yv),Zz Zy (s).skew,Zz Zy (i:Int),Zg B,Zz Zy f,Zz Zy t]∧B.length≤1000000) ?_ ?_
   ·by_cases hlt:i<cs.length
    case neg =>
     rw [sel_neg (by simp;omega)]
     exact ⟨_,rfl,raw,src,now,rfl,by omega⟩
    obtain ⟨c,hc⟩:∃ c,cs.getD i Kerb.noCase=c:=⟨_,rfl⟩
    have hco:c.ok:=hok c (hc ▸ Kerb.mem_row hlt)
    have hg:(cs.map Zn).getD i AV.undef=c.av:=by rw [Kerb.getD_row (d:=Kerb.noCase) hlt,hc]
    have o1:=Kerb.isU32_iff.1 hco.1
    have o2:=Kerb.isU16_iff.1 hco.2.1
    have o3:=Kerb.isU16_iff.1 hco.2.2
    have bk:=Kerb.u8i_bd c.key
    have bf:=Kerb.u8i_bd c.src
    have ba:=Kerb.u8i_bd c.address
    have z1:Yq (Zx c.key) 16=Zx c.key % 16:=Zh bk.1
    have z2:Yq (Zx c.key) 2=Zx c.key % 2:=Zh bk.1
    have z3:Zv .i64 (Int.tdiv (Zx c.key % 16) 15)=Zx c.key % 16 / 15:=by rw [Int.tdiv_eq_ediv_of_nonneg (by omega)];exact wrap_i64 (by omega) (by omega)
    have z4:Zv .i64 (1+Zx c.key % 16 / 15)=1+Zx c.key % 16 / 15:=wrap_i64 (by omega) (by omega)
    have z5:Zv .i64 (1+Zx c.key % 16 / 15+Zx c.key % 2)=1+Zx c.key % 16 / 15+Zx c.key % 2:=wrap_i64 (by omega) (by omega)
    have z6:Zv .i64 (1+Zx c.key % 2)=1+Zx c.key % 2:=wrap_i64 (by omega) (by omega)
    have z7:Zv .i64 (1000+Zv .i64 (Zx c.src*8))=1000+Zx c.src*8:=by rw [wrap_i64 (n:=Zx c.src*8) (by omega) (by omega)];exact wrap_i64 (by omega) (by omega)
    have z8:Yq (Zx c.src) 4=Zx c.src % 4:=Zh bf.1
    have z9:Yq (Zx c.address) 3=Zx c.address % 3:=Zh ba.1
    have y1:(decide ((0:Int)≤1+Zx c.key % 16 / 15+Zx c.key % 2)&&decide (1+Zx c.key % 16 / 15+Zx c.key % 2≤1000))=true:=by simp;omega
    have y2:(decide ((0:Int)≤1+Zx c.key % 2)&&decide (1+Zx c.key % 2≤1000))=true:=by simp;omega
    have w1:decide ((0:Int)≤1+Zx c.key % 2)=true:=by simp;omega
    have w2:decide (1+Zx c.key % 2≤1000)=true:=by simp;omega
    have hl64:∀ n,Kerb.isU64 (Kerb.long n)=true:=fun n=>Kerb.isU64_iff.2 (Kerb.long_bd n)
    have e1:=hs.name.1
    have e2:=hs.name.2.1
    have e3:=hs.name.2.2
    have hkT:=Kerb.skeys_all hs.keys
    have hmT:=Kerb.marks_all hs.marks
    have kl:=hs.lens.1
    have ml:=hs.lens.2
    have hS:Yz ⟨s.me.name,s.me.inst,s.me.realm⟩ s.keys ⟨s.replay.size,s.replay.floor,s.replay.marks⟩ s.skew=s:=rfl
    have hk1:(decide ((0:Int)≤(i:Int))&&decide ((i:Int)<(cs.length:Int))&&true)=true:=by simp;omega
    rw [sel_pos (by simp;omega)]
    simp (config:={maxSteps:=10000000}) only [hk1,hg,Zn,Kerb.wrap_u8i,z1,z2,z3,z4,z5,z6,z7,z8,z9,y1,y2,w1,w2,hl64,o1,o2,o3,decide_true,Bool.and_self,Int.toNat_natCast,e1,e2,e3,hkT,hmT,kl,ml,hS,Kerb.map_toSKey,Kerb.map_toMark,List.length_map,decide_true,Bool.and_self,Bool.true_and,Bool.and_true,↓sInt,↓sU8,↓sBool,↓sStr,↓sBs,↓sSl,↓sAgg,↓sTup,↓sCons,↓sNil,↓sNilB,↓sChk,↓sChkBind,↓sSome]
    have hC:Kerb.Case.mk c.client c.other c.service c.realm c.little c.turned c.mutual_ c.address c.src c.issued c.time c.tick c.life c.checksum c.key c.kvno c.session c.ticket c.auth=c:=rfl
    have hM:Yw s.me.name s.me.inst s.me.realm=s.me:=rfl
    rw [hC,hM]
    obtain ⟨M,hM⟩:∃ M,c.msg s.me (Kerb.long (1+Zx c.key % 16 / 15+Zx c.key % 2)) (1+Zx c.key % 2)=M:=⟨_,rfl⟩
    have lM:M.length≤1000:=by rw [← hM];exact Kerb.msg18_len _ _ _ _
    rw [hM]
    refine bind_ex (fun ls=>∃ f:Int,ls=[Zq 19 (cs.map Zn),Zg raw,Zz Zy src,Zz Zy now,Zj false,Zw (s).me.name,Zw (s).me.inst,Zw (s).me.realm,Zq 5 ((s).keys.map Yx),Zz Zy ((s).replay).size,Zz Zy ((s).replay).floor,Zq 5 (((s).replay).marks.map Yv),Zz Zy (s).skew,Zz Zy (i:Int),Zg M,Zz Zy f,Zz Zy (1000+Zx c.src*8),Zm c.client,Zm c.other,Zm c.service,Zm c.realm,Zj c.little,Zj c.turned,Zj c.mutual_,Zm c.address,Zm c.src,Zm c.issued,Zm c.time,Zm c.tick,Zm c.life,Zz IntKind.u32 c.checksum,Zm c.key,Zm c.kvno,Zm c.session,Zz IntKind.u16 c.ticket,Zz IntKind.u16 c.auth]) (sel_ex ⟨_,rfl,_,rfl⟩ ⟨_,rfl,_,rfl⟩) ?_
    rintro _ ⟨f,rfl⟩
    simp (config:={maxSteps:=10000000}) only [hg,Zn,Kerb.wrap_u8i,z1,z2,z3,z4,z5,z6,z7,z8,z9,y1,y2,w1,w2,hl64,o1,o2,o3,decide_true,Bool.and_self,Int.toNat_natCast,↓sInt,↓sU8,↓sBool,↓sStr,↓sBs,↓sSl,↓sAgg,↓sTup,↓sCons,↓sNil,↓sNilB,↓sChk,↓sChkBind,↓sSome]
    refine bind_ex (fun ls=>∃ B:List UInt8,ls=[Zq 19 (cs.map Zn),Zg raw,Zz Zy src,Zz Zy now,Zj false,Zw (s).me.name,Zw (s).me.inst,Zw (s).me.realm,Zq 5 ((s).keys.map Yx),Zz Zy ((s).replay).size,Zz Zy ((s).replay).floor,Zq 5 (((s).replay).marks.map Yv),Zz Zy (s).skew,Zz Zy (i:Int),Zg B,Zz Zy f,Zz Zy (1000+Zx c.src*8)]∧B.length≤1000000) (sel_ex ?_ ⟨_,rfl,M,rfl,by omega⟩) ?_
    ·rw [chk_of (by simp;omega)]
     refine ⟨_,rfl,_,rfl,?_⟩
     have:=Kerb.spoil_len M c.auth
     omega
    rintro _ ⟨B,rfl,hB⟩
    simp (config:={maxSteps:=10000000}) only [↓sInt,↓sU8,↓sBool,↓sStr,↓sBs,↓sSl,↓sAgg,↓sTup,↓sCons,↓sNil,↓sNilB,↓sChk,↓sChkBind,↓sSome]
    exact ⟨_,rfl,B,f,_,rfl,hB⟩
   rintro _ ⟨B,f,t,rfl,hB⟩
   have e1:=hs.name.1
   have e2:=hs.name.2.1
   have e3:=hs.name.2.2
   have hkT:=Kerb.skeys_all hs.keys
   have hmT:=Kerb.marks_all hs.marks
   have kl:=hs.lens.1
   have ml:=hs.lens.2
   have hS:Yz ⟨s.me.name,s.me.inst,s.me.realm⟩ s.keys ⟨s.replay.size,s.replay.floor,s.replay.marks⟩ s.skew=s:=rfl
   obtain ⟨R,hR⟩:∃ R,Zu s B f t=R:=⟨_,rfl⟩
   have hq:Kerb.Reached R.s:=hR ▸ Kerb.reached_read hs
   have hkT2:=Kerb.skeys_all hq.keys
   have hmT2:=Kerb.marks_all hq.marks
   have kl2:=hq.lens.1
   have ml2:=hq.lens.2
   have hS2:Yz ⟨R.s.me.name,R.s.me.inst,R.s.me.realm⟩ R.s.keys ⟨R.s.replay.size,R.s.replay.floor,R.s.replay.marks⟩ R.s.skew=R.s:=rfl
   have hA2:Kerb.Accepted.mk ⟨R.a.client.name,R.a.client.inst,R.a.client.realm⟩ R.a.session R.a.address R.a.checksum R.a.time R.a.tick R.a.issued R.a.life R.a.ticket R.a.auth=R.a:=rfl
   simp (config:={maxSteps:=10000000}) only [hB,hR,hkT2,hmT2,kl2,ml2,hS2,hA2,Kerb.Server.same_refl,Kerb.Accepted.same_refl,BEq.rfl,Bool.not_true,↓sFalse,e1,e2,e3,hkT,hmT,kl,ml,hS,Kerb.map_toSKey,Kerb.map_toMark,List.length_map,decide_true,Bool.and_self,Bool.true_and,Bool.and_true,↓sInt,↓sU8,↓sBool,↓sStr,↓sBs,↓sSl,↓sAgg,↓sTup,↓sCons,↓sNil,↓sNilB,↓sChk,↓sChkBind,↓sSome]
   rw [wrap_i64 (by omega) (by omega)]
   exact ⟨_,rfl,(i+1,R.s),rfl,⟨by dsimp only;omega,hq⟩,by dsimp only;omega⟩
  ·rintro _ ⟨q,rfl⟩
   simp (config:={maxSteps:=10000000}) only [↓A0,A0]
   rw [sel_pos (Nat.beq_refl _)]
 ·cases h
end Go.Proofs.YtiplnpablmohiaaGreat
