/- What the functions of this seat compute. -/
import Derived.Test.YtmdppipjjnfanaaGreatDoorTab
import Derived.Test.YtmdppipjjnfanaaGreatDoorKerbPlain
import Derived.Test.YtmdppipjjnfanaaGreatDoorAbsStep
import Derived.Test.YtmdppipjjnfanaaGreatDoorKerbCli3
import Derived.Test.YtmdppipjjnfanaaGreatDoorKerbCli4
import Derived.Test.YtmdppipjjnfanaaGreatDoorKerbCli5
import Derived.Test.YtmdppipjjnfanaaGreatDoorKerbSrvL
import Derived.Test.YtmdppipjjnfanaaGreatDoorKerbKac2
import Derived.Test.YtmdppipjjnfanaaGreatDoorKerbKac4
import Derived.Test.YtmdppipjjnfanaaGreatDoorKerbSrvB
import Derived.Test.YtmdppipjjnfanaaGreatDoorKerbVerL
import Derived.Test.YtmdppipjjnfanaaGreatDoorKerbVerL
import Derived.Test.YtmdppipjjnfanaaGreatDoorKerbAuthL
import Derived.Test.YtmdppipjjnfanaaGreatDoorKerbGrtL
open Go.IntKind renaming wrap→Zz,i64→Yy
open Kerb renaming u8i→Zy,decodeTicket→Zu,decodeReply→Zp,decodePart→Zb,Server→Yv,simpleDb→Yu,session→Yq,u8i_bd→Yd
open Go.Abs.AV renaming int→Zx,str→Zw,bool→Zj,sl→Zd
open List renaming length→Zv,map→Yx
open Option renaming bind→Zq
open Kerb.DecReply renaming val→Zk
open Kerb.Prin renaming realm→Zf,name→Zn,inst→Zm
open Kerb.DecPart renaming val→Zg
open Kerb.Dec renaming val→Zh
open Kerb.Server renaming replay→Yz,me→Yw
open Kerb.ReplyPart renaming service→Yj
open Int renaming tmod_eq_emod_of_nonneg→Yk
open UInt8 renaming toNat→Yp
open Kerb.KdcReply renaming client→Yf
open Kerb.Case renaming mk→Yg
namespace Go.Proofs.YtmdppipjjnfanaaGreatDoor
open Go Go.Abs Go.Proofs
set_option linter.unusedVariables false
set_option linter.unusedSimpArgs false
set_option maxRecDepth 100000
set_option maxHeartbeats 8000000 in
theorem w3:Walked Tryz.prog G 3 16 sp3:=by
 refine ⟨Tryz.f3,Tryz.func3,by decide +kernel,rfl,fun xs bl r h=> ?_⟩
 unfold sp3 at h
 split at h
 ·rename_i cx ls sz sk lf xp bd li
  obtain ⟨hpre,h2⟩:=chk_inv h;cases h2
  refine Eq.trans (b:=(let t0:Yv:=Kerb.Case.server (Yg (0:UInt8) (0:UInt8) (0:UInt8) (0:UInt8) false false false (0:UInt8) (0:UInt8) (0:UInt8) (0:UInt8) (0:UInt8) (0:UInt8) 0 (0:UInt8) (0:UInt8) (0:UInt8) 0 0) sz sk;sel (decide ((↑(Zv cx):Int)>60)) (some (Zj true,[])) (sel (decide ((↑(Zv ls):Int)>16)) (some (Zj true,[])) (Zq (chk (decide (Zv cx≤100000)) (some (Zd 4 (Yx Kerb.Cross.av (Kerb.goodCross cx)),[]))) fun (r:AV×Blocks)=>onNilB (Prod.snd r) (AV.onSl 4 (Prod.fst r) fun b=>Zq (loopM (fun (st:List AV)=>cSl 26 st fun b r=>cBool r fun b_1 r=>cBool r fun b_2 r=>cSl 4 r fun b_3 r=>cStr r fun b_4 r=>cSl 9 r fun b_5 r=>cStr r fun b_6 r=>cStr r fun b_7 r=>cStr r fun b_8 r=>cSl 5 r fun b_9 r=>cInt .i64 r fun n r=>cInt .i64 r fun n_1 r=>cSl 5 r fun b_10 r=>cInt .i64 r fun n_2 r=>let t1:Yv:=Kerb.Server.mk (Kerb.Prin.mk b_6 b_7 b_8) (Yx Kerb.toSKey b_9) (Kerb.RCache.mk n n_1 (Yx Kerb.toMark b_10)) n_2;cInt .i64 r fun n_3 r=>let t2:AV:=Zx .i64 (Zz .i64 (n_3+1));cInt .i64 r fun n_4 r=>let t4:List AV:=[Zd 4 b_3,Zw b_4,Zd 9 b_5,Zw b_6,Zw b_7,Zw b_8,Zd 5 b_9,Zx .i64 n,Zx .i64 n_1,Zd 5 b_10,Zx .i64 n_2,Zx .i64 n_3,Zx .i64 n_4];let t5:Option (AV×Blocks):=chk (decide (0≤Zz .i64 (20+n_4))&&decide (Zz .i64 (20+n_4)≤1000)) (some (Zx .u64 (Yq (Zz .i64 (20+n_4))),[]));let t3:Option (List AV ⊕ Ex×List AV):=some (Sum.inr (Ex.ret,Zd 26 b::Zj b_1::Zj false::t4));onNil r (sel (decide (n_4<(↑(Zv b):Int))) (chk (decide (0≤n_4)&&decide (n_4<(↑(Zv b):Int))&&true) (AV.onAgg (List.getD b (Int.toNat n_4) AV.undef) fun cs=>cU8 cs fun b_11 r=>let t6:Int:=Int.tmod (Zz .i64 (↑(Yp b_11):Int)) 6;cU8 r fun b_12 r=>cU8 r fun b_13 r=>cU8 r fun b_14 r=>cBool r fun b_15 r=>cBool r fun b_16 r=>cBool r fun b_17 r=>cU8 r fun b_18 r=>let t7:Int:=Int.tmod (Zz .i64 (↑(Yp b_18):Int)) 3;cU8 r fun b_19 r=>cU8 r fun b_20 r=>cU8 r fun b_21 r=>cU8 r fun b_22 r=>cU8 r fun b_23 r=>let t8:Int:=Zz .i64 (Zz .i64 (1000+Zz .i64 (Zz .i64 (↑(Yp b_20):Int)*8))+Zz .i64 (300*Zz .i64 (Zz .i64 (Int.tdiv (Zz .i64 (↑(Yp b_23):Int)) 4)+1)));cInt .u32 r fun n r=>cU8 r fun b_24 r=>cU8 r fun b_25 r=>cU8 r fun b_26 r=>let t9:Int:=Int.tmod (Zz .i64 (↑(Yp b_26):Int)) 4;cInt .u16 r fun n_5 r=>cInt .u16 r fun n_6 r=>cU8 r fun b_27 r=>cU8 r fun b_28 r=>cU8 r fun b_29 r=>cU8 r fun b_30 r=>cU8 r fun b_31 r=>let t10:Int:=Zz .i64 (1000+Zz .i64 (Zz .i64 (↑(Yp b_31):Int)*8));cU8 r fun b_32 r=>cInt .u16 r fun n_7 r=>onNil r (Zq t5 (kI .u64 fun n_8=>Zq (chk (decide (0≤n)&&decide (n≤4294967295)&&true&&true&&true&&true&&true&&true&&List.all b_3 Kerb.isCross&&decide (Zv b_3≤1000000)&&List.all (Yx Kerb.toCross b_3) Kerb.isKv) (some (AV.bs (Kerb.TAsk.msg (Kerb.TAsk.mk (Yg b_11 b_12 b_13 b_14 b_15 b_16 b_17 b_18 b_19 b_20 b_21 b_22 b_23 n b_24 b_25 b_26 0 0) b_27 b_28 b_29 b_30 b_31 b_32 0) (Yx Kerb.toCross b_3)),[]))) (kB fun b_33=>let t14:Kerb.TgsOut:=Kerb.tgsAnswer (Kerb.Db.mk b_4 (Yx Kerb.toEntry b_5)) (Yx Kerb.toCross b_3) t1 t10 t7 b_1 n_8 b_33;let t12:Yv:=Kerb.TgsOut.s t14;let t13:Kerb.AuthOut:=Kerb.TgsOut.out t14;let t11:Kerb.Issue:=Kerb.AuthOut.issue t13;Zq (chk (List.all b_5 Kerb.isEntry&&decide (Zv b_5≤1000000)&&List.all b_3 Kerb.isCross&&decide (Zv b_3≤1000000)&&l63 b_4&&l63 b_6&&l63 b_7&&l63 b_8&&List.all b_9 Kerb.isSKey&&decide (Zv b_9≤1000000)&&List.all b_10 Kerb.isMark&&decide (Zv b_10≤1000000)&&Kerb.isU64 n_8&&decide (Zv b_33≤1000000)&&decide (Zv b_3≤900000)) (some (AV.tup [AV.agg [Zw (Zn (Yw t12)),Zw (Zm (Yw t12)),Zw (Zf (Yw t12)),Zd 5 (Yx Kerb.SKey.av (Kerb.Server.keys t12)),Zx .i64 (Kerb.RCache.size (Yz t12)),Zx .i64 (Kerb.RCache.floor (Yz t12)),Zd 5 (Yx Kerb.Mark.av (Kerb.RCache.marks (Yz t12))),Zx .i64 (Kerb.Server.skew t12)],AV.bs (Kerb.AuthOut.answer t13),AV.agg [Zx .i64 (Kerb.Issue.kind t11),Zw (Zn (Kerb.Issue.server t11)),Zw (Zm (Kerb.Issue.server t11)),Zw (Zf (Kerb.Issue.server t11)),Zw (Zn (Kerb.Issue.client t11)),Zw (Zm (Kerb.Issue.client t11)),Zw (Zf (Kerb.Issue.client t11)),Zw (Zn (Kerb.Issue.service t11)),Zw (Zm (Kerb.Issue.service t11)),Zw (Zf (Kerb.Issue.service t11)),Zx .u64 (Kerb.Issue.session t11),Zx .u64 (Kerb.Issue.sealer t11),Zx .u64 (Kerb.Issue.granter t11),AV.bs (Kerb.Issue.text t11),Zx .i64 (Kerb.Issue.issued t11),Zx .i64 (Kerb.Issue.stop t11)],Zj (Kerb.AuthOut.ok t13)],[]))) (kT fun vs=>onCons vs fun x r=>AV.onAgg x fun cs=>cStr cs fun b_34 r_1=>cStr r_1 fun b_35 r_2=>cStr r_2 fun b_36 r_3=>cSl 5 r_3 fun b_37 r_4=>cInt .i64 r_4 fun n r_5=>cInt .i64 r_5 fun n_9 r_6=>cSl 5 r_6 fun b_38 r_7=>cInt .i64 r_7 fun n_10 r_8=>let t15:Option (List AV ⊕ Ex×List AV):=some (Sum.inr (Ex.ret,[Zd 26 b,Zj b_1,Zj false,Zd 4 b_3,Zw b_4,Zd 9 b_5,Zw b_34,Zw b_35,Zw b_36,Zd 5 b_37,Zx .i64 n,Zx .i64 n_9,Zd 5 b_38,Zx .i64 n_10,t2,Zx .i64 n_4]));let t16:Option (List AV ⊕ Ex×List AV):=some (Sum.inl [Zd 26 b,Zj b_1,Zj b_2,Zd 4 b_3,Zw b_4,Zd 9 b_5,Zw b_34,Zw b_35,Zw b_36,Zd 5 b_37,Zx .i64 n,Zx .i64 n_9,Zd 5 b_38,Zx .i64 n_10,t2,Zx .i64 (Zz .i64 (n_4+1))]);onNil r_8 (cBs r fun b_39 r=>onCons r fun x r=>AV.onAgg x fun cs=>cInt .i64 cs fun n_11 r_9=>cStr r_9 fun b_40 r_10=>cStr r_10 fun b_41 r_11=>cStr r_11 fun b_42 r_12=>cStr r_12 fun b_43 r_13=>cStr r_13 fun b_44 r_14=>cStr r_14 fun b_45 r_15=>cStr r_15 fun b_46 r_16=>cStr r_16 fun b_47 r_17=>cStr r_17 fun b_48 r_18=>cInt .u64 r_18 fun n_12 r_19=>cInt .u64 r_19 fun n_13 r_20=>cInt .u64 r_20 fun n_14 r_21=>cBs r_21 fun b_49 r_22=>cInt .i64 r_22 fun n_15 r_23=>cInt .i64 r_23 fun n_16 r_24=>onNil r_24 (cBool r fun b_50 r=>onNil r (sel (!(b_34==b_6&&(b_35==b_7&&b_36==b_8))) t3 (Zq (chk (List.all b_37 Kerb.isSKey&&decide (Zv b_37≤1000000)&&List.all b_9 Kerb.isSKey) (some (Zj (Kerb.sameSKeys (Yx Kerb.toSKey b_37) (Yx Kerb.toSKey b_9)),[]))) (kL fun b_51=>sel (!b_51) t3 (sel (decide ((↑(Zv b_38):Int)>Zz .i64 ((↑(Zv b_10):Int)+1))) t3 (sel (!b_50) (some (Sum.inl [Zd 26 b,Zj b_1,Zj b_2,Zd 4 b_3,Zw b_4,Zd 9 b_5,Zw b_34,Zw b_35,Zw b_36,Zd 5 b_37,Zx .i64 n,Zx .i64 n_9,Zd 5 b_38,Zx .i64 n_10,Zx .i64 n_3,Zx .i64 (Zz .i64 (n_4+1))])) (Zq (chk (decide (0≤t9)&&decide (t9≤1000)) (some (Zx .u64 (Yq t9),[]))) (kI .u64 fun n=>Zq (chk (decide (Zv b_39≤140737488355328)) (some (AV.tup [AV.agg [Zj (Kerb.KdcReply.little (Zk (Zp b_39))),Zw (Zn (Yf (Zk (Zp b_39)))),Zw (Zm (Yf (Zk (Zp b_39)))),Zw (Zf (Yf (Zk (Zp b_39)))),Zx .i64 (Kerb.KdcReply.time (Zk (Zp b_39))),Zx .i64 (Kerb.KdcReply.expires (Zk (Zp b_39))),Zx .i64 (Kerb.KdcReply.kvno (Zk (Zp b_39))),AV.bs (Kerb.KdcReply.sealed (Zk (Zp b_39)))],Zx .i64 (Kerb.DecReply.err (Zp b_39))],[]))) (kT fun vs=>onCons vs fun x r=>AV.onAgg x fun cs=>cBool cs fun b r_25=>cStr r_25 fun b_52 r_26=>cStr r_26 fun b_53 r_27=>cStr r_27 fun b_54 r_28=>cInt .i64 r_28 fun n_17 r_29=>cInt .i64 r_29 fun n_18 r_30=>cInt .i64 r_30 fun n_19 r_31=>cBs r_31 fun b_55 r_32=>onNil r_32 (cInt .i64 r fun n_20 r=>onNil r (Zq (chk (decide (Zv b_55≤140737488355328)) (some (AV.tup [AV.bs (Prod.fst (Kerb.openBox b_55 3 n)),Zj (Prod.snd (Kerb.openBox b_55 3 n))],[]))) (kT fun vs=>cBs vs fun b_56 r=>cBool r fun b_57 r=>onNil r (Zq (chk (decide (Zv b_56≤140737488355328)) (some (AV.tup [AV.agg [Zx .u64 (Kerb.ReplyPart.session (Zg (Zb b_56 b))),Zw (Zn (Yj (Zg (Zb b_56 b)))),Zw (Zm (Yj (Zg (Zb b_56 b)))),Zw (Zf (Yj (Zg (Zb b_56 b)))),Zx .i64 (Kerb.ReplyPart.life (Zg (Zb b_56 b))),Zx .i64 (Kerb.ReplyPart.kvno (Zg (Zb b_56 b))),AV.bs (Kerb.ReplyPart.ticket (Zg (Zb b_56 b))),Zx .i64 (Kerb.ReplyPart.time (Zg (Zb b_56 b)))],Zx .i64 (Kerb.DecPart.err (Zb b_56 b))],[]))) (kT fun vs=>onCons vs fun x r=>AV.onAgg x fun cs=>cInt .u64 cs fun n_21 r_33=>cStr r_33 fun b r_34=>cStr r_34 fun b_58 r_35=>cStr r_35 fun b_59 r_36=>cInt .i64 r_36 fun n_22 r_37=>cInt .i64 r_37 fun n_23 r_38=>cBs r_38 fun b_60 r_39=>let t17:Option (List AV ⊕ Ex×List AV):=Zq (chk (decide (Zv b_60≤140737488355328)) (some (AV.tup [AV.agg [Zx .i64 (Kerb.Box.kind (Kerb.GotBox.box (Kerb.readBox b_60))),Zx .u64 (Kerb.Box.key (Kerb.GotBox.box (Kerb.readBox b_60))),AV.bs (Kerb.Box.body (Kerb.GotBox.box (Kerb.readBox b_60)))],Zx .i64 (Kerb.GotBox.n (Kerb.readBox b_60)),Zx .i64 (Kerb.GotBox.err (Kerb.readBox b_60))],[]))) (kT fun vs=>onCons vs fun x r=>AV.onAgg x fun cs=>cInt .i64 cs fun n r_40=>cInt .u64 r_40 fun n r_41=>cBs r_41 fun b r_42=>onNil r_42 (cInt .i64 r fun n r=>cInt .i64 r fun n r=>onNil r (Zq (chk (decide (Zv b≤140737488355328)) (some (AV.tup [AV.agg [Zj (Kerb.Ticket.little (Zh (Zu b))),Zw (Zn (Kerb.Ticket.client (Zh (Zu b)))),Zw (Zm (Kerb.Ticket.client (Zh (Zu b)))),Zw (Zf (Kerb.Ticket.client (Zh (Zu b)))),Zx .i64 (Kerb.Ticket.address (Zh (Zu b))),Zx .u64 (Kerb.Ticket.session (Zh (Zu b))),Zx .i64 (Kerb.Ticket.life (Zh (Zu b))),Zx .i64 (Kerb.Ticket.issued (Zh (Zu b))),Zw (Kerb.Ticket.service (Zh (Zu b))),Zw (Kerb.Ticket.inst (Zh (Zu b)))],Zx .i64 (Kerb.Dec.err (Zu b))],[]))) (kT fun vs=>onCons vs fun x r=>AV.onAgg x fun cs=>cBool cs fun b r_43=>cStr r_43 fun b r_44=>cStr r_44 fun b_61 r_45=>cStr r_45 fun b_62 r_46=>cInt .i64 r_46 fun n_24 r_47=>cInt .u64 r_47 fun n_25 r_48=>cInt .i64 r_48 fun n_26 r_49=>cInt .i64 r_49 fun n_27 r_50=>cStr r_50 fun b_63 r_51=>cStr r_51 fun b_64 r_52=>onNil r_52 (cInt .i64 r fun n_28 r=>onNil r (sel (!n==0) t15 (sel (!n_28==0) t15 (sel (!n_24==t7) t15 (sel (!(b==b_43&&(b_61==b_44&&b_62==b_45))) t15 (sel (!n_25==n_12) t15 (sel (!Zz .i64 (n_27+Zz .i64 (300*Zz .i64 (n_26+1)))==n_16) t15 t16)))))))))));cInt .i64 r_39 fun n_24 r_40=>onNil r_40 (cInt .i64 r fun n_25 r=>onNil r (sel (!n_20==0) t15 (sel (!b_57) t15 (sel (!n_25==0) t15 (Zq t5 (kI .u64 fun n_26=>sel (!n_21==n_26) t15 (sel (!n_14==n) t15 (sel (!n_13==n) t15 (sel (!n_12==n_21) t15 (sel (decide (n_16>t8)) t15 (Zq (chk (decide (0≤t6)&&decide (t6≤4611686018427387904)) (some (AV.agg [Zw (Zn (Kerb.user t6)),Zw (Zm (Kerb.user t6)),Zw (Zf (Kerb.user t6))],[]))) (kA fun cs=>cStr cs fun b_61 r=>cStr r fun b_62 r=>cStr r fun b_63 r=>onNil r (sel (!(b_43==b_61&&(b_44==b_62&&b_45==b_63))) t15 (sel (!(b_52==b_43&&(b_53==b_44&&b_54==b_45))) t15 (sel (!(b_46==b&&(b_47==b_58&&b_48==b_59))) t15 (sel (b_46==[(107:UInt8),(114:UInt8),(98:UInt8),(116:UInt8),(103:UInt8),(116:UInt8)]) (sel (!b_45==[(65:UInt8),(84:UInt8),(72:UInt8)]) t15 t17) t17))))))))))))))))))))))))))))))))))))) (some (Sum.inr (Ex.exit 0,Zd 26 b::Zj b_1::Zj b_2::t4))))) [Zd 26 ls,Zj li,Zj false,Zd 4 b,Zw (Kerb.Db.realm (Yu lf xp bd)),Zd 9 (Yx Kerb.Entry.av (Kerb.Db.entries (Yu lf xp bd))),Zw (Zn (Yw t0)),Zw (Zm (Yw t0)),Zw (Zf (Yw t0)),Zd 5 (Yx Kerb.SKey.av (Kerb.Server.keys t0)),Zx .i64 (Kerb.RCache.size (Yz t0)),Zx .i64 (Kerb.RCache.floor (Yz t0)),Zd 5 (Yx Kerb.Mark.av (Kerb.RCache.marks (Yz t0))),Zx .i64 (Kerb.Server.skew t0),Zx .i64 0,Zx .i64 0]) fun (r:Ex×List AV)=>cSl 26 (Prod.snd r) fun b r_1=>cBool r_1 fun b_1 r_2=>cBool r_2 fun b_2 r_3=>cSl 4 r_3 fun b_3 r_4=>cStr r_4 fun b_4 r_5=>cSl 9 r_5 fun b_5 r_6=>cStr r_6 fun b_6 r_7=>cStr r_7 fun b_7 r_8=>cStr r_8 fun b_8 r_9=>cSl 5 r_9 fun b_9 r_10=>cInt .i64 r_10 fun n r_11=>cInt .i64 r_11 fun n r_12=>cSl 5 r_12 fun b_10 r_13=>cInt .i64 r_13 fun n r_14=>cInt .i64 r_14 fun n r_15=>cInt .i64 r_15 fun n_1 r_16=>onNil r_16 (exK r.1 (some (Zj b_2,[])) fun (j:Nat)=>sel (Nat.beq j 0) (some (Zj (decide (n≤(↑(Zv b):Int))),[])) none)))):Option (AV×Blocks))) (by kernel_rfl) ?_
  delta kT kA kB kL kI
  try dsimp only [cStr,cBs,cBool,cU8,cInt,cSl,l63]
  by_cases q2:((cx.length:Nat):Int)>60
  ·rw [sel_pos (by simpa using q2)]
  rw [sel_neg (by simpa using q2)]
  by_cases q3:((ls.length:Nat):Int)>16
  ·rw [sel_pos (by simpa using q3)]
  rw [sel_neg (by simpa using q3)]
  obtain ⟨qs,rfl,hqs⟩:=Kerb.tasks_of hpre
  simp only [List.length_map] at q3
  have lcx:cx.length≤100000:=by omega
  obtain ⟨xs,hxs⟩:∃ xs,Kerb.goodCross cx=xs:=⟨_,rfl⟩
  obtain ⟨xl,xok⟩:=hxs ▸ Kerb.goodCross_ok cx
  have xkv:=hxs ▸ Kerb.goodCross_kv cx
  have hxT:=Kerb.cross_all xok
  have xl2:xs.length≤1000000:=by omega
  have xl3:xs.length≤900000:=by omega
  have d1:=(Kerb.simpleDb_err lf xp bd)
  have d3:=Kerb.all_ents d1.2
  have d4:(Yu lf xp bd).entries.length≤1000000:=by have:=(Kerb.Db.err_inv d1.1).2.1;omega
  have d5:(Yu lf xp bd).realm.length≤9223372036854775807:=by show ([65,84,72]:List UInt8).length≤_;decide
  have d6:(Yu lf xp bd).realm=[65,84,72]:=rfl
  obtain ⟨D,hD⟩:∃ D,Yu lf xp bd=D:=⟨_,rfl⟩
  rw [hD] at d1 d3 d4 d5 d6
  have hDD:Kerb.Db.mk D.realm D.entries=D:=rfl
  obtain ⟨S,hS⟩:∃ S,Kerb.Case.server (Yg 0 0 0 0 false false false 0 0 0 0 0 0 0 0 0 0 0 0) sz sk=S:=⟨_,rfl⟩
  have so:=hS ▸ (Kerb.reached_server (Yg 0 0 0 0 false false false 0 0 0 0 0 0 0 0 0 0 0 0) sz sk).sound
  have hSS:∀ S:Yv,Kerb.Server.mk ⟨S.me.name,S.me.inst,S.me.realm⟩ S.keys ⟨S.replay.size,S.replay.floor,S.replay.marks⟩ S.skew=S:=fun _=>rfl
  simp (config:={maxSteps:=10000000}) only [lcx,hxs,hD,hS,decide_true,↓sInt,↓sU8,↓sBool,↓sStr,↓sBs,↓sSl,↓sAgg,↓sTup,↓sCons,↓sNil,↓sNilB,↓sChk,↓sChkBind,↓sSome,↓sOwnL,↓sConsB,↓sOwnB]
  refine loop_rounds (fun x:Nat×Yv×Nat=>(fun (i:Nat) (s:Yv) (u:Nat)=>[Zd 26 (qs.map Kerb.TAsk.av),Zj li,Zj false,Zd 4 (xs.map Kerb.Cross.av),Zw D.realm,Zd 9 (D.entries.map Kerb.Entry.av),Zw s.me.name,Zw s.me.inst,Zw s.me.realm,Zd 5 (s.keys.map Kerb.SKey.av),Zx Yy s.replay.size,Zx Yy s.replay.floor,Zd 5 (s.replay.marks.map Kerb.Mark.av),Zx Yy s.skew,Zx Yy (u:Int),Zx Yy (i:Int)]) x.1 x.2.1 x.2.2) (fun x=>x.1≤qs.length∧x.2.2≤x.1∧Kerb.Sound x.2.1) (fun x=>qs.length-x.1)
   (fun r=>∃ (s:Yv) (u:Nat),u≤qs.length∧r=(Ex.exit 0,(fun (i:Nat) (s:Yv) (u:Nat)=>[Zd 26 (qs.map Kerb.TAsk.av),Zj li,Zj false,Zd 4 (xs.map Kerb.Cross.av),Zw D.realm,Zd 9 (D.entries.map Kerb.Entry.av),Zw s.me.name,Zw s.me.inst,Zw s.me.realm,Zd 5 (s.keys.map Kerb.SKey.av),Zx Yy s.replay.size,Zx Yy s.replay.floor,Zd 5 (s.replay.marks.map Kerb.Mark.av),Zx Yy s.skew,Zx Yy (u:Int),Zx Yy (i:Int)]) qs.length s u)) (0,S,0) ⟨Nat.zero_le _,Nat.zero_le _,so⟩ rfl ?_ ?_
  ·rintro ⟨i,s,u⟩ ⟨hi,hu,so⟩
   dsimp only at hi hu so ⊢
   simp (config:={maxSteps:=10000000}) only [List.length_map,↓sInt,↓sU8,↓sBool,↓sStr,↓sBs,↓sSl,↓sAgg,↓sTup,↓sCons,↓sNil,↓sNilB,↓sChk,↓sChkBind,↓sSome,↓sOwnL,↓sConsB,↓sOwnB]
   rcases Nat.lt_or_ge i qs.length with h1 | h1
   case inr =>
    have:i=qs.length:=by omega
    subst this
    rw [sel_neg (by simp)]
    exact ⟨_,rfl,s,u,hu,rfl⟩
   rw [sel_pos (by simp;omega)]
   obtain ⟨q,hq⟩:∃ q,qs.getD i Kerb.noTAsk=q:=⟨_,rfl⟩
   have hg:(qs.map Kerb.TAsk.av).getD i AV.undef=q.av:=by rw [Kerb.getD_row (d:=Kerb.noTAsk) h1,hq]
   have hqo:=hqs q (hq ▸ Kerb.mem_row (d:=Kerb.noTAsk) h1)
   have hcs:=Kerb.isU32_iff.1 hqo.1.1
   have c0:=hcs.1
   have c1:=hcs.2
   have hkk:(decide ((0:Int)≤(i:Int))&&decide ((i:Int)<(qs.length:Int))&&true)=true:=by simp;omega
   have w1:Zz .i64 (20+(i:Int))=20+(i:Int):=wrap_i64 (by omega) (by omega)
   have w2:(decide ((0:Int)≤20+(i:Int))&&decide (20+(i:Int)≤1000))=true:=by simp;omega
   have w3:Zz .i64 ((i:Int)+1)=(i:Int)+1:=wrap_i64 (by omega) (by omega)
   have w4:Zz .i64 ((u:Int)+1)=(u:Int)+1:=wrap_i64 (by omega) (by omega)
   have bn:=Yd q.now
   have ba:=Yd q.case_.address
   have bc:=Yd q.case_.client
   have bs:=Yd q.case_.session
   have bi:=Yd q.case_.issued
   have bl:=Yd q.case_.life
   have z1:Zz .i64 (Zy q.now*8)=Zy q.now*8:=wrap_i64 (by omega) (by omega)
   have z2:Zz .i64 (1000+Zy q.now*8)=1000+Zy q.now*8:=wrap_i64 (by omega) (by omega)
   have z3:Int.tmod (Zy q.case_.address) 3=Zy q.case_.address % 3:=Yk ba.1
   have z4:Int.tmod (Zy q.case_.session) 4=Zy q.case_.session % 4:=Yk bs.1
   have z5:(decide ((0:Int)≤Zy q.case_.session % 4)&&decide (Zy q.case_.session % 4≤1000))=true:=by simp;omega
   have z6:Int.tmod (Zy q.case_.client) 6=Zy q.case_.client % 6:=Yk bc.1
   have z7:(decide ((0:Int)≤Zy q.case_.client % 6)&&decide (Zy q.case_.client % 6≤4611686018427387904))=true:=by simp;omega
   have z8:Zz .i64 (Zy q.case_.issued*8)=Zy q.case_.issued*8:=wrap_i64 (by omega) (by omega)
   have z9:Zz .i64 (1000+Zy q.case_.issued*8)=1000+Zy q.case_.issued*8:=wrap_i64 (by omega) (by omega)
   have y1:Zz .i64 (Int.tdiv (Zy q.case_.life) 4)=Zy q.case_.life / 4:=by rw [Int.tdiv_eq_ediv_of_nonneg bl.1];exact wrap_i64 (by omega) (by omega)
   have y2:Zz .i64 (Zy q.case_.life / 4+1)=Zy q.case_.life / 4+1:=wrap_i64 (by omega) (by omega)
   have y3:Zz .i64 (300*(Zy q.case_.life / 4+1))=300*(Zy q.case_.life / 4+1):=wrap_i64 (by omega) (by omega)
   have y4:Zz .i64 (1000+Zy q.case_.issued*8+300*(Zy q.case_.life / 4+1))=1000+Zy q.case_.issued*8+300*(Zy q.case_.life / 4+1):=wrap_i64 (by omega) (by omega)
   obtain ⟨Z,hZ⟩:∃ Z,Kerb.TAsk.mk (Yg q.case_.client q.case_.other q.case_.service q.case_.realm q.case_.little q.case_.turned q.case_.mutual_ q.case_.address q.case_.src q.case_.issued q.case_.time q.case_.tick q.case_.life q.case_.checksum q.case_.key q.case_.kvno q.case_.session 0 0) q.src q.to q.peer q.life q.now q.kvno 0=Z:=⟨_,rfl⟩
   obtain ⟨M,hM⟩:∃ M,Kerb.TAsk.msg Z xs=M:=⟨_,rfl⟩
   have lM:=hM ▸ Kerb.tmsg_len Z xs
   obtain ⟨N,hN⟩:∃ N,Yq (20+(i:Int))=N:=⟨_,rfl⟩
   have hNb:=hN ▸ Kerb.session_bd2 (20+(i:Int))
   have hNu:=Kerb.isU64_iff.2 hNb
   have skT:=Kerb.skeys_all so.keys
   have smT:=Kerb.marks_all so.marks
   obtain ⟨sn1,sn2,sn3⟩:=so.name
   obtain ⟨sl1,sl2⟩:=so.lens
   have hk:=Kerb.tgs_keeps D xs s (1000+Zy q.now*8) (Zy q.case_.address % 3) li N M
   have hbound:=fun h=>Kerb.bound19 (d:=D) (xs:=xs) (s:=s) (now:=1000+Zy q.now*8) (ad:=Zy q.case_.address % 3) (li:=li) (se:=N) (z:=Z) (by rw [← hZ]) (by rw [← hZ]) d1.2 xok hNb h
   rw [hM] at hbound
   have so2:Kerb.Sound (Kerb.tgsAnswer D xs s (1000+Zy q.now*8) (Zy q.case_.address % 3) li N M).s:=Kerb.tgs_sound so
   have lO:=Kerb.tgs_out_len D xs s (1000+Zy q.now*8) (Zy q.case_.address % 3) li N M
   obtain ⟨O,hO⟩:∃ O,Kerb.tgsAnswer D xs s (1000+Zy q.now*8) (Zy q.case_.address % 3) li N M=O:=⟨_,rfl⟩
   rw [hO] at hk hbound so2 lO
   obtain ⟨k1,k2,k3⟩:=hk
   have m1:(!(O.s.me.name==s.me.name&&(O.s.me.inst==s.me.inst&&O.s.me.realm==s.me.realm)))=false:=by rw [k1];simp
   have m2:Kerb.sameSKeys O.s.keys s.keys=true:=by rw [k2];exact Kerb.sameSKeys_refl _
   have m3:decide ((O.s.replay.marks.length:Int)>Zz .i64 ((s.replay.marks.length:Int)+1))=false:=by
    rw [wrap_i64 (by omega) (by omega)]
    simp;omega
   have skT2:=Kerb.skeys_all so2.keys
   obtain ⟨tl1,tl2⟩:=so2.lens
   simp (config:={maxSteps:=10000000}) only [hkk,hg,Int.toNat_natCast,Kerb.TAsk.av,Kerb.wrap_u8i,w1,w2,w3,w4,z1,z2,z3,z4,z5,z6,z7,z8,z9,y1,y2,y3,y4,c0,c1,hZ,hM,lM,hN,hNu,skT,smT,sn1,sn2,sn3,sl1,sl2,hSS,hDD,d3,d4,d5,hxT,xkv,xl2,xl3,hO,m1,m2,m3,skT2,tl1,lO,Kerb.map_toEntry,Kerb.map_toCross,Kerb.map_toSKey,Kerb.map_toMark,List.length_map,decide_true,Bool.not_true,↓sFalse,Bool.and_self,Bool.true_and,Bool.and_true,↓sInt,↓sU8,↓sBool,↓sStr,↓sBs,↓sSl,↓sAgg,↓sTup,↓sCons,↓sNil,↓sNilB,↓sChk,↓sChkBind,↓sSome,↓sOwnL,↓sConsB,↓sOwnB]
   cases hok:O.out.ok
   ·rw [Bool.not_false,sel_true]
    exact ⟨_,rfl,(i+1,O.s,u),rfl,⟨by dsimp only;omega,by dsimp only;omega,so2⟩,by dsimp only;omega⟩
   rw [Bool.not_true,sel_false]
   obtain ⟨Y,body,Pp,T,B⟩:=hbound hok
   have b2:=B.box
   have b6:=B.s2
   have b7:=B.s3
   have b9:=B.stop
   have b10:=B.client
   have b11:=B.yc
   have b12:=B.service
   have b13:=B.home
   have b16:=B.t1
   have b17:=B.t2
   have b18:=B.t3
   have b19:=B.t4
   have b20:=B.t5
   have b8:=B.s4
   have b5:=B.s1
   have e1:Z.case_.ses=Yq (Zy q.case_.session % 4):=by rw [← hZ];rfl
   have e2:Z.case_.who=Kerb.user (Zy q.case_.client % 6):=by rw [← hZ];rfl
   have e3:Z.case_.issued=q.case_.issued:=by rw [← hZ]
   have e4:Z.case_.life=q.case_.life:=by rw [← hZ]
   have e5:Z.case_.address=q.case_.address:=by rw [← hZ]
   rw [e1] at b2 b6 b7
   rw [e2] at b10 b11 b13 b17
   rw [e3,e4] at b9
   rw [e5] at b16
   obtain ⟨n1,n2,n3,n4⟩:=B.lens
   have f1:(!O.out.issue.granter==Yq (Zy q.case_.session % 4))=false:=by rw [b6];simp
   have f2:(!O.out.issue.sealer==Yq (Zy q.case_.session % 4))=false:=by rw [b7];simp
   have f3:(!O.out.issue.session==N)=false:=by rw [b8];simp
   have f4:decide (O.out.issue.stop>1000+Zy q.case_.issued*8+300*(Zy q.case_.life / 4+1))=false:=by simp;omega
   have f5:(!(O.out.issue.client.name==(Kerb.user (Zy q.case_.client % 6)).name&&(O.out.issue.client.inst==(Kerb.user (Zy q.case_.client % 6)).inst&&O.out.issue.client.realm==(Kerb.user (Zy q.case_.client % 6)).realm)))=false:=by rw [b10];simp
   have f6:(!(Y.client.name==O.out.issue.client.name&&(Y.client.inst==O.out.issue.client.inst&&Y.client.realm==O.out.issue.client.realm)))=false:=by rw [b10,b11];simp
   have f7:(!(O.out.issue.service.name==Pp.service.name&&(O.out.issue.service.inst==Pp.service.inst&&O.out.issue.service.realm==Pp.service.realm)))=false:=by rw [b12];simp
   have f8:(!T.address==Zy q.case_.address % 3)=false:=by rw [b16];simp
   have f9:(!(T.client.name==O.out.issue.client.name&&(T.client.inst==O.out.issue.client.inst&&T.client.realm==O.out.issue.client.realm)))=false:=by rw [b10,b17];simp
   have f10:(!T.session==O.out.issue.session)=false:=by rw [b18,b8];simp
   have g1:Zz .i64 (T.life+1)=T.life+1:=wrap_i64 (by omega) (by omega)
   have g2:Zz .i64 (300*(T.life+1))=300*(T.life+1):=wrap_i64 (by omega) (by omega)
   have g3:Zz .i64 (T.issued+300*(T.life+1))=T.issued+300*(T.life+1):=wrap_i64 (by omega) (by omega)
   have f11:(!T.issued+300*(T.life+1)==O.out.issue.stop)=false:=by rw [b19];simp
   have f12:(O.out.issue.service.name==[107,114,98,116,103,116])=true→(!O.out.issue.client.realm==[65,84,72])=false:=by
    intro h
    have h2:Pp.service.name=Kerb.krbtgt:=by rw [← b12];exact beq_iff_eq.1 h
    rw [b10,b13 h2,d6];rfl
   have hfin:∀ a b:Option (List AV ⊕ (Ex×List AV)),sel (O.out.issue.service.name==[107,114,98,116,103,116]) (sel (!O.out.issue.client.realm==[65,84,72]) a b) b=b:=by
    intro a b
    cases hx:O.out.issue.service.name==[107,114,98,116,103,116]
    ·rfl
    ·rw [sel_true,f12 hx];rfl
   have r0:=B.r1
   simp (config:={maxSteps:=10000000}) only [B.reply,b2,B.part,b5,f1,f2,f3,f4,f5,f6,f7,f8,f9,f10,f11,g1,g2,g3,n1,n2,n3,n4,r0,B.tk,hfin,BEq.rfl,decide_true,Bool.not_true,↓sFalse,↓sInt,↓sU8,↓sBool,↓sStr,↓sBs,↓sSl,↓sAgg,↓sTup,↓sCons,↓sNil,↓sNilB,↓sChk,↓sChkBind,↓sSome,↓sOwnL,↓sConsB,↓sOwnB]
   exact ⟨_,rfl,(i+1,O.s,u+1),rfl,⟨by dsimp only;omega,by dsimp only;omega,so2⟩,by dsimp only;omega⟩
  ·rintro _ ⟨s,u,hu,rfl⟩
   have hu2:(u:Int)≤(qs.length:Int):=by omega
   simp (config:={maxSteps:=10000000}) only [List.length_map,hu2,decide_true,↓sInt,↓sU8,↓sBool,↓sStr,↓sBs,↓sSl,↓sAgg,↓sTup,↓sCons,↓sNil,↓sNilB,↓sChk,↓sChkBind,↓sSome,↓sOwnL,↓sConsB,↓sOwnB]
   rfl
 ·cases h
end Go.Proofs.YtmdppipjjnfanaaGreatDoor
