/- What the functions of this seat compute. -/
import Derived.Test.YtaikjfcgemjghaaGreatTab
import Derived.Test.YtaikjfcgemjghaaGreatKerbPlain
import Derived.Test.YtaikjfcgemjghaaGreatAbsStep
import Derived.Test.YtaikjfcgemjghaaGreatKerbKaPlain
import Derived.Test.YtaikjfcgemjghaaGreatKerbKaRef
import Derived.Test.YtaikjfcgemjghaaGreatKerbCli4
import Derived.Test.YtaikjfcgemjghaaGreatKerbCli5
import Derived.Test.YtaikjfcgemjghaaGreatKerbKac2
import Derived.Test.YtaikjfcgemjghaaGreatKerbCli3
import Derived.Test.YtaikjfcgemjghaaGreatKerbCli4
import Derived.Test.YtaikjfcgemjghaaGreatKerbCli5
import Derived.Test.YtaikjfcgemjghaaGreatKerbSrvL
import Derived.Test.YtaikjfcgemjghaaGreatKerbPath
import Derived.Test.YtaikjfcgemjghaaGreatKerbPath
open Kerb renaming kaReceive→Zz,service→Zm,session→Yd
open Go.Abs.AV renaming int→Zy,str→Zv,bool→Zb,onAgg→Yv,agg→Yg
open Kerb.Prin renaming realm→Zx,name→Zu,inst→Zq,mk→Zj
open Kerb.KaGot renaming c→Zw,w→Zk
open Kerb.KaWait renaming service→Zp,mk→Yk,session→Yf,start→Yb,time→Yn,stop→Ym,new→Yh
open Kerb.Cred renaming service→Zd
open Kerb.Client renaming cache→Zf,me→Zg,wanted→Yj
open Option renaming bind→Zn
open Kerb.Issue renaming service→Zh,server→Yx,client→Yw
open Go.IntKind renaming wrap→Yz
open List renaming length→Yy,map→Yq
open UInt8 renaming toNat→Yu
open Kerb.Cache renaming owner→Yp
namespace Go.Proofs.YtaikjfcgemjghaaGreat
open Go Go.Abs Go.Proofs
set_option linter.unusedVariables false
set_option linter.unusedSimpArgs false
set_option maxRecDepth 100000
set_option maxHeartbeats 4000000 in
theorem w3:Walked Tryz.prog G 3 14 sp3:=by
 refine ⟨Tryz.f3,Tryz.func3,by decide +kernel,rfl,fun xs bl r h=> ?_⟩
 unfold sp3 at h
 split at h
 ·rename_i wh sv lf ad
  cases h
  refine Eq.trans (b:=(let t0:Kerb.Db:=Kerb.Db.mk (Kerb.Db.realm (Kerb.simpleDb (200:UInt8) (0:UInt8) (255:UInt8))) (Yq Kerb.toEntry (Yq Kerb.Entry.av (Kerb.Db.entries (Kerb.simpleDb (200:UInt8) (0:UInt8) (255:UInt8)))));let t1:Int:=Int.tmod (Yz .i64 (↑(Yu wh):Int)) 3;let t2:Int:=Int.tmod (Yz .i64 (↑(Yu sv):Int)) 3;Zn (chk (decide (0≤t1)&&decide (t1≤4611686018427387904)) (some (Yg [Zv (Zu (Kerb.user t1)),Zv (Zq (Kerb.user t1)),Zv (Zx (Kerb.user t1))],[]))) (kA fun cs=>cStr cs fun b r=>cStr r fun b_1 r=>cStr r fun b_2 r=>let t3:Kerb.Client:=Kerb.Dec.val (Kerb.newClient (Zj b b_1 b_2) (Yz .i64 (↑(Yu ad):Int)) 300 true);onNil r (Zn (chk (l63 b&&l63 b_1&&l63 b_2) (some (AV.tup [Yg [Zv (Zu (Zg t3)),Zv (Zq (Zg t3)),Zv (Zx (Zg t3)),Zy .i64 (Kerb.Client.address t3),Zy .i64 (Kerb.Client.skew t3),Zb (Kerb.Client.little t3),Zv (Zu (Yp (Zf t3))),Zv (Zq (Yp (Zf t3))),Zv (Zx (Yp (Zf t3))),AV.sl 8 (Yq Kerb.Cred.av (Kerb.Cache.creds (Zf t3))),Zy .i64 (Kerb.Client.wait t3),Zv (Zu (Yj t3)),Zv (Zq (Yj t3)),Zv (Zx (Yj t3)),Zy .u64 (Kerb.Client.session t3),Zy .i64 (Kerb.Client.time t3),Zy .i64 (Kerb.Client.life t3),Zy .i64 (Kerb.Client.checksum t3),Zy .i64 (Kerb.Client.tick t3)],Zy .i64 (Kerb.Dec.err (Kerb.newClient (Zj b b_1 b_2) (Yz .i64 (↑(Yu ad):Int)) 300 true))],[]))) (kT fun vs=>onCons vs fun x r=>Yv x fun cs=>cStr cs fun b r_1=>cStr r_1 fun b_3 r_2=>cStr r_2 fun b_4 r_3=>let t4:Bool:=l63 b&&l63 b_3&&l63 b_4;cInt .i64 r_3 fun n r_4=>cInt .i64 r_4 fun n_1 r_5=>cBool r_5 fun b_5 r_6=>cStr r_6 fun b_6 r_7=>cStr r_7 fun b_7 r_8=>cStr r_8 fun b_8 r_9=>let t5:Bool:=t4&&l63 b_6&&l63 b_7&&l63 b_8;cSl 8 r_9 fun b_9 r_10=>let t6:Kerb.Cache:=Kerb.Cache.mk (Zj b_6 b_7 b_8) (Yq Kerb.toCred b_9);cInt .i64 r_10 fun n_2 r_11=>cStr r_11 fun b_10 r_12=>cStr r_12 fun b_11 r_13=>cStr r_13 fun b_12 r_14=>cInt .u64 r_14 fun n_3 r_15=>cInt .i64 r_15 fun n_4 r_16=>cInt .i64 r_16 fun n_5 r_17=>cInt .i64 r_17 fun n_6 r_18=>cInt .i64 r_18 fun n_7 r_19=>let t7:Kerb.Client:=Kerb.Client.mk (Zj b b_3 b_4) n n_1 b_5 t6 n_2 (Zj b_10 b_11 b_12) n_3 n_4 n_5 n_6 n_7;onNil r_19 (cInt .i64 r fun n r=>onNil r (Zn (chk (decide (0≤t1)&&decide (t1≤1000)) (some (Zy .u64 (Kerb.long t1),[]))) (kI .u64 fun n=>let t9:Kerb.KaSent:=Kerb.kaAuth t7 n (Yz .i64 (↑(Yu lf):Int)) 1000;let t8:Kerb.KaWait:=Kerb.KaSent.w t9;Zn (chk (t5&&List.all b_9 Kerb.isCred&&decide (Yy b_9≤1000000)&&decide (0≤n)&&decide (n<18446744073709551616)) (some (AV.tup [Yg [Zy .i64 (Kerb.KaWait.op t8),Zy .i64 (Yn t8),Zy .i64 (Yb t8),Zy .i64 (Ym t8),Zv (Zu (Zp t8)),Zv (Zq (Zp t8)),Zv (Zx (Zp t8)),Zy .u64 (Yf t8),Zy .u64 (Yh t8)],AV.bs (Kerb.KaSent.msg t9),Zy .i64 (Kerb.KaSent.err t9)],[]))) (kT fun vs=>onCons vs fun x r=>Yv x fun cs=>cInt .i64 cs fun n_8 r_20=>cInt .i64 r_20 fun n_9 r_21=>cInt .i64 r_21 fun n_10 r_22=>cInt .i64 r_22 fun n_11 r_23=>cStr r_23 fun b r_24=>cStr r_24 fun b_13 r_25=>cStr r_25 fun b_14 r_26=>cInt .u64 r_26 fun n_12 r_27=>cInt .u64 r_27 fun n_13 r_28=>let t10:Kerb.KaWait:=Yk n_8 n_9 n_10 n_11 (Zj b b_13 b_14) n_12 n_13;onNil r_28 (cBs r fun b r=>let t12:Kerb.KaOut:=Kerb.kaserver t0 1000 (Yz .i64 (↑(Yu ad):Int)) 300 (Yd 70) b;let t11:Kerb.Issue:=Kerb.KaOut.issue t12;cInt .i64 r fun n_14 r=>onNil r (Zn (chk (decide (Yy b≤1000000)) (some (AV.tup [Yg [Zv (Kerb.Db.realm (Kerb.KaOut.db t12)),AV.sl 9 (Yq Kerb.Entry.av (Kerb.Db.entries (Kerb.KaOut.db t12)))],AV.bs (Kerb.KaOut.answer t12),Yg [Zy .i64 (Kerb.Issue.kind t11),Zv (Zu (Yx t11)),Zv (Zq (Yx t11)),Zv (Zx (Yx t11)),Zv (Zu (Yw t11)),Zv (Zq (Yw t11)),Zv (Zx (Yw t11)),Zv (Zu (Zh t11)),Zv (Zq (Zh t11)),Zv (Zx (Zh t11)),Zy .u64 (Kerb.Issue.session t11),Zy .u64 (Kerb.Issue.sealer t11),Zy .u64 (Kerb.Issue.granter t11),AV.bs (Kerb.Issue.text t11),Zy .i64 (Kerb.Issue.issued t11),Zy .i64 (Kerb.Issue.stop t11)],Zb (Kerb.KaOut.ok t12)],[]))) (kT fun vs=>onCons vs fun x r=>Yv x fun cs=>cStr cs fun b r_29=>cSl 9 r_29 fun b_15 r_30=>onNil r_30 (cBs r fun b_16 r=>let t13:Kerb.Cred:=Kerb.KaGot.cred (Zz t7 t10 n b_16);let t14:Kerb.Prin:=Yp (Zf (Zw (Zz t7 t10 n b_16)));let t15:Kerb.Prin:=Zp (Zk (Zz t7 t10 n b_16));let t16:Kerb.Prin:=Yj (Zw (Zz t7 t10 n b_16));onCons r fun x r=>Yv x fun cs=>cInt .i64 cs fun n_15 r_31=>cStr r_31 fun b_17 r_32=>cStr r_32 fun b_18 r_33=>cStr r_33 fun b_19 r_34=>cStr r_34 fun b_20 r_35=>cStr r_35 fun b_21 r_36=>cStr r_36 fun b_22 r_37=>cStr r_37 fun b_23 r_38=>cStr r_38 fun b_24 r_39=>cStr r_39 fun b_25 r_40=>cInt .u64 r_40 fun n_16 r_41=>cInt .u64 r_41 fun n_17 r_42=>cInt .u64 r_42 fun n_18 r_43=>cBs r_43 fun b_26 r_44=>cInt .i64 r_44 fun n_19 r_45=>cInt .i64 r_45 fun n_20 r_46=>onNil r_46 (cBool r fun b_27 r=>onNil r (Zn (chk (t5&&List.all b_9 Kerb.isCred&&decide (Yy b_9≤1000000)&&decide (Yy b_16≤140737488355328)) (some (AV.tup [Yg [Zv (Zu (Zg (Zw (Zz t7 t10 n b_16)))),Zv (Zq (Zg (Zw (Zz t7 t10 n b_16)))),Zv (Zx (Zg (Zw (Zz t7 t10 n b_16)))),Zy .i64 (Kerb.Client.address (Zw (Zz t7 t10 n b_16))),Zy .i64 (Kerb.Client.skew (Zw (Zz t7 t10 n b_16))),Zb (Kerb.Client.little (Zw (Zz t7 t10 n b_16))),Zv (Zu t14),Zv (Zq t14),Zv (Zx t14),AV.sl 8 (Yq Kerb.Cred.av (Kerb.Cache.creds (Zf (Zw (Zz t7 t10 n b_16))))),Zy .i64 (Kerb.Client.wait (Zw (Zz t7 t10 n b_16))),Zv (Zu t16),Zv (Zq t16),Zv (Zx t16),Zy .u64 (Kerb.Client.session (Zw (Zz t7 t10 n b_16))),Zy .i64 (Kerb.Client.time (Zw (Zz t7 t10 n b_16))),Zy .i64 (Kerb.Client.life (Zw (Zz t7 t10 n b_16))),Zy .i64 (Kerb.Client.checksum (Zw (Zz t7 t10 n b_16))),Zy .i64 (Kerb.Client.tick (Zw (Zz t7 t10 n b_16)))],Yg [Zy .i64 (Kerb.KaWait.op (Zk (Zz t7 t10 n b_16))),Zy .i64 (Yn (Zk (Zz t7 t10 n b_16))),Zy .i64 (Yb (Zk (Zz t7 t10 n b_16))),Zy .i64 (Ym (Zk (Zz t7 t10 n b_16))),Zv (Zu t15),Zv (Zq t15),Zv (Zx t15),Zy .u64 (Yf (Zk (Zz t7 t10 n b_16))),Zy .u64 (Yh (Zk (Zz t7 t10 n b_16)))],Yg [Zv (Zu (Zd t13)),Zv (Zq (Zd t13)),Zv (Zx (Zd t13)),Zy .u64 (Kerb.Cred.session t13),Zy .i64 (Kerb.Cred.life t13),Zy .i64 (Kerb.Cred.kvno t13),Zy .i64 (Kerb.Cred.issued t13),AV.bs (Kerb.Cred.ticket t13)],Zy .i64 (Kerb.KaGot.err (Zz t7 t10 n b_16))],[]))) (kT fun vs=>onCons vs fun x r=>Yv x fun cs=>cStr cs fun b_28 r_47=>cStr r_47 fun b_29 r_48=>cStr r_48 fun b_30 r_49=>let t17:Bool:=l63 b_28&&l63 b_29&&l63 b_30;cInt .i64 r_49 fun n_21 r_50=>cInt .i64 r_50 fun n_22 r_51=>cBool r_51 fun b_31 r_52=>cStr r_52 fun b_32 r_53=>cStr r_53 fun b_33 r_54=>cStr r_54 fun b_34 r_55=>let t18:Bool:=t17&&l63 b_32&&l63 b_33&&l63 b_34;cSl 8 r_55 fun b_35 r_56=>let t19:Kerb.Cache:=Kerb.Cache.mk (Zj b_32 b_33 b_34) (Yq Kerb.toCred b_35);cInt .i64 r_56 fun n_23 r_57=>cStr r_57 fun b_36 r_58=>cStr r_58 fun b_37 r_59=>cStr r_59 fun b_38 r_60=>cInt .u64 r_60 fun n_24 r_61=>cInt .i64 r_61 fun n_25 r_62=>cInt .i64 r_62 fun n_26 r_63=>cInt .i64 r_63 fun n_27 r_64=>cInt .i64 r_64 fun n_28 r_65=>let t20:Kerb.Client:=Kerb.Client.mk (Zj b_28 b_29 b_30) n_21 n_22 b_31 t19 n_23 (Zj b_36 b_37 b_38) n_24 n_25 n_26 n_27 n_28;onNil r_65 (onCons r fun x r=>Yv x fun cs=>cInt .i64 cs fun n_29 r_66=>cInt .i64 r_66 fun n_30 r_67=>cInt .i64 r_67 fun n_31 r_68=>cInt .i64 r_68 fun n_32 r_69=>cStr r_69 fun b_39 r_70=>cStr r_70 fun b_40 r_71=>cStr r_71 fun b_41 r_72=>cInt .u64 r_72 fun n_33 r_73=>cInt .u64 r_73 fun n_34 r_74=>onNil r_74 (onCons r fun x r=>Yv x fun cs=>cStr cs fun b_42 r_75=>cStr r_75 fun b_43 r_76=>cStr r_76 fun b_44 r_77=>cInt .u64 r_77 fun n_35 r_78=>cInt .i64 r_78 fun n_36 r_79=>cInt .i64 r_79 fun n_37 r_80=>cInt .i64 r_80 fun n_38 r_81=>cBs r_81 fun b_45 r_82=>onNil r_82 (cInt .i64 r fun n_39 r=>onNil r (sel (!n_14==0) (some (Zb false,[])) (sel (!b_27) (some (Zb false,[])) (sel (!n_39==0) (some (Zb false,[])) (sel (!n_29==0) (some (Zb false,[])) (sel (!n_35==Yd 70) (some (Zb false,[])) (sel (!b_45==b_26) (some (Zb false,[])) (sel (decide (n_36>Yz .i64 (↑(Yu lf):Int))) (some (Zb false,[])) (Zn (chk (decide (0≤t2)&&decide (t2≤4611686018427387904)) (some (Yg [Zv (Zu (Zm t2)),Zv (Zq (Zm t2)),Zv (Zx (Zm t2))],[]))) (kA fun cs=>cStr cs fun b_46 r=>cStr r fun b_47 r=>cStr r fun b_48 r=>let t22:Kerb.KaSent:=Kerb.kaTicket t20 (Zj b_46 b_47 b_48) (Yz .i64 (↑(Yu lf):Int)) 1000;let t21:Kerb.KaWait:=Kerb.KaSent.w t22;onNil r (Zn (chk (t18&&List.all b_35 Kerb.isCred&&decide (Yy b_35≤1000000)&&l63 b_46&&l63 b_47&&l63 b_48) (some (AV.tup [Yg [Zy .i64 (Kerb.KaWait.op t21),Zy .i64 (Yn t21),Zy .i64 (Yb t21),Zy .i64 (Ym t21),Zv (Zu (Zp t21)),Zv (Zq (Zp t21)),Zv (Zx (Zp t21)),Zy .u64 (Yf t21),Zy .u64 (Yh t21)],AV.bs (Kerb.KaSent.msg t22),Zy .i64 (Kerb.KaSent.err t22)],[]))) (kT fun vs=>onCons vs fun x r=>Yv x fun cs=>cInt .i64 cs fun n_40 r_83=>cInt .i64 r_83 fun n_41 r_84=>cInt .i64 r_84 fun n_42 r_85=>cInt .i64 r_85 fun n_43 r_86=>cStr r_86 fun b_49 r_87=>cStr r_87 fun b_50 r_88=>cStr r_88 fun b_51 r_89=>cInt .u64 r_89 fun n_44 r_90=>cInt .u64 r_90 fun n_45 r_91=>let t23:Kerb.KaWait:=Yk n_40 n_41 n_42 n_43 (Zj b_49 b_50 b_51) n_44 n_45;onNil r_91 (cBs r fun b_52 r=>let t25:Kerb.KaOut:=Kerb.kaserver (Kerb.Db.mk b (Yq Kerb.toEntry b_15)) 1000 (Yz .i64 (↑(Yu ad):Int)) 300 (Yd 71) b_52;let t24:Kerb.Issue:=Kerb.KaOut.issue t25;cInt .i64 r fun n_46 r=>onNil r (Zn (chk (l63 b&&List.all b_15 Kerb.isEntry&&decide (Yy b_15≤1000000)&&decide (Kerb.Db.err (Kerb.Db.mk b (Yq Kerb.toEntry b_15))=0)&&true&&decide (Yy b_52≤1000000)) (some (AV.tup [Yg [Zv (Kerb.Db.realm (Kerb.KaOut.db t25)),AV.sl 9 (Yq Kerb.Entry.av (Kerb.Db.entries (Kerb.KaOut.db t25)))],AV.bs (Kerb.KaOut.answer t25),Yg [Zy .i64 (Kerb.Issue.kind t24),Zv (Zu (Yx t24)),Zv (Zq (Yx t24)),Zv (Zx (Yx t24)),Zv (Zu (Yw t24)),Zv (Zq (Yw t24)),Zv (Zx (Yw t24)),Zv (Zu (Zh t24)),Zv (Zq (Zh t24)),Zv (Zx (Zh t24)),Zy .u64 (Kerb.Issue.session t24),Zy .u64 (Kerb.Issue.sealer t24),Zy .u64 (Kerb.Issue.granter t24),AV.bs (Kerb.Issue.text t24),Zy .i64 (Kerb.Issue.issued t24),Zy .i64 (Kerb.Issue.stop t24)],Zb (Kerb.KaOut.ok t25)],[]))) (kT fun vs=>onCons vs fun x r=>Yv x fun cs=>cStr cs fun b r_92=>cSl 9 r_92 fun b r_93=>onNil r_93 (cBs r fun b r=>let t26:Kerb.Cred:=Kerb.KaGot.cred (Zz t20 t23 n b);let t27:Kerb.Prin:=Yp (Zf (Zw (Zz t20 t23 n b)));let t28:Kerb.Prin:=Zp (Zk (Zz t20 t23 n b));let t29:Kerb.Prin:=Yj (Zw (Zz t20 t23 n b));onCons r fun x r=>Yv x fun cs=>cInt .i64 cs fun n_47 r_94=>cStr r_94 fun b_53 r_95=>cStr r_95 fun b_54 r_96=>cStr r_96 fun b_55 r_97=>cStr r_97 fun b_56 r_98=>cStr r_98 fun b_57 r_99=>cStr r_99 fun b_58 r_100=>cStr r_100 fun b_59 r_101=>cStr r_101 fun b_60 r_102=>cStr r_102 fun b_61 r_103=>cInt .u64 r_103 fun n_48 r_104=>cInt .u64 r_104 fun n_49 r_105=>cInt .u64 r_105 fun n_50 r_106=>cBs r_106 fun b_62 r_107=>cInt .i64 r_107 fun n_51 r_108=>cInt .i64 r_108 fun n_52 r_109=>onNil r_109 (cBool r fun b_63 r=>onNil r (Zn (chk (t18&&List.all b_35 Kerb.isCred&&decide (Yy b_35≤1000000)&&decide (Yy b≤140737488355328)) (some (AV.tup [Yg [Zv (Zu (Zg (Zw (Zz t20 t23 n b)))),Zv (Zq (Zg (Zw (Zz t20 t23 n b)))),Zv (Zx (Zg (Zw (Zz t20 t23 n b)))),Zy .i64 (Kerb.Client.address (Zw (Zz t20 t23 n b))),Zy .i64 (Kerb.Client.skew (Zw (Zz t20 t23 n b))),Zb (Kerb.Client.little (Zw (Zz t20 t23 n b))),Zv (Zu t27),Zv (Zq t27),Zv (Zx t27),AV.sl 8 (Yq Kerb.Cred.av (Kerb.Cache.creds (Zf (Zw (Zz t20 t23 n b))))),Zy .i64 (Kerb.Client.wait (Zw (Zz t20 t23 n b))),Zv (Zu t29),Zv (Zq t29),Zv (Zx t29),Zy .u64 (Kerb.Client.session (Zw (Zz t20 t23 n b))),Zy .i64 (Kerb.Client.time (Zw (Zz t20 t23 n b))),Zy .i64 (Kerb.Client.life (Zw (Zz t20 t23 n b))),Zy .i64 (Kerb.Client.checksum (Zw (Zz t20 t23 n b))),Zy .i64 (Kerb.Client.tick (Zw (Zz t20 t23 n b)))],Yg [Zy .i64 (Kerb.KaWait.op (Zk (Zz t20 t23 n b))),Zy .i64 (Yn (Zk (Zz t20 t23 n b))),Zy .i64 (Yb (Zk (Zz t20 t23 n b))),Zy .i64 (Ym (Zk (Zz t20 t23 n b))),Zv (Zu t28),Zv (Zq t28),Zv (Zx t28),Zy .u64 (Yf (Zk (Zz t20 t23 n b))),Zy .u64 (Yh (Zk (Zz t20 t23 n b)))],Yg [Zv (Zu (Zd t26)),Zv (Zq (Zd t26)),Zv (Zx (Zd t26)),Zy .u64 (Kerb.Cred.session t26),Zy .i64 (Kerb.Cred.life t26),Zy .i64 (Kerb.Cred.kvno t26),Zy .i64 (Kerb.Cred.issued t26),AV.bs (Kerb.Cred.ticket t26)],Zy .i64 (Kerb.KaGot.err (Zz t20 t23 n b))],[]))) (kT fun vs=>onCons vs fun x r=>Yv x fun cs=>cStr cs fun b r_110=>cStr r_110 fun b r_111=>cStr r_111 fun b r_112=>cInt .i64 r_112 fun n r_113=>cInt .i64 r_113 fun n r_114=>cBool r_114 fun b r_115=>cStr r_115 fun b r_116=>cStr r_116 fun b r_117=>cStr r_117 fun b r_118=>cSl 8 r_118 fun b r_119=>let t30:Kerb.Cred:=Prod.fst (Kerb.getCred (Yq Kerb.toCred b) (Zj b_46 b_47 b_48));cInt .i64 r_119 fun n r_120=>cStr r_120 fun b_64 r_121=>cStr r_121 fun b_65 r_122=>cStr r_122 fun b_66 r_123=>cInt .u64 r_123 fun n r_124=>cInt .i64 r_124 fun n r_125=>cInt .i64 r_125 fun n r_126=>cInt .i64 r_126 fun n r_127=>cInt .i64 r_127 fun n r_128=>onNil r_128 (onCons r fun x r=>Yv x fun cs=>cInt .i64 cs fun n r_129=>cInt .i64 r_129 fun n r_130=>cInt .i64 r_130 fun n r_131=>cInt .i64 r_131 fun n r_132=>cStr r_132 fun b_67 r_133=>cStr r_133 fun b_68 r_134=>cStr r_134 fun b_69 r_135=>cInt .u64 r_135 fun n r_136=>cInt .u64 r_136 fun n r_137=>onNil r_137 (onCons r fun x r=>Yv x fun cs=>cStr cs fun b_70 r_138=>cStr r_138 fun b_71 r_139=>cStr r_139 fun b_72 r_140=>cInt .u64 r_140 fun n r_141=>cInt .i64 r_141 fun n_53 r_142=>cInt .i64 r_142 fun n_54 r_143=>cInt .i64 r_143 fun n_55 r_144=>cBs r_144 fun b_73 r_145=>onNil r_145 (cInt .i64 r fun n_56 r=>onNil r (Zn (chk (List.all b Kerb.isCred&&decide (Yy b≤1000000)) (some (AV.tup [Yg [Zv (Zu (Zd t30)),Zv (Zq (Zd t30)),Zv (Zx (Zd t30)),Zy .u64 (Kerb.Cred.session t30),Zy .i64 (Kerb.Cred.life t30),Zy .i64 (Kerb.Cred.kvno t30),Zy .i64 (Kerb.Cred.issued t30),AV.bs (Kerb.Cred.ticket t30)],Zb (Prod.snd (Kerb.getCred (Yq Kerb.toCred b) (Zj b_46 b_47 b_48)))],[]))) (kT fun vs=>onCons vs fun x r=>Yv x fun cs=>cStr cs fun b r_146=>cStr r_146 fun b_74 r_147=>cStr r_147 fun b_75 r_148=>cInt .u64 r_148 fun n_57 r_149=>cInt .i64 r_149 fun n_58 r_150=>cInt .i64 r_150 fun n_59 r_151=>cInt .i64 r_151 fun n_60 r_152=>cBs r_152 fun b_76 r_153=>onNil r_153 (cBool r fun b_77 r=>onNil r (sel (n_46==0) (sel b_63 (sel (n_56==0) (sel (n_47==4) (sel (n==Yd 71) (sel b_77 (some (Zb (b_70==b&&(b_71==b_74&&b_72==b_75)&&n==n_57&&n_53==n_58&&n_54==n_59&&n_55==n_60&&b_73==b_76),[])) (some (Zb false,[]))) (some (Zb false,[]))) (some (Zb false,[]))) (some (Zb false,[]))) (some (Zb false,[]))) (some (Zb false,[])))))))))))))))))))))))))))))))))))))))))))):Option (AV×Blocks))) (by kernel_rfl) ?_
  delta kT kA kI
  try dsimp only [cStr,cBs,cBool,cU8,cInt,cSl,l63]
  obtain ⟨U,hU⟩:∃ U,Kerb.u8i wh % 3=U:=⟨_,rfl⟩
  obtain ⟨S,hS⟩:∃ S,Kerb.u8i sv % 3=S:=⟨_,rfl⟩
  have hu:U=0∨U=1∨U=2:=by rw [← hU];exact Kerb.who_cases wh
  have hs:S=0∨S=1∨S=2:=by rw [← hS];exact Kerb.who_cases sv
  have bw:=Kerb.u8i_bd wh
  have bs:=Kerb.u8i_bd sv
  have hl:=Kerb.u8i_bd lf
  have had:=Kerb.u8i_bd ad
  have f0:=Kerb.wrap_u8i
  have f1:Int.tmod (Kerb.u8i wh) 3=U:=by rw [Int.tmod_eq_emod_of_nonneg bw.1];exact hU
  have f2:Int.tmod (Kerb.u8i sv) 3=S:=by rw [Int.tmod_eq_emod_of_nonneg bs.1];exact hS
  obtain ⟨L,hL⟩:∃ L,Kerb.u8i lf=L:=⟨_,rfl⟩
  obtain ⟨AD,hAD⟩:∃ AD,Kerb.u8i ad=AD:=⟨_,rfl⟩
  rw [hL] at hl
  rw [hAD] at had
  have hb:=Kerb.lifeG_bd hl
  obtain ⟨p0,p1,p2⟩:=Kerb.pathFit_all (u:=U) (l:=L) (ad:=AD) (s:=S)
  have h1:=Kerb.path_new (u:=U) had
  have h2:=Kerb.auth_sent hu hl had
  obtain ⟨h3,a1,a2,a3⟩:=Kerb.path_auth hu hl had rfl
  have h4:=Kerb.receive1 (e:=1000+300*(L+1)) hu hl had a1 a2 a3
  have h5:=Kerb.ticket_sent hu hs hl had
  obtain ⟨h6,b1,b2,b3⟩:=Kerb.path_ticket hu hs hl had rfl
  have h7:=Kerb.receive2 (e:=1000+300*(L+1)) hu hs hl had b1 b2 b3
  have h8:=Kerb.path_has (u:=U) (l:=L) (ad:=AD) hs
  have kX:=Kerb.lock_kept (life:=200) (u:=U) (k:=Kerb.long U) (v:=3+U) (f:=0) (t:=0) hu (Kerb.long_valid (by omega) (by omega)) (Kerb.long_bd U) (by rw [Kerb.within_iff];omega) (by decide) (by decide)
  have lB1:=Kerb.encKaReq_len (Kerb.reqG 1 U (Kerb.long U) (Kerb.encodeKaSecret (Kerb.secE Kerb.lGet (1000+300*(L+1)))).val)
  have lB2:=Kerb.encKaReq_len (Kerb.reqT U AD L (Zm S))
  have lM1:=Kerb.encKaRep_len ⟨1,0,Kerb.boxP U AD L⟩
  have lM2:=Kerb.encKaRep_len ⟨2,0,Kerb.boxQ U AD L S⟩
  have y1:(Kerb.credP U AD L).session=Yd 70:=rfl
  have y2:(Kerb.credP U AD L).ticket=Kerb.tktP U AD L:=rfl
  have y3:(Kerb.credP U AD L).life=Kerb.lifeG L:=rfl
  have y4:(Kerb.credQ U AD L S).session=Yd 71:=rfl
  have y5:decide (Kerb.lifeG L>L)=false:=by simp;omega
  have y6:Kerb.noWait.op=0:=rfl
  have z1:((0:Int)==0)=true:=rfl
  have z2:((4:Int)==4)=true:=rfl
  have kk:=Kerb.long_bd U
  have ud:=Kerb.user_dec U
  have sd:=Kerb.service_dec S
  have g1:(decide ((0:Int)≤U)&&decide (U≤4611686018427387904))=true:=by simp;omega
  have g2:(decide ((0:Int)≤U)&&decide (U≤1000))=true:=by simp;omega
  have g3:(decide ((0:Int)≤S)&&decide (S≤4611686018427387904))=true:=by simp;omega
  rw [Kerb.simple_lock 200 hu]
  generalize Kerb.pathC U AD []=C0 at *
  generalize Kerb.pathC U AD [Kerb.credP U AD L]=C1 at *
  have hc2:(Kerb.pathC U AD (Kerb.credsQ U AD L S)).cache.creds=Kerb.credsQ U AD L S:=rfl
  rw [← hc2] at h8
  generalize Kerb.pathC U AD (Kerb.credsQ U AD L S)=C2 at *
  generalize hW1:Yk 1 1000 1000 (1000+300*(L+1)) Kerb.athG 0 0=W1 at *
  generalize hW2:Yk 2 1000 1000 (1000+300*(L+1)) (Zm S) (Yd 70) 0=W2 at *
  generalize hB1:(Kerb.encodeKaRequest (Kerb.reqG 1 U (Kerb.long U) (Kerb.encodeKaSecret (Kerb.secE Kerb.lGet (1000+300*(L+1)))).val)).val=B1 at *
  generalize hB2:(Kerb.encodeKaRequest (Kerb.reqT U AD L (Zm S))).val=B2 at *
  generalize hM1:(Kerb.encodeKaReply ⟨1,0,Kerb.boxP U AD L⟩).val=M1 at *
  generalize hM2:(Kerb.encodeKaReply ⟨2,0,Kerb.boxQ U AD L S⟩).val=M2 at *
  generalize Kerb.lockDb 200 U (Kerb.long U) (3+U) 0 0=X at *
  generalize Kerb.credP U AD L=R1 at *
  generalize Kerb.credQ U AD L S=R2 at *
  generalize Kerb.tktP U AD L=T1 at *
  have eM:Zj (Kerb.user U).name (Kerb.user U).inst (Kerb.user U).realm=Kerb.user U:=rfl
  have eS:Zj (Zm S).name (Zm S).inst (Zm S).realm=Zm S:=rfl
  have eX:Kerb.Db.mk X.realm X.entries=X:=rfl
  have e0:Kerb.Client.mk (Zj C0.me.name C0.me.inst C0.me.realm) C0.address C0.skew C0.little (Kerb.Cache.mk (Zj C0.cache.owner.name C0.cache.owner.inst C0.cache.owner.realm) C0.cache.creds) C0.wait (Zj C0.wanted.name C0.wanted.inst C0.wanted.realm) C0.session C0.time C0.life C0.checksum C0.tick=C0:=rfl
  have e1:Kerb.Client.mk (Zj C1.me.name C1.me.inst C1.me.realm) C1.address C1.skew C1.little (Kerb.Cache.mk (Zj C1.cache.owner.name C1.cache.owner.inst C1.cache.owner.realm) C1.cache.creds) C1.wait (Zj C1.wanted.name C1.wanted.inst C1.wanted.realm) C1.session C1.time C1.life C1.checksum C1.tick=C1:=rfl
  have ew1:Yk W1.op W1.time W1.start W1.stop (Zj W1.service.name W1.service.inst W1.service.realm) W1.session W1.new=W1:=rfl
  have ew2:Yk W2.op W2.time W2.start W2.stop (Zj W2.service.name W2.service.inst W2.service.realm) W2.session W2.new=W2:=rfl
  have x1:X.realm.length≤9223372036854775807:=by have:=kX.realm;omega
  have x2:X.entries.length≤1000000:=by have:=kX.len;omega
  have q1:B1.length≤1000000:=by omega
  have q2:B2.length≤1000000:=by omega
  have q3:M1.length≤140737488355328:=by omega
  have q4:M2.length≤140737488355328:=by omega
  simp (config:={maxSteps:=10000000}) only [f0,hL,hAD,f1,f2,g1,g2,g3,eM,eS,eX,e0,e1,ew1,ew2,h1,h2,h3,h4,h5,h6,h7,h8,p0.me,p0.owner,p0.all,p0.len,p1.me,p1.owner,p1.all,p1.len,p2.all,p2.len,ud,sd,kk,x1,x2,q1,q2,q3,q4,kX.err,kX.all,y1,y2,y3,y4,y5,y6,z1,z2,Kerb.map_toEntry,Kerb.map_toCred,List.length_map,beq_self_eq_true,decide_true,Bool.and_self,Bool.and_true,Bool.not_true,Bool.not_false,sTrue,sFalse,↓sInt,↓sU8,↓sBool,↓sStr,↓sBs,↓sSl,↓sAgg,↓sTup,↓sCons,↓sNil,↓sNilB,↓sChk,↓sChkBind,↓sSome]
 ·cases h
end Go.Proofs.YtaikjfcgemjghaaGreat
