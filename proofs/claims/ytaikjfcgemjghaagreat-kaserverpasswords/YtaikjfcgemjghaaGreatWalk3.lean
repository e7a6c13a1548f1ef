/- What the functions of this seat compute. -/
import Derived.Test.YtaikjfcgemjghaaGreatTab
import Derived.Test.YtaikjfcgemjghaaGreatKerbPlain
import Derived.Test.YtaikjfcgemjghaaGreatAbsStep
import Derived.Test.YtaikjfcgemjghaaGreatKerbKaPlain
import Derived.Test.YtaikjfcgemjghaaGreatKerbKaRef
import Derived.Test.YtaikjfcgemjghaaGreatKerbCli3
import Derived.Test.YtaikjfcgemjghaaGreatKerbCli4
import Derived.Test.YtaikjfcgemjghaaGreatKerbCli5
import Derived.Test.YtaikjfcgemjghaaGreatKerbSrvL
import Derived.Test.YtaikjfcgemjghaaGreatKerbKac2
import Derived.Test.YtaikjfcgemjghaaGreatKerbSrvP
open Go.Abs.AV renaming int→Zz,str→Zy,u8→Zv,bs→Zp,tup→Zg,bool→Yz,ownB→Yy,agg→Yg,sl→Xm,onAgg→Wq,undef→Uk,onInt→Up,onOwnB→Uh
open List renaming length→Zx,append→Yv,map→Xj,length_map→Xp,getD→Vj,all→Un
open Option renaming bind→Zw
open Kerb renaming keyBytes_len→Zu,putPrin_len→Zq,putN_len→Zj,u8i→Zf,encodeKaRequest→Yx,within→Yq,putN→Ym,putText→Yh,decodeTicket→Xy,encodeKaReply→Xx,toEntry→Xv,pGet→Xq,prin→Xg,user→Xh,decodeKaSecret→Wz,map_toEntry→Wj,long→Wk,u8i_bd→Wd,getD_ent→Wf,encodeKaAnswer→Wg,text→Wb,noPrin→Wh,validRealm→Vy,encodeTicket→Vx,pBytes→Vu,get→Vq,putTick→Vk,putPrin→Vp,makeBox→Vd,isEntry→Vf,encodeKaSecret→Vg,pText→Vh,validName→Uz,validInst→Uy,session→Ux,noEntry→Uw,findCross→Uv,ents_of→Uu,keyValid→Ud,krbtgt→Uf,serviceEnt→Ub,readKaReq→Um,ticketed→Qz
open Go.IntKind renaming i64→Zk,wrap→Zd,u64→Wn,u16→Vv
open Bool renaming not_true→Zb,and_eq_true→Zm,and_self→Yj,not_false→Wm
open UInt8 renaming toNat→Zn,ofNat→Wu
open Kerb.Prin renaming mk→Zh,valid→Xu,realm→Xn,name→Ww,inst→Wv
open Kerb.KAsk renaming mk→Yw
open Kerb.Entry renaming av→Yu,mk→Wp
open Kerb.Dec renaming val→Yk,err→Ug
open Prod renaming snd→Yp,fst→Xz
open Int renaming tmod_eq_emod_of_nonneg→Yd,tmod→Yf,toNat→Yn
open Kerb.Enc renaming err→Yb,val→Xw
open Kerb.Rd renaming val→Xk,pos→Wy,bad→Wx
open Kerb.KaRequest renaming mk→Xd
open Kerb.Db renaming mk→Xf,err→Vw,entries→Vb,realm→Uj
open Kerb.KaReply renaming mk→Xb
open Nat renaming le_trans→Vz
open Kerb.Ticket renaming mk→Vn
open Kerb.KaAnswer renaming mk→Vm
open Kerb.GotP renaming val→Uq
namespace Go.Proofs.YtaikjfcgemjghaaGreat
open Go Go.Abs Go.Proofs
set_option linter.unusedVariables false
set_option linter.unusedSimpArgs false
set_option maxRecDepth 100000
set_option maxHeartbeats 4000000 in
theorem w24:Walked Tryz.prog G 24 7 sp24:=by
 refine ⟨Tryz.f24,Tryz.func24,by decide +kernel,rfl,fun xs bl r h=> ?_⟩
 unfold sp24 at h
 split at h
 ·rename_i o u s e n t p i l a w d hw
  obtain ⟨hpre,h2⟩:=chk_inv h;cases h2
  refine Eq.trans (b:=(let t0:Int:=Zd .i64 (Zd .i64 (1+Yf (Zd .i64 (↑(Zn o):Int)) 3)-1);let t1:AV:=Zy [(107:UInt8),(114:UInt8),(98:UInt8),(116:UInt8),(103:UInt8),(116:UInt8)];let t4:AV:=Zy [(65:UInt8),(84:UInt8),(72:UInt8)];let t5:List AV:=[Zy [(103:UInt8),(84:UInt8),(71:UInt8),(83:UInt8)],Zy [(103:UInt8),(84:UInt8),(75:UInt8),(84:UInt8)],Zy [(67:UInt8),(80:UInt8),(87:UInt8),(108:UInt8)]];let t6:List AV:=[Zy [(103:UInt8),(84:UInt8),(75:UInt8),(84:UInt8)],Zy [(67:UInt8),(80:UInt8),(87:UInt8),(108:UInt8)],Zy [(103:UInt8),(84:UInt8),(71:UInt8),(83:UInt8)]];let t8:AV:=Zz .i64 (Zd .i64 (1000+Zd .i64 (↑(Zn t):Int)));let t9:List AV:=[Zz .i64 0,Zy [],Zp [],Zy [],Zy [],Zp []];let t2:Int:=(↑(Zx t6):Int);let t3:Int:=(↑(Zx t5):Int);let t7:List AV:=[t8,Zz .i64 0,Zz .i64 0,Zz .u64 0];let t10:List AV:=[t1,t4,Zz .u64 (Wk 3),t4,Zz .i64 6];chk (decide (0≤t0)&&decide (t0<t3)&&true) (AV.onStr (Vj t5 (Yn t0) Uk) fun b=>Zw (sel (Wu (Yn (Yf (↑(Zn w):Int) (↑(Zn (16:UInt8)):Int)))==(1:UInt8)) (chk (decide (0≤t0)&&decide (t0<t2)&&true) (AV.onStr (Vj t6 (Yn t0) Uk) fun b=>some (Zv o::Zv u::Zv s::Zv e::Zv n::Zv t::Zv p::Zv i::Zv l::Zv a::Zv w::Zv d::Zz .u16 hw::Zp []::Zz .i64 (Zd .i64 (1+Yf (Zd .i64 (↑(Zn o):Int)) 3))::t8::Zy b::t7))) (some (Zv o::Zv u::Zv s::Zv e::Zv n::Zv t::Zv p::Zv i::Zv l::Zv a::Zv w::Zv d::Zz .u16 hw::Zp []::Zz .i64 (Zd .i64 (1+Yf (Zd .i64 (↑(Zn o):Int)) 3))::t8::Zy b::t7))) fun l=>cU8 l fun b r=>cU8 r fun b_1 r=>cU8 r fun b_2 r=>cU8 r fun b_3 r=>cU8 r fun b_4 r=>let t11:Int:=Zd .i64 (30+Yf (Zd .i64 (↑(Zn b_4):Int)) 3);cU8 r fun b_5 r=>cU8 r fun b_6 r=>cU8 r fun b_7 r=>cU8 r fun b_8 r=>cU8 r fun b_9 r=>cU8 r fun b_10 r=>cU8 r fun b_11 r=>cInt .u16 r fun n r=>cBs r fun b_12 r=>cInt .i64 r fun n_1 r=>cInt .i64 r fun n_2 r=>cStr r fun b_13 r=>cInt .i64 r fun n_3 r=>cInt .i64 r fun n_4 r=>cInt .i64 r fun n_5 r=>cInt .u64 r fun n_6 r=>onNil r (Zw (sel (b_13==[(67:UInt8),(80:UInt8),(87:UInt8),(108:UInt8)]) (Zw (chk (decide (0≤t11)&&decide (t11≤1000)) (some (Zz .u64 (Wk t11),[]))) (kI .u64 fun n_7=>Zw (sel (Wu (Yn (Yf (↑(Zn b_10):Int) (↑(Zn (16:UInt8)):Int)))==(2:UInt8)) (some [Zv b,Zv b_1,Zv b_2,Zv b_3,Zv b_4,Zv b_5,Zv b_6,Zv b_7,Zv b_8,Zv b_9,Zv b_10,Zv b_11,Zz .u16 n,Zp b_12,Zz .i64 n_1,Zy b_13,Zz .i64 n_3,Zz .i64 n_4,Zz .i64 n_5,Zz .u64 (Ux 5)]) (some [Zv b,Zv b_1,Zv b_2,Zv b_3,Zv b_4,Zv b_5,Zv b_6,Zv b_7,Zv b_8,Zv b_9,Zv b_10,Zv b_11,Zz .u16 n,Zp b_12,Zz .i64 n_1,Zy b_13,Zz .i64 n_3,Zz .i64 n_4,Zz .i64 n_5,Zz .u64 n_7])) fun l=>cU8 l fun b r=>cU8 r fun b_14 r=>cU8 r fun b_15 r=>cU8 r fun b_16 r=>cU8 r fun b_17 r=>cU8 r fun b_18 r=>cU8 r fun b_19 r=>cU8 r fun b_20 r=>cU8 r fun b_21 r=>cU8 r fun b_22 r=>cU8 r fun b_23 r=>cU8 r fun b_24 r=>cInt .u16 r fun n r=>cBs r fun b_25 r=>cInt .i64 r fun n_8 r=>cStr r fun b_26 r=>cInt .i64 r fun n_9 r=>cInt .i64 r fun n_10 r=>cInt .i64 r fun n_11 r=>cInt .u64 r fun n_12 r=>onNil r (some [Zv b,Zv b_14,Zv b_15,Zv b_16,Zv b_17,Zv b_18,Zv b_19,Zv b_20,Zv b_21,Zv b_22,Zv b_23,Zv b_24,Zz .u16 n,Zp b_25,Zz .i64 n_8,Zy b_26,Zz .i64 n_9,Zz .i64 n_10,Zz .i64 n_11,Zz .u64 n_12]))) (some [Zv b,Zv b_1,Zv b_2,Zv b_3,Zv b_4,Zv b_5,Zv b_6,Zv b_7,Zv b_8,Zv b_9,Zv b_10,Zv b_11,Zz .u16 n,Zp b_12,Zz .i64 n_1,Zy b_13,Zz .i64 n_3,Zz .i64 n_2,Zz .i64 (Zd .i64 (n_2+Zd .i64 (Zd .i64 (↑(Zn b_6):Int)*50))),Zz .u64 n_6])) fun l=>cU8 l fun b r=>cU8 r fun b_14 r=>cU8 r fun b_15 r=>cU8 r fun b_16 r=>cU8 r fun b_17 r=>cU8 r fun b_18 r=>cU8 r fun b_19 r=>cU8 r fun b_20 r=>cU8 r fun b_21 r=>cU8 r fun b_22 r=>cU8 r fun b_23 r=>cU8 r fun b_24 r=>cInt .u16 r fun n r=>cBs r fun b_25 r=>cInt .i64 r fun n_7 r=>cStr r fun b_26 r=>cInt .i64 r fun n_8 r=>cInt .i64 r fun n_9 r=>cInt .i64 r fun n_10 r=>cInt .u64 r fun n_11 r=>onNil r (Zw (chk (decide (0≤n_11)&&decide (n_11<18446744073709551616)) (some (Zg [Yy (Xw (Vg (Kerb.KaSecret.mk b_26 n_8 n_9 n_10 n_11))),Zz .i64 (Yb (Vg (Kerb.KaSecret.mk b_26 n_8 n_9 n_10 n_11)))],[]))) (kT fun vs=>onCons vs fun x r=>Uh x fun l=>cInt .i64 r fun n_12 r=>onNil r (Zw (sel (Wu (Yn (Yf (↑(Zn b_23):Int) (↑(Zn (16:UInt8)):Int)))==(3:UInt8)) (chk (room (Zx l+Zx [(0:UInt8)]) 1) (some [Zv b,Zv b_14,Zv b_15,Zv b_16,Zv b_17,Zv b_18,Zv b_19,Zv b_20,Zv b_21,Zv b_22,Zv b_23,Zv b_24,Zz .u16 n,Zp b_25,Zz .i64 n_7,Yy (l++[(0:UInt8)])])) (some [Zv b,Zv b_14,Zv b_15,Zv b_16,Zv b_17,Zv b_18,Zv b_19,Zv b_20,Zv b_21,Zv b_22,Zv b_23,Zv b_24,Zz .u16 n,Zp b_25,Zz .i64 n_7,Yy l])) fun l=>cU8 l fun b r=>cU8 r fun b_27 r=>let t12:Int:=Yf (Zd .i64 (↑(Zn b_27):Int)) 3;cU8 r fun b_28 r=>cU8 r fun b_29 r=>cU8 r fun b_30 r=>cU8 r fun b_31 r=>cU8 r fun b_32 r=>cU8 r fun b_33 r=>cU8 r fun b_34 r=>cU8 r fun b_35 r=>cU8 r fun b_36 r=>cU8 r fun b_37 r=>let t13:Int:=Zd .i64 (30+Yf (Zd .i64 (Int.tdiv (Zd .i64 (↑(Zn b_37):Int)) 4)) 3);cInt .u16 r fun n r=>cBs r fun b_38 r=>cInt .i64 r fun n_13 r=>onCons r fun x r=>Uh x fun b_39=>onNil r (Zw (chk (decide (0≤t12)&&decide (t12≤1000)) (some (Zz .u64 (Wk t12),[]))) (kI .u64 fun n_14=>Zw (sel (Wu (Yn (Yf (↑(Zn b_37):Int) (↑(Zn (4:UInt8)):Int)))==(3:UInt8)) (Zw (chk (decide (0≤t13)&&decide (t13≤1000)) (some (Zz .u64 (Wk t13),[]))) (kI .u64 fun n_15=>some [Zv b,Zv b_27,Zv b_28,Zv b_29,Zv b_30,Zv b_31,Zv b_32,Zv b_33,Zv b_34,Zv b_35,Zv b_36,Zv b_37,Zz .u16 n,Zp b_38,Zz .i64 n_13,Yy b_39,Zz .i64 t12,Zz .u64 n_15])) (some [Zv b,Zv b_27,Zv b_28,Zv b_29,Zv b_30,Zv b_31,Zv b_32,Zv b_33,Zv b_34,Zv b_35,Zv b_36,Zv b_37,Zz .u16 n,Zp b_38,Zz .i64 n_13,Yy b_39,Zz .i64 t12,Zz .u64 n_14])) fun l=>cU8 l fun b r=>cU8 r fun b_40 r=>let t14:Int:=Zd .i64 (3+Yf (Zd .i64 (↑(Zn b_40):Int)) 6);cU8 r fun b_41 r=>cU8 r fun b_42 r=>cU8 r fun b_43 r=>cU8 r fun b_44 r=>cU8 r fun b_45 r=>cU8 r fun b_46 r=>cU8 r fun b_47 r=>cU8 r fun b_48 r=>cU8 r fun b_49 r=>cU8 r fun b_50 r=>cInt .u16 r fun n r=>cBs r fun b_51 r=>cInt .i64 r fun n_15 r=>onCons r fun x r=>Uh x fun b_52=>cInt .i64 r fun n_16 r=>cInt .u64 r fun n_17 r=>onNil r (Zw (chk (decide (0≤n_16)&&decide (n_16≤4611686018427387904)) (some (Yg [Zy (Ww (Xh n_16)),Zy (Wv (Xh n_16)),Zy (Xn (Xh n_16))],[]))) (kA fun cs=>cStr cs fun b_53 r=>cStr r fun b_54 r=>cStr r fun b_55 r=>onNil r (Zw (sel (Wu (Yn (Yf (↑(Zn b_49):Int) (↑(Zn (16:UInt8)):Int)))==(4:UInt8)) (Zw (chk (decide (0≤t14)&&decide (t14≤4611686018427387904)) (some (Yg [Zy (Ww (Xh t14)),Zy (Wv (Xh t14)),Zy (Xn (Xh t14))],[]))) (kA fun cs=>cStr cs fun b_56 r=>cStr r fun b_57 r=>cStr r fun b_58 r=>onNil r (some (Zv b::Zv b_40::Zv b_41::Zv b_42::Zv b_43::Zv b_44::Zv b_45::Zv b_46::Zv b_47::Zv b_48::Zv b_49::Zv b_50::Zz .u16 n::Zp b_51::Zz .i64 n_15::Yy b_52::Zz .i64 n_16::Zz .u64 n_17::Zz .i64 n_15::Zy b_56::Zy b_57::Zy b_58::t9)))) (some (Zv b::Zv b_40::Zv b_41::Zv b_42::Zv b_43::Zv b_44::Zv b_45::Zv b_46::Zv b_47::Zv b_48::Zv b_49::Zv b_50::Zz .u16 n::Zp b_51::Zz .i64 n_15::Yy b_52::Zz .i64 n_16::Zz .u64 n_17::Zz .i64 n_15::Zy b_53::Zy b_54::Zy b_55::t9))) fun l=>cU8 l fun b r=>cU8 r fun b_56 r=>cU8 r fun b_57 r=>cU8 r fun b_58 r=>let t15:Int:=Yf (Zd .i64 (↑(Zn b_58):Int)) 4;cU8 r fun b_59 r=>cU8 r fun b_60 r=>cU8 r fun b_61 r=>cU8 r fun b_62 r=>let t16:AV:=Zz .i64 (Zd .i64 (1000+Zd .i64 (↑(Zn b_62):Int)));cU8 r fun b_63 r=>let t17:AV:=Zz .i64 (Yf (Zd .i64 (↑(Zn b_63):Int)) 40);cU8 r fun b_64 r=>let t18:AV:=Zz .i64 (Yf (Zd .i64 (↑(Zn b_64):Int)) 2);cU8 r fun b_65 r=>let t19:UInt8:=Wu (Yn (Yf (↑(Zn b_65):Int) (↑(Zn (16:UInt8)):Int)));cU8 r fun b_66 r=>cInt .u16 r fun n r=>cBs r fun b_67 r=>cInt .i64 r fun n_18 r=>onCons r fun x r=>Uh x fun b_68=>cInt .i64 r fun n_19 r=>cInt .u64 r fun n_20 r=>cInt .i64 r fun n_21 r=>cStr r fun b_69 r=>cStr r fun b_70 r=>cStr r fun b_71 r=>cInt .i64 r fun n_22 r=>cStr r fun b_72 r=>cBs r fun b_73 r=>cStr r fun b_74 r=>cStr r fun b_75 r=>cBs r fun b_76 r=>onNil r (Zw (sel (n_18==2) (Zw (chk (decide (0≤n_19)&&decide (n_19≤4611686018427387904)) (some (Yg [Zy (Ww (Xh n_19)),Zy (Wv (Xh n_19)),Zy (Xn (Xh n_19))],[]))) (kA fun cs=>cStr cs fun b_77 r=>cStr r fun b_78 r=>cStr r fun b_79 r=>onNil r (Zw (chk (decide (0≤t15)&&decide (t15≤1000)) (some (Zz .u64 (Ux t15),[]))) (kI .u64 fun n_23=>Zw (sel (t19==(5:UInt8)) (Zw (chk (decide (0≤Zd .i64 (3+n_19))&&decide (Zd .i64 (3+n_19)≤4611686018427387904)) (some (Yg [Zy (Ww (Xh (Zd .i64 (3+n_19)))),Zy (Wv (Xh (Zd .i64 (3+n_19)))),Zy (Xn (Xh (Zd .i64 (3+n_19))))],[]))) (kA fun cs=>cStr cs fun b_80 r=>cStr r fun b_81 r=>cStr r fun b_82 r=>onNil r (some (Zv b::Zv b_56::Zv b_57::Zv b_58::Zv b_59::Zv b_60::Zv b_61::Zv b_62::Zv b_63::Zv b_64::Zv b_65::Zv b_66::Zz .u16 n::Zp b_67::Zz .i64 n_18::Yy b_68::Zz .i64 n_21::Zy b_69::Zy b_70::Zy b_71::Zz .i64 n_22::Zy b_72::Zp b_73::Zy b_74::Zy b_75::Zp b_76::Yz false::Zy b_80::Zy b_81::Zy b_82::t18::Zz .u64 n_23::t17::t16::t10)))) (sel (t19==(6:UInt8)) (some [Zv b,Zv b_56,Zv b_57,Zv b_58,Zv b_59,Zv b_60,Zv b_61,Zv b_62,Zv b_63,Zv b_64,Zv b_65,Zv b_66,Zz .u16 n,Zp b_67,Zz .i64 n_18,Yy b_68,Zz .i64 n_21,Zy b_69,Zy b_70,Zy b_71,Zz .i64 n_22,Zy b_72,Zp b_73,Zy b_74,Zy b_75,Zp b_76,Yz false,Zy b_77,Zy b_78,Zy b_79,t18,Zz .u64 n_23,t17,t16,t1,Zy [(66:UInt8),(79:UInt8),(83:UInt8)],Zz .u64 (Wk 3),t4,Zz .i64 6]) (sel (t19==(8:UInt8)) (some [Zv b,Zv b_56,Zv b_57,Zv b_58,Zv b_59,Zv b_60,Zv b_61,Zv b_62,Zv b_63,Zv b_64,Zv b_65,Zv b_66,Zz .u16 n,Zp b_67,Zz .i64 n_18,Yy b_68,Zz .i64 n_21,Zy b_69,Zy b_70,Zy b_71,Zz .i64 n_22,Zy b_72,Zp b_73,Zy b_74,Zy b_75,Zp b_76,Yz false,Zy b_77,Zy b_78,Zy b_79,t18,Zz .u64 n_23,t17,t16,t1,t4,Zz .u64 (Wk 4),t4,Zz .i64 6]) (sel (t19==(9:UInt8)) (some [Zv b,Zv b_56,Zv b_57,Zv b_58,Zv b_59,Zv b_60,Zv b_61,Zv b_62,Zv b_63,Zv b_64,Zv b_65,Zv b_66,Zz .u16 n,Zp b_67,Zz .i64 n_18,Yy b_68,Zz .i64 n_21,Zy b_69,Zy b_70,Zy b_71,Zz .i64 n_22,Zy b_72,Zp b_73,Zy b_74,Zy b_75,Zp b_76,Yz false,Zy b_77,Zy b_78,Zy b_79,t18,Zz .u64 n_23,t17,t16,t1,t4,Zz .u64 (Wk 3),Zy [(66:UInt8),(79:UInt8),(83:UInt8)],Zz .i64 6]) (sel (t19==(10:UInt8)) (some [Zv b,Zv b_56,Zv b_57,Zv b_58,Zv b_59,Zv b_60,Zv b_61,Zv b_62,Zv b_63,Zv b_64,Zv b_65,Zv b_66,Zz .u16 n,Zp b_67,Zz .i64 n_18,Yy b_68,Zz .i64 n_21,Zy b_69,Zy b_70,Zy b_71,Zz .i64 n_22,Zy b_72,Zp b_73,Zy b_74,Zy b_75,Zp b_76,Yz false,Zy b_77,Zy b_78,Zy b_79,t18,Zz .u64 n_23,t17,t16,t1,t4,Zz .u64 (Wk 3),t4,Zz .i64 5]) (some (Zv b::Zv b_56::Zv b_57::Zv b_58::Zv b_59::Zv b_60::Zv b_61::Zv b_62::Zv b_63::Zv b_64::Zv b_65::Zv b_66::Zz .u16 n::Zp b_67::Zz .i64 n_18::Yy b_68::Zz .i64 n_21::Zy b_69::Zy b_70::Zy b_71::Zz .i64 n_22::Zy b_72::Zp b_73::Zy b_74::Zy b_75::Zp b_76::Yz false::Zy b_77::Zy b_78::Zy b_79::t18::Zz .u64 n_23::t17::t16::t10))))))) fun l=>cU8 l fun b r=>cU8 r fun b_80 r=>cU8 r fun b_81 r=>let t20:Int:=Yf (Zd .i64 (↑(Zn b_81):Int)) 3;cU8 r fun b_82 r=>cU8 r fun b_83 r=>cU8 r fun b_84 r=>cU8 r fun b_85 r=>cU8 r fun b_86 r=>cU8 r fun b_87 r=>cU8 r fun b_88 r=>cU8 r fun b_89 r=>cU8 r fun b_90 r=>cInt .u16 r fun n r=>cBs r fun b_91 r=>cInt .i64 r fun n_24 r=>onCons r fun x r=>Uh x fun b_92=>cInt .i64 r fun n_25 r=>cStr r fun b_93 r=>cStr r fun b_94 r=>cStr r fun b_95 r=>cInt .i64 r fun n_26 r=>cStr r fun b_96 r=>cBs r fun b_97 r=>cStr r fun b_98 r=>cStr r fun b_99 r=>cBs r fun b_100 r=>cBool r fun b_101 r=>cStr r fun b_102 r=>cStr r fun b_103 r=>cStr r fun b_104 r=>cInt .i64 r fun n_27 r=>cInt .u64 r fun n_28 r=>cInt .i64 r fun n_29 r=>cInt .i64 r fun n_30 r=>cStr r fun b_105 r=>cStr r fun b_106 r=>cInt .u64 r fun n_31 r=>cStr r fun b_107 r=>cInt .i64 r fun n_32 r=>onNil r (Zw (chk (l63 b_102&&l63 b_103&&l63 b_104&&l63 b_105&&l63 b_106&&decide (0≤n_28)&&decide (n_28<18446744073709551616)&&decide (0≤n_31)&&decide (n_31<18446744073709551616)) (some (Zg [Zp (Xw (Kerb.sealTicket (Vn b_101 (Zh b_102 b_103 b_104) n_27 n_28 n_29 n_30 b_105 b_106) n_31)),Zz .i64 (Yb (Kerb.sealTicket (Vn b_101 (Zh b_102 b_103 b_104) n_27 n_28 n_29 n_30 b_105 b_106) n_31))],[]))) (kT fun vs=>cBs vs fun b_108 r=>cInt .i64 r fun n_33 r=>onNil r (Zw (chk (decide (0≤t20)&&decide (t20≤4611686018427387904)) (some (Yg [Zy (Ww (Kerb.service t20)),Zy (Wv (Kerb.service t20)),Zy (Xn (Kerb.service t20))],[]))) (kA fun cs=>cStr cs fun b_109 r=>cStr r fun b_110 r=>cStr r fun b_111 r=>onNil r (Zw (sel (Wu (Yn (Yf (↑(Zn b_89):Int) (↑(Zn (16:UInt8)):Int)))==(11:UInt8)) (some [Zv b,Zv b_80,Zv b_81,Zv b_82,Zv b_83,Zv b_84,Zv b_85,Zv b_86,Zv b_87,Zv b_88,Zv b_89,Zv b_90,Zz .u16 n,Zp b_91,Zz .i64 n_24,Yy b_92,Zz .i64 n_25,Zy b_93,Zy b_94,Zy b_95,Zz .i64 n_26,Zy b_96,Zp b_97,Zy b_98,Zy b_99,Zp b_100,Yz b_101,Zy b_102,Zy b_103,Zy b_104,Zz .i64 n_27,Zz .u64 n_28,Zz .i64 n_29,Zz .i64 n_30,Zy b_105,Zy b_106,Zy b_107,Zz .i64 n_32,Zp b_108,Zy Uf,Zy (Kerb.realm 1),Zy (Kerb.realm 0)]) (some [Zv b,Zv b_80,Zv b_81,Zv b_82,Zv b_83,Zv b_84,Zv b_85,Zv b_86,Zv b_87,Zv b_88,Zv b_89,Zv b_90,Zz .u16 n,Zp b_91,Zz .i64 n_24,Yy b_92,Zz .i64 n_25,Zy b_93,Zy b_94,Zy b_95,Zz .i64 n_26,Zy b_96,Zp b_97,Zy b_98,Zy b_99,Zp b_100,Yz b_101,Zy b_102,Zy b_103,Zy b_104,Zz .i64 n_27,Zz .u64 n_28,Zz .i64 n_29,Zz .i64 n_30,Zy b_105,Zy b_106,Zy b_107,Zz .i64 n_32,Zp b_108,Zy b_109,Zy b_110,Zy b_111])) fun l=>cU8 l fun b r=>cU8 r fun b_112 r=>cU8 r fun b_113 r=>cU8 r fun b_114 r=>cU8 r fun b_115 r=>cU8 r fun b_116 r=>cU8 r fun b_117 r=>cU8 r fun b_118 r=>cU8 r fun b_119 r=>cU8 r fun b_120 r=>cU8 r fun b_121 r=>cU8 r fun b_122 r=>cInt .u16 r fun n r=>cBs r fun b_123 r=>cInt .i64 r fun n_34 r=>onCons r fun x r=>Uh x fun b_124=>cInt .i64 r fun n_35 r=>cStr r fun b_125 r=>cStr r fun b_126 r=>cStr r fun b_127 r=>cInt .i64 r fun n_36 r=>cStr r fun b_128 r=>cBs r fun b_129 r=>cStr r fun b_130 r=>cStr r fun b_131 r=>cBs r fun b_132 r=>cBool r fun b_133 r=>cStr r fun b_134 r=>cStr r fun b_135 r=>cStr r fun b_136 r=>cInt .i64 r fun n_37 r=>cInt .u64 r fun n_38 r=>cInt .i64 r fun n_39 r=>cInt .i64 r fun n_40 r=>cStr r fun b_137 r=>cStr r fun b_138 r=>cStr r fun b_139 r=>cInt .i64 r fun n_41 r=>cBs r fun b_140 r=>cStr r fun b_141 r=>cStr r fun b_142 r=>cStr r fun b_143 r=>onNil r (some [Zv b,Zv b_112,Zv b_113,Zv b_114,Zv b_115,Zv b_116,Zv b_117,Zv b_118,Zv b_119,Zv b_120,Zv b_121,Zv b_122,Zz .u16 n,Zp b_123,Yy b_124,Zz .u64 n_38,Zz .i64 n_34,Zy [],Zy [],Zy [],Zz .i64 n_41,Zy b_139,Zp b_140,Zy b_141,Zy b_142,Zp []])))))))))) (some [Zv b,Zv b_56,Zv b_57,Zv b_58,Zv b_59,Zv b_60,Zv b_61,Zv b_62,Zv b_63,Zv b_64,Zv b_65,Zv b_66,Zz .u16 n,Zp b_67,Yy b_68,Zz .u64 n_20,Zz .i64 n_21,Zy b_69,Zy b_70,Zy b_71,Zz .i64 n_22,Zy b_72,Zp b_73,Zy b_74,Zy b_75,Zp b_76])) fun l=>cU8 l fun b r=>cU8 r fun b_77 r=>cU8 r fun b_78 r=>cU8 r fun b_79 r=>cU8 r fun b_80 r=>cU8 r fun b_81 r=>cU8 r fun b_82 r=>cU8 r fun b_83 r=>cU8 r fun b_84 r=>cU8 r fun b_85 r=>cU8 r fun b_86 r=>cU8 r fun b_87 r=>cInt .u16 r fun n r=>cBs r fun b_88 r=>onCons r fun x r=>Uh x fun b_89=>cInt .u64 r fun n_23 r=>cInt .i64 r fun n_24 r=>cStr r fun b_90 r=>cStr r fun b_91 r=>cStr r fun b_92 r=>cInt .i64 r fun n_25 r=>cStr r fun b_93 r=>cBs r fun b_94 r=>cStr r fun b_95 r=>cStr r fun b_96 r=>cBs r fun b_97 r=>let t21:List AV:=[Zz .i64 n_24,Zy b_90,Zy b_91,Zy b_92,Zz .i64 n_25,Zy b_93,Zp b_94,Zy b_95,Zy b_96,Zp b_97];onNil r (Zw (sel (Wu (Yn (Yf (↑(Zn b_86):Int) (↑(Zn (16:UInt8)):Int)))==(7:UInt8)) (some (Zv b::Zv b_77::Zv b_78::Zv b_79::Zv b_80::Zv b_81::Zv b_82::Zv b_83::Zv b_84::Zv b_85::Zv b_86::Zv b_87::Zz .u16 n::Zp b_88::Yy b_89::Zz .u64 (Wk 99)::t21)) (some (Zv b::Zv b_77::Zv b_78::Zv b_79::Zv b_80::Zv b_81::Zv b_82::Zv b_83::Zv b_84::Zv b_85::Zv b_86::Zv b_87::Zz .u16 n::Zp b_88::Yy b_89::Zz .u64 n_23::t21))) fun l=>cU8 l fun b r=>cU8 r fun b r=>cU8 r fun b r=>cU8 r fun b r=>cU8 r fun b r=>cU8 r fun b r=>cU8 r fun b r=>cU8 r fun b r=>cU8 r fun b r=>cU8 r fun b r=>cU8 r fun b r=>cU8 r fun b_98 r=>cInt .u16 r fun n r=>cBs r fun b_99 r=>onCons r fun x r=>Uh x fun b_100=>cInt .u64 r fun n_26 r=>cInt .i64 r fun n_27 r=>cStr r fun b_101 r=>cStr r fun b_102 r=>cStr r fun b_103 r=>cInt .i64 r fun n_28 r=>cStr r fun b_104 r=>cBs r fun b_105 r=>cStr r fun b_106 r=>cStr r fun b_107 r=>cBs r fun b_108 r=>onNil r (Zw (chk (decide (0≤n_26)&&decide (n_26<18446744073709551616)) (some (Zg [Zp (Xw (Vd 7 n_26 b_100)),Zz .i64 (Yb (Vd 7 n_26 b_100))],[]))) (kT fun vs=>cBs vs fun b_109 r=>cInt .i64 r fun n_29 r=>onNil r (Zw (chk (l63 b_101&&l63 b_102&&l63 b_103&&l63 b_104&&l63 b_106&&l63 b_107) (some (Zg [Zp (Xw (Yx (Xd n_27 (Zh b_101 b_102 b_103) n_28 b_104 b_105 b_106 b_107 b_109))),Zz .i64 (Yb (Yx (Xd n_27 (Zh b_101 b_102 b_103) n_28 b_104 b_105 b_106 b_107 b_109)))],[]))) (kT fun vs=>cBs vs fun b_110 r=>cInt .i64 r fun n_30 r=>onNil r (sel (Wu (Yn (Yf (↑(Zn b):Int) (↑(Zn (16:UInt8)):Int)))==(15:UInt8)) (Zw (chk (decide (Zx b_110≤1000000)&&decide (0≤n)&&decide (n≤65535)) (some (Zp (Kerb.spoil b_110 n),[]))) (kB fun b=>some (Zp b,[]))) (some (Zp b_110,[]))))))))))))))))))):Option (AV×Blocks))) (by kernel_rfl) ?_
  delta kT kA kB kI
  try dsimp only [cStr,cBs,cBool,cU8,cInt,cSl,l63]
  simp only [Zm,decide_eq_true_eq] at hpre
  obtain ⟨hh0,hh1⟩:=hpre
  have bu:=Wd u
  have bs_:=Wd s
  have be:=Wd e
  have bn:=Wd n
  have bt:=Wd t
  have bp:=Wd p
  have bi:=Wd i
  have bl:=Wd l
  have ba:=Wd a
  have bd_:=Wd d
  obtain ⟨m,hm⟩:∃ m,w.toNat % 16=m:=⟨_,rfl⟩
  have q:∀ k:Nat,k<256→(Wu (Yn (Yf (w.toNat:Int) ((16:UInt8).toNat:Int)))==Wu k)=decide (m=k):=fun k hk=>by
   have h7:Yn (Yf (w.toNat:Int) ((16:UInt8).toNat:Int))=w.toNat % 16:=Kerb.tmod_u8 w 16 (by omega)
   rw [h7,hm,Kerb.u8_beq (by omega) hk]
  have q1:(_==(1:UInt8))=_:=q 1 (by omega)
  have q2:(_==(2:UInt8))=_:=q 2 (by omega)
  have q3:(_==(3:UInt8))=_:=q 3 (by omega)
  have q4:(_==(4:UInt8))=_:=q 4 (by omega)
  have q5:(_==(5:UInt8))=_:=q 5 (by omega)
  have q6:(_==(6:UInt8))=_:=q 6 (by omega)
  have q7:(_==(7:UInt8))=_:=q 7 (by omega)
  have q8:(_==(8:UInt8))=_:=q 8 (by omega)
  have q9:(_==(9:UInt8))=_:=q 9 (by omega)
  have q10:(_==(10:UInt8))=_:=q 10 (by omega)
  have q11:(_==(11:UInt8))=_:=q 11 (by omega)
  have q15:(_==(15:UInt8))=_:=q 15 (by omega)
  obtain ⟨U,hU⟩:∃ U,Zf u % 3=U:=⟨_,rfl⟩
  have f0:=Kerb.wrap_u8i
  have f1:Zd .i64 (1000+Zf t)=1000+Zf t:=wrap_i64 (by omega) (by omega)
  have f2:Zd .i64 (30+Yf (Zf n) 3)=30+Zf n % 3:=by rw [Yd bn.1];exact wrap_i64 (by omega) (by omega)
  have f4:Zd .i64 (1000+Zf t+Zd .i64 (Zf p*50))=1000+Zf t+Zf p*50:=by rw [wrap_i64 (n:=Zf p*50) (by omega) (by omega)];exact wrap_i64 (by omega) (by omega)
  have f5:Yf (Zf u) 3=U:=by rw [Yd bu.1];exact hU
  have f6:Zd .i64 (3+Yf (Zf u) 6)=3+Zf u % 6:=by rw [Yd bu.1];exact wrap_i64 (by omega) (by omega)
  have f7:Zd .i64 (3+U)=3+U:=wrap_i64 (by omega) (by omega)
  have f8:Zd .i64 (30+Yf (Zd .i64 (Int.tdiv (Zf d) 4)) 3)=30+Zf d / 4 % 3:=by rw [Int.tdiv_eq_ediv_of_nonneg bd_.1,wrap_i64 (n:=Zf d / 4) (by omega) (by omega),Yd (by omega)];exact wrap_i64 (by omega) (by omega)
  have f9:Yf (Zf a) 2=Zf a % 2:=Yd ba.1
  have f10:Yf (Zf e) 4=Zf e % 4:=Yd be.1
  have f11:Yf (Zf l) 40=Zf l % 40:=Yd bl.1
  have f12:Zd .i64 (1000+Zf i)=1000+Zf i:=wrap_i64 (by omega) (by omega)
  have f13:Yf (Zf s) 3=Zf s % 3:=Yd bs_.1
  have g1:(decide ((0:Int)≤30+Zf n % 3)&&decide (30+Zf n % 3≤1000))=true:=by simp;omega
  have g2:(decide ((0:Int)≤U)&&decide (U≤1000))=true:=by simp;omega
  have g3:(decide ((0:Int)≤30+Zf d / 4 % 3)&&decide (30+Zf d / 4 % 3≤1000))=true:=by simp;omega
  have g4:(decide ((0:Int)≤U)&&decide (U≤4611686018427387904))=true:=by simp;omega
  have g5:(decide ((0:Int)≤3+Zf u % 6)&&decide (3+Zf u % 6≤4611686018427387904))=true:=by simp;omega
  have g6:(decide ((0:Int)≤3+U)&&decide (3+U≤4611686018427387904))=true:=by simp;omega
  have g7:(decide ((0:Int)≤Zf e % 4)&&decide (Zf e % 4≤1000))=true:=by simp;omega
  have g8:(decide ((0:Int)≤Zf s % 3)&&decide (Zf s % 3≤4611686018427387904))=true:=by simp;omega
  have g9:(decide ((0:Int)≤hw)&&decide (hw≤65535))=true:=by simp;omega
  have qd:(Wu (Yn (Yf (d.toNat:Int) ((4:UInt8).toNat:Int)))==(3:UInt8))=decide (d.toNat % 4=3):=by
   have h7:Yn (Yf (d.toNat:Int) ((4:UInt8).toNat:Int))=d.toNat % 4:=Kerb.tmod_u8 d 4 (by omega)
   rw [h7];exact Kerb.u8_beq (k:=3) (by omega) (by decide)
  obtain ⟨K,hK⟩:∃ K,Kerb.KAsk.kop (Yw o u s e n t p i l a w d hw)=K:=⟨_,rfl⟩
  have hKb:1≤K∧K≤3:=by rw [← hK];exact Kerb.KAsk.kop_bd (Yw o u s e n t p i l a w d hw)
  have eo:Zd .i64 (1+Yf (Zf o) 3)=K:=by
   have bo:=Wd o
   rw [Yd bo.1,wrap_i64 (by omega) (by omega)];exact hK
  have k1:=fun l0 l1 l2=>Kerb.KAsk.pick3_chk l0 l1 l2 hKb
  have k2:=fun l0 l1 l2=>Kerb.KAsk.pick3_get l0 l1 l2 hKb
  obtain ⟨LB,hLB⟩:∃ x,Kerb.KAsk.label (Yw o u s e n t p i l a w d hw)=x:=⟨_,rfl⟩
  have eLB:LB=cond (decide (m=1)) (Kerb.KAsk.pick3 [103,84,75,84] [67,80,87,108] [103,84,71,83] (K-1)) (Kerb.KAsk.pick3 [103,84,71,83] [103,84,75,84] [67,80,87,108] (K-1)):=by rw [← hLB,← hK];exact Kerb.KAsk.label_c (Yw o u s e n t p i l a w d hw) hm
  obtain ⟨S,hS⟩:∃ x,Kerb.KAsk.secret (Yw o u s e n t p i l a w d hw)=x:=⟨_,rfl⟩
  have eS:S=cond (LB==[67,80,87,108]) ⟨LB,1000+Zf t,0,0,cond (decide (m=2)) (Ux 5) (Wk (30+Zf n % 3))⟩ ⟨LB,1000+Zf t,1000+Zf t,1000+Zf t+Zf p*50,0⟩:=by rw [← hS,← hLB];exact Kerb.KAsk.secret_c (Yw o u s e n t p i l a w d hw) hm
  have gS:0≤S.new∧S.new<18446744073709551616:=by
   rw [eS]
   cases (LB==[67,80,87,108])<;>cases (decide (m=2))
   ·exact (show (0:Int)≤0∧(0:Int)<18446744073709551616 by decide)
   ·exact (show (0:Int)≤0∧(0:Int)<18446744073709551616 by decide)
   ·exact Kerb.long_bd _
   ·exact Kerb.session_bd2 _
  obtain ⟨BODY,hBODY⟩:∃ x,Kerb.KAsk.body (Yw o u s e n t p i l a w d hw)=x:=⟨_,rfl⟩
  have eBODY:BODY=cond (decide (m=3)) ((Vg S).val++[0]) (Vg S).val:=by rw [← hBODY,← hS];exact Kerb.KAsk.body_c (Yw o u s e n t p i l a w d hw) hm
  have lS:=Kerb.encKaSec_len S
  obtain ⟨K0,hK0⟩:∃ x,Kerb.KAsk.key0 (Yw o u s e n t p i l a w d hw)=x:=⟨_,rfl⟩
  have eK0:K0=cond (decide (d.toNat % 4=3)) (Wk (30+Zf d / 4 % 3)) (Wk U):=by rw [← hK0,← hU];rfl
  obtain ⟨US,hUS⟩:∃ x,cond (decide (m=4)) (Xh (3+Zf u % 6)) (Xh U)=x:=⟨_,rfl⟩
  obtain ⟨SEA,hSEA⟩:∃ x,Kerb.KAsk.sealed (Yw o u s e n t p i l a w d hw)=x:=⟨_,rfl⟩
  obtain ⟨WA,hWA⟩:∃ x,Kerb.KAsk.want (Yw o u s e n t p i l a w d hw)=x:=⟨_,rfl⟩
  have eWA:WA=cond (decide (m=11)) (Kerb.tgs [65,84,72] [66,79,83]) (Kerb.service (Zf s % 3)):=by rw [← hWA];exact Kerb.KAsk.want_c (Yw o u s e n t p i l a w d hw) hm
  obtain ⟨R0,hR0⟩:∃ x,Kerb.KAsk.req0 (Yw o u s e n t p i l a w d hw)=x:=⟨_,rfl⟩
  have eR0:R0=cond (K==2) ⟨2,Wh,cond (decide (m=10)) 5 6,cond (decide (m=9)) [66,79,83] [65,84,72],SEA,WA.name,WA.inst,[]⟩ ⟨K,US,0,[],[],[],[],[]⟩:=by rw [← hR0,← hUS,← hSEA,← hWA,← hK,← hU,← hm];rfl
  obtain ⟨KE,hKE⟩:∃ x,Kerb.KAsk.key (Yw o u s e n t p i l a w d hw)=x:=⟨_,rfl⟩
  obtain ⟨K1,hK1⟩:∃ x,cond (K==2) (Ux (Zf e % 4)) K0=x:=⟨_,rfl⟩
  have eKE:KE=cond (decide (m=7)) (Wk 99) K1:=by rw [← hKE,← hK1,← hK,← hK0];exact Kerb.KAsk.key_c (Yw o u s e n t p i l a w d hw) hm
  simp (config:={maxSteps:=10000000}) only [f0,f1,f2,f4,f5,f6,f7,f8,f9,f10,f11,f12,f13,g1,g2,g3,g4,g5,g6,g7,g8,g9,qd,q1,q2,q3,q4,q5,q6,q7,q8,q9,q10,q11,q15,eo,k1,k2,↓sInt,↓sU8,↓sBool,↓sStr,↓sBs,↓sSl,↓sAgg,↓sTup,↓sCons,↓sNil,↓sNilB,↓sChk,↓sChkBind,↓sSome]
  refine bind_via (fun ls=>ls=[Zv o,Zv u,Zv s,Zv e,Zv n,Zv t,Zv p,Zv i,Zv l,Zv a,Zv w,Zv d,Zz Vv hw,Zp [],Zz Zk K,Zz Zk (1000+Zf t),Zy LB,Zz Zk (1000+Zf t),Zz Zk 0,Zz Zk 0,Zz Wn 0]) ⟨_,?_,rfl⟩ ?_
  ·rw [eLB]
   cases (decide (m=1))<;>rfl
  rintro _ rfl
  simp (config:={maxSteps:=10000000}) only [f0,f1,f2,f4,f5,f6,f7,f8,f9,f10,f11,f12,f13,g1,g2,g3,g4,g5,g6,g7,g8,g9,qd,q1,q2,q3,q4,q5,q6,q7,q8,q9,q10,q11,q15,↓sInt,↓sU8,↓sBool,↓sStr,↓sBs,↓sSl,↓sAgg,↓sTup,↓sCons,↓sNil,↓sNilB,↓sChk,↓sChkBind,↓sSome]
  refine bind_via (fun ls=>ls=[Zv o,Zv u,Zv s,Zv e,Zv n,Zv t,Zv p,Zv i,Zv l,Zv a,Zv w,Zv d,Zz Vv hw,Zp [],Zz Zk K,Zy S.label,Zz Zk S.time,Zz Zk S.start,Zz Zk S.stop,Zz Wn S.new]) ⟨_,?_,rfl⟩ ?_
  ·rw [eS]
   cases (LB==[67,80,87,108])<;>cases (decide (m=2))<;>rfl
  rintro _ rfl
  simp (config:={maxSteps:=10000000}) only [gS,decide_true,Yj,f0,f1,f2,f4,f5,f6,f7,f8,f9,f10,f11,f12,f13,g1,g2,g3,g4,g5,g6,g7,g8,g9,qd,q1,q2,q3,q4,q5,q6,q7,q8,q9,q10,q11,q15,↓sInt,↓sU8,↓sBool,↓sStr,↓sBs,↓sSl,↓sAgg,↓sTup,↓sCons,↓sNil,↓sNilB,↓sChk,↓sChkBind,↓sSome]
  refine bind_via (fun ls=>ls=[Zv o,Zv u,Zv s,Zv e,Zv n,Zv t,Zv p,Zv i,Zv l,Zv a,Zv w,Zv d,Zz Vv hw,Zp [],Zz Zk K,Yy BODY]) ⟨_,?_,rfl⟩ ?_
  ·rw [eBODY]
   cases (decide (m=3))
   ·rfl
   ·show chk (Go.Abs.room ((Vg S).val.length+1) 1) _=_
    rw [chk_of (Kerb.room_ok (by omega))]
    rfl
  rintro _ rfl
  simp (config:={maxSteps:=10000000}) only [f0,f1,f2,f4,f5,f6,f7,f8,f9,f10,f11,f12,f13,g1,g2,g3,g4,g5,g6,g7,g8,g9,qd,q1,q2,q3,q4,q5,q6,q7,q8,q9,q10,q11,q15,↓sInt,↓sU8,↓sBool,↓sStr,↓sBs,↓sSl,↓sAgg,↓sTup,↓sCons,↓sNil,↓sNilB,↓sChk,↓sChkBind,↓sSome]
  refine bind_via (fun ls=>ls=[Zv o,Zv u,Zv s,Zv e,Zv n,Zv t,Zv p,Zv i,Zv l,Zv a,Zv w,Zv d,Zz Vv hw,Zp [],Zz Zk K,Yy BODY,Zz Zk U,Zz Wn K0]) ⟨_,?_,rfl⟩ ?_
  ·rw [eK0]
   cases (decide (d.toNat % 4=3))<;>rfl
  rintro _ rfl
  simp (config:={maxSteps:=10000000}) only [f0,f1,f2,f4,f5,f6,f7,f8,f9,f10,f11,f12,f13,g1,g2,g3,g4,g5,g6,g7,g8,g9,qd,q1,q2,q3,q4,q5,q6,q7,q8,q9,q10,q11,q15,↓sInt,↓sU8,↓sBool,↓sStr,↓sBs,↓sSl,↓sAgg,↓sTup,↓sCons,↓sNil,↓sNilB,↓sChk,↓sChkBind,↓sSome]
  refine bind_via (fun ls=>ls=[Zv o,Zv u,Zv s,Zv e,Zv n,Zv t,Zv p,Zv i,Zv l,Zv a,Zv w,Zv d,Zz Vv hw,Zp [],Zz Zk K,Yy BODY,Zz Zk U,Zz Wn K0,Zz Zk K,Zy US.name,Zy US.inst,Zy US.realm,Zz Zk 0,Zy [],Zp [],Zy [],Zy [],Zp []]) ⟨_,?_,rfl⟩ ?_
  ·rw [← hUS]
   cases (decide (m=4))<;>rfl
  rintro _ rfl
  simp (config:={maxSteps:=10000000}) only [f0,f1,f2,f4,f5,f6,f7,f8,f9,f10,f11,f12,f13,g1,g2,g3,g4,g5,g6,g7,g8,g9,qd,q1,q2,q3,q4,q5,q6,q7,q8,q9,q10,q11,q15,↓sInt,↓sU8,↓sBool,↓sStr,↓sBs,↓sSl,↓sAgg,↓sTup,↓sCons,↓sNil,↓sNilB,↓sChk,↓sChkBind,↓sSome]
  refine bind_via (fun ls=>ls=[Zv o,Zv u,Zv s,Zv e,Zv n,Zv t,Zv p,Zv i,Zv l,Zv a,Zv w,Zv d,Zz Vv hw,Zp [],Yy BODY,Zz Wn K1,Zz Zk R0.op,Zy R0.user.name,Zy R0.user.inst,Zy R0.user.realm,Zz Zk R0.kvno,Zy R0.realm,Zp R0.ticket,Zy R0.service,Zy R0.inst,Zp []]) ⟨_,?_,rfl⟩ ?_
  ·obtain ⟨SKQ,hSK⟩:∃ x,cond (decide (m=8)) (Wk 4) (Wk 3)=x:=⟨_,rfl⟩
   obtain ⟨CL,hCL⟩:∃ x,cond (decide (m=5)) (Xh (3+U)) (Xh U)=x:=⟨_,rfl⟩
   obtain ⟨TI,hTI⟩:∃ x,cond (decide (m=6)) ([66,79,83]:List UInt8) [65,84,72]=x:=⟨_,rfl⟩
   obtain ⟨RL,hRL⟩:∃ x,cond (decide (m=9)) ([66,79,83]:List UInt8) [65,84,72]=x:=⟨_,rfl⟩
   obtain ⟨KV,hKV⟩:∃ x,cond (decide (m=10)) (5:Int) 6=x:=⟨_,rfl⟩
   have eSEA:SEA=(Kerb.sealTicket ⟨false,CL,Zf a % 2,Ux (Zf e % 4),Zf l % 40,1000+Zf i,Uf,TI⟩ SKQ).val:=by
    rw [← hSEA,← hSK,← hCL,← hTI,← hU]
    exact (Kerb.KAsk.sealed_c (Yw o u s e n t p i l a w d hw) hm).trans (by rw [Kerb.KAsk.tkt_c (Yw o u s e n t p i l a w d hw) hm];rfl)
   cases hk2:(K==2)
   ·rw [eR0,← hK1,hk2]
    rfl
   have hK2:K=2:=by simpa using hk2
   rw [sel_true]
   refine bind_via (fun ls=>ls=[Zv o,Zv u,Zv s,Zv e,Zv n,Zv t,Zv p,Zv i,Zv l,Zv a,Zv w,Zv d,Zz Vv hw,Zp [],Zz Zk K,Yy BODY,Zz Zk K,Zy US.name,Zy US.inst,Zy US.realm,Zz Zk 0,Zy [],Zp [],Zy [],Zy [],Zp [],Yz false,Zy CL.name,Zy CL.inst,Zy CL.realm,Zz Zk (Zf a % 2),Zz Wn (Ux (Zf e % 4)),Zz Zk (Zf l % 40),Zz Zk (1000+Zf i),Zy Uf,Zy TI,Zz Wn SKQ,Zy RL,Zz Zk KV]) ⟨_,?_,rfl⟩ ?_
   ·rw [← hSK,← hCL,← hTI,← hRL,← hKV]
    by_cases h5:m=5
    ·rw [h5];rfl
    by_cases h6:m=6
    ·rw [h6];rfl
    by_cases h8:m=8
    ·rw [h8];rfl
    by_cases h9:m=9
    ·rw [h9];rfl
    by_cases h10:m=10
    ·rw [h10];rfl
    rw [decide_eq_false h5,decide_eq_false h6,decide_eq_false h8,decide_eq_false h9,decide_eq_false h10]
    rfl
   rintro _ rfl
   have gC:CL.name.length≤9223372036854775807∧CL.inst.length≤9223372036854775807∧CL.realm.length≤9223372036854775807:=by
    rw [← hCL]
    cases (decide (m=5))
    ·exact Kerb.user_dec _
    ·exact Kerb.user_dec _
   have gT:TI.length≤9223372036854775807:=by
    rw [← hTI]
    cases (decide (m=6))<;>decide
   have gK:0≤SKQ∧SKQ<18446744073709551616:=by
    rw [← hSK]
    cases (decide (m=8))<;>exact Kerb.long_bd _
   have gE:=Kerb.session_bd2 (Zf e % 4)
   have gB:Kerb.krbtgt.length≤9223372036854775807:=by decide
   simp (config:={maxSteps:=10000000}) only [gC,gT,gK,gE,gB,decide_true,Yj,f0,f1,f2,f4,f5,f6,f7,f8,f9,f10,f11,f12,f13,g1,g2,g3,g4,g5,g6,g7,g8,g9,qd,q1,q2,q3,q4,q5,q6,q7,q8,q9,q10,q11,q15,↓sInt,↓sU8,↓sBool,↓sStr,↓sBs,↓sSl,↓sAgg,↓sTup,↓sCons,↓sNil,↓sNilB,↓sChk,↓sChkBind,↓sSome]
   refine bind_via (fun ls=>ls=[Zv o,Zv u,Zv s,Zv e,Zv n,Zv t,Zv p,Zv i,Zv l,Zv a,Zv w,Zv d,Zz Vv hw,Zp [],Zz Zk K,Yy BODY,Zz Zk K,Zy US.name,Zy US.inst,Zy US.realm,Zz Zk 0,Zy [],Zp [],Zy [],Zy [],Zp [],Yz false,Zy CL.name,Zy CL.inst,Zy CL.realm,Zz Zk (Zf a % 2),Zz Wn (Ux (Zf e % 4)),Zz Zk (Zf l % 40),Zz Zk (1000+Zf i),Zy Uf,Zy TI,Zy RL,Zz Zk KV,Zp SEA,Zy WA.name,Zy WA.inst,Zy WA.realm]) ⟨_,?_,rfl⟩ ?_
   ·rw [eWA,eSEA]
    cases (decide (m=11))<;>rfl
   rintro _ rfl
   rw [eR0,← hK1,hk2,hRL,hKV,hK2]
   rfl
  rintro _ rfl
  simp (config:={maxSteps:=10000000}) only [f0,f1,f2,f4,f5,f6,f7,f8,f9,f10,f11,f12,f13,g1,g2,g3,g4,g5,g6,g7,g8,g9,qd,q1,q2,q3,q4,q5,q6,q7,q8,q9,q10,q11,q15,↓sInt,↓sU8,↓sBool,↓sStr,↓sBs,↓sSl,↓sAgg,↓sTup,↓sCons,↓sNil,↓sNilB,↓sChk,↓sChkBind,↓sSome]
  refine bind_via (fun ls=>ls=[Zv o,Zv u,Zv s,Zv e,Zv n,Zv t,Zv p,Zv i,Zv l,Zv a,Zv w,Zv d,Zz Vv hw,Zp [],Yy BODY,Zz Wn KE,Zz Zk R0.op,Zy R0.user.name,Zy R0.user.inst,Zy R0.user.realm,Zz Zk R0.kvno,Zy R0.realm,Zp R0.ticket,Zy R0.service,Zy R0.inst,Zp []]) ⟨_,?_,rfl⟩ ?_
  ·rw [eKE]
   cases (decide (m=7))<;>rfl
  rintro _ rfl
  have gK:0≤KE∧KE<18446744073709551616:=by
   rw [eKE,← hK1,eK0]
   cases (decide (m=7))<;>cases (K==2)<;>cases (decide (d.toNat % 4=3))
   all_goals first | exact Kerb.long_bd _ | exact Kerb.session_bd2 _
  have gW:WA.name.length≤9223372036854775807∧WA.inst.length≤9223372036854775807:=by
   rw [eWA]
   cases (decide (m=11))
   ·exact ⟨(Kerb.service_dec _).1,(Kerb.service_dec _).2.1⟩
   ·exact (show (Kerb.tgs [65,84,72] [66,79,83]).name.length≤9223372036854775807∧(Kerb.tgs [65,84,72] [66,79,83]).inst.length≤9223372036854775807 by decide)
  have gU:US.name.length≤9223372036854775807∧US.inst.length≤9223372036854775807∧US.realm.length≤9223372036854775807:=by
   rw [← hUS]
   cases (decide (m=4))<;>exact Kerb.user_dec _
  have gR:(R0.user.name.length≤9223372036854775807∧R0.user.inst.length≤9223372036854775807∧R0.user.realm.length≤9223372036854775807)∧R0.realm.length≤9223372036854775807∧R0.service.length≤9223372036854775807∧R0.inst.length≤9223372036854775807:=by
   rw [eR0]
   cases (K==2)
   ·exact ⟨gU,by simp,by simp,by simp⟩
   ·refine ⟨⟨by simp [Wh],by simp [Wh],by simp [Wh]⟩,?_,gW.1,gW.2⟩
    cases (decide (m=9))<;>simp
  have lQ:(Yx (Kerb.KAsk.req (Yw o u s e n t p i l a w d hw))).val.length≤1000000:=by have:=Kerb.encKaReq_len (Kerb.KAsk.req (Yw o u s e n t p i l a w d hw));omega
  have eQ:Kerb.KAsk.req (Yw o u s e n t p i l a w d hw)={ R0 with box:=(Vd 7 KE BODY).val }:=by rw [← hR0,← hKE,← hBODY];exact Kerb.KAsk.req_c (Yw o u s e n t p i l a w d hw)
  have eM:=Kerb.KAsk.message_c (Yw o u s e n t p i l a w d hw) hm
  rw [eM,eQ]
  rw [eQ] at lQ
  simp (config:={maxSteps:=10000000}) only [gK,gR,lQ,decide_true,Yj,f0,f1,f2,f4,f5,f6,f7,f8,f9,f10,f11,f12,f13,g1,g2,g3,g4,g5,g6,g7,g8,g9,qd,q1,q2,q3,q4,q5,q6,q7,q8,q9,q10,q11,q15,↓sInt,↓sU8,↓sBool,↓sStr,↓sBs,↓sSl,↓sAgg,↓sTup,↓sCons,↓sNil,↓sNilB,↓sChk,↓sChkBind,↓sSome]
  cases (decide (m=15))<;>simp only [lQ,g9,decide_true,Yj,Bool.true_and,cond_true,cond_false,↓A0,A0]
 ·cases h
theorem w56:Walked Tryz.prog G 56 7 sp56:=by
 refine ⟨Tryz.f56,Tryz.func56,by decide +kernel,rfl,fun xs bl r h=> ?_⟩
 unfold sp56 at h
 split at h
 ·rename_i a b c
  obtain ⟨hpre,h2⟩:=chk_inv h;cases h2
  refine Eq.trans (b:=(Zw (chk (decide (Zx a≤9223372036854775807)) (some (Yz (Uz a),[]))) fun (r:AV×Blocks)=>onNilB (Yp r) (AV.onBool (Xz r) fun b_1=>sel b_1 (Zw (chk (decide (Zx b≤9223372036854775807)) (some (Yz (Uy b),[]))) fun (r:AV×Blocks)=>onNilB (Yp r) (AV.onBool (Xz r) fun b=>sel b (Zw (chk (decide (Zx c≤9223372036854775807)) (some (Yz (Vy c),[]))) fun (r:AV×Blocks)=>onNilB (Yp r) (AV.onBool (Xz r) fun b=>some (Yz b,[]))) (some (Yz false,[])))) (some (Yz false,[]))):Option (AV×Blocks))) (by kernel_rfl) ?_
  simp only [Zm,decide_eq_true_eq] at hpre
  simp only [A0]
  rw [chk_of (by simp;omega),chk_of (by simp;omega),chk_of (by simp;omega)]
  simp only [Xu]
  cases Uz a<;>cases Uy b<;>rfl
 ·cases h
theorem w149:Walked Tryz.prog G 149 7 sp149:=by
 refine ⟨Tryz.f149,Tryz.func149,by decide +kernel,rfl,fun xs bl r h=> ?_⟩
 unfold sp149 at h
 split at h
 ·rename_i bd lb op u1 u2 u3 kv qr tk sv ins bx rl els now ad sk se
  obtain ⟨hpre,h2⟩:=chk_inv h;cases h2
  show runFnH (G.env 149 7) G.rts (G.own 149) Tryz.f149 _ _ [0]=_
  refine Eq.trans (b:=(let t0:List (List AV):=[[Zz .i64 op,Zy u1,Zy u2,Zy u3,Zz .i64 kv,Zy qr,Zp tk,Zy sv,Zy ins,Zp bx,Zy rl,Xm 9 els,Zz .i64 now,Zz .i64 ad,Zz .i64 sk,Zz .u64 se]];let t2:AV:=Yg [Zy [],Zz .i64 0,Zz .i64 0,Zz .i64 0,Zz .u64 0];let t1:Option (AV×Blocks):=some (Zg [t2,Zz .i64 80],t0);Zw (chk (decide (Zx bd≤140737488355328)) (some (Zg [Yg [Zy (Kerb.KaSecret.label (Yk (Wz bd))),Zz .i64 (Kerb.KaSecret.time (Yk (Wz bd))),Zz .i64 (Kerb.KaSecret.start (Yk (Wz bd))),Zz .i64 (Kerb.KaSecret.stop (Yk (Wz bd))),Zz .u64 (Kerb.KaSecret.new (Yk (Wz bd)))],Zz .i64 (Ug (Wz bd))],[]))) (kT fun vs=>onCons vs fun x r=>Wq x fun cs=>cStr cs fun b r_1=>cInt .i64 r_1 fun n r_2=>cInt .i64 r_2 fun n_1 r_3=>cInt .i64 r_3 fun n_2 r_4=>cInt .u64 r_4 fun n_3 r_5=>onNil r_5 (cInt .i64 r fun n_4 r=>onNil r (sel (!n_4==0) t1 (sel (!b==lb) t1 (sel (!Kerb.near n now sk) (some (Zg [t2,Zz .i64 37],t0)) (some (Zg [Yg [Zy b,Zz .i64 n,Zz .i64 n_1,Zz .i64 n_2,Zz .u64 n_3],Zz .i64 0],t0))))))):Option (AV×Blocks))) (by kernel_rfl) ?_
  delta kT
  try dsimp only [cStr,cBs,cBool,cU8,cInt,cSl,l63]
  simp only [Zm,decide_eq_true_eq] at hpre
  have hb:decide (bd.length≤140737488355328)=true:=by simp;omega
  simp only [hb,↓A0,A0]
  unfold Kerb.kaSecretOf
  generalize Wz bd=D
  by_cases h1:D.err=0
  case neg=>rw [sel_pos (by simpa using h1),if_pos (.inl h1)];rfl
  by_cases h2:D.val.label=lb
  case neg=>rw [sel_neg (by simpa using h1),sel_pos (by simpa using h2),if_pos (.inr h2)];rfl
  rw [sel_neg (by simpa using h1),sel_neg (by simp [h2]),if_neg (by simp [h1,h2])]
  cases hn:Kerb.near D.val.time now sk
  ·rfl
  ·rfl
 ·cases h
theorem w150:Walked Tryz.prog G 150 7 sp150:=by
 refine ⟨Tryz.f150,Tryz.func150,by decide +kernel,rfl,fun xs bl r h=> ?_⟩
 unfold sp150 at h
 split at h
 ·rename_i rl els xls n i now
  obtain ⟨hpre,h2⟩:=chk_inv h;cases h2
  refine Eq.trans (b:=(let t0:Option (AV×Blocks):=Zw (chk (Un els Vf&&decide (Zx els≤1000000)) (some (Zg [Zz .i64 (Xz (Ub (Xf rl (Xj Xv els)) n i now)),Zz .i64 (Yp (Ub (Xf rl (Xj Xv els)) n i now))],[]))) (kT fun vs=>cInt .i64 vs fun n r=>cInt .i64 r fun n_1 r=>onNil r (sel (!n_1==0) (some (Zg [Zz .u64 0,Zz .i64 0,Zz .i64 0,Zz .i64 0,Zz .i64 n_1],[])) (chk (decide (0≤n)&&decide (n<(↑(Zx els):Int))&&true) (Wq (Vj els (Yn n) Uk) fun cs=>cStr cs fun b r=>cStr r fun b r=>cInt .u64 r fun n r=>cInt .i64 r fun n_2 r=>cInt .i64 r fun n_3 r=>cInt .i64 r fun n_4 r=>cInt .i64 r fun n_5 r=>cInt .i64 r fun n_6 r=>cInt .i64 r fun n_7 r=>onNil r (some (Zg [Zz .u64 n,Zz .i64 n_2,Zz .i64 n_4,Zz .i64 n_3,Zz .i64 0],[]))))));sel (n==Uf) (Zw (chk (l63 i) (some (Yz (Vy i),[]))) (kL fun b=>sel b (sel (!i==rl) (Zw (chk (Un xls Kerb.isCross&&decide (Zx xls≤1000000)) (some (Zg [Zz .i64 (Xz (Uv (Xj Kerb.toCross xls) rl i)),Yz (Yp (Uv (Xj Kerb.toCross xls) rl i))],[]))) (kT fun vs=>cInt .i64 vs fun n r=>cBool r fun b r=>onNil r (sel (!b) (some (Zg [Zz .u64 0,Zz .i64 0,Zz .i64 0,Zz .i64 0,Zz .i64 8],[])) (chk (decide (0≤n)&&decide (n<(↑(Zx xls):Int))&&true) (Wq (Vj xls (Yn n) Uk) fun cs=>cStr cs fun b r=>cStr r fun b r=>cInt .i64 r fun n_1 r=>cInt .u64 r fun n_2 r=>onNil r (chk (decide (0≤n)&&decide (n<(↑(Zx xls):Int))&&true) (Wq (Vj xls (Yn n) Uk) fun cs=>cStr cs fun b r=>cStr r fun b r=>cInt .i64 r fun n r=>cInt .u64 r fun n_3 r=>onNil r (some (Zg [Zz .u64 n_2,Zz .i64 n,Zz .i64 255,Zz .i64 0,Zz .i64 0],[]))))))))) t0) t0)) t0:Option (AV×Blocks))) (by kernel_rfl) ?_
  delta kT kL
  try dsimp only [cStr,cBs,cBool,cU8,cInt,cSl,l63]
  simp only [Zm,decide_eq_true_eq] at hpre
  obtain ⟨⟨⟨⟨hall,hlen⟩,hx⟩,hxl⟩,hi⟩:=hpre
  obtain ⟨es,rfl,hok⟩:=Uu hall
  obtain ⟨cs,rfl⟩:=Kerb.cross_of hx
  rw [Wj,Kerb.map_toCross]
  simp only [hall,hlen,hx,hxl,hi,decide_true,Yj,↓A0,A0]
  simp only [Xp] at hlen hxl ⊢
  unfold Kerb.svc
  dsimp only
  have hkr:(n==[(107:UInt8),(114:UInt8),(98:UInt8),(116:UInt8),(103:UInt8),(116:UInt8)])=(n==Uf):=rfl
  try rw [hkr]
  cases n==Uf
  ·simp only [Zb,Wm,sel_true,sel_false]
   by_cases he:(Ub ⟨rl,es⟩ n i now).2=0
   case neg=>rw [sel_pos (by simpa using he),if_neg (by simp),if_pos he]
   obtain ⟨u1,u2⟩:=Kerb.serv_lt he
   dsimp only at u2
   rw [sel_neg (by simpa using he),if_neg (by simp),if_neg (by simpa using he),chk_of (by simp;omega),Wf u2]
   simp only [Yu,↓A0,A0]
  cases Vy i
  ·simp only [Zb,Wm,sel_true,sel_false]
   by_cases he:(Ub ⟨rl,es⟩ n i now).2=0
   case neg=>rw [sel_pos (by simpa using he),if_neg (by simp),if_pos he]
   obtain ⟨u1,u2⟩:=Kerb.serv_lt he
   dsimp only at u2
   rw [sel_neg (by simpa using he),if_neg (by simp),if_neg (by simpa using he),chk_of (by simp;omega),Wf u2]
   simp only [Yu,↓A0,A0]
  cases i==rl
  ·simp only [Zb,Wm,sel_true,sel_false]
   by_cases he:(Uv cs rl i).2=true
   ·obtain ⟨u1,u2⟩:=Kerb.findCross_lt he
    have hk:(decide (0≤(Uv cs rl i).1)&&decide ((Uv cs rl i).1<(cs.length:Int))&&true)=true:=by simp;omega
    simp only [he,hk,Kerb.getD_cross u2,Kerb.Cross.av,Zb,Yj,Wm,if_true,↓A0,A0]
   ·have he2:(Uv cs rl i).2=false:=by simpa using he
    rw [he2]
    rfl
  ·simp only [Zb,Wm,sel_true,sel_false]
   by_cases he:(Ub ⟨rl,es⟩ n i now).2=0
   case neg=>rw [sel_pos (by simpa using he),if_neg (by simp),if_pos he]
   obtain ⟨u1,u2⟩:=Kerb.serv_lt he
   dsimp only at u2
   rw [sel_neg (by simpa using he),if_neg (by simp),if_neg (by simpa using he),chk_of (by simp;omega),Wf u2]
   simp only [Yu,↓A0,A0]
 ·cases h
theorem w253:Walked Tryz.prog G 253 7 sp253:=by
 refine ⟨Tryz.f253,Tryz.func253,by decide +kernel,rfl,fun xs bl r h=> ?_⟩
 unfold sp253 at h
 split at h
 ·rename_i rl els
  obtain ⟨hpre,h2⟩:=chk_inv h;cases h2
  refine Eq.trans (b:=(Zw (chk (l63 rl) (some (Yz (Vy rl),[]))) (kL fun b=>sel (!b) (some (Zz .i64 103,[])) (sel (decide ((↑(Zx els):Int)>60)) (some (Zz .i64 106,[])) (Zw (loopM (fun (st:List AV)=>cStr st fun b r=>cSl 9 r fun b_1 r=>cInt .i64 r fun n r=>cSl 9 r fun b_2 r=>cInt .i64 r fun n_1 r=>cInt .i64 r fun n_2 r=>let t0:Option (List AV ⊕ Ex×List AV):=some (Sum.inl [Zy b,Xm 9 b_1,Zz .i64 n,Xm 9 b_2,Zz .i64 n_1,Zz .i64 (Zd .i64 (n_2+1))]);let t1:List AV:=[Xm 9 b_2,Zz .i64 n_1,Zz .i64 n_2];onNil r (sel (decide (n_2<n_1)) (chk (decide (0≤n_2)&&decide (n_2<(↑(Zx b_2):Int))&&true) (Wq (Vj b_2 (Yn n_2) Uk) fun cs=>cStr cs fun b_3 r=>cStr r fun b_4 r=>cInt .u64 r fun n r=>cInt .i64 r fun n_3 r=>cInt .i64 r fun n_4 r=>cInt .i64 r fun n_5 r=>cInt .i64 r fun n_6 r=>cInt .i64 r fun n_7 r=>cInt .i64 r fun n_8 r=>onNil r (Zw (chk (l63 b_3&&l63 b_4&&Kerb.isU64 n) (some (Zz .i64 (Kerb.Entry.err (Wp b_3 b_4 n n_3 n_4 n_5 n_6 n_7 n_8)),[]))) (kI .i64 fun n=>sel (!n==0) (some (Sum.inr (Ex.ret,Zy b::Xm 9 b_1::Zz .i64 n::t1))) (sel (decide (n_2>0)) (chk (decide (0≤Zd .i64 (n_2-1))&&decide (Zd .i64 (n_2-1)<(↑(Zx b_1):Int))&&true) (Wq (Vj b_1 (Yn (Zd .i64 (n_2-1))) Uk) fun cs=>cStr cs fun b_5 r=>cStr r fun b_6 r=>cInt .u64 r fun n r=>cInt .i64 r fun n r=>cInt .i64 r fun n r=>cInt .i64 r fun n r=>cInt .i64 r fun n r=>cInt .i64 r fun n r=>cInt .i64 r fun n r=>onNil r (sel (decide ((if Kerb.cmpB b_3 b_5=0 then Kerb.cmpB b_4 b_6 else Kerb.cmpB b_3 b_5)<0)) (some (Sum.inr (Ex.ret,Zy b::Xm 9 b_1::Zz .i64 110::t1))) t0))) t0))))) (some (Sum.inr (Ex.exit 0,Zy b::Xm 9 b_1::Zz .i64 n::t1))))) [Zy rl,Xm 9 els,Zz .i64 0,Xm 9 els,Zz .i64 (↑(Zx els):Int),Zz .i64 0]) fun (r:Ex×List AV)=>cStr (Yp r) fun b r_1=>cSl 9 r_1 fun b r_2=>cInt .i64 r_2 fun n r_3=>cSl 9 r_3 fun b r_4=>cInt .i64 r_4 fun n_1 r_5=>cInt .i64 r_5 fun n_2 r_6=>onNil r_6 (exK r.1 (some (Zz .i64 n,[])) fun (j:Nat)=>sel (Nat.beq j 0) (some (Zz .i64 0,[])) none)))):Option (AV×Blocks))) (by kernel_rfl) ?_
  delta kL kI
  try dsimp only [cStr,cBs,cBool,cU8,cInt,cSl,l63]
  simp only [Zm,decide_eq_true_eq] at hpre
  obtain ⟨⟨hr,hall⟩,hlen⟩:=hpre
  obtain ⟨es,rfl,hok⟩:=Uu hall
  rw [Wj]
  simp only [Xp] at hlen
  unfold Vw
  simp only [hr,decide_true,↓A0,A0,Xp]
  cases hv:Vy rl
  ·rfl
  simp only [Zb,Wm,sel_true,sel_false]
  rw [if_neg (by simp)]
  by_cases h60:60<es.length
  ·rw [sel_pos (by simp;omega),if_pos h60]
  rw [sel_neg (by simp;omega),if_neg h60]
  have hex:∃ z,Kerb.entriesErr none es=z:=⟨_,rfl⟩
  obtain ⟨z,hz⟩:=hex
  rw [hz]
  refine loop_rounds (fun i:Nat=>[Zy rl,Xm 9 (es.map Yu),Zz Zk 0,Xm 9 (es.map Yu),Zz Zk (es.length:Int),Zz Zk (i:Int)]) (fun i=>i≤es.length∧Kerb.entriesErr (Kerb.prevOf es i) (es.drop i)=z) (fun i=>es.length-i)
   (fun r=>∃ (e:Int) (i:Nat),r.2=[Zy rl,Xm 9 (es.map Yu),Zz Zk e,Xm 9 (es.map Yu),Zz Zk (es.length:Int),Zz Zk (i:Int)]∧((r.1 = .ret∧e=z)∨(r.1 = .exit 0∧z=0))) 0 ⟨Nat.zero_le _,hz⟩ rfl ?_ ?_
  ·rintro i ⟨hi,hinv⟩
   simp only [↓A0,A0,Xp]
   rcases Nat.lt_or_ge i es.length with h | h
   ·rw [Kerb.errs_step h] at hinv
    have hx:=hok _ (Kerb.ent_mem h)
    rw [sel_pos (by simp;omega),chk_of (by simp;omega),Int.toNat_natCast,Wf h]
    obtain ⟨n,hn⟩:∃ e,es.getD i Uw=e:=⟨_,rfl⟩
    rw [hn] at hinv hx ⊢
    obtain ⟨x1,x2,x3,_⟩:=hx
    simp only [Yu,↓A0,A0,x1,x2,x3,decide_true,Yj]
    by_cases he:n.err=0
    ·rw [sel_neg (by simpa using he)]
     rw [if_neg (by simpa using he)] at hinv
     by_cases h0:0<i
     ·have hp:Kerb.prevOf es i=some (es.getD (i-1) Uw):=by rw [Kerb.prevOf,if_neg (by omega)]
      rw [hp] at hinv
      have hw:Zd .i64 ((i:Int)-1)=((i-1:Nat):Int):=by rw [wrap_i64 (by omega) (by omega)];omega
      rw [sel_pos (by simpa using h0),hw]
      rw [chk_of (by simp;omega),Int.toNat_natCast,Wf (by omega)]
      obtain ⟨m,hm⟩:∃ e,es.getD (i-1) Uw=e:=⟨_,rfl⟩
      rw [hm] at hinv ⊢
      simp only [Yu,↓A0,A0]
      rw [Kerb.cmp_less n m]
      by_cases hl:n.less m=true
      ·rw [sel_pos (by simpa using hl)]
       rw [if_pos hl] at hinv
       exact ⟨_,rfl,110,i,rfl,.inl ⟨rfl,hinv⟩⟩
      ·rw [sel_neg (by simpa using hl),wrap_i64 (by omega) (by omega)]
       rw [if_neg hl] at hinv
       exact ⟨_,rfl,i+1,rfl,⟨by omega,hinv⟩,by dsimp only;omega⟩
     ·have hp:Kerb.prevOf es i=none:=by rw [Kerb.prevOf,if_pos (by omega)]
      rw [hp] at hinv
      rw [sel_neg (by simpa using h0),wrap_i64 (by omega) (by omega)]
      rw [if_neg (by simp)] at hinv
      exact ⟨_,rfl,i+1,rfl,⟨by omega,hinv⟩,by dsimp only;omega⟩
    ·rw [sel_pos (by simpa using he)]
     rw [if_pos (by simpa using he)] at hinv
     exact ⟨_,rfl,n.err,i,rfl,.inl ⟨rfl,hinv⟩⟩
   ·rw [sel_neg (by simp;omega)]
    rw [List.drop_eq_nil_of_le h] at hinv
    exact ⟨_,rfl,0,i,rfl,.inr ⟨rfl,by rw [← hinv];rfl⟩⟩
  ·rintro ⟨e,l⟩ ⟨e2,i,rfl,⟨rfl,rfl⟩ | ⟨rfl,h⟩⟩
   ·rfl
   ·rw [h];rfl
 ·cases h
theorem w184:Walked Tryz.prog G 184 8 sp184:=by
 refine ⟨Tryz.f184,Tryz.func184,by decide +kernel,rfl,fun xs bl r h=> ?_⟩
 unfold sp184 at h
 split at h
 ·rename_i op ux uy uz kv rl tk sv ins bx
  obtain ⟨hpre,h2⟩:=chk_inv h;cases h2
  refine Eq.trans (b:=(sel (!Kerb.kaOp op) (some (Zz .i64 40,[])) (sel (!op==2) (Zw (chk (l63 ux&&l63 uy&&l63 uz) (some (Yz (Xu (Zh ux uy uz)),[]))) (kL fun b=>sel (!b) (some (Zz .i64 103,[])) (sel (decide ((↑(Zx bx):Int)>1012)) (some (Zz .i64 105,[])) (sel (!kv==0) (some (Zz .i64 108,[])) (sel (!rl==[]) (some (Zz .i64 108,[])) (sel (decide ((↑(Zx tk):Int)>0)) (some (Zz .i64 108,[])) (sel (!sv==[]) (some (Zz .i64 108,[])) (sel (!ins==[]) (some (Zz .i64 108,[])) (some (Zz .i64 0,[])))))))))) (Zw (chk (l63 rl) (some (Yz (Vy rl),[]))) (kL fun b=>sel (!b) (some (Zz .i64 103,[])) (Zw (chk (l63 sv) (some (Yz (Uz sv),[]))) (kL fun b=>sel (!b) (some (Zz .i64 103,[])) (Zw (chk (l63 ins) (some (Yz (Uy ins),[]))) (kL fun b=>sel (!b) (some (Zz .i64 103,[])) (sel (!Yq kv 255) (some (Zz .i64 104,[])) (sel (decide ((↑(Zx tk):Int)>255)) (some (Zz .i64 105,[])) (sel (decide ((↑(Zx bx):Int)>1012)) (some (Zz .i64 105,[])) (sel (!(ux==[]&&(uy==[]&&uz==[]))) (some (Zz .i64 108,[])) (some (Zz .i64 0,[]))))))))))))):Option (AV×Blocks))) (by kernel_rfl) ?_
  delta kL
  try dsimp only [cStr,cBs,cBool,cU8,cInt,cSl,l63]
  simp only [Zm,decide_eq_true_eq] at hpre
  simp only [A0]
  rw [chk_of (by simp;omega),chk_of (by simp;omega),chk_of (by simp;omega),chk_of (by simp;omega)]
  unfold Yx
  simp only
  cases h0:Kerb.kaOp op
  ·rfl
  rw [Zb,sel_false,if_neg (by simp)]
  cases h1:(op==2)
  ·rw [Wm,sel_true,if_neg (by simp)]
   cases h2:Xu ⟨ux,uy,uz⟩
   ·rfl
   rw [Zb,sel_false,if_neg (by simp)]
   by_cases h3:1012<bx.length
   ·rw [sel_pos (by simp;omega),if_pos h3]
   rw [sel_neg (by simp;omega),if_neg h3]
   by_cases h4:kv=0
   case neg=>rw [sel_pos (by simpa using h4),if_pos (.inl h4)]
   rw [sel_neg (by simp [h4])]
   by_cases h5:rl=[]
   case neg=>rw [sel_pos (by simpa using h5),if_pos (.inr (.inl h5))]
   rw [sel_neg (by simp [h5])]
   by_cases h6:tk=[]
   case neg=>rw [sel_pos (by have:=List.length_pos_iff.2 h6;simp;omega),if_pos (.inr (.inr (.inl h6)))]
   rw [sel_neg (by simp [h6])]
   by_cases h7:sv=[]
   case neg=>rw [sel_pos (by simpa using h7),if_pos (.inr (.inr (.inr (.inl h7))))]
   rw [sel_neg (by simp [h7])]
   by_cases h8:ins=[]
   case neg=>rw [sel_pos (by simpa using h8),if_pos (.inr (.inr (.inr (.inr h8))))]
   rw [sel_neg (by simp [h8]),if_neg (by simp [h4,h5,h6,h7,h8])]
  ·rw [Zb,sel_false,if_pos rfl]
   cases h2:Vy rl
   ·rfl
   rw [Zb,sel_false]
   cases h3:Uz sv
   ·rfl
   rw [Zb,sel_false]
   cases h4:Uy ins
   ·rfl
   rw [Zb,sel_false,if_neg (by simp)]
   cases h5:Yq kv 255
   ·rfl
   rw [Zb,sel_false,if_neg (by simp)]
   by_cases h6:255<tk.length
   ·rw [sel_pos (by simp;omega),if_pos (.inl h6)]
   rw [sel_neg (by simp;omega)]
   by_cases h7:1012<bx.length
   ·rw [sel_pos (by simp;omega),if_pos (.inr h7)]
   rw [sel_neg (by simp;omega),if_neg (by omega)]
   show sel (!(Kerb.Prin.isNo ⟨ux,uy,uz⟩)) _ _=_
   cases Kerb.Prin.isNo ⟨ux,uy,uz⟩<;>rfl
 ·cases h
theorem w215:Walked Tryz.prog G 215 8 sp215:=by
 refine ⟨Tryz.f215,Tryz.func215,by decide +kernel,rfl,fun xs bl r h=> ?_⟩
 unfold sp215 at h
 split at h
 ·rename_i b pos
  obtain ⟨hpre,h2⟩:=chk_inv h;cases h2
  refine Eq.trans (b:=(Zw (loopM (fun (st:List AV)=>cBs st fun b r=>cInt .i64 r fun n r=>let t0:Option (AV×Blocks):=chk (decide (Zx b≤4611686018427387904)) (some (Zg [Zy (Kerb.GotB.val (Wb b n)),Zz .i64 (Kerb.GotB.next (Wb b n)),Zz .i64 (Kerb.GotB.err (Wb b n))],[]));cStr r fun b_1 r=>cStr r fun b_2 r=>cStr r fun b_3 r=>cInt .i64 r fun n_1 r=>cInt .i64 r fun n_2 r=>cStr r fun b_4 r=>cStr r fun b_5 r=>cStr r fun b_6 r=>cInt .i64 r fun n_3 r=>cInt .i64 r fun n_4 r=>let t1:List AV:=[Zy b_6,Zz .i64 n_3,Zz .i64 (Zd .i64 (n_4+1))];onNil r (sel (decide (n_4<n_3)) (chk (decide (0≤n_4)&&decide (n_4<(↑(Zx [0,1,2]):Int))&&true) (sel (Nat.beq (Yn n_4) 0) (Zw t0 (kT fun vs=>cStr vs fun b_7 r=>cInt .i64 r fun n r=>cInt .i64 r fun n_5 r=>onNil r (sel (!n_5==0) (some (Sum.inr (Ex.ret,[Zp b,Zz .i64 n,Zy [],Zy [],Zy [],Zz .i64 0,Zz .i64 n_5,Zy b_7,Zy b_5,Zy b_6,Zz .i64 n_3,Zz .i64 n_4]))) (some (Sum.inl (Zp b::Zz .i64 n::Zy b_1::Zy b_2::Zy b_3::Zz .i64 n_1::Zz .i64 n_2::Zy b_7::Zy b_5::t1)))))) (sel (Nat.beq (Yn n_4-1) 0) (Zw t0 (kT fun vs=>cStr vs fun b_7 r=>cInt .i64 r fun n r=>cInt .i64 r fun n_5 r=>onNil r (sel (!n_5==0) (some (Sum.inr (Ex.ret,[Zp b,Zz .i64 n,Zy [],Zy [],Zy [],Zz .i64 0,Zz .i64 n_5,Zy b_4,Zy b_7,Zy b_6,Zz .i64 n_3,Zz .i64 n_4]))) (some (Sum.inl (Zp b::Zz .i64 n::Zy b_1::Zy b_2::Zy b_3::Zz .i64 n_1::Zz .i64 n_2::Zy b_4::Zy b_7::t1)))))) (sel (Nat.beq (Yn n_4-1-1) 0) (Zw t0 (kT fun vs=>cStr vs fun b_7 r=>cInt .i64 r fun n r=>cInt .i64 r fun n_5 r=>onNil r (sel (!n_5==0) (some (Sum.inr (Ex.ret,[Zp b,Zz .i64 n,Zy [],Zy [],Zy [],Zz .i64 0,Zz .i64 n_5,Zy b_4,Zy b_5,Zy b_7,Zz .i64 n_3,Zz .i64 n_4]))) (some (Sum.inl [Zp b,Zz .i64 n,Zy b_1,Zy b_2,Zy b_3,Zz .i64 n_1,Zz .i64 n_2,Zy b_4,Zy b_5,Zy b_7,Zz .i64 n_3,Zz .i64 (Zd .i64 (n_4+1))]))))) none)))) (some (Sum.inr (Ex.exit 0,[Zp b,Zz .i64 n,Zy b_1,Zy b_2,Zy b_3,Zz .i64 n_1,Zz .i64 n_2,Zy b_4,Zy b_5,Zy b_6,Zz .i64 n_3,Zz .i64 n_4]))))) [Zp b,Zz .i64 pos,Zy [],Zy [],Zy [],Zz .i64 0,Zz .i64 0,Zy [],Zy [],Zy [],Zz .i64 (↑(Zx [0+0,0+1,0+2]):Int),Zz .i64 0]) fun (r:Ex×List AV)=>cBs (Yp r) fun b r_1=>cInt .i64 r_1 fun n r_2=>cStr r_2 fun b r_3=>cStr r_3 fun b_1 r_4=>cStr r_4 fun b_2 r_5=>cInt .i64 r_5 fun n_1 r_6=>cInt .i64 r_6 fun n_2 r_7=>cStr r_7 fun b_3 r_8=>cStr r_8 fun b_4 r_9=>cStr r_9 fun b_5 r_10=>cInt .i64 r_10 fun n_3 r_11=>cInt .i64 r_11 fun n_4 r_12=>onNil r_12 (exK r.1 (some (Zg [Yg [Zy b,Zy b_1,Zy b_2],Zz .i64 n_1,Zz .i64 n_2],[])) fun (j:Nat)=>sel (Nat.beq j 0) (Zw (chk (l63 b_3&&l63 b_4&&l63 b_5) (some (Yz (Xu (Zh b_3 b_4 b_5)),[]))) (kL fun b=>sel (!b) (some (Zg [Yg [Zy [],Zy [],Zy []],Zz .i64 0,Zz .i64 103],[])) (some (Zg [Yg [Zy b_3,Zy b_4,Zy b_5],Zz .i64 n,Zz .i64 0],[])))) none):Option (AV×Blocks))) (by kernel_rfl) ?_
  delta kT kL
  try dsimp only [cStr,cBs,cBool,cU8,cInt,cSl,l63]
  have hb:=of_decide_eq_true hpre
  obtain ⟨T0,hT0⟩:∃ T,T=Wb b pos:=⟨_,rfl⟩
  obtain ⟨T1,hT1⟩:∃ T,T=Wb b T0.next:=⟨_,rfl⟩
  obtain ⟨T2,hT2⟩:∃ T,T=Wb b T1.next:=⟨_,rfl⟩
  have hp:Xg b pos=if T0.err≠0 then ⟨Wh,0,T0.err⟩ else if T1.err≠0 then ⟨Wh,0,T1.err⟩ else if T2.err≠0 then ⟨Wh,0,T2.err⟩
    else if Xu ⟨T0.val,T1.val,T2.val⟩ then ⟨⟨T0.val,T1.val,T2.val⟩,T2.next,0⟩ else ⟨Wh,0,103⟩:=by
   rw [hT2,hT1,hT0];rfl
  have k0:=Kerb.text_len b pos
  rw [← hT0] at k0
  have k1:=Kerb.text_len b T0.next
  rw [← hT1] at k1
  have k2:=Kerb.text_len b T1.next
  rw [← hT2] at k2
  refine loop_rounds (fun i:Nat=>match i with
    | 0=>[Zp b,Zz Zk pos,Zy [],Zy [],Zy [],Zz Zk 0,Zz Zk 0,Zy [],Zy [],Zy [],Zz Zk 3,Zz Zk 0]
    | 1=>[Zp b,Zz Zk T0.next,Zy [],Zy [],Zy [],Zz Zk 0,Zz Zk 0,Zy T0.val,Zy [],Zy [],Zz Zk 3,Zz Zk 1]
    | 2=>[Zp b,Zz Zk T1.next,Zy [],Zy [],Zy [],Zz Zk 0,Zz Zk 0,Zy T0.val,Zy T1.val,Zy [],Zz Zk 3,Zz Zk 2]
    | _=>[Zp b,Zz Zk T2.next,Zy [],Zy [],Zy [],Zz Zk 0,Zz Zk 0,Zy T0.val,Zy T1.val,Zy T2.val,Zz Zk 3,Zz Zk 3])
   (fun i=>i≤3∧(1≤i→T0.err=0)∧(2≤i→T1.err=0)∧(3≤i→T2.err=0)) (fun i=>3-i)
   (fun r=>(T0.err=0∧T1.err=0∧T2.err=0∧r=(Ex.exit 0,[Zp b,Zz Zk T2.next,Zy [],Zy [],Zy [],Zz Zk 0,Zz Zk 0,Zy T0.val,Zy T1.val,Zy T2.val,Zz Zk 3,Zz Zk 3])) ∨
    ∃ n x y z i,Xg b pos=⟨Wh,0,(Xg b pos).err⟩∧r=(Ex.ret,[Zp b,Zz Zk n,Zy [],Zy [],Zy [],Zz Zk 0,Zz Zk (Xg b pos).err,Zy x,Zy y,Zy z,Zz Zk 3,Zz Zk i])) 0 ⟨by omega,by omega,by omega,by omega⟩ rfl ?_ ?_
  ·rintro i ⟨hi,g0,g1,g2⟩
   have hc:i=0∨i=1∨i=2∨i=3:=by omega
   rcases hc with rfl | rfl | rfl | rfl
   ·simp only [A0]
    rw [sel_pos (by decide),chk_of (by decide),sel_pos (by decide),chk_of hpre,← hT0]
    by_cases h:T0.err=0
    ·rw [sel_neg (by simp [h])]
     exact ⟨_,rfl,1,rfl,⟨by omega,fun _=>h,by omega,by omega⟩,by dsimp only;omega⟩
    ·rw [sel_pos (by simpa using h)]
     exact ⟨_,rfl,.inr ⟨_,_,_,_,_,by rw [hp,if_pos h],by rw [hp,if_pos h]⟩⟩
   ·simp only [A0]
    have e0:=g0 (by omega)
    rw [sel_pos (by decide),chk_of (by decide),sel_neg (by decide),sel_pos (by decide),chk_of hpre,← hT1]
    by_cases h:T1.err=0
    ·rw [sel_neg (by simp [h])]
     exact ⟨_,rfl,2,rfl,⟨by omega,fun _=>e0,fun _=>h,by omega⟩,by dsimp only;omega⟩
    ·rw [sel_pos (by simpa using h)]
     exact ⟨_,rfl,.inr ⟨_,_,_,_,_,by rw [hp,if_neg (by simp [e0]),if_pos h],by rw [hp,if_neg (by simp [e0]),if_pos h]⟩⟩
   ·simp only [A0]
    have e0:=g0 (by omega)
    have e1:=g1 (by omega)
    rw [sel_pos (by decide),chk_of (by decide),sel_neg (by decide),sel_neg (by decide),sel_pos (by decide),chk_of hpre,← hT2]
    by_cases h:T2.err=0
    ·rw [sel_neg (by simp [h])]
     exact ⟨_,rfl,3,rfl,⟨by omega,fun _=>e0,fun _=>e1,fun _=>h⟩,by dsimp only;omega⟩
    ·rw [sel_pos (by simpa using h)]
     exact ⟨_,rfl,.inr ⟨_,_,_,_,_,by rw [hp,if_neg (by simp [e0]),if_neg (by simp [e1]),if_pos h],by rw [hp,if_neg (by simp [e0]),if_neg (by simp [e1]),if_pos h]⟩⟩
   ·simp only [A0]
    rw [sel_neg (by decide)]
    exact ⟨_,rfl,.inl ⟨g0 (by omega),g1 (by omega),g2 (by omega),rfl⟩⟩
  ·rintro r (⟨e0,e1,e2,rfl⟩ | ⟨n,x,y,z,i,h,rfl⟩)
   ·simp only [A0]
    rw [sel_pos (Nat.beq_refl _),chk_of (by simp;omega),hp,if_neg (by simp [e0]),if_neg (by simp [e1]),if_neg (by simp [e2])]
    cases hv:Xu ⟨T0.val,T1.val,T2.val⟩
    ·rfl
    ·rfl
   ·simp only [A0]
    rw [h]
    rfl
 ·cases h
theorem w228:Walked Tryz.prog G 228 8 sp228:=by
 refine ⟨Tryz.f228,Tryz.func228,by decide +kernel,rfl,fun xs bl r h=> ?_⟩
 unfold sp228 at h
 split at h
 ·rename_i rl els i
  obtain ⟨hpre,h2⟩:=chk_inv h;cases h2
  refine Eq.trans (b:=(Zw (chk (decide (Zx rl≤9223372036854775807)&&Un els Vf&&decide (Zx els≤1000000)) (some (Zz .i64 (Vw (Xf rl (Xj Xv els))),[]))) fun (r:AV×Blocks)=>onNilB (Yp r) (Up .i64 (Xz r) fun n=>sel (!n==0) (some (Zz .i64 n,[])) (sel (decide (i<0)) (some (Zz .i64 104,[])) (sel (decide (i≥(↑(Zx els):Int))) (some (Zz .i64 104,[])) (some (Zz .i64 0,[]))))):Option (AV×Blocks))) (by kernel_rfl) ?_
  simp only [Zm,decide_eq_true_eq] at hpre
  obtain ⟨⟨hr,hall⟩,hlen⟩:=hpre
  simp only [hr,hall,hlen,decide_true,Yj,↓A0,A0]
  generalize Vw ⟨rl,els.map Xv⟩=z
  by_cases h:z=0
  case neg=>rw [sel_pos (by simpa using h),if_pos h]
  rw [sel_neg (by simpa using h),if_neg (by simpa using h)]
  by_cases h1:i<0
  ·rw [sel_pos (by simpa using h1),if_pos (.inl h1)]
  rw [sel_neg (by simpa using h1)]
  by_cases h2:(els.length:Int)≤i
  ·rw [sel_pos (by simpa using h2),if_pos (.inr h2)]
  ·rw [sel_neg (by simpa using h2),if_neg (by omega)]
 ·cases h
theorem w245:Walked Tryz.prog G 245 8 sp245:=by
 refine ⟨Tryz.f245,Tryz.func245,by decide +kernel,rfl,fun xs bl r h=> ?_⟩
 unfold sp245 at h
 split at h
 ·rename_i lb t k st en kv x y z tk
  obtain ⟨hpre,h2⟩:=chk_inv h;cases h2
  refine Eq.trans (b:=(let t0:Option (AV×Blocks):=sel (!Yq t 4294967295) (some (Zz .i64 104,[])) (sel (!Qz lb) (sel (!k==0) (some (Zz .i64 108,[])) (sel (!st==0) (some (Zz .i64 108,[])) (sel (!en==0) (some (Zz .i64 108,[])) (sel (!kv==0) (some (Zz .i64 108,[])) (sel (!(x==[]&&(y==[]&&z==[]))) (some (Zz .i64 108,[])) (sel (decide ((↑(Zx tk):Int)>0)) (some (Zz .i64 108,[])) (some (Zz .i64 0,[])))))))) (Zw (chk (decide (0≤k)&&decide (k<18446744073709551616)) (some (Yz (Ud k),[]))) (kL fun b=>sel (!b) (some (Zz .i64 10,[])) (sel (!Yq st 4294967295) (some (Zz .i64 104,[])) (sel (!Yq en 4294967295) (some (Zz .i64 104,[])) (sel (!Yq kv 255) (some (Zz .i64 104,[])) (Zw (chk (l63 x&&l63 y&&l63 z) (some (Yz (Xu (Zh x y z)),[]))) (kL fun b=>sel (!b) (some (Zz .i64 103,[])) (sel (decide ((↑(Zx tk):Int)>255)) (some (Zz .i64 105,[])) (some (Zz .i64 0,[])))))))))));sel (!Qz lb) (sel (!lb==[(67:UInt8),(80:UInt8),(87:UInt8),(100:UInt8)]) (some (Zz .i64 80,[])) t0) t0:Option (AV×Blocks))) (by kernel_rfl) ?_
  delta kL
  try dsimp only [cStr,cBs,cBool,cU8,cInt,cSl,l63]
  have eGet:([103,84,71,83]:List UInt8)=Kerb.lGet:=rfl
  have eTick:([103,84,75,84]:List UInt8)=Kerb.lTicket:=rfl
  have eChg:([67,80,87,108]:List UInt8)=Kerb.lChange:=rfl
  have eDone:([67,80,87,100]:List UInt8)=Kerb.lDone:=rfl
  have eGot:([116,103,115,84]:List UInt8)=Kerb.lGot:=rfl
  have eGiven:([116,107,116,71]:List UInt8)=Kerb.lGiven:=rfl
  have hpre':=hpre
  simp only [Zm,decide_eq_true_eq] at hpre
  have hk:(decide (0≤k)&&decide (k<18446744073709551616))=true:=by simp;omega
  have hv:(decide (x.length≤9223372036854775807)&&decide (y.length≤9223372036854775807)&&decide (z.length≤9223372036854775807))=true:=by simp;omega
  simp only [A0,eDone,hk,hv]
  unfold Wg
  simp only
  cases ht:Qz lb
  ·rw [Wm,sel_true]
   cases hc:(lb==Kerb.lDone)
   ·rfl
   rw [Zb,sel_false,if_neg (by simp)]
   cases h1:Yq t 4294967295
   ·rfl
   rw [Zb,sel_false,if_neg (by simp),sel_true,if_neg (by simp)]
   by_cases h2:k=0
   case neg=>rw [sel_pos (by simpa using h2),if_pos (.inl h2)]
   rw [sel_neg (by simp [h2])]
   by_cases h3:st=0
   case neg=>rw [sel_pos (by simpa using h3),if_pos (.inr (.inl h3))]
   rw [sel_neg (by simp [h3])]
   by_cases h4:en=0
   case neg=>rw [sel_pos (by simpa using h4),if_pos (.inr (.inr (.inl h4)))]
   rw [sel_neg (by simp [h4])]
   by_cases h5:kv=0
   case neg=>rw [sel_pos (by simpa using h5),if_pos (.inr (.inr (.inr (.inl h5))))]
   rw [sel_neg (by simp [h5])]
   show sel (!(Kerb.Prin.isNo ⟨x,y,z⟩)) _ _=_
   cases h6:Kerb.Prin.isNo ⟨x,y,z⟩
   ·rw [if_pos (.inr (.inr (.inr (.inr (.inl rfl)))))];rfl
   rw [Zb,sel_false]
   by_cases h7:tk=[]
   case neg=>rw [sel_pos (by have:=List.length_pos_iff.2 h7;simp;omega),if_pos (.inr (.inr (.inr (.inr (.inr h7)))))]
   rw [sel_neg (by simp [h7]),if_neg (by simp [h2,h3,h4,h5,h7])]
  ·rw [Zb,sel_false,if_neg (by simp)]
   cases h1:Yq t 4294967295
   ·rfl
   rw [Zb,sel_false,if_neg (by simp),sel_false,if_pos rfl]
   cases h2:Ud k
   ·rfl
   rw [Zb,sel_false,if_neg (by simp)]
   cases h3:Yq st 4294967295
   ·rfl
   rw [Zb,sel_false]
   cases h4:Yq en 4294967295
   ·rfl
   rw [Zb,sel_false]
   cases h5:Yq kv 255
   ·rfl
   rw [Zb,sel_false,if_neg (by simp)]
   cases h6:Xu ⟨x,y,z⟩
   ·rfl
   rw [Zb,sel_false,if_neg (by simp)]
   by_cases h7:255<tk.length
   ·rw [sel_pos (by simp;omega),if_pos h7]
   ·rw [sel_neg (by simp;omega),if_neg h7]
 ·cases h
theorem w251:Walked Tryz.prog G 251 8 sp251:=by
 refine ⟨Tryz.f251,Tryz.func251,by decide +kernel,rfl,fun xs bl r h=> ?_⟩
 unfold sp251 at h
 split at h
 ·rename_i k x y z lf kv tk t little
  obtain ⟨hpre,h2⟩:=chk_inv h;cases h2
  refine Eq.trans (b:=(let t0:Option (AV×Blocks):=some (Zg [Zp [],Zz .i64 104],[]);let t1:List UInt8:=[]++Ym 0 1 false;let t2:List UInt8:=[]++Ym 1 1 false;let t3:Option (AV×Blocks):=chk (decide (0≤k)&&decide (k<18446744073709551616)) (some (Zp (Kerb.keyBytes k),[]));Zw (chk (decide (0≤k)&&decide (k<18446744073709551616)) (some (Yz (Ud k),[]))) (kL fun b=>sel (!b) (some (Zg [Zp [],Zz .i64 10],[])) (Zw (chk (l63 x&&l63 y&&l63 z) (some (Yz (Xu (Zh x y z)),[]))) (kL fun b=>sel (!b) (some (Zg [Zp [],Zz .i64 103],[])) (sel (!Yq lf 255) t0 (sel (!Yq kv 255) t0 (sel (!Yq t 4294967295) t0 (sel (decide ((↑(Zx tk):Int)>255)) (some (Zg [Zp [],Zz .i64 105],[])) (sel little (Zw t3 (kB fun b=>Zw (chk (decide (Zx (Yv t2 (Yv b []))≤140737488355328)&&decide (Zx [Zp t2,Zp b]≤1000)) (some (Yy (Yv t2 (Yv b [])),[]))) (kO fun l=>Zw (chk (decide (Zx l+Zx x+Zx y+Zx z≤70368744170000)) (some (Zp (Vp l (Zh x y z)),[]))) (kB fun b=>Zw (chk (decide (Zx b≤70368744177664)) (some (Yy (b++Ym lf 1 false),[]))) (kO fun l=>Zw (chk (decide (Zx l≤70368744177664)) (some (Yy (l++Ym kv 1 false),[]))) (kO fun l=>Zw (chk (decide (Zx l≤70368744177664)) (some (Yy (l++Ym (↑(Zx tk):Int) 1 false),[]))) (kO fun l=>Zw (chk (decide (Zx (Yv l (Yv tk []))≤140737488355328)&&decide (Zx [Zp l,Zp tk]≤1000)) (some (Yy (Yv l (Yv tk [])),[]))) (kO fun l=>Zw (chk (decide (Zx l≤70368744177664)) (some (Yy (l++Ym t 4 little),[]))) (kO fun l=>Zw (chk (decide (Zx l≤70368744177664)) (some (Zp (Kerb.pad l),[]))) (kB fun b=>some (Zg [Zp b,Zz .i64 0],[]))))))))))) (Zw t3 (kB fun b=>Zw (chk (decide (Zx (Yv t1 (Yv b []))≤140737488355328)&&decide (Zx [Zp t1,Zp b]≤1000)) (some (Yy (Yv t1 (Yv b [])),[]))) (kO fun l=>Zw (chk (decide (Zx l+Zx x+Zx y+Zx z≤70368744170000)) (some (Zp (Vp l (Zh x y z)),[]))) (kB fun b=>Zw (chk (decide (Zx b≤70368744177664)) (some (Yy (b++Ym lf 1 false),[]))) (kO fun l=>Zw (chk (decide (Zx l≤70368744177664)) (some (Yy (l++Ym kv 1 false),[]))) (kO fun l=>Zw (chk (decide (Zx l≤70368744177664)) (some (Yy (l++Ym (↑(Zx tk):Int) 1 false),[]))) (kO fun l=>Zw (chk (decide (Zx (Yv l (Yv tk []))≤140737488355328)&&decide (Zx [Zp l,Zp tk]≤1000)) (some (Yy (Yv l (Yv tk [])),[]))) (kO fun l=>Zw (chk (decide (Zx l≤70368744177664)) (some (Yy (l++Ym t 4 little),[]))) (kO fun l=>Zw (chk (decide (Zx l≤70368744177664)) (some (Zp (Kerb.pad l),[]))) (kB fun b=>some (Zg [Zp b,Zz .i64 0],[]))))))))))))))))))):Option (AV×Blocks))) (by kernel_rfl) ?_
  delta kB kO kL
  try dsimp only [cStr,cBs,cBool,cU8,cInt,cSl,l63]
  simp only [Zm,decide_eq_true_eq] at hpre
  obtain ⟨⟨⟨⟨q1,q2⟩,q3⟩,h0⟩,h1⟩:=hpre
  simp only [A0]
  unfold Kerb.encodePart
  rw [chk_of (by simp [h0,h1])]
  cases hk:Ud k
  ·rfl
  rw [Zb,sel_false,chk_of (by simp [q1,q2,q3])]
  cases h1:Xu ⟨x,y,z⟩
  ·rfl
  rw [Zb,sel_false]
  cases h4:Yq lf 255
  ·rfl
  rw [Zb,sel_false]
  cases h5:Yq kv 255
  ·rfl
  rw [Zb,sel_false]
  cases h6:Yq t 4294967295
  ·rfl
  rw [Zb,sel_false]
  by_cases h7:255<tk.length
  ·rw [sel_pos (by simp;omega),if_neg (by simp),if_neg (by simp),if_neg (by simp),if_pos h7]
  have l1:=Kerb.valid_len h1
  simp only at l1
  rw [sel_neg (by simp;omega),if_neg (by simp),if_neg (by simp),if_neg (by simp),if_neg h7]
  cases little
  ·rw [sel_false,chk_of (by simp;omega),chk_of (by first | (simp [Zq,Zj,Zu];done) | (simp [Zq,Zj,Zu];omega)),chk_of (by first | (simp [Zq,Zj,Zu];done) | (simp [Zq,Zj,Zu];omega)),chk_of (by first | (simp [Zq,Zj,Zu];done) | (simp [Zq,Zj,Zu];omega)),chk_of (by first | (simp [Zq,Zj,Zu];done) | (simp [Zq,Zj,Zu];omega)),chk_of (by first | (simp [Zq,Zj,Zu];done) | (simp [Zq,Zj,Zu];omega)),chk_of (by first | (simp [Zq,Zj,Zu];done) | (simp [Zq,Zj,Zu];omega)),chk_of (by first | (simp [Zq,Zj,Zu];done) | (simp [Zq,Zj,Zu];omega)),chk_of (by first | (simp [Zq,Zj,Zu];done) | (simp [Zq,Zj,Zu];omega))]
   simp
  ·rw [sel_true,chk_of (by simp;omega),chk_of (by first | (simp [Zq,Zj,Zu];done) | (simp [Zq,Zj,Zu];omega)),chk_of (by first | (simp [Zq,Zj,Zu];done) | (simp [Zq,Zj,Zu];omega)),chk_of (by first | (simp [Zq,Zj,Zu];done) | (simp [Zq,Zj,Zu];omega)),chk_of (by first | (simp [Zq,Zj,Zu];done) | (simp [Zq,Zj,Zu];omega)),chk_of (by first | (simp [Zq,Zj,Zu];done) | (simp [Zq,Zj,Zu];omega)),chk_of (by first | (simp [Zq,Zj,Zu];done) | (simp [Zq,Zj,Zu];omega)),chk_of (by first | (simp [Zq,Zj,Zu];done) | (simp [Zq,Zj,Zu];omega)),chk_of (by first | (simp [Zq,Zj,Zu];done) | (simp [Zq,Zj,Zu];omega))]
   simp
 ·cases h
theorem w265:Walked Tryz.prog G 265 8 sp265:=by
 refine ⟨Tryz.f265,Tryz.func265,by decide +kernel,rfl,fun xs bl r h=> ?_⟩
 unfold sp265 at h
 split at h
 ·rename_i li x y z ad k lf iss sv ins
  obtain ⟨hpre,h2⟩:=chk_inv h;cases h2
  refine Eq.trans (b:=(Zw (chk (decide (Zx x≤9223372036854775807)&&decide (Zx y≤9223372036854775807)&&decide (Zx z≤9223372036854775807)) (some (Yz (Xu (Zh x y z)),[]))) fun (r:AV×Blocks)=>onNilB (Yp r) (AV.onBool (Xz r) fun b=>sel (!b) (some (Zz .i64 103,[])) (Zw (chk (decide (Zx sv≤9223372036854775807)) (some (Yz (Uz sv),[]))) fun (r:AV×Blocks)=>onNilB (Yp r) (AV.onBool (Xz r) fun b=>sel (!b) (some (Zz .i64 103,[])) (Zw (chk (decide (Zx ins≤9223372036854775807)) (some (Yz (Uy ins),[]))) fun (r:AV×Blocks)=>onNilB (Yp r) (AV.onBool (Xz r) fun b=>sel (!b) (some (Zz .i64 103,[])) (Zw (chk (decide (0≤k)&&decide (k<18446744073709551616)) (some (Zz .i64 (Kerb.classOf k),[]))) fun (r:AV×Blocks)=>onNilB (Yp r) (Up .i64 (Xz r) fun n=>sel (!n==2) (some (Zz .i64 10,[])) (sel (!Yq ad 4294967295) (some (Zz .i64 104,[])) (sel (!Yq lf 255) (some (Zz .i64 104,[])) (sel (!Yq iss 4294967295) (some (Zz .i64 104,[])) (some (Zz .i64 0,[])))))))))))):Option (AV×Blocks))) (by kernel_rfl) ?_
  simp only [Zm,decide_eq_true_eq] at hpre
  obtain ⟨⟨⟨⟨⟨⟨h1,h2⟩,h3⟩,h4⟩,h5⟩,h6⟩,h7⟩:=hpre
  simp only [h1,h2,h3,h4,h5,h6,h7,decide_true,Yj,↓A0,A0]
  unfold Kerb.Ticket.err
  dsimp only
  cases Xu ⟨x,y,z⟩
  ·rfl
  cases Uz sv
  ·rfl
  cases Uy ins
  ·rfl
  simp only [Zb,Yj,sel_false]
  by_cases hc:Kerb.classOf k=2
  case neg=>rw [sel_pos (by simpa using hc),if_neg (by simp),if_pos hc]
  rw [sel_neg (by simp [hc]),if_neg (by simp),if_neg (by simp [hc])]
  cases Yq ad 4294967295
  ·rfl
  cases Yq lf 255
  ·rfl
  cases Yq iss 4294967295
  ·rfl
  rfl
 ·cases h
theorem w96:Walked Tryz.prog G 96 9 sp96:=by
 refine ⟨Tryz.f96,Tryz.func96,by decide +kernel,rfl,fun xs bl r h=> ?_⟩
 unfold sp96 at h
 split at h
 ·rename_i op ux uy uz kv rl tk sv ins bx
  obtain ⟨hpre,h2⟩:=chk_inv h;cases h2
  refine Eq.trans (b:=(let t1:List UInt8:=Kerb.header 9 false++Ym op 1 false;let t0:Nat:=Zx t1;Zw (chk (l63 ux&&l63 uy&&l63 uz&&l63 rl&&l63 sv&&l63 ins) (some (Zz .i64 (Yb (Yx (Xd op (Zh ux uy uz) kv rl tk sv ins bx))),[]))) (kI .i64 fun n=>sel (!n==0) (some (Zg [Zp [],Zz .i64 n],[])) (sel (op==2) (Zw (chk (decide (t0≤70368744177664)) (some (Yy (t1++Ym kv 1 false),[]))) (kO fun l=>Zw (chk (decide (Zx l+Zx rl≤70368744177664)) (some (Zp (Yh l rl),[]))) (kB fun b=>Zw (chk (decide (Zx b+Zx tk≤70368744170000)) (some (Zp (Vk b tk),[]))) (kB fun b=>Zw (chk (decide (Zx b+Zx sv≤70368744177664)) (some (Zp (Yh b sv),[]))) (kB fun b=>Zw (chk (decide (Zx b+Zx ins≤70368744177664)) (some (Zp (Yh b ins),[]))) (kB fun b=>Zw (chk (decide (Zx b+Zx bx≤70368744170000)) (some (Zp (Kerb.putBox b bx),[]))) (kB fun b=>some (Zg [Zp b,Zz .i64 0],[])))))))) (Zw (chk (decide (t0+Zx ux+Zx uy+Zx uz≤70368744170000)) (some (Zp (Vp t1 (Zh ux uy uz)),[]))) (kB fun b=>Zw (chk (decide (Zx b+Zx bx≤70368744170000)) (some (Zp (Kerb.putBox b bx),[]))) (kB fun b=>some (Zg [Zp b,Zz .i64 0],[])))))):Option (AV×Blocks))) (by kernel_rfl) ?_
  delta kB kO kI
  try dsimp only [cStr,cBs,cBool,cU8,cInt,cSl,l63]
  have hpre':=hpre
  simp only [Zm,decide_eq_true_eq] at hpre
  simp only [A0]
  rw [chk_of hpre']
  by_cases he:(Yx (Xd op ⟨ux,uy,uz⟩ kv rl tk sv ins bx)).err=0
  case neg =>
   rw [sel_pos (by simpa using he),Kerb.encKaReq_no he]
  rw [sel_neg (by simp [he]),he]
  have hl9:(Kerb.header 9 false).length=2:=rfl
  rcases Kerb.encKaReq_inv he with ⟨ho,v1,v2,v3,hk,ht,hb,hu,hv⟩ | ⟨ho,v1,hb,hk,hr,ht,hs,hn,hv⟩
  ·have l1:=Kerb.validRealm_len v1
   have l2:=Kerb.validName_len v2
   have l3:=Kerb.validInst_len v3
   simp only at ho l1 l2 l3 ht hb
   rw [sel_pos (by simpa using ho),hv]
   rw [chk_of (by simp [Zj,hl9]),chk_of (by simp [Zj,hl9];omega),chk_of (by simp [Zj,hl9,Kerb.putText_len];omega),chk_of (by simp [Zj,hl9,Kerb.putText_len,Vk];omega),chk_of (by simp [Zj,hl9,Kerb.putText_len,Vk];omega),chk_of (by simp [Zj,hl9,Kerb.putText_len,Vk];omega)]
   simp [Kerb.putBox,Yh,Vk]
  ·have l1:=Kerb.valid_len v1
   simp only at ho l1 hb
   rw [sel_neg (by simp;omega),hv]
   rw [chk_of (by simp [Zj,hl9];omega),chk_of (by simp [Zj,hl9,Zq];omega)]
   simp [Kerb.putBox,Yh,Vp]
 ·cases h
theorem w146:Walked Tryz.prog G 146 9 sp146:=by
 refine ⟨Tryz.f146,Tryz.func146,by decide +kernel,rfl,fun xs bl r h=> ?_⟩
 unfold sp146 at h
 split at h
 ·rename_i B at_ bad
  obtain ⟨hpre,h2⟩:=chk_inv h;cases h2
  show runFnH (G.env 146 9) G.rts (G.own 146) Tryz.f146 _ _ [0]=_
  refine Eq.trans (b:=(Zw (chk (decide (Zx B≤4611686018427387904)) (some (Zg [Yg [Zy (Ww (Uq (Xg B at_))),Zy (Wv (Uq (Xg B at_))),Zy (Xn (Uq (Xg B at_)))],Zz .i64 (Kerb.GotP.next (Xg B at_)),Zz .i64 (Kerb.GotP.err (Xg B at_))],[]))) fun (r:AV×Blocks)=>onNilB (Yp r) (AV.onTup (Xz r) fun vs=>onCons vs fun x r=>Wq x fun cs=>onCons cs fun x r_1=>AV.onStr x fun b=>onCons r_1 fun x r_2=>AV.onStr x fun b_1=>onCons r_2 fun x r_3=>AV.onStr x fun b_2=>onNil r_3 (onCons r fun x r=>Up .i64 x fun n=>onCons r fun x r=>Up .i64 x fun n_1=>onNil r (sel (!!(bad || !n_1==0)) (some (Yg [Zy [],Zy [],Zy []],[[Zp B,Zz .i64 (bif bad || !n_1==0 then at_ else n),Yz (bad || !n_1==0)]])) (some (Yg [Zy b,Zy b_1,Zy b_2],[[Zp B,Zz .i64 (bif bad || !n_1==0 then at_ else n),Yz (bad || !n_1==0)]]))))):Option (AV×Blocks))) (by kernel_rfl) ?_
  have hb:=of_decide_eq_true hpre
  simp only [A0]
  rw [chk_of (by simp;omega)]
  unfold Kerb.pPrin
  cases bad
  ·simp only [Bool.false_or]
   generalize hq:(!(_==(0:Int)))=q
   cases q<;>rfl
  ·rfl
 ·cases h
theorem w157:Walked Tryz.prog G 157 9 sp157:=by
 refine ⟨Tryz.f157,Tryz.func157,by decide +kernel,rfl,fun xs bl r h=> ?_⟩
 unfold sp157 at h
 split at h
 ·rename_i rl els i en ei ek ev ex em ea ef et
  obtain ⟨hpre,h2⟩:=chk_inv h;cases h2
  refine Eq.trans (b:=(let t0:Kerb.Db:=Kerb.setEnt (Xf rl (Xj Xv els)) i (Wp en ei ek ev ex em ea ef et);let t1:AV:=Yg [Zy [],Xm 9 []];Zw (chk (l63 rl&&Un els Vf&&decide (Zx els≤1000000)) (some (Zz .i64 (if Vw (Xf rl (Xj Xv els))≠0 then Vw (Xf rl (Xj Xv els)) else if i<0∨(↑(Zx els):Int)≤i then 104 else 0),[]))) (kI .i64 fun n=>sel (!n==0) (some (Zg [t1,Zz .i64 n],[])) (Zw (chk (l63 en&&l63 ei&&Kerb.isU64 ek) (some (Zz .i64 (Kerb.Entry.err (Wp en ei ek ev ex em ea ef et)),[]))) (kI .i64 fun n=>sel (!n==0) (some (Zg [t1,Zz .i64 n],[])) (chk (decide (0≤i)&&decide (i<(↑(Zx els):Int))&&true) (Wq (Vj els (Yn i) Uk) fun cs=>cStr cs fun b r=>cStr r fun b_1 r=>cInt .u64 r fun n r=>cInt .i64 r fun n r=>cInt .i64 r fun n r=>cInt .i64 r fun n r=>cInt .i64 r fun n r=>cInt .i64 r fun n r=>cInt .i64 r fun n r=>onNil r (sel (!(if Kerb.cmpB b en=0 then Kerb.cmpB b_1 ei else Kerb.cmpB b en)==0) (some (Zg [t1,Zz .i64 103],[])) (Zw (chk (Un els Vf&&decide (Zx els≤1000000)&&decide (0≤i)&&decide (i<(↑(Zx els):Int))) (some (Yg [Zy (Uj t0),Xm 9 (Xj Yu (Vb t0))],[]))) (kA fun cs=>cStr cs fun b r=>cSl 9 r fun b_2 r=>onNil r (some (Zg [Yg [Zy b,Xm 9 b_2],Zz .i64 0],[])))))))))):Option (AV×Blocks))) (by kernel_rfl) ?_
  delta kA kI
  try dsimp only [cStr,cBs,cBool,cU8,cInt,cSl,l63]
  simp only [Zm,decide_eq_true_eq] at hpre
  obtain ⟨⟨⟨⟨⟨hr,hall⟩,hlen⟩,he1⟩,he2⟩,he3⟩:=hpre
  obtain ⟨es,rfl,hok⟩:=Uu hall
  rw [Wj]
  simp only [hr,hall,hlen,he1,he2,he3,decide_true,Yj,↓A0,A0]
  simp only [Xp] at hlen ⊢
  unfold Kerb.putEnt
  dsimp only
  generalize hz:Vw ⟨rl,es⟩=z
  by_cases hz0:z=0
  case neg=>rw [if_pos hz0,sel_pos (by simpa using hz0),if_pos hz0];try rfl
  by_cases hi:i<0∨(es.length:Int)≤i
  ·rw [if_neg (by simpa using hz0),if_pos hi,sel_pos (by rfl),if_neg (by simpa using hz0),if_pos hi];try rfl
  rw [if_neg (by simpa using hz0),if_neg hi,sel_neg (by rfl),if_neg (by simpa using hz0),if_neg hi]
  generalize hy:Kerb.Entry.err _=y
  by_cases hy0:y=0
  case neg=>rw [sel_pos (by simpa using hy0),if_pos hy0];rfl
  rw [sel_neg (by simpa using hy0),if_neg (by simpa using hy0)]
  have i0:decide (0≤i)=true:=by simp;omega
  have i1:decide (i<(es.length:Int))=true:=by simp;omega
  rw [chk_of (by rw [i0,i1];rfl),Wf (by omega)]
  generalize es.getD i.toNat Uw=e
  have hc:=Kerb.cmp_named e (Wp en ei ek ev ex em ea ef et)
  dsimp only at hc
  simp only [Yu,i0,i1,hc,↓A0,A0]
  cases hn:Kerb.Entry.named e.name e.inst (Wp en ei ek ev ex em ea ef et)
  ·rfl
  ·rfl
 ·cases h
theorem w208:Walked Tryz.prog G 208 9 sp208:=by
 refine ⟨Tryz.f208,Tryz.func208,by decide +kernel,rfl,fun xs bl r h=> ?_⟩
 unfold sp208 at h
 split at h
 ·rename_i lb t k st en kv x y z tk
  obtain ⟨hpre,h2⟩:=chk_inv h;cases h2
  refine Eq.trans (b:=(Zw (chk (l63 x&&l63 y&&l63 z&&decide (0≤k)&&decide (k<18446744073709551616)) (some (Zz .i64 (Yb (Wg (Vm lb t k st en kv (Zh x y z) tk))),[]))) (kI .i64 fun n=>sel (!n==0) (some (Zg [Zp [],Zz .i64 n],[])) (Zw (chk (decide (Zx lb≤70368744177664)) (some (Yy (lb++Ym t 4 false),[]))) (kO fun l=>sel (Qz lb) (Zw (chk (decide (0≤k)&&decide (k<18446744073709551616)) (some (Zp (Kerb.keyBytes k),[]))) (kB fun b=>chk (room (Zx l+Zx b) 1) (Zw (chk (decide (Zx (l++b)≤70368744177664)) (some (Yy (l++b++Ym st 4 false),[]))) (kO fun l=>Zw (chk (decide (Zx l≤70368744177664)) (some (Yy (l++Ym en 4 false),[]))) (kO fun l=>Zw (chk (decide (Zx l≤70368744177664)) (some (Yy (l++Ym kv 1 false),[]))) (kO fun l=>Zw (chk (decide (Zx l+Zx x+Zx y+Zx z≤70368744170000)) (some (Zp (Vp l (Zh x y z)),[]))) (kB fun b=>Zw (chk (decide (Zx b+Zx tk≤70368744170000)) (some (Zp (Vk b tk),[]))) (kB fun b=>Zw (chk (decide (Zx b≤70368744177664)) (some (Zp (Kerb.pad b),[]))) (kB fun b=>some (Zg [Zp b,Zz .i64 0],[])))))))))) (Zw (chk (decide (Zx l≤70368744177664)) (some (Zp (Kerb.pad l),[]))) (kB fun b=>some (Zg [Zp b,Zz .i64 0],[])))))):Option (AV×Blocks))) (by kernel_rfl) ?_
  delta kB kO kI
  try dsimp only [cStr,cBs,cBool,cU8,cInt,cSl,l63]
  have hpre':=hpre
  simp only [Zm,decide_eq_true_eq] at hpre
  have hk:(decide (0≤k)&&decide (k<18446744073709551616))=true:=by simp;omega
  simp only [A0,hpre',hk]
  by_cases he:(Wg (Vm lb t k st en kv ⟨x,y,z⟩ tk)).err=0
  case neg=>rw [sel_pos (by simpa using he),Kerb.encKaAns_no he]
  rw [sel_neg (by simp [he]),he]
  obtain ⟨ht,⟨hl,hl4,hk2,hs,hen,hv,hp,hx,hb⟩ | ⟨hl,hk2,hs,hen,hv,hp,hx,hb⟩⟩:=Kerb.encKaAns_inv he
  ·have l1:=Kerb.valid_len hp
   simp only at hl hl4 l1 hx
   rw [hb,chk_of (by simp;omega),sel_pos hl]
   rw [chk_of (Kerb.room_ok (by simp [Zj,Zu];omega)),chk_of (by simp [Zj,Zu];omega),chk_of (by simp [Zj,Zu];omega),chk_of (by simp [Zj,Zu];omega),chk_of (by simp [Zj,Zu];omega),chk_of (by simp [Zj,Zu,Zq];omega),chk_of (by simp [Zj,Zu,Zq,Vk];omega)]
   simp [Vk,Vp,Yh]
  ·simp only at hl
   have hl4:lb.length=4:=by rw [hl];rfl
   have hnt:Qz lb=false:=by rw [hl];decide
   rw [hb,chk_of (by simp;omega),sel_neg hnt,chk_of (by simp [Zj];omega)]
 ·cases h
theorem w232:Walked Tryz.prog G 232 9 sp232:=by
 refine ⟨Tryz.f232,Tryz.func232,by decide +kernel,rfl,fun xs bl r h=> ?_⟩
 unfold sp232 at h
 split at h
 ·rename_i rl els i k
  obtain ⟨hpre,h2⟩:=chk_inv h;cases h2
  refine Eq.trans (b:=(let t0:Bool:=Un els Vf&&decide (Zx els≤1000000)&&decide (0≤i)&&decide (i<(↑(Zx els):Int));Zw (chk (l63 rl&&Un els Vf&&decide (Zx els≤1000000)) (some (Zz .i64 (if Vw (Xf rl (Xj Xv els))≠0 then Vw (Xf rl (Xj Xv els)) else if i<0∨(↑(Zx els):Int)≤i then 104 else 0),[]))) (kI .i64 fun n=>sel (!n==0) (some (Zg [Yg [Zy [],Xm 9 []],Zz .i64 n],[])) (Zw (chk (decide (0≤k)&&decide (k<18446744073709551616)) (some (Yz (Ud k),[]))) (kL fun b=>sel (!b) (some (Zg [Yg [Zy [],Xm 9 []],Zz .i64 10],[])) (chk (decide (0≤i)&&decide (i<(↑(Zx els):Int))&&true) (Wq (Vj els (Yn i) Uk) fun cs=>cStr cs fun b r=>cStr r fun b_1 r=>cInt .u64 r fun n r=>cInt .i64 r fun n r=>cInt .i64 r fun n_1 r=>cInt .i64 r fun n_2 r=>cInt .i64 r fun n_3 r=>cInt .i64 r fun n_4 r=>cInt .i64 r fun n_5 r=>let t1:Kerb.Db:=Kerb.setEnt (Xf rl (Xj Xv els)) i (Wp b b_1 k (Zd .i64 (n+1)) n_1 n_2 n_3 n_4 n_5);let t2:Kerb.Db:=Kerb.setEnt (Xf rl (Xj Xv els)) i (Wp b b_1 k 1 n_1 n_2 n_3 n_4 n_5);onNil r (sel (decide (n<255)) (Zw (chk t0 (some (Yg [Zy (Uj t1),Xm 9 (Xj Yu (Vb t1))],[]))) (kA fun cs=>cStr cs fun b r=>cSl 9 r fun b_2 r=>onNil r (some (Zg [Yg [Zy b,Xm 9 b_2],Zz .i64 0],[])))) (Zw (chk t0 (some (Yg [Zy (Uj t2),Xm 9 (Xj Yu (Vb t2))],[]))) (kA fun cs=>cStr cs fun b r=>cSl 9 r fun b_2 r=>onNil r (some (Zg [Yg [Zy b,Xm 9 b_2],Zz .i64 0],[])))))))))):Option (AV×Blocks))) (by kernel_rfl) ?_
  delta kA kL kI
  try dsimp only [cStr,cBs,cBool,cU8,cInt,cSl,l63]
  simp only [Zm,decide_eq_true_eq] at hpre
  obtain ⟨⟨⟨⟨hr,hall⟩,hlen⟩,h0⟩,h1⟩:=hpre
  obtain ⟨es,rfl,hok⟩:=Uu hall
  rw [Wj]
  simp only [hr,hall,hlen,h0,h1,decide_true,Yj,↓A0,A0]
  simp only [Xp] at hlen ⊢
  unfold Kerb.rekey
  dsimp only
  generalize hz:Vw ⟨rl,es⟩=z
  by_cases hz0:z=0
  case neg=>rw [if_pos hz0,sel_pos (by simpa using hz0),if_pos hz0];try rfl
  by_cases hi:i<0∨(es.length:Int)≤i
  ·rw [if_neg (by simpa using hz0),if_pos hi,sel_pos (by rfl),if_neg (by simpa using hz0),if_pos hi];try rfl
  rw [if_neg (by simpa using hz0),if_neg hi,sel_neg (by rfl),if_neg (by simpa using hz0),if_neg hi]
  cases hk:Ud k
  ·rfl
  rw [sel_neg (by simp),if_neg (by simp)]
  have i0:decide (0≤i)=true:=by simp;omega
  have i1:decide (i<(es.length:Int))=true:=by simp;omega
  rw [chk_of (by rw [i0,i1];rfl),Wf (by omega)]
  have hx:=Kerb.errs_all (Kerb.Db.err_inv (hz.trans hz0)).2.2 _ (Kerb.ent_mem (es:=es) (i:=i.toNat) (by omega))
  generalize es.getD i.toNat Uw=e at hx
  have x4:=Kerb.within_iff.1 (Kerb.Entry.err_inv hx).2.2.2.1
  simp only [Yu,i0,i1,↓A0,A0]
  unfold Kerb.Entry.rekeyed
  try dsimp only
  by_cases hv:e.kvno<255
  ·rw [sel_pos (by simpa using hv),if_pos hv,wrap_i64 (by omega) (by omega)];rfl
  ·rw [sel_neg (by simpa using hv),if_neg hv];rfl
 ·cases h
theorem w261:Walked Tryz.prog G 261 9 sp261:=by
 refine ⟨Tryz.f261,Tryz.func261,by decide +kernel,rfl,fun xs bl r h=> ?_⟩
 unfold sp261 at h
 split at h
 ·rename_i li x y z ad k lf iss sv ins
  obtain ⟨hpre,h2⟩:=chk_inv h;cases h2
  refine Eq.trans (b:=(let t0:Nat:=Zx ([]++Ym 1 1 false)+Zx x+Zx y+Zx z;let t1:Nat:=Zx ([]++Ym 0 1 false)+Zx x+Zx y+Zx z;let t2:Option (AV×Blocks):=chk (decide (0≤k)&&decide (k<18446744073709551616)) (some (Zp (Kerb.keyBytes k),[]));Zw (chk (l63 x&&l63 y&&l63 z&&l63 sv&&l63 ins&&decide (0≤k)&&decide (k<18446744073709551616)) (some (Zz .i64 (Kerb.Ticket.err (Vn li (Zh x y z) ad k lf iss sv ins)),[]))) (kI .i64 fun n=>sel (!n==0) (some (Zg [Zp [],Zz .i64 n],[])) (sel li (Zw (chk (decide (t0≤70368744170000)) (some (Zp (Vp ([]++Ym 1 1 false) (Zh x y z)),[]))) (kB fun b=>Zw (chk (decide (Zx b≤70368744177664)) (some (Yy (b++Ym ad 4 li),[]))) (kO fun l=>Zw t2 (kB fun b=>Zw (chk (decide (Zx (Yv l (Yv b []))≤140737488355328)&&decide (Zx [Zp l,Zp b]≤1000)) (some (Yy (Yv l (Yv b [])),[]))) (kO fun l=>Zw (chk (decide (Zx l≤70368744177664)) (some (Yy (l++Ym lf 1 false),[]))) (kO fun l=>Zw (chk (decide (Zx l≤70368744177664)) (some (Yy (l++Ym iss 4 li),[]))) (kO fun l=>Zw (chk (decide (Zx l+Zx sv≤70368744177664)) (some (Zp (Yh l sv),[]))) (kB fun b=>Zw (chk (decide (Zx b+Zx ins≤70368744177664)) (some (Zp (Yh b ins),[]))) (kB fun b=>Zw (chk (decide (Zx b≤70368744177664)) (some (Zp (Kerb.pad b),[]))) (kB fun b=>some (Zg [Zp b,Zz .i64 0],[]))))))))))) (Zw (chk (decide (t1≤70368744170000)) (some (Zp (Vp ([]++Ym 0 1 false) (Zh x y z)),[]))) (kB fun b=>Zw (chk (decide (Zx b≤70368744177664)) (some (Yy (b++Ym ad 4 li),[]))) (kO fun l=>Zw t2 (kB fun b=>Zw (chk (decide (Zx (Yv l (Yv b []))≤140737488355328)&&decide (Zx [Zp l,Zp b]≤1000)) (some (Yy (Yv l (Yv b [])),[]))) (kO fun l=>Zw (chk (decide (Zx l≤70368744177664)) (some (Yy (l++Ym lf 1 false),[]))) (kO fun l=>Zw (chk (decide (Zx l≤70368744177664)) (some (Yy (l++Ym iss 4 li),[]))) (kO fun l=>Zw (chk (decide (Zx l+Zx sv≤70368744177664)) (some (Zp (Yh l sv),[]))) (kB fun b=>Zw (chk (decide (Zx b+Zx ins≤70368744177664)) (some (Zp (Yh b ins),[]))) (kB fun b=>Zw (chk (decide (Zx b≤70368744177664)) (some (Zp (Kerb.pad b),[]))) (kB fun b=>some (Zg [Zp b,Zz .i64 0],[]))))))))))))):Option (AV×Blocks))) (by kernel_rfl) ?_
  delta kB kO kI
  try dsimp only [cStr,cBs,cBool,cU8,cInt,cSl,l63]
  simp only [Zm,decide_eq_true_eq] at hpre
  obtain ⟨⟨⟨⟨⟨⟨h1,h2⟩,h3⟩,h4⟩,h5⟩,h6⟩,h7⟩:=hpre
  simp only [h1,h2,h3,h4,h5,h6,h7,decide_true,Yj,↓A0,A0]
  have hb := @Kerb.encTicket_inv ⟨li,⟨x,y,z⟩,ad,k,lf,iss,sv,ins⟩
  unfold Vx at hb ⊢
  dsimp only at hb ⊢
  generalize hE:Kerb.Ticket.err _=e at hb ⊢
  by_cases he:e=0
  case neg=>rw [sel_pos (by simpa using he),if_pos he]
  rw [if_neg (by simpa using he)] at hb
  obtain ⟨v1,v2,v3,_⟩:=hb rfl
  have l1:=Kerb.valid_len v1
  have l2:=(Kerb.name_ok v2).1
  have l3:=(Kerb.inst_ok v3).1
  dsimp only at l1
  rw [sel_neg (by simpa using he),if_neg (by simpa using he)]
  cases li
  ·rw [sel_false,chk_of (by first | (simp [Zq,Zj,Zu];done) | (simp [Zq,Zj,Zu];omega)),chk_of (by first | (simp [Zq,Zj,Zu];done) | (simp [Zq,Zj,Zu];omega)),chk_of (by first | (simp [Zq,Zj,Zu];done) | (simp [Zq,Zj,Zu];omega)),chk_of (by first | (simp [Zq,Zj,Zu];done) | (simp [Zq,Zj,Zu];omega)),chk_of (by first | (simp [Zq,Zj,Zu];done) | (simp [Zq,Zj,Zu];omega)),chk_of (by first | (simp [Zq,Zj,Zu];done) | (simp [Zq,Zj,Zu];omega)),chk_of (by first | (simp [Yh,Zq,Zj,Zu];done) | (simp [Yh,Zq,Zj,Zu];omega)),chk_of (by first | (simp [Yh,Zq,Zj,Zu];done) | (simp [Yh,Zq,Zj,Zu];omega))]
   simp
  ·rw [sel_true,chk_of (by first | (simp [Zq,Zj,Zu];done) | (simp [Zq,Zj,Zu];omega)),chk_of (by first | (simp [Zq,Zj,Zu];done) | (simp [Zq,Zj,Zu];omega)),chk_of (by first | (simp [Zq,Zj,Zu];done) | (simp [Zq,Zj,Zu];omega)),chk_of (by first | (simp [Zq,Zj,Zu];done) | (simp [Zq,Zj,Zu];omega)),chk_of (by first | (simp [Zq,Zj,Zu];done) | (simp [Zq,Zj,Zu];omega)),chk_of (by first | (simp [Zq,Zj,Zu];done) | (simp [Zq,Zj,Zu];omega)),chk_of (by first | (simp [Yh,Zq,Zj,Zu];done) | (simp [Yh,Zq,Zj,Zu];omega)),chk_of (by first | (simp [Yh,Zq,Zj,Zu];done) | (simp [Yh,Zq,Zj,Zu];omega))]
   simp
 ·cases h
theorem w66:Walked Tryz.prog G 66 10 sp66:=by
 refine ⟨Tryz.f66,Tryz.func66,by decide +kernel,rfl,fun xs bl r h=> ?_⟩
 unfold sp66 at h
 split at h
 ·rename_i b
  obtain ⟨hpre,h2⟩:=chk_inv h;cases h2
  refine Eq.trans (b:=(let t1:AV:=Yg [Zz .i64 0,Zy [],Zy [],Zy [],Zz .i64 0,Zy [],Zp [],Zy [],Zy [],Zp []];let t0:Option (AV×Blocks):=some (Zg [t1,Zz .i64 100],[]);sel (!Yp (Kerb.headIs b [9])==0) (some (Zg [t1,Zz .i64 (Yp (Kerb.headIs b [9]))],[])) (Zw (chk (decide (Zx b≤140737488355328)) (some (Zz .i64 (Xk (Xq b 1 2 false)),[[Zp b,Zz .i64 (Wy (Xq b 1 2 false)),Yz (Wx (Xq b 1 2 false))]]))) fun (r:AV×Blocks)=>onConsB (Yp r) fun (x:List AV) (r_1:List (List AV))=>cBs x fun b_1 r_2=>cInt .i64 r_2 fun n r_3=>cBool r_3 fun b_2 r_4=>onNil r_4 (onNilB r_1 (Up .i64 (Xz r) fun n_1=>sel (n_1==2) (Zw (chk (decide (Zx b_1≤140737488355328)) (some (Zz .i64 (Xk (Xq b_1 1 n b_2)),[[Zp b_1,Zz .i64 (Wy (Xq b_1 1 n b_2)),Yz (Wx (Xq b_1 1 n b_2))]]))) fun (r:AV×Blocks)=>onConsB (Yp r) fun (x:List AV) (r_5:List (List AV))=>cBs x fun b_3 r_6=>cInt .i64 r_6 fun n r_7=>cBool r_7 fun b_4 r_8=>onNil r_8 (onNilB r_5 (Up .i64 (Xz r) fun n_2=>Zw (chk (decide (Zx b_3≤140737488355328)) (some (Zy (Xk (Vh b_3 n b_4)),[[Zp b_3,Zz .i64 (Wy (Vh b_3 n b_4)),Yz (Wx (Vh b_3 n b_4))]]))) fun (r:AV×Blocks)=>onConsB (Yp r) fun (x:List AV) (r_9:List (List AV))=>cBs x fun b_5 r_10=>cInt .i64 r_10 fun n r_11=>cBool r_11 fun b_6 r_12=>onNil r_12 (onNilB r_9 (AV.onStr (Xz r) fun b_7=>Zw (chk (decide (Zx b_5≤140737488355328)) (some (Zz .i64 (Xk (Xq b_5 1 n b_6)),[[Zp b_5,Zz .i64 (Wy (Xq b_5 1 n b_6)),Yz (Wx (Xq b_5 1 n b_6))]]))) fun (r:AV×Blocks)=>onConsB (Yp r) fun (x:List AV) (r_13:List (List AV))=>cBs x fun b_8 r_14=>cInt .i64 r_14 fun n r_15=>cBool r_15 fun b_9 r_16=>onNil r_16 (onNilB r_13 (Up .i64 (Xz r) fun n_3=>Zw (chk (decide (Zx b_8≤140737488355328)) (some (Zp (Xk (Vu b_8 n_3 n b_9)),[[Zp b_8,Zz .i64 (Wy (Vu b_8 n_3 n b_9)),Yz (Wx (Vu b_8 n_3 n b_9))]]))) fun (r:AV×Blocks)=>onConsB (Yp r) fun (x:List AV) (r_17:List (List AV))=>cBs x fun b_10 r_18=>cInt .i64 r_18 fun n r_19=>cBool r_19 fun b_11 r_20=>onNil r_20 (onNilB r_17 (AV.onBs (Xz r) fun b_12=>Zw (chk (decide (Zx b_10≤140737488355328)) (some (Zy (Xk (Vh b_10 n b_11)),[[Zp b_10,Zz .i64 (Wy (Vh b_10 n b_11)),Yz (Wx (Vh b_10 n b_11))]]))) fun (r:AV×Blocks)=>onConsB (Yp r) fun (x:List AV) (r_21:List (List AV))=>cBs x fun b_13 r_22=>cInt .i64 r_22 fun n r_23=>cBool r_23 fun b_14 r_24=>onNil r_24 (onNilB r_21 (AV.onStr (Xz r) fun b_15=>Zw (chk (decide (Zx b_13≤140737488355328)) (some (Zy (Xk (Vh b_13 n b_14)),[[Zp b_13,Zz .i64 (Wy (Vh b_13 n b_14)),Yz (Wx (Vh b_13 n b_14))]]))) fun (r:AV×Blocks)=>onConsB (Yp r) fun (x:List AV) (r_25:List (List AV))=>cBs x fun b_16 r_26=>cInt .i64 r_26 fun n r_27=>cBool r_27 fun b_17 r_28=>onNil r_28 (onNilB r_25 (AV.onStr (Xz r) fun b_18=>Zw (chk (decide (Zx b_16≤140737488355328)) (some (Zz .i64 (Xk (Xq b_16 2 n b_17)),[[Zp b_16,Zz .i64 (Wy (Xq b_16 2 n b_17)),Yz (Wx (Xq b_16 2 n b_17))]]))) fun (r:AV×Blocks)=>onConsB (Yp r) fun (x:List AV) (r_29:List (List AV))=>cBs x fun b_19 r_30=>cInt .i64 r_30 fun n r_31=>cBool r_31 fun b_20 r_32=>onNil r_32 (onNilB r_29 (Up .i64 (Xz r) fun n_4=>Zw (chk (decide (Zx b_19≤140737488355328)) (some (Zp (Xk (Vu b_19 n_4 n b_20)),[[Zp b_19,Zz .i64 (Wy (Vu b_19 n_4 n b_20)),Yz (Wx (Vu b_19 n_4 n b_20))]]))) fun (r:AV×Blocks)=>onConsB (Yp r) fun (x:List AV) (r_33:List (List AV))=>cBs x fun b_21 r_34=>cInt .i64 r_34 fun n r_35=>cBool r_35 fun b_22 r_36=>onNil r_36 (onNilB r_33 (AV.onBs (Xz r) fun b_23=>sel b_22 t0 (Zw (chk (l63 b_7&&l63 b_15&&l63 b_18) (some (Zg [Zp (Xw (Yx (Xd n_1 (Zh [] [] []) n_2 b_7 b_12 b_15 b_18 b_23))),Zz .i64 (Yb (Yx (Xd n_1 (Zh [] [] []) n_2 b_7 b_12 b_15 b_18 b_23)))],[]))) (kT fun vs=>cBs vs fun b_24 r=>cInt .i64 r fun n r=>onNil r (sel (!n==0) t0 (sel (!b_24==b) t0 (some (Zg [Yg [Zz .i64 n_1,Zy [],Zy [],Zy [],Zz .i64 n_2,Zy b_7,Zp b_12,Zy b_15,Zy b_18,Zp b_23],Zz .i64 0],[]))))))))))))))))))))))) (Zw (chk (decide (Zx b_1≤140737488355328)) (some (Yg [Zy (Ww (Xk (Kerb.pPrin b_1 n b_2))),Zy (Wv (Xk (Kerb.pPrin b_1 n b_2))),Zy (Xn (Xk (Kerb.pPrin b_1 n b_2)))],[[Zp b_1,Zz .i64 (Wy (Kerb.pPrin b_1 n b_2)),Yz (Wx (Kerb.pPrin b_1 n b_2))]]))) fun (r:AV×Blocks)=>onConsB (Yp r) fun (x:List AV) (r_5:List (List AV))=>cBs x fun b_3 r_6=>cInt .i64 r_6 fun n r_7=>cBool r_7 fun b_4 r_8=>onNil r_8 (onNilB r_5 (Wq (Xz r) fun cs=>cStr cs fun b_5 r=>cStr r fun b_6 r=>cStr r fun b_7 r=>onNil r (Zw (chk (decide (Zx b_3≤140737488355328)) (some (Zz .i64 (Xk (Xq b_3 2 n b_4)),[[Zp b_3,Zz .i64 (Wy (Xq b_3 2 n b_4)),Yz (Wx (Xq b_3 2 n b_4))]]))) fun (r:AV×Blocks)=>onConsB (Yp r) fun (x:List AV) (r_9:List (List AV))=>cBs x fun b_8 r_10=>cInt .i64 r_10 fun n r_11=>cBool r_11 fun b_9 r_12=>onNil r_12 (onNilB r_9 (Up .i64 (Xz r) fun n_2=>Zw (chk (decide (Zx b_8≤140737488355328)) (some (Zp (Xk (Vu b_8 n_2 n b_9)),[[Zp b_8,Zz .i64 (Wy (Vu b_8 n_2 n b_9)),Yz (Wx (Vu b_8 n_2 n b_9))]]))) fun (r:AV×Blocks)=>onConsB (Yp r) fun (x:List AV) (r_13:List (List AV))=>cBs x fun b_10 r_14=>cInt .i64 r_14 fun n r_15=>cBool r_15 fun b_11 r_16=>onNil r_16 (onNilB r_13 (AV.onBs (Xz r) fun b_12=>sel b_11 t0 (Zw (chk (l63 b_5&&l63 b_6&&l63 b_7&&true&&true&&true) (some (Zg [Zp (Xw (Yx (Xd n_1 (Zh b_5 b_6 b_7) 0 [] [] [] [] b_12))),Zz .i64 (Yb (Yx (Xd n_1 (Zh b_5 b_6 b_7) 0 [] [] [] [] b_12)))],[]))) (kT fun vs=>cBs vs fun b_13 r=>cInt .i64 r fun n r=>onNil r (sel (!n==0) t0 (sel (!b_13==b) t0 (some (Zg [Yg [Zz .i64 n_1,Zy b_5,Zy b_6,Zy b_7,Zz .i64 0,Zy [],Zp [],Zy [],Zy [],Zp b_12],Zz .i64 0],[]))))))))))))))))):Option (AV×Blocks))) (by kernel_rfl) ?_
  delta kT
  try dsimp only [cStr,cBs,cBool,cU8,cInt,cSl,l63]
  have hb:=of_decide_eq_true hpre
  simp only [A0]
  by_cases h:(Kerb.headIs b [9]).2=0
  case neg =>
   rw [sel_pos (by simpa using h)]
   unfold Kerb.decodeKaRequest
   rw [if_pos h]
   rfl
  have hd:Kerb.decodeKaRequest b=Kerb.decBy Kerb.noKaReq Yx Um b:=by unfold Kerb.decodeKaRequest;rw [if_neg (by simpa using h)]
  rw [sel_neg (by simp [h]),hd]
  rw [chk_of hpre]
  by_cases h2:(Xq b 1 2 false).val=2
  ·have e2:((Xq b 1 2 false).val==2)=true:=by simpa using h2
   rw [sel_pos e2]
   rw [chk_of hpre,chk_of hpre,chk_of hpre,chk_of hpre,chk_of hpre,chk_of hpre,chk_of hpre,chk_of hpre]
   have lt:=Kerb.pText_len b
   rw [chk_of (by simp only [Zm,decide_eq_true_eq];exact ⟨⟨Vz (lt _ _) (by omega),Vz (lt _ _) (by omega)⟩,Vz (lt _ _) (by omega)⟩)]
   exact Kerb.decBy_fin (no:=Kerb.noKaReq) (enc:=Yx) (rd:=Um) _ _ (by unfold Um Kerb.pReq;dsimp only;rw [e2];rfl) (fun x e=>(Zg [Yg [Zz Zk (x).op,Zy (x).user.name,Zy (x).user.inst,Zy (x).user.realm,Zz Zk (x).kvno,Zy (x).realm,Zp (x).ticket,Zy (x).service,Zy (x).inst,Zp (x).box],Zz Zk e],([]:Blocks)))
  ·have e2:((Xq b 1 2 false).val==2)=false:=by simpa using h2
   rw [sel_neg e2]
   rw [chk_of hpre,chk_of hpre,chk_of hpre]
   have lt:=Kerb.pPrin_len b (Xq b 1 2 false).pos (Xq b 1 2 false).bad
   rw [chk_of (by simp;omega)]
   exact Kerb.decBy_fin (no:=Kerb.noKaReq) (enc:=Yx) (rd:=Um) _ _ (by unfold Um Kerb.pReq;dsimp only;rw [e2];rfl) (fun x e=>(Zg [Yg [Zz Zk (x).op,Zy (x).user.name,Zy (x).user.inst,Zy (x).user.realm,Zz Zk (x).kvno,Zy (x).realm,Zp (x).ticket,Zy (x).service,Zy (x).inst,Zp (x).box],Zz Zk e],([]:Blocks)))
 ·cases h
theorem w156:Walked Tryz.prog G 156 10 sp156:=by
 refine ⟨Tryz.f156,Tryz.func156,by decide +kernel,rfl,fun xs bl r h=> ?_⟩
 unfold sp156 at h
 split at h
 ·rename_i i op u1 u2 u3 kv qr tk sv ins bx rl els now ad sk se
  obtain ⟨hpre,h2⟩:=chk_inv h;cases h2
  show runFnH (G.env 156 10) G.rts (G.own 156) Tryz.f156 _ _ [0]=_
  refine Eq.trans (b:=(let t1:List (List AV):=[[Zz .i64 op,Zy u1,Zy u2,Zy u3,Zz .i64 kv,Zy qr,Zp tk,Zy sv,Zy ins,Zp bx,Zy rl,Xm 9 els,Zz .i64 now,Zz .i64 ad,Zz .i64 sk,Zz .u64 se]];let t3:List AV:=[Zz .i64 0,Zy [],Zy [],Zy [],Zy [],Zy [],Zy [],Zy [],Zy [],Zy [],Zz .u64 0,Zz .u64 0,Zz .u64 0,Zp [],Zz .i64 0,Zz .i64 0,Yz false];let t4:Bool:=l63 rl&&Un els Vf&&decide (Zx els≤1000000);let t0:Option (AV×Blocks):=some (Yg (Zy rl::Xm 9 els::Zp []::t3),t1);let t2:List AV:=Zp (Xw (Xx (Xb op 62 [])))::t3;chk (decide (0≤i)&&decide (i<(↑(Zx els):Int))&&true) (Wq (Vj els (Yn i) Uk) fun cs=>cStr cs fun b r=>cStr r fun b_1 r=>cInt .u64 r fun n r=>let t5:Bool:=t4&&l63 b&&l63 b_1&&Kerb.isU64 n;cInt .i64 r fun n_1 r=>cInt .i64 r fun n_2 r=>cInt .i64 r fun n_3 r=>cInt .i64 r fun n_4 r=>let t7:Kerb.Dec Kerb.Db:=Kerb.putEnt (Xf rl (Xj Xv els)) i (Wp b b_1 n n_1 n_2 n_3 n_4 0 (Kerb.imin (Zd .i64 (now+600)) 4294967295));let t6:Kerb.Db:=Yk t7;cInt .i64 r fun n_5 r=>cInt .i64 r fun n_6 r=>let t9:Kerb.Dec Kerb.Db:=Kerb.putEnt (Xf rl (Xj Xv els)) i (Wp b b_1 n n_1 n_2 n_3 n_4 (Zd .i64 (n_5+1)) n_6);let t8:Kerb.Db:=Yk t9;onNil r (sel (decide (Zd .i64 (n_5+1)≥20)) (Zw (chk t5 (some (Zg [Yg [Zy (Uj t6),Xm 9 (Xj Yu (Vb t6))],Zz .i64 (Ug t7)],[]))) (kT fun vs=>onCons vs fun x r=>Wq x fun cs=>cStr cs fun b r_1=>cSl 9 r_1 fun b_2 r_2=>onNil r_2 (cInt .i64 r fun n r=>onNil r (sel (!n==0) t0 (sel (!Yb (Xx (Xb op 62 []))==0) t0 (some (Yg (Zy b::Xm 9 b_2::t2),t1))))))) (Zw (chk t5 (some (Zg [Yg [Zy (Uj t8),Xm 9 (Xj Yu (Vb t8))],Zz .i64 (Ug t9)],[]))) (kT fun vs=>onCons vs fun x r=>Wq x fun cs=>cStr cs fun b r_1=>cSl 9 r_1 fun b_2 r_2=>onNil r_2 (cInt .i64 r fun n r=>onNil r (sel (!n==0) t0 (sel (!Yb (Xx (Xb op 62 []))==0) t0 (some (Yg (Zy b::Xm 9 b_2::t2),t1))))))))):Option (AV×Blocks))) (by kernel_rfl) ?_
  delta kT
  try dsimp only [cStr,cBs,cBool,cU8,cInt,cSl,l63]
  simp only [Zm,decide_eq_true_eq] at hpre
  obtain ⟨⟨⟨⟨⟨hpre,he⟩,h0⟩,h1⟩,hop⟩,hn⟩:=hpre
  obtain ⟨⟨⟨⟨⟨⟨⟨⟨⟨⟨⟨c1,c2⟩,c3⟩,c4⟩,c5⟩,c6⟩,c7⟩,c8⟩,c9⟩,c10⟩,hall⟩,hlen⟩:=hpre
  obtain ⟨es,rfl,hok⟩:=Uu hall
  rw [Wj] at *
  simp only [Xp] at hlen h1
  have i0:decide (0≤i)=true:=by simp;omega
  have i1:decide (i<(es.length:Int))=true:=by simp;omega
  simp only [hall,Xp,hlen,c7,i0,i1,decide_true,Yj,↓A0,A0]
  rw [Wf (by omega)]
  have hp:=Kerb.putEnt_failed (d:=⟨rl,es⟩) he h0 h1 hn
  have hx:=Kerb.entAt_err (d:=⟨rl,es⟩) he h0 h1
  have ho:=hok _ (Kerb.ent_mem (es:=es) (i:=i.toNat) (by omega))
  unfold Kerb.entAt at hp hx
  dsimp only at hp hx
  generalize es.getD i.toNat Uw=e at hp hx ho
  have x9:=Kerb.within_iff.1 (Kerb.Entry.err_inv hx).2.2.2.2.2.2.2.2
  have n9:=Kerb.within_iff.1 hn
  have hr:=Kerb.kaRefuse_ok (op:=op) (c:=62) hop (by decide) (by decide)
  obtain ⟨o1,o2,o3,_⟩:=ho
  simp only [Yu,o1,o2,o3,hr,decide_true,Yj,↓A0,A0]
  unfold Kerb.Entry.failed at hp
  rw [wrap_i64 (n:=e.fails+1) (by omega) (by omega)]
  by_cases hf:20≤e.fails+1
  ·rw [if_pos hf] at hp
   rw [sel_pos (by simpa using hf),wrap_i64 (by omega) (by omega),hp]
   rfl
  ·rw [if_neg hf] at hp
   rw [sel_neg (by simpa using hf),hp]
   rfl
 ·cases h
theorem w225:Walked Tryz.prog G 225 10 sp225:=by
 refine ⟨Tryz.f225,Tryz.func225,by decide +kernel,rfl,fun xs bl r h=> ?_⟩
 unfold sp225 at h
 split at h
 ·rename_i key al at_ ase ast aen akv a1 a2 a3 atk op u1 u2 u3 kv qr tk sv ins bx rl els now ad sk se
  obtain ⟨hpre,h2⟩:=chk_inv h;cases h2
  show runFnH (G.env 225 10) G.rts (G.own 225) Tryz.f225 _ _ [0]=_
  refine Eq.trans (b:=(let t0:List (List AV):=[[Zz .i64 op,Zy u1,Zy u2,Zy u3,Zz .i64 kv,Zy qr,Zp tk,Zy sv,Zy ins,Zp bx,Zy rl,Xm 9 els,Zz .i64 now,Zz .i64 ad,Zz .i64 sk,Zz .u64 se]];Zw (chk (l63 a1&&l63 a2&&l63 a3&&decide (0≤ase)&&decide (ase<18446744073709551616)) (some (Zg [Zp (Xw (Wg (Vm al at_ ase ast aen akv (Zh a1 a2 a3) atk))),Zz .i64 (Yb (Wg (Vm al at_ ase ast aen akv (Zh a1 a2 a3) atk)))],[]))) (kT fun vs=>cBs vs fun b r=>cInt .i64 r fun n r=>onNil r (sel (!n==0) (some (Zg [Zp [],Zz .i64 n],t0)) (Zw (chk (decide (0≤key)&&decide (key<18446744073709551616)) (some (Zg [Zp (Xw (Vd 8 key b)),Zz .i64 (Yb (Vd 8 key b))],[]))) (kT fun vs=>cBs vs fun b r=>cInt .i64 r fun n r=>onNil r (sel (!n==0) (some (Zg [Zp [],Zz .i64 n],t0)) (some (Zg [Zp (Xw (Xx (Xb op 0 b))),Zz .i64 (Yb (Xx (Xb op 0 b)))],t0))))))):Option (AV×Blocks))) (by kernel_rfl) ?_
  delta kT
  try dsimp only [cStr,cBs,cBool,cU8,cInt,cSl,l63]
  simp only [Zm,decide_eq_true_eq] at hpre
  simp only [Kerb.isU64_iff] at hpre
  obtain ⟨⟨⟨⟨⟨h1,h2⟩,h3⟩,h4⟩,h5,h6⟩,h7,h8⟩:=hpre
  simp only [h1,h2,h3,h4,h5,h6,h7,h8,decide_true,Yj,↓A0,A0]
  unfold Kerb.kaReplyDec
  try dsimp only
  generalize Wg _=E
  by_cases he:E.err=0
  case neg=>rw [sel_pos (by simpa using he),if_pos he]
  rw [sel_neg (by simpa using he),if_neg (by simpa using he)]
  generalize Vd _ _ _=F
  by_cases hf:F.err=0
  case neg=>rw [sel_pos (by simpa using hf),if_pos hf]
  rw [sel_neg (by simpa using hf),if_neg (by simpa using hf)]
 ·cases h
theorem w249:Walked Tryz.prog G 249 10 sp249:=by
 refine ⟨Tryz.f249,Tryz.func249,by decide +kernel,rfl,fun xs bl r h=> ?_⟩
 unfold sp249 at h
 split at h
 ·rename_i b
  obtain ⟨hpre,h2⟩:=chk_inv h;cases h2
  refine Eq.trans (b:=(let t1:AV:=Yg [Yz false,Zy [],Zy [],Zy [],Zz .i64 0,Zz .u64 0,Zz .i64 0,Zz .i64 0,Zy [],Zy []];let t0:Option (AV×Blocks):=some (Zg [t1,Zz .i64 100],[]);Zw (chk (decide (Zx b≤4611686018427387904)) (some (Zg [Zz .i64 (Kerb.Got.val (Vq b 0 1 false)),Zz .i64 (Kerb.Got.next (Vq b 0 1 false)),Zz .i64 (Kerb.Got.err (Vq b 0 1 false))],[]))) (kT fun vs=>cInt .i64 vs fun n r=>cInt .i64 r fun n_1 r=>cInt .i64 r fun n_2 r=>onNil r (sel (decide (n>1)) (some (Zg [t1,Zz .i64 7],[])) (Zw (chk (decide (Zx b≤4611686018427387904)) (some (Zg [Yg [Zy (Ww (Uq (Xg b n_1))),Zy (Wv (Uq (Xg b n_1))),Zy (Xn (Uq (Xg b n_1)))],Zz .i64 (Kerb.GotP.next (Xg b n_1)),Zz .i64 (Kerb.GotP.err (Xg b n_1))],[]))) (kT fun vs=>onCons vs fun x r=>Wq x fun cs=>cStr cs fun b_1 r_1=>cStr r_1 fun b_2 r_2=>cStr r_2 fun b_3 r_3=>onNil r_3 (cInt .i64 r fun n_3 r=>cInt .i64 r fun n_4 r=>onNil r (Zw (chk (decide (Zx b≤4611686018427387904)) (some (Zg [Zz .i64 (Kerb.Got.val (Vq b n_3 4 (n==1))),Zz .i64 (Kerb.Got.next (Vq b n_3 4 (n==1))),Zz .i64 (Kerb.Got.err (Vq b n_3 4 (n==1)))],[]))) (kT fun vs=>cInt .i64 vs fun n_5 r=>cInt .i64 r fun n_6 r=>cInt .i64 r fun n_7 r=>onNil r (Zw (chk (decide (Zx b≤140737488355328)) (some (Zg [Zp (Kerb.GotB.val (Kerb.bytes b n_6 8)),Zz .i64 (Kerb.GotB.next (Kerb.bytes b n_6 8)),Zz .i64 (Kerb.GotB.err (Kerb.bytes b n_6 8))],[]))) (kT fun vs=>cBs vs fun b_4 r=>cInt .i64 r fun n_8 r=>cInt .i64 r fun n_9 r=>onNil r (Zw (chk (decide (Zx b_4≤4611686018427387904)) (some (Zg [Zz .u64 (Xz (Kerb.keyRead b_4)),Yz (Yp (Kerb.keyRead b_4))],[]))) (kT fun vs=>cInt .u64 vs fun n_10 r=>cBool r fun b_5 r=>onNil r (Zw (chk (decide (Zx b≤4611686018427387904)) (some (Zg [Zz .i64 (Kerb.Got.val (Vq b n_8 1 false)),Zz .i64 (Kerb.Got.next (Vq b n_8 1 false)),Zz .i64 (Kerb.Got.err (Vq b n_8 1 false))],[]))) (kT fun vs=>cInt .i64 vs fun n_11 r=>cInt .i64 r fun n_12 r=>cInt .i64 r fun n_13 r=>onNil r (Zw (chk (decide (Zx b≤4611686018427387904)) (some (Zg [Zz .i64 (Kerb.Got.val (Vq b n_12 4 (n==1))),Zz .i64 (Kerb.Got.next (Vq b n_12 4 (n==1))),Zz .i64 (Kerb.Got.err (Vq b n_12 4 (n==1)))],[]))) (kT fun vs=>cInt .i64 vs fun n_14 r=>cInt .i64 r fun n_15 r=>cInt .i64 r fun n_16 r=>onNil r (Zw (chk (decide (Zx b≤4611686018427387904)) (some (Zg [Zy (Kerb.GotB.val (Wb b n_15)),Zz .i64 (Kerb.GotB.next (Wb b n_15)),Zz .i64 (Kerb.GotB.err (Wb b n_15))],[]))) (kT fun vs=>cStr vs fun b_6 r=>cInt .i64 r fun n_17 r=>cInt .i64 r fun n_18 r=>onNil r (Zw (chk (decide (Zx b≤4611686018427387904)) (some (Zg [Zy (Kerb.GotB.val (Wb b n_17)),Zz .i64 (Kerb.GotB.next (Wb b n_17)),Zz .i64 (Kerb.GotB.err (Wb b n_17))],[]))) (kT fun vs=>cStr vs fun b_7 r=>let t2:Kerb.Enc:=Vx (Vn (n==1) (Zh b_1 b_2 b_3) n_5 n_10 n_11 n_14 b_6 b_7);cInt .i64 r fun n_19 r=>cInt .i64 r fun n_20 r=>onNil r (Zw (chk (l63 b_1&&l63 b_2&&l63 b_3&&l63 b_6&&l63 b_7&&decide (0≤n_10)&&decide (n_10<18446744073709551616)) (some (Zg [Zp (Xw t2),Zz .i64 (Yb t2)],[]))) (kT fun vs=>cBs vs fun b_8 r=>cInt .i64 r fun n_21 r=>onNil r (sel (!n_21==0) t0 (sel (!b_8==b) t0 (some (Zg [Yg [Yz (n==1),Zy b_1,Zy b_2,Zy b_3,Zz .i64 n_5,Zz .u64 n_10,Zz .i64 n_11,Zz .i64 n_14,Zy b_6,Zy b_7],Zz .i64 0],[]))))))))))))))))))))))))):Option (AV×Blocks))) (by kernel_rfl) ?_
  delta kT
  try dsimp only [cStr,cBs,cBool,cU8,cInt,cSl,l63]
  have hb:=of_decide_eq_true hpre
  have hpre2:decide (b.length≤4611686018427387904)=true:=by simp;omega
  simp only [hpre,hpre2,↓A0,A0]
  unfold Xy
  by_cases h7:1<(Vq b 0 1 false).val
  ·rw [sel_pos (by simpa using h7),if_pos h7];try rfl
  rw [sel_neg (by simpa using h7),if_neg h7]
  have hl:∀ p n,(Kerb.bytes b p n).val.length≤4611686018427387904:=fun p n=>Vz (Kerb.bytes_len b p n) (by omega)
  have hk:∀ q,0≤(Kerb.keyRead q).1∧(Kerb.keyRead q).1<18446744073709551616:=Kerb.keyRead_bd
  have hx:∀ q,(Wb b q).val.length≤40:=Kerb.text_len b
  have lp:∀ q (_:Unit),(Xg b q).val.name.length≤40∧(Xg b q).val.inst.length≤40∧(Xg b q).val.realm.length≤40:=fun q _=>Kerb.prin_len b q
  rw [chk_of (by simp only [decide_eq_true_eq];exact hl _ _),chk_of (by simp only [Zm,decide_eq_true_eq];exact ⟨⟨⟨⟨⟨⟨Vz (lp _ ()).1 (by decide),Vz (lp _ ()).2.1 (by decide)⟩,Vz (lp _ ()).2.2 (by decide)⟩,Vz (hx _) (by decide)⟩,Vz (hx _) (by decide)⟩,(hk _).1⟩,(hk _).2⟩)]
  exact Kerb.decBy_fin (no:=Kerb.noTicket) (enc:=Vx) (rd:=fun b=>(Kerb.readTicket b,false)) _ false rfl (fun x e=>(Zg [Yg [Yz (x).little,Zy (x).client.name,Zy (x).client.inst,Zy (x).client.realm,Zz Zk (x).address,Zz Wn (x).session,Zz Zk (x).life,Zz Zk (x).issued,Zy (x).service,Zy (x).inst],Zz Zk e],([]:Blocks)))
 ·cases h
theorem w250:Walked Tryz.prog G 250 10 sp250:=by
 refine ⟨Tryz.f250,Tryz.func250,by decide +kernel,rfl,fun xs bl r h=> ?_⟩
 unfold sp250 at h
 split at h
 ·rename_i li x y z ad k lf iss sv ins key
  obtain ⟨hpre,h2⟩:=chk_inv h;cases h2
  refine Eq.trans (b:=(Zw (chk (decide (Zx x≤9223372036854775807)&&decide (Zx y≤9223372036854775807)&&decide (Zx z≤9223372036854775807)&&decide (Zx sv≤9223372036854775807)&&decide (Zx ins≤9223372036854775807)&&decide (0≤k)&&decide (k<18446744073709551616)) (some (Zg [Zp (Xw (Vx (Vn li (Zh x y z) ad k lf iss sv ins))),Zz .i64 (Yb (Vx (Vn li (Zh x y z) ad k lf iss sv ins)))],[]))) fun (r:AV×Blocks)=>onNilB (Yp r) (AV.onTup (Xz r) fun vs=>onCons vs fun x r=>AV.onBs x fun b=>onCons r fun x r=>Up .i64 x fun n=>onNil r (sel (!n==0) (some (Zg [Zp [],Zz .i64 n],[])) (Zw (chk (decide (0≤key)&&decide (key<18446744073709551616)) (some (Zg [Zp (Xw (Vd 1 key b)),Zz .i64 (Yb (Vd 1 key b))],[]))) fun (r:AV×Blocks)=>onNilB (Yp r) (AV.onTup (Xz r) fun vs=>onCons vs fun x r=>AV.onBs x fun b=>onCons r fun x r=>Up .i64 x fun n=>onNil r (some (Zg [Zp b,Zz .i64 n],[])))))):Option (AV×Blocks))) (by kernel_rfl) ?_
  simp only [Zm,decide_eq_true_eq] at hpre
  obtain ⟨⟨⟨⟨⟨⟨⟨⟨h1,h2⟩,h3⟩,h4⟩,h5⟩,h6⟩,h7⟩,h8⟩,h9⟩:=hpre
  simp only [h1,h2,h3,h4,h5,h6,h7,h8,h9,decide_true,Yj,↓A0,A0]
  unfold Kerb.sealTicket
  generalize Vx _=E
  by_cases he:E.err=0
  ·rw [sel_neg (by simpa using he),if_neg (by simpa using he)]
  ·rw [sel_pos (by simpa using he),if_pos he]
 ·cases h
theorem w160:Walked Tryz.prog G 160 11 sp160:=by
 refine ⟨Tryz.f160,Tryz.func160,by decide +kernel,rfl,fun xs bl r h=> ?_⟩
 unfold sp160 at h
 split at h
 ·rename_i dr dls i bd op u1 u2 u3 kv qr tk sv ins bx rl els now ad sk se
  obtain ⟨hpre,h2⟩:=chk_inv h;cases h2
  show runFnH (G.env 160 11) G.rts (G.own 160) Tryz.f160 _ _ [0]=_
  refine Eq.trans (b:=(let t1:List AV:=[Zz .i64 0,Zy [],Zy [],Zy [],Zy [],Zy [],Zy [],Zy [],Zy [],Zy [],Zz .u64 0,Zz .u64 0,Zz .u64 0,Zp [],Zz .i64 0,Zz .i64 0,Yz false];let t3:Kerb.Dec Kerb.KaSecret:=Kerb.kaSecretOf bd [(67:UInt8),(80:UInt8),(87:UInt8),(108:UInt8)] now sk;let t0:List AV:=Zp []::t1;let t2:Kerb.KaSecret:=Yk t3;Zw (chk (decide (Zx bd≤1000000)) (some (Zg [Yg [Zy (Kerb.KaSecret.label t2),Zz .i64 (Kerb.KaSecret.time t2),Zz .i64 (Kerb.KaSecret.start t2),Zz .i64 (Kerb.KaSecret.stop t2),Zz .u64 (Kerb.KaSecret.new t2)],Zz .i64 (Ug t3)],[[Zz .i64 op,Zy u1,Zy u2,Zy u3,Zz .i64 kv,Zy qr,Zp tk,Zy sv,Zy ins,Zp bx,Zy rl,Xm 9 els,Zz .i64 now,Zz .i64 ad,Zz .i64 sk,Zz .u64 se]]))) fun (r:AV×Blocks)=>onConsB (Yp r) fun (x:List AV) (r_1:List (List AV))=>cInt .i64 x fun n r_2=>cStr r_2 fun b r_3=>cStr r_3 fun b_1 r_4=>cStr r_4 fun b_2 r_5=>cInt .i64 r_5 fun n_1 r_6=>cStr r_6 fun b_3 r_7=>cBs r_7 fun b_4 r_8=>cStr r_8 fun b_5 r_9=>cStr r_9 fun b_6 r_10=>cBs r_10 fun b_7 r_11=>cStr r_11 fun b_8 r_12=>cSl 9 r_12 fun b_9 r_13=>let t4:AV:=Yg (Zy b_8::Xm 9 b_9::t0);cInt .i64 r_13 fun n_2 r_14=>cInt .i64 r_14 fun n_3 r_15=>cInt .i64 r_15 fun n_4 r_16=>cInt .u64 r_16 fun n_5 r_17=>let t5:List (List AV):=[[Zz .i64 n,Zy b,Zy b_1,Zy b_2,Zz .i64 n_1,Zy b_3,Zp b_4,Zy b_5,Zy b_6,Zp b_7,Zy b_8,Xm 9 b_9,Zz .i64 n_2,Zz .i64 n_3,Zz .i64 n_4,Zz .u64 n_5]];onNil r_17 (onNilB r_1 (AV.onTup (Xz r) fun vs=>onCons vs fun x r=>Wq x fun cs=>cStr cs fun b r_18=>cInt .i64 r_18 fun n_6 r_19=>cInt .i64 r_19 fun n_7 r_20=>cInt .i64 r_20 fun n_8 r_21=>cInt .u64 r_21 fun n_9 r_22=>onNil r_22 (cInt .i64 r fun n_10 r=>onNil r (sel (!n_10==0) (sel (!Yb (Xx (Xb n n_10 []))==0) (some (t4,t5)) (some (Yg (Zy b_8::Xm 9 b_9::Zp (Xw (Xx (Xb n n_10 [])))::t1),t5))) (Zw (chk (decide (0≤n_9)&&decide (n_9<18446744073709551616)) (some (Zz .i64 (Kerb.classOf n_9),[]))) (kI .i64 fun n_11=>sel (!n_11==1) (sel (!Yb (Xx (Xb n 10 []))==0) (some (t4,t5)) (some (Yg (Zy b_8::Xm 9 b_9::Zp (Xw (Xx (Xb n 10 [])))::t1),t5))) (chk (decide (0≤i)&&decide (i<(↑(Zx b_9):Int))&&true) (Wq (Vj b_9 (Yn i) Uk) fun cs=>cStr cs fun b r=>cStr r fun b r=>cInt .u64 r fun n_12 r=>cInt .i64 r fun n_13 r=>cInt .i64 r fun n_14 r=>cInt .i64 r fun n_15 r=>cInt .i64 r fun n_16 r=>cInt .i64 r fun n_17 r=>cInt .i64 r fun n_18 r=>onNil r (Zw (chk (l63 dr&&Un dls Vf&&decide (Zx dls≤1000000)&&decide (0≤n_9)&&decide (n_9<18446744073709551616)) (some (Zg [Yg [Zy (Uj (Yk (Kerb.rekey (Xf dr (Xj Xv dls)) i n_9))),Xm 9 (Xj Yu (Vb (Yk (Kerb.rekey (Xf dr (Xj Xv dls)) i n_9))))],Zz .i64 (Ug (Kerb.rekey (Xf dr (Xj Xv dls)) i n_9))],[]))) (kT fun vs=>onCons vs fun x r=>Wq x fun cs=>cStr cs fun b r_23=>cSl 9 r_23 fun b_10 r_24=>onNil r_24 (cInt .i64 r fun n_19 r=>onNil r (sel (!n_19==0) (some (t4,t5)) (Zw (chk (decide (0≤n_6)&&decide (n_6≤4294967295)) (some (Zz .i64 (Kerb.kaNext n_6),[]))) (kI .i64 fun n_20=>let t6:Kerb.Enc:=Kerb.kaReplyDec n (Vm [(67:UInt8),(80:UInt8),(87:UInt8),(100:UInt8)] n_20 0 0 0 0 (Zh [] [] []) []) n_12;Zw (chk (Kerb.isU64 n_12) (some (Zg [Zp (Xw t6),Zz .i64 (Yb t6)],t5))) fun (r:AV×Blocks)=>onConsB (Yp r) fun (x:List AV) (r_25:List (List AV))=>cInt .i64 x fun n r_26=>cStr r_26 fun b_11 r_27=>cStr r_27 fun b_12 r_28=>cStr r_28 fun b_13 r_29=>cInt .i64 r_29 fun n_21 r_30=>cStr r_30 fun b_14 r_31=>cBs r_31 fun b_15 r_32=>cStr r_32 fun b_16 r_33=>cStr r_33 fun b_17 r_34=>cBs r_34 fun b_18 r_35=>cStr r_35 fun b_19 r_36=>cSl 9 r_36 fun b_20 r_37=>cInt .i64 r_37 fun n_22 r_38=>cInt .i64 r_38 fun n_23 r_39=>cInt .i64 r_39 fun n_24 r_40=>cInt .u64 r_40 fun n_25 r_41=>let t7:List (List AV):=[[Zz .i64 n,Zy b_11,Zy b_12,Zy b_13,Zz .i64 n_21,Zy b_14,Zp b_15,Zy b_16,Zy b_17,Zp b_18,Zy b_19,Xm 9 b_20,Zz .i64 n_22,Zz .i64 n_23,Zz .i64 n_24,Zz .u64 n_25]];onNil r_41 (onNilB r_25 (AV.onTup (Xz r) fun vs=>cBs vs fun b_21 r=>cInt .i64 r fun n r=>onNil r (sel (!n==0) (some (Yg (Zy b_19::Xm 9 b_20::t0),t7)) (some (Yg (Zy b::Xm 9 b_10::Zp b_21::t1),t7))))))))))))))))))):Option (AV×Blocks))) (by kernel_rfl) ?_
  delta kT kI
  try dsimp only [cStr,cBs,cBool,cU8,cInt,cSl,l63]
  simp only [Zm,decide_eq_true_eq] at hpre
  obtain ⟨⟨⟨⟨⟨⟨⟨hpre,hd⟩,hdl⟩,hbl⟩,hop⟩,h0⟩,h1⟩,hdr⟩:=hpre
  obtain ⟨⟨⟨⟨⟨⟨⟨⟨⟨⟨⟨c1,c2⟩,c3⟩,c4⟩,c5⟩,c6⟩,c7⟩,c8⟩,c9⟩,c10⟩,hall⟩,hlen⟩:=hpre
  obtain ⟨es,rfl,hok⟩:=Uu hall
  obtain ⟨ds,rfl,hok2⟩:=Uu hd
  rw [Wj,Wj]
  simp only [Xp] at hlen hdl h1
  have hlb:[(67:UInt8),(80:UInt8),(87:UInt8),(108:UInt8)]=Kerb.lChange:=rfl
  have hlb2:[(67:UInt8),(80:UInt8),(87:UInt8),(100:UInt8)]=Kerb.lDone:=rfl
  have i0:decide (0≤i)=true:=by simp;omega
  have i1:decide (i<(es.length:Int))=true:=by simp;omega
  simp only [hlb,hlb2,Wj,hall,hd,Xp,hlen,hdl,hbl,hdr,i0,i1,c1,c2,c3,c4,c5,c6,c7,c8,decide_true,Yj,List.map_nil,↓A0,A0]
  unfold Kerb.kaChangePw
  dsimp only
  have sb:=Kerb.kaSecOf_bd bd Kerb.lChange now sk
  generalize Kerb.kaSecretOf bd Kerb.lChange now sk=S at sb ⊢
  by_cases h1:S.err=0
  case neg =>
   rw [sel_pos (by simpa using h1),if_pos h1]
   by_cases hr:(Xx ⟨op,S.err,[]⟩).err=0
   ·rw [sel_neg (by simpa using hr)];rfl
   ·rw [sel_pos (by simpa using hr),Kerb.kaRefuse_nil hr];rfl
  rw [sel_neg (by simpa using h1),if_neg (not_not_intro h1)]
  rw [chk_of (by simp;exact sb.2.2)]
  by_cases h2:Kerb.classOf S.val.new=1
  case neg =>
   rw [sel_pos (by simpa using h2),if_pos h2]
   by_cases hr:(Xx ⟨op,10,[]⟩).err=0
   ·rw [sel_neg (by simpa using hr)];rfl
   ·rw [sel_pos (by simpa using hr),Kerb.kaRefuse_nil hr];rfl
  rw [sel_neg (by simpa using h2),if_neg (not_not_intro h2)]
  rw [Wf (by omega)]
  have ho:=hok _ (Kerb.ent_mem (es:=es) (i:=i.toNat) (by omega))
  unfold Kerb.entAt Kerb.kaReplySeal
  dsimp only
  generalize es.getD i.toNat Uw=e at ho ⊢
  have t0:decide (0≤S.val.time)=true:=decide_eq_true sb.1.1
  have t1:decide (S.val.time≤4294967295)=true:=decide_eq_true sb.1.2
  have n0:decide (0≤S.val.new)=true:=decide_eq_true sb.2.2.1
  have n1:decide (S.val.new<18446744073709551616)=true:=decide_eq_true sb.2.2.2
  simp only [Yu,n0,n1,t0,t1,ho.2.2.1,Yj,↓A0,A0]
  rw [show Wh=⟨[],[],[]⟩ from rfl]
  generalize Kerb.rekey ⟨dr,ds⟩ i S.val.new=R
  generalize Kerb.kaReplyDec op _ e.key=B
  by_cases hr:R.err=0
  case neg=>rw [sel_pos (by simpa using hr),if_pos (.inr hr)];rfl
  by_cases hb:B.err=0
  case neg =>
   have hb2:(B.err==0)=false:=by simpa using hb
   rw [sel_neg (by simpa using hr),sel_pos (by simpa using hb),if_pos (.inl hb2)];rfl
  have hb3:¬ ((B.err==0)=false∨R.err≠0):=by simp [hb,hr]
  rw [sel_neg (by simpa using hr),sel_neg (by simpa using hb),if_neg hb3]
  rfl
 ·cases h
theorem w217:Walked Tryz.prog G 217 11 sp217:=by
 refine ⟨Tryz.f217,Tryz.func217,by decide +kernel,rfl,fun xs bl r h=> ?_⟩
 unfold sp217 at h
 split at h
 ·rename_i b k
  obtain ⟨hpre,h2⟩:=chk_inv h;cases h2
  refine Eq.trans (b:=(Zw (chk (decide (Zx b≤140737488355328)) (some (Zg [Zp (Xz (Kerb.openBox b 1 k)),Yz (Yp (Kerb.openBox b 1 k))],[]))) (kT fun vs=>cBs vs fun b r=>cBool r fun b_1 r=>onNil r (sel (!b_1) (some (Zg [Yg [Yz false,Zy [],Zy [],Zy [],Zz .i64 0,Zz .u64 0,Zz .i64 0,Zz .i64 0,Zy [],Zy []],Zz .i64 31],[])) (Zw (chk (decide (Zx b≤140737488355328)) (some (Zg [Yg [Yz (Kerb.Ticket.little (Yk (Xy b))),Zy (Ww (Kerb.Ticket.client (Yk (Xy b)))),Zy (Wv (Kerb.Ticket.client (Yk (Xy b)))),Zy (Xn (Kerb.Ticket.client (Yk (Xy b)))),Zz .i64 (Kerb.Ticket.address (Yk (Xy b))),Zz .u64 (Kerb.Ticket.session (Yk (Xy b))),Zz .i64 (Kerb.Ticket.life (Yk (Xy b))),Zz .i64 (Kerb.Ticket.issued (Yk (Xy b))),Zy (Kerb.Ticket.service (Yk (Xy b))),Zy (Kerb.Ticket.inst (Yk (Xy b)))],Zz .i64 (Ug (Xy b))],[]))) (kT fun vs=>onCons vs fun x r=>Wq x fun cs=>cBool cs fun b r_1=>cStr r_1 fun b_2 r_2=>cStr r_2 fun b_3 r_3=>cStr r_3 fun b_4 r_4=>cInt .i64 r_4 fun n r_5=>cInt .u64 r_5 fun n_1 r_6=>cInt .i64 r_6 fun n_2 r_7=>cInt .i64 r_7 fun n_3 r_8=>cStr r_8 fun b_5 r_9=>cStr r_9 fun b_6 r_10=>onNil r_10 (cInt .i64 r fun n_4 r=>onNil r (some (Zg [Yg [Yz b,Zy b_2,Zy b_3,Zy b_4,Zz .i64 n,Zz .u64 n_1,Zz .i64 n_2,Zz .i64 n_3,Zy b_5,Zy b_6],Zz .i64 n_4],[]))))))):Option (AV×Blocks))) (by kernel_rfl) ?_
  delta kT
  try dsimp only [cStr,cBs,cBool,cU8,cInt,cSl,l63]
  have hb:=of_decide_eq_true hpre
  have hl:=Kerb.openBox_len b 1 k
  simp only [hpre,↓A0,A0]
  unfold Kerb.openTicket
  cases h:(Kerb.openBox b 1 k).2
  ·rfl
  ·rw [sel_neg (by simp),chk_of (by simp;omega)]
   rfl
 ·cases h
end Go.Proofs.YtaikjfcgemjghaaGreat
