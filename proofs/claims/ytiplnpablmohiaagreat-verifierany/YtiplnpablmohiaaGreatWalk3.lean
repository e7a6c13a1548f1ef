/- What the functions of this seat compute. -/
import Derived.Test.YtiplnpablmohiaaGreatTab
import Derived.Test.YtiplnpablmohiaaGreatKerbPlain
import Derived.Test.YtiplnpablmohiaaGreatAbsStep
import Derived.Test.YtiplnpablmohiaaGreatKerbCli7
import Derived.Test.YtiplnpablmohiaaGreatKerbCli3
import Derived.Test.YtiplnpablmohiaaGreatKerbCli4
import Derived.Test.YtiplnpablmohiaaGreatKerbKac4
import Derived.Test.YtiplnpablmohiaaGreatKerbVerL
open Go.Abs.AV renaming int→Zz,str→Zy,bool→Zv,u8→Zj,bs→Zd,tup→Zg,agg→Yy,sl→Yp,onAgg→Xn,ownB→Wy,onBool→Qd
open List renaming length→Zx,length_map→Yj,append→Yh,map→Xj,all→Wq
open Option renaming bind→Zw
open Go.IntKind renaming i64→Zu,wrap→Zn,u16→Ww,u32→Qk
open Kerb.Dec renaming val→Zq,err→Wz
open Kerb renaming putPrin_len→Zk,putN_len→Zp,keyBytes_len→Zf,openTicket→Zb,decodeTicket→Zh,u8i→Yz,openAuth→Yw,within→Yq,decodeAuth→Yg,putN→Ym,openBox→Xv,get→Xk,prin→Xp,putText→Xf,decodeAp→Xb,openReq→Xh,text→Wv,map_toMark→Wu,toSKey→Wj,toMark→Wk,spoil→Wp,map_toSKey→Wd,readAp→Wn,marks_all→Wm,isMark→Wh,putText_len→Vw,wrap_u8i→Vk,verify_1→Vp,marks_of→Vd,u8i_bd→Ux,skFind→Uw,skeys_all→Uq,skeys_of→Uf,encodeAp→Ug,isSKey→Qz,user→Qu,text_len→Qh,marksErr→Jz
open Kerb.Prin renaming mk→Zm,valid→Yu,realm→Yf,name→Yb,inst→Yn
open Bool renaming and_eq_true→Yx,not_true→Yk,and_self→Xd
open Kerb.Ticket renaming client→Yv,session→Wf,service→Wg,address→Wb,little→Vz,issued→Vy,life→Uv,inst→Uu,mk→Ub
open Kerb.Auth renaming client→Yd,checksum→Vq,mk→Vb,time→Qy,tick→Qx
open Int renaming tmod→Xz,toNat→Xy,tmod_eq_emod_of_nonneg→Xu,tdiv→Ud,tdiv_eq_ediv_of_nonneg→Qp,toNat_natCast→Jw
open Kerb.Mark renaming av→Xx,err→Uj,mk→Um
open UInt8 renaming toNat→Xw,ofNat→Vn
open Prod renaming snd→Xq,fst→Wx
open Kerb.RCache renaming mk→Xg,err→Qg
open Kerb.ApRequest renaming mk→Xm,mutual_→Qv,ticket→Qq,little→Qj,realm→Qb,kvno→Jy,auth→Jx
open Kerb.SKey renaming err→Vx,av→Un
open Kerb.Got renaming next→Vv,val→Vm,err→Vh
open Sum renaming inr→Vu
open Kerb.Server renaming mk→Vj,err→Qf
open Kerb.GotAp renaming val→Vf
open Kerb.Case renaming mk→Vg
open Kerb.Enc renaming val→Uz,err→Uy
open Kerb.GotP renaming val→Uk
open Nat renaming le_trans→Up
open Kerb.Client renaming av→Uh
open Kerb.Cache renaming av→Qw
open Kerb.Cred renaming av→Qn
open Kerb.Accepted renaming client→Qm
namespace Go.Proofs.YtiplnpablmohiaaGreat
open Go Go.Abs Go.Proofs
set_option linter.unusedVariables false
set_option linter.unusedSimpArgs false
set_option maxRecDepth 100000
set_option maxHeartbeats 4000000 in
theorem w19:Walked Tryz.prog G 19 7 sp19:=by
 refine ⟨Tryz.f19,Tryz.func19,by decide +kernel,rfl,fun xs bl r h=> ?_⟩
 unfold sp19 at h
 split at h
 ·rename_i cu co cv cr lt tn mt cad cfr cis ctm ctk clf ccs cky ckv css ctt cau x y z k v
  obtain ⟨hpre,h2⟩:=chk_inv h;cases h2
  refine Eq.trans (b:=(let t0:Int:=Xz (Zn .i64 (↑(Xw cu):Int)) 6;let t1:Int:=Xz (Zn .i64 (↑(Xw css):Int)) 4;let t2:AV:=Zz .i64 (Zn .i64 (1000+Zn .i64 (Zn .i64 (↑(Xw cis):Int)*8)));Zw (chk (decide (0≤t0)&&decide (t0≤4611686018427387904)) (some (Yy [Zy (Yb (Qu t0)),Zy (Yn (Qu t0)),Zy (Yf (Qu t0))],[]))) (kA fun cs=>onCons cs fun x_1 r=>AV.onStr x_1 fun b=>onCons r fun x_2 r=>AV.onStr x_2 fun b_1=>onCons r fun x_3 r=>AV.onStr x_3 fun b_2=>onNil r (Zw (chk (decide (0≤t1)&&decide (t1≤1000)) (some (Zz .u64 (Kerb.session t1),[]))) (kI .u64 fun n=>Zw (sel (Vn (Xy (Xz (↑(Xw cv):Int) (↑(Xw (7:UInt8)):Int)))==(6:UInt8)) (some [Zz .u64 k,Zz .i64 v,Zj cu,Zj co,Zj cv,Zj cr,Zv lt,Zv tn,Zv mt,Zj cad,Zj cfr,Zj cis,Zj ctm,Zj ctk,Zj clf,Zz .u32 ccs,Zj cky,Zj ckv,Zj css,Zz .u16 ctt,Zz .u16 cau,Zy x,Zy y,Zy z,Zv false,Zv false,Zz .i64 0,Zy [],Zd [],Zd [],Zv tn,Zy b,Zy b_1,Zy b_2,Zz .i64 (Xz (Zn .i64 (↑(Xw cad):Int)) 3),Zz .u64 n,Zz .i64 (Zn .i64 (Ud (Zn .i64 (↑(Xw clf):Int)) 4)),t2,Zy x,Zy [(111:UInt8),(116:UInt8),(104:UInt8),(101:UInt8),(114:UInt8)]]) (some [Zz .u64 k,Zz .i64 v,Zj cu,Zj co,Zj cv,Zj cr,Zv lt,Zv tn,Zv mt,Zj cad,Zj cfr,Zj cis,Zj ctm,Zj ctk,Zj clf,Zz .u32 ccs,Zj cky,Zj ckv,Zj css,Zz .u16 ctt,Zz .u16 cau,Zy x,Zy y,Zy z,Zv false,Zv false,Zz .i64 0,Zy [],Zd [],Zd [],Zv tn,Zy b,Zy b_1,Zy b_2,Zz .i64 (Xz (Zn .i64 (↑(Xw cad):Int)) 3),Zz .u64 n,Zz .i64 (Zn .i64 (Ud (Zn .i64 (↑(Xw clf):Int)) 4)),t2,Zy x,Zy y])) fun l=>cInt .u64 l fun n r=>cInt .i64 r fun n_1 r=>cU8 r fun b r=>cU8 r fun b_3 r=>let t3:Int:=Xz (Zn .i64 (↑(Xw b_3):Int)) 6;cU8 r fun b_4 r=>cU8 r fun b_5 r=>cBool r fun b_6 r=>cBool r fun b_7 r=>cBool r fun b_8 r=>cU8 r fun b_9 r=>cU8 r fun b_10 r=>cU8 r fun b_11 r=>cU8 r fun b_12 r=>let t4:List AV:=[Zz .i64 (Zn .i64 (1000+Zn .i64 (Zn .i64 (↑(Xw b_12):Int)*8)))];cU8 r fun b_13 r=>cU8 r fun b_14 r=>cInt .u32 r fun n_2 r=>let t5:List AV:=Zz .i64 (Zn .i64 n_2)::Zz .i64 (Xz (Zn .i64 (↑(Xw b_13):Int)) 3)::t4;cU8 r fun b_15 r=>cU8 r fun b_16 r=>cU8 r fun b_17 r=>cInt .u16 r fun n_3 r=>cInt .u16 r fun n_4 r=>cStr r fun b_18 r=>cStr r fun b_19 r=>cStr r fun b_20 r=>cBool r fun b_21 r=>cBool r fun b_22 r=>cInt .i64 r fun n_5 r=>cStr r fun b_23 r=>cBs r fun b_24 r=>cBs r fun b_25 r=>cBool r fun b_26 r=>cStr r fun b_27 r=>cStr r fun b_28 r=>cStr r fun b_29 r=>cInt .i64 r fun n_6 r=>cInt .u64 r fun n_7 r=>cInt .i64 r fun n_8 r=>cInt .i64 r fun n_9 r=>cStr r fun b_30 r=>cStr r fun b_31 r=>onNil r (Zw (sel (Vn (Xy (Xz (↑(Xw b_3):Int) (↑(Xw (8:UInt8)):Int)))==(7:UInt8)) (Zw (chk (decide (0≤t3)&&decide (t3≤4611686018427387904)) (some (Yy [Zy (Yb (Qu t3)),Zy (Yn (Qu t3)),Zy (Yf (Qu t3))],[]))) (kA fun cs=>cStr cs fun b_32 r=>cStr r fun b_33 r=>cStr r fun b_34 r=>onNil r (some (Zz .u64 n::Zz .i64 n_1::Zj b::Zj b_3::Zj b_4::Zj b_5::Zv b_6::Zv b_7::Zv b_8::Zj b_9::Zj b_10::Zj b_11::Zj b_12::Zj b_13::Zj b_14::Zz .u32 n_2::Zj b_15::Zj b_16::Zj b_17::Zz .u16 n_3::Zz .u16 n_4::Zy b_18::Zy b_19::Zy b_20::Zv b_21::Zv b_22::Zz .i64 n_5::Zy b_23::Zd b_24::Zd b_25::Zv b_26::Zy b_27::Zy b_28::Zy b_29::Zz .i64 n_6::Zz .u64 n_7::Zz .i64 n_8::Zz .i64 n_9::Zy b_30::Zy b_31::Zy b_32::Zy b_33::Zy b_34::t5)))) (some (Zz .u64 n::Zz .i64 n_1::Zj b::Zj b_3::Zj b_4::Zj b_5::Zv b_6::Zv b_7::Zv b_8::Zj b_9::Zj b_10::Zj b_11::Zj b_12::Zj b_13::Zj b_14::Zz .u32 n_2::Zj b_15::Zj b_16::Zj b_17::Zz .u16 n_3::Zz .u16 n_4::Zy b_18::Zy b_19::Zy b_20::Zv b_21::Zv b_22::Zz .i64 n_5::Zy b_23::Zd b_24::Zd b_25::Zv b_26::Zy b_27::Zy b_28::Zy b_29::Zz .i64 n_6::Zz .u64 n_7::Zz .i64 n_8::Zz .i64 n_9::Zy b_30::Zy b_31::Zy b_27::Zy b_28::Zy b_29::t5))) fun l=>cInt .u64 l fun n r=>cInt .i64 r fun n_10 r=>cU8 r fun b r=>cU8 r fun b_32 r=>cU8 r fun b_33 r=>cU8 r fun b_34 r=>cBool r fun b_35 r=>cBool r fun b_36 r=>cBool r fun b_37 r=>cU8 r fun b_38 r=>cU8 r fun b_39 r=>cU8 r fun b_40 r=>cU8 r fun b_41 r=>cU8 r fun b_42 r=>cU8 r fun b_43 r=>cInt .u32 r fun n_11 r=>cU8 r fun b_44 r=>cU8 r fun b_45 r=>cU8 r fun b_46 r=>cInt .u16 r fun n_12 r=>cInt .u16 r fun n_13 r=>cStr r fun b_47 r=>cStr r fun b_48 r=>cStr r fun b_49 r=>cBool r fun b_50 r=>cBool r fun b_51 r=>cInt .i64 r fun n_14 r=>cStr r fun b_52 r=>cBs r fun b_53 r=>cBs r fun b_54 r=>cBool r fun b_55 r=>cStr r fun b_56 r=>cStr r fun b_57 r=>cStr r fun b_58 r=>cInt .i64 r fun n_15 r=>cInt .u64 r fun n_16 r=>cInt .i64 r fun n_17 r=>cInt .i64 r fun n_18 r=>cStr r fun b_59 r=>cStr r fun b_60 r=>cStr r fun b_61 r=>cStr r fun b_62 r=>cStr r fun b_63 r=>cInt .i64 r fun n_19 r=>cInt .i64 r fun n_20 r=>cInt .i64 r fun n_21 r=>onNil r (Zw (chk (l63 b_56&&l63 b_57&&l63 b_58&&l63 b_59&&l63 b_60&&decide (0≤n_16)&&decide (n_16<18446744073709551616)&&decide (0≤n)&&decide (n<18446744073709551616)) (some (Zg [Zd (Uz (Kerb.sealTicket (Ub b_55 (Zm b_56 b_57 b_58) n_15 n_16 n_17 n_18 b_59 b_60) n)),Zz .i64 (Uy (Kerb.sealTicket (Ub b_55 (Zm b_56 b_57 b_58) n_15 n_16 n_17 n_18 b_59 b_60) n))],[]))) (kT fun vs=>cBs vs fun b_64 r=>cInt .i64 r fun n r=>onNil r (Zw (chk (l63 b_61&&l63 b_62&&l63 b_63&&decide (0≤n_16)&&decide (n_16<18446744073709551616)) (some (Zg [Zd (Uz (Kerb.sealAuth (Vb (Zm b_61 b_62 b_63) n_19 n_20 n_21) b_35 n_16)),Zz .i64 (Uy (Kerb.sealAuth (Vb (Zm b_61 b_62 b_63) n_19 n_20 n_21) b_35 n_16))],[]))) (kT fun vs=>cBs vs fun b_65 r=>cInt .i64 r fun n r=>onNil r (Zw (sel (Xz n_12 16==15) (Zw (chk (decide (Zx b_64≤1000000)&&decide (0≤Zn .u16 (Ud n_12 16))&&decide (Zn .u16 (Ud n_12 16)≤65535)) (some (Zd (Wp b_64 (Zn .u16 (Ud n_12 16))),[]))) (kB fun b_66=>some [Zj b,Zj b_32,Zj b_33,Zj b_34,Zv b_35,Zv b_36,Zv b_37,Zj b_38,Zj b_39,Zj b_40,Zj b_41,Zj b_42,Zj b_43,Zz .u32 n_11,Zj b_44,Zj b_45,Zj b_46,Zz .u16 n_12,Zz .u16 n_13,Zv b_50,Zv b_51,Zz .i64 n_14,Zy b_52,Zd b_53,Zd b_54,Zd b_65,Zv b_35,Zv b_37,Zz .i64 n_10,Zy b_49,Zd b_66,Zd b_65])) (some [Zj b,Zj b_32,Zj b_33,Zj b_34,Zv b_35,Zv b_36,Zv b_37,Zj b_38,Zj b_39,Zj b_40,Zj b_41,Zj b_42,Zj b_43,Zz .u32 n_11,Zj b_44,Zj b_45,Zj b_46,Zz .u16 n_12,Zz .u16 n_13,Zv b_50,Zv b_51,Zz .i64 n_14,Zy b_52,Zd b_53,Zd b_54,Zd b_65,Zv b_35,Zv b_37,Zz .i64 n_10,Zy b_49,Zd b_64,Zd b_65])) fun l=>cU8 l fun b r=>cU8 r fun b_66 r=>cU8 r fun b_67 r=>cU8 r fun b_68 r=>cBool r fun b_69 r=>cBool r fun b_70 r=>cBool r fun b_71 r=>cU8 r fun b_72 r=>cU8 r fun b_73 r=>cU8 r fun b_74 r=>cU8 r fun b_75 r=>cU8 r fun b_76 r=>cU8 r fun b_77 r=>cInt .u32 r fun n r=>cU8 r fun b_78 r=>cU8 r fun b_79 r=>cU8 r fun b_80 r=>cInt .u16 r fun n_22 r=>cInt .u16 r fun n_23 r=>cBool r fun b_81 r=>cBool r fun b_82 r=>cInt .i64 r fun n_24 r=>cStr r fun b_83 r=>cBs r fun b_84 r=>cBs r fun b_85 r=>cBs r fun b_86 r=>cBool r fun b_87 r=>cBool r fun b_88 r=>cInt .i64 r fun n_25 r=>cStr r fun b_89 r=>cBs r fun b_90 r=>cBs r fun b_91 r=>onNil r (Zw (sel (Xz n_23 16==15) (Zw (chk (decide (Zx b_86≤1000000)&&decide (0≤Zn .u16 (Ud n_23 16))&&decide (Zn .u16 (Ud n_23 16)≤65535)) (some (Zd (Wp b_86 (Zn .u16 (Ud n_23 16))),[]))) (kB fun b_92=>some [Zj b,Zj b_66,Zj b_67,Zj b_68,Zv b_69,Zv b_70,Zv b_71,Zj b_72,Zj b_73,Zj b_74,Zj b_75,Zj b_76,Zj b_77,Zz .u32 n,Zj b_78,Zj b_79,Zj b_80,Zz .u16 n_22,Zz .u16 n_23,Zv b_81,Zv b_82,Zz .i64 n_24,Zy b_83,Zd b_84,Zd b_85,Zv b_87,Zv b_88,Zz .i64 n_25,Zy b_89,Zd b_90,Zd b_92])) (some [Zj b,Zj b_66,Zj b_67,Zj b_68,Zv b_69,Zv b_70,Zv b_71,Zj b_72,Zj b_73,Zj b_74,Zj b_75,Zj b_76,Zj b_77,Zz .u32 n,Zj b_78,Zj b_79,Zj b_80,Zz .u16 n_22,Zz .u16 n_23,Zv b_81,Zv b_82,Zz .i64 n_24,Zy b_83,Zd b_84,Zd b_85,Zv b_87,Zv b_88,Zz .i64 n_25,Zy b_89,Zd b_90,Zd b_91])) fun l=>cU8 l fun b r=>cU8 r fun b_92 r=>cU8 r fun b_93 r=>cU8 r fun b_94 r=>cBool r fun b_95 r=>cBool r fun b_96 r=>cBool r fun b_97 r=>cU8 r fun b_98 r=>cU8 r fun b_99 r=>cU8 r fun b_100 r=>cU8 r fun b_101 r=>cU8 r fun b_102 r=>cU8 r fun b_103 r=>cInt .u32 r fun n r=>cU8 r fun b_104 r=>cU8 r fun b_105 r=>cU8 r fun b_106 r=>cInt .u16 r fun n_26 r=>cInt .u16 r fun n_27 r=>cBool r fun b_107 r=>cBool r fun b_108 r=>cInt .i64 r fun n_28 r=>cStr r fun b_109 r=>cBs r fun b_110 r=>cBs r fun b_111 r=>cBool r fun b_112 r=>cBool r fun b_113 r=>cInt .i64 r fun n_29 r=>cStr r fun b_114 r=>cBs r fun b_115 r=>cBs r fun b_116 r=>let t6:List AV:=[Zv b_113,Zz .i64 n_29,Zy b_114,Zd b_115,Zd b_116];onNil r (Zw (sel (Xz n_27 16==14) (some (Zj b::Zj b_92::Zj b_93::Zj b_94::Zv b_95::Zv b_96::Zv b_97::Zj b_98::Zj b_99::Zj b_100::Zj b_101::Zj b_102::Zj b_103::Zz .u32 n::Zj b_104::Zj b_105::Zj b_106::Zz .u16 n_26::Zz .u16 n_27::Zv b_107::Zv b_108::Zz .i64 n_28::Zy b_109::Zd b_110::Zd b_111::(Zv !b_112)::t6)) (some (Zj b::Zj b_92::Zj b_93::Zj b_94::Zv b_95::Zv b_96::Zv b_97::Zj b_98::Zj b_99::Zj b_100::Zj b_101::Zj b_102::Zj b_103::Zz .u32 n::Zj b_104::Zj b_105::Zj b_106::Zz .u16 n_26::Zz .u16 n_27::Zv b_107::Zv b_108::Zz .i64 n_28::Zy b_109::Zd b_110::Zd b_111::Zv b_112::t6))) fun l=>cU8 l fun b r=>cU8 r fun b_117 r=>cU8 r fun b_118 r=>cU8 r fun b_119 r=>cBool r fun b_120 r=>cBool r fun b_121 r=>cBool r fun b_122 r=>cU8 r fun b_123 r=>cU8 r fun b_124 r=>cU8 r fun b_125 r=>cU8 r fun b_126 r=>cU8 r fun b_127 r=>cU8 r fun b_128 r=>cInt .u32 r fun n r=>cU8 r fun b_129 r=>cU8 r fun b_130 r=>cU8 r fun b_131 r=>cInt .u16 r fun n_30 r=>cInt .u16 r fun n_31 r=>cBool r fun b_132 r=>cBool r fun b_133 r=>cInt .i64 r fun n_32 r=>cStr r fun b_134 r=>cBs r fun b_135 r=>cBs r fun b_136 r=>cBool r fun b_137 r=>cBool r fun b_138 r=>cInt .i64 r fun n_33 r=>cStr r fun b_139 r=>cBs r fun b_140 r=>cBs r fun b_141 r=>onNil r (Zw (sel (Vn (Xy (Xz (↑(Xw b_130):Int) (↑(Xw (16:UInt8)):Int)))==(15:UInt8)) (some [Zj b,Zj b_117,Zj b_118,Zj b_119,Zv b_120,Zv b_121,Zv b_122,Zj b_123,Zj b_124,Zj b_125,Zj b_126,Zj b_127,Zj b_128,Zz .u32 n,Zj b_129,Zj b_130,Zj b_131,Zz .u16 n_30,Zz .u16 n_31,Zv b_132,Zv b_133,Zz .i64 n_32,Zy b_134,Zd b_135,Zd b_136,Zv b_137,Zv b_138,Zz .i64 (Zn .i64 (n_33+1)),Zy b_139,Zd b_140,Zd b_141]) (some [Zj b,Zj b_117,Zj b_118,Zj b_119,Zv b_120,Zv b_121,Zv b_122,Zj b_123,Zj b_124,Zj b_125,Zj b_126,Zj b_127,Zj b_128,Zz .u32 n,Zj b_129,Zj b_130,Zj b_131,Zz .u16 n_30,Zz .u16 n_31,Zv b_132,Zv b_133,Zz .i64 n_32,Zy b_134,Zd b_135,Zd b_136,Zv b_137,Zv b_138,Zz .i64 n_33,Zy b_139,Zd b_140,Zd b_141])) fun l=>cU8 l fun b r=>cU8 r fun b r=>cU8 r fun b r=>cU8 r fun b r=>cBool r fun b_142 r=>cBool r fun b_143 r=>cBool r fun b_144 r=>cU8 r fun b_145 r=>cU8 r fun b_146 r=>cU8 r fun b_147 r=>cU8 r fun b_148 r=>cU8 r fun b_149 r=>cU8 r fun b_150 r=>cInt .u32 r fun n r=>cU8 r fun b_151 r=>cU8 r fun b_152 r=>cU8 r fun b_153 r=>cInt .u16 r fun n r=>cInt .u16 r fun n r=>cBool r fun b_154 r=>cBool r fun b_155 r=>cInt .i64 r fun n r=>cStr r fun b_156 r=>cBs r fun b_157 r=>cBs r fun b_158 r=>cBool r fun b_159 r=>cBool r fun b_160 r=>cInt .i64 r fun n_34 r=>cStr r fun b_161 r=>cBs r fun b_162 r=>cBs r fun b_163 r=>onNil r (Zw (sel (Vn (Xy (Xz (↑(Xw b):Int) (↑(Xw (16:UInt8)):Int)))==(15:UInt8)) (some [Zv b_154,Zv b_155,Zz .i64 n,Zy b_156,Zd b_157,Zd b_158,Zv b_159,Zv b_160,Zz .i64 n_34,Zy [(67:UInt8),(65:UInt8),(77:UInt8)],Zd b_162,Zd b_163]) (some [Zv b_154,Zv b_155,Zz .i64 n,Zy b_156,Zd b_157,Zd b_158,Zv b_159,Zv b_160,Zz .i64 n_34,Zy b_161,Zd b_162,Zd b_163])) fun l=>cBool l fun b r=>cBool r fun b r=>cInt .i64 r fun n r=>cStr r fun b r=>cBs r fun b r=>cBs r fun b r=>cBool r fun b r=>cBool r fun b_164 r=>cInt .i64 r fun n r=>cStr r fun b_165 r=>cBs r fun b_166 r=>cBs r fun b_167 r=>onNil r (some (Yy [Zv b,Zv b_164,Zz .i64 n,Zy b_165,Zd b_166,Zd b_167],[]))))))))))))))):Option (AV×Blocks))) (by kernel_rfl) ?_
  delta kT kA kB kI
  try dsimp only [cStr,cBs,cBool,cU8,cInt,cSl,l63]
  simp only [Yx,decide_eq_true_eq] at hpre
  obtain ⟨⟨⟨⟨⟨⟨⟨⟨⟨⟨⟨l1,l2⟩,l3⟩,hk⟩,v0⟩,v1⟩,c0⟩,c1⟩,t0⟩,t1⟩,a0⟩,a1⟩:=hpre
  have hk:=Kerb.isU64_iff.1 hk
  have bcu:=Ux cu
  have bco:=Ux co
  have bcs:=Ux css
  have bca:=Ux cad
  have bci:=Ux cis
  have bct:=Ux ctm
  have bck:=Ux ctk
  have bcl:=Ux clf
  have f1:Xz (Yz cu) 6=Yz cu % 6:=Xu bcu.1
  have f2:Xz (Yz co) 6=Yz co % 6:=Xu bco.1
  have f3:Xz (Yz css) 4=Yz css % 4:=Xu bcs.1
  have f4:Xz (Yz cad) 3=Yz cad % 3:=Xu bca.1
  have f5:Zn .i64 (1000+Zn .i64 (Yz cis*8))=1000+Yz cis*8:=by rw [wrap_i64 (n:=Yz cis*8) (by omega) (by omega)];exact wrap_i64 (by omega) (by omega)
  have f6:Zn .i64 (1000+Zn .i64 (Yz ctm*8))=1000+Yz ctm*8:=by rw [wrap_i64 (n:=Yz ctm*8) (by omega) (by omega)];exact wrap_i64 (by omega) (by omega)
  have f7:Xz (Yz ctk) 3=Yz ctk % 3:=Xu bck.1
  have f8:Zn .i64 (Ud (Yz clf) 4)=Yz clf / 4:=by rw [Qp bcl.1];exact wrap_i64 (by omega) (by omega)
  have f9:Zn .i64 ccs=ccs:=wrap_i64 (by omega) (by omega)
  have fa:Zn .i64 (v+1)=v+1:=wrap_i64 (by omega) (by omega)
  have fb:Xz ctt 16=ctt % 16:=Xu (by omega)
  have fc:Xz cau 16=cau % 16:=Xu (by omega)
  have fd:Zn .u16 (Ud ctt 16)=ctt / 16:=by rw [Qp (by omega)];rw [Kerb.wrap_u16];omega
  have fe:Zn .u16 (Ud cau 16)=cau / 16:=by rw [Qp (by omega)];rw [Kerb.wrap_u16];omega
  have g1:(decide ((0:Int)≤Yz cu % 6)&&decide (Yz cu % 6≤4611686018427387904))=true:=by simp;omega
  have g2:(decide ((0:Int)≤Yz co % 6)&&decide (Yz co % 6≤4611686018427387904))=true:=by simp;omega
  have g3:(decide ((0:Int)≤Yz css % 4)&&decide (Yz css % 4≤1000))=true:=by simp;omega
  have g4:(decide ((0:Int)≤ctt / 16)&&decide (ctt / 16≤65535))=true:=by simp;omega
  have g5:(decide ((0:Int)≤cau / 16)&&decide (cau / 16≤65535))=true:=by simp;omega
  have u1:(Vn (Xy (Xz (cv.toNat:Int) ((7:UInt8).toNat:Int)))==(6:UInt8))=decide (cv.toNat % 7=6):=by
   have h7:Xy (Xz (cv.toNat:Int) ((7:UInt8).toNat:Int))=cv.toNat % 7:=Kerb.tmod_u8 cv 7 (by omega)
   rw [h7];exact Kerb.u8_beq (k:=6) (by omega) (by decide)
  have u2:(Vn (Xy (Xz (co.toNat:Int) ((8:UInt8).toNat:Int)))==(7:UInt8))=decide (co.toNat % 8=7):=by
   have h7:Xy (Xz (co.toNat:Int) ((8:UInt8).toNat:Int))=co.toNat % 8:=Kerb.tmod_u8 co 8 (by omega)
   rw [h7];exact Kerb.u8_beq (k:=7) (by omega) (by decide)
  have u3:(Vn (Xy (Xz (ckv.toNat:Int) ((16:UInt8).toNat:Int)))==(15:UInt8))=decide (ckv.toNat % 16=15):=by
   have h7:Xy (Xz (ckv.toNat:Int) ((16:UInt8).toNat:Int))=ckv.toNat % 16:=Kerb.tmod_u8 ckv 16 (by omega)
   rw [h7];exact Kerb.u8_beq (k:=15) (by omega) (by decide)
  have u4:(Vn (Xy (Xz (cr.toNat:Int) ((16:UInt8).toNat:Int)))==(15:UInt8))=decide (cr.toNat % 16=15):=by
   have h7:Xy (Xz (cr.toNat:Int) ((16:UInt8).toNat:Int))=cr.toNat % 16:=Kerb.tmod_u8 cr 16 (by omega)
   rw [h7];exact Kerb.u8_beq (k:=15) (by omega) (by decide)
  obtain ⟨W,hW⟩:∃ x,Qu (Yz cu % 6)=x:=⟨_,rfl⟩
  obtain ⟨E,hE⟩:∃ x,Kerb.session (Yz css % 4)=x:=⟨_,rfl⟩
  obtain ⟨IN,hIN⟩:∃ q,(if cv.toNat % 7=6 then ([111,116,104,101,114]:List UInt8) else y)=q:=⟨_,rfl⟩
  obtain ⟨V,hV⟩:∃ q,(if co.toNat % 8=7 then Qu (Yz co % 6) else W)=q:=⟨_,rfl⟩
  have hT:Kerb.Case.x (Vg cu co cv cr lt tn mt cad cfr cis ctm ctk clf ccs cky ckv css ctt cau) ⟨x,y,z⟩ k=(Kerb.sealTicket ⟨tn,W,Yz cad % 3,E,Yz clf / 4,1000+Yz cis*8,x,IN⟩ k).val:=by rw [← hW,← hE,← hIN];rfl
  have hA:Kerb.Case.y (Vg cu co cv cr lt tn mt cad cfr cis ctm ctk clf ccs cky ckv css ctt cau)=(Kerb.sealAuth ⟨V,ccs,Yz ctk % 3,1000+Yz ctm*8⟩ lt E).val:=by rw [← hV,← hW,← hE];rfl
  obtain ⟨X,hX⟩:∃ q,Kerb.Case.x (Vg cu co cv cr lt tn mt cad cfr cis ctm ctk clf ccs cky ckv css ctt cau) ⟨x,y,z⟩ k=q:=⟨_,rfl⟩
  obtain ⟨Y,hY⟩:∃ q,Kerb.Case.y (Vg cu co cv cr lt tn mt cad cfr cis ctm ctk clf ccs cky ckv css ctt cau)=q:=⟨_,rfl⟩
  have hR:Kerb.Case.req (Vg cu co cv cr lt tn mt cad cfr cis ctm ctk clf ccs cky ckv css ctt cau) ⟨x,y,z⟩ k v=⟨if cau % 16=14 then !lt else lt,mt,if ckv.toNat % 16=15 then v+1 else v,if cr.toNat % 16=15 then [67,65,77] else z,if ctt % 16=15 then Wp X (ctt / 16) else X,if cau % 16=15 then Wp Y (cau / 16) else Y⟩:=by rw [← hX,← hY];rfl
  rw [hX] at hT
  rw [hY] at hA
  have lW:W.name.length≤9223372036854775807∧W.inst.length≤9223372036854775807∧W.realm.length≤9223372036854775807:=by rw [← hW];exact Kerb.user_dec _
  have lV:V.name.length≤9223372036854775807∧V.inst.length≤9223372036854775807∧V.realm.length≤9223372036854775807:=by
   rw [← hV]
   split
   ·exact Kerb.user_dec _
   ·exact lW
  have lE:0≤E∧E<18446744073709551616:=by rw [← hE];exact Kerb.session_bd2 _
  have lI:IN.length≤9223372036854775807:=by
   rw [← hIN]
   split
   ·simp
   ·exact l2
  have lX:X.length≤1000000:=by rw [hT];have:=Kerb.sealTicket_len ⟨tn,W,Yz cad % 3,E,Yz clf / 4,1000+Yz cis*8,x,IN⟩ k;omega
  have lY:Y.length≤1000000:=by rw [hA];have:=Kerb.sealAuth_len ⟨V,ccs,Yz ctk % 3,1000+Yz ctm*8⟩ lt E;omega
  rw [hR]
  simp (config:={maxSteps:=10000000}) only [Vk,f1,f2,f3,f4,f5,f6,f7,f8,f9,fa,fb,fc,fd,fe,g1,g2,g3,g4,g5,u1,u2,u3,u4,hW,hE,↓sInt,↓sU8,↓sBool,↓sStr,↓sBs,↓sSl,↓sAgg,↓sTup,↓sCons,↓sNil,↓sNilB,↓sChk,↓sChkBind,↓sSome]
  refine bind_via (fun ls=>ls=[Zz IntKind.u64 k,Zz Zu v,Zj cu,Zj co,Zj cv,Zj cr,Zv lt,Zv tn,Zv mt,Zj cad,Zj cfr,Zj cis,Zj ctm,Zj ctk,Zj clf,Zz Qk ccs,Zj cky,Zj ckv,Zj css,Zz Ww ctt,Zz Ww cau,Zy x,Zy y,Zy z,Zv false,Zv false,Zz Zu 0,Zy [],Zd [],Zd [],Zv tn,Zy W.name,Zy W.inst,Zy W.realm,Zz Zu (Yz cad % 3),Zz IntKind.u64 E,Zz Zu (Yz clf / 4),Zz Zu (1000+Yz cis*8),Zy x,Zy IN]) ⟨_,?_,rfl⟩ ?_
  ·rw [← hIN]
   by_cases h:cv.toNat % 7=6
   ·rw [if_pos h,decide_eq_true h];rfl
   ·rw [if_neg h,decide_eq_false h];rfl
  rintro _ rfl
  simp (config:={maxSteps:=10000000}) only [Vk,f1,f2,f3,f4,f5,f6,f7,f8,f9,fa,fb,fc,fd,fe,g1,g2,g3,g4,g5,u1,u2,u3,u4,↓sInt,↓sU8,↓sBool,↓sStr,↓sBs,↓sSl,↓sAgg,↓sTup,↓sCons,↓sNil,↓sNilB,↓sChk,↓sChkBind,↓sSome]
  refine bind_via (fun ls=>ls=[Zz IntKind.u64 k,Zz Zu v,Zj cu,Zj co,Zj cv,Zj cr,Zv lt,Zv tn,Zv mt,Zj cad,Zj cfr,Zj cis,Zj ctm,Zj ctk,Zj clf,Zz Qk ccs,Zj cky,Zj ckv,Zj css,Zz Ww ctt,Zz Ww cau,Zy x,Zy y,Zy z,Zv false,Zv false,Zz Zu 0,Zy [],Zd [],Zd [],Zv tn,Zy W.name,Zy W.inst,Zy W.realm,Zz Zu (Yz cad % 3),Zz IntKind.u64 E,Zz Zu (Yz clf / 4),Zz Zu (1000+Yz cis*8),Zy x,Zy IN,Zy V.name,Zy V.inst,Zy V.realm,Zz Zu ccs,Zz Zu (Yz ctk % 3),Zz Zu (1000+Yz ctm*8)]) ⟨_,?_,rfl⟩ ?_
  ·rw [← hV]
   by_cases h:co.toNat % 8=7
   ·rw [if_pos h,decide_eq_true h];rfl
   ·rw [if_neg h,decide_eq_false h];rfl
  rintro _ rfl
  simp (config:={maxSteps:=10000000}) only [l1,lW,lV,lE,lI,hk,decide_true,Xd,← hT,← hA,Vk,f1,f2,f3,f4,f5,f6,f7,f8,f9,fa,fb,fc,fd,fe,g1,g2,g3,g4,g5,u1,u2,u3,u4,↓sInt,↓sU8,↓sBool,↓sStr,↓sBs,↓sSl,↓sAgg,↓sTup,↓sCons,↓sNil,↓sNilB,↓sChk,↓sChkBind,↓sSome]
  refine bind_via (fun ls=>ls=[Zj cu,Zj co,Zj cv,Zj cr,Zv lt,Zv tn,Zv mt,Zj cad,Zj cfr,Zj cis,Zj ctm,Zj ctk,Zj clf,Zz Qk ccs,Zj cky,Zj ckv,Zj css,Zz Ww ctt,Zz Ww cau,Zv false,Zv false,Zz Zu 0,Zy [],Zd [],Zd [],Zd Y,Zv lt,Zv mt,Zz Zu v,Zy z,Zd (if ctt % 16=15 then Wp X (ctt / 16) else X),Zd Y]) ⟨_,?_,rfl⟩ ?_
  ·by_cases h:ctt % 16=15
   ·rw [if_pos h,sel_pos (by simpa using h),chk_of (by simp only [lX,g4,decide_true,Bool.true_and])]
   ·rw [if_neg h,sel_neg (by simpa using h)]
  rintro _ rfl
  simp (config:={maxSteps:=10000000}) only [Vk,f1,f2,f3,f4,f5,f6,f7,f8,f9,fa,fb,fc,fd,fe,g1,g2,g3,g4,g5,u1,u2,u3,u4,↓sInt,↓sU8,↓sBool,↓sStr,↓sBs,↓sSl,↓sAgg,↓sTup,↓sCons,↓sNil,↓sNilB,↓sChk,↓sChkBind,↓sSome]
  refine bind_via (fun ls=>ls=[Zj cu,Zj co,Zj cv,Zj cr,Zv lt,Zv tn,Zv mt,Zj cad,Zj cfr,Zj cis,Zj ctm,Zj ctk,Zj clf,Zz Qk ccs,Zj cky,Zj ckv,Zj css,Zz Ww ctt,Zz Ww cau,Zv false,Zv false,Zz Zu 0,Zy [],Zd [],Zd [],Zv lt,Zv mt,Zz Zu v,Zy z,Zd (if ctt % 16=15 then Wp X (ctt / 16) else X),Zd (if cau % 16=15 then Wp Y (cau / 16) else Y)]) ⟨_,?_,rfl⟩ ?_
  ·by_cases h:cau % 16=15
   ·rw [if_pos h,sel_pos (by simpa using h),chk_of (by simp only [lY,g5,decide_true,Bool.true_and])]
   ·rw [if_neg h,sel_neg (by simpa using h)]
  rintro _ rfl
  simp (config:={maxSteps:=10000000}) only [Vk,f1,f2,f3,f4,f5,f6,f7,f8,f9,fa,fb,fc,fd,fe,g1,g2,g3,g4,g5,u1,u2,u3,u4,↓sInt,↓sU8,↓sBool,↓sStr,↓sBs,↓sSl,↓sAgg,↓sTup,↓sCons,↓sNil,↓sNilB,↓sChk,↓sChkBind,↓sSome]
  refine bind_via (fun ls=>ls=[Zj cu,Zj co,Zj cv,Zj cr,Zv lt,Zv tn,Zv mt,Zj cad,Zj cfr,Zj cis,Zj ctm,Zj ctk,Zj clf,Zz Qk ccs,Zj cky,Zj ckv,Zj css,Zz Ww ctt,Zz Ww cau,Zv false,Zv false,Zz Zu 0,Zy [],Zd [],Zd [],Zv (if cau % 16=14 then !lt else lt),Zv mt,Zz Zu v,Zy z,Zd (if ctt % 16=15 then Wp X (ctt / 16) else X),Zd (if cau % 16=15 then Wp Y (cau / 16) else Y)]) ⟨_,?_,rfl⟩ ?_
  ·by_cases h:cau % 16=14
   ·rw [if_pos h,sel_pos (by simpa using h)]
   ·rw [if_neg h,sel_neg (by simpa using h)]
  rintro _ rfl
  simp (config:={maxSteps:=10000000}) only [Vk,f1,f2,f3,f4,f5,f6,f7,f8,f9,fa,fb,fc,fd,fe,g1,g2,g3,g4,g5,u1,u2,u3,u4,↓sInt,↓sU8,↓sBool,↓sStr,↓sBs,↓sSl,↓sAgg,↓sTup,↓sCons,↓sNil,↓sNilB,↓sChk,↓sChkBind,↓sSome]
  refine bind_via (fun ls=>ls=[Zj cu,Zj co,Zj cv,Zj cr,Zv lt,Zv tn,Zv mt,Zj cad,Zj cfr,Zj cis,Zj ctm,Zj ctk,Zj clf,Zz Qk ccs,Zj cky,Zj ckv,Zj css,Zz Ww ctt,Zz Ww cau,Zv false,Zv false,Zz Zu 0,Zy [],Zd [],Zd [],Zv (if cau % 16=14 then !lt else lt),Zv mt,Zz Zu (if ckv.toNat % 16=15 then v+1 else v),Zy z,Zd (if ctt % 16=15 then Wp X (ctt / 16) else X),Zd (if cau % 16=15 then Wp Y (cau / 16) else Y)]) ⟨_,?_,rfl⟩ ?_
  ·by_cases h:ckv.toNat % 16=15
   ·rw [if_pos h,decide_eq_true h];rfl
   ·rw [if_neg h,decide_eq_false h];rfl
  rintro _ rfl
  simp (config:={maxSteps:=10000000}) only [Vk,f1,f2,f3,f4,f5,f6,f7,f8,f9,fa,fb,fc,fd,fe,g1,g2,g3,g4,g5,u1,u2,u3,u4,↓sInt,↓sU8,↓sBool,↓sStr,↓sBs,↓sSl,↓sAgg,↓sTup,↓sCons,↓sNil,↓sNilB,↓sChk,↓sChkBind,↓sSome]
  by_cases h:cr.toNat % 16=15
  ·rw [if_pos h,decide_eq_true h];rfl
  ·rw [if_neg h,decide_eq_false h];rfl
 ·cases h
theorem w50:Walked Tryz.prog G 50 7 sp50:=by
 refine ⟨Tryz.f50,Tryz.func50,by decide +kernel,rfl,fun xs bl r h=> ?_⟩
 unfold sp50 at h
 split at h
 ·rename_i b k
  obtain ⟨hpre,h2⟩:=chk_inv h;cases h2
  refine Eq.trans (b:=(Zw (chk (decide (Zx b≤140737488355328)) (some (Zg [Zd (Wx (Xv b 1 k)),Zv (Xq (Xv b 1 k))],[]))) (kT fun vs=>cBs vs fun b r=>cBool r fun b_1 r=>onNil r (sel (!b_1) (some (Zg [Yy [Zv false,Zy [],Zy [],Zy [],Zz .i64 0,Zz .u64 0,Zz .i64 0,Zz .i64 0,Zy [],Zy []],Zz .i64 31],[])) (Zw (chk (decide (Zx b≤140737488355328)) (some (Zg [Yy [Zv (Vz (Zq (Zh b))),Zy (Yb (Yv (Zq (Zh b)))),Zy (Yn (Yv (Zq (Zh b)))),Zy (Yf (Yv (Zq (Zh b)))),Zz .i64 (Wb (Zq (Zh b))),Zz .u64 (Wf (Zq (Zh b))),Zz .i64 (Uv (Zq (Zh b))),Zz .i64 (Vy (Zq (Zh b))),Zy (Wg (Zq (Zh b))),Zy (Uu (Zq (Zh b)))],Zz .i64 (Wz (Zh b))],[]))) (kT fun vs=>onCons vs fun x r=>Xn x fun cs=>cBool cs fun b r_1=>cStr r_1 fun b_2 r_2=>cStr r_2 fun b_3 r_3=>cStr r_3 fun b_4 r_4=>cInt .i64 r_4 fun n r_5=>cInt .u64 r_5 fun n_1 r_6=>cInt .i64 r_6 fun n_2 r_7=>cInt .i64 r_7 fun n_3 r_8=>cStr r_8 fun b_5 r_9=>cStr r_9 fun b_6 r_10=>onNil r_10 (cInt .i64 r fun n_4 r=>onNil r (some (Zg [Yy [Zv b,Zy b_2,Zy b_3,Zy b_4,Zz .i64 n,Zz .u64 n_1,Zz .i64 n_2,Zz .i64 n_3,Zy b_5,Zy b_6],Zz .i64 n_4],[]))))))):Option (AV×Blocks))) (by kernel_rfl) ?_
  delta kT
  try dsimp only [cStr,cBs,cBool,cU8,cInt,cSl,l63]
  have hb:=of_decide_eq_true hpre
  have hl:=Kerb.openBox_len b 1 k
  simp only [hpre,↓A0,A0]
  unfold Zb
  cases h:(Xv b 1 k).2
  ·rfl
  ·rw [sel_neg (by simp),chk_of (by simp;omega)]
   rfl
 ·cases h
theorem w51:Walked Tryz.prog G 51 7 sp51:=by
 refine ⟨Tryz.f51,Tryz.func51,by decide +kernel,rfl,fun xs bl r h=> ?_⟩
 unfold sp51 at h
 split at h
 ·rename_i b li k
  obtain ⟨hpre,h2⟩:=chk_inv h;cases h2
  refine Eq.trans (b:=(let t0:Option (AV×Blocks):=some (Zg [Yy [Zy [],Zy [],Zy [],Zz .i64 0,Zz .i64 0,Zz .i64 0],Zz .i64 31],[]);Zw (chk (decide (Zx b≤140737488355328)) (some (Zg [Zd (Wx (Xv b 2 k)),Zv (Xq (Xv b 2 k))],[]))) (kT fun vs=>cBs vs fun b r=>cBool r fun b_1 r=>onNil r (sel (!b_1) t0 (Zw (chk (decide (Zx b≤140737488355328)) (some (Zg [Yy [Zy (Yb (Yd (Zq (Yg b li)))),Zy (Yn (Yd (Zq (Yg b li)))),Zy (Yf (Yd (Zq (Yg b li)))),Zz .i64 (Vq (Zq (Yg b li))),Zz .i64 (Qx (Zq (Yg b li))),Zz .i64 (Qy (Zq (Yg b li)))],Zz .i64 (Wz (Yg b li))],[]))) (kT fun vs=>onCons vs fun x r=>Xn x fun cs=>cStr cs fun b r_1=>cStr r_1 fun b_2 r_2=>cStr r_2 fun b_3 r_3=>cInt .i64 r_3 fun n r_4=>cInt .i64 r_4 fun n_1 r_5=>cInt .i64 r_5 fun n_2 r_6=>onNil r_6 (cInt .i64 r fun n_3 r=>onNil r (sel (!n_3==0) t0 (some (Zg [Yy [Zy b,Zy b_2,Zy b_3,Zz .i64 n,Zz .i64 n_1,Zz .i64 n_2],Zz .i64 0],[])))))))):Option (AV×Blocks))) (by kernel_rfl) ?_
  delta kT
  try dsimp only [cStr,cBs,cBool,cU8,cInt,cSl,l63]
  have hb:=of_decide_eq_true hpre
  have hpre2:decide (b.length≤4611686018427387904)=true:=by simp;omega
  have hl:=Kerb.openBox_len b 2 k
  have hl2:decide ((Xv b 2 k).1.length≤140737488355328)=true:=by simp;omega
  simp only [hpre,hl2,↓A0,A0]
  unfold Yw
  cases h1:(Xv b 2 k).2
  ·rfl
  rw [Yk,sel_false,if_neg (by simp)]
  by_cases h2:(Yg (Xv b 2 k).1 li).err=0
  case neg=>rw [sel_pos (by simpa using h2),if_pos h2];rfl
  rw [sel_neg (by simpa using h2),if_neg (by simpa using h2)]
 ·cases h
theorem w62:Walked Tryz.prog G 62 7 sp62:=by
 refine ⟨Tryz.f62,Tryz.func62,by decide +kernel,rfl,fun xs bl r h=> ?_⟩
 unfold sp62 at h
 split at h
 ·rename_i a b c
  obtain ⟨hpre,h2⟩:=chk_inv h;cases h2
  refine Eq.trans (b:=(Zw (chk (decide (Zx a≤9223372036854775807)) (some (Zv (Kerb.validName a),[]))) fun (r:AV×Blocks)=>onNilB (Xq r) (Qd (Wx r) fun b_1=>sel b_1 (Zw (chk (decide (Zx b≤9223372036854775807)) (some (Zv (Kerb.validInst b),[]))) fun (r:AV×Blocks)=>onNilB (Xq r) (Qd (Wx r) fun b=>sel b (Zw (chk (decide (Zx c≤9223372036854775807)) (some (Zv (Kerb.validRealm c),[]))) fun (r:AV×Blocks)=>onNilB (Xq r) (Qd (Wx r) fun b=>some (Zv b,[]))) (some (Zv false,[])))) (some (Zv false,[]))):Option (AV×Blocks))) (by kernel_rfl) ?_
  simp only [Yx,decide_eq_true_eq] at hpre
  simp only [A0]
  rw [chk_of (by simp;omega),chk_of (by simp;omega),chk_of (by simp;omega)]
  simp only [Yu]
  cases Kerb.validName a<;>cases Kerb.validInst b<;>rfl
 ·cases h
theorem w88:Walked Tryz.prog G 88 7 sp88:=by
 refine ⟨Tryz.f88,Tryz.func88,by decide +kernel,rfl,fun xs bl r h=> ?_⟩
 unfold sp88 at h
 split at h
 ·rename_i li mu kv rl tk au
  obtain ⟨hpre,h2⟩:=chk_inv h;cases h2
  refine Eq.trans (b:=(Zw (chk (l63 rl) (some (Zv (Kerb.validRealm rl),[]))) (kL fun b=>sel (!b) (some (Zg [Zd [],Zz .i64 103],[])) (sel (!Yq kv 255) (some (Zg [Zd [],Zz .i64 104],[])) (sel (decide ((↑(Zx tk):Int)>255)) (some (Zg [Zd [],Zz .i64 105],[])) (sel (decide ((↑(Zx au):Int)>255)) (some (Zg [Zd [],Zz .i64 105],[])) (sel mu (Zw (chk (decide (Zx (Kerb.header 4 li)≤70368744177664)) (some (Wy (Kerb.header 4 li++Ym kv 1 false),[]))) (kO fun l=>Zw (chk (decide (Zx l+Zx rl≤70368744177664)) (some (Zd (Xf l rl),[]))) (kB fun b=>Zw (chk (decide (Zx b≤70368744177664)) (some (Wy (b++Ym (↑(Zx tk):Int) 1 false),[]))) (kO fun l=>Zw (chk (decide (Zx l≤70368744177664)) (some (Wy (l++Ym (↑(Zx au):Int) 1 false),[]))) (kO fun l=>Zw (chk (decide (Zx (Yh l (Yh tk (Yh au [])))≤140737488355328)&&decide (Zx [Zd l,Zd tk,Zd au]≤1000)) (some (Wy (Yh l (Yh tk (Yh au []))),[]))) (kO fun l=>some (Zg [Zd l,Zz .i64 0],[]))))))) (Zw (chk (decide (Zx (Kerb.header 3 li)≤70368744177664)) (some (Wy (Kerb.header 3 li++Ym kv 1 false),[]))) (kO fun l=>Zw (chk (decide (Zx l+Zx rl≤70368744177664)) (some (Zd (Xf l rl),[]))) (kB fun b=>Zw (chk (decide (Zx b≤70368744177664)) (some (Wy (b++Ym (↑(Zx tk):Int) 1 false),[]))) (kO fun l=>Zw (chk (decide (Zx l≤70368744177664)) (some (Wy (l++Ym (↑(Zx au):Int) 1 false),[]))) (kO fun l=>Zw (chk (decide (Zx (Yh l (Yh tk (Yh au [])))≤140737488355328)&&decide (Zx [Zd l,Zd tk,Zd au]≤1000)) (some (Wy (Yh l (Yh tk (Yh au []))),[]))) (kO fun l=>some (Zg [Zd l,Zz .i64 0],[])))))))))))):Option (AV×Blocks))) (by kernel_rfl) ?_
  delta kB kO kL
  try dsimp only [cStr,cBs,cBool,cU8,cInt,cSl,l63]
  simp only [A0,Uh,Qw,Qn,hpre]
  unfold Ug
  simp only
  cases h1:Kerb.validRealm rl
  ·rfl
  rw [Yk,sel_false,if_neg (by simp)]
  cases h2:Yq kv 255
  ·rfl
  rw [Yk,sel_false,if_neg (by simp)]
  by_cases h3:255<tk.length
  ·rw [sel_pos (by simp;omega),if_pos (.inl h3)]
  rw [sel_neg (by simp;omega)]
  by_cases h4:255<au.length
  ·rw [sel_pos (by simp;omega),if_pos (.inr h4)]
  rw [sel_neg (by simp;omega),if_neg (by omega)]
  have l1:=Kerb.validRealm_len h1
  have g3:=Kerb.header_len 3 li
  have g4:=Kerb.header_len 4 li
  cases mu
  ·rw [sel_false,chk_of (by simp;omega),chk_of (by simp [Zp];omega),chk_of (by simp [Zp,Vw];omega),chk_of (by simp [Zp,Vw];omega),chk_of (by simp [Zp,Vw];omega)]
   simp
  ·rw [sel_true,chk_of (by simp;omega),chk_of (by simp [Zp];omega),chk_of (by simp [Zp,Vw];omega),chk_of (by simp [Zp,Vw];omega),chk_of (by simp [Zp,Vw];omega)]
   simp
 ·cases h
theorem w11:Walked Tryz.prog G 11 8 sp11:=by
 refine ⟨Tryz.f11,Tryz.func11,by decide +kernel,rfl,fun xs bl r h=> ?_⟩
 unfold sp11 at h
 split at h
 ·rename_i cu co cv cr lt tn mt cad cfr cis ctm ctk clf ccs cky ckv css ctt cau x y z k v
  obtain ⟨hpre,h2⟩:=chk_inv h;cases h2
  refine Eq.trans (b:=(let t0:Kerb.ApRequest:=Kerb.Case.req (Vg cu co cv cr lt tn mt cad cfr cis ctm ctk clf ccs cky ckv css ctt cau) (Zm x y z) k v;Zw (chk (l63 x&&l63 y&&l63 z&&Kerb.isU64 k&&decide (0≤v)&&decide (v≤1000)&&decide (0≤ccs)&&decide (ccs≤4294967295)&&decide (0≤ctt)&&decide (ctt≤65535)&&decide (0≤cau)&&decide (cau≤65535)) (some (Yy [Zv (Qj t0),Zv (Qv t0),Zz .i64 (Jy t0),Zy (Qb t0),Zd (Qq t0),Zd (Jx t0)],[]))) (kA fun cs=>cBool cs fun b r=>cBool r fun b_1 r=>cInt .i64 r fun n r=>cStr r fun b_2 r=>cBs r fun b_3 r=>cBs r fun b_4 r=>onNil r (Zw (chk (l63 b_2) (some (Zg [Zd (Uz (Ug (Xm b b_1 n b_2 b_3 b_4))),Zz .i64 (Uy (Ug (Xm b b_1 n b_2 b_3 b_4)))],[]))) (kT fun vs=>cBs vs fun b r=>cInt .i64 r fun n r=>onNil r (some (Zd b,[]))))):Option (AV×Blocks))) (by kernel_rfl) ?_
  delta kT kA
  try dsimp only [cStr,cBs,cBool,cU8,cInt,cSl,l63]
  have hp:=hpre
  simp only [Yx,decide_eq_true_eq] at hp
  have lr:(Kerb.Case.req (Vg cu co cv cr lt tn mt cad cfr cis ctm ctk clf ccs cky ckv css ctt cau) ⟨x,y,z⟩ k v).realm.length≤9223372036854775807:=by
   show (if cr.toNat % 16=15 then ([67,65,77]:List UInt8) else z).length≤_
   split
   ·simp
   ·exact hp.1.1.1.1.1.1.1.1.1.2
  simp only [hpre,lr,decide_true,↓A0,A0]
  rfl
 ·cases h
theorem w21:Walked Tryz.prog G 21 8 sp21:=by
 refine ⟨Tryz.f21,Tryz.func21,by decide +kernel,rfl,fun xs bl r h=> ?_⟩
 unfold sp21 at h
 split at h
 ·rename_i m1 m2 m3 kls sz fl mls sk rli rmu rkv rrl rtk rau src now
  obtain ⟨hpre,h2⟩:=chk_inv h;cases h2
  refine Eq.trans (b:=(let t0:AV:=Yy [Zy [],Zy [],Zy [],Zz .u64 0,Zz .i64 0,Zz .i64 0,Zz .i64 0,Zz .i64 0,Zz .i64 0,Zz .i64 0,Zd [],Zd []];let t1:AV:=Yy [Zy m1,Zy m2,Zy m3,Yp 5 kls,Zz .i64 sz,Zz .i64 fl,Yp 5 mls,Zz .i64 sk];let t2:Option (AV×Blocks):=some (Zg [t1,t0,Zz .i64 35],[]);Zw (chk (l63 m1&&l63 m2&&l63 m3&&Wq kls Qz&&decide (Zx kls≤1000000)&&Wq mls Wh&&decide (Zx mls≤1000000)) (some (Zz .i64 (Qf (Vj (Zm m1 m2 m3) (Xj Wj kls) (Xg sz fl (Xj Wk mls)) sk)),[]))) (kI .i64 fun n=>sel (!n==0) (some (Zg [t1,t0,Zz .i64 108],[])) (Zw (chk (Wq kls Qz&&decide (Zx kls≤1000000)) (some (Zg [Zz .u64 (Wx (Uw (Xj Wj kls) (Zm m1 m2 m3) rkv)),Zv (Xq (Uw (Xj Wj kls) (Zm m1 m2 m3) rkv))],[]))) (kT fun vs=>cInt .u64 vs fun n r=>cBool r fun b r=>onNil r (sel (!rrl==m3) t2 (sel (!b) t2 (Zw (chk (decide (Zx rtk≤140737488355328)) (some (Zg [Yy [Zv (Vz (Zq (Zb rtk n))),Zy (Yb (Yv (Zq (Zb rtk n)))),Zy (Yn (Yv (Zq (Zb rtk n)))),Zy (Yf (Yv (Zq (Zb rtk n)))),Zz .i64 (Wb (Zq (Zb rtk n))),Zz .u64 (Wf (Zq (Zb rtk n))),Zz .i64 (Uv (Zq (Zb rtk n))),Zz .i64 (Vy (Zq (Zb rtk n))),Zy (Wg (Zq (Zb rtk n))),Zy (Uu (Zq (Zb rtk n)))],Zz .i64 (Wz (Zb rtk n))],[]))) (kT fun vs=>onCons vs fun x r=>Xn x fun cs=>cBool cs fun b r_1=>cStr r_1 fun b r_2=>cStr r_2 fun b_1 r_3=>cStr r_3 fun b_2 r_4=>cInt .i64 r_4 fun n r_5=>cInt .u64 r_5 fun n_1 r_6=>cInt .i64 r_6 fun n_2 r_7=>cInt .i64 r_7 fun n_3 r_8=>cStr r_8 fun b_3 r_9=>cStr r_9 fun b_4 r_10=>onNil r_10 (cInt .i64 r fun n_4 r=>onNil r (sel (n_4==7) (some (Zg [t1,t0,Zz .i64 7],[])) (sel (!n_4==0) (some (Zg [t1,t0,Zz .i64 31],[])) (sel (!b_3==m1) t2 (sel (!b_4==m2) t2 (Zw (chk (decide (Zx rau≤140737488355328)) (some (Zg [Yy [Zy (Yb (Yd (Zq (Yw rau rli n_1)))),Zy (Yn (Yd (Zq (Yw rau rli n_1)))),Zy (Yf (Yd (Zq (Yw rau rli n_1)))),Zz .i64 (Vq (Zq (Yw rau rli n_1))),Zz .i64 (Qx (Zq (Yw rau rli n_1))),Zz .i64 (Qy (Zq (Yw rau rli n_1)))],Zz .i64 (Wz (Yw rau rli n_1))],[]))) (kT fun vs=>onCons vs fun x r=>Xn x fun cs=>cStr cs fun b_5 r_11=>cStr r_11 fun b_6 r_12=>cStr r_12 fun b_7 r_13=>cInt .i64 r_13 fun n_5 r_14=>cInt .i64 r_14 fun n_6 r_15=>cInt .i64 r_15 fun n_7 r_16=>let t4:Kerb.Dec Kerb.RCache:=Kerb.addMark (Xg sz fl (Xj Wk mls)) (Um (Zm b_5 b_6 b_7) n_7 n_6) now sk;let t3:Kerb.RCache:=Zq t4;onNil r_16 (cInt .i64 r fun n_8 r=>onNil r (sel (!n_8==0) (some (Zg [t1,t0,Zz .i64 31],[])) (sel (!(b==b_5&&(b_1==b_6&&b_2==b_7))) (some (Zg [t1,t0,Zz .i64 36],[])) (sel (!src==n) (some (Zg [t1,t0,Zz .i64 38],[])) (sel (!Kerb.near n_7 now sk) (some (Zg [t1,t0,Zz .i64 37],[])) (sel (!Kerb.stateErr n_3 n_2 now sk==0) (some (Zg [t1,t0,Zz .i64 (Kerb.stateErr n_3 n_2 now sk)],[])) (Zw (chk (Wq mls Wh&&decide (Zx mls≤1000000)&&l63 b_5&&l63 b_6&&l63 b_7) (some (Zg [Yy [Zz .i64 (Kerb.RCache.size t3),Zz .i64 (Kerb.RCache.floor t3),Yp 5 (Xj Xx (Kerb.RCache.marks t3))],Zz .i64 (Wz t4)],[]))) (kT fun vs=>onCons vs fun x r=>Xn x fun cs=>cInt .i64 cs fun n_9 r_17=>cInt .i64 r_17 fun n_10 r_18=>cSl 5 r_18 fun b_8 r_19=>onNil r_19 (cInt .i64 r fun n_11 r=>onNil r (sel (!n_11==0) (some (Zg [t1,t0,Zz .i64 n_11],[])) (some (Zg [Yy [Zy m1,Zy m2,Zy m3,Yp 5 kls,Zz .i64 n_9,Zz .i64 n_10,Yp 5 b_8,Zz .i64 sk],Yy [Zy b,Zy b_1,Zy b_2,Zz .u64 n_1,Zz .i64 n,Zz .i64 n_5,Zz .i64 n_7,Zz .i64 n_6,Zz .i64 n_3,Zz .i64 n_2,Zd rtk,Zd rau],Zz .i64 0],[])))))))))))))))))))))))))):Option (AV×Blocks))) (by kernel_rfl) ?_
  delta kT kI
  try dsimp only [cStr,cBs,cBool,cU8,cInt,cSl,l63]
  simp only [Yx,decide_eq_true_eq] at hpre
  obtain ⟨⟨⟨⟨⟨⟨⟨⟨l1,l2⟩,l3⟩,ka⟩,kl⟩,ma⟩,ml⟩,t1⟩,u1⟩:=hpre
  obtain ⟨ks,rfl,hks⟩:=Uf ka
  obtain ⟨ms,rfl,hms⟩:=Vd ma
  have hkT:=Uq hks
  have hmT:=Wm hms
  simp only [Yj] at kl ml
  have t2:rtk.length≤140737488355328:=by omega
  have u2:rau.length≤140737488355328:=by omega
  have e1:∀ k,decide ((Yw rau rli k).val.client.name.length≤9223372036854775807)=true:=fun k=>decide_eq_true (Kerb.openAuth_len _ _ _).1
  have e2:∀ k,decide ((Yw rau rli k).val.client.inst.length≤9223372036854775807)=true:=fun k=>decide_eq_true (Kerb.openAuth_len _ _ _).2.1
  have e3:∀ k,decide ((Yw rau rli k).val.client.realm.length≤9223372036854775807)=true:=fun k=>decide_eq_true (Kerb.openAuth_len _ _ _).2.2
  simp only [Wd,Wu,Yj,hkT,hmT,kl,ml,l1,l2,l3,t1,u1,t2,u2,e1,e2,e3,decide_true,Xd,↓sInt,↓sU8,↓sBool,↓sStr,↓sBs,↓sSl,↓sAgg,↓sTup,↓sCons,↓sNil,↓sNilB,↓sChk,↓sChkBind,↓sSome]
  by_cases g1:Qf ⟨⟨m1,m2,m3⟩,ks,⟨sz,fl,ms⟩,sk⟩=0
  case neg =>
   unfold Kerb.verify
   rw [sel_pos (by simpa using g1),if_pos g1]
   rfl
  rw [sel_neg (by simpa using g1)]
  have hO:=Kerb.openReq.eq_1 ⟨⟨m1,m2,m3⟩,ks,⟨sz,fl,ms⟩,sk⟩ ⟨rli,rmu,rkv,rrl,rtk,rau⟩
  by_cases h1:rrl=m3
  case neg =>
   rw [if_pos (by simpa using h1)] at hO
   rw [sel_pos (by simpa using h1),Vp g1 hO (by decide)]
   rfl
  rw [if_neg (by simpa using h1)] at hO
  rw [sel_neg (by simpa using h1)]
  dsimp only at hO
  cases h2:(Uw ks ⟨m1,m2,m3⟩ rkv).2
  ·rw [if_pos h2] at hO
   rw [Bool.not_false,sel_true,Vp g1 hO (by decide)]
   rfl
  rw [if_neg (by simp [h2])] at hO
  rw [Yk,sel_false]
  obtain ⟨K,hK⟩:∃ K,(Uw ks ⟨m1,m2,m3⟩ rkv).1=K:=⟨_,rfl⟩
  rw [hK] at hO ⊢
  by_cases h3:(Zb rtk K).err=7
  ·rw [if_pos h3] at hO
   rw [sel_pos (by simpa using h3),Vp g1 hO (by decide)]
   rfl
  rw [if_neg h3] at hO
  rw [sel_neg (by simpa using h3)]
  by_cases h4:(Zb rtk K).err=0
  case neg =>
   rw [if_pos h4] at hO
   rw [sel_pos (by simpa using h4),Vp g1 hO (by decide)]
   rfl
  rw [if_neg (by simpa using h4)] at hO
  rw [sel_neg (by simpa using h4)]
  obtain ⟨T,hT⟩:∃ T,(Zb rtk K).val=T:=⟨_,rfl⟩
  rw [hT] at hO ⊢
  have g5:(Kerb.ticketFor T m3).eqb ⟨m1,m2,m3⟩=(T.service==m1&&(T.inst==m2&&m3==m3)):=rfl
  rw [g5,BEq.rfl,Bool.and_true] at hO
  cases h5:(T.service==m1)
  ·rw [if_pos (by rw [h5];rfl)] at hO
   rw [Bool.not_false,sel_true,Vp g1 hO (by decide)]
   rfl
  rw [Yk,sel_false]
  cases h6:(T.inst==m2)
  ·rw [if_pos (by rw [h5,h6];rfl)] at hO
   rw [Bool.not_false,sel_true,Vp g1 hO (by decide)]
   rfl
  rw [Yk,sel_false]
  rw [if_neg (by rw [h5,h6];simp)] at hO
  by_cases h7:(Yw rau rli T.session).err=0
  case neg =>
   rw [if_pos h7] at hO
   rw [sel_pos (by simpa using h7),Vp g1 hO (by decide)]
   rfl
  rw [if_neg (by simpa using h7)] at hO
  rw [sel_neg (by simpa using h7)]
  obtain ⟨A,hA⟩:∃ A,(Yw rau rli T.session).val=A:=⟨_,rfl⟩
  rw [hA] at hO ⊢
  have hV:=Kerb.verify_2 (src:=src) (now:=now) (e:=0) g1 hO
  have hJ:=Kerb.judge.eq_1 T A src now sk
  cases h8:T.client.eqb A.client
  ·have h8':(T.client.name==A.client.name&&(T.client.inst==A.client.inst&&T.client.realm==A.client.realm))=false:=h8
   rw [if_pos h8] at hJ
   rw [hJ,if_pos (by decide)] at hV
   rw [h8',hV]
   rfl
  have h8':(T.client.name==A.client.name&&(T.client.inst==A.client.inst&&T.client.realm==A.client.realm))=true:=h8
  rw [h8',Yk,sel_false]
  rw [if_neg (by simp [h8])] at hJ
  by_cases h9:src=T.address
  case neg =>
   rw [if_pos h9] at hJ
   rw [hJ,if_pos (by decide)] at hV
   rw [sel_pos (by simpa using h9),hV]
   rfl
  rw [sel_neg (by simpa using h9)]
  rw [if_neg (by simpa using h9)] at hJ
  cases ha:Kerb.near A.time now sk
  ·rw [if_pos ha] at hJ
   rw [hJ,if_pos (by decide)] at hV
   rw [hV]
   rfl
  rw [Yk,sel_false]
  rw [if_neg (by simp [ha])] at hJ
  dsimp only at hV
  by_cases hb:Kerb.stateErr T.issued T.life now sk=0
  case neg =>
   rw [hJ,if_pos hb] at hV
   rw [sel_pos (by simpa using hb),hV]
   rfl
  rw [sel_neg (by simpa using hb)]
  rw [hJ,if_neg (by simpa using hb)] at hV
  rw [show Um ⟨A.client.name,A.client.inst,A.client.realm⟩ A.time A.tick=Kerb.markOf A from rfl]
  by_cases hc:(Kerb.addMark ⟨sz,fl,ms⟩ (Kerb.markOf A) now sk).err=0
  case neg =>
   rw [if_pos hc] at hV
   rw [sel_pos (by simpa using hc),hV]
   rfl
  rw [if_neg (by simpa using hc)] at hV
  rw [sel_neg (by simpa using hc),hV]
 ·cases h
theorem w37:Walked Tryz.prog G 37 8 sp37:=by
 refine ⟨Tryz.f37,Tryz.func37,by decide +kernel,rfl,fun xs bl r h=> ?_⟩
 unfold sp37 at h
 split at h
 ·rename_i b
  obtain ⟨hpre,h2⟩:=chk_inv h;cases h2
  refine Eq.trans (b:=(let t1:AV:=Yy [Zv false,Zv false,Zz .i64 0,Zy [],Zd [],Zd []];let t0:Option (AV×Blocks):=some (Zg [t1,Zz .i64 100],[]);sel (!Xq (Kerb.headIs b [3,4])==0) (some (Zg [t1,Zz .i64 (Xq (Kerb.headIs b [3,4]))],[])) (Zw (chk (decide (Zx b≤140737488355328)) (some (Zg [Yy [Zv (Qj (Vf (Wn b))),Zv (Qv (Vf (Wn b))),Zz .i64 (Jy (Vf (Wn b))),Zy (Qb (Vf (Wn b))),Zd (Qq (Vf (Wn b))),Zd (Jx (Vf (Wn b)))],Zz .i64 (Kerb.GotAp.next (Wn b))],[]))) (kT fun vs=>onCons vs fun x r=>Xn x fun cs=>cBool cs fun b_1 r_1=>cBool r_1 fun b_2 r_2=>cInt .i64 r_2 fun n r_3=>cStr r_3 fun b_3 r_4=>cBs r_4 fun b_4 r_5=>cBs r_5 fun b_5 r_6=>onNil r_6 (cInt .i64 r fun n_1 r=>onNil r (Zw (chk (l63 b_3) (some (Zg [Zd (Uz (Ug (Xm b_1 b_2 n b_3 b_4 b_5))),Zz .i64 (Uy (Ug (Xm b_1 b_2 n b_3 b_4 b_5)))],[]))) (kT fun vs=>cBs vs fun b_6 r=>cInt .i64 r fun n_2 r=>onNil r (sel (!n_2==0) t0 (sel (!b_6==b) t0 (some (Zg [Yy [Zv b_1,Zv b_2,Zz .i64 n,Zy b_3,Zd b_4,Zd b_5],Zz .i64 0],[]))))))))):Option (AV×Blocks))) (by kernel_rfl) ?_
  delta kT
  try dsimp only [cStr,cBs,cBool,cU8,cInt,cSl,l63]
  have hb:=of_decide_eq_true hpre
  have hpre2:decide (b.length≤4611686018427387904)=true:=by simp;omega
  have hr:=Qh b (Xk b 2 1 false).next
  have g1:(Wn b).val.realm.length≤9223372036854775807:=by show (Wv b (Xk b 2 1 false).next).val.length≤_;omega
  unfold Xb
  by_cases h:(Kerb.headIs b [3,4]).2=0
  case neg=>rw [sel_pos (by simpa using h),if_pos h];rfl
  rw [sel_neg (by simpa using h),if_neg (by simpa using h)]
  simp only [hpre,g1,decide_true,↓A0,A0]
  exact Kerb.decBy_fin (no:=Kerb.noAp) (enc:=Ug) (rd:=fun b=>((Wn b).val,false)) _ false rfl (fun x e=>(Zg [.agg [.bool (x).little,.bool (x).mutual_,.int .i64 (x).kvno,.str (x).realm,.bs (x).ticket,.bs (x).auth],Zz Zu e],([]:Blocks)))
 ·cases h
theorem w63:Walked Tryz.prog G 63 8 sp63:=by
 refine ⟨Tryz.f63,Tryz.func63,by decide +kernel,rfl,fun xs bl r h=> ?_⟩
 unfold sp63 at h
 split at h
 ·rename_i kls
  obtain ⟨hpre,h2⟩:=chk_inv h;cases h2
  refine Eq.trans (b:=(sel (decide ((↑(Zx kls):Int)>60)) (some (Zz .i64 106,[])) (Zw (loopM (fun (st:List AV)=>cSl 5 st fun b r=>cInt .i64 r fun n r=>cSl 5 r fun b_1 r=>cInt .i64 r fun n_1 r=>cInt .i64 r fun n_2 r=>let t0:List AV:=[Yp 5 b_1,Zz .i64 n_1,Zz .i64 n_2];onNil r (sel (decide (n_2<n_1)) (chk (decide (0≤n_2)&&decide (n_2<(↑(Zx b_1):Int))&&true) (Xn (List.getD b_1 (Xy n_2) AV.undef) fun cs=>cStr cs fun b_2 r=>cStr r fun b_3 r=>cStr r fun b_4 r=>cInt .i64 r fun n_3 r=>cInt .u64 r fun n_4 r=>onNil r (Zw (chk (l63 b_2&&l63 b_3&&l63 b_4) (some (Zv (Yu (Zm b_2 b_3 b_4)),[]))) (kL fun b_5=>sel (!b_5) (some (Vu (Ex.ret,Yp 5 b::Zz .i64 103::t0))) (sel (decide (n_3<0)) (some (Vu (Ex.ret,Yp 5 b::Zz .i64 104::t0))) (sel (decide (n_3>255)) (some (Vu (Ex.ret,Yp 5 b::Zz .i64 104::t0))) (Zw (chk (decide (0≤n_4)&&decide (n_4<18446744073709551616)) (some (Zv (Kerb.keyValid n_4),[]))) (kL fun b_6=>sel (!b_6) (some (Vu (Ex.ret,Yp 5 b::Zz .i64 10::t0))) (Zw (chk (Wq b Qz&&decide (Zx b≤1000000)) (some (Zz .i64 (↑(Kerb.skAt (Xj Wj b) (Zm b_2 b_3 b_4) n_3):Int),[]))) (kI .i64 fun n_5=>sel (decide (n_5<n_2)) (some (Vu (Ex.ret,Yp 5 b::Zz .i64 107::t0))) (some (Sum.inl [Yp 5 b,Zz .i64 n,Yp 5 b_1,Zz .i64 n_1,Zz .i64 (Zn .i64 (n_2+1))])))))))))))) (some (Vu (Ex.exit 0,Yp 5 b::Zz .i64 n::t0))))) [Yp 5 kls,Zz .i64 0,Yp 5 kls,Zz .i64 (↑(Zx kls):Int),Zz .i64 0]) fun (r:Ex×List AV)=>cSl 5 (Xq r) fun b r_1=>cInt .i64 r_1 fun n r_2=>cSl 5 r_2 fun b r_3=>cInt .i64 r_3 fun n_1 r_4=>cInt .i64 r_4 fun n_2 r_5=>onNil r_5 (exK r.1 (some (Zz .i64 n,[])) fun (j:Nat)=>sel (Nat.beq j 0) (some (Zz .i64 0,[])) none)):Option (AV×Blocks))) (by kernel_rfl) ?_
  delta kL kI
  try dsimp only [cStr,cBs,cBool,cU8,cInt,cSl,l63]
  simp only [Yx,decide_eq_true_eq] at hpre
  obtain ⟨hall,hlen⟩:=hpre
  obtain ⟨cs,rfl,hok⟩:=Uf hall
  unfold Kerb.skErr
  rw [Wd]
  simp only [Yj] at hlen ⊢
  by_cases h60:60<cs.length
  ·rw [sel_pos (by simp;omega),if_pos h60]
  rw [sel_neg (by simp;omega),if_neg h60]
  refine loop_rounds (fun i:Nat=>[Yp 5 (cs.map Un),Zz Zu 0,Yp 5 (cs.map Un),Zz Zu (cs.length:Int),Zz Zu (i:Int)]) (fun i=>i≤cs.length∧Kerb.skErrs [] cs=Kerb.skErrs (cs.take i) (cs.drop i)) (fun i=>cs.length-i)
   (fun r=>∃ (i:Nat) (n:Int),r.2=[Yp 5 (cs.map Un),Zz Zu n,Yp 5 (cs.map Un),Zz Zu (cs.length:Int),Zz Zu (i:Int)]∧((r.1 = .ret∧n=Kerb.skErrs [] cs)∨(r.1 = .exit 0∧Kerb.skErrs [] cs=0))) 0 ⟨Nat.zero_le _,by simp⟩ rfl ?_ ?_
  ·rintro i ⟨hi,hp⟩
   simp only [↓A0,A0,Yj]
   by_cases hlt:i<cs.length
   ·rw [sel_pos (by simp;omega),chk_of (by simp;omega),Jw,Kerb.getD_row (d:=Kerb.noSKey) hlt]
    obtain ⟨c,hc⟩:∃ c,cs.getD i Kerb.noSKey=c:=⟨_,rfl⟩
    have hst:=Kerb.skErrs_step hlt hc hp
    have hcm:c∈cs:=hc ▸ Kerb.mem_row hlt
    have ho:=hok c hcm
    rw [hc]
    obtain ⟨⟨s1,s2,s3⟩,kv,ky⟩:=c
    obtain ⟨o1,o2,o3,o4,o5⟩:=ho
    have o4:=Kerb.isI64_iff.1 o4
    have o5:=Kerb.isU64_iff.1 o5
    dsimp only at o1 o2 o3 o4 o5 hst
    simp only [Un,o1,o2,o3,o5,decide_true,Xd,↓A0,A0]
    have k1:∀ code:Int,code≠0→Vx ⟨⟨s1,s2,s3⟩,kv,ky⟩=code→code=Kerb.skErrs [] cs:=fun code h0 he=>by
     rw [he,if_pos h0] at hst;exact hst.symm
    cases h1:Yu ⟨s1,s2,s3⟩
    ·exact ⟨_,rfl,i,_,rfl,.inl ⟨rfl,k1 103 (by decide) (by simp [Vx,h1])⟩⟩
    rw [Yk,sel_false]
    by_cases h2:kv<0
    ·rw [sel_pos (by simpa using h2)]
     exact ⟨_,rfl,i,_,rfl,.inl ⟨rfl,k1 104 (by decide) (by simp [Vx,h1,Yq];omega)⟩⟩
    rw [sel_neg (by simpa using h2)]
    by_cases h3:kv>255
    ·rw [sel_pos (by simpa using h3)]
     exact ⟨_,rfl,i,_,rfl,.inl ⟨rfl,k1 104 (by decide) (by simp [Vx,h1,Yq];omega)⟩⟩
    rw [sel_neg (by simpa using h3)]
    have hw:Yq kv 255=true:=Kerb.within_iff.2 ⟨by omega,by omega⟩
    cases h4:Kerb.keyValid ky
    ·exact ⟨_,rfl,i,_,rfl,.inl ⟨rfl,k1 10 (by decide) (by simp [Vx,h1,hw,h4])⟩⟩
    rw [Yk,sel_false]
    have hz:Vx ⟨⟨s1,s2,s3⟩,kv,ky⟩=0:=by simp [Vx,h1,hw,h4]
    rw [hz,if_neg (by simp)] at hst
    rw [chk_of (by rw [Uq hok];simp;omega),Wd]
    have hq:=Kerb.skAt_lt cs ⟨s1,s2,s3⟩ kv i hi
    have e:decide (((Kerb.skAt cs ⟨s1,s2,s3⟩ kv:Nat):Int)<(i:Int))=decide (Kerb.skAt cs ⟨s1,s2,s3⟩ kv<i):=decide_eq_decide.2 (by omega)
    rw [e,hq]
    cases hd:(cs.take i).any (Kerb.SKey.is ⟨s1,s2,s3⟩ kv)
    ·rw [hd,if_neg (by simp)] at hst
     rw [sel_false,wrap_i64 (by omega) (by omega)]
     exact ⟨_,rfl,i+1,rfl,⟨by omega,hst⟩,by dsimp only;omega⟩
    ·rw [hd,if_pos rfl] at hst
     rw [sel_true]
     exact ⟨_,rfl,i,_,rfl,.inl ⟨rfl,hst.symm⟩⟩
   ·rw [sel_neg (by simp;omega)]
    refine ⟨_,rfl,i,_,rfl,.inr ⟨rfl,?_⟩⟩
    rw [hp,List.drop_eq_nil_of_le (by omega)]
    rfl
  ·rintro ⟨e,l⟩ ⟨i,n,rfl,⟨rfl,h⟩ | ⟨rfl,h⟩⟩
   ·simp only [↓A0,A0,h]
   ·simp only [↓A0,A0,h]
    rw [sel_pos (Nat.beq_refl _)]
 ·cases h
theorem w64:Walked Tryz.prog G 64 8 sp64:=by
 refine ⟨Tryz.f64,Tryz.func64,by decide +kernel,rfl,fun xs bl r h=> ?_⟩
 unfold sp64 at h
 split at h
 ·rename_i sz fl mls
  obtain ⟨hpre,h2⟩:=chk_inv h;cases h2
  refine Eq.trans (b:=(sel (!(decide (1≤sz)&&decide (sz≤40))) (some (Zz .i64 104,[])) (sel (!(decide (0≤fl)&&decide (fl≤4294967295))) (some (Zz .i64 104,[])) (sel (decide ((↑(Zx mls):Int)>sz)) (some (Zz .i64 106,[])) (Zw (loopM (fun (st:List AV)=>cInt .i64 st fun n r=>cInt .i64 r fun n_1 r=>cSl 5 r fun b r=>cInt .i64 r fun n_2 r=>cSl 5 r fun b_1 r=>cInt .i64 r fun n_3 r=>cInt .i64 r fun n_4 r=>let t0:List AV:=[Yp 5 b_1,Zz .i64 n_3,Zz .i64 n_4];let t2:List AV:=List.drop (Xy (↑(0:Nat):Int)) (List.take (Xy n_4) b);let t1:Option (List AV ⊕ Ex×List AV):=some (Vu (Ex.ret,Zz .i64 n::Zz .i64 n_1::Yp 5 b::Zz .i64 104::t0));onNil r (sel (decide (n_4<n_3)) (chk (decide (0≤n_4)&&decide (n_4<(↑(Zx b_1):Int))&&true) (Xn (List.getD b_1 (Xy n_4) AV.undef) fun cs=>cStr cs fun b_2 r=>cStr r fun b_3 r=>cStr r fun b_4 r=>cInt .i64 r fun n_5 r=>cInt .i64 r fun n_6 r=>onNil r (Zw (chk (l63 b_2&&l63 b_3&&l63 b_4) (some (Zv (Yu (Zm b_2 b_3 b_4)),[]))) (kL fun b_5=>sel (!b_5) (some (Vu (Ex.ret,Zz .i64 n::Zz .i64 n_1::Yp 5 b::Zz .i64 103::t0))) (sel (!(decide (n_1≤n_5)&&decide (n_5≤4294967295))) t1 (sel (!(decide (0≤n_6)&&decide (n_6≤199))) t1 (chk (decide ((↑(0:Nat):Int)≤n_4)&&decide (n_4≤(↑(Zx b):Int))) (Zw (chk (Wq t2 Wh&&decide (Zx t2≤1000000)) (some (Zv (Kerb.hasMark (Xj Wk t2) (Um (Zm b_2 b_3 b_4) n_5 n_6)),[]))) (kL fun b_6=>sel b_6 (some (Vu (Ex.ret,Zz .i64 n::Zz .i64 n_1::Yp 5 b::Zz .i64 107::t0))) (some (Sum.inl [Zz .i64 n,Zz .i64 n_1,Yp 5 b,Zz .i64 n_2,Yp 5 b_1,Zz .i64 n_3,Zz .i64 (Zn .i64 (n_4+1))]))))))))))) (some (Vu (Ex.exit 0,Zz .i64 n::Zz .i64 n_1::Yp 5 b::Zz .i64 n_2::t0))))) [Zz .i64 sz,Zz .i64 fl,Yp 5 mls,Zz .i64 0,Yp 5 mls,Zz .i64 (↑(Zx mls):Int),Zz .i64 0]) fun (r:Ex×List AV)=>cInt .i64 (Xq r) fun n r_1=>cInt .i64 r_1 fun n r_2=>cSl 5 r_2 fun b r_3=>cInt .i64 r_3 fun n r_4=>cSl 5 r_4 fun b r_5=>cInt .i64 r_5 fun n_1 r_6=>cInt .i64 r_6 fun n_2 r_7=>onNil r_7 (exK r.1 (some (Zz .i64 n,[])) fun (j:Nat)=>sel (Nat.beq j 0) (some (Zz .i64 0,[])) none)))):Option (AV×Blocks))) (by kernel_rfl) ?_
  delta kL
  try dsimp only [cStr,cBs,cBool,cU8,cInt,cSl,l63]
  simp only [Yx,decide_eq_true_eq] at hpre
  obtain ⟨hall,hlen⟩:=hpre
  obtain ⟨cs,rfl,hok⟩:=Vd hall
  unfold Qg
  rw [Wu]
  simp only [Yj] at hlen ⊢
  cases e1:(decide ((1:Int)≤sz)&&decide (sz≤40))
  ·rw [if_pos (by simp)];rfl
  cases e2:(decide ((0:Int)≤fl)&&decide (fl≤4294967295))
  ·rw [if_pos (by unfold Yq;rw [e2];rfl)];rfl
  rw [Yk,sel_false,sel_false,if_neg (by unfold Yq;rw [e2];simp)]
  simp only [Yx,decide_eq_true_eq] at e1 e2
  by_cases hsz:sz<cs.length
  ·rw [sel_pos (by simp;omega),if_pos hsz]
  rw [sel_neg (by simp;omega),if_neg hsz]
  refine loop_rounds (fun i:Nat=>[Zz Zu sz,Zz Zu fl,Yp 5 (cs.map Xx),Zz Zu 0,Yp 5 (cs.map Xx),Zz Zu (cs.length:Int),Zz Zu (i:Int)]) (fun i=>i≤cs.length∧Jz fl [] cs=Jz fl (cs.take i) (cs.drop i)) (fun i=>cs.length-i)
   (fun r=>∃ (i:Nat) (n:Int),r.2=[Zz Zu sz,Zz Zu fl,Yp 5 (cs.map Xx),Zz Zu n,Yp 5 (cs.map Xx),Zz Zu (cs.length:Int),Zz Zu (i:Int)]∧((r.1 = .ret∧n=Jz fl [] cs)∨(r.1 = .exit 0∧Jz fl [] cs=0))) 0 ⟨Nat.zero_le _,by simp⟩ rfl ?_ ?_
  ·rintro i ⟨hi,hp⟩
   simp only [↓A0,A0,Yj]
   by_cases hlt:i<cs.length
   ·rw [sel_pos (by simp;omega),chk_of (by simp;omega),Jw,Kerb.getD_row (d:=Kerb.noMark) hlt]
    obtain ⟨c,hc⟩:∃ c,cs.getD i Kerb.noMark=c:=⟨_,rfl⟩
    have hst:=Kerb.marksErr_step hlt hc hp
    have hcm:c∈cs:=hc ▸ Kerb.mem_row hlt
    have ho:=hok c hcm
    rw [hc]
    obtain ⟨⟨s1,s2,s3⟩,mt,mk⟩:=c
    obtain ⟨o1,o2,o3,o4,o5⟩:=ho
    dsimp only at o1 o2 o3 o4 o5 hst
    simp only [Xx,o1,o2,o3,decide_true,Xd,↓A0,A0]
    have k1:∀ code:Int,code≠0→Uj fl ⟨⟨s1,s2,s3⟩,mt,mk⟩=code→code=Jz fl [] cs:=fun code h0 he=>by
     rw [he,if_pos h0] at hst;exact hst.symm
    cases h1:Yu ⟨s1,s2,s3⟩
    ·exact ⟨_,rfl,i,_,rfl,.inl ⟨rfl,k1 103 (by decide) (by simp [Uj,h1])⟩⟩
    rw [Yk,sel_false]
    by_cases h2:fl≤mt∧mt≤4294967295
    case neg =>
     rw [sel_pos (by simp;omega)]
     exact ⟨_,rfl,i,_,rfl,.inl ⟨rfl,k1 104 (by decide) (by unfold Uj;rw [if_neg (by simp [h1]),if_pos (by simp [Yq];omega)])⟩⟩
    rw [sel_neg (by simp;omega)]
    by_cases h3:0≤mk∧mk≤199
    case neg =>
     rw [sel_pos (by simp;omega)]
     exact ⟨_,rfl,i,_,rfl,.inl ⟨rfl,k1 104 (by decide) (by unfold Uj;rw [if_neg (by simp [h1]),if_pos (by simp [Yq];omega)])⟩⟩
    rw [sel_neg (by simp;omega)]
    have hw2:(decide (fl≤mt)&&decide (mt≤4294967295)&&Yq mk 199)=true:=by
     rw [Yx,Yx,decide_eq_true_eq,decide_eq_true_eq]
     exact ⟨⟨by omega,by omega⟩,Kerb.within_iff.2 ⟨by omega,by omega⟩⟩
    have hz:Uj fl ⟨⟨s1,s2,s3⟩,mt,mk⟩=0:=by
     unfold Uj
     rw [if_neg (by simp [h1])]
     dsimp only
     rw [hw2]
     rfl
    rw [hz,if_neg (by simp)] at hst
    rw [chk_of (by simp;omega)]
    simp only [Jw,List.drop_zero,← List.map_take]
    rw [chk_of (by rw [Wm (fun c hc=>hok c (List.mem_of_mem_take hc))];simp;omega),Wu]
    cases hd:Kerb.hasMark (cs.take i) ⟨⟨s1,s2,s3⟩,mt,mk⟩
    ·rw [hd,if_neg (by simp)] at hst
     rw [sel_false,wrap_i64 (by omega) (by omega)]
     exact ⟨_,rfl,i+1,rfl,⟨by omega,hst⟩,by dsimp only;omega⟩
    ·rw [hd,if_pos rfl] at hst
     rw [sel_true]
     exact ⟨_,rfl,i,_,rfl,.inl ⟨rfl,hst.symm⟩⟩
   ·rw [sel_neg (by simp;omega)]
    refine ⟨_,rfl,i,_,rfl,.inr ⟨rfl,?_⟩⟩
    rw [hp,List.drop_eq_nil_of_le (by omega)]
    rfl
  ·rintro ⟨e,l⟩ ⟨i,n,rfl,⟨rfl,h⟩ | ⟨rfl,h⟩⟩
   ·simp only [↓A0,A0,h]
   ·simp only [↓A0,A0,h]
    rw [sel_pos (Nat.beq_refl _)]
 ·cases h
theorem w175:Walked Tryz.prog G 175 8 sp175:=by
 refine ⟨Tryz.f175,Tryz.func175,by decide +kernel,rfl,fun xs bl r h=> ?_⟩
 unfold sp175 at h
 split at h
 ·rename_i b pos
  obtain ⟨hpre,h2⟩:=chk_inv h;cases h2
  refine Eq.trans (b:=(Zw (loopM (fun (st:List AV)=>cBs st fun b r=>cInt .i64 r fun n r=>let t0:Option (AV×Blocks):=chk (decide (Zx b≤4611686018427387904)) (some (Zg [Zy (Kerb.GotB.val (Wv b n)),Zz .i64 (Kerb.GotB.next (Wv b n)),Zz .i64 (Kerb.GotB.err (Wv b n))],[]));cStr r fun b_1 r=>cStr r fun b_2 r=>cStr r fun b_3 r=>cInt .i64 r fun n_1 r=>cInt .i64 r fun n_2 r=>cStr r fun b_4 r=>cStr r fun b_5 r=>cStr r fun b_6 r=>cInt .i64 r fun n_3 r=>cInt .i64 r fun n_4 r=>let t1:List AV:=[Zy b_6,Zz .i64 n_3,Zz .i64 (Zn .i64 (n_4+1))];onNil r (sel (decide (n_4<n_3)) (chk (decide (0≤n_4)&&decide (n_4<(↑(Zx [0,1,2]):Int))&&true) (sel (Nat.beq (Xy n_4) 0) (Zw t0 (kT fun vs=>cStr vs fun b_7 r=>cInt .i64 r fun n r=>cInt .i64 r fun n_5 r=>onNil r (sel (!n_5==0) (some (Vu (Ex.ret,[Zd b,Zz .i64 n,Zy [],Zy [],Zy [],Zz .i64 0,Zz .i64 n_5,Zy b_7,Zy b_5,Zy b_6,Zz .i64 n_3,Zz .i64 n_4]))) (some (Sum.inl (Zd b::Zz .i64 n::Zy b_1::Zy b_2::Zy b_3::Zz .i64 n_1::Zz .i64 n_2::Zy b_7::Zy b_5::t1)))))) (sel (Nat.beq (Xy n_4-1) 0) (Zw t0 (kT fun vs=>cStr vs fun b_7 r=>cInt .i64 r fun n r=>cInt .i64 r fun n_5 r=>onNil r (sel (!n_5==0) (some (Vu (Ex.ret,[Zd b,Zz .i64 n,Zy [],Zy [],Zy [],Zz .i64 0,Zz .i64 n_5,Zy b_4,Zy b_7,Zy b_6,Zz .i64 n_3,Zz .i64 n_4]))) (some (Sum.inl (Zd b::Zz .i64 n::Zy b_1::Zy b_2::Zy b_3::Zz .i64 n_1::Zz .i64 n_2::Zy b_4::Zy b_7::t1)))))) (sel (Nat.beq (Xy n_4-1-1) 0) (Zw t0 (kT fun vs=>cStr vs fun b_7 r=>cInt .i64 r fun n r=>cInt .i64 r fun n_5 r=>onNil r (sel (!n_5==0) (some (Vu (Ex.ret,[Zd b,Zz .i64 n,Zy [],Zy [],Zy [],Zz .i64 0,Zz .i64 n_5,Zy b_4,Zy b_5,Zy b_7,Zz .i64 n_3,Zz .i64 n_4]))) (some (Sum.inl [Zd b,Zz .i64 n,Zy b_1,Zy b_2,Zy b_3,Zz .i64 n_1,Zz .i64 n_2,Zy b_4,Zy b_5,Zy b_7,Zz .i64 n_3,Zz .i64 (Zn .i64 (n_4+1))]))))) none)))) (some (Vu (Ex.exit 0,[Zd b,Zz .i64 n,Zy b_1,Zy b_2,Zy b_3,Zz .i64 n_1,Zz .i64 n_2,Zy b_4,Zy b_5,Zy b_6,Zz .i64 n_3,Zz .i64 n_4]))))) [Zd b,Zz .i64 pos,Zy [],Zy [],Zy [],Zz .i64 0,Zz .i64 0,Zy [],Zy [],Zy [],Zz .i64 (↑(Zx [0+0,0+1,0+2]):Int),Zz .i64 0]) fun (r:Ex×List AV)=>cBs (Xq r) fun b r_1=>cInt .i64 r_1 fun n r_2=>cStr r_2 fun b r_3=>cStr r_3 fun b_1 r_4=>cStr r_4 fun b_2 r_5=>cInt .i64 r_5 fun n_1 r_6=>cInt .i64 r_6 fun n_2 r_7=>cStr r_7 fun b_3 r_8=>cStr r_8 fun b_4 r_9=>cStr r_9 fun b_5 r_10=>cInt .i64 r_10 fun n_3 r_11=>cInt .i64 r_11 fun n_4 r_12=>onNil r_12 (exK r.1 (some (Zg [Yy [Zy b,Zy b_1,Zy b_2],Zz .i64 n_1,Zz .i64 n_2],[])) fun (j:Nat)=>sel (Nat.beq j 0) (Zw (chk (l63 b_3&&l63 b_4&&l63 b_5) (some (Zv (Yu (Zm b_3 b_4 b_5)),[]))) (kL fun b=>sel (!b) (some (Zg [Yy [Zy [],Zy [],Zy []],Zz .i64 0,Zz .i64 103],[])) (some (Zg [Yy [Zy b_3,Zy b_4,Zy b_5],Zz .i64 n,Zz .i64 0],[])))) none):Option (AV×Blocks))) (by kernel_rfl) ?_
  delta kT kL
  try dsimp only [cStr,cBs,cBool,cU8,cInt,cSl,l63]
  have hb:=of_decide_eq_true hpre
  obtain ⟨T0,hT0⟩:∃ T,T=Wv b pos:=⟨_,rfl⟩
  obtain ⟨T1,hT1⟩:∃ T,T=Wv b T0.next:=⟨_,rfl⟩
  obtain ⟨T2,hT2⟩:∃ T,T=Wv b T1.next:=⟨_,rfl⟩
  have hp:Xp b pos=if T0.err≠0 then ⟨Kerb.noPrin,0,T0.err⟩ else if T1.err≠0 then ⟨Kerb.noPrin,0,T1.err⟩ else if T2.err≠0 then ⟨Kerb.noPrin,0,T2.err⟩
    else if Yu ⟨T0.val,T1.val,T2.val⟩ then ⟨⟨T0.val,T1.val,T2.val⟩,T2.next,0⟩ else ⟨Kerb.noPrin,0,103⟩:=by
   rw [hT2,hT1,hT0];rfl
  have k0:=Qh b pos
  rw [← hT0] at k0
  have k1:=Qh b T0.next
  rw [← hT1] at k1
  have k2:=Qh b T1.next
  rw [← hT2] at k2
  refine loop_rounds (fun i:Nat=>match i with
    | 0=>[Zd b,Zz Zu pos,Zy [],Zy [],Zy [],Zz Zu 0,Zz Zu 0,Zy [],Zy [],Zy [],Zz Zu 3,Zz Zu 0]
    | 1=>[Zd b,Zz Zu T0.next,Zy [],Zy [],Zy [],Zz Zu 0,Zz Zu 0,Zy T0.val,Zy [],Zy [],Zz Zu 3,Zz Zu 1]
    | 2=>[Zd b,Zz Zu T1.next,Zy [],Zy [],Zy [],Zz Zu 0,Zz Zu 0,Zy T0.val,Zy T1.val,Zy [],Zz Zu 3,Zz Zu 2]
    | _=>[Zd b,Zz Zu T2.next,Zy [],Zy [],Zy [],Zz Zu 0,Zz Zu 0,Zy T0.val,Zy T1.val,Zy T2.val,Zz Zu 3,Zz Zu 3])
   (fun i=>i≤3∧(1≤i→T0.err=0)∧(2≤i→T1.err=0)∧(3≤i→T2.err=0)) (fun i=>3-i)
   (fun r=>(T0.err=0∧T1.err=0∧T2.err=0∧r=(Ex.exit 0,[Zd b,Zz Zu T2.next,Zy [],Zy [],Zy [],Zz Zu 0,Zz Zu 0,Zy T0.val,Zy T1.val,Zy T2.val,Zz Zu 3,Zz Zu 3])) ∨
    ∃ n x y z i,Xp b pos=⟨Kerb.noPrin,0,(Xp b pos).err⟩∧r=(Ex.ret,[Zd b,Zz Zu n,Zy [],Zy [],Zy [],Zz Zu 0,Zz Zu (Xp b pos).err,Zy x,Zy y,Zy z,Zz Zu 3,Zz Zu i])) 0 ⟨by omega,by omega,by omega,by omega⟩ rfl ?_ ?_
  ·rintro i ⟨hi,g0,g1,g2⟩
   have hc:i=0∨i=1∨i=2∨i=3:=by omega
   rcases hc with rfl | rfl | rfl | rfl
   ·simp only [A0]
    rw [sel_pos (by decide),chk_of (by decide),sel_pos (by decide),chk_of hpre,← hT0]
    by_cases h:T0.err=0
    ·rw [sel_neg (by simp [h])]
     exact ⟨_,rfl,1,rfl,⟨by omega,fun _=>h,by omega,by omega⟩,by dsimp only;omega⟩
    ·rw [sel_pos (by simpa using h)]
     exact ⟨_,rfl,.inr ⟨_,_,_,_,_,by rw [hp,if_pos h],by rw [hp,if_pos h]⟩⟩
   ·simp only [A0]
    have e0:=g0 (by omega)
    rw [sel_pos (by decide),chk_of (by decide),sel_neg (by decide),sel_pos (by decide),chk_of hpre,← hT1]
    by_cases h:T1.err=0
    ·rw [sel_neg (by simp [h])]
     exact ⟨_,rfl,2,rfl,⟨by omega,fun _=>e0,fun _=>h,by omega⟩,by dsimp only;omega⟩
    ·rw [sel_pos (by simpa using h)]
     exact ⟨_,rfl,.inr ⟨_,_,_,_,_,by rw [hp,if_neg (by simp [e0]),if_pos h],by rw [hp,if_neg (by simp [e0]),if_pos h]⟩⟩
   ·simp only [A0]
    have e0:=g0 (by omega)
    have e1:=g1 (by omega)
    rw [sel_pos (by decide),chk_of (by decide),sel_neg (by decide),sel_neg (by decide),sel_pos (by decide),chk_of hpre,← hT2]
    by_cases h:T2.err=0
    ·rw [sel_neg (by simp [h])]
     exact ⟨_,rfl,3,rfl,⟨by omega,fun _=>e0,fun _=>e1,fun _=>h⟩,by dsimp only;omega⟩
    ·rw [sel_pos (by simpa using h)]
     exact ⟨_,rfl,.inr ⟨_,_,_,_,_,by rw [hp,if_neg (by simp [e0]),if_neg (by simp [e1]),if_pos h],by rw [hp,if_neg (by simp [e0]),if_neg (by simp [e1]),if_pos h]⟩⟩
   ·simp only [A0]
    rw [sel_neg (by decide)]
    exact ⟨_,rfl,.inl ⟨g0 (by omega),g1 (by omega),g2 (by omega),rfl⟩⟩
  ·rintro r (⟨e0,e1,e2,rfl⟩ | ⟨n,x,y,z,i,h,rfl⟩)
   ·simp only [A0]
    rw [sel_pos (Nat.beq_refl _),chk_of (by simp;omega),hp,if_neg (by simp [e0]),if_neg (by simp [e1]),if_neg (by simp [e2])]
    cases hv:Yu ⟨T0.val,T1.val,T2.val⟩
    ·rfl
    ·rfl
   ·simp only [A0]
    rw [h]
    rfl
 ·cases h
theorem w184:Walked Tryz.prog G 184 8 sp184:=by
 refine ⟨Tryz.f184,Tryz.func184,by decide +kernel,rfl,fun xs bl r h=> ?_⟩
 unfold sp184 at h
 split at h
 ·rename_i li x y z ad k lf iss sv ins
  obtain ⟨hpre,h2⟩:=chk_inv h;cases h2
  refine Eq.trans (b:=(Zw (chk (decide (Zx x≤9223372036854775807)&&decide (Zx y≤9223372036854775807)&&decide (Zx z≤9223372036854775807)) (some (Zv (Yu (Zm x y z)),[]))) fun (r:AV×Blocks)=>onNilB (Xq r) (Qd (Wx r) fun b=>sel (!b) (some (Zz .i64 103,[])) (Zw (chk (decide (Zx sv≤9223372036854775807)) (some (Zv (Kerb.validName sv),[]))) fun (r:AV×Blocks)=>onNilB (Xq r) (Qd (Wx r) fun b=>sel (!b) (some (Zz .i64 103,[])) (Zw (chk (decide (Zx ins≤9223372036854775807)) (some (Zv (Kerb.validInst ins),[]))) fun (r:AV×Blocks)=>onNilB (Xq r) (Qd (Wx r) fun b=>sel (!b) (some (Zz .i64 103,[])) (Zw (chk (decide (0≤k)&&decide (k<18446744073709551616)) (some (Zz .i64 (Kerb.classOf k),[]))) fun (r:AV×Blocks)=>onNilB (Xq r) (AV.onInt .i64 (Wx r) fun n=>sel (!n==2) (some (Zz .i64 10,[])) (sel (!Yq ad 4294967295) (some (Zz .i64 104,[])) (sel (!Yq lf 255) (some (Zz .i64 104,[])) (sel (!Yq iss 4294967295) (some (Zz .i64 104,[])) (some (Zz .i64 0,[])))))))))))):Option (AV×Blocks))) (by kernel_rfl) ?_
  simp only [Yx,decide_eq_true_eq] at hpre
  obtain ⟨⟨⟨⟨⟨⟨h1,h2⟩,h3⟩,h4⟩,h5⟩,h6⟩,h7⟩:=hpre
  simp only [h1,h2,h3,h4,h5,h6,h7,decide_true,Xd,↓A0,A0]
  unfold Kerb.Ticket.err
  dsimp only
  cases Yu ⟨x,y,z⟩
  ·rfl
  cases Kerb.validName sv
  ·rfl
  cases Kerb.validInst ins
  ·rfl
  simp only [Yk,Xd,sel_false]
  by_cases hc:Kerb.classOf k=2
  case neg=>rw [sel_pos (by simpa using hc),if_neg (by simp),if_pos hc]
  rw [sel_neg (by simp [hc]),if_neg (by simp),if_neg (by simp [hc])]
  cases Yq ad 4294967295
  ·rfl
  cases Yq lf 255
  ·rfl
  cases Yq iss 4294967295
  ·rfl
  rfl
 ·cases h
theorem w186:Walked Tryz.prog G 186 8 sp186:=by
 refine ⟨Tryz.f186,Tryz.func186,by decide +kernel,rfl,fun xs bl r h=> ?_⟩
 unfold sp186 at h
 split at h
 ·rename_i x y z ck tc tm
  obtain ⟨hpre,h2⟩:=chk_inv h;cases h2
  refine Eq.trans (b:=(Zw (chk (decide (Zx x≤9223372036854775807)&&decide (Zx y≤9223372036854775807)&&decide (Zx z≤9223372036854775807)) (some (Zv (Yu (Zm x y z)),[]))) fun (r:AV×Blocks)=>onNilB (Xq r) (Qd (Wx r) fun b=>sel (!b) (some (Zz .i64 103,[])) (sel (!Yq ck 4294967295) (some (Zz .i64 104,[])) (sel (!Yq tc 199) (some (Zz .i64 104,[])) (sel (!Yq tm 4294967295) (some (Zz .i64 104,[])) (some (Zz .i64 0,[])))))):Option (AV×Blocks))) (by kernel_rfl) ?_
  simp only [A0,Uh,Qw,Qn,hpre]
  unfold Kerb.Auth.check
  simp only
  cases Yu ⟨x,y,z⟩
  ·rfl
  cases Yq ck 4294967295
  ·rfl
  cases Yq tc 199
  ·rfl
  cases Yq tm 4294967295<;>rfl
 ·cases h
theorem w26:Walked Tryz.prog G 26 9 sp26:=by
 refine ⟨Tryz.f26,Tryz.func26,by decide +kernel,rfl,fun xs bl r h=> ?_⟩
 unfold sp26 at h
 split at h
 ·rename_i m1 m2 m3 kls sz fl mls sk
  obtain ⟨hpre,h2⟩:=chk_inv h;cases h2
  refine Eq.trans (b:=(Zw (chk (decide (Zx m1≤9223372036854775807)&&decide (Zx m2≤9223372036854775807)&&decide (Zx m3≤9223372036854775807)) (some (Zv (Yu (Zm m1 m2 m3)),[]))) fun (r:AV×Blocks)=>onNilB (Xq r) (Qd (Wx r) fun b=>sel (!b) (some (Zz .i64 103,[])) (Zw (chk (Wq kls Qz&&decide (Zx kls≤1000000)) (some (Zz .i64 (Kerb.skErr (Xj Wj kls)),[]))) fun (r:AV×Blocks)=>onNilB (Xq r) (AV.onInt .i64 (Wx r) fun n=>sel (!n==0) (some (Zz .i64 n,[])) (Zw (chk (Wq mls Wh&&decide (Zx mls≤1000000)) (some (Zz .i64 (Qg (Xg sz fl (Xj Wk mls))),[]))) fun (r:AV×Blocks)=>onNilB (Xq r) (AV.onInt .i64 (Wx r) fun n=>sel (!n==0) (some (Zz .i64 n,[])) (sel (!Yq sk 4294967295) (some (Zz .i64 104,[])) (some (Zz .i64 0,[])))))))):Option (AV×Blocks))) (by kernel_rfl) ?_
  simp only [Yx,decide_eq_true_eq] at hpre
  obtain ⟨⟨⟨⟨⟨⟨l1,l2⟩,l3⟩,ka⟩,kl⟩,ma⟩,ml⟩:=hpre
  obtain ⟨ks,rfl,hks⟩:=Uf ka
  obtain ⟨ms,rfl,hms⟩:=Vd ma
  have hkT:=Uq hks
  have hmT:=Wm hms
  simp only [Yj] at kl ml
  simp only [Wd,Wu,Yj,hkT,hmT,kl,ml,l1,l2,l3,decide_true,Xd,↓A0,A0]
  unfold Qf
  dsimp only
  cases g1:Yu ⟨m1,m2,m3⟩
  ·rfl
  rw [Yk,sel_false,if_neg (by simp)]
  by_cases g2:Kerb.skErr ks=0
  case neg=>rw [sel_pos (by simpa using g2),if_pos g2]
  rw [sel_neg (by simpa using g2),if_neg (by simpa using g2)]
  by_cases g3:Qg ⟨sz,fl,ms⟩=0
  case neg=>rw [sel_pos (by simpa using g3),if_pos g3]
  rw [sel_neg (by simpa using g3),if_neg (by simpa using g3)]
  cases Yq sk 4294967295<;>rfl
 ·cases h
theorem w47:Walked Tryz.prog G 47 9 sp47:=by
 refine ⟨Tryz.f47,Tryz.func47,by decide +kernel,rfl,fun xs bl r h=> ?_⟩
 unfold sp47 at h
 split at h
 ·rename_i sz fl mls a1 a2 a3 at_ atk now skw
  obtain ⟨hpre,h2⟩:=chk_inv h;cases h2
  refine Eq.trans (b:=(let t0:AV:=Yy [Zz .i64 0,Zz .i64 0,Yp 5 []];Zw (chk (Wq mls Wh&&decide (Zx mls≤1000000)) (some (Zz .i64 (Qg (Xg sz fl (Xj Wk mls))),[]))) (kI .i64 fun n=>sel (!n==0) (some (Zg [t0,Zz .i64 108],[])) (Zw (chk (l63 a1&&l63 a2&&l63 a3) (some (Zv (Yu (Zm a1 a2 a3)),[]))) (kL fun b=>sel (!b) (some (Zg [t0,Zz .i64 103],[])) (sel (!(decide (0≤atk)&&decide (atk≤199))) (some (Zg [t0,Zz .i64 104],[])) (sel (!Kerb.near at_ now skw) (some (Zg [t0,Zz .i64 37],[])) (sel (decide (at_<fl)) (some (Zg [t0,Zz .i64 37],[])) (Zw (chk (Wq mls Wh&&decide (Zx mls≤1000000)) (some (Zv (Kerb.hasMark (Xj Wk mls) (Um (Zm a1 a2 a3) at_ atk)),[]))) (kL fun b=>sel b (some (Zg [t0,Zz .i64 34],[])) (Zw (loopM (fun (st:List AV)=>cInt .i64 st fun n r=>cInt .i64 r fun n_1 r=>cSl 5 r fun b r=>cStr r fun b_1 r=>cStr r fun b_2 r=>cStr r fun b_3 r=>cInt .i64 r fun n_2 r=>cInt .i64 r fun n_3 r=>cInt .i64 r fun n_4 r=>cInt .i64 r fun n_5 r=>cSl 5 r fun b_4 r=>cInt .i64 r fun n_6 r=>cInt .i64 r fun n_7 r=>onCons r fun x r=>AV.onOwnL x fun y=>cSl 5 r fun b_5 r=>cInt .i64 r fun n_8 r=>cInt .i64 r fun n_9 r=>let t1:List AV:=[Yp 5 b_5,Zz .i64 n_8,Zz .i64 (Zn .i64 (n_9+1))];onNil r (sel (decide (n_9<n_8)) (chk (decide (0≤n_9)&&decide (n_9<(↑(Zx b_5):Int))&&true) (Xn (List.getD b_5 (Xy n_9) AV.undef) fun cs=>cStr cs fun b_6 r=>cStr r fun b_7 r=>cStr r fun b_8 r=>cInt .i64 r fun n_10 r=>cInt .i64 r fun n_11 r=>let t2:List AV:=[Yy [Zy b_6,Zy b_7,Zy b_8,Zz .i64 n_10,Zz .i64 n_11]];onNil r (sel (decide (n_10≥n_7)) (chk (room (Zx y+Zx t2) (nat_lit 64)) (some (Sum.inl (Zz .i64 n::Zz .i64 n_1::Yp 5 b::Zy b_1::Zy b_2::Zy b_3::Zz .i64 n_2::Zz .i64 n_3::Zz .i64 n_4::Zz .i64 n_5::Yp 5 b_4::Zz .i64 n_6::Zz .i64 n_7::AV.ownL (y++t2)::t1)))) (some (Sum.inl (Zz .i64 n::Zz .i64 n_1::Yp 5 b::Zy b_1::Zy b_2::Zy b_3::Zz .i64 n_2::Zz .i64 n_3::Zz .i64 n_4::Zz .i64 n_5::Yp 5 b_4::Zz .i64 n_6::Zz .i64 n_7::AV.ownL y::t1)))))) (some (Vu (Ex.exit 1,[Zz .i64 n,Zz .i64 n_1,Yp 5 b,Zy b_1,Zy b_2,Zy b_3,Zz .i64 n_2,Zz .i64 n_3,Zz .i64 n_4,Zz .i64 n_5,Yp 5 b_4,Zz .i64 n_6,Zz .i64 n_7,AV.ownL y,Yp 5 b_5,Zz .i64 n_8,Zz .i64 n_9]))))) [Zz .i64 sz,Zz .i64 fl,Yp 5 mls,Zy a1,Zy a2,Zy a3,Zz .i64 at_,Zz .i64 atk,Zz .i64 0,Zz .i64 0,Yp 5 [],Zz .i64 sz,Zz .i64 (Kerb.imax fl (Zn .i64 (now-skw))),AV.ownL [],Yp 5 mls,Zz .i64 (↑(Zx mls):Int),Zz .i64 0]) fun (r:Ex×List AV)=>cInt .i64 (Xq r) fun n r_1=>cInt .i64 r_1 fun n_1 r_2=>cSl 5 r_2 fun b r_3=>cStr r_3 fun b r_4=>cStr r_4 fun b_1 r_5=>cStr r_5 fun b_2 r_6=>cInt .i64 r_6 fun n_2 r_7=>cInt .i64 r_7 fun n_3 r_8=>let t3:List AV:=[Yy [Zy b,Zy b_1,Zy b_2,Zz .i64 n_2,Zz .i64 n_3]];cInt .i64 r_8 fun n_4 r_9=>cInt .i64 r_9 fun n_5 r_10=>cSl 5 r_10 fun b r_11=>cInt .i64 r_11 fun n_6 r_12=>cInt .i64 r_12 fun n_7 r_13=>onCons r_13 fun x r_14=>AV.onOwnL x fun y=>cSl 5 r_14 fun b r_15=>cInt .i64 r_15 fun n_8 r_16=>cInt .i64 r_16 fun n_9 r_17=>onNil r_17 (exK r.1 none fun (j:Nat)=>sel (Nat.beq j 1) (sel (decide ((↑(Zx y):Int)≥n)) (some (Zg [t0,Zz .i64 82],[])) (chk (room (Zx y+Zx t3) (nat_lit 64)) (some (Zg [Yy [Zz .i64 n_6,Zz .i64 n_7,Yp 5 (y++t3)],Zz .i64 0],[])))) none)))))))))):Option (AV×Blocks))) (by kernel_rfl) ?_
  delta kL kI
  try dsimp only [cStr,cBs,cBool,cU8,cInt,cSl,l63]
  simp only [Yx,decide_eq_true_eq] at hpre
  obtain ⟨⟨⟨⟨hall,hlen⟩,l1⟩,l2⟩,l3⟩:=hpre
  obtain ⟨cs,rfl,hok⟩:=Vd hall
  have hma:=Wm hok
  simp only [Yj] at hlen
  have hlT:decide (cs.length≤1000000)=true:=decide_eq_true hlen
  simp only [Wu,Yj,hma,hlT,l1,l2,l3,decide_true,Xd,↓A0,A0]
  obtain ⟨R,hR⟩:∃ R,Xg sz fl cs=R:=⟨_,rfl⟩
  unfold Kerb.addMark
  by_cases h1:(Xg sz fl cs).err=0
  case neg=>rw [sel_pos (by simpa using h1),if_pos h1];rfl
  rw [sel_neg (by simpa using h1),if_neg (by simpa using h1)]
  cases h2:Yu ⟨a1,a2,a3⟩
  ·rfl
  rw [Yk,sel_false,if_neg (by simp)]
  cases h3:(decide ((0:Int)≤atk)&&decide (atk≤199))
  ·rw [if_pos (by unfold Yq;rw [h3];rfl)];rfl
  rw [Yk,sel_false,if_neg (by unfold Yq;rw [h3];simp)]
  cases h4:Kerb.near at_ now skw
  ·rw [if_pos (.inl rfl)];rfl
  rw [Yk,sel_false]
  by_cases h5:at_<fl
  ·rw [sel_pos (by simpa using h5),if_pos (.inr h5)];rfl
  rw [sel_neg (by simpa using h5),if_neg (by simp;omega)]
  cases h6:Kerb.hasMark cs ⟨⟨a1,a2,a3⟩,at_,atk⟩
  case true=>rfl
  rw [sel_false,if_neg (by simp)]
  have hn:(0≤now∧now≤4294967295)∧(0≤skw∧skw≤4294967295):=by
   simp only [Kerb.near,Yx,Kerb.within_iff] at h4
   omega
  rw [wrap_i64 (n:=now-skw) (by omega) (by omega)]
  obtain ⟨FL,hFL⟩:∃ FL,Kerb.imax fl (now-skw)=FL:=⟨_,rfl⟩
  have hfr:Kerb.freshMarks ⟨sz,fl,cs⟩ now skw=cs.filter (fun x=>decide (FL≤x.time)):=by rw [← hFL];rfl
  rw [hfr,hFL]
  have r64:∀ {m:Nat},m≤1000001→Go.Abs.room m 64=true:=fun h=>by simp [Go.Abs.room];omega
  have hfl:∀ i,((cs.take i).filter (fun x=>decide (FL≤x.time))).length≤1000000:=fun i=>by
   refine Up (List.length_filter_le _ _) ?_
   rw [List.length_take];omega
  refine loop_rounds (fun i:Nat=>[Zz Zu sz,Zz Zu fl,Yp 5 (cs.map Xx),Zy a1,Zy a2,Zy a3,Zz Zu at_,Zz Zu atk,Zz Zu 0,Zz Zu 0,Yp 5 [],Zz Zu sz,Zz Zu FL,AV.ownL (((cs.take i).filter (fun x=>decide (FL≤x.time))).map Xx),Yp 5 (cs.map Xx),Zz Zu (cs.length:Int),Zz Zu (i:Int)]) (fun i=>i≤cs.length) (fun i=>cs.length-i)
   (fun r=>∃ i:Nat,r=(Ex.exit 1,[Zz Zu sz,Zz Zu fl,Yp 5 (cs.map Xx),Zy a1,Zy a2,Zy a3,Zz Zu at_,Zz Zu atk,Zz Zu 0,Zz Zu 0,Yp 5 [],Zz Zu sz,Zz Zu FL,AV.ownL (((cs.take i).filter (fun x=>decide (FL≤x.time))).map Xx),Yp 5 (cs.map Xx),Zz Zu (cs.length:Int),Zz Zu (i:Int)])∧i=cs.length) 0 (Nat.zero_le _) rfl ?_ ?_
  ·intro i hi
   simp only [↓A0,A0,Yj,List.length_cons,List.length_nil]
   by_cases hlt:i<cs.length
   ·have hk1:(decide ((0:Int)≤(i:Int))&&decide ((i:Int)<(cs.length:Int))&&true)=true:=by simp;omega
    have hg:(cs.map Xx).getD i AV.undef=(cs.getD i Kerb.noMark).av:=Kerb.getD_row hlt
    obtain ⟨c,hc⟩:∃ c,cs.getD i Kerb.noMark=c:=⟨_,rfl⟩
    have hs:(cs.take (i+1)).filter (fun x=>decide (FL≤x.time))=(cs.take i).filter (fun x=>decide (FL≤x.time))++(if FL≤c.time then [c] else []):=by
     rw [Kerb.take_row (d:=Kerb.noMark) hlt,hc,List.filter_append]
     congr 1
     by_cases q:FL≤c.time<;>simp [q]
    rw [hc] at hg
    rw [sel_pos (by simp;omega)]
    simp only [hk1,Jw,hg,Xx,↓A0,A0]
    rw [wrap_i64 (by omega) (by omega)]
    by_cases hq:FL≤c.time
    ·rw [if_pos hq] at hs
     rw [sel_pos (by simpa using hq),chk_of (r64 (by have:=hfl i;omega))]
     refine ⟨_,rfl,i+1,?_,by omega,by dsimp only;omega⟩
     dsimp only
     rw [hs,List.map_append]
     rfl
    ·rw [if_neg hq,List.append_nil] at hs
     rw [sel_neg (by simpa using hq)]
     exact ⟨_,rfl,i+1,by dsimp only;rw [hs];rfl,by omega,by dsimp only;omega⟩
   ·rw [sel_neg (by simp;omega)]
    exact ⟨_,rfl,i,rfl,by omega⟩
  ·rintro _ ⟨i,rfl,rfl⟩
   simp only [↓A0,A0,Yj,List.length_cons,List.length_nil]
   rw [sel_pos (Nat.beq_refl _),List.take_length]
   have hF:=hfl cs.length
   rw [List.take_length] at hF
   by_cases h7:sz≤((cs.filter (fun x=>decide (FL≤x.time))).length:Int)
   ·rw [sel_pos (by simp;omega),if_pos h7];rfl
   ·rw [sel_neg (by simp;omega),if_neg h7,chk_of (r64 (by omega)),List.map_append]
    rfl
 ·cases h
theorem w178:Walked Tryz.prog G 178 9 sp178:=by
 refine ⟨Tryz.f178,Tryz.func178,by decide +kernel,rfl,fun xs bl r h=> ?_⟩
 unfold sp178 at h
 split at h
 ·rename_i li x y z ad k lf iss sv ins
  obtain ⟨hpre,h2⟩:=chk_inv h;cases h2
  refine Eq.trans (b:=(let t0:Nat:=Zx ([]++Ym 1 1 false)+Zx x+Zx y+Zx z;let t1:Nat:=Zx ([]++Ym 0 1 false)+Zx x+Zx y+Zx z;let t2:Option (AV×Blocks):=chk (decide (0≤k)&&decide (k<18446744073709551616)) (some (Zd (Kerb.keyBytes k),[]));Zw (chk (l63 x&&l63 y&&l63 z&&l63 sv&&l63 ins&&decide (0≤k)&&decide (k<18446744073709551616)) (some (Zz .i64 (Kerb.Ticket.err (Ub li (Zm x y z) ad k lf iss sv ins)),[]))) (kI .i64 fun n=>sel (!n==0) (some (Zg [Zd [],Zz .i64 n],[])) (sel li (Zw (chk (decide (t0≤70368744170000)) (some (Zd (Kerb.putPrin ([]++Ym 1 1 false) (Zm x y z)),[]))) (kB fun b=>Zw (chk (decide (Zx b≤70368744177664)) (some (Wy (b++Ym ad 4 li),[]))) (kO fun l=>Zw t2 (kB fun b=>Zw (chk (decide (Zx (Yh l (Yh b []))≤140737488355328)&&decide (Zx [Zd l,Zd b]≤1000)) (some (Wy (Yh l (Yh b [])),[]))) (kO fun l=>Zw (chk (decide (Zx l≤70368744177664)) (some (Wy (l++Ym lf 1 false),[]))) (kO fun l=>Zw (chk (decide (Zx l≤70368744177664)) (some (Wy (l++Ym iss 4 li),[]))) (kO fun l=>Zw (chk (decide (Zx l+Zx sv≤70368744177664)) (some (Zd (Xf l sv),[]))) (kB fun b=>Zw (chk (decide (Zx b+Zx ins≤70368744177664)) (some (Zd (Xf b ins),[]))) (kB fun b=>Zw (chk (decide (Zx b≤70368744177664)) (some (Zd (Kerb.pad b),[]))) (kB fun b=>some (Zg [Zd b,Zz .i64 0],[]))))))))))) (Zw (chk (decide (t1≤70368744170000)) (some (Zd (Kerb.putPrin ([]++Ym 0 1 false) (Zm x y z)),[]))) (kB fun b=>Zw (chk (decide (Zx b≤70368744177664)) (some (Wy (b++Ym ad 4 li),[]))) (kO fun l=>Zw t2 (kB fun b=>Zw (chk (decide (Zx (Yh l (Yh b []))≤140737488355328)&&decide (Zx [Zd l,Zd b]≤1000)) (some (Wy (Yh l (Yh b [])),[]))) (kO fun l=>Zw (chk (decide (Zx l≤70368744177664)) (some (Wy (l++Ym lf 1 false),[]))) (kO fun l=>Zw (chk (decide (Zx l≤70368744177664)) (some (Wy (l++Ym iss 4 li),[]))) (kO fun l=>Zw (chk (decide (Zx l+Zx sv≤70368744177664)) (some (Zd (Xf l sv),[]))) (kB fun b=>Zw (chk (decide (Zx b+Zx ins≤70368744177664)) (some (Zd (Xf b ins),[]))) (kB fun b=>Zw (chk (decide (Zx b≤70368744177664)) (some (Zd (Kerb.pad b),[]))) (kB fun b=>some (Zg [Zd b,Zz .i64 0],[]))))))))))))):Option (AV×Blocks))) (by kernel_rfl) ?_
  delta kB kO kI
  try dsimp only [cStr,cBs,cBool,cU8,cInt,cSl,l63]
  simp only [Yx,decide_eq_true_eq] at hpre
  obtain ⟨⟨⟨⟨⟨⟨h1,h2⟩,h3⟩,h4⟩,h5⟩,h6⟩,h7⟩:=hpre
  simp only [h1,h2,h3,h4,h5,h6,h7,decide_true,Xd,↓A0,A0]
  have hb := @Kerb.encTicket_inv ⟨li,⟨x,y,z⟩,ad,k,lf,iss,sv,ins⟩
  unfold Kerb.encodeTicket at hb ⊢
  dsimp only at hb ⊢
  generalize hE:Kerb.Ticket.err _=e at hb ⊢
  by_cases he:e=0
  case neg=>rw [sel_pos (by simpa using he),if_pos he]
  rw [if_neg (by simpa using he)] at hb
  obtain ⟨v1,v2,v3,_⟩:=hb rfl
  have l1:=Kerb.valid_len v1
  have l2:=(Kerb.name_ok v2).1
  have l3:=(Kerb.inst_ok v3).1
  dsimp only at l1
  rw [sel_neg (by simpa using he),if_neg (by simpa using he)]
  cases li
  ·rw [sel_false,chk_of (by first | (simp [Zk,Zp,Zf];done) | (simp [Zk,Zp,Zf];omega)),chk_of (by first | (simp [Zk,Zp,Zf];done) | (simp [Zk,Zp,Zf];omega)),chk_of (by first | (simp [Zk,Zp,Zf];done) | (simp [Zk,Zp,Zf];omega)),chk_of (by first | (simp [Zk,Zp,Zf];done) | (simp [Zk,Zp,Zf];omega)),chk_of (by first | (simp [Zk,Zp,Zf];done) | (simp [Zk,Zp,Zf];omega)),chk_of (by first | (simp [Zk,Zp,Zf];done) | (simp [Zk,Zp,Zf];omega)),chk_of (by first | (simp [Xf,Zk,Zp,Zf];done) | (simp [Xf,Zk,Zp,Zf];omega)),chk_of (by first | (simp [Xf,Zk,Zp,Zf];done) | (simp [Xf,Zk,Zp,Zf];omega))]
   simp
  ·rw [sel_true,chk_of (by first | (simp [Zk,Zp,Zf];done) | (simp [Zk,Zp,Zf];omega)),chk_of (by first | (simp [Zk,Zp,Zf];done) | (simp [Zk,Zp,Zf];omega)),chk_of (by first | (simp [Zk,Zp,Zf];done) | (simp [Zk,Zp,Zf];omega)),chk_of (by first | (simp [Zk,Zp,Zf];done) | (simp [Zk,Zp,Zf];omega)),chk_of (by first | (simp [Zk,Zp,Zf];done) | (simp [Zk,Zp,Zf];omega)),chk_of (by first | (simp [Zk,Zp,Zf];done) | (simp [Zk,Zp,Zf];omega)),chk_of (by first | (simp [Xf,Zk,Zp,Zf];done) | (simp [Xf,Zk,Zp,Zf];omega)),chk_of (by first | (simp [Xf,Zk,Zp,Zf];done) | (simp [Xf,Zk,Zp,Zf];omega))]
   simp
 ·cases h
theorem w179:Walked Tryz.prog G 179 9 sp179:=by
 refine ⟨Tryz.f179,Tryz.func179,by decide +kernel,rfl,fun xs bl r h=> ?_⟩
 unfold sp179 at h
 split at h
 ·rename_i x y z ck tc tm li
  obtain ⟨hpre,h2⟩:=chk_inv h;cases h2
  refine Eq.trans (b:=(let t0:Nat:=Zx ([]++Ym 0 1 false)+Zx x+Zx y+Zx z;let t1:Nat:=Zx ([]++Ym 1 1 false)+Zx x+Zx y+Zx z;Zw (chk (l63 x&&l63 y&&l63 z) (some (Zz .i64 (Kerb.Auth.check (Vb (Zm x y z) ck tc tm)),[]))) (kI .i64 fun n=>sel (!n==0) (some (Zg [Zd [],Zz .i64 n],[])) (sel li (Zw (chk (decide (t1≤70368744170000)) (some (Zd (Kerb.putPrin ([]++Ym 1 1 false) (Zm x y z)),[]))) (kB fun b=>Zw (chk (decide (Zx b≤70368744177664)) (some (Wy (b++Ym ck 4 li),[]))) (kO fun l=>Zw (chk (decide (Zx l≤70368744177664)) (some (Wy (l++Ym tc 1 false),[]))) (kO fun l=>Zw (chk (decide (Zx l≤70368744177664)) (some (Wy (l++Ym tm 4 li),[]))) (kO fun l=>Zw (chk (decide (Zx l≤70368744177664)) (some (Zd (Kerb.pad l),[]))) (kB fun b=>some (Zg [Zd b,Zz .i64 0],[]))))))) (Zw (chk (decide (t0≤70368744170000)) (some (Zd (Kerb.putPrin ([]++Ym 0 1 false) (Zm x y z)),[]))) (kB fun b=>Zw (chk (decide (Zx b≤70368744177664)) (some (Wy (b++Ym ck 4 li),[]))) (kO fun l=>Zw (chk (decide (Zx l≤70368744177664)) (some (Wy (l++Ym tc 1 false),[]))) (kO fun l=>Zw (chk (decide (Zx l≤70368744177664)) (some (Wy (l++Ym tm 4 li),[]))) (kO fun l=>Zw (chk (decide (Zx l≤70368744177664)) (some (Zd (Kerb.pad l),[]))) (kB fun b=>some (Zg [Zd b,Zz .i64 0],[]))))))))):Option (AV×Blocks))) (by kernel_rfl) ?_
  delta kB kO kI
  try dsimp only [cStr,cBs,cBool,cU8,cInt,cSl,l63]
  simp only [A0,Uh,Qw,Qn,hpre]
  unfold Kerb.encodeAuth
  by_cases h:(Vb ⟨x,y,z⟩ ck tc tm).check=0
  case neg =>
   rw [sel_pos (by simpa using h),if_pos h]
  have hv:Yu ⟨x,y,z⟩=true:=by
   unfold Kerb.Auth.check at h
   cases hv:Yu ⟨x,y,z⟩
   ·simp [hv] at h
   ·rfl
  have l1:=Kerb.valid_len hv
  simp only at l1
  rw [sel_neg (by simp [h]),if_neg (by simpa using h)]
  cases li
  ·simp only [A0,Uh,Qw,Qn,List.nil_append,cond_false,cond_true]
   rw [chk_of (by simp [Zp];omega),chk_of (by simp [Zp,Zk];omega),chk_of (by simp [Zp,Zk];omega),chk_of (by simp [Zp,Zk];omega),chk_of (by simp [Zp,Zk];omega)]
  ·simp only [A0,Uh,Qw,Qn,List.nil_append,cond_false,cond_true]
   rw [chk_of (by simp [Zp];omega),chk_of (by simp [Zp,Zk];omega),chk_of (by simp [Zp,Zk];omega),chk_of (by simp [Zp,Zk];omega),chk_of (by simp [Zp,Zk];omega)]
 ·cases h
theorem w154:Walked Tryz.prog G 154 10 sp154:=by
 refine ⟨Tryz.f154,Tryz.func154,by decide +kernel,rfl,fun xs bl r h=> ?_⟩
 unfold sp154 at h
 split at h
 ·rename_i b
  obtain ⟨hpre,h2⟩:=chk_inv h;cases h2
  refine Eq.trans (b:=(let t1:AV:=Yy [Zv false,Zy [],Zy [],Zy [],Zz .i64 0,Zz .u64 0,Zz .i64 0,Zz .i64 0,Zy [],Zy []];let t0:Option (AV×Blocks):=some (Zg [t1,Zz .i64 100],[]);Zw (chk (decide (Zx b≤4611686018427387904)) (some (Zg [Zz .i64 (Vm (Xk b 0 1 false)),Zz .i64 (Vv (Xk b 0 1 false)),Zz .i64 (Vh (Xk b 0 1 false))],[]))) (kT fun vs=>cInt .i64 vs fun n r=>cInt .i64 r fun n_1 r=>cInt .i64 r fun n_2 r=>onNil r (sel (decide (n>1)) (some (Zg [t1,Zz .i64 7],[])) (Zw (chk (decide (Zx b≤4611686018427387904)) (some (Zg [Yy [Zy (Yb (Uk (Xp b n_1))),Zy (Yn (Uk (Xp b n_1))),Zy (Yf (Uk (Xp b n_1)))],Zz .i64 (Kerb.GotP.next (Xp b n_1)),Zz .i64 (Kerb.GotP.err (Xp b n_1))],[]))) (kT fun vs=>onCons vs fun x r=>Xn x fun cs=>cStr cs fun b_1 r_1=>cStr r_1 fun b_2 r_2=>cStr r_2 fun b_3 r_3=>onNil r_3 (cInt .i64 r fun n_3 r=>cInt .i64 r fun n_4 r=>onNil r (Zw (chk (decide (Zx b≤4611686018427387904)) (some (Zg [Zz .i64 (Vm (Xk b n_3 4 (n==1))),Zz .i64 (Vv (Xk b n_3 4 (n==1))),Zz .i64 (Vh (Xk b n_3 4 (n==1)))],[]))) (kT fun vs=>cInt .i64 vs fun n_5 r=>cInt .i64 r fun n_6 r=>cInt .i64 r fun n_7 r=>onNil r (Zw (chk (decide (Zx b≤140737488355328)) (some (Zg [Zd (Kerb.GotB.val (Kerb.bytes b n_6 8)),Zz .i64 (Kerb.GotB.next (Kerb.bytes b n_6 8)),Zz .i64 (Kerb.GotB.err (Kerb.bytes b n_6 8))],[]))) (kT fun vs=>cBs vs fun b_4 r=>cInt .i64 r fun n_8 r=>cInt .i64 r fun n_9 r=>onNil r (Zw (chk (decide (Zx b_4≤4611686018427387904)) (some (Zg [Zz .u64 (Wx (Kerb.keyRead b_4)),Zv (Xq (Kerb.keyRead b_4))],[]))) (kT fun vs=>cInt .u64 vs fun n_10 r=>cBool r fun b_5 r=>onNil r (Zw (chk (decide (Zx b≤4611686018427387904)) (some (Zg [Zz .i64 (Vm (Xk b n_8 1 false)),Zz .i64 (Vv (Xk b n_8 1 false)),Zz .i64 (Vh (Xk b n_8 1 false))],[]))) (kT fun vs=>cInt .i64 vs fun n_11 r=>cInt .i64 r fun n_12 r=>cInt .i64 r fun n_13 r=>onNil r (Zw (chk (decide (Zx b≤4611686018427387904)) (some (Zg [Zz .i64 (Vm (Xk b n_12 4 (n==1))),Zz .i64 (Vv (Xk b n_12 4 (n==1))),Zz .i64 (Vh (Xk b n_12 4 (n==1)))],[]))) (kT fun vs=>cInt .i64 vs fun n_14 r=>cInt .i64 r fun n_15 r=>cInt .i64 r fun n_16 r=>onNil r (Zw (chk (decide (Zx b≤4611686018427387904)) (some (Zg [Zy (Kerb.GotB.val (Wv b n_15)),Zz .i64 (Kerb.GotB.next (Wv b n_15)),Zz .i64 (Kerb.GotB.err (Wv b n_15))],[]))) (kT fun vs=>cStr vs fun b_6 r=>cInt .i64 r fun n_17 r=>cInt .i64 r fun n_18 r=>onNil r (Zw (chk (decide (Zx b≤4611686018427387904)) (some (Zg [Zy (Kerb.GotB.val (Wv b n_17)),Zz .i64 (Kerb.GotB.next (Wv b n_17)),Zz .i64 (Kerb.GotB.err (Wv b n_17))],[]))) (kT fun vs=>cStr vs fun b_7 r=>let t2:Kerb.Enc:=Kerb.encodeTicket (Ub (n==1) (Zm b_1 b_2 b_3) n_5 n_10 n_11 n_14 b_6 b_7);cInt .i64 r fun n_19 r=>cInt .i64 r fun n_20 r=>onNil r (Zw (chk (l63 b_1&&l63 b_2&&l63 b_3&&l63 b_6&&l63 b_7&&decide (0≤n_10)&&decide (n_10<18446744073709551616)) (some (Zg [Zd (Uz t2),Zz .i64 (Uy t2)],[]))) (kT fun vs=>cBs vs fun b_8 r=>cInt .i64 r fun n_21 r=>onNil r (sel (!n_21==0) t0 (sel (!b_8==b) t0 (some (Zg [Yy [Zv (n==1),Zy b_1,Zy b_2,Zy b_3,Zz .i64 n_5,Zz .u64 n_10,Zz .i64 n_11,Zz .i64 n_14,Zy b_6,Zy b_7],Zz .i64 0],[]))))))))))))))))))))))))):Option (AV×Blocks))) (by kernel_rfl) ?_
  delta kT
  try dsimp only [cStr,cBs,cBool,cU8,cInt,cSl,l63]
  have hb:=of_decide_eq_true hpre
  have hpre2:decide (b.length≤4611686018427387904)=true:=by simp;omega
  simp only [hpre,hpre2,↓A0,A0]
  unfold Zh
  by_cases h7:1<(Xk b 0 1 false).val
  ·rw [sel_pos (by simpa using h7),if_pos h7];try rfl
  rw [sel_neg (by simpa using h7),if_neg h7]
  have hl:∀ p n,(Kerb.bytes b p n).val.length≤4611686018427387904:=fun p n=>Up (Kerb.bytes_len b p n) (by omega)
  have hk:∀ q,0≤(Kerb.keyRead q).1∧(Kerb.keyRead q).1<18446744073709551616:=Kerb.keyRead_bd
  have hx:∀ q,(Wv b q).val.length≤40:=Qh b
  have lp:∀ q (_:Unit),(Xp b q).val.name.length≤40∧(Xp b q).val.inst.length≤40∧(Xp b q).val.realm.length≤40:=fun q _=>Kerb.prin_len b q
  rw [chk_of (by simp only [decide_eq_true_eq];exact hl _ _),chk_of (by simp only [Yx,decide_eq_true_eq];exact ⟨⟨⟨⟨⟨⟨Up (lp _ ()).1 (by decide),Up (lp _ ()).2.1 (by decide)⟩,Up (lp _ ()).2.2 (by decide)⟩,Up (hx _) (by decide)⟩,Up (hx _) (by decide)⟩,(hk _).1⟩,(hk _).2⟩)]
  exact Kerb.decBy_fin (no:=Kerb.noTicket) (enc:=Kerb.encodeTicket) (rd:=fun b=>(Kerb.readTicket b,false)) _ false rfl (fun x e=>(Zg [Yy [Zv (x).little,Zy (x).client.name,Zy (x).client.inst,Zy (x).client.realm,Zz Zu (x).address,Zz IntKind.u64 (x).session,Zz Zu (x).life,Zz Zu (x).issued,Zy (x).service,Zy (x).inst],Zz Zu e],([]:Blocks)))
 ·cases h
theorem w155:Walked Tryz.prog G 155 10 sp155:=by
 refine ⟨Tryz.f155,Tryz.func155,by decide +kernel,rfl,fun xs bl r h=> ?_⟩
 unfold sp155 at h
 split at h
 ·rename_i b li
  obtain ⟨hpre,h2⟩:=chk_inv h;cases h2
  refine Eq.trans (b:=(let t0:Option (AV×Blocks):=some (Zg [Yy [Zy [],Zy [],Zy [],Zz .i64 0,Zz .i64 0,Zz .i64 0],Zz .i64 100],[]);Zw (chk (decide (Zx b≤4611686018427387904)) (some (Zg [Yy [Zy (Yb (Uk (Xp b 1))),Zy (Yn (Uk (Xp b 1))),Zy (Yf (Uk (Xp b 1)))],Zz .i64 (Kerb.GotP.next (Xp b 1)),Zz .i64 (Kerb.GotP.err (Xp b 1))],[]))) (kT fun vs=>onCons vs fun x r=>Xn x fun cs=>cStr cs fun b_1 r_1=>cStr r_1 fun b_2 r_2=>cStr r_2 fun b_3 r_3=>onNil r_3 (cInt .i64 r fun n r=>cInt .i64 r fun n_1 r=>onNil r (Zw (chk (decide (Zx b≤4611686018427387904)) (some (Zg [Zz .i64 (Vm (Xk b n 4 li)),Zz .i64 (Vv (Xk b n 4 li)),Zz .i64 (Vh (Xk b n 4 li))],[]))) (kT fun vs=>cInt .i64 vs fun n r=>cInt .i64 r fun n_2 r=>cInt .i64 r fun n_3 r=>onNil r (Zw (chk (decide (Zx b≤4611686018427387904)) (some (Zg [Zz .i64 (Vm (Xk b n_2 1 false)),Zz .i64 (Vv (Xk b n_2 1 false)),Zz .i64 (Vh (Xk b n_2 1 false))],[]))) (kT fun vs=>cInt .i64 vs fun n_4 r=>cInt .i64 r fun n_5 r=>cInt .i64 r fun n_6 r=>onNil r (Zw (chk (decide (Zx b≤4611686018427387904)) (some (Zg [Zz .i64 (Vm (Xk b n_5 4 li)),Zz .i64 (Vv (Xk b n_5 4 li)),Zz .i64 (Vh (Xk b n_5 4 li))],[]))) (kT fun vs=>cInt .i64 vs fun n_7 r=>cInt .i64 r fun n_8 r=>cInt .i64 r fun n_9 r=>onNil r (Zw (chk (l63 b_1&&l63 b_2&&l63 b_3) (some (Zg [Zd (Uz (Kerb.encodeAuth (Vb (Zm b_1 b_2 b_3) n n_4 n_7) li)),Zz .i64 (Uy (Kerb.encodeAuth (Vb (Zm b_1 b_2 b_3) n n_4 n_7) li))],[]))) (kT fun vs=>cBs vs fun b_4 r=>cInt .i64 r fun n_10 r=>onNil r (sel (!n_10==0) t0 (sel (!b_4==b) t0 (some (Zg [Yy [Zy b_1,Zy b_2,Zy b_3,Zz .i64 n,Zz .i64 n_4,Zz .i64 n_7],Zz .i64 0],[])))))))))))))):Option (AV×Blocks))) (by kernel_rfl) ?_
  delta kT
  try dsimp only [cStr,cBs,cBool,cU8,cInt,cSl,l63]
  have hb:=of_decide_eq_true hpre
  have hpre2:decide (b.length≤4611686018427387904)=true:=by simp;omega
  obtain ⟨n1,n2,n3⟩:=Kerb.prin_len b 1
  have g1:(Xp b 1).val.name.length≤9223372036854775807:=by omega
  have g2:(Xp b 1).val.inst.length≤9223372036854775807:=by omega
  have g3:(Xp b 1).val.realm.length≤9223372036854775807:=by omega
  simp only [hpre2,g1,g2,g3,decide_true,Xd,↓A0,A0]
  exact Kerb.decBy_fin (no:=Kerb.noAuth) (enc:=fun a=>Kerb.encodeAuth a li) (rd:=fun b=>(Kerb.readAuth b li,false)) _ false rfl (fun x e=>(Zg [.agg [.str (x).client.name,.str (x).client.inst,.str (x).client.realm,.int .i64 (x).checksum,.int .i64 (x).tick,.int .i64 (x).time],Zz Zu e],([]:Blocks)))
 ·cases h
theorem w97:Walked Tryz.prog G 97 11 sp97:=by
 refine ⟨Tryz.f97,Tryz.func97,by decide +kernel,rfl,fun xs bl r h=> ?_⟩
 unfold sp97 at h
 split at h
 ·rename_i b k
  obtain ⟨hpre,h2⟩:=chk_inv h;cases h2
  refine Eq.trans (b:=(Zw (chk (decide (Zx b≤140737488355328)) (some (Zg [Zd (Wx (Xv b 1 k)),Zv (Xq (Xv b 1 k))],[]))) (kT fun vs=>cBs vs fun b r=>cBool r fun b_1 r=>onNil r (sel (!b_1) (some (Zg [Yy [Zv false,Zy [],Zy [],Zy [],Zz .i64 0,Zz .u64 0,Zz .i64 0,Zz .i64 0,Zy [],Zy []],Zz .i64 31],[])) (Zw (chk (decide (Zx b≤140737488355328)) (some (Zg [Yy [Zv (Vz (Zq (Zh b))),Zy (Yb (Yv (Zq (Zh b)))),Zy (Yn (Yv (Zq (Zh b)))),Zy (Yf (Yv (Zq (Zh b)))),Zz .i64 (Wb (Zq (Zh b))),Zz .u64 (Wf (Zq (Zh b))),Zz .i64 (Uv (Zq (Zh b))),Zz .i64 (Vy (Zq (Zh b))),Zy (Wg (Zq (Zh b))),Zy (Uu (Zq (Zh b)))],Zz .i64 (Wz (Zh b))],[]))) (kT fun vs=>onCons vs fun x r=>Xn x fun cs=>cBool cs fun b r_1=>cStr r_1 fun b_2 r_2=>cStr r_2 fun b_3 r_3=>cStr r_3 fun b_4 r_4=>cInt .i64 r_4 fun n r_5=>cInt .u64 r_5 fun n_1 r_6=>cInt .i64 r_6 fun n_2 r_7=>cInt .i64 r_7 fun n_3 r_8=>cStr r_8 fun b_5 r_9=>cStr r_9 fun b_6 r_10=>onNil r_10 (cInt .i64 r fun n_4 r=>onNil r (some (Zg [Yy [Zv b,Zy b_2,Zy b_3,Zy b_4,Zz .i64 n,Zz .u64 n_1,Zz .i64 n_2,Zz .i64 n_3,Zy b_5,Zy b_6],Zz .i64 n_4],[]))))))):Option (AV×Blocks))) (by kernel_rfl) ?_
  delta kT
  try dsimp only [cStr,cBs,cBool,cU8,cInt,cSl,l63]
  have hb:=of_decide_eq_true hpre
  have hl:=Kerb.openBox_len b 1 k
  simp only [hpre,↓A0,A0]
  unfold Zb
  cases h:(Xv b 1 k).2
  ·rfl
  ·rw [sel_neg (by simp),chk_of (by simp;omega)]
   rfl
 ·cases h
theorem w99:Walked Tryz.prog G 99 11 sp99:=by
 refine ⟨Tryz.f99,Tryz.func99,by decide +kernel,rfl,fun xs bl r h=> ?_⟩
 unfold sp99 at h
 split at h
 ·rename_i b li k
  obtain ⟨hpre,h2⟩:=chk_inv h;cases h2
  refine Eq.trans (b:=(let t0:Option (AV×Blocks):=some (Zg [Yy [Zy [],Zy [],Zy [],Zz .i64 0,Zz .i64 0,Zz .i64 0],Zz .i64 31],[]);Zw (chk (decide (Zx b≤140737488355328)) (some (Zg [Zd (Wx (Xv b 2 k)),Zv (Xq (Xv b 2 k))],[]))) (kT fun vs=>cBs vs fun b r=>cBool r fun b_1 r=>onNil r (sel (!b_1) t0 (Zw (chk (decide (Zx b≤140737488355328)) (some (Zg [Yy [Zy (Yb (Yd (Zq (Yg b li)))),Zy (Yn (Yd (Zq (Yg b li)))),Zy (Yf (Yd (Zq (Yg b li)))),Zz .i64 (Vq (Zq (Yg b li))),Zz .i64 (Qx (Zq (Yg b li))),Zz .i64 (Qy (Zq (Yg b li)))],Zz .i64 (Wz (Yg b li))],[]))) (kT fun vs=>onCons vs fun x r=>Xn x fun cs=>cStr cs fun b r_1=>cStr r_1 fun b_2 r_2=>cStr r_2 fun b_3 r_3=>cInt .i64 r_3 fun n r_4=>cInt .i64 r_4 fun n_1 r_5=>cInt .i64 r_5 fun n_2 r_6=>onNil r_6 (cInt .i64 r fun n_3 r=>onNil r (sel (!n_3==0) t0 (some (Zg [Yy [Zy b,Zy b_2,Zy b_3,Zz .i64 n,Zz .i64 n_1,Zz .i64 n_2],Zz .i64 0],[])))))))):Option (AV×Blocks))) (by kernel_rfl) ?_
  delta kT
  try dsimp only [cStr,cBs,cBool,cU8,cInt,cSl,l63]
  have hb:=of_decide_eq_true hpre
  have hpre2:decide (b.length≤4611686018427387904)=true:=by simp;omega
  have hl:=Kerb.openBox_len b 2 k
  have hl2:decide ((Xv b 2 k).1.length≤140737488355328)=true:=by simp;omega
  simp only [hpre,hl2,↓A0,A0]
  unfold Yw
  cases h1:(Xv b 2 k).2
  ·rfl
  rw [Yk,sel_false,if_neg (by simp)]
  by_cases h2:(Yg (Xv b 2 k).1 li).err=0
  case neg=>rw [sel_pos (by simpa using h2),if_pos h2];rfl
  rw [sel_neg (by simpa using h2),if_neg (by simpa using h2)]
 ·cases h
theorem w45:Walked Tryz.prog G 45 12 sp45:=by
 refine ⟨Tryz.f45,Tryz.func45,by decide +kernel,rfl,fun xs bl r h=> ?_⟩
 unfold sp45 at h
 split at h
 ·rename_i m1 m2 m3 kls sz fl mls sk rli rmu rkv rrl rtk rau
  obtain ⟨hpre,h2⟩:=chk_inv h;cases h2
  refine Eq.trans (b:=(let t1:AV:=Yy [Zv false,Zy [],Zy [],Zy [],Zz .i64 0,Zz .u64 0,Zz .i64 0,Zz .i64 0,Zy [],Zy []];let t2:AV:=Yy [Zy [],Zy [],Zy [],Zz .i64 0,Zz .i64 0,Zz .i64 0];let t0:Option (AV×Blocks):=some (Zg [t1,t2,Zz .i64 35],[]);sel (!rrl==m3) t0 (Zw (chk (Wq kls Qz&&decide (Zx kls≤1000000)) (some (Zg [Zz .u64 (Wx (Uw (Xj Wj kls) (Zm m1 m2 m3) rkv)),Zv (Xq (Uw (Xj Wj kls) (Zm m1 m2 m3) rkv))],[]))) (kT fun vs=>cInt .u64 vs fun n r=>cBool r fun b r=>onNil r (sel (!b) t0 (Zw (chk (decide (Zx rtk≤140737488355328)) (some (Zg [Yy [Zv (Vz (Zq (Zb rtk n))),Zy (Yb (Yv (Zq (Zb rtk n)))),Zy (Yn (Yv (Zq (Zb rtk n)))),Zy (Yf (Yv (Zq (Zb rtk n)))),Zz .i64 (Wb (Zq (Zb rtk n))),Zz .u64 (Wf (Zq (Zb rtk n))),Zz .i64 (Uv (Zq (Zb rtk n))),Zz .i64 (Vy (Zq (Zb rtk n))),Zy (Wg (Zq (Zb rtk n))),Zy (Uu (Zq (Zb rtk n)))],Zz .i64 (Wz (Zb rtk n))],[]))) (kT fun vs=>onCons vs fun x r=>Xn x fun cs=>cBool cs fun b r_1=>cStr r_1 fun b_1 r_2=>cStr r_2 fun b_2 r_3=>cStr r_3 fun b_3 r_4=>cInt .i64 r_4 fun n r_5=>cInt .u64 r_5 fun n_1 r_6=>cInt .i64 r_6 fun n_2 r_7=>cInt .i64 r_7 fun n_3 r_8=>cStr r_8 fun b_4 r_9=>cStr r_9 fun b_5 r_10=>onNil r_10 (cInt .i64 r fun n_4 r=>onNil r (sel (n_4==7) (some (Zg [t1,t2,Zz .i64 7],[])) (sel (!n_4==0) (some (Zg [t1,t2,Zz .i64 31],[])) (sel (!(b_4==m1&&(b_5==m2&&m3==m3))) t0 (Zw (chk (decide (Zx rau≤140737488355328)) (some (Zg [Yy [Zy (Yb (Yd (Zq (Yw rau rli n_1)))),Zy (Yn (Yd (Zq (Yw rau rli n_1)))),Zy (Yf (Yd (Zq (Yw rau rli n_1)))),Zz .i64 (Vq (Zq (Yw rau rli n_1))),Zz .i64 (Qx (Zq (Yw rau rli n_1))),Zz .i64 (Qy (Zq (Yw rau rli n_1)))],Zz .i64 (Wz (Yw rau rli n_1))],[]))) (kT fun vs=>onCons vs fun x r=>Xn x fun cs=>cStr cs fun b_6 r_11=>cStr r_11 fun b_7 r_12=>cStr r_12 fun b_8 r_13=>cInt .i64 r_13 fun n_5 r_14=>cInt .i64 r_14 fun n_6 r_15=>cInt .i64 r_15 fun n_7 r_16=>onNil r_16 (cInt .i64 r fun n_8 r=>onNil r (sel (!n_8==0) (some (Zg [t1,t2,Zz .i64 31],[])) (some (Zg [Yy [Zv b,Zy b_1,Zy b_2,Zy b_3,Zz .i64 n,Zz .u64 n_1,Zz .i64 n_2,Zz .i64 n_3,Zy b_4,Zy b_5],Yy [Zy b_6,Zy b_7,Zy b_8,Zz .i64 n_5,Zz .i64 n_6,Zz .i64 n_7],Zz .i64 0],[]))))))))))))))):Option (AV×Blocks))) (by kernel_rfl) ?_
  delta kT
  try dsimp only [cStr,cBs,cBool,cU8,cInt,cSl,l63]
  simp only [Yx,decide_eq_true_eq] at hpre
  obtain ⟨⟨⟨⟨⟨⟨⟨⟨l1,l2⟩,l3⟩,ka⟩,kl⟩,ma⟩,ml⟩,t1⟩,u1⟩:=hpre
  obtain ⟨ks,rfl,hks⟩:=Uf ka
  obtain ⟨ms,rfl,hms⟩:=Vd ma
  have hkT:=Uq hks
  have hmT:=Wm hms
  simp only [Yj] at kl ml
  have t2:rtk.length≤140737488355328:=by omega
  have u2:rau.length≤140737488355328:=by omega
  simp only [Wd,Wu,Yj,hkT,kl,t2,u2,decide_true,Xd,↓A0,A0]
  unfold Xh
  by_cases g1:rrl=m3
  case neg=>rw [sel_pos (by simpa using g1),if_pos (by simpa using g1)];rfl
  rw [sel_neg (by simpa using g1),if_neg (by simpa using g1)]
  dsimp only
  cases g2:(Uw ks ⟨m1,m2,m3⟩ rkv).2
  ·rfl
  rw [Yk,sel_false,if_neg (by simp)]
  generalize (Uw ks ⟨m1,m2,m3⟩ rkv).1=K
  by_cases g3:(Zb rtk K).err=7
  ·rw [sel_pos (by simpa using g3),if_pos g3];rfl
  rw [sel_neg (by simpa using g3),if_neg g3]
  by_cases g4:(Zb rtk K).err=0
  case neg=>rw [sel_pos (by simpa using g4),if_pos g4];rfl
  rw [sel_neg (by simpa using g4),if_neg (by simpa using g4)]
  have g5:((Zb rtk K).val.service==m1&&((Zb rtk K).val.inst==m2&&m3==m3))=(Kerb.ticketFor (Zb rtk K).val m3).eqb ⟨m1,m2,m3⟩:=rfl
  rw [g5]
  cases g6:(Kerb.ticketFor (Zb rtk K).val m3).eqb ⟨m1,m2,m3⟩
  ·rfl
  rw [Yk,sel_false,if_neg (by simp)]
  by_cases g7:(Yw rau rli (Zb rtk K).val.session).err=0
  case neg=>rw [sel_pos (by simpa using g7),if_pos g7];rfl
  rw [sel_neg (by simpa using g7),if_neg (by simpa using g7)]
 ·cases h
theorem w20:Walked Tryz.prog G 20 13 sp20:=by
 refine ⟨Tryz.f20,Tryz.func20,by decide +kernel,rfl,fun xs bl r h=> ?_⟩
 unfold sp20 at h
 split at h
 ·rename_i m1 m2 m3 kls sz fl mls sk rli rmu rkv rrl rtk rau src now
  obtain ⟨hpre,h2⟩:=chk_inv h;cases h2
  refine Eq.trans (b:=(let t0:AV:=Yy [Zy [],Zy [],Zy [],Zz .u64 0,Zz .i64 0,Zz .i64 0,Zz .i64 0,Zz .i64 0,Zz .i64 0,Zz .i64 0,Zd [],Zd []];Zw (chk (decide (Zx kls≤1000000)&&decide (Zx mls≤1000000)) (some (Yy [Zy m1,Zy m2,Zy m3,Yp 5 kls,Zz .i64 sz,Zz .i64 fl,Yp 5 mls,Zz .i64 sk],[]))) (kA fun cs=>cStr cs fun b r=>cStr r fun b_1 r=>cStr r fun b_2 r=>let t1:Bool:=l63 b&&l63 b_1&&l63 b_2;cSl 5 r fun b_3 r=>cInt .i64 r fun n r=>cInt .i64 r fun n_1 r=>cSl 5 r fun b_4 r=>let t2:Bool:=t1&&Wq b_3 Qz&&decide (Zx b_3≤1000000)&&Wq b_4 Wh&&decide (Zx b_4≤1000000);cInt .i64 r fun n_2 r=>let t4:AV:=Yy [Zy b,Zy b_1,Zy b_2,Yp 5 b_3,Zz .i64 n,Zz .i64 n_1,Yp 5 b_4,Zz .i64 n_2];let t6:Kerb.Opened:=Xh (Vj (Zm b b_1 b_2) (Xj Wj b_3) (Xg n n_1 (Xj Wk b_4)) n_2) (Xm rli rmu rkv rrl rtk rau);let t3:Kerb.Ticket:=Kerb.Opened.ticket t6;let t5:Kerb.Auth:=Kerb.Opened.auth t6;onNil r (Zw (chk t2 (some (Zz .i64 (Qf (Vj (Zm b b_1 b_2) (Xj Wj b_3) (Xg n n_1 (Xj Wk b_4)) n_2)),[]))) (kI .i64 fun n_3=>sel (!n_3==0) (some (Zg [t4,t0,Zz .i64 108],[])) (Zw (chk (t2&&decide (Zx rtk≤1000000)&&decide (Zx rau≤1000000)) (some (Zg [Yy [Zv (Vz t3),Zy (Yb (Yv t3)),Zy (Yn (Yv t3)),Zy (Yf (Yv t3)),Zz .i64 (Wb t3),Zz .u64 (Wf t3),Zz .i64 (Uv t3),Zz .i64 (Vy t3),Zy (Wg t3),Zy (Uu t3)],Yy [Zy (Yb (Yd t5)),Zy (Yn (Yd t5)),Zy (Yf (Yd t5)),Zz .i64 (Vq t5),Zz .i64 (Qx t5),Zz .i64 (Qy t5)],Zz .i64 (Kerb.Opened.err t6)],[]))) (kT fun vs=>onCons vs fun x r=>Xn x fun cs=>cBool cs fun b_5 r_1=>cStr r_1 fun b_6 r_2=>cStr r_2 fun b_7 r_3=>cStr r_3 fun b_8 r_4=>cInt .i64 r_4 fun n_4 r_5=>cInt .u64 r_5 fun n_5 r_6=>cInt .i64 r_6 fun n_6 r_7=>cInt .i64 r_7 fun n_7 r_8=>cStr r_8 fun b_9 r_9=>cStr r_9 fun b_10 r_10=>onNil r_10 (onCons r fun x r=>Xn x fun cs=>cStr cs fun b_11 r_11=>cStr r_11 fun b_12 r_12=>cStr r_12 fun b_13 r_13=>cInt .i64 r_13 fun n_8 r_14=>cInt .i64 r_14 fun n_9 r_15=>cInt .i64 r_15 fun n_10 r_16=>let t8:Int:=Kerb.judge (Ub b_5 (Zm b_6 b_7 b_8) n_4 n_5 n_6 n_7 b_9 b_10) (Vb (Zm b_11 b_12 b_13) n_8 n_9 n_10) src now n_2;let t9:Kerb.Dec Kerb.RCache:=Kerb.addMark (Xg n n_1 (Xj Wk b_4)) (Um (Zm b_11 b_12 b_13) n_10 n_9) now n_2;let t7:Kerb.RCache:=Zq t9;onNil r_16 (cInt .i64 r fun n r=>onNil r (sel (!n==0) (some (Zg [t4,t0,Zz .i64 n],[])) (sel (!t8==0) (some (Zg [t4,t0,Zz .i64 t8],[])) (Zw (chk (Wq b_4 Wh&&decide (Zx b_4≤1000000)&&l63 b_11&&l63 b_12&&l63 b_13) (some (Zg [Yy [Zz .i64 (Kerb.RCache.size t7),Zz .i64 (Kerb.RCache.floor t7),Yp 5 (Xj Xx (Kerb.RCache.marks t7))],Zz .i64 (Wz t9)],[]))) (kT fun vs=>onCons vs fun x r=>Xn x fun cs=>cInt .i64 cs fun n r_17=>cInt .i64 r_17 fun n_11 r_18=>cSl 5 r_18 fun b_14 r_19=>onNil r_19 (cInt .i64 r fun n_12 r=>onNil r (sel (!n_12==0) (some (Zg [t4,t0,Zz .i64 n_12],[])) (Zw (chk (decide (Zx rtk≤140737488355328)) (some (Zd rtk,[]))) (kB fun b_15=>Zw (chk (decide (Zx rau≤140737488355328)) (some (Zd rau,[]))) (kB fun b_16=>some (Zg [Yy [Zy b,Zy b_1,Zy b_2,Yp 5 b_3,Zz .i64 n,Zz .i64 n_11,Yp 5 b_14,Zz .i64 n_2],Yy [Zy b_6,Zy b_7,Zy b_8,Zz .u64 n_5,Zz .i64 n_4,Zz .i64 n_8,Zz .i64 n_10,Zz .i64 n_9,Zz .i64 n_7,Zz .i64 n_6,Zd b_15,Zd b_16],Zz .i64 0],[]))))))))))))))))):Option (AV×Blocks))) (by kernel_rfl) ?_
  delta kT kA kB kI
  try dsimp only [cStr,cBs,cBool,cU8,cInt,cSl,l63]
  simp only [Yx,decide_eq_true_eq] at hpre
  obtain ⟨⟨⟨⟨⟨⟨⟨⟨l1,l2⟩,l3⟩,ka⟩,kl⟩,ma⟩,ml⟩,t1⟩,u1⟩:=hpre
  obtain ⟨ks,rfl,hks⟩:=Uf ka
  obtain ⟨ms,rfl,hms⟩:=Vd ma
  have hkT:=Uq hks
  have hmT:=Wm hms
  simp only [Yj] at kl ml
  have t2:rtk.length≤140737488355328:=by omega
  have u2:rau.length≤140737488355328:=by omega
  obtain ⟨S,hS⟩:∃ S,Vj ⟨m1,m2,m3⟩ ks ⟨sz,fl,ms⟩ sk=S:=⟨_,rfl⟩
  obtain ⟨R,hR⟩:∃ R,Xm rli rmu rkv rrl rtk rau=R:=⟨_,rfl⟩
  have hb:=(Kerb.openReq_bd S R).1
  have e1:=hb.1
  have e2:=hb.2.1
  have e3:=hb.2.2
  simp only [Wd,Wu,Yj,hkT,hmT,kl,ml,l1,l2,l3,t1,u1,t2,u2,decide_true,Xd,hS,hR,e1,e2,e3,↓sInt,↓sU8,↓sBool,↓sStr,↓sBs,↓sSl,↓sAgg,↓sTup,↓sCons,↓sNil,↓sNilB,↓sChk,↓sChkBind,↓sSome]
  unfold Kerb.verify
  by_cases g1:S.err=0
  case neg=>rw [sel_pos (by simpa using g1),if_pos g1,← hS];rfl
  rw [sel_neg (by simpa using g1),if_neg (by simpa using g1)]
  by_cases g2:(Xh S R).err=0
  case neg=>rw [sel_pos (by simpa using g2),if_pos g2,← hS];rfl
  rw [sel_neg (by simpa using g2),if_neg (by simpa using g2)]
  have h0:sk=S.skew:=by rw [← hS]
  have h1:Xg sz fl ms=S.replay:=by rw [← hS]
  rw [h0,h1]
  by_cases g3:Kerb.judge (Xh S R).ticket (Xh S R).auth src now S.skew=0
  case neg=>rw [sel_pos (by simpa using g3),if_pos g3,← hS];rfl
  rw [sel_neg (by simpa using g3),if_neg (by simpa using g3)]
  rw [show Um ⟨(Xh S R).auth.client.name,(Xh S R).auth.client.inst,(Xh S R).auth.client.realm⟩ (Xh S R).auth.time (Xh S R).auth.tick=Kerb.markOf (Xh S R).auth from rfl]
  by_cases g4:(Kerb.addMark S.replay (Kerb.markOf (Xh S R).auth) now S.skew).err=0
  case neg=>rw [sel_pos (by simpa using g4),if_pos g4,← hS];rfl
  rw [sel_neg (by simpa using g4),if_neg (by simpa using g4),← hS,← hR]
 ·cases h
theorem w14:Walked Tryz.prog G 14 14 sp14:=by
 refine ⟨Tryz.f14,Tryz.func14,by decide +kernel,rfl,fun xs bl r h=> ?_⟩
 unfold sp14 at h
 split at h
 ·rename_i m1 m2 m3 kls sz fl mls sk msg src now
  obtain ⟨hpre,h2⟩:=chk_inv h;cases h2
  refine Eq.trans (b:=(let t0:Kerb.Server:=Vj (Zm m1 m2 m3) (Xj Wj kls) (Xg sz fl (Xj Wk mls)) sk;let t1:Option (AV×Blocks):=chk (decide (Zx kls≤1000000)&&decide (Zx mls≤1000000)) (some (Yy [Zy m1,Zy m2,Zy m3,Yp 5 kls,Zz .i64 sz,Zz .i64 fl,Yp 5 mls,Zz .i64 sk],[]));let t2:AV:=Yy [Zy [],Zy [],Zy [],Zz .u64 0,Zz .i64 0,Zz .i64 0,Zz .i64 0,Zz .i64 0,Zz .i64 0,Zz .i64 0,Zd [],Zd []];Zw (chk (decide (Zx msg≤140737488355328)) (some (Zg [Yy [Zv (Qj (Zq (Xb msg))),Zv (Qv (Zq (Xb msg))),Zz .i64 (Jy (Zq (Xb msg))),Zy (Qb (Zq (Xb msg))),Zd (Qq (Zq (Xb msg))),Zd (Jx (Zq (Xb msg)))],Zz .i64 (Wz (Xb msg))],[]))) (kT fun vs=>onCons vs fun x r=>Xn x fun cs=>cBool cs fun b r_1=>cBool r_1 fun b_1 r_2=>cInt .i64 r_2 fun n r_3=>cStr r_3 fun b_2 r_4=>cBs r_4 fun b_3 r_5=>cBs r_5 fun b_4 r_6=>let t5:Kerb.Verified:=Kerb.verify t0 (Xm b b_1 n b_2 b_3 b_4) src now;let t3:Kerb.Accepted:=Kerb.Verified.a t5;let t4:Kerb.Server:=Kerb.Verified.s t5;onNil r_6 (cInt .i64 r fun n r=>let t6:Option (AV×Blocks):=Zw t1 (kA fun cs=>cStr cs fun b r=>cStr r fun b_5 r=>cStr r fun b_6 r=>cSl 5 r fun b_7 r=>cInt .i64 r fun n_1 r=>cInt .i64 r fun n_2 r=>cSl 5 r fun b_8 r=>cInt .i64 r fun n_3 r=>onNil r (some (Zg [Yy [Zy b,Zy b_5,Zy b_6,Yp 5 b_7,Zz .i64 n_1,Zz .i64 n_2,Yp 5 b_8,Zz .i64 n_3],t2,Zd [],Zz .i64 n],[])));onNil r (sel (!n==0) (AV.onInt .i64 (List.getD [Zz .i64 39,Zz .i64 40] (Xy 0) AV.undef) fun n_1=>sel (n==n_1) t6 (AV.onInt .i64 (List.getD [Zz .i64 39,Zz .i64 40] (Xy (Zn .i64 (0+1))) AV.undef) fun n_2=>sel (n==n_2) t6 (Zw t1 (kA fun cs=>cStr cs fun b r=>cStr r fun b_5 r=>cStr r fun b_6 r=>cSl 5 r fun b_7 r=>cInt .i64 r fun n r=>cInt .i64 r fun n_3 r=>cSl 5 r fun b_8 r=>cInt .i64 r fun n_4 r=>onNil r (some (Zg [Yy [Zy b,Zy b_5,Zy b_6,Yp 5 b_7,Zz .i64 n,Zz .i64 n_3,Yp 5 b_8,Zz .i64 n_4],t2,Zd [],Zz .i64 31],[])))))) (Zw (chk (l63 m1&&l63 m2&&l63 m3&&Wq kls Qz&&decide (Zx kls≤1000000)&&Wq mls Wh&&decide (Zx mls≤1000000)&&decide (Zx b_3≤1000000)&&decide (Zx b_4≤1000000)) (some (Zg [Yy [Zy (Yb (Kerb.Server.me t4)),Zy (Yn (Kerb.Server.me t4)),Zy (Yf (Kerb.Server.me t4)),Yp 5 (Xj Un (Kerb.Server.keys t4)),Zz .i64 (Kerb.RCache.size (Kerb.Server.replay t4)),Zz .i64 (Kerb.RCache.floor (Kerb.Server.replay t4)),Yp 5 (Xj Xx (Kerb.RCache.marks (Kerb.Server.replay t4))),Zz .i64 (Kerb.Server.skew t4)],Yy [Zy (Yb (Qm t3)),Zy (Yn (Qm t3)),Zy (Yf (Qm t3)),Zz .u64 (Kerb.Accepted.session t3),Zz .i64 (Kerb.Accepted.address t3),Zz .i64 (Kerb.Accepted.checksum t3),Zz .i64 (Kerb.Accepted.time t3),Zz .i64 (Kerb.Accepted.tick t3),Zz .i64 (Kerb.Accepted.issued t3),Zz .i64 (Kerb.Accepted.life t3),Zd (Kerb.Accepted.ticket t3),Zd (Kerb.Accepted.auth t3)],Zz .i64 (Kerb.Verified.err t5)],[]))) (kT fun vs=>onCons vs fun x r=>Xn x fun cs=>cStr cs fun b_5 r_7=>cStr r_7 fun b_6 r_8=>cStr r_8 fun b_7 r_9=>cSl 5 r_9 fun b_8 r_10=>cInt .i64 r_10 fun n r_11=>cInt .i64 r_11 fun n_1 r_12=>cSl 5 r_12 fun b_9 r_13=>cInt .i64 r_13 fun n_2 r_14=>let t7:AV:=Yy [Zy b_5,Zy b_6,Zy b_7,Yp 5 b_8,Zz .i64 n,Zz .i64 n_1,Yp 5 b_9,Zz .i64 n_2];onNil r_14 (onCons r fun x r=>Xn x fun cs=>cStr cs fun b_10 r_15=>cStr r_15 fun b_11 r_16=>cStr r_16 fun b_12 r_17=>cInt .u64 r_17 fun n r_18=>cInt .i64 r_18 fun n_3 r_19=>cInt .i64 r_19 fun n_4 r_20=>cInt .i64 r_20 fun n_5 r_21=>cInt .i64 r_21 fun n_6 r_22=>cInt .i64 r_22 fun n_7 r_23=>cInt .i64 r_23 fun n_8 r_24=>cBs r_24 fun b_13 r_25=>cBs r_25 fun b_14 r_26=>let t8:AV:=Yy [Zy b_10,Zy b_11,Zy b_12,Zz .u64 n,Zz .i64 n_3,Zz .i64 n_4,Zz .i64 n_5,Zz .i64 n_6,Zz .i64 n_7,Zz .i64 n_8,Zd b_13,Zd b_14];onNil r_26 (cInt .i64 r fun n_9 r=>let t9:Option (AV×Blocks):=some (Zg [t7,t8,Zd [],Zz .i64 n_9],[]);onNil r (sel (!n_9==0) t9 (sel (!b_1) t9 (Zw (chk (decide (0≤n)&&decide (n<18446744073709551616)) (some (Zg [Zd (Uz (Kerb.serviceAnswer n n_4 n_5 n_6 b)),Zz .i64 (Uy (Kerb.serviceAnswer n n_4 n_5 n_6 b))],[]))) (kT fun vs=>cBs vs fun b r=>cInt .i64 r fun n r=>onNil r (sel (!n==0) (Zw t1 (kA fun cs=>cStr cs fun b r=>cStr r fun b_15 r=>cStr r fun b_16 r=>cSl 5 r fun b_17 r=>cInt .i64 r fun n_10 r=>cInt .i64 r fun n_11 r=>cSl 5 r fun b_18 r=>cInt .i64 r fun n_12 r=>onNil r (some (Zg [Yy [Zy b,Zy b_15,Zy b_16,Yp 5 b_17,Zz .i64 n_10,Zz .i64 n_11,Yp 5 b_18,Zz .i64 n_12],t2,Zd [],Zz .i64 n],[])))) (some (Zg [t7,t8,Zd b,Zz .i64 0],[])))))))))))))):Option (AV×Blocks))) (by kernel_rfl) ?_
  delta kT kA
  try dsimp only [cStr,cBs,cBool,cU8,cInt,cSl,l63]
  simp only [Yx,decide_eq_true_eq] at hpre
  obtain ⟨⟨⟨⟨⟨⟨⟨l1,l2⟩,l3⟩,ka⟩,kl⟩,ma⟩,ml⟩,hm⟩:=hpre
  obtain ⟨ks,rfl,hks⟩:=Uf ka
  obtain ⟨ms,rfl,hms⟩:=Vd ma
  have hkT:=Uq hks
  have hmT:=Wm hms
  simp only [Yj] at kl ml
  have hm2:msg.length≤140737488355328:=by omega
  obtain ⟨S,hS⟩:∃ S,Vj ⟨m1,m2,m3⟩ ks ⟨sz,fl,ms⟩ sk=S:=⟨_,rfl⟩
  obtain ⟨R,hR⟩:∃ R,(Xb msg).val=R:=⟨_,rfl⟩
  have hb:=Kerb.decodeAp_bd msg
  rw [hR] at hb
  have d1:R.ticket.length≤1000000:=by omega
  have d2:R.auth.length≤1000000:=by omega
  have hRe:Xm R.little R.mutual_ R.kvno R.realm R.ticket R.auth=R:=rfl
  have hs:=Kerb.verify_bd S R src now
  simp only [Wd,Wu,Yj,hkT,hmT,kl,ml,l1,l2,l3,hm2,decide_true,Xd,hS,hR,hRe,d1,d2,hs,↓sInt,↓sU8,↓sBool,↓sStr,↓sBs,↓sSl,↓sAgg,↓sTup,↓sCons,↓sNil,↓sNilB,↓sChk,↓sChkBind,↓sSome]
  unfold Kerb.vRead
  rw [hR]
  by_cases g1:(Xb msg).err=0
  case neg =>
   rw [sel_pos (by simpa using g1),if_pos g1]
   have q0:List.getD [Zz Zu 39,Zz Zu 40] (Xy 0) AV.undef=Zz Zu 39:=rfl
   have q1:List.getD [Zz Zu 39,Zz Zu 40] (Xy (Zn .i64 (0+1))) AV.undef=Zz Zu 40:=rfl
   rw [q0,onInt_int,q1,onInt_int]
   by_cases g2:(Xb msg).err=39
   ·rw [sel_pos (by simpa using g2),if_pos (.inl g2),← hS];rfl
   rw [sel_neg (by simpa using g2)]
   by_cases g3:(Xb msg).err=40
   ·rw [sel_pos (by simpa using g3),if_pos (.inr g3),← hS];rfl
   rw [sel_neg (by simpa using g3),if_neg (by simp [g2,g3]),← hS];rfl
  rw [sel_neg (by simpa using g1),if_neg (by simpa using g1)]
  obtain ⟨V,hV⟩:∃ V,Kerb.verify S R src now=V:=⟨_,rfl⟩
  have hno := @Kerb.verify_no S R src now
  rw [hV] at hno ⊢
  by_cases g4:V.err=0
  case neg =>
   have hn:=hno g4
   rw [sel_pos (by simpa using g4),if_pos g4,hn]
  rw [sel_neg (by simpa using g4),if_neg (by simpa using g4)]
  cases g5:R.mutual_
  ·rw [if_pos rfl,g4];rfl
  rw [if_neg (by simp),Yk,sel_false]
  unfold Kerb.Accepted.reply
  by_cases g6:(Kerb.serviceAnswer V.a.session V.a.checksum V.a.time V.a.tick R.little).err=0
  case neg=>rw [sel_pos (by simpa using g6),if_pos g6,← hS];rfl
  rw [sel_neg (by simpa using g6),if_neg (by simpa using g6)]
 ·cases h
theorem p9  : runFn (G.env 9 15) G.rts (G.own 9) Tryz.f9 [] []=some (.bool true,[]):=by kernel_rfl
theorem w9:Walked Tryz.prog G 9 15 sp9:=by
 refine ⟨Tryz.f9,Tryz.func9,by decide +kernel,rfl,fun xs bl r h=> ?_⟩
 unfold sp9 at h
 split at h
 ·cases h;exact p9
 ·cases h
end Go.Proofs.YtiplnpablmohiaaGreat
