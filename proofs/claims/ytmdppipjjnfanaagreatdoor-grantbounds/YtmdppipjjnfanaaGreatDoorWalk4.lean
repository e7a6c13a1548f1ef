/- What the functions of this seat compute. -/
import Derived.Test.YtmdppipjjnfanaaGreatDoorTab
import Derived.Test.YtmdppipjjnfanaaGreatDoorKerbPlain
import Derived.Test.YtmdppipjjnfanaaGreatDoorAbsStep
import Derived.Test.YtmdppipjjnfanaaGreatDoorKerbCli3
import Derived.Test.YtmdppipjjnfanaaGreatDoorKerbCli4
import Derived.Test.YtmdppipjjnfanaaGreatDoorKerbCli5
import Derived.Test.YtmdppipjjnfanaaGreatDoorKerbSrvL
import Derived.Test.YtmdppipjjnfanaaGreatDoorKerbKac2
import Derived.Test.YtmdppipjjnfanaaGreatDoorKerbKac4
import Derived.Test.YtmdppipjjnfanaaGreatDoorKerbSrvB
import Derived.Test.YtmdppipjjnfanaaGreatDoorKerbVerL
import Derived.Test.YtmdppipjjnfanaaGreatDoorKerbVerL
import Derived.Test.YtmdppipjjnfanaaGreatDoorKerbAuthL
import Derived.Test.YtmdppipjjnfanaaGreatDoorKerbGrtL
open Go.Abs.AV renaming int→Zz,str→Zy,tup→Zp,bs→Zf,bool→Yx,agg→Yw,sl→Xw,onAgg→Xv,ownB→Uw
open List renaming length→Zx,length_map→Yq,map→Xu,all→Vz,append→Vm
open Kerb.Prin renaming mk→Zw,realm→Zb,name→Zh,inst→Yz,valid→Vd
open Option renaming bind→Zv
open Kerb renaming putPrin_len→Zu,keyBytes_len→Zj,putN_len→Zk,openTicket→Zd,noIssue→Zm,grant→Yj,service→Yk,u8i→Ym,decodeTicket→Yh,decodeTgs→Xy,get→Xx,putN→Xq,putText→Xh,openReq→Wz,krbtgt→Wx,prin→Ww,realm→Wv,text→Wj,decodeAuth→Wk,openAuth→Wg,encodePart→Vy,encodeTicket→Vu,within→Vj,readAp→Vk,openBox→Vp,map_toMark→Vg,toMark→Vh,skFind→Uz,refuse→Uy,holder→Ux,skAt→Ud,isU64→Uf,marks_of→Ug,toSKey→Um,map_toSKey→Qw,skeys_all→Qg,marks_all→Qb,isMark→Qm,headIs→Qh,skeys_of→Ju
open Kerb.Dec renaming val→Zq,err→Vn
open Go.IntKind renaming i64→Zg,wrap→Yf
open Kerb.Case renaming mk→Zn,tgsMsg→Wu
open Kerb.TAsk renaming mk→Yy,key→Yn,base→Wf,want→Qy
open Kerb.Granted renaming issue→Yv,part→Xm
open Bool renaming and_eq_true→Yu,and_self→Xz,true_and→Vx,not_true→Vw,and_true→Vv
open Kerb.Ticket renaming client→Yp,mk→Wm,session→Uj,service→Uk,address→Up,little→Ub,issued→Un,life→Qk,inst→Qp
open Kerb.Issue renaming service→Yd,server→Yg,client→Yb,session→Uh,granter→Qz,sealer→Qu,issued→Qq,text→Jz,stop→Jy,kind→Jx
open Kerb.ReplyPart renaming mk→Xj,service→Qj
open UInt8 renaming toNat→Xk
open Kerb.Auth renaming client→Xp,mk→Jw
open Kerb.RCache renaming mk→Xd
open Kerb.Mark renaming av→Xf
open Kerb.ApRequest renaming mk→Xg
open Kerb.Enc renaming val→Xb,err→Xn
open Prod renaming snd→Wy,fst→Wd
open Kerb.Got renaming next→Wq,val→Wb,err→Wn
open Kerb.TgsRequest renaming ap→Wp,mk→Uq
open Kerb.Server renaming mk→Wh
open Kerb.SKey renaming av→Vq
open Kerb.GotAp renaming val→Vf
open Int renaming tmod→Vb,tmod_eq_emod_of_nonneg→Qn
open Kerb.GotP renaming val→Uv
open Nat renaming le_trans→Uu
open Kerb.GotB renaming next→Qx,val→Qd,err→Qf
open Kerb.KdcReply renaming mk→Qv
open Kerb.Accepted renaming client→Jv
namespace Go.Proofs.YtmdppipjjnfanaaGreatDoor
open Go Go.Abs Go.Proofs
set_option linter.unusedVariables false
set_option linter.unusedSimpArgs false
set_option maxRecDepth 100000
theorem w10:Walked Tryz.prog G 10 9 sp10:=by
 refine ⟨Tryz.f10,Tryz.func10,by decide +kernel,rfl,fun xs bl r h=> ?_⟩
 unfold sp10 at h
 split at h
 ·rename_i cu co cv cr lt tn mt cad cfr cis ctm ctk clf ccs cky ckv css ctt cau qf qt_ qp ql qn qk qh xls
  obtain ⟨hpre,h2⟩:=chk_inv h;cases h2
  refine Eq.trans (b:=(let t2:Kerb.Case:=Zn cu co cv cr lt tn mt cad cfr cis ctm ctk clf ccs cky ckv css ctt cau;let t3:Int:=Vb (Yf .i64 (↑(Xk qk):Int)) (↑(Zx xls):Int);let t4:Option (AV×Blocks):=chk (decide (0≤Yf .i64 (↑(Xk qp):Int))) (some (Yw [Zy Wx,Zy (Wv (Yf .i64 (↑(Xk qp):Int))),Zy (Wv 0)],[]));let t5:Bool:=decide (0≤ccs)&&decide (ccs≤4294967295)&&decide (0≤ctt)&&decide (ctt≤65535)&&decide (0≤cau)&&decide (cau≤65535);let t6:Int:=Vb (Yf .i64 (↑(Xk qt_):Int)) 3;let t7:Bool:=decide (0≤Yf .u16 (Int.tdiv qh 8));let t8:Bool:=decide (Yf .u16 (Int.tdiv qh 8)≤65535);let t1:Option (AV×Blocks):=chk (decide (0≤t6)&&decide (t6≤4611686018427387904)) (some (Yw [Zy (Zh (Yk t6)),Zy (Yz (Yk t6)),Zy (Zb (Yk t6))],[]));let t0:Option (AV×Blocks):=Zv t1 (kA fun cs=>cStr cs fun b r=>cStr r fun b_1 r=>cStr r fun b_2 r=>onNil r (sel (UInt8.ofNat (Int.toNat (Vb (↑(Xk qt_):Int) (↑(Xk (5:UInt8)):Int)))==(4:UInt8)) (Zv t4 (kA fun cs=>cStr cs fun b r=>cStr r fun b_3 r=>cStr r fun b_4 r=>onNil r (Zv (chk (t5&&l63 b&&l63 b_3) (some (Zf (Wu t2 (Zw Wx (Wv 0) (Wv 0)) (Kerb.long 3) 6 5 (Yf .i64 (↑(Xk ql):Int)) (Zw b b_3 b_4)),[]))) (kB fun b=>sel (Vb qh 8==7) (Zv (chk (decide (Zx b≤1000000)&&t7&&t8) (some (Zf (Kerb.spoil b (Yf .u16 (Int.tdiv qh 8))),[]))) (kB fun b=>some (Zf b,[]))) (some (Zf b,[])))))) (Zv (chk (t5&&l63 b&&l63 b_1) (some (Zf (Wu t2 (Zw Wx (Wv 0) (Wv 0)) (Kerb.long 3) 6 5 (Yf .i64 (↑(Xk ql):Int)) (Zw b b_1 b_2)),[]))) (kB fun b=>sel (Vb qh 8==7) (Zv (chk (decide (Zx b≤1000000)&&t7&&t8) (some (Zf (Kerb.spoil b (Yf .u16 (Int.tdiv qh 8))),[]))) (kB fun b=>some (Zf b,[]))) (some (Zf b,[]))))));sel (UInt8.ofNat (Int.toNat (Vb (↑(Xk qf):Int) (↑(Xk (3:UInt8)):Int)))==(2:UInt8)) (sel (decide ((↑(Zx xls):Int)>0)) (chk (!(↑(Zx xls):Int)==0) (chk (decide (0≤t3)&&decide (t3<(↑(Zx xls):Int))&&true) (Xv (List.getD xls (Int.toNat t3) AV.undef) fun cs=>cStr cs fun b r=>cStr r fun b_1 r=>cInt .i64 r fun n r=>cInt .u64 r fun n_1 r=>let t9:Bool:=l63 b&&Uf n_1&&decide (0≤n)&&decide (n≤1000)&&decide (0≤ccs)&&decide (ccs≤4294967295)&&decide (0≤ctt)&&decide (ctt≤65535)&&decide (0≤cau)&&decide (cau≤65535);onNil r (Zv t1 (kA fun cs=>cStr cs fun b_2 r=>cStr r fun b_3 r=>cStr r fun b_4 r=>onNil r (sel (UInt8.ofNat (Int.toNat (Vb (↑(Xk qt_):Int) (↑(Xk (5:UInt8)):Int)))==(4:UInt8)) (Zv t4 (kA fun cs=>cStr cs fun b_5 r=>cStr r fun b_6 r=>cStr r fun b_7 r=>onNil r (Zv (chk (t9&&l63 b_5&&l63 b_6) (some (Zf (Wu t2 (Zw Wx (Wv 0) b) n_1 n 5 (Yf .i64 (↑(Xk ql):Int)) (Zw b_5 b_6 b_7)),[]))) (kB fun b=>sel (Vb qh 8==7) (Zv (chk (decide (Zx b≤1000000)&&t7&&t8) (some (Zf (Kerb.spoil b (Yf .u16 (Int.tdiv qh 8))),[]))) (kB fun b=>some (Zf b,[]))) (some (Zf b,[])))))) (Zv (chk (t9&&l63 b_2&&l63 b_3) (some (Zf (Wu t2 (Zw Wx (Wv 0) b) n_1 n 5 (Yf .i64 (↑(Xk ql):Int)) (Zw b_2 b_3 b_4)),[]))) (kB fun b=>sel (Vb qh 8==7) (Zv (chk (decide (Zx b≤1000000)&&t7&&t8) (some (Zf (Kerb.spoil b (Yf .u16 (Int.tdiv qh 8))),[]))) (kB fun b=>some (Zf b,[]))) (some (Zf b,[])))))))))) t0) t0:Option (AV×Blocks))) (by kernel_rfl) ?_
  delta kA kB
  try dsimp only [cStr,cBs,cBool,cU8,cInt,cSl,l63]
  simp only [Yu,decide_eq_true_eq] at hpre
  obtain ⟨⟨⟨⟨⟨⟨⟨⟨⟨⟨c0,c1⟩,t0⟩,t1⟩,a0⟩,a1⟩,h0⟩,h1⟩,xa⟩,xl⟩,xk⟩:=hpre
  obtain ⟨cs,rfl,hcs⟩:=Kerb.cross_okof xa
  rw [Kerb.map_toCross] at xk ⊢
  simp only [Yq] at xl
  have bt:=Kerb.u8i_bd qt_
  have bp:=Kerb.u8i_bd qp
  have bk:=Kerb.u8i_bd qk
  have z1:Vb (Ym qt_) 3=Ym qt_ % 3:=Qn bt.1
  have z2:(decide ((0:Int)≤Ym qt_ % 3)&&decide (Ym qt_ % 3≤4611686018427387904))=true:=by simp;omega
  have z3:decide ((0:Int)≤Ym qp)=true:=by simp;omega
  have z5:=Kerb.rem3_is qf
  have z6:=Kerb.rem5_is qt_
  have z7:Vb qh 8=qh % 8:=Qn h0
  have z8:Yf .u16 (Int.tdiv qh 8)=qh / 8:=by rw [Int.tdiv_eq_ediv_of_nonneg h0];rw [Kerb.wrap_u16];omega
  have z9:(decide ((0:Int)≤qh / 8)&&decide (qh / 8≤65535))=true:=by simp;omega
  have l0:Kerb.krbtgt.length≤9223372036854775807:=by decide
  have l1:∀ n,decide ((Wv n).length≤9223372036854775807)=true:=fun n=>decide_eq_true (Kerb.realm_lenB n)
  obtain ⟨l5,l6,l7⟩:=Kerb.service_dec (Ym qt_ % 3)
  have kl:Uf (Kerb.long 3)=true:=Kerb.isU64_iff.2 (Kerb.long_bd 3)
  have d6:(decide ((0:Int)≤6)&&decide ((6:Int)≤1000))=true:=rfl
  simp (config:={maxSteps:=10000000}) only [Kerb.wrap_u8i,z1,z2,z3,z5,z6,z7,z8,l0,l1,l5,l6,kl,d6,c0,c1,t0,t1,a0,a1,decide_true,Xz,Vx,Vv,Bool.and_assoc,Yq,↓sInt,↓sU8,↓sBool,↓sStr,↓sBs,↓sSl,↓sAgg,↓sTup,↓sCons,↓sNil,↓sNilB,↓sChk,↓sChkBind,↓sSome,↓sOwnL,↓sConsB,↓sOwnB]
  have hWW:Qy (Yy (Zn cu co cv cr lt tn mt cad cfr cis ctm ctk clf ccs cky ckv css ctt cau) qf qt_ qp ql qn qk qh)=if qt_.toNat % 5=4 then ⟨Wx,Wv (Ym qp),Wv 0⟩ else Yk (Ym qt_ % 3):=rfl
  rcases Decidable.em (qf.toNat % 3=2∧0<cs.length) with q | q
  ·obtain ⟨q1,q2⟩:=q
   obtain ⟨i,hi⟩:∃ i,qk.toNat % cs.length=i:=⟨_,rfl⟩
   have hi2:i<cs.length:=hi ▸ Nat.mod_lt _ q2
   have hm:Vb (Ym qk) (cs.length:Int)=(i:Int):=by
    rw [Qn bk.1,← hi]
    exact (Int.natCast_emod _ _).symm
   obtain ⟨c,hc⟩:∃ c,cs.getD i Kerb.noCross=c:=⟨_,rfl⟩
   have hK:Yn (Yy (Zn cu co cv cr lt tn mt cad cfr cis ctm ctk clf ccs cky ckv css ctt cau) qf qt_ qp ql qn qk qh) cs=⟨⟨Wx,Wv 0,c.source⟩,c.kvno,c.key⟩:=by
    unfold Yn
    dsimp only
    rw [if_pos ⟨q1,q2⟩,hi,hc]
   have hg:(cs.map Kerb.Cross.av).getD i AV.undef=c.av:=by rw [Kerb.getD_row (d:=Kerb.noCross) hi2,hc]
   have hco:=hcs c (hc ▸ Kerb.mem_row (d:=Kerb.noCross) hi2)
   have hkv:Kerb.isKv c=true:=List.all_eq_true.1 xk c (hc ▸ Kerb.mem_row (d:=Kerb.noCross) hi2)
   have hkv2:(decide ((0:Int)≤c.kvno)&&decide (c.kvno≤1000))=true:=hkv
   have hkv3:decide ((0:Int)≤c.kvno)=true:=by simp only [Yu] at hkv2;exact hkv2.1
   have hkv4:decide (c.kvno≤1000)=true:=by simp only [Yu] at hkv2;exact hkv2.2
   have co1:=hco.1
   have co4:=hco.2.2.2
   have hk:(decide ((0:Int)≤(i:Int))&&decide ((i:Int)<(cs.length:Int)))=true:=by simp;omega
   have hne:(!(cs.length:Int)==0)=true:=by rw [show ((cs.length:Int)==0)=false from beq_false_of_ne (by omega)];rfl
   have hgt:decide ((cs.length:Int)>0)=true:=by simp;omega
   simp (config:={maxSteps:=10000000}) only [q1,decide_true,↓sTrue,hgt,hne,hm,hk,Int.toNat_natCast,hg,Kerb.Cross.av,hkv3,hkv4,co1,co4,Xz,Vx,Vv,↓sInt,↓sU8,↓sBool,↓sStr,↓sBs,↓sSl,↓sAgg,↓sTup,↓sCons,↓sNil,↓sNilB,↓sChk,↓sChkBind,↓sSome,↓sOwnL,↓sConsB,↓sOwnB]
   rcases Decidable.em (qt_.toNat % 5=4) with p | p
   ·rw [if_pos p] at hWW
    have hW:=hWW
    simp only [p,decide_true,↓sTrue]
    have lB:(Wf (Yy (Zn cu co cv cr lt tn mt cad cfr cis ctm ctk clf ccs cky ckv css ctt cau) qf qt_ qp ql qn qk qh) cs).length≤1000000:=Kerb.base_len _ _
    have hB:Wf (Yy (Zn cu co cv cr lt tn mt cad cfr cis ctm ctk clf ccs cky ckv css ctt cau) qf qt_ qp ql qn qk qh) cs=Wu (Zn cu co cv cr lt tn mt cad cfr cis ctm ctk clf ccs cky ckv css ctt cau) (Yn (Yy (Zn cu co cv cr lt tn mt cad cfr cis ctm ctk clf ccs cky ckv css ctt cau) qf qt_ qp ql qn qk qh) cs).service (Yn (Yy (Zn cu co cv cr lt tn mt cad cfr cis ctm ctk clf ccs cky ckv css ctt cau) qf qt_ qp ql qn qk qh) cs).key (Yn (Yy (Zn cu co cv cr lt tn mt cad cfr cis ctm ctk clf ccs cky ckv css ctt cau) qf qt_ qp ql qn qk qh) cs).kvno 5 (Ym ql) (Qy (Yy (Zn cu co cv cr lt tn mt cad cfr cis ctm ctk clf ccs cky ckv css ctt cau) qf qt_ qp ql qn qk qh)):=rfl
    have hW3:Zw (Yk (Ym qt_ % 3)).name (Yk (Ym qt_ % 3)).inst (Yk (Ym qt_ % 3)).realm=Yk (Ym qt_ % 3):=rfl
    rw [hK,hW] at hB
    dsimp only at hB
    simp only [hW3,← hB]
    unfold Kerb.TAsk.msg
    dsimp only
    by_cases q7:qh % 8=7
    ·rw [sel_pos (by simpa using q7),if_pos q7]
     simp (config:={maxSteps:=10000000}) only [lB,z9,decide_true,Vx,Vv,↓sInt,↓sU8,↓sBool,↓sStr,↓sBs,↓sSl,↓sAgg,↓sTup,↓sCons,↓sNil,↓sNilB,↓sChk,↓sChkBind,↓sSome,↓sOwnL,↓sConsB,↓sOwnB]
    ·rw [sel_neg (by simpa using q7),if_neg q7]
   ·rw [if_neg p] at hWW
    have hW:=hWW
    simp only [p,decide_false,↓sFalse]
    have lB:(Wf (Yy (Zn cu co cv cr lt tn mt cad cfr cis ctm ctk clf ccs cky ckv css ctt cau) qf qt_ qp ql qn qk qh) cs).length≤1000000:=Kerb.base_len _ _
    have hB:Wf (Yy (Zn cu co cv cr lt tn mt cad cfr cis ctm ctk clf ccs cky ckv css ctt cau) qf qt_ qp ql qn qk qh) cs=Wu (Zn cu co cv cr lt tn mt cad cfr cis ctm ctk clf ccs cky ckv css ctt cau) (Yn (Yy (Zn cu co cv cr lt tn mt cad cfr cis ctm ctk clf ccs cky ckv css ctt cau) qf qt_ qp ql qn qk qh) cs).service (Yn (Yy (Zn cu co cv cr lt tn mt cad cfr cis ctm ctk clf ccs cky ckv css ctt cau) qf qt_ qp ql qn qk qh) cs).key (Yn (Yy (Zn cu co cv cr lt tn mt cad cfr cis ctm ctk clf ccs cky ckv css ctt cau) qf qt_ qp ql qn qk qh) cs).kvno 5 (Ym ql) (Qy (Yy (Zn cu co cv cr lt tn mt cad cfr cis ctm ctk clf ccs cky ckv css ctt cau) qf qt_ qp ql qn qk qh)):=rfl
    have hW3:Zw (Yk (Ym qt_ % 3)).name (Yk (Ym qt_ % 3)).inst (Yk (Ym qt_ % 3)).realm=Yk (Ym qt_ % 3):=rfl
    rw [hK,hW] at hB
    dsimp only at hB
    simp only [hW3,← hB]
    unfold Kerb.TAsk.msg
    dsimp only
    by_cases q7:qh % 8=7
    ·rw [sel_pos (by simpa using q7),if_pos q7]
     simp (config:={maxSteps:=10000000}) only [lB,z9,decide_true,Vx,Vv,↓sInt,↓sU8,↓sBool,↓sStr,↓sBs,↓sSl,↓sAgg,↓sTup,↓sCons,↓sNil,↓sNilB,↓sChk,↓sChkBind,↓sSome,↓sOwnL,↓sConsB,↓sOwnB]
    ·rw [sel_neg (by simpa using q7),if_neg q7]
  ·have hK:Yn (Yy (Zn cu co cv cr lt tn mt cad cfr cis ctm ctk clf ccs cky ckv css ctt cau) qf qt_ qp ql qn qk qh) cs=⟨⟨Wx,Wv 0,Wv 0⟩,6,Kerb.long 3⟩:=by
    unfold Yn
    rw [if_neg q]
   have hs:∀ a b:Option (AV×Blocks),sel (decide (qf.toNat % 3=2)) (sel (decide ((cs.length:Int)>0)) a b) b=b:=by
    intro a b
    by_cases q1:qf.toNat % 3=2
    ·have:¬ ((cs.length:Int)>0):=fun h=>q ⟨q1,by omega⟩
     rw [sel_pos (by simpa using q1),sel_neg (by simpa using this)]
    ·rw [sel_neg (by simpa using q1)]
   rw [hs]
   rcases Decidable.em (qt_.toNat % 5=4) with p | p
   ·rw [if_pos p] at hWW
    have hW:=hWW
    simp only [p,decide_true,↓sTrue]
    have lB:(Wf (Yy (Zn cu co cv cr lt tn mt cad cfr cis ctm ctk clf ccs cky ckv css ctt cau) qf qt_ qp ql qn qk qh) cs).length≤1000000:=Kerb.base_len _ _
    have hB:Wf (Yy (Zn cu co cv cr lt tn mt cad cfr cis ctm ctk clf ccs cky ckv css ctt cau) qf qt_ qp ql qn qk qh) cs=Wu (Zn cu co cv cr lt tn mt cad cfr cis ctm ctk clf ccs cky ckv css ctt cau) (Yn (Yy (Zn cu co cv cr lt tn mt cad cfr cis ctm ctk clf ccs cky ckv css ctt cau) qf qt_ qp ql qn qk qh) cs).service (Yn (Yy (Zn cu co cv cr lt tn mt cad cfr cis ctm ctk clf ccs cky ckv css ctt cau) qf qt_ qp ql qn qk qh) cs).key (Yn (Yy (Zn cu co cv cr lt tn mt cad cfr cis ctm ctk clf ccs cky ckv css ctt cau) qf qt_ qp ql qn qk qh) cs).kvno 5 (Ym ql) (Qy (Yy (Zn cu co cv cr lt tn mt cad cfr cis ctm ctk clf ccs cky ckv css ctt cau) qf qt_ qp ql qn qk qh)):=rfl
    have hW3:Zw (Yk (Ym qt_ % 3)).name (Yk (Ym qt_ % 3)).inst (Yk (Ym qt_ % 3)).realm=Yk (Ym qt_ % 3):=rfl
    rw [hK,hW] at hB
    dsimp only at hB
    simp only [hW3,← hB]
    unfold Kerb.TAsk.msg
    dsimp only
    by_cases q7:qh % 8=7
    ·rw [sel_pos (by simpa using q7),if_pos q7]
     simp (config:={maxSteps:=10000000}) only [lB,z9,decide_true,Vx,Vv,↓sInt,↓sU8,↓sBool,↓sStr,↓sBs,↓sSl,↓sAgg,↓sTup,↓sCons,↓sNil,↓sNilB,↓sChk,↓sChkBind,↓sSome,↓sOwnL,↓sConsB,↓sOwnB]
    ·rw [sel_neg (by simpa using q7),if_neg q7]
   ·rw [if_neg p] at hWW
    have hW:=hWW
    simp only [p,decide_false,↓sFalse]
    have lB:(Wf (Yy (Zn cu co cv cr lt tn mt cad cfr cis ctm ctk clf ccs cky ckv css ctt cau) qf qt_ qp ql qn qk qh) cs).length≤1000000:=Kerb.base_len _ _
    have hB:Wf (Yy (Zn cu co cv cr lt tn mt cad cfr cis ctm ctk clf ccs cky ckv css ctt cau) qf qt_ qp ql qn qk qh) cs=Wu (Zn cu co cv cr lt tn mt cad cfr cis ctm ctk clf ccs cky ckv css ctt cau) (Yn (Yy (Zn cu co cv cr lt tn mt cad cfr cis ctm ctk clf ccs cky ckv css ctt cau) qf qt_ qp ql qn qk qh) cs).service (Yn (Yy (Zn cu co cv cr lt tn mt cad cfr cis ctm ctk clf ccs cky ckv css ctt cau) qf qt_ qp ql qn qk qh) cs).key (Yn (Yy (Zn cu co cv cr lt tn mt cad cfr cis ctm ctk clf ccs cky ckv css ctt cau) qf qt_ qp ql qn qk qh) cs).kvno 5 (Ym ql) (Qy (Yy (Zn cu co cv cr lt tn mt cad cfr cis ctm ctk clf ccs cky ckv css ctt cau) qf qt_ qp ql qn qk qh)):=rfl
    have hW3:Zw (Yk (Ym qt_ % 3)).name (Yk (Ym qt_ % 3)).inst (Yk (Ym qt_ % 3)).realm=Yk (Ym qt_ % 3):=rfl
    rw [hK,hW] at hB
    dsimp only at hB
    simp only [hW3,← hB]
    unfold Kerb.TAsk.msg
    dsimp only
    by_cases q7:qh % 8=7
    ·rw [sel_pos (by simpa using q7),if_pos q7]
     simp (config:={maxSteps:=10000000}) only [lB,z9,decide_true,Vx,Vv,↓sInt,↓sU8,↓sBool,↓sStr,↓sBs,↓sSl,↓sAgg,↓sTup,↓sCons,↓sNil,↓sNilB,↓sChk,↓sChkBind,↓sSome,↓sOwnL,↓sConsB,↓sOwnB]
    ·rw [sel_neg (by simpa using q7),if_neg q7]
 ·cases h
theorem w27:Walked Tryz.prog G 27 9 sp27:=by
 refine ⟨Tryz.f27,Tryz.func27,by decide +kernel,rfl,fun xs bl r h=> ?_⟩
 unfold sp27 at h
 split at h
 ·rename_i b
  obtain ⟨hpre,h2⟩:=chk_inv h;cases h2
  refine Eq.trans (b:=(let t1:AV:=Yw [Yx false,Yx false,Zz .i64 0,Zy [],Zf [],Zf [],Zz .i64 0,Zz .i64 0,Zy [],Zy []];let t0:Option (AV×Blocks):=some (Zp [t1,Zz .i64 100],[]);sel (!Wy (Qh b [3])==0) (some (Zp [t1,Zz .i64 (Wy (Qh b [3]))],[])) (Zv (chk (decide (Zx b≤140737488355328)) (some (Zp [Yw [Yx (Kerb.ApRequest.little (Vf (Vk b))),Yx (Kerb.ApRequest.mutual_ (Vf (Vk b))),Zz .i64 (Kerb.ApRequest.kvno (Vf (Vk b))),Zy (Kerb.ApRequest.realm (Vf (Vk b))),Zf (Kerb.ApRequest.ticket (Vf (Vk b))),Zf (Kerb.ApRequest.auth (Vf (Vk b)))],Zz .i64 (Kerb.GotAp.next (Vk b))],[]))) (kT fun vs=>onCons vs fun x r=>Xv x fun cs=>cBool cs fun b_1 r_1=>cBool r_1 fun b_2 r_2=>cInt .i64 r_2 fun n r_3=>cStr r_3 fun b_3 r_4=>cBs r_4 fun b_4 r_5=>cBs r_5 fun b_5 r_6=>onNil r_6 (cInt .i64 r fun n_1 r=>let t2:Kerb.Got:=Xx b n_1 4 (Wd (Qh b [3]));onNil r (Zv (chk (decide (Zx b≤4611686018427387904)) (some (Zp [Zz .i64 (Wb t2),Zz .i64 (Wq t2),Zz .i64 (Wn t2)],[]))) (kT fun vs=>cInt .i64 vs fun n_2 r=>cInt .i64 r fun n_3 r=>cInt .i64 r fun n_4 r=>onNil r (Zv (chk (decide (Zx b≤4611686018427387904)) (some (Zp [Zz .i64 (Wb (Xx b n_3 1 false)),Zz .i64 (Wq (Xx b n_3 1 false)),Zz .i64 (Wn (Xx b n_3 1 false))],[]))) (kT fun vs=>cInt .i64 vs fun n_5 r=>cInt .i64 r fun n_6 r=>cInt .i64 r fun n_7 r=>onNil r (Zv (chk (decide (Zx b≤4611686018427387904)) (some (Zp [Zy (Qd (Wj b n_6)),Zz .i64 (Qx (Wj b n_6)),Zz .i64 (Qf (Wj b n_6))],[]))) (kT fun vs=>cStr vs fun b_6 r=>cInt .i64 r fun n_8 r=>cInt .i64 r fun n_9 r=>onNil r (Zv (chk (decide (Zx b≤4611686018427387904)) (some (Zp [Zy (Qd (Wj b n_8)),Zz .i64 (Qx (Wj b n_8)),Zz .i64 (Qf (Wj b n_8))],[]))) (kT fun vs=>cStr vs fun b_7 r=>cInt .i64 r fun n_10 r=>cInt .i64 r fun n_11 r=>onNil r (Zv (chk (l63 b_3&&l63 b_6&&l63 b_7) (some (Zp [Zf (Xb (Kerb.encodeTgs (Uq (Xg b_1 b_2 n b_3 b_4 b_5) n_2 n_5 b_6 b_7))),Zz .i64 (Xn (Kerb.encodeTgs (Uq (Xg b_1 b_2 n b_3 b_4 b_5) n_2 n_5 b_6 b_7)))],[]))) (kT fun vs=>cBs vs fun b_8 r=>cInt .i64 r fun n_12 r=>onNil r (sel (!n_12==0) t0 (sel (!b_8==b) t0 (some (Zp [Yw [Yx b_1,Yx b_2,Zz .i64 n,Zy b_3,Zf b_4,Zf b_5,Zz .i64 n_2,Zz .i64 n_5,Zy b_6,Zy b_7],Zz .i64 0],[]))))))))))))))))):Option (AV×Blocks))) (by kernel_rfl) ?_
  delta kT
  try dsimp only [cStr,cBs,cBool,cU8,cInt,cSl,l63]
  have hb:=of_decide_eq_true hpre
  have hpre2:decide (b.length≤4611686018427387904)=true:=by simp;omega
  obtain ⟨g1,g2,g3⟩:=Kerb.readTgs_bd b (Qh b [3]).1
  have e1:∀ p,decide ((Wj b p).val.length≤9223372036854775807)=true:=fun p=>by have:=Kerb.text_len b p;simp;omega
  unfold Xy
  by_cases h:(Qh b [3]).2=0
  case neg=>rw [sel_pos (by simpa using h),if_pos h];rfl
  rw [sel_neg (by simpa using h),if_neg (by simpa using h)]
  have g4:decide ((Vk b).val.realm.length≤9223372036854775807)=true:=decide_eq_true (show (Vk b).val.realm.length≤9223372036854775807 from g1)
  simp only [hpre,hpre2,g4,e1,decide_true,Xz,↓A0,A0]
  exact Kerb.decBy_fin (b:=b) (no:=Kerb.noTgs) (enc:=Kerb.encodeTgs) (rd:=fun b=>(Kerb.readTgs b (Qh b [3]).1,false)) _ false rfl (fun x e=>(Zp [.agg [.bool (x).ap.little,.bool (x).ap.mutual_,.int .i64 (x).ap.kvno,.str (x).ap.realm,.bs (x).ap.ticket,.bs (x).ap.auth,.int .i64 (x).time,.int .i64 (x).life,.str (x).service,.str (x).inst],Zz Zg e],([]:Blocks)))
 ·cases h
theorem w60:Walked Tryz.prog G 60 9 sp60:=by
 refine ⟨Tryz.f60,Tryz.func60,by decide +kernel,rfl,fun xs bl r h=> ?_⟩
 unfold sp60 at h
 split at h
 ·rename_i m1 m2 m3 kls sz fl mls sk
  obtain ⟨hpre,h2⟩:=chk_inv h;cases h2
  refine Eq.trans (b:=(Zv (chk (decide (Zx m1≤9223372036854775807)&&decide (Zx m2≤9223372036854775807)&&decide (Zx m3≤9223372036854775807)) (some (Yx (Vd (Zw m1 m2 m3)),[]))) fun (r:AV×Blocks)=>onNilB (Wy r) (AV.onBool (Wd r) fun b=>sel (!b) (some (Zz .i64 103,[])) (Zv (chk (Vz kls Kerb.isSKey&&decide (Zx kls≤1000000)) (some (Zz .i64 (Kerb.skErr (Xu Um kls)),[]))) fun (r:AV×Blocks)=>onNilB (Wy r) (AV.onInt .i64 (Wd r) fun n=>sel (!n==0) (some (Zz .i64 n,[])) (Zv (chk (Vz mls Qm&&decide (Zx mls≤1000000)) (some (Zz .i64 (Kerb.RCache.err (Xd sz fl (Xu Vh mls))),[]))) fun (r:AV×Blocks)=>onNilB (Wy r) (AV.onInt .i64 (Wd r) fun n=>sel (!n==0) (some (Zz .i64 n,[])) (sel (!Vj sk 4294967295) (some (Zz .i64 104,[])) (some (Zz .i64 0,[])))))))):Option (AV×Blocks))) (by kernel_rfl) ?_
  simp only [Yu,decide_eq_true_eq] at hpre
  obtain ⟨⟨⟨⟨⟨⟨l1,l2⟩,l3⟩,ka⟩,kl⟩,ma⟩,ml⟩:=hpre
  obtain ⟨ks,rfl,hks⟩:=Ju ka
  obtain ⟨ms,rfl,hms⟩:=Ug ma
  have hkT:=Qg hks
  have hmT:=Qb hms
  simp only [Yq] at kl ml
  simp only [Qw,Vg,Yq,hkT,hmT,kl,ml,l1,l2,l3,decide_true,Xz,↓A0,A0]
  unfold Kerb.Server.err
  dsimp only
  cases g1:Vd ⟨m1,m2,m3⟩
  ·rfl
  rw [Vw,sel_false,if_neg (by simp)]
  by_cases g2:Kerb.skErr ks=0
  case neg=>rw [sel_pos (by simpa using g2),if_pos g2]
  rw [sel_neg (by simpa using g2),if_neg (by simpa using g2)]
  by_cases g3:Kerb.RCache.err ⟨sz,fl,ms⟩=0
  case neg=>rw [sel_pos (by simpa using g3),if_pos g3]
  rw [sel_neg (by simpa using g3),if_neg (by simpa using g3)]
  cases Vj sk 4294967295<;>rfl
 ·cases h
theorem w63:Walked Tryz.prog G 63 9 sp63:=by
 refine ⟨Tryz.f63,Tryz.func63,by decide +kernel,rfl,fun xs bl r h=> ?_⟩
 unfold sp63 at h
 split at h
 ·rename_i sz fl mls a1 a2 a3 at_ atk now skw
  obtain ⟨hpre,h2⟩:=chk_inv h;cases h2
  refine Eq.trans (b:=(let t0:AV:=Yw [Zz .i64 0,Zz .i64 0,Xw 5 []];Zv (chk (Vz mls Qm&&decide (Zx mls≤1000000)) (some (Zz .i64 (Kerb.RCache.err (Xd sz fl (Xu Vh mls))),[]))) (kI .i64 fun n=>sel (!n==0) (some (Zp [t0,Zz .i64 108],[])) (Zv (chk (l63 a1&&l63 a2&&l63 a3) (some (Yx (Vd (Zw a1 a2 a3)),[]))) (kL fun b=>sel (!b) (some (Zp [t0,Zz .i64 103],[])) (sel (!(decide (0≤atk)&&decide (atk≤199))) (some (Zp [t0,Zz .i64 104],[])) (sel (!Kerb.near at_ now skw) (some (Zp [t0,Zz .i64 37],[])) (sel (decide (at_<fl)) (some (Zp [t0,Zz .i64 37],[])) (Zv (chk (Vz mls Qm&&decide (Zx mls≤1000000)) (some (Yx (Kerb.hasMark (Xu Vh mls) (Kerb.Mark.mk (Zw a1 a2 a3) at_ atk)),[]))) (kL fun b=>sel b (some (Zp [t0,Zz .i64 34],[])) (Zv (loopM (fun (st:List AV)=>cInt .i64 st fun n r=>cInt .i64 r fun n_1 r=>cSl 5 r fun b r=>cStr r fun b_1 r=>cStr r fun b_2 r=>cStr r fun b_3 r=>cInt .i64 r fun n_2 r=>cInt .i64 r fun n_3 r=>cInt .i64 r fun n_4 r=>cInt .i64 r fun n_5 r=>cSl 5 r fun b_4 r=>cInt .i64 r fun n_6 r=>cInt .i64 r fun n_7 r=>onCons r fun x r=>AV.onOwnL x fun y=>cSl 5 r fun b_5 r=>cInt .i64 r fun n_8 r=>cInt .i64 r fun n_9 r=>let t1:List AV:=[Xw 5 b_5,Zz .i64 n_8,Zz .i64 (Yf .i64 (n_9+1))];onNil r (sel (decide (n_9<n_8)) (chk (decide (0≤n_9)&&decide (n_9<(↑(Zx b_5):Int))&&true) (Xv (List.getD b_5 (Int.toNat n_9) AV.undef) fun cs=>cStr cs fun b_6 r=>cStr r fun b_7 r=>cStr r fun b_8 r=>cInt .i64 r fun n_10 r=>cInt .i64 r fun n_11 r=>let t2:List AV:=[Yw [Zy b_6,Zy b_7,Zy b_8,Zz .i64 n_10,Zz .i64 n_11]];onNil r (sel (decide (n_10≥n_7)) (chk (room (Zx y+Zx t2) (nat_lit 64)) (some (Sum.inl (Zz .i64 n::Zz .i64 n_1::Xw 5 b::Zy b_1::Zy b_2::Zy b_3::Zz .i64 n_2::Zz .i64 n_3::Zz .i64 n_4::Zz .i64 n_5::Xw 5 b_4::Zz .i64 n_6::Zz .i64 n_7::AV.ownL (y++t2)::t1)))) (some (Sum.inl (Zz .i64 n::Zz .i64 n_1::Xw 5 b::Zy b_1::Zy b_2::Zy b_3::Zz .i64 n_2::Zz .i64 n_3::Zz .i64 n_4::Zz .i64 n_5::Xw 5 b_4::Zz .i64 n_6::Zz .i64 n_7::AV.ownL y::t1)))))) (some (Sum.inr (Ex.exit 1,[Zz .i64 n,Zz .i64 n_1,Xw 5 b,Zy b_1,Zy b_2,Zy b_3,Zz .i64 n_2,Zz .i64 n_3,Zz .i64 n_4,Zz .i64 n_5,Xw 5 b_4,Zz .i64 n_6,Zz .i64 n_7,AV.ownL y,Xw 5 b_5,Zz .i64 n_8,Zz .i64 n_9]))))) [Zz .i64 sz,Zz .i64 fl,Xw 5 mls,Zy a1,Zy a2,Zy a3,Zz .i64 at_,Zz .i64 atk,Zz .i64 0,Zz .i64 0,Xw 5 [],Zz .i64 sz,Zz .i64 (Kerb.imax fl (Yf .i64 (now-skw))),AV.ownL [],Xw 5 mls,Zz .i64 (↑(Zx mls):Int),Zz .i64 0]) fun (r:Ex×List AV)=>cInt .i64 (Wy r) fun n r_1=>cInt .i64 r_1 fun n_1 r_2=>cSl 5 r_2 fun b r_3=>cStr r_3 fun b r_4=>cStr r_4 fun b_1 r_5=>cStr r_5 fun b_2 r_6=>cInt .i64 r_6 fun n_2 r_7=>cInt .i64 r_7 fun n_3 r_8=>let t3:List AV:=[Yw [Zy b,Zy b_1,Zy b_2,Zz .i64 n_2,Zz .i64 n_3]];cInt .i64 r_8 fun n_4 r_9=>cInt .i64 r_9 fun n_5 r_10=>cSl 5 r_10 fun b r_11=>cInt .i64 r_11 fun n_6 r_12=>cInt .i64 r_12 fun n_7 r_13=>onCons r_13 fun x r_14=>AV.onOwnL x fun y=>cSl 5 r_14 fun b r_15=>cInt .i64 r_15 fun n_8 r_16=>cInt .i64 r_16 fun n_9 r_17=>onNil r_17 (exK r.1 none fun (j:Nat)=>sel (Nat.beq j 1) (sel (decide ((↑(Zx y):Int)≥n)) (some (Zp [t0,Zz .i64 82],[])) (chk (room (Zx y+Zx t3) (nat_lit 64)) (some (Zp [Yw [Zz .i64 n_6,Zz .i64 n_7,Xw 5 (y++t3)],Zz .i64 0],[])))) none)))))))))):Option (AV×Blocks))) (by kernel_rfl) ?_
  delta kL kI
  try dsimp only [cStr,cBs,cBool,cU8,cInt,cSl,l63]
  simp only [Yu,decide_eq_true_eq] at hpre
  obtain ⟨⟨⟨⟨hall,hlen⟩,l1⟩,l2⟩,l3⟩:=hpre
  obtain ⟨cs,rfl,hok⟩:=Ug hall
  have hma:=Qb hok
  simp only [Yq] at hlen
  have hlT:decide (cs.length≤1000000)=true:=decide_eq_true hlen
  simp only [Vg,Yq,hma,hlT,l1,l2,l3,decide_true,Xz,↓A0,A0]
  obtain ⟨R,hR⟩:∃ R,Xd sz fl cs=R:=⟨_,rfl⟩
  unfold Kerb.addMark
  by_cases h1:(Xd sz fl cs).err=0
  case neg=>rw [sel_pos (by simpa using h1),if_pos h1];rfl
  rw [sel_neg (by simpa using h1),if_neg (by simpa using h1)]
  cases h2:Vd ⟨a1,a2,a3⟩
  ·rfl
  rw [Vw,sel_false,if_neg (by simp)]
  cases h3:(decide ((0:Int)≤atk)&&decide (atk≤199))
  ·rw [if_pos (by unfold Vj;rw [h3];rfl)];rfl
  rw [Vw,sel_false,if_neg (by unfold Vj;rw [h3];simp)]
  cases h4:Kerb.near at_ now skw
  ·rw [if_pos (.inl rfl)];rfl
  rw [Vw,sel_false]
  by_cases h5:at_<fl
  ·rw [sel_pos (by simpa using h5),if_pos (.inr h5)];rfl
  rw [sel_neg (by simpa using h5),if_neg (by simp;omega)]
  cases h6:Kerb.hasMark cs ⟨⟨a1,a2,a3⟩,at_,atk⟩
  case true=>rfl
  rw [sel_false,if_neg (by simp)]
  have hn:(0≤now∧now≤4294967295)∧(0≤skw∧skw≤4294967295):=by
   simp only [Kerb.near,Yu,Kerb.within_iff] at h4
   omega
  rw [wrap_i64 (n:=now-skw) (by omega) (by omega)]
  obtain ⟨FL,hFL⟩:∃ FL,Kerb.imax fl (now-skw)=FL:=⟨_,rfl⟩
  have hfr:Kerb.freshMarks ⟨sz,fl,cs⟩ now skw=cs.filter (fun x=>decide (FL≤x.time)):=by rw [← hFL];rfl
  rw [hfr,hFL]
  have r64:∀ {m:Nat},m≤1000001→Go.Abs.room m 64=true:=fun h=>by simp [Go.Abs.room];omega
  have hfl:∀ i,((cs.take i).filter (fun x=>decide (FL≤x.time))).length≤1000000:=fun i=>by
   refine Uu (List.length_filter_le _ _) ?_
   rw [List.length_take];omega
  refine loop_rounds (fun i:Nat=>[Zz Zg sz,Zz Zg fl,Xw 5 (cs.map Xf),Zy a1,Zy a2,Zy a3,Zz Zg at_,Zz Zg atk,Zz Zg 0,Zz Zg 0,Xw 5 [],Zz Zg sz,Zz Zg FL,AV.ownL (((cs.take i).filter (fun x=>decide (FL≤x.time))).map Xf),Xw 5 (cs.map Xf),Zz Zg (cs.length:Int),Zz Zg (i:Int)]) (fun i=>i≤cs.length) (fun i=>cs.length-i)
   (fun r=>∃ i:Nat,r=(Ex.exit 1,[Zz Zg sz,Zz Zg fl,Xw 5 (cs.map Xf),Zy a1,Zy a2,Zy a3,Zz Zg at_,Zz Zg atk,Zz Zg 0,Zz Zg 0,Xw 5 [],Zz Zg sz,Zz Zg FL,AV.ownL (((cs.take i).filter (fun x=>decide (FL≤x.time))).map Xf),Xw 5 (cs.map Xf),Zz Zg (cs.length:Int),Zz Zg (i:Int)])∧i=cs.length) 0 (Nat.zero_le _) rfl ?_ ?_
  ·intro i hi
   simp only [↓A0,A0,Yq,List.length_cons,List.length_nil]
   by_cases hlt:i<cs.length
   ·have hk1:(decide ((0:Int)≤(i:Int))&&decide ((i:Int)<(cs.length:Int))&&true)=true:=by simp;omega
    have hg:(cs.map Xf).getD i AV.undef=(cs.getD i Kerb.noMark).av:=Kerb.getD_row hlt
    obtain ⟨c,hc⟩:∃ c,cs.getD i Kerb.noMark=c:=⟨_,rfl⟩
    have hs:(cs.take (i+1)).filter (fun x=>decide (FL≤x.time))=(cs.take i).filter (fun x=>decide (FL≤x.time))++(if FL≤c.time then [c] else []):=by
     rw [Kerb.take_row (d:=Kerb.noMark) hlt,hc,List.filter_append]
     congr 1
     by_cases q:FL≤c.time<;>simp [q]
    rw [hc] at hg
    rw [sel_pos (by simp;omega)]
    simp only [hk1,Int.toNat_natCast,hg,Xf,↓A0,A0]
    rw [wrap_i64 (by omega) (by omega)]
    by_cases hq:FL≤c.time
    ·rw [if_pos hq] at hs
     rw [sel_pos (by simpa using hq),chk_of (r64 (by have:=hfl i;omega))]
     refine ⟨_,rfl,i+1,?_,by omega,by dsimp only;omega⟩
     dsimp only
     rw [hs,List.map_append]
     rfl
    ·rw [if_neg hq,List.append_nil] at hs
     rw [sel_neg (by simpa using hq)]
     exact ⟨_,rfl,i+1,by dsimp only;rw [hs];rfl,by omega,by dsimp only;omega⟩
   ·rw [sel_neg (by simp;omega)]
    exact ⟨_,rfl,i,rfl,by omega⟩
  ·rintro _ ⟨i,rfl,rfl⟩
   simp only [↓A0,A0,Yq,List.length_cons,List.length_nil]
   rw [sel_pos (Nat.beq_refl _),List.take_length]
   have hF:=hfl cs.length
   rw [List.take_length] at hF
   by_cases h7:sz≤((cs.filter (fun x=>decide (FL≤x.time))).length:Int)
   ·rw [sel_pos (by simp;omega),if_pos h7];rfl
   ·rw [sel_neg (by simp;omega),if_neg h7,chk_of (r64 (by omega)),List.map_append]
    rfl
 ·cases h
theorem w65:Walked Tryz.prog G 65 9 sp65:=by
 refine ⟨Tryz.f65,Tryz.func65,by decide +kernel,rfl,fun xs bl r h=> ?_⟩
 unfold sp65 at h
 split at h
 ·rename_i x y z cd now li
  obtain ⟨hpre,h2⟩:=chk_inv h;cases h2
  refine Eq.trans (b:=(Zv (chk (decide (Zx x≤9223372036854775807)&&decide (Zx y≤9223372036854775807)&&decide (Zx z≤9223372036854775807)&&decide (Zx (Kerb.message cd)≤9223372036854775807)) (some (Zp [Zf (Xb (Kerb.encodeError (Kerb.ErrorReply.mk li (Zw x y z) now cd (Kerb.message cd)))),Zz .i64 (Xn (Kerb.encodeError (Kerb.ErrorReply.mk li (Zw x y z) now cd (Kerb.message cd))))],[]))) fun (r:AV×Blocks)=>onNilB (Wy r) (AV.onTup (Wd r) fun vs=>onCons vs fun x r=>AV.onBs x fun b=>onCons r fun x r=>AV.onInt .i64 x fun n=>onNil r (sel (!n==0) (some (Zf [],[])) (some (Zf b,[])))):Option (AV×Blocks))) (by kernel_rfl) ?_
  simp only [Yu,decide_eq_true_eq] at hpre
  obtain ⟨⟨l1,l2⟩,l3⟩:=hpre
  have hm:(Kerb.message cd).length≤9223372036854775807:=by have:=Kerb.message_len cd;omega
  simp only [l1,l2,l3,hm,decide_true,Xz,↓A0,A0]
  unfold Uy
  by_cases h:(Kerb.encodeError ⟨li,⟨x,y,z⟩,now,cd,Kerb.message cd⟩).err=0
  ·rw [sel_neg (by simpa using h)]
  ·rw [sel_pos (by simpa using h),Kerb.encError_no h]
 ·cases h
theorem w72:Walked Tryz.prog G 72 9 sp72:=by
 refine ⟨Tryz.f72,Tryz.func72,by decide +kernel,rfl,fun xs bl r h=> ?_⟩
 unfold sp72 at h
 split at h
 ·rename_i rl els xls now li se rli rmu rkv rrl rtk rau wtm wlf wsv win cx cy cz ck2 cad ccs ctm ctc cis clf ctk cau pk p1 p2 p3 pl pv pt pm
  obtain ⟨hpre,h2⟩:=chk_inv h;cases h2
  refine Eq.trans (b:=(Zv (chk (l63 p1&&l63 p2&&l63 p3&&decide (0≤pk)&&decide (pk<18446744073709551616)) (some (Zp [Zf (Xb (Vy (Xj pk (Zw p1 p2 p3) pl pv pt pm) li)),Zz .i64 (Xn (Vy (Xj pk (Zw p1 p2 p3) pl pv pt pm) li))],[]))) (kT fun vs=>cBs vs fun b r=>cInt .i64 r fun n r=>onNil r (sel (!n==0) (some (Zp [Zf [],Zz .i64 n],[])) (Zv (chk (decide (0≤ck2)&&decide (ck2<18446744073709551616)) (some (Zp [Zf (Xb (Kerb.makeBox 3 ck2 b)),Zz .i64 (Xn (Kerb.makeBox 3 ck2 b))],[]))) (kT fun vs=>cBs vs fun b r=>cInt .i64 r fun n r=>onNil r (sel (!n==0) (some (Zp [Zf [],Zz .i64 n],[])) (Zv (chk (l63 cx&&l63 cy&&l63 cz) (some (Zp [Zf (Xb (Kerb.encodeReply (Qv li (Zw cx cy cz) wtm 0 0 b))),Zz .i64 (Xn (Kerb.encodeReply (Qv li (Zw cx cy cz) wtm 0 0 b)))],[]))) (kT fun vs=>cBs vs fun b r=>cInt .i64 r fun n r=>onNil r (some (Zp [Zf b,Zz .i64 n],[]))))))))):Option (AV×Blocks))) (by kernel_rfl) ?_
  delta kT
  try dsimp only [cStr,cBs,cBool,cU8,cInt,cSl,l63]
  simp only [Yu,decide_eq_true_eq] at hpre
  obtain ⟨⟨⟨⟨⟨⟨⟨l1,l2⟩,l3⟩,l4⟩,l5⟩,l6⟩,k1⟩,k2⟩:=hpre
  have k1:=Kerb.isU64_iff.1 k1
  have k2:=Kerb.isU64_iff.1 k2
  simp only [l1,l2,l3,l4,l5,l6,k1,k2,decide_true,Xz,↓A0,A0]
  unfold Kerb.sealReply
  by_cases h1:(Vy (Xj pk ⟨p1,p2,p3⟩ pl pv pt pm) li).err=0
  case neg=>rw [sel_pos (by simpa using h1),if_pos h1]
  rw [sel_neg (by simpa using h1),if_neg (by simpa using h1)]
  by_cases h2:(Kerb.makeBox 3 ck2 (Vy (Xj pk ⟨p1,p2,p3⟩ pl pv pt pm) li).val).err=0
  case neg=>rw [sel_pos (by simpa using h2),if_pos h2]
  rw [sel_neg (by simpa using h2),if_neg (by simpa using h2)]
 ·cases h
theorem w167:Walked Tryz.prog G 167 9 sp167:=by
 refine ⟨Tryz.f167,Tryz.func167,by decide +kernel,rfl,fun xs bl r h=> ?_⟩
 unfold sp167 at h
 split at h
 ·rename_i li x y z ad k lf iss sv ins
  obtain ⟨hpre,h2⟩:=chk_inv h;cases h2
  refine Eq.trans (b:=(let t0:Nat:=Zx ([]++Xq 1 1 false)+Zx x+Zx y+Zx z;let t1:Nat:=Zx ([]++Xq 0 1 false)+Zx x+Zx y+Zx z;let t2:Option (AV×Blocks):=chk (decide (0≤k)&&decide (k<18446744073709551616)) (some (Zf (Kerb.keyBytes k),[]));Zv (chk (l63 x&&l63 y&&l63 z&&l63 sv&&l63 ins&&decide (0≤k)&&decide (k<18446744073709551616)) (some (Zz .i64 (Kerb.Ticket.err (Wm li (Zw x y z) ad k lf iss sv ins)),[]))) (kI .i64 fun n=>sel (!n==0) (some (Zp [Zf [],Zz .i64 n],[])) (sel li (Zv (chk (decide (t0≤70368744170000)) (some (Zf (Kerb.putPrin ([]++Xq 1 1 false) (Zw x y z)),[]))) (kB fun b=>Zv (chk (decide (Zx b≤70368744177664)) (some (Uw (b++Xq ad 4 li),[]))) (kO fun l=>Zv t2 (kB fun b=>Zv (chk (decide (Zx (Vm l (Vm b []))≤140737488355328)&&decide (Zx [Zf l,Zf b]≤1000)) (some (Uw (Vm l (Vm b [])),[]))) (kO fun l=>Zv (chk (decide (Zx l≤70368744177664)) (some (Uw (l++Xq lf 1 false),[]))) (kO fun l=>Zv (chk (decide (Zx l≤70368744177664)) (some (Uw (l++Xq iss 4 li),[]))) (kO fun l=>Zv (chk (decide (Zx l+Zx sv≤70368744177664)) (some (Zf (Xh l sv),[]))) (kB fun b=>Zv (chk (decide (Zx b+Zx ins≤70368744177664)) (some (Zf (Xh b ins),[]))) (kB fun b=>Zv (chk (decide (Zx b≤70368744177664)) (some (Zf (Kerb.pad b),[]))) (kB fun b=>some (Zp [Zf b,Zz .i64 0],[]))))))))))) (Zv (chk (decide (t1≤70368744170000)) (some (Zf (Kerb.putPrin ([]++Xq 0 1 false) (Zw x y z)),[]))) (kB fun b=>Zv (chk (decide (Zx b≤70368744177664)) (some (Uw (b++Xq ad 4 li),[]))) (kO fun l=>Zv t2 (kB fun b=>Zv (chk (decide (Zx (Vm l (Vm b []))≤140737488355328)&&decide (Zx [Zf l,Zf b]≤1000)) (some (Uw (Vm l (Vm b [])),[]))) (kO fun l=>Zv (chk (decide (Zx l≤70368744177664)) (some (Uw (l++Xq lf 1 false),[]))) (kO fun l=>Zv (chk (decide (Zx l≤70368744177664)) (some (Uw (l++Xq iss 4 li),[]))) (kO fun l=>Zv (chk (decide (Zx l+Zx sv≤70368744177664)) (some (Zf (Xh l sv),[]))) (kB fun b=>Zv (chk (decide (Zx b+Zx ins≤70368744177664)) (some (Zf (Xh b ins),[]))) (kB fun b=>Zv (chk (decide (Zx b≤70368744177664)) (some (Zf (Kerb.pad b),[]))) (kB fun b=>some (Zp [Zf b,Zz .i64 0],[]))))))))))))):Option (AV×Blocks))) (by kernel_rfl) ?_
  delta kB kO kI
  try dsimp only [cStr,cBs,cBool,cU8,cInt,cSl,l63]
  simp only [Yu,decide_eq_true_eq] at hpre
  obtain ⟨⟨⟨⟨⟨⟨h1,h2⟩,h3⟩,h4⟩,h5⟩,h6⟩,h7⟩:=hpre
  simp only [h1,h2,h3,h4,h5,h6,h7,decide_true,Xz,↓A0,A0]
  have hb := @Kerb.encTicket_inv ⟨li,⟨x,y,z⟩,ad,k,lf,iss,sv,ins⟩
  unfold Vu at hb ⊢
  dsimp only at hb ⊢
  generalize hE:Kerb.Ticket.err _=e at hb ⊢
  by_cases he:e=0
  case neg=>rw [sel_pos (by simpa using he),if_pos he]
  rw [if_neg (by simpa using he)] at hb
  obtain ⟨v1,v2,v3,_⟩:=hb rfl
  have l1:=Kerb.valid_len v1
  have l2:=(Kerb.name_ok v2).1
  have l3:=(Kerb.inst_ok v3).1
  dsimp only at l1
  rw [sel_neg (by simpa using he),if_neg (by simpa using he)]
  cases li
  ·rw [sel_false,chk_of (by first | (simp [Zu,Zk,Zj];done) | (simp [Zu,Zk,Zj];omega)),chk_of (by first | (simp [Zu,Zk,Zj];done) | (simp [Zu,Zk,Zj];omega)),chk_of (by first | (simp [Zu,Zk,Zj];done) | (simp [Zu,Zk,Zj];omega)),chk_of (by first | (simp [Zu,Zk,Zj];done) | (simp [Zu,Zk,Zj];omega)),chk_of (by first | (simp [Zu,Zk,Zj];done) | (simp [Zu,Zk,Zj];omega)),chk_of (by first | (simp [Zu,Zk,Zj];done) | (simp [Zu,Zk,Zj];omega)),chk_of (by first | (simp [Xh,Zu,Zk,Zj];done) | (simp [Xh,Zu,Zk,Zj];omega)),chk_of (by first | (simp [Xh,Zu,Zk,Zj];done) | (simp [Xh,Zu,Zk,Zj];omega))]
   simp
  ·rw [sel_true,chk_of (by first | (simp [Zu,Zk,Zj];done) | (simp [Zu,Zk,Zj];omega)),chk_of (by first | (simp [Zu,Zk,Zj];done) | (simp [Zu,Zk,Zj];omega)),chk_of (by first | (simp [Zu,Zk,Zj];done) | (simp [Zu,Zk,Zj];omega)),chk_of (by first | (simp [Zu,Zk,Zj];done) | (simp [Zu,Zk,Zj];omega)),chk_of (by first | (simp [Zu,Zk,Zj];done) | (simp [Zu,Zk,Zj];omega)),chk_of (by first | (simp [Zu,Zk,Zj];done) | (simp [Zu,Zk,Zj];omega)),chk_of (by first | (simp [Xh,Zu,Zk,Zj];done) | (simp [Xh,Zu,Zk,Zj];omega)),chk_of (by first | (simp [Xh,Zu,Zk,Zj];done) | (simp [Xh,Zu,Zk,Zj];omega))]
   simp
 ·cases h
theorem w177:Walked Tryz.prog G 177 9 sp177:=by
 refine ⟨Tryz.f177,Tryz.func177,by decide +kernel,rfl,fun xs bl r h=> ?_⟩
 unfold sp177 at h
 split at h
 ·rename_i x y z ck tc tm li
  obtain ⟨hpre,h2⟩:=chk_inv h;cases h2
  refine Eq.trans (b:=(let t0:Nat:=Zx ([]++Xq 0 1 false)+Zx x+Zx y+Zx z;let t1:Nat:=Zx ([]++Xq 1 1 false)+Zx x+Zx y+Zx z;Zv (chk (l63 x&&l63 y&&l63 z) (some (Zz .i64 (Kerb.Auth.check (Jw (Zw x y z) ck tc tm)),[]))) (kI .i64 fun n=>sel (!n==0) (some (Zp [Zf [],Zz .i64 n],[])) (sel li (Zv (chk (decide (t1≤70368744170000)) (some (Zf (Kerb.putPrin ([]++Xq 1 1 false) (Zw x y z)),[]))) (kB fun b=>Zv (chk (decide (Zx b≤70368744177664)) (some (Uw (b++Xq ck 4 li),[]))) (kO fun l=>Zv (chk (decide (Zx l≤70368744177664)) (some (Uw (l++Xq tc 1 false),[]))) (kO fun l=>Zv (chk (decide (Zx l≤70368744177664)) (some (Uw (l++Xq tm 4 li),[]))) (kO fun l=>Zv (chk (decide (Zx l≤70368744177664)) (some (Zf (Kerb.pad l),[]))) (kB fun b=>some (Zp [Zf b,Zz .i64 0],[]))))))) (Zv (chk (decide (t0≤70368744170000)) (some (Zf (Kerb.putPrin ([]++Xq 0 1 false) (Zw x y z)),[]))) (kB fun b=>Zv (chk (decide (Zx b≤70368744177664)) (some (Uw (b++Xq ck 4 li),[]))) (kO fun l=>Zv (chk (decide (Zx l≤70368744177664)) (some (Uw (l++Xq tc 1 false),[]))) (kO fun l=>Zv (chk (decide (Zx l≤70368744177664)) (some (Uw (l++Xq tm 4 li),[]))) (kO fun l=>Zv (chk (decide (Zx l≤70368744177664)) (some (Zf (Kerb.pad l),[]))) (kB fun b=>some (Zp [Zf b,Zz .i64 0],[]))))))))):Option (AV×Blocks))) (by kernel_rfl) ?_
  delta kB kO kI
  try dsimp only [cStr,cBs,cBool,cU8,cInt,cSl,l63]
  simp only [A0,Kerb.Client.av,Kerb.Cache.av,Kerb.Cred.av,hpre]
  unfold Kerb.encodeAuth
  by_cases h:(Jw ⟨x,y,z⟩ ck tc tm).check=0
  case neg =>
   rw [sel_pos (by simpa using h),if_pos h]
  have hv:Vd ⟨x,y,z⟩=true:=by
   unfold Kerb.Auth.check at h
   cases hv:Vd ⟨x,y,z⟩
   ·simp [hv] at h
   ·rfl
  have l1:=Kerb.valid_len hv
  simp only at l1
  rw [sel_neg (by simp [h]),if_neg (by simpa using h)]
  cases li
  ·simp only [A0,Kerb.Client.av,Kerb.Cache.av,Kerb.Cred.av,List.nil_append,cond_false,cond_true]
   rw [chk_of (by simp [Zk];omega),chk_of (by simp [Zk,Zu];omega),chk_of (by simp [Zk,Zu];omega),chk_of (by simp [Zk,Zu];omega),chk_of (by simp [Zk,Zu];omega)]
  ·simp only [A0,Kerb.Client.av,Kerb.Cache.av,Kerb.Cred.av,List.nil_append,cond_false,cond_true]
   rw [chk_of (by simp [Zk];omega),chk_of (by simp [Zk,Zu];omega),chk_of (by simp [Zk,Zu];omega),chk_of (by simp [Zk,Zu];omega),chk_of (by simp [Zk,Zu];omega)]
 ·cases h
theorem w30:Walked Tryz.prog G 30 10 sp30:=by
 refine ⟨Tryz.f30,Tryz.func30,by decide +kernel,rfl,fun xs bl r h=> ?_⟩
 unfold sp30 at h
 split at h
 ·rename_i rl els xls now li se x y z cd
  obtain ⟨hpre,h2⟩:=chk_inv h;cases h2
  refine Eq.trans (b:=(Zv (chk (decide (Zx x≤9223372036854775807)&&decide (Zx y≤9223372036854775807)&&decide (Zx z≤9223372036854775807)) (some (Zf (Uy (Zw x y z) cd now li),[]))) fun (r:AV×Blocks)=>onNilB (Wy r) (AV.onBs (Wd r) fun b=>some (Zp [Zf b,Yw [Zz .i64 0,Zy [],Zy [],Zy [],Zy [],Zy [],Zy [],Zy [],Zy [],Zy [],Zz .u64 0,Zz .u64 0,Zz .u64 0,Zf [],Zz .i64 0,Zz .i64 0],Yx false],[])):Option (AV×Blocks))) (by kernel_rfl) ?_
  simp only [Yu,decide_eq_true_eq] at hpre
  obtain ⟨⟨l1,l2⟩,l3⟩:=hpre
  simp only [l1,l2,l3,decide_true,Xz,↓sInt,↓sU8,↓sBool,↓sStr,↓sBs,↓sSl,↓sAgg,↓sTup,↓sCons,↓sNil,↓sNilB,↓sChk,↓sChkBind,↓sSome,↓sOwnL,↓sConsB,↓sOwnB]
  rfl
 ·cases h
theorem w128:Walked Tryz.prog G 128 10 sp128:=by
 refine ⟨Tryz.f128,Tryz.func128,by decide +kernel,rfl,fun xs bl r h=> ?_⟩
 unfold sp128 at h
 split at h
 ·rename_i b
  obtain ⟨hpre,h2⟩:=chk_inv h;cases h2
  refine Eq.trans (b:=(let t1:AV:=Yw [Yx false,Zy [],Zy [],Zy [],Zz .i64 0,Zz .u64 0,Zz .i64 0,Zz .i64 0,Zy [],Zy []];let t0:Option (AV×Blocks):=some (Zp [t1,Zz .i64 100],[]);Zv (chk (decide (Zx b≤4611686018427387904)) (some (Zp [Zz .i64 (Wb (Xx b 0 1 false)),Zz .i64 (Wq (Xx b 0 1 false)),Zz .i64 (Wn (Xx b 0 1 false))],[]))) (kT fun vs=>cInt .i64 vs fun n r=>cInt .i64 r fun n_1 r=>cInt .i64 r fun n_2 r=>onNil r (sel (decide (n>1)) (some (Zp [t1,Zz .i64 7],[])) (Zv (chk (decide (Zx b≤4611686018427387904)) (some (Zp [Yw [Zy (Zh (Uv (Ww b n_1))),Zy (Yz (Uv (Ww b n_1))),Zy (Zb (Uv (Ww b n_1)))],Zz .i64 (Kerb.GotP.next (Ww b n_1)),Zz .i64 (Kerb.GotP.err (Ww b n_1))],[]))) (kT fun vs=>onCons vs fun x r=>Xv x fun cs=>cStr cs fun b_1 r_1=>cStr r_1 fun b_2 r_2=>cStr r_2 fun b_3 r_3=>onNil r_3 (cInt .i64 r fun n_3 r=>cInt .i64 r fun n_4 r=>onNil r (Zv (chk (decide (Zx b≤4611686018427387904)) (some (Zp [Zz .i64 (Wb (Xx b n_3 4 (n==1))),Zz .i64 (Wq (Xx b n_3 4 (n==1))),Zz .i64 (Wn (Xx b n_3 4 (n==1)))],[]))) (kT fun vs=>cInt .i64 vs fun n_5 r=>cInt .i64 r fun n_6 r=>cInt .i64 r fun n_7 r=>onNil r (Zv (chk (decide (Zx b≤140737488355328)) (some (Zp [Zf (Qd (Kerb.bytes b n_6 8)),Zz .i64 (Qx (Kerb.bytes b n_6 8)),Zz .i64 (Qf (Kerb.bytes b n_6 8))],[]))) (kT fun vs=>cBs vs fun b_4 r=>cInt .i64 r fun n_8 r=>cInt .i64 r fun n_9 r=>onNil r (Zv (chk (decide (Zx b_4≤4611686018427387904)) (some (Zp [Zz .u64 (Wd (Kerb.keyRead b_4)),Yx (Wy (Kerb.keyRead b_4))],[]))) (kT fun vs=>cInt .u64 vs fun n_10 r=>cBool r fun b_5 r=>onNil r (Zv (chk (decide (Zx b≤4611686018427387904)) (some (Zp [Zz .i64 (Wb (Xx b n_8 1 false)),Zz .i64 (Wq (Xx b n_8 1 false)),Zz .i64 (Wn (Xx b n_8 1 false))],[]))) (kT fun vs=>cInt .i64 vs fun n_11 r=>cInt .i64 r fun n_12 r=>cInt .i64 r fun n_13 r=>onNil r (Zv (chk (decide (Zx b≤4611686018427387904)) (some (Zp [Zz .i64 (Wb (Xx b n_12 4 (n==1))),Zz .i64 (Wq (Xx b n_12 4 (n==1))),Zz .i64 (Wn (Xx b n_12 4 (n==1)))],[]))) (kT fun vs=>cInt .i64 vs fun n_14 r=>cInt .i64 r fun n_15 r=>cInt .i64 r fun n_16 r=>onNil r (Zv (chk (decide (Zx b≤4611686018427387904)) (some (Zp [Zy (Qd (Wj b n_15)),Zz .i64 (Qx (Wj b n_15)),Zz .i64 (Qf (Wj b n_15))],[]))) (kT fun vs=>cStr vs fun b_6 r=>cInt .i64 r fun n_17 r=>cInt .i64 r fun n_18 r=>onNil r (Zv (chk (decide (Zx b≤4611686018427387904)) (some (Zp [Zy (Qd (Wj b n_17)),Zz .i64 (Qx (Wj b n_17)),Zz .i64 (Qf (Wj b n_17))],[]))) (kT fun vs=>cStr vs fun b_7 r=>let t2:Kerb.Enc:=Vu (Wm (n==1) (Zw b_1 b_2 b_3) n_5 n_10 n_11 n_14 b_6 b_7);cInt .i64 r fun n_19 r=>cInt .i64 r fun n_20 r=>onNil r (Zv (chk (l63 b_1&&l63 b_2&&l63 b_3&&l63 b_6&&l63 b_7&&decide (0≤n_10)&&decide (n_10<18446744073709551616)) (some (Zp [Zf (Xb t2),Zz .i64 (Xn t2)],[]))) (kT fun vs=>cBs vs fun b_8 r=>cInt .i64 r fun n_21 r=>onNil r (sel (!n_21==0) t0 (sel (!b_8==b) t0 (some (Zp [Yw [Yx (n==1),Zy b_1,Zy b_2,Zy b_3,Zz .i64 n_5,Zz .u64 n_10,Zz .i64 n_11,Zz .i64 n_14,Zy b_6,Zy b_7],Zz .i64 0],[]))))))))))))))))))))))))):Option (AV×Blocks))) (by kernel_rfl) ?_
  delta kT
  try dsimp only [cStr,cBs,cBool,cU8,cInt,cSl,l63]
  have hb:=of_decide_eq_true hpre
  have hpre2:decide (b.length≤4611686018427387904)=true:=by simp;omega
  simp only [hpre,hpre2,↓A0,A0]
  unfold Yh
  by_cases h7:1<(Xx b 0 1 false).val
  ·rw [sel_pos (by simpa using h7),if_pos h7];try rfl
  rw [sel_neg (by simpa using h7),if_neg h7]
  have hl:∀ p n,(Kerb.bytes b p n).val.length≤4611686018427387904:=fun p n=>Uu (Kerb.bytes_len b p n) (by omega)
  have hk:∀ q,0≤(Kerb.keyRead q).1∧(Kerb.keyRead q).1<18446744073709551616:=Kerb.keyRead_bd
  have hx:∀ q,(Wj b q).val.length≤40:=Kerb.text_len b
  have lp:∀ q (_:Unit),(Ww b q).val.name.length≤40∧(Ww b q).val.inst.length≤40∧(Ww b q).val.realm.length≤40:=fun q _=>Kerb.prin_len b q
  rw [chk_of (by simp only [decide_eq_true_eq];exact hl _ _),chk_of (by simp only [Yu,decide_eq_true_eq];exact ⟨⟨⟨⟨⟨⟨Uu (lp _ ()).1 (by decide),Uu (lp _ ()).2.1 (by decide)⟩,Uu (lp _ ()).2.2 (by decide)⟩,Uu (hx _) (by decide)⟩,Uu (hx _) (by decide)⟩,(hk _).1⟩,(hk _).2⟩)]
  exact Kerb.decBy_fin (no:=Kerb.noTicket) (enc:=Vu) (rd:=fun b=>(Kerb.readTicket b,false)) _ false rfl (fun x e=>(Zp [Yw [Yx (x).little,Zy (x).client.name,Zy (x).client.inst,Zy (x).client.realm,Zz Zg (x).address,Zz IntKind.u64 (x).session,Zz Zg (x).life,Zz Zg (x).issued,Zy (x).service,Zy (x).inst],Zz Zg e],([]:Blocks)))
 ·cases h
theorem w134:Walked Tryz.prog G 134 10 sp134:=by
 refine ⟨Tryz.f134,Tryz.func134,by decide +kernel,rfl,fun xs bl r h=> ?_⟩
 unfold sp134 at h
 split at h
 ·rename_i li x y z ad k lf iss sv ins key
  obtain ⟨hpre,h2⟩:=chk_inv h;cases h2
  refine Eq.trans (b:=(Zv (chk (decide (Zx x≤9223372036854775807)&&decide (Zx y≤9223372036854775807)&&decide (Zx z≤9223372036854775807)&&decide (Zx sv≤9223372036854775807)&&decide (Zx ins≤9223372036854775807)&&decide (0≤k)&&decide (k<18446744073709551616)) (some (Zp [Zf (Xb (Vu (Wm li (Zw x y z) ad k lf iss sv ins))),Zz .i64 (Xn (Vu (Wm li (Zw x y z) ad k lf iss sv ins)))],[]))) fun (r:AV×Blocks)=>onNilB (Wy r) (AV.onTup (Wd r) fun vs=>onCons vs fun x r=>AV.onBs x fun b=>onCons r fun x r=>AV.onInt .i64 x fun n=>onNil r (sel (!n==0) (some (Zp [Zf [],Zz .i64 n],[])) (Zv (chk (decide (0≤key)&&decide (key<18446744073709551616)) (some (Zp [Zf (Xb (Kerb.makeBox 1 key b)),Zz .i64 (Xn (Kerb.makeBox 1 key b))],[]))) fun (r:AV×Blocks)=>onNilB (Wy r) (AV.onTup (Wd r) fun vs=>onCons vs fun x r=>AV.onBs x fun b=>onCons r fun x r=>AV.onInt .i64 x fun n=>onNil r (some (Zp [Zf b,Zz .i64 n],[])))))):Option (AV×Blocks))) (by kernel_rfl) ?_
  simp only [Yu,decide_eq_true_eq] at hpre
  obtain ⟨⟨⟨⟨⟨⟨⟨⟨h1,h2⟩,h3⟩,h4⟩,h5⟩,h6⟩,h7⟩,h8⟩,h9⟩:=hpre
  simp only [h1,h2,h3,h4,h5,h6,h7,h8,h9,decide_true,Xz,↓A0,A0]
  unfold Kerb.sealTicket
  generalize Vu _=E
  by_cases he:E.err=0
  ·rw [sel_neg (by simpa using he),if_neg (by simpa using he)]
  ·rw [sel_pos (by simpa using he),if_pos he]
 ·cases h
theorem w158:Walked Tryz.prog G 158 10 sp158:=by
 refine ⟨Tryz.f158,Tryz.func158,by decide +kernel,rfl,fun xs bl r h=> ?_⟩
 unfold sp158 at h
 split at h
 ·rename_i b li
  obtain ⟨hpre,h2⟩:=chk_inv h;cases h2
  refine Eq.trans (b:=(let t0:Option (AV×Blocks):=some (Zp [Yw [Zy [],Zy [],Zy [],Zz .i64 0,Zz .i64 0,Zz .i64 0],Zz .i64 100],[]);Zv (chk (decide (Zx b≤4611686018427387904)) (some (Zp [Yw [Zy (Zh (Uv (Ww b 1))),Zy (Yz (Uv (Ww b 1))),Zy (Zb (Uv (Ww b 1)))],Zz .i64 (Kerb.GotP.next (Ww b 1)),Zz .i64 (Kerb.GotP.err (Ww b 1))],[]))) (kT fun vs=>onCons vs fun x r=>Xv x fun cs=>cStr cs fun b_1 r_1=>cStr r_1 fun b_2 r_2=>cStr r_2 fun b_3 r_3=>onNil r_3 (cInt .i64 r fun n r=>cInt .i64 r fun n_1 r=>onNil r (Zv (chk (decide (Zx b≤4611686018427387904)) (some (Zp [Zz .i64 (Wb (Xx b n 4 li)),Zz .i64 (Wq (Xx b n 4 li)),Zz .i64 (Wn (Xx b n 4 li))],[]))) (kT fun vs=>cInt .i64 vs fun n r=>cInt .i64 r fun n_2 r=>cInt .i64 r fun n_3 r=>onNil r (Zv (chk (decide (Zx b≤4611686018427387904)) (some (Zp [Zz .i64 (Wb (Xx b n_2 1 false)),Zz .i64 (Wq (Xx b n_2 1 false)),Zz .i64 (Wn (Xx b n_2 1 false))],[]))) (kT fun vs=>cInt .i64 vs fun n_4 r=>cInt .i64 r fun n_5 r=>cInt .i64 r fun n_6 r=>onNil r (Zv (chk (decide (Zx b≤4611686018427387904)) (some (Zp [Zz .i64 (Wb (Xx b n_5 4 li)),Zz .i64 (Wq (Xx b n_5 4 li)),Zz .i64 (Wn (Xx b n_5 4 li))],[]))) (kT fun vs=>cInt .i64 vs fun n_7 r=>cInt .i64 r fun n_8 r=>cInt .i64 r fun n_9 r=>onNil r (Zv (chk (l63 b_1&&l63 b_2&&l63 b_3) (some (Zp [Zf (Xb (Kerb.encodeAuth (Jw (Zw b_1 b_2 b_3) n n_4 n_7) li)),Zz .i64 (Xn (Kerb.encodeAuth (Jw (Zw b_1 b_2 b_3) n n_4 n_7) li))],[]))) (kT fun vs=>cBs vs fun b_4 r=>cInt .i64 r fun n_10 r=>onNil r (sel (!n_10==0) t0 (sel (!b_4==b) t0 (some (Zp [Yw [Zy b_1,Zy b_2,Zy b_3,Zz .i64 n,Zz .i64 n_4,Zz .i64 n_7],Zz .i64 0],[])))))))))))))):Option (AV×Blocks))) (by kernel_rfl) ?_
  delta kT
  try dsimp only [cStr,cBs,cBool,cU8,cInt,cSl,l63]
  have hb:=of_decide_eq_true hpre
  have hpre2:decide (b.length≤4611686018427387904)=true:=by simp;omega
  obtain ⟨n1,n2,n3⟩:=Kerb.prin_len b 1
  have g1:(Ww b 1).val.name.length≤9223372036854775807:=by omega
  have g2:(Ww b 1).val.inst.length≤9223372036854775807:=by omega
  have g3:(Ww b 1).val.realm.length≤9223372036854775807:=by omega
  simp only [hpre2,g1,g2,g3,decide_true,Xz,↓A0,A0]
  exact Kerb.decBy_fin (no:=Kerb.noAuth) (enc:=fun a=>Kerb.encodeAuth a li) (rd:=fun b=>(Kerb.readAuth b li,false)) _ false rfl (fun x e=>(Zp [.agg [.str (x).client.name,.str (x).client.inst,.str (x).client.realm,.int .i64 (x).checksum,.int .i64 (x).tick,.int .i64 (x).time],Zz Zg e],([]:Blocks)))
 ·cases h
theorem w66:Walked Tryz.prog G 66 11 sp66:=by
 refine ⟨Tryz.f66,Tryz.func66,by decide +kernel,rfl,fun xs bl r h=> ?_⟩
 unfold sp66 at h
 split at h
 ·rename_i b k
  obtain ⟨hpre,h2⟩:=chk_inv h;cases h2
  refine Eq.trans (b:=(Zv (chk (decide (Zx b≤140737488355328)) (some (Zp [Zf (Wd (Vp b 1 k)),Yx (Wy (Vp b 1 k))],[]))) (kT fun vs=>cBs vs fun b r=>cBool r fun b_1 r=>onNil r (sel (!b_1) (some (Zp [Yw [Yx false,Zy [],Zy [],Zy [],Zz .i64 0,Zz .u64 0,Zz .i64 0,Zz .i64 0,Zy [],Zy []],Zz .i64 31],[])) (Zv (chk (decide (Zx b≤140737488355328)) (some (Zp [Yw [Yx (Ub (Zq (Yh b))),Zy (Zh (Yp (Zq (Yh b)))),Zy (Yz (Yp (Zq (Yh b)))),Zy (Zb (Yp (Zq (Yh b)))),Zz .i64 (Up (Zq (Yh b))),Zz .u64 (Uj (Zq (Yh b))),Zz .i64 (Qk (Zq (Yh b))),Zz .i64 (Un (Zq (Yh b))),Zy (Uk (Zq (Yh b))),Zy (Qp (Zq (Yh b)))],Zz .i64 (Vn (Yh b))],[]))) (kT fun vs=>onCons vs fun x r=>Xv x fun cs=>cBool cs fun b r_1=>cStr r_1 fun b_2 r_2=>cStr r_2 fun b_3 r_3=>cStr r_3 fun b_4 r_4=>cInt .i64 r_4 fun n r_5=>cInt .u64 r_5 fun n_1 r_6=>cInt .i64 r_6 fun n_2 r_7=>cInt .i64 r_7 fun n_3 r_8=>cStr r_8 fun b_5 r_9=>cStr r_9 fun b_6 r_10=>onNil r_10 (cInt .i64 r fun n_4 r=>onNil r (some (Zp [Yw [Yx b,Zy b_2,Zy b_3,Zy b_4,Zz .i64 n,Zz .u64 n_1,Zz .i64 n_2,Zz .i64 n_3,Zy b_5,Zy b_6],Zz .i64 n_4],[]))))))):Option (AV×Blocks))) (by kernel_rfl) ?_
  delta kT
  try dsimp only [cStr,cBs,cBool,cU8,cInt,cSl,l63]
  have hb:=of_decide_eq_true hpre
  have hl:=Kerb.openBox_len b 1 k
  simp only [hpre,↓A0,A0]
  unfold Zd
  cases h:(Vp b 1 k).2
  ·rfl
  ·rw [sel_neg (by simp),chk_of (by simp;omega)]
   rfl
 ·cases h
theorem w71:Walked Tryz.prog G 71 11 sp71:=by
 refine ⟨Tryz.f71,Tryz.func71,by decide +kernel,rfl,fun xs bl r h=> ?_⟩
 unfold sp71 at h
 split at h
 ·rename_i rl els x y z u v w ad li now lf se sl tg kv
  obtain ⟨hpre,h2⟩:=chk_inv h;cases h2
  refine Eq.trans (b:=(let t0:AV:=Yw [Zz .i64 0,Zy [],Zy [],Zy [],Zy [],Zy [],Zy [],Zy [],Zy [],Zy [],Zz .u64 0,Zz .u64 0,Zz .u64 0,Zf [],Zz .i64 0,Zz .i64 0];let t1:AV:=Yw [Zz .u64 0,Zy [],Zy [],Zy [],Zz .i64 0,Zz .i64 0,Zf [],Zz .i64 0];Zv (chk (l63 x&&l63 y&&l63 z&&l63 u&&l63 v&&decide (0≤se)&&decide (se<18446744073709551616)&&decide (0≤tg)&&decide (tg<18446744073709551616)) (some (Zp [Zf (Xb (Kerb.sealTicket (Wm li (Zw x y z) ad se lf now u v) tg)),Zz .i64 (Xn (Kerb.sealTicket (Wm li (Zw x y z) ad se lf now u v) tg))],[]))) (kT fun vs=>onCons vs fun x_1 r=>AV.onBs x_1 fun b=>onCons r fun x_2 r=>AV.onInt .i64 x_2 fun n=>onNil r (sel (!n==0) (some (Zp [t0,t1,Zz .i64 n],[])) (Zv (chk (l63 u&&l63 v&&l63 w&&decide (0≤se)&&decide (se<18446744073709551616)) (some (Zp [Zf (Xb (Vy (Xj se (Zw u v w) lf kv b now) li)),Zz .i64 (Xn (Vy (Xj se (Zw u v w) lf kv b now) li))],[]))) (kT fun vs=>onCons vs fun x_3 r=>AV.onBs x_3 fun b_1=>onCons r fun x_4 r=>AV.onInt .i64 x_4 fun n=>onNil r (sel (!n==0) (some (Zp [t0,t1,Zz .i64 n],[])) (Zv (chk (decide (Zx b≤140737488355328)) (some (Zf b,[]))) (kB fun b_2=>some (Zp [Yw [Zz .i64 0,Zy [(107:UInt8),(114:UInt8),(98:UInt8),(116:UInt8),(103:UInt8),(116:UInt8)],Zy rl,Zy rl,Zy x,Zy y,Zy z,Zy u,Zy v,Zy w,Zz .u64 se,Zz .u64 sl,Zz .u64 0,Zf b_2,Zz .i64 now,Zz .i64 (Kerb.tEnd now lf)],Yw [Zz .u64 se,Zy u,Zy v,Zy w,Zz .i64 lf,Zz .i64 kv,Zf b,Zz .i64 now],Zz .i64 0],[])))))))):Option (AV×Blocks))) (by kernel_rfl) ?_
  delta kT kB
  try dsimp only [cStr,cBs,cBool,cU8,cInt,cSl,l63]
  simp only [Yu,decide_eq_true_eq] at hpre
  simp only [Kerb.isU64_iff] at hpre
  obtain ⟨⟨⟨⟨⟨⟨⟨h1,h2⟩,h3⟩,h4⟩,h5⟩,h6⟩,h7,h8⟩,h9,h10⟩:=hpre
  simp only [h1,h2,h3,h4,h5,h6,h7,h8,h9,h10,decide_true,Xz,↓A0,A0]
  unfold Yj Kerb.grantTkt
  dsimp only
  have hsl:=Kerb.sealTicket_len ⟨li,⟨x,y,z⟩,ad,se,lf,now,u,v⟩ tg
  generalize Kerb.sealTicket ⟨li,⟨x,y,z⟩,ad,se,lf,now,u,v⟩ tg=E at hsl
  by_cases he:E.err=0
  case neg=>rw [sel_pos (by simpa using he),if_pos he];rfl
  rw [sel_neg (by simpa using he),if_neg (by simpa using he)]
  generalize Vy ⟨se,⟨u,v,w⟩,lf,kv,E.val,now⟩ li=F
  by_cases hf:F.err=0
  case neg=>rw [sel_pos (by simpa using hf),if_pos hf];rfl
  rw [sel_neg (by simpa using hf),if_neg (by simpa using hf)]
  rw [chk_of (by simp;omega)]
  rfl
 ·cases h
theorem w120:Walked Tryz.prog G 120 11 sp120:=by
 refine ⟨Tryz.f120,Tryz.func120,by decide +kernel,rfl,fun xs bl r h=> ?_⟩
 unfold sp120 at h
 split at h
 ·rename_i b li k
  obtain ⟨hpre,h2⟩:=chk_inv h;cases h2
  refine Eq.trans (b:=(let t0:Option (AV×Blocks):=some (Zp [Yw [Zy [],Zy [],Zy [],Zz .i64 0,Zz .i64 0,Zz .i64 0],Zz .i64 31],[]);Zv (chk (decide (Zx b≤140737488355328)) (some (Zp [Zf (Wd (Vp b 2 k)),Yx (Wy (Vp b 2 k))],[]))) (kT fun vs=>cBs vs fun b r=>cBool r fun b_1 r=>onNil r (sel (!b_1) t0 (Zv (chk (decide (Zx b≤140737488355328)) (some (Zp [Yw [Zy (Zh (Xp (Zq (Wk b li)))),Zy (Yz (Xp (Zq (Wk b li)))),Zy (Zb (Xp (Zq (Wk b li)))),Zz .i64 (Kerb.Auth.checksum (Zq (Wk b li))),Zz .i64 (Kerb.Auth.tick (Zq (Wk b li))),Zz .i64 (Kerb.Auth.time (Zq (Wk b li)))],Zz .i64 (Vn (Wk b li))],[]))) (kT fun vs=>onCons vs fun x r=>Xv x fun cs=>cStr cs fun b r_1=>cStr r_1 fun b_2 r_2=>cStr r_2 fun b_3 r_3=>cInt .i64 r_3 fun n r_4=>cInt .i64 r_4 fun n_1 r_5=>cInt .i64 r_5 fun n_2 r_6=>onNil r_6 (cInt .i64 r fun n_3 r=>onNil r (sel (!n_3==0) t0 (some (Zp [Yw [Zy b,Zy b_2,Zy b_3,Zz .i64 n,Zz .i64 n_1,Zz .i64 n_2],Zz .i64 0],[])))))))):Option (AV×Blocks))) (by kernel_rfl) ?_
  delta kT
  try dsimp only [cStr,cBs,cBool,cU8,cInt,cSl,l63]
  have hb:=of_decide_eq_true hpre
  have hpre2:decide (b.length≤4611686018427387904)=true:=by simp;omega
  have hl:=Kerb.openBox_len b 2 k
  have hl2:decide ((Vp b 2 k).1.length≤140737488355328)=true:=by simp;omega
  simp only [hpre,hl2,↓A0,A0]
  unfold Wg
  cases h1:(Vp b 2 k).2
  ·rfl
  rw [Vw,sel_false,if_neg (by simp)]
  by_cases h2:(Wk (Vp b 2 k).1 li).err=0
  case neg=>rw [sel_pos (by simpa using h2),if_pos h2];rfl
  rw [sel_neg (by simpa using h2),if_neg (by simpa using h2)]
 ·cases h
theorem w31:Walked Tryz.prog G 31 12 sp31:=by
 refine ⟨Tryz.f31,Tryz.func31,by decide +kernel,rfl,fun xs bl r h=> ?_⟩
 unfold sp31 at h
 split at h
 ·rename_i m1 m2 m3 kls sz fl mls sk rli rmu rkv rrl rtk rau
  obtain ⟨hpre,h2⟩:=chk_inv h;cases h2
  refine Eq.trans (b:=(Zv (loopM (fun (st:List AV)=>cStr st fun b r=>cStr r fun b_1 r=>cStr r fun b_2 r=>cSl 5 r fun b_3 r=>cInt .i64 r fun n r=>cInt .i64 r fun n_1 r=>cSl 5 r fun b_4 r=>cInt .i64 r fun n_2 r=>cBool r fun b_5 r=>cBool r fun b_6 r=>cInt .i64 r fun n_3 r=>cStr r fun b_7 r=>cBs r fun b_8 r=>cBs r fun b_9 r=>cStr r fun b_10 r=>cStr r fun b_11 r=>cStr r fun b_12 r=>cSl 5 r fun b_13 r=>cInt .i64 r fun n_4 r=>cInt .i64 r fun n_5 r=>let t0:Option (List AV ⊕ Ex×List AV):=some (Sum.inl [Zy b,Zy b_1,Zy b_2,Xw 5 b_3,Zz .i64 n,Zz .i64 n_1,Xw 5 b_4,Zz .i64 n_2,Yx b_5,Yx b_6,Zz .i64 n_3,Zy b_7,Zf b_8,Zf b_9,Zy b_10,Zy b_11,Zy b_12,Xw 5 b_13,Zz .i64 n_4,Zz .i64 (Yf .i64 (n_5+1))]);onNil r (sel (decide (n_5<n_4)) (chk (decide (0≤n_5)&&decide (n_5<(↑(Zx b_13):Int))&&true) (Xv (List.getD b_13 (Int.toNat n_5) AV.undef) fun cs=>cStr cs fun b_14 r=>cStr r fun b_15 r=>cStr r fun b_16 r=>cInt .i64 r fun n_6 r=>cInt .u64 r fun n_7 r=>onNil r (sel (b_14==b&&(b_15==b_1&&b_16==b_2)) (sel (n_6==n_3) (Zv (chk (decide (Zx b_8≤140737488355328)) (some (Zp [Yw [Yx (Ub (Zq (Zd b_8 n_7))),Zy (Zh (Yp (Zq (Zd b_8 n_7)))),Zy (Yz (Yp (Zq (Zd b_8 n_7)))),Zy (Zb (Yp (Zq (Zd b_8 n_7)))),Zz .i64 (Up (Zq (Zd b_8 n_7))),Zz .u64 (Uj (Zq (Zd b_8 n_7))),Zz .i64 (Qk (Zq (Zd b_8 n_7))),Zz .i64 (Un (Zq (Zd b_8 n_7))),Zy (Uk (Zq (Zd b_8 n_7))),Zy (Qp (Zq (Zd b_8 n_7)))],Zz .i64 (Vn (Zd b_8 n_7))],[]))) (kT fun vs=>onCons vs fun x r=>Xv x fun cs=>cBool cs fun b_17 r_1=>cStr r_1 fun b_18 r_2=>cStr r_2 fun b_19 r_3=>cStr r_3 fun b_20 r_4=>cInt .i64 r_4 fun n_8 r_5=>cInt .u64 r_5 fun n_9 r_6=>cInt .i64 r_6 fun n_10 r_7=>cInt .i64 r_7 fun n_11 r_8=>cStr r_8 fun b_21 r_9=>cStr r_9 fun b_22 r_10=>onNil r_10 (cInt .i64 r fun n_12 r=>onNil r (some (Sum.inr (Ex.ret,[Zy b,Zy b_1,Zy b_2,Xw 5 b_3,Zz .i64 n,Zz .i64 n_1,Xw 5 b_4,Zz .i64 n_2,Yx b_5,Yx b_6,Zz .i64 n_3,Zy b_7,Zf b_8,Zf b_9,Zy b_18,Zy b_19,Zy b_20,Xw 5 b_13,Zz .i64 n_4,Zz .i64 n_5])))))) t0) t0))) (some (Sum.inr (Ex.exit 0,[Zy b,Zy b_1,Zy b_2,Xw 5 b_3,Zz .i64 n,Zz .i64 n_1,Xw 5 b_4,Zz .i64 n_2,Yx b_5,Yx b_6,Zz .i64 n_3,Zy b_7,Zf b_8,Zf b_9,Zy b_10,Zy b_11,Zy b_12,Xw 5 b_13,Zz .i64 n_4,Zz .i64 n_5]))))) [Zy m1,Zy m2,Zy m3,Xw 5 kls,Zz .i64 sz,Zz .i64 fl,Xw 5 mls,Zz .i64 sk,Yx rli,Yx rmu,Zz .i64 rkv,Zy rrl,Zf rtk,Zf rau,Zy [],Zy [],Zy [],Xw 5 kls,Zz .i64 (↑(Zx kls):Int),Zz .i64 0]) fun (r:Ex×List AV)=>cStr (Wy r) fun b r_1=>cStr r_1 fun b r_2=>cStr r_2 fun b r_3=>cSl 5 r_3 fun b r_4=>cInt .i64 r_4 fun n r_5=>cInt .i64 r_5 fun n r_6=>cSl 5 r_6 fun b r_7=>cInt .i64 r_7 fun n r_8=>cBool r_8 fun b r_9=>cBool r_9 fun b r_10=>cInt .i64 r_10 fun n r_11=>cStr r_11 fun b r_12=>cBs r_12 fun b r_13=>cBs r_13 fun b r_14=>cStr r_14 fun b r_15=>cStr r_15 fun b_1 r_16=>cStr r_16 fun b_2 r_17=>cSl 5 r_17 fun b_3 r_18=>cInt .i64 r_18 fun n r_19=>cInt .i64 r_19 fun n r_20=>onNil r_20 (exK r.1 (some (Yw [Zy b,Zy b_1,Zy b_2],[])) fun (j:Nat)=>sel (Nat.beq j 0) (some (Yw [Zy [],Zy [],Zy []],[])) none):Option (AV×Blocks))) (by kernel_rfl) ?_
  delta kT
  try dsimp only [cStr,cBs,cBool,cU8,cInt,cSl,l63]
  simp only [Yu,decide_eq_true_eq] at hpre
  obtain ⟨⟨⟨⟨⟨⟨⟨⟨l1,l2⟩,l3⟩,ka⟩,kl⟩,ma⟩,ml⟩,t1⟩,u1⟩:=hpre
  obtain ⟨ks,rfl,hks⟩:=Ju ka
  obtain ⟨ms,rfl,hms⟩:=Ug ma
  have hkT:=Qg hks
  have hmT:=Qb hms
  simp only [Yq] at kl ml
  have t2:rtk.length≤140737488355328:=by omega
  rw [Qw,Vg]
  simp only [Yq]
  refine loop_rounds (fun i:Nat=>[Zy m1,Zy m2,Zy m3,Xw 5 (ks.map Vq),Zz Zg sz,Zz Zg fl,Xw 5 (ms.map Xf),Zz Zg sk,Yx rli,Yx rmu,Zz Zg rkv,Zy rrl,Zf rtk,Zf rau,Zy [],Zy [],Zy [],Xw 5 (ks.map Vq),Zz Zg (ks.length:Int),Zz Zg (i:Int)]) (fun i=>i≤ks.length∧Ud ks ⟨m1,m2,m3⟩ rkv=i+Ud (ks.drop i) ⟨m1,m2,m3⟩ rkv) (fun i=>ks.length-i)
   (fun r=>∃ (i:Nat) (p:Kerb.Prin),r.2=[Zy m1,Zy m2,Zy m3,Xw 5 (ks.map Vq),Zz Zg sz,Zz Zg fl,Xw 5 (ms.map Xf),Zz Zg sk,Yx rli,Yx rmu,Zz Zg rkv,Zy rrl,Zf rtk,Zf rau,Zy p.name,Zy p.inst,Zy p.realm,Xw 5 (ks.map Vq),Zz Zg (ks.length:Int),Zz Zg (i:Int)]∧Ux ⟨⟨m1,m2,m3⟩,ks,⟨sz,fl,ms⟩,sk⟩ ⟨rli,rmu,rkv,rrl,rtk,rau⟩=p∧(r.1 = .ret∨(r.1 = .exit 0∧p=Kerb.noPrin))) 0 ⟨Nat.zero_le _,by simp⟩ rfl ?_ ?_
  ·rintro i ⟨hi,hp⟩
   simp only [↓A0,A0,Yq]
   by_cases hlt:i<ks.length
   ·have hk1:(decide ((0:Int)≤(i:Int))&&decide ((i:Int)<(ks.length:Int))&&true)=true:=by simp;omega
    have hd:=Kerb.drop_row (d:=Kerb.noSKey) hlt
    have hg:(ks.map Vq).getD i AV.undef=(ks.getD i Kerb.noSKey).av:=Kerb.getD_row hlt
    obtain ⟨c,hc⟩:∃ c,ks.getD i Kerb.noSKey=c:=⟨_,rfl⟩
    rw [hc] at hd hg
    rw [sel_pos (by simp;omega)]
    simp only [hk1,Int.toNat_natCast,hg,Vq,↓A0,A0]
    have he0:Kerb.SKey.is ⟨m1,m2,m3⟩ rkv c=((c.service.name==m1&&(c.service.inst==m2&&c.service.realm==m3))&&c.kvno==rkv):=rfl
    have keep:Kerb.SKey.is ⟨m1,m2,m3⟩ rkv c=false→Ud ks ⟨m1,m2,m3⟩ rkv=(i+1)+Ud (ks.drop (i+1)) ⟨m1,m2,m3⟩ rkv:=fun he=>by
     rw [hp,hd]
     simp only [Ud,List.findIdx_cons,he,cond_false]
     omega
    rw [wrap_i64 (by omega) (by omega)]
    cases h1:(c.service.name==m1&&(c.service.inst==m2&&c.service.realm==m3))
    ·rw [sel_false]
     exact ⟨_,rfl,i+1,rfl,⟨by omega,keep (by rw [he0,h1];rfl)⟩,by dsimp only;omega⟩
    rw [sel_true]
    cases h2:(c.kvno==rkv)
    ·rw [sel_false]
     exact ⟨_,rfl,i+1,rfl,⟨by omega,keep (by rw [he0,h1,h2];rfl)⟩,by dsimp only;omega⟩
    rw [sel_true]
    simp only [t2,decide_true,↓A0,A0]
    refine ⟨_,rfl,i,(Zd rtk c.key).val.client,rfl,?_,.inl rfl⟩
    have hq:Ud ks ⟨m1,m2,m3⟩ rkv=i:=by
     rw [hp,hd]
     simp only [Ud,List.findIdx_cons,show Kerb.SKey.is ⟨m1,m2,m3⟩ rkv c=true from by rw [he0,h1,h2];rfl,cond_true]
     omega
    have hf:Uz ks ⟨m1,m2,m3⟩ rkv=(c.key,true):=by
     unfold Uz
     rw [hq,if_pos hlt,hc]
    unfold Ux
    dsimp only
    rw [hf,if_pos rfl]
   ·rw [sel_neg (by simp;omega)]
    refine ⟨_,rfl,i,Kerb.noPrin,rfl,?_,.inr ⟨rfl,rfl⟩⟩
    have hq:Ud ks ⟨m1,m2,m3⟩ rkv=ks.length:=by
     rw [hp,List.drop_eq_nil_of_le (by omega)]
     simp [Ud];omega
    have hf:Uz ks ⟨m1,m2,m3⟩ rkv=(0,false):=by
     unfold Uz
     rw [hq,if_neg (by omega)]
    unfold Ux
    dsimp only
    rw [hf,if_neg (by simp)]
  ·rintro ⟨e,l⟩ ⟨i,p,rfl,h,rfl | ⟨rfl,rfl⟩⟩
   ·simp only [↓A0,A0,h]
   ·simp only [↓A0,A0,h]
    rw [sel_pos (Nat.beq_refl _)]
    rfl
 ·cases h
set_option maxHeartbeats 4000000 in
theorem w32:Walked Tryz.prog G 32 12 sp32:=by
 refine ⟨Tryz.f32,Tryz.func32,by decide +kernel,rfl,fun xs bl r h=> ?_⟩
 unfold sp32 at h
 split at h
 ·rename_i rl els xls now li se rli rmu rkv rrl rtk rau wtm wlf wsv win cx cy cz ck2 cad ccs ctm ctc cis clf ctk cau
  obtain ⟨hpre,h2⟩:=chk_inv h;cases h2
  refine Eq.trans (b:=(let t1:List AV:=[Yw [Zz .i64 (Jx Zm),Zy (Zh (Yg Zm)),Zy (Yz (Yg Zm)),Zy (Zb (Yg Zm)),Zy (Zh (Yb Zm)),Zy (Yz (Yb Zm)),Zy (Zb (Yb Zm)),Zy (Zh (Yd Zm)),Zy (Yz (Yd Zm)),Zy (Zb (Yd Zm)),Zz .u64 (Uh Zm),Zz .u64 (Qu Zm),Zz .u64 (Qz Zm),Zf (Jz Zm),Zz .i64 (Qq Zm),Zz .i64 (Jy Zm)],Yx false];let t2:Bool:=l63 cx&&l63 cy&&l63 cz;let t3:Option (AV×Blocks):=some (Zp [Zf [],Yw [Zz .i64 0,Zy [],Zy [],Zy [],Zy [],Zy [],Zy [],Zy [],Zy [],Zy [],Zz .u64 0,Zz .u64 0,Zz .u64 0,Zf [],Zz .i64 0,Zz .i64 0],Yx false],[]);let t4:Kerb.Svc:=Kerb.svc (Kerb.Db.mk rl (Xu Kerb.toEntry els)) (Xu Kerb.toCross xls) wsv win now;let t0:Option (AV×Blocks):=Zv (chk (Vz els Kerb.isEntry&&decide (Zx els≤1000000)&&Vz xls Kerb.isCross&&decide (Zx xls≤1000000)&&l63 win) (some (Zp [Zz .u64 (Kerb.Svc.key t4),Zz .i64 (Kerb.Svc.kvno t4),Zz .i64 (Kerb.Svc.life t4),Zz .i64 (Kerb.Svc.expires t4),Zz .i64 (Kerb.Svc.err t4)],[]))) (kT fun vs=>cInt .u64 vs fun n r=>cInt .i64 r fun n_1 r=>cInt .i64 r fun n_2 r=>cInt .i64 r fun n_3 r=>cInt .i64 r fun n_4 r=>onNil r (sel (!n_4==0) (Zv (chk t2 (some (Zp (Zf (Uy (Zw cx cy cz) n_4 now li)::t1),[]))) (kT fun vs=>cBs vs fun b r=>onCons r fun x r=>Xv x fun cs=>cInt .i64 cs fun n r_1=>cStr r_1 fun b_1 r_2=>cStr r_2 fun b_2 r_3=>cStr r_3 fun b_3 r_4=>cStr r_4 fun b_4 r_5=>cStr r_5 fun b_5 r_6=>cStr r_6 fun b_6 r_7=>cStr r_7 fun b_7 r_8=>cStr r_8 fun b_8 r_9=>cStr r_9 fun b_9 r_10=>cInt .u64 r_10 fun n_5 r_11=>cInt .u64 r_11 fun n_6 r_12=>cInt .u64 r_12 fun n_7 r_13=>cBs r_13 fun b_10 r_14=>cInt .i64 r_14 fun n_8 r_15=>cInt .i64 r_15 fun n_9 r_16=>onNil r_16 (cBool r fun b_11 r=>onNil r (some (Zp [Zf b,Yw [Zz .i64 n,Zy b_1,Zy b_2,Zy b_3,Zy b_4,Zy b_5,Zy b_6,Zy b_7,Zy b_8,Zy b_9,Zz .u64 n_5,Zz .u64 n_6,Zz .u64 n_7,Zf b_10,Zz .i64 n_8,Zz .i64 n_9],Yx b_11],[]))))) (Zv (chk (Kerb.isI64 n_3) (some (Zp [Zz .i64 (Wd (Kerb.tgsLife now wlf n_2 n_3 cis clf)),Yx (Wy (Kerb.tgsLife now wlf n_2 n_3 cis clf))],[]))) (kT fun vs=>cInt .i64 vs fun n_5 r=>cBool r fun b r=>onNil r (sel (!b) (Zv (chk t2 (some (Zp (Zf (Uy (Zw cx cy cz) 3 now li)::t1),[]))) (kT fun vs=>cBs vs fun b r=>onCons r fun x r=>Xv x fun cs=>cInt .i64 cs fun n r_1=>cStr r_1 fun b_1 r_2=>cStr r_2 fun b_2 r_3=>cStr r_3 fun b_3 r_4=>cStr r_4 fun b_4 r_5=>cStr r_5 fun b_5 r_6=>cStr r_6 fun b_6 r_7=>cStr r_7 fun b_7 r_8=>cStr r_8 fun b_8 r_9=>cStr r_9 fun b_9 r_10=>cInt .u64 r_10 fun n_6 r_11=>cInt .u64 r_11 fun n_7 r_12=>cInt .u64 r_12 fun n_8 r_13=>cBs r_13 fun b_10 r_14=>cInt .i64 r_14 fun n_9 r_15=>cInt .i64 r_15 fun n_10 r_16=>onNil r_16 (cBool r fun b_11 r=>onNil r (some (Zp [Zf b,Yw [Zz .i64 n,Zy b_1,Zy b_2,Zy b_3,Zy b_4,Zy b_5,Zy b_6,Zy b_7,Zy b_8,Zy b_9,Zz .u64 n_6,Zz .u64 n_7,Zz .u64 n_8,Zf b_10,Zz .i64 n_9,Zz .i64 n_10],Yx b_11],[]))))) (Zv (chk (decide (0≤se)&&decide (se<18446744073709551616)) (some (Zz .i64 (Kerb.classOf se),[]))) (kI .i64 fun n_6=>sel (!n_6==2) (Zv (chk t2 (some (Zp (Zf (Uy (Zw cx cy cz) 10 now li)::t1),[]))) (kT fun vs=>cBs vs fun b r=>onCons r fun x r=>Xv x fun cs=>cInt .i64 cs fun n r_1=>cStr r_1 fun b_1 r_2=>cStr r_2 fun b_2 r_3=>cStr r_3 fun b_3 r_4=>cStr r_4 fun b_4 r_5=>cStr r_5 fun b_5 r_6=>cStr r_6 fun b_6 r_7=>cStr r_7 fun b_7 r_8=>cStr r_8 fun b_8 r_9=>cStr r_9 fun b_9 r_10=>cInt .u64 r_10 fun n_7 r_11=>cInt .u64 r_11 fun n_8 r_12=>cInt .u64 r_12 fun n_9 r_13=>cBs r_13 fun b_10 r_14=>cInt .i64 r_14 fun n_10 r_15=>cInt .i64 r_15 fun n_11 r_16=>onNil r_16 (cBool r fun b_11 r=>onNil r (some (Zp [Zf b,Yw [Zz .i64 n,Zy b_1,Zy b_2,Zy b_3,Zy b_4,Zy b_5,Zy b_6,Zy b_7,Zy b_8,Zy b_9,Zz .u64 n_7,Zz .u64 n_8,Zz .u64 n_9,Zf b_10,Zz .i64 n_10,Zz .i64 n_11],Yx b_11],[]))))) (Zv (chk (t2&&l63 wsv&&l63 win&&l63 rl&&Uf se&&Uf n) (some (Zp [Yw [Zz .i64 (Jx (Yv (Yj rl (Zw cx cy cz) (Zw wsv win rl) cad li now n_5 se ck2 n n_1))),Zy (Zh (Yg (Yv (Yj rl (Zw cx cy cz) (Zw wsv win rl) cad li now n_5 se ck2 n n_1)))),Zy (Yz (Yg (Yv (Yj rl (Zw cx cy cz) (Zw wsv win rl) cad li now n_5 se ck2 n n_1)))),Zy (Zb (Yg (Yv (Yj rl (Zw cx cy cz) (Zw wsv win rl) cad li now n_5 se ck2 n n_1)))),Zy (Zh (Yb (Yv (Yj rl (Zw cx cy cz) (Zw wsv win rl) cad li now n_5 se ck2 n n_1)))),Zy (Yz (Yb (Yv (Yj rl (Zw cx cy cz) (Zw wsv win rl) cad li now n_5 se ck2 n n_1)))),Zy (Zb (Yb (Yv (Yj rl (Zw cx cy cz) (Zw wsv win rl) cad li now n_5 se ck2 n n_1)))),Zy (Zh (Yd (Yv (Yj rl (Zw cx cy cz) (Zw wsv win rl) cad li now n_5 se ck2 n n_1)))),Zy (Yz (Yd (Yv (Yj rl (Zw cx cy cz) (Zw wsv win rl) cad li now n_5 se ck2 n n_1)))),Zy (Zb (Yd (Yv (Yj rl (Zw cx cy cz) (Zw wsv win rl) cad li now n_5 se ck2 n n_1)))),Zz .u64 (Uh (Yv (Yj rl (Zw cx cy cz) (Zw wsv win rl) cad li now n_5 se ck2 n n_1))),Zz .u64 (Qu (Yv (Yj rl (Zw cx cy cz) (Zw wsv win rl) cad li now n_5 se ck2 n n_1))),Zz .u64 (Qz (Yv (Yj rl (Zw cx cy cz) (Zw wsv win rl) cad li now n_5 se ck2 n n_1))),Zf (Jz (Yv (Yj rl (Zw cx cy cz) (Zw wsv win rl) cad li now n_5 se ck2 n n_1))),Zz .i64 (Qq (Yv (Yj rl (Zw cx cy cz) (Zw wsv win rl) cad li now n_5 se ck2 n n_1))),Zz .i64 (Jy (Yv (Yj rl (Zw cx cy cz) (Zw wsv win rl) cad li now n_5 se ck2 n n_1)))],Yw [Zz .u64 (Kerb.ReplyPart.session (Xm (Yj rl (Zw cx cy cz) (Zw wsv win rl) cad li now n_5 se ck2 n n_1))),Zy (Zh (Qj (Xm (Yj rl (Zw cx cy cz) (Zw wsv win rl) cad li now n_5 se ck2 n n_1)))),Zy (Yz (Qj (Xm (Yj rl (Zw cx cy cz) (Zw wsv win rl) cad li now n_5 se ck2 n n_1)))),Zy (Zb (Qj (Xm (Yj rl (Zw cx cy cz) (Zw wsv win rl) cad li now n_5 se ck2 n n_1)))),Zz .i64 (Kerb.ReplyPart.life (Xm (Yj rl (Zw cx cy cz) (Zw wsv win rl) cad li now n_5 se ck2 n n_1))),Zz .i64 (Kerb.ReplyPart.kvno (Xm (Yj rl (Zw cx cy cz) (Zw wsv win rl) cad li now n_5 se ck2 n n_1))),Zf (Kerb.ReplyPart.ticket (Xm (Yj rl (Zw cx cy cz) (Zw wsv win rl) cad li now n_5 se ck2 n n_1))),Zz .i64 (Kerb.ReplyPart.time (Xm (Yj rl (Zw cx cy cz) (Zw wsv win rl) cad li now n_5 se ck2 n n_1)))],Zz .i64 (Kerb.Granted.err (Yj rl (Zw cx cy cz) (Zw wsv win rl) cad li now n_5 se ck2 n n_1))],[]))) (kT fun vs=>onCons vs fun x r=>Xv x fun cs=>cInt .i64 cs fun n r_1=>cStr r_1 fun b r_2=>cStr r_2 fun b_1 r_3=>cStr r_3 fun b_2 r_4=>cStr r_4 fun b_3 r_5=>cStr r_5 fun b_4 r_6=>cStr r_6 fun b_5 r_7=>cStr r_7 fun b_6 r_8=>cStr r_8 fun b_7 r_9=>cStr r_9 fun b_8 r_10=>cInt .u64 r_10 fun n r_11=>cInt .u64 r_11 fun n_7 r_12=>cInt .u64 r_12 fun n_8 r_13=>cBs r_13 fun b_9 r_14=>cInt .i64 r_14 fun n_9 r_15=>cInt .i64 r_15 fun n_10 r_16=>onNil r_16 (onCons r fun x r=>Xv x fun cs=>cInt .u64 cs fun n_11 r_17=>cStr r_17 fun b_10 r_18=>cStr r_18 fun b_11 r_19=>cStr r_19 fun b_12 r_20=>cInt .i64 r_20 fun n_12 r_21=>cInt .i64 r_21 fun n_13 r_22=>cBs r_22 fun b_13 r_23=>cInt .i64 r_23 fun n_14 r_24=>onNil r_24 (cInt .i64 r fun n_15 r=>onNil r (sel (!n_15==0) t3 (Zv (chk (t2&&l63 b_10&&l63 b_11&&l63 b_12&&Uf n_11&&Uf ck2) (some (Zp [Zf (Xb (Kerb.sealReply (Qv li (Zw cx cy cz) wtm 0 0 []) (Xj n_11 (Zw b_10 b_11 b_12) n_12 n_13 b_13 n_14) ck2)),Zz .i64 (Xn (Kerb.sealReply (Qv li (Zw cx cy cz) wtm 0 0 []) (Xj n_11 (Zw b_10 b_11 b_12) n_12 n_13 b_13 n_14) ck2))],[]))) (kT fun vs=>cBs vs fun b_14 r=>cInt .i64 r fun n_16 r=>onNil r (sel (!n_16==0) t3 (some (Zp [Zf b_14,Yw [Zz .i64 2,Zy b,Zy b_1,Zy b_2,Zy b_3,Zy b_4,Zy b_5,Zy b_6,Zy b_7,Zy b_8,Zz .u64 n,Zz .u64 n_7,Zz .u64 ck2,Zf b_9,Zz .i64 n_9,Zz .i64 n_10],Yx true],[])))))))))))))))));sel (!cz==rrl) (Zv (chk t2 (some (Zp (Zf (Uy (Zw cx cy cz) 36 now li)::t1),[]))) (kT fun vs=>cBs vs fun b r=>onCons r fun x r=>Xv x fun cs=>cInt .i64 cs fun n r_1=>cStr r_1 fun b_1 r_2=>cStr r_2 fun b_2 r_3=>cStr r_3 fun b_3 r_4=>cStr r_4 fun b_4 r_5=>cStr r_5 fun b_5 r_6=>cStr r_6 fun b_6 r_7=>cStr r_7 fun b_7 r_8=>cStr r_8 fun b_8 r_9=>cStr r_9 fun b_9 r_10=>cInt .u64 r_10 fun n_1 r_11=>cInt .u64 r_11 fun n_2 r_12=>cInt .u64 r_12 fun n_3 r_13=>cBs r_13 fun b_10 r_14=>cInt .i64 r_14 fun n_4 r_15=>cInt .i64 r_15 fun n_5 r_16=>onNil r_16 (cBool r fun b_11 r=>onNil r (some (Zp [Zf b,Yw [Zz .i64 n,Zy b_1,Zy b_2,Zy b_3,Zy b_4,Zy b_5,Zy b_6,Zy b_7,Zy b_8,Zy b_9,Zz .u64 n_1,Zz .u64 n_2,Zz .u64 n_3,Zf b_10,Zz .i64 n_4,Zz .i64 n_5],Yx b_11],[]))))) (sel (wsv==Wx) (sel (!cz==rl) (Zv (chk t2 (some (Zp (Zf (Uy (Zw cx cy cz) 8 now li)::t1),[]))) (kT fun vs=>cBs vs fun b r=>onCons r fun x r=>Xv x fun cs=>cInt .i64 cs fun n r_1=>cStr r_1 fun b_1 r_2=>cStr r_2 fun b_2 r_3=>cStr r_3 fun b_3 r_4=>cStr r_4 fun b_4 r_5=>cStr r_5 fun b_5 r_6=>cStr r_6 fun b_6 r_7=>cStr r_7 fun b_7 r_8=>cStr r_8 fun b_8 r_9=>cStr r_9 fun b_9 r_10=>cInt .u64 r_10 fun n_1 r_11=>cInt .u64 r_11 fun n_2 r_12=>cInt .u64 r_12 fun n_3 r_13=>cBs r_13 fun b_10 r_14=>cInt .i64 r_14 fun n_4 r_15=>cInt .i64 r_15 fun n_5 r_16=>onNil r_16 (cBool r fun b_11 r=>onNil r (some (Zp [Zf b,Yw [Zz .i64 n,Zy b_1,Zy b_2,Zy b_3,Zy b_4,Zy b_5,Zy b_6,Zy b_7,Zy b_8,Zy b_9,Zz .u64 n_1,Zz .u64 n_2,Zz .u64 n_3,Zf b_10,Zz .i64 n_4,Zz .i64 n_5],Yx b_11],[]))))) t0) t0):Option (AV×Blocks))) (by kernel_rfl) ?_
  delta kT kI
  try dsimp only [cStr,cBs,cBool,cU8,cInt,cSl,l63]
  simp only [Yu,decide_eq_true_eq] at hpre
  obtain ⟨⟨⟨⟨⟨⟨⟨⟨⟨⟨⟨ea,el⟩,xa⟩,xl⟩,lr⟩,n4⟩,n5⟩,a1⟩,a2⟩,a3⟩,hse⟩,hck⟩:=hpre
  have hse2:=Kerb.isU64_iff.1 hse
  have hck2:=Kerb.isU64_iff.1 hck
  obtain ⟨es,rfl,hok⟩:=Kerb.ents_of ea
  obtain ⟨cs,rfl,hcs⟩:=Kerb.cross_okof xa
  simp only [Yq] at el xl
  obtain ⟨D,hD⟩:∃ D,Kerb.Db.mk rl es=D:=⟨_,rfl⟩
  have hDr:D.realm=rl:=by rw [← hD]
  have hDe:D.entries=es:=by rw [← hD]
  obtain ⟨v1,v2,v3,v4⟩:=Kerb.svc_okX (d:=D) (cs:=cs) (n:=wsv) (i:=win) (now:=now) (by rw [hDe];exact hok) hcs
  obtain ⟨V,hV⟩:∃ V,Kerb.svc D cs wsv win now=V:=⟨_,rfl⟩
  rw [hV] at v1 v2 v3 v4
  have gp:=fun lf:Int=>Kerb.grant_part (realm:=rl) (client:=⟨cx,cy,cz⟩) (service:=⟨wsv,win,rl⟩) (address:=cad) (little:=li) (now:=now) (life:=lf) (session:=se) (sealer:=ck2) (target:=V.key) (kvno:=V.kvno) n4 n5 lr hse
  have gp1:=fun lf=>(gp lf).1
  have gp2:=fun lf=>(gp lf).2.1
  have gp3:=fun lf=>(gp lf).2.2.1
  have gp4:=fun lf=>(gp lf).2.2.2
  have gPe:∀ p:Kerb.ReplyPart,Xj p.session ⟨p.service.name,p.service.inst,p.service.realm⟩ p.life p.kvno p.ticket p.time=p:=fun _=>rfl
  unfold Kerb.tgsServe Kerb.tgsGive
  dsimp only
  simp (config:={maxSteps:=10000000}) only [Kerb.map_toEntry,Kerb.map_toCross,Yq,hD,hV,hDr,ea,el,xa,xl,lr,n4,n5,a1,a2,a3,hse,hse2,hck,v1,v4,gp1,gp2,gp3,gp4,gPe,decide_true,Xz,Vx,Vv,↓sInt,↓sU8,↓sBool,↓sStr,↓sBs,↓sSl,↓sAgg,↓sTup,↓sCons,↓sNil,↓sNilB,↓sChk,↓sChkBind,↓sSome,↓sOwnL,↓sConsB,↓sOwnB]
  by_cases g1:cz=rrl
  case neg=>rw [sel_pos (by simpa using g1),if_pos g1]
  rw [sel_neg (by simpa using g1),if_neg (by simpa using g1)]
  have hs:∀ a b:Option (AV×Blocks),sel (wsv==Wx) (sel (!cz==rl) a b) b=if wsv=Wx∧cz≠rl then a else b:=by
   intro a b
   by_cases q1:wsv=Wx
   ·rw [sel_pos (by simpa using q1)]
    by_cases q2:cz=rl
    ·rw [sel_neg (by simpa using q2),if_neg (fun h=>h.2 q2)]
    ·rw [sel_pos (by simpa using q2),if_pos ⟨q1,q2⟩]
   ·rw [sel_neg (by simpa using q1),if_neg (fun h=>q1 h.1)]
  rw [hs]
  by_cases g2:wsv=Wx∧cz≠rl
  ·rw [if_pos g2,if_pos g2]
  rw [if_neg g2,if_neg g2]
  by_cases g3:V.err=0
  case neg=>rw [sel_pos (by simpa using g3),if_pos g3]
  rw [sel_neg (by simpa using g3),if_neg (by simpa using g3)]
  obtain ⟨L,hL⟩:∃ L,Kerb.tgsLife now wlf V.life V.expires cis clf=L:=⟨_,rfl⟩
  rw [hL]
  cases g5:L.2
  ·rfl
  rw [Vw,sel_false,if_neg (by simp)]
  by_cases g6:Kerb.classOf se=2
  case neg=>rw [sel_pos (by simpa using g6),if_pos g6]
  rw [sel_neg (by simpa using g6),if_neg (by simpa using g6)]
  obtain ⟨GG,hGG⟩:∃ GG,Yj rl ⟨cx,cy,cz⟩ ⟨wsv,win,rl⟩ cad li now L.1 se ck2 V.key V.kvno=GG:=⟨_,rfl⟩
  rw [hGG]
  by_cases g7:GG.err=0
  case neg=>rw [sel_pos (by simpa using g7),if_pos g7];rfl
  rw [sel_neg (by simpa using g7),if_neg (by simpa using g7)]
  by_cases g8:(Kerb.sealReply ⟨li,⟨cx,cy,cz⟩,wtm,0,0,[]⟩ GG.part ck2).err=0
  case neg=>rw [sel_pos (by simpa using g8),if_pos g8];rfl
  rw [sel_neg (by simpa using g8),if_neg (by simpa using g8)]
 ·cases h
theorem w61:Walked Tryz.prog G 61 12 sp61:=by
 refine ⟨Tryz.f61,Tryz.func61,by decide +kernel,rfl,fun xs bl r h=> ?_⟩
 unfold sp61 at h
 split at h
 ·rename_i m1 m2 m3 kls sz fl mls sk rli rmu rkv rrl rtk rau
  obtain ⟨hpre,h2⟩:=chk_inv h;cases h2
  refine Eq.trans (b:=(let t1:AV:=Yw [Yx false,Zy [],Zy [],Zy [],Zz .i64 0,Zz .u64 0,Zz .i64 0,Zz .i64 0,Zy [],Zy []];let t2:AV:=Yw [Zy [],Zy [],Zy [],Zz .i64 0,Zz .i64 0,Zz .i64 0];let t0:Option (AV×Blocks):=some (Zp [t1,t2,Zz .i64 35],[]);sel (!rrl==m3) t0 (Zv (chk (Vz kls Kerb.isSKey&&decide (Zx kls≤1000000)) (some (Zp [Zz .u64 (Wd (Uz (Xu Um kls) (Zw m1 m2 m3) rkv)),Yx (Wy (Uz (Xu Um kls) (Zw m1 m2 m3) rkv))],[]))) (kT fun vs=>cInt .u64 vs fun n r=>cBool r fun b r=>onNil r (sel (!b) t0 (Zv (chk (decide (Zx rtk≤140737488355328)) (some (Zp [Yw [Yx (Ub (Zq (Zd rtk n))),Zy (Zh (Yp (Zq (Zd rtk n)))),Zy (Yz (Yp (Zq (Zd rtk n)))),Zy (Zb (Yp (Zq (Zd rtk n)))),Zz .i64 (Up (Zq (Zd rtk n))),Zz .u64 (Uj (Zq (Zd rtk n))),Zz .i64 (Qk (Zq (Zd rtk n))),Zz .i64 (Un (Zq (Zd rtk n))),Zy (Uk (Zq (Zd rtk n))),Zy (Qp (Zq (Zd rtk n)))],Zz .i64 (Vn (Zd rtk n))],[]))) (kT fun vs=>onCons vs fun x r=>Xv x fun cs=>cBool cs fun b r_1=>cStr r_1 fun b_1 r_2=>cStr r_2 fun b_2 r_3=>cStr r_3 fun b_3 r_4=>cInt .i64 r_4 fun n r_5=>cInt .u64 r_5 fun n_1 r_6=>cInt .i64 r_6 fun n_2 r_7=>cInt .i64 r_7 fun n_3 r_8=>cStr r_8 fun b_4 r_9=>cStr r_9 fun b_5 r_10=>onNil r_10 (cInt .i64 r fun n_4 r=>onNil r (sel (n_4==7) (some (Zp [t1,t2,Zz .i64 7],[])) (sel (!n_4==0) (some (Zp [t1,t2,Zz .i64 31],[])) (sel (!(b_4==m1&&(b_5==m2&&m3==m3))) t0 (Zv (chk (decide (Zx rau≤140737488355328)) (some (Zp [Yw [Zy (Zh (Xp (Zq (Wg rau rli n_1)))),Zy (Yz (Xp (Zq (Wg rau rli n_1)))),Zy (Zb (Xp (Zq (Wg rau rli n_1)))),Zz .i64 (Kerb.Auth.checksum (Zq (Wg rau rli n_1))),Zz .i64 (Kerb.Auth.tick (Zq (Wg rau rli n_1))),Zz .i64 (Kerb.Auth.time (Zq (Wg rau rli n_1)))],Zz .i64 (Vn (Wg rau rli n_1))],[]))) (kT fun vs=>onCons vs fun x r=>Xv x fun cs=>cStr cs fun b_6 r_11=>cStr r_11 fun b_7 r_12=>cStr r_12 fun b_8 r_13=>cInt .i64 r_13 fun n_5 r_14=>cInt .i64 r_14 fun n_6 r_15=>cInt .i64 r_15 fun n_7 r_16=>onNil r_16 (cInt .i64 r fun n_8 r=>onNil r (sel (!n_8==0) (some (Zp [t1,t2,Zz .i64 31],[])) (some (Zp [Yw [Yx b,Zy b_1,Zy b_2,Zy b_3,Zz .i64 n,Zz .u64 n_1,Zz .i64 n_2,Zz .i64 n_3,Zy b_4,Zy b_5],Yw [Zy b_6,Zy b_7,Zy b_8,Zz .i64 n_5,Zz .i64 n_6,Zz .i64 n_7],Zz .i64 0],[]))))))))))))))):Option (AV×Blocks))) (by kernel_rfl) ?_
  delta kT
  try dsimp only [cStr,cBs,cBool,cU8,cInt,cSl,l63]
  simp only [Yu,decide_eq_true_eq] at hpre
  obtain ⟨⟨⟨⟨⟨⟨⟨⟨l1,l2⟩,l3⟩,ka⟩,kl⟩,ma⟩,ml⟩,t1⟩,u1⟩:=hpre
  obtain ⟨ks,rfl,hks⟩:=Ju ka
  obtain ⟨ms,rfl,hms⟩:=Ug ma
  have hkT:=Qg hks
  have hmT:=Qb hms
  simp only [Yq] at kl ml
  have t2:rtk.length≤140737488355328:=by omega
  have u2:rau.length≤140737488355328:=by omega
  simp only [Qw,Vg,Yq,hkT,kl,t2,u2,decide_true,Xz,↓A0,A0]
  unfold Wz
  by_cases g1:rrl=m3
  case neg=>rw [sel_pos (by simpa using g1),if_pos (by simpa using g1)];rfl
  rw [sel_neg (by simpa using g1),if_neg (by simpa using g1)]
  dsimp only
  cases g2:(Uz ks ⟨m1,m2,m3⟩ rkv).2
  ·rfl
  rw [Vw,sel_false,if_neg (by simp)]
  generalize (Uz ks ⟨m1,m2,m3⟩ rkv).1=K
  by_cases g3:(Zd rtk K).err=7
  ·rw [sel_pos (by simpa using g3),if_pos g3];rfl
  rw [sel_neg (by simpa using g3),if_neg g3]
  by_cases g4:(Zd rtk K).err=0
  case neg=>rw [sel_pos (by simpa using g4),if_pos g4];rfl
  rw [sel_neg (by simpa using g4),if_neg (by simpa using g4)]
  have g5:((Zd rtk K).val.service==m1&&((Zd rtk K).val.inst==m2&&m3==m3))=(Kerb.ticketFor (Zd rtk K).val m3).eqb ⟨m1,m2,m3⟩:=rfl
  rw [g5]
  cases g6:(Kerb.ticketFor (Zd rtk K).val m3).eqb ⟨m1,m2,m3⟩
  ·rfl
  rw [Vw,sel_false,if_neg (by simp)]
  by_cases g7:(Wg rau rli (Zd rtk K).val.session).err=0
  case neg=>rw [sel_pos (by simpa using g7),if_pos g7];rfl
  rw [sel_neg (by simpa using g7),if_neg (by simpa using g7)]
 ·cases h
theorem w29:Walked Tryz.prog G 29 13 sp29:=by
 refine ⟨Tryz.f29,Tryz.func29,by decide +kernel,rfl,fun xs bl r h=> ?_⟩
 unfold sp29 at h
 split at h
 ·rename_i m1 m2 m3 kls sz fl mls sk rli rmu rkv rrl rtk rau src now
  obtain ⟨hpre,h2⟩:=chk_inv h;cases h2
  refine Eq.trans (b:=(let t0:AV:=Yw [Zy [],Zy [],Zy [],Zz .u64 0,Zz .i64 0,Zz .i64 0,Zz .i64 0,Zz .i64 0,Zz .i64 0,Zz .i64 0,Zf [],Zf []];Zv (chk (decide (Zx kls≤1000000)&&decide (Zx mls≤1000000)) (some (Yw [Zy m1,Zy m2,Zy m3,Xw 5 kls,Zz .i64 sz,Zz .i64 fl,Xw 5 mls,Zz .i64 sk],[]))) (kA fun cs=>cStr cs fun b r=>cStr r fun b_1 r=>cStr r fun b_2 r=>let t1:Bool:=l63 b&&l63 b_1&&l63 b_2;cSl 5 r fun b_3 r=>cInt .i64 r fun n r=>cInt .i64 r fun n_1 r=>cSl 5 r fun b_4 r=>let t2:Bool:=t1&&Vz b_3 Kerb.isSKey&&decide (Zx b_3≤1000000)&&Vz b_4 Qm&&decide (Zx b_4≤1000000);cInt .i64 r fun n_2 r=>let t4:AV:=Yw [Zy b,Zy b_1,Zy b_2,Xw 5 b_3,Zz .i64 n,Zz .i64 n_1,Xw 5 b_4,Zz .i64 n_2];let t6:Kerb.Opened:=Wz (Wh (Zw b b_1 b_2) (Xu Um b_3) (Xd n n_1 (Xu Vh b_4)) n_2) (Xg rli rmu rkv rrl rtk rau);let t3:Kerb.Ticket:=Kerb.Opened.ticket t6;let t5:Kerb.Auth:=Kerb.Opened.auth t6;onNil r (Zv (chk t2 (some (Zz .i64 (Kerb.Server.err (Wh (Zw b b_1 b_2) (Xu Um b_3) (Xd n n_1 (Xu Vh b_4)) n_2)),[]))) (kI .i64 fun n_3=>sel (!n_3==0) (some (Zp [t4,t0,Zz .i64 108],[])) (Zv (chk (t2&&decide (Zx rtk≤1000000)&&decide (Zx rau≤1000000)) (some (Zp [Yw [Yx (Ub t3),Zy (Zh (Yp t3)),Zy (Yz (Yp t3)),Zy (Zb (Yp t3)),Zz .i64 (Up t3),Zz .u64 (Uj t3),Zz .i64 (Qk t3),Zz .i64 (Un t3),Zy (Uk t3),Zy (Qp t3)],Yw [Zy (Zh (Xp t5)),Zy (Yz (Xp t5)),Zy (Zb (Xp t5)),Zz .i64 (Kerb.Auth.checksum t5),Zz .i64 (Kerb.Auth.tick t5),Zz .i64 (Kerb.Auth.time t5)],Zz .i64 (Kerb.Opened.err t6)],[]))) (kT fun vs=>onCons vs fun x r=>Xv x fun cs=>cBool cs fun b_5 r_1=>cStr r_1 fun b_6 r_2=>cStr r_2 fun b_7 r_3=>cStr r_3 fun b_8 r_4=>cInt .i64 r_4 fun n_4 r_5=>cInt .u64 r_5 fun n_5 r_6=>cInt .i64 r_6 fun n_6 r_7=>cInt .i64 r_7 fun n_7 r_8=>cStr r_8 fun b_9 r_9=>cStr r_9 fun b_10 r_10=>onNil r_10 (onCons r fun x r=>Xv x fun cs=>cStr cs fun b_11 r_11=>cStr r_11 fun b_12 r_12=>cStr r_12 fun b_13 r_13=>cInt .i64 r_13 fun n_8 r_14=>cInt .i64 r_14 fun n_9 r_15=>cInt .i64 r_15 fun n_10 r_16=>let t8:Int:=Kerb.judge (Wm b_5 (Zw b_6 b_7 b_8) n_4 n_5 n_6 n_7 b_9 b_10) (Jw (Zw b_11 b_12 b_13) n_8 n_9 n_10) src now n_2;let t9:Kerb.Dec Kerb.RCache:=Kerb.addMark (Xd n n_1 (Xu Vh b_4)) (Kerb.Mark.mk (Zw b_11 b_12 b_13) n_10 n_9) now n_2;let t7:Kerb.RCache:=Zq t9;onNil r_16 (cInt .i64 r fun n r=>onNil r (sel (!n==0) (some (Zp [t4,t0,Zz .i64 n],[])) (sel (!t8==0) (some (Zp [t4,t0,Zz .i64 t8],[])) (Zv (chk (Vz b_4 Qm&&decide (Zx b_4≤1000000)&&l63 b_11&&l63 b_12&&l63 b_13) (some (Zp [Yw [Zz .i64 (Kerb.RCache.size t7),Zz .i64 (Kerb.RCache.floor t7),Xw 5 (Xu Xf (Kerb.RCache.marks t7))],Zz .i64 (Vn t9)],[]))) (kT fun vs=>onCons vs fun x r=>Xv x fun cs=>cInt .i64 cs fun n r_17=>cInt .i64 r_17 fun n_11 r_18=>cSl 5 r_18 fun b_14 r_19=>onNil r_19 (cInt .i64 r fun n_12 r=>onNil r (sel (!n_12==0) (some (Zp [t4,t0,Zz .i64 n_12],[])) (Zv (chk (decide (Zx rtk≤140737488355328)) (some (Zf rtk,[]))) (kB fun b_15=>Zv (chk (decide (Zx rau≤140737488355328)) (some (Zf rau,[]))) (kB fun b_16=>some (Zp [Yw [Zy b,Zy b_1,Zy b_2,Xw 5 b_3,Zz .i64 n,Zz .i64 n_11,Xw 5 b_14,Zz .i64 n_2],Yw [Zy b_6,Zy b_7,Zy b_8,Zz .u64 n_5,Zz .i64 n_4,Zz .i64 n_8,Zz .i64 n_10,Zz .i64 n_9,Zz .i64 n_7,Zz .i64 n_6,Zf b_15,Zf b_16],Zz .i64 0],[]))))))))))))))))):Option (AV×Blocks))) (by kernel_rfl) ?_
  delta kT kA kB kI
  try dsimp only [cStr,cBs,cBool,cU8,cInt,cSl,l63]
  simp only [Yu,decide_eq_true_eq] at hpre
  obtain ⟨⟨⟨⟨⟨⟨⟨⟨l1,l2⟩,l3⟩,ka⟩,kl⟩,ma⟩,ml⟩,t1⟩,u1⟩:=hpre
  obtain ⟨ks,rfl,hks⟩:=Ju ka
  obtain ⟨ms,rfl,hms⟩:=Ug ma
  have hkT:=Qg hks
  have hmT:=Qb hms
  simp only [Yq] at kl ml
  have t2:rtk.length≤140737488355328:=by omega
  have u2:rau.length≤140737488355328:=by omega
  obtain ⟨S,hS⟩:∃ S,Wh ⟨m1,m2,m3⟩ ks ⟨sz,fl,ms⟩ sk=S:=⟨_,rfl⟩
  obtain ⟨R,hR⟩:∃ R,Xg rli rmu rkv rrl rtk rau=R:=⟨_,rfl⟩
  have hb:=(Kerb.openReq_bd S R).1
  have e1:=hb.1
  have e2:=hb.2.1
  have e3:=hb.2.2
  simp only [Qw,Vg,Yq,hkT,hmT,kl,ml,l1,l2,l3,t1,u1,t2,u2,decide_true,Xz,hS,hR,e1,e2,e3,↓sInt,↓sU8,↓sBool,↓sStr,↓sBs,↓sSl,↓sAgg,↓sTup,↓sCons,↓sNil,↓sNilB,↓sChk,↓sChkBind,↓sSome]
  unfold Kerb.verify
  by_cases g1:S.err=0
  case neg=>rw [sel_pos (by simpa using g1),if_pos g1,← hS];rfl
  rw [sel_neg (by simpa using g1),if_neg (by simpa using g1)]
  by_cases g2:(Wz S R).err=0
  case neg=>rw [sel_pos (by simpa using g2),if_pos g2,← hS];rfl
  rw [sel_neg (by simpa using g2),if_neg (by simpa using g2)]
  have h0:sk=S.skew:=by rw [← hS]
  have h1:Xd sz fl ms=S.replay:=by rw [← hS]
  rw [h0,h1]
  by_cases g3:Kerb.judge (Wz S R).ticket (Wz S R).auth src now S.skew=0
  case neg=>rw [sel_pos (by simpa using g3),if_pos g3,← hS];rfl
  rw [sel_neg (by simpa using g3),if_neg (by simpa using g3)]
  rw [show Kerb.Mark.mk ⟨(Wz S R).auth.client.name,(Wz S R).auth.client.inst,(Wz S R).auth.client.realm⟩ (Wz S R).auth.time (Wz S R).auth.tick=Kerb.markOf (Wz S R).auth from rfl]
  by_cases g4:(Kerb.addMark S.replay (Kerb.markOf (Wz S R).auth) now S.skew).err=0
  case neg=>rw [sel_pos (by simpa using g4),if_pos g4,← hS];rfl
  rw [sel_neg (by simpa using g4),if_neg (by simpa using g4),← hS,← hR]
 ·cases h
set_option maxHeartbeats 4000000 in
theorem w8:Walked Tryz.prog G 8 14 sp8:=by
 refine ⟨Tryz.f8,Tryz.func8,by decide +kernel,rfl,fun xs bl r h=> ?_⟩
 unfold sp8 at h
 split at h
 ·rename_i rl els xls m1 m2 m3 kls sz fl mls sk now ad li se msg
  obtain ⟨hpre,h2⟩:=chk_inv h;cases h2
  refine Eq.trans (b:=(let t1:List UInt8:=[(107:UInt8),(114:UInt8),(98:UInt8),(116:UInt8),(103:UInt8),(116:UInt8)];let t2:List AV:=[Yw [Zz .i64 (Jx Zm),Zy (Zh (Yg Zm)),Zy (Yz (Yg Zm)),Zy (Zb (Yg Zm)),Zy (Zh (Yb Zm)),Zy (Yz (Yb Zm)),Zy (Zb (Yb Zm)),Zy (Zh (Yd Zm)),Zy (Yz (Yd Zm)),Zy (Zb (Yd Zm)),Zz .u64 (Uh Zm),Zz .u64 (Qu Zm),Zz .u64 (Qz Zm),Zf (Jz Zm),Zz .i64 (Qq Zm),Zz .i64 (Jy Zm)],Yx false];let t3:List AV:=[Yw [Zz .i64 0,Zy [],Zy [],Zy [],Zy [],Zy [],Zy [],Zy [],Zy [],Zy [],Zz .u64 0,Zz .u64 0,Zz .u64 0,Zf [],Zz .i64 0,Zz .i64 0],Yx false];let t4:Bool:=Vz els Kerb.isEntry&&decide (Zx els≤1000000)&&Vz xls Kerb.isCross&&decide (Zx xls≤1000000)&&l63 rl;let t0:List AV:=Zf []::t3;Zv (chk (decide (Zx kls≤1000000)) (some (AV.ownL kls,[]))) fun (r:AV×Blocks)=>onNilB (Wy r) (AV.onOwnL (Wd r) fun l=>Zv (chk (decide (Zx mls≤1000000)) (some (AV.ownL mls,[]))) fun (r:AV×Blocks)=>onNilB (Wy r) (AV.onOwnL (Wd r) fun l_1=>let t6:AV:=Yw [Zy m1,Zy m2,Zy m3,Xw 5 l,Zz .i64 sz,Zz .i64 fl,Xw 5 l_1,Zz .i64 sk];let t5:Option (AV×Blocks):=some (Zp (t6::t0),[]);sel (decide (now<0)) t5 (sel (decide (now>4294967295)) t5 (sel (decide (ad<0)) t5 (sel (decide (ad>4294967295)) t5 (Zv (chk (decide (Zx msg≤140737488355328)) (some (Zp [Yw [Yx (Kerb.ApRequest.little (Wp (Zq (Xy msg)))),Yx (Kerb.ApRequest.mutual_ (Wp (Zq (Xy msg)))),Zz .i64 (Kerb.ApRequest.kvno (Wp (Zq (Xy msg)))),Zy (Kerb.ApRequest.realm (Wp (Zq (Xy msg)))),Zf (Kerb.ApRequest.ticket (Wp (Zq (Xy msg)))),Zf (Kerb.ApRequest.auth (Wp (Zq (Xy msg)))),Zz .i64 (Kerb.TgsRequest.time (Zq (Xy msg))),Zz .i64 (Kerb.TgsRequest.life (Zq (Xy msg))),Zy (Kerb.TgsRequest.service (Zq (Xy msg))),Zy (Kerb.TgsRequest.inst (Zq (Xy msg)))],Zz .i64 (Vn (Xy msg))],[]))) (kT fun vs=>onCons vs fun x r=>Xv x fun cs=>cBool cs fun b r_1=>cBool r_1 fun b_1 r_2=>cInt .i64 r_2 fun n r_3=>cStr r_3 fun b_2 r_4=>let t7:Bool:=l63 rl&&l63 b_2;cBs r_4 fun b_3 r_5=>cBs r_5 fun b_4 r_6=>cInt .i64 r_6 fun n_1 r_7=>cInt .i64 r_7 fun n_2 r_8=>cStr r_8 fun b_5 r_9=>cStr r_9 fun b_6 r_10=>let t8:Kerb.TgsRequest:=Uq (Xg b b_1 n b_2 b_3 b_4) n_1 n_2 b_5 b_6;onNil r_10 (cInt .i64 r fun n_3 r=>onNil r (sel (!n_3==0) t5 (Zv (chk t4 (some (Xw 5 (Xu Vq (Kerb.grantKeys (Kerb.Db.mk rl (Xu Kerb.toEntry els)) (Xu Kerb.toCross xls))),[]))) fun (r:AV×Blocks)=>onNilB (Wy r) (AV.onSl 5 (Wd r) fun b_7=>let t12:Kerb.Verified:=Kerb.verify (Wh (Zw t1 rl b_2) (Xu Um b_7) (Xd sz fl (Xu Vh l_1)) sk) (Xg b b_1 n b_2 b_3 b_4) ad now;let t13:Kerb.Prin:=Ux (Wh (Zw t1 rl b_2) (Xu Um b_7) (Xd sz fl (Xu Vh l_1)) sk) (Xg b b_1 n b_2 b_3 b_4);let t14:Bool:=t7&&Vz b_7 Kerb.isSKey&&decide (Zx b_7≤1000000)&&Vz l_1 Qm&&decide (Zx l_1≤1000000)&&decide (Zx b_3≤1000000)&&decide (Zx b_4≤1000000);let t9:Option (AV×Blocks):=chk t14 (some (Yw [Zy (Zh t13),Zy (Yz t13),Zy (Zb t13)],[]));let t10:Kerb.Accepted:=Kerb.Verified.a t12;let t11:Kerb.Server:=Kerb.Verified.s t12;Zv (chk t14 (some (Zp [Yw [Zy (Zh (Kerb.Server.me t11)),Zy (Yz (Kerb.Server.me t11)),Zy (Zb (Kerb.Server.me t11)),Xw 5 (Xu Vq (Kerb.Server.keys t11)),Zz .i64 (Kerb.RCache.size (Kerb.Server.replay t11)),Zz .i64 (Kerb.RCache.floor (Kerb.Server.replay t11)),Xw 5 (Xu Xf (Kerb.RCache.marks (Kerb.Server.replay t11))),Zz .i64 (Kerb.Server.skew t11)],Yw [Zy (Zh (Jv t10)),Zy (Yz (Jv t10)),Zy (Zb (Jv t10)),Zz .u64 (Kerb.Accepted.session t10),Zz .i64 (Kerb.Accepted.address t10),Zz .i64 (Kerb.Accepted.checksum t10),Zz .i64 (Kerb.Accepted.time t10),Zz .i64 (Kerb.Accepted.tick t10),Zz .i64 (Kerb.Accepted.issued t10),Zz .i64 (Kerb.Accepted.life t10),Zf (Kerb.Accepted.ticket t10),Zf (Kerb.Accepted.auth t10)],Zz .i64 (Kerb.Verified.err t12)],[]))) (kT fun vs=>onCons vs fun x r=>Xv x fun cs=>cStr cs fun b r_11=>cStr r_11 fun b r_12=>cStr r_12 fun b r_13=>cSl 5 r_13 fun b r_14=>cInt .i64 r_14 fun n r_15=>cInt .i64 r_15 fun n_4 r_16=>cSl 5 r_16 fun b r_17=>cInt .i64 r_17 fun n_5 r_18=>onNil r_18 (onCons r fun x r=>Xv x fun cs=>cStr cs fun b_8 r_19=>cStr r_19 fun b_9 r_20=>cStr r_20 fun b_10 r_21=>cInt .u64 r_21 fun n_6 r_22=>cInt .i64 r_22 fun n_7 r_23=>cInt .i64 r_23 fun n_8 r_24=>cInt .i64 r_24 fun n_9 r_25=>cInt .i64 r_25 fun n_10 r_26=>cInt .i64 r_26 fun n_11 r_27=>cInt .i64 r_27 fun n_12 r_28=>cBs r_28 fun b_11 r_29=>cBs r_29 fun b_12 r_30=>let t16:Kerb.AuthOut:=Kerb.tgsServe (Kerb.Db.mk rl (Xu Kerb.toEntry els)) (Xu Kerb.toCross xls) now li se t8 (Kerb.Accepted.mk (Zw b_8 b_9 b_10) n_6 n_7 n_8 n_9 n_10 n_11 n_12 b_11 b_12);let t15:Kerb.Issue:=Kerb.AuthOut.issue t16;onNil r_30 (cInt .i64 r fun n_13 r=>let t17:Option (AV×Blocks):=Zv t9 (kA fun cs=>cStr cs fun b r=>cStr r fun b_13 r=>cStr r fun b_14 r=>onNil r (Zv (chk (l63 b&&l63 b_13&&l63 b_14) (some (Zp (Zf (Uy (Zw b b_13 b_14) n_13 now li)::t2),[]))) (kT fun vs=>cBs vs fun b r=>onCons r fun x r=>Xv x fun cs=>cInt .i64 cs fun n r_31=>cStr r_31 fun b_15 r_32=>cStr r_32 fun b_16 r_33=>cStr r_33 fun b_17 r_34=>cStr r_34 fun b_18 r_35=>cStr r_35 fun b_19 r_36=>cStr r_36 fun b_20 r_37=>cStr r_37 fun b_21 r_38=>cStr r_38 fun b_22 r_39=>cStr r_39 fun b_23 r_40=>cInt .u64 r_40 fun n r_41=>cInt .u64 r_41 fun n r_42=>cInt .u64 r_42 fun n r_43=>cBs r_43 fun b_24 r_44=>cInt .i64 r_44 fun n r_45=>cInt .i64 r_45 fun n r_46=>onNil r_46 (cBool r fun b_25 r=>onNil r (some (Zp (t6::Zf b::t3),[]))))));onNil r (sel (n_13==0) (Zv (chk (t4&&l63 b_5&&l63 b_6&&l63 b_8&&l63 b_9&&l63 b_10&&Uf se&&Uf n_6) (some (Zp [Zf (Kerb.AuthOut.answer t16),Yw [Zz .i64 (Jx t15),Zy (Zh (Yg t15)),Zy (Yz (Yg t15)),Zy (Zb (Yg t15)),Zy (Zh (Yb t15)),Zy (Yz (Yb t15)),Zy (Zb (Yb t15)),Zy (Zh (Yd t15)),Zy (Yz (Yd t15)),Zy (Zb (Yd t15)),Zz .u64 (Uh t15),Zz .u64 (Qu t15),Zz .u64 (Qz t15),Zf (Jz t15),Zz .i64 (Qq t15),Zz .i64 (Jy t15)],Yx (Kerb.AuthOut.ok t16)],[]))) (kT fun vs=>cBs vs fun b_13 r=>onCons r fun x r=>Xv x fun cs=>cInt .i64 cs fun n_14 r_31=>cStr r_31 fun b_14 r_32=>cStr r_32 fun b_15 r_33=>cStr r_33 fun b_16 r_34=>cStr r_34 fun b_17 r_35=>cStr r_35 fun b_18 r_36=>cStr r_36 fun b_19 r_37=>cStr r_37 fun b_20 r_38=>cStr r_38 fun b_21 r_39=>cStr r_39 fun b_22 r_40=>cInt .u64 r_40 fun n_15 r_41=>cInt .u64 r_41 fun n_16 r_42=>cInt .u64 r_42 fun n_17 r_43=>cBs r_43 fun b_23 r_44=>cInt .i64 r_44 fun n_18 r_45=>cInt .i64 r_45 fun n_19 r_46=>onNil r_46 (cBool r fun b_24 r=>onNil r (some (Zp [Yw [Zy m1,Zy m2,Zy m3,Xw 5 l,Zz .i64 n,Zz .i64 n_4,Xw 5 b,Zz .i64 sk],Zf b_13,Yw [Zz .i64 n_14,Zy b_14,Zy b_15,Zy b_16,Zy b_17,Zy b_18,Zy b_19,Zy b_20,Zy b_21,Zy b_22,Zz .u64 n_15,Zz .u64 n_16,Zz .u64 n_17,Zf b_23,Zz .i64 n_18,Zz .i64 n_19],Yx b_24],[]))))) (sel (n_13==108) (sel (n_13==108) t5 t17) (sel (n_13==35) (sel (n_13==35) t5 t17) (sel (n_13==7) (sel (n_13==7) t5 t17) (sel (n_13==31) t5 t17))))))))))))))))))):Option (AV×Blocks))) (by kernel_rfl) ?_
  delta kT kA
  try dsimp only [cStr,cBs,cBool,cU8,cInt,cSl,l63]
  simp only [Yu,decide_eq_true_eq] at hpre
  obtain ⟨⟨⟨⟨⟨⟨⟨⟨⟨⟨⟨⟨⟨⟨ea,el⟩,xa⟩,xl⟩,lr⟩,l1⟩,l2⟩,l3⟩,ka⟩,kl⟩,ma⟩,ml⟩,hse⟩,lm⟩,xl9⟩:=hpre
  have hse2:=Kerb.isU64_iff.1 hse
  obtain ⟨es,rfl,hok⟩:=Kerb.ents_of ea
  obtain ⟨cs,rfl,hcs⟩:=Kerb.cross_okof xa
  obtain ⟨ks,rfl,hks⟩:=Ju ka
  obtain ⟨ms,rfl,hms⟩:=Ug ma
  simp only [Yq] at el xl kl ml xl9
  have lm2:msg.length≤140737488355328:=by omega
  obtain ⟨D,hD⟩:∃ D,Kerb.Db.mk rl es=D:=⟨_,rfl⟩
  have hDr:D.realm=rl:=by rw [← hD]
  have hDe:D.entries=es:=by rw [← hD]
  obtain ⟨S,hS⟩:∃ S,Wh ⟨m1,m2,m3⟩ ks ⟨sz,fl,ms⟩ sk=S:=⟨_,rfl⟩
  obtain ⟨⟨r1,r2,r3⟩,r4,r5⟩:=Kerb.decodeTgs_bd msg
  obtain ⟨R,hR⟩:∃ R,(Xy msg).val=R:=⟨_,rfl⟩
  rw [hR] at r1 r2 r3 r4 r5
  have r4b:R.ap.ticket.length≤1000000:=by omega
  have r5b:R.ap.auth.length≤1000000:=by omega
  have gk:=Qg (Kerb.grantKeys_ok (d:=D) (cs:=cs) (by rw [Kerb.Db.ok,hDe];exact hok) (by rw [hDr];exact lr) hcs)
  have gl:(Kerb.grantKeys D cs).length≤1000000:=by have:=Kerb.grantKeys_len D cs;omega
  obtain ⟨VS,hVS⟩:∃ VS,Wh ⟨[107,114,98,116,103,116],rl,R.ap.realm⟩ (Kerb.grantKeys D cs) ⟨sz,fl,ms⟩ sk=VS:=⟨_,rfl⟩
  have hVS2:Kerb.tgsServer D cs S R=VS:=by rw [← hVS,← hS,← hDr];rfl
  have hRa:Xg R.ap.little R.ap.mutual_ R.ap.kvno R.ap.realm R.ap.ticket R.ap.auth=R.ap:=rfl
  have hRe:Uq R.ap R.time R.life R.service R.inst=R:=rfl
  obtain ⟨V,hV⟩:∃ V,Kerb.verify VS R.ap ad now=V:=⟨_,rfl⟩
  have hAe:Kerb.Accepted.mk ⟨V.a.client.name,V.a.client.inst,V.a.client.realm⟩ V.a.session V.a.address V.a.checksum V.a.time V.a.tick V.a.issued V.a.life V.a.ticket V.a.auth=V.a:=rfl
  have va:=Kerb.verify_bdA VS R.ap ad now
  have vs:=Kerb.isU64_iff.2 (Kerb.verify_bd VS R.ap ad now)
  rw [hV] at va vs
  obtain ⟨va1,va2,va3⟩:=va
  obtain ⟨hl1,hl2,hl3⟩:=Kerb.holder_len VS R.ap
  have hHe:Zw (Ux VS R.ap).name (Ux VS R.ap).inst (Ux VS R.ap).realm=Ux VS R.ap:=rfl
  unfold Kerb.tgsAnswer
  simp (config:={maxSteps:=10000000}) only [Kerb.map_toEntry,Kerb.map_toCross,Qw,Vg,Yq,hD,hS,hR,lm2,r1,r2,r3,r4b,r5b,gk,gl,hVS,hVS2,hRa,hRe,hV,hAe,va1,va2,va3,vs,hl1,hl2,hl3,hHe,ea,el,xa,xl,lr,l1,l2,l3,ka,kl,ma,ml,hse,decide_true,Xz,Vx,Vv,↓sInt,↓sU8,↓sBool,↓sStr,↓sBs,↓sSl,↓sAgg,↓sTup,↓sCons,↓sNil,↓sNilB,↓sChk,↓sChkBind,↓sSome,↓sOwnL,↓sConsB,↓sOwnB]
  by_cases q1:now<0
  ·rw [sel_pos (by simpa using q1),if_pos (by simp [Vj];omega),← hS];rfl
  rw [sel_neg (by simpa using q1)]
  by_cases q2:now>4294967295
  ·rw [sel_pos (by simpa using q2),if_pos (by simp [Vj];omega),← hS];rfl
  rw [sel_neg (by simpa using q2)]
  by_cases q3:ad<0
  ·rw [sel_pos (by simpa using q3),if_pos (by simp [Vj];omega),← hS];rfl
  rw [sel_neg (by simpa using q3)]
  by_cases q4:ad>4294967295
  ·rw [sel_pos (by simpa using q4),if_pos (by simp [Vj];omega),← hS];rfl
  rw [sel_neg (by simpa using q4),if_neg (by simp [Vj];omega)]
  by_cases g1:(Xy msg).err=0
  case neg=>rw [sel_pos (by simpa using g1),if_pos g1,← hS];rfl
  rw [sel_neg (by simpa using g1),if_neg (by simpa using g1)]
  unfold Kerb.tgsAsk
  rw [hVS2,hV]
  by_cases g2:V.err=0
  ·rw [sel_pos (by simpa using g2),if_neg (by simpa using g2),← hS]
  rw [sel_neg (by simpa using g2),if_pos g2]
  by_cases g3:V.err=108
  ·rw [g3];simp only [↓sTrue,BEq.rfl];rw [if_pos (show Kerb.isQuiet 108=true from rfl),← hS];rfl
  rw [sel_neg (by simpa using g3)]
  by_cases g4:V.err=35
  ·rw [g4];simp only [↓sTrue,BEq.rfl];rw [if_pos (show Kerb.isQuiet 35=true from rfl),← hS];rfl
  rw [sel_neg (by simpa using g4)]
  by_cases g5:V.err=7
  ·rw [g5];simp only [↓sTrue,BEq.rfl];rw [if_pos (show Kerb.isQuiet 7=true from rfl),← hS];rfl
  rw [sel_neg (by simpa using g5)]
  by_cases g6:V.err=31
  ·rw [g6];simp only [↓sTrue,BEq.rfl];rw [if_pos (show Kerb.isQuiet 31=true from rfl),← hS];rfl
  rw [sel_neg (by simpa using g6)]
  rw [if_neg (fun h=>by rcases Kerb.verify_err_quiet.1 h with h | h | h | h;exact g3 h;exact g4 h;exact g5 h;exact g6 h),← hS]
  rfl
 ·cases h
theorem p4  : runFn (G.env 4 15) G.rts (G.own 4) Tryz.f4 [] []=some (.bool true,[]):=by kernel_rfl
theorem w4:Walked Tryz.prog G 4 15 sp4:=by
 refine ⟨Tryz.f4,Tryz.func4,by decide +kernel,rfl,fun xs bl r h=> ?_⟩
 unfold sp4 at h
 split at h
 ·cases h;exact p4
 ·cases h
end Go.Proofs.YtmdppipjjnfanaaGreatDoor
