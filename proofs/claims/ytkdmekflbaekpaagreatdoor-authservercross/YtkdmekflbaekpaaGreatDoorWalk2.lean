/- What the functions of this seat compute. -/
import Derived.Test.YtkdmekflbaekpaaGreatDoorTab
import Derived.Test.YtkdmekflbaekpaaGreatDoorKerbPlain
import Derived.Test.YtkdmekflbaekpaaGreatDoorAbsStep
import Derived.Test.YtkdmekflbaekpaaGreatDoorKerbCli3
import Derived.Test.YtkdmekflbaekpaaGreatDoorKerbCli4
import Derived.Test.YtkdmekflbaekpaaGreatDoorKerbCli5
import Derived.Test.YtkdmekflbaekpaaGreatDoorKerbSrvL
import Derived.Test.YtkdmekflbaekpaaGreatDoorKerbKac2
import Derived.Test.YtkdmekflbaekpaaGreatDoorKerbKac4
import Derived.Test.YtkdmekflbaekpaaGreatDoorKerbSrvB
import Derived.Test.YtkdmekflbaekpaaGreatDoorKerbVerL
import Derived.Test.YtkdmekflbaekpaaGreatDoorKerbVerL
import Derived.Test.YtkdmekflbaekpaaGreatDoorKerbAuthL
open Go.Abs.AV renaming int→Zz,str→Zy,agg→Zf,bool→Zg,bs→Yz,tup→Yx,ownL→Xy,undef→Xx,onInt→Xj,sl→Xp,ownB→Xd,onAgg→Xb,u8→Wd,onOwnL→Vx,onBool→Vw
open Go.IntKind renaming i64→Zx,wrap→Zk,u64→Yj,bits→Xn
open Kerb renaming service→Zw,user→Zu,putPrin_len→Zj,simpleEnt→Zd,keyBytes_len→Zn,putN_len→Zm,u8i→Zh,putText→Yq,get→Yp,putN→Yd,long→Yg,decodeTicket→Yb,within→Xz,rdPrin→Xw,text→Xu,validInst→Xg,validName→Wy,printable→Wq,bfd→Wp,toEntry→Wb,header→Vy,room_ok→Vu,readBox→Vq,keyRead→Vj,findCross→Vk,crossStep→Vp,encodeError→Vd,keyValid→Vf,headIs→Vg,serviceEnt→Vn,putPrin→Vm,noCross→Vh,valid_len→Uw,isKind→Uv,encodeTicket→Uu,byteAt→Uq,bfd_eq→Uj,text_len→Uk
open List renaming length→Zv,getD→Yk,length_map→Wk,range_succ→Wm,map→Vv,take→Uz,drop→Uy
open Option renaming bind→Zq
open Kerb.Entry renaming av→Zp
open Int renaming toNat→Zb,toNat_natCast→Wv
open Prod renaming snd→Yy,fst→Yw
open Bool renaming not_true→Yv,and_eq_true→Yu,and_self→Xq,not_false→Wg
open Kerb.Prin renaming valid→Yf,mk→Yn,realm→Xf,name→Xm,inst→Xh
open Kerb.Cross renaming av→Ym
open Nat renaming le_trans→Yh,beq_refl→Wz,beq→Vz
open Kerb.Got renaming err→Xv,next→Wj,val→Wf
open UInt8 renaming toNat→Xk
open Kerb.Dec renaming val→Wx
open Kerb.GotB renaming err→Ww,next→Vb,val→Ux
open Go.Abs.Ex renaming exit→Wu
open Sum renaming inl→Wn,inr→Wh
open Kerb.RdP renaming p→Up
namespace Go.Proofs.YtkdmekflbaekpaaGreatDoor
open Go Go.Abs Go.Proofs
set_option linter.unusedVariables false
set_option linter.unusedSimpArgs false
set_option maxRecDepth 100000
theorem w122:Walked Tryz.prog G 122 3 sp122:=by
 refine ⟨Tryz.f122,Tryz.func122,by decide +kernel,rfl,fun xs bl r h=> ?_⟩
 unfold sp122 at h
 split at h
 ·rename_i b n k little
  obtain ⟨hpre,h2⟩:=chk_inv h;cases h2
  refine Eq.trans (b:=(Zq (loopM (fun (st:List AV)=>cBs st fun b r=>cInt .i64 r fun n r=>cInt .i64 r fun n_1 r=>cBool r fun b_1 r=>cBs r fun c r=>cInt .i64 r fun n_2 r=>cInt .i64 r fun n_3 r=>let t0:Int:=Zk .i64 (Zk .i64 (n_1-1)-n_3);let t1:UInt8:=UInt8.ofNat (Zb (Zk .u8 (Int.fdiv n (2 ^ min (Zb (Zk .i64 (8*n_3))) (Xn .i64)))));onNil r (sel (decide (n_3<n_2)) (sel (!b_1) (chk (decide (0≤Zk .i64 (8*n_3))) (chk (decide (0≤t0)&&decide (t0<(↑(Zv c):Int))&&Vz (Zv c) 4&&true) (chk (Nat.blt (Zb t0) (Zv c)&&true&&true&&true&&true) (some (Wn [Yz b,Zz .i64 n,Zz .i64 n_1,Zg b_1,Yz (List.set c (Zb t0) t1),Zz .i64 n_2,Zz .i64 (Zk .i64 (n_3+1))]))))) (chk (decide (0≤Zk .i64 (8*n_3))) (chk (decide (0≤n_3)&&decide (n_3<(↑(Zv c):Int))&&Vz (Zv c) 4&&true) (chk (Nat.blt (Zb n_3) (Zv c)&&true&&true&&true&&true) (some (Wn [Yz b,Zz .i64 n,Zz .i64 n_1,Zg b_1,Yz (List.set c (Zb n_3) t1),Zz .i64 n_2,Zz .i64 (Zk .i64 (n_3+1))])))))) (some (Wh (Wu 0,[Yz b,Zz .i64 n,Zz .i64 n_1,Zg b_1,Yz c,Zz .i64 n_2,Zz .i64 n_3]))))) [Yz b,Zz .i64 n,Zz .i64 k,Zg little,Yz [(0:UInt8),(0:UInt8),(0:UInt8),(0:UInt8)],Zz .i64 k,Zz .i64 0]) fun (r:Ex×List AV)=>cBs (Yy r) fun b r_1=>cInt .i64 r_1 fun n r_2=>cInt .i64 r_2 fun n r_3=>cBool r_3 fun b_1 r_4=>cBs r_4 fun c r_5=>let t2:Nat:=Zv [Yz b,Yz (Uy (Zb (↑(0:Nat):Int)) (Uz (Zb n) c))];let t3:Nat:=Zv (List.append b (List.append (Uy (Zb (↑(0:Nat):Int)) (Uz (Zb n) c)) []));cInt .i64 r_5 fun n_1 r_6=>cInt .i64 r_6 fun n_2 r_7=>onNil r_7 (exK r.1 none fun (j:Nat)=>sel (Vz j 0) (chk (decide ((↑(0:Nat):Int)≤n)&&decide (n≤(↑(Zv c):Int))&&Vz (Zv c) 4) (Zq (chk (decide (t3≤140737488355328)&&decide (t2≤1000)) (some (Xd (List.append b (List.append (Uy (Zb (↑(0:Nat):Int)) (Uz (Zb n) c)) [])),[]))) (kO fun l=>some (Xd l,[])))) none):Option (AV×Blocks))) (by kernel_rfl) ?_
  delta kO
  try dsimp only [cStr,cBs,cBool,cU8,cInt,cSl,l63]
  simp only [Yu,decide_eq_true_eq] at hpre
  obtain ⟨hk,hb⟩:=hpre
  rcases hk with rfl | rfl | rfl<;>cases little
  ·refine loop_unroll 2 (Wu 0,[Yz b,Zz Zx n,Zz Zx 1,Zg false,Yz [Wp n 0,(0:UInt8),(0:UInt8),(0:UInt8)],Zz Zx 1,Zz Zx 1]) (by kernel_rfl) ?_
   simp only [A0]
   rw [sel_pos (Wz _),chk_of (by simp),chk_of (by simp;omega)]
   simp [Uj,Yd,Uq,Wm]
  ·refine loop_unroll 2 (Wu 0,[Yz b,Zz Zx n,Zz Zx 1,Zg true,Yz [Wp n 0,(0:UInt8),(0:UInt8),(0:UInt8)],Zz Zx 1,Zz Zx 1]) (by kernel_rfl) ?_
   simp only [A0]
   rw [sel_pos (Wz _),chk_of (by simp),chk_of (by simp;omega)]
   simp [Uj,Yd,Uq,Wm]
  ·refine loop_unroll 3 (Wu 0,[Yz b,Zz Zx n,Zz Zx 2,Zg false,Yz [Wp n 8,Wp n 0,(0:UInt8),(0:UInt8)],Zz Zx 2,Zz Zx 2]) (by kernel_rfl) ?_
   simp only [A0]
   rw [sel_pos (Wz _),chk_of (by simp),chk_of (by simp;omega)]
   simp [Uj,Yd,Uq,Wm]
  ·refine loop_unroll 3 (Wu 0,[Yz b,Zz Zx n,Zz Zx 2,Zg true,Yz [Wp n 0,Wp n 8,(0:UInt8),(0:UInt8)],Zz Zx 2,Zz Zx 2]) (by kernel_rfl) ?_
   simp only [A0]
   rw [sel_pos (Wz _),chk_of (by simp),chk_of (by simp;omega)]
   simp [Uj,Yd,Uq,Wm]
  ·refine loop_unroll 5 (Wu 0,[Yz b,Zz Zx n,Zz Zx 4,Zg false,Yz [Wp n 24,Wp n 16,Wp n 8,Wp n 0],Zz Zx 4,Zz Zx 4]) (by kernel_rfl) ?_
   simp only [A0]
   rw [sel_pos (Wz _),chk_of (by simp),chk_of (by simp;omega)]
   simp [Uj,Yd,Uq,Wm]
  ·refine loop_unroll 5 (Wu 0,[Yz b,Zz Zx n,Zz Zx 4,Zg true,Yz [Wp n 0,Wp n 8,Wp n 16,Wp n 24],Zz Zx 4,Zz Zx 4]) (by kernel_rfl) ?_
   simp only [A0]
   rw [sel_pos (Wz _),chk_of (by simp),chk_of (by simp;omega)]
   simp [Uj,Yd,Uq,Wm]
 ·cases h
theorem w127:Walked Tryz.prog G 127 3 sp127:=by
 refine ⟨Tryz.f127,Tryz.func127,by decide +kernel,rfl,fun xs bl r h=> ?_⟩
 unfold sp127 at h
 split at h
 ·rename_i k
  obtain ⟨hpre,h2⟩:=chk_inv h;cases h2
  refine Eq.trans (b:=(Zq (chk (decide (0≤k)&&decide (k<18446744073709551616)) (some (Zg (Vf k),[]))) fun (r:AV×Blocks)=>onNilB (Yy r) (Vw (Yw r) fun b=>sel (!b) (some (Zz .i64 0,[])) (some (Zz .i64 (Zk .i64 (Int.fdiv k (2 ^ min (Zb 56) (Xn .u64)))),[]))):Option (AV×Blocks))) (by kernel_rfl) ?_
  simp only [hpre,↓A0,A0]
  unfold Kerb.classOf
  cases hk:Vf k
  ·rfl
  simp only [Yv,Wg,sel_true,sel_false]
  simp only [Yu,decide_eq_true_eq] at hpre
  have h7:(min (Zb 56) (Xn .u64))=56:=rfl
  rw [h7,Int.fdiv_eq_ediv_of_nonneg _ (by decide),wrap_i64 (by omega) (by omega)]
  rfl
 ·cases h
theorem w5:Walked Tryz.prog G 5 4 sp5:=by
 refine ⟨Tryz.f5,Tryz.func5,by decide +kernel,rfl,fun xs bl r h=> ?_⟩
 unfold sp5 at h
 split at h
 ·rename_i lf xp bd
  cases h
  refine Eq.trans (b:=(Zq (loopM (fun (st:List AV)=>cU8 st fun b r=>cU8 r fun b_1 r=>cU8 r fun b_2 r=>cStr r fun b_3 r=>cSl 9 r fun b_4 r=>cStr r fun b_5 r=>onCons r fun x r=>Vx x fun y=>cSl 3 r fun b_6 r=>cInt .i64 r fun n r=>onNil r (sel (decide (n<(↑(Zv b_6):Int))) (chk (decide (0≤n)&&decide (n<(↑(Zv b_6):Int))&&true) (Xb (Yk b_6 (Zb n) Xx) fun cs=>cStr cs fun b_7 r=>cStr r fun b_8 r=>cStr r fun b_9 r=>onNil r (chk (decide (0≤n)&&decide (n<(↑(Zv b_6):Int))&&true) (Xb (Yk b_6 (Zb n) Xx) fun cs=>cStr cs fun b_10 r=>cStr r fun b_11 r=>cStr r fun b_12 r=>onNil r (Zq (chk (decide (0≤n)&&decide (n≤1000)) (some (Zz .u64 (Yg n),[]))) (kI .u64 fun n_1=>Zq (sel (Int.tmod (Zk .i64 (↑(Xk b_2):Int)) 16==n) (some [Wd b,Wd b_1,Wd b_2,Zy b_3,Xp 9 b_4,Zy b_5,Xy y,Xp 3 b_6,Zz .i64 n,Zy b_7,Zy b_11,Zz .u64 n_1,Zz .i64 (Zk .i64 (3+n)),Zz .i64 0,Zz .i64 (Zk .i64 (↑(Xk b):Int)),Zz .i64 (Zk .i64 (1+Int.tmod (Zk .i64 (Int.tdiv (Zk .i64 (↑(Xk b_2):Int)) 16)) 3)),Zz .i64 0,Zz .i64 0]) (some [Wd b,Wd b_1,Wd b_2,Zy b_3,Xp 9 b_4,Zy b_5,Xy y,Xp 3 b_6,Zz .i64 n,Zy b_7,Zy b_11,Zz .u64 n_1,Zz .i64 (Zk .i64 (3+n)),Zz .i64 0,Zz .i64 (Zk .i64 (↑(Xk b):Int)),Zz .i64 0,Zz .i64 0,Zz .i64 0])) fun l=>cU8 l fun b r=>cU8 r fun b_13 r=>cU8 r fun b_14 r=>cStr r fun b_15 r=>cSl 9 r fun b_16 r=>cStr r fun b_17 r=>onCons r fun x r=>Vx x fun y=>cSl 3 r fun b_18 r=>cInt .i64 r fun n r=>cStr r fun b_19 r=>cStr r fun b_20 r=>cInt .u64 r fun n_2 r=>cInt .i64 r fun n_3 r=>cInt .i64 r fun n_4 r=>cInt .i64 r fun n_5 r=>cInt .i64 r fun n_6 r=>cInt .i64 r fun n_7 r=>cInt .i64 r fun n_8 r=>let t0:List AV:=[Zz .i64 n_5,Zz .i64 n_6,Zz .i64 n_7,Zz .i64 n_8];onNil r (Zq (sel (Int.tmod (Zk .i64 (↑(Xk b_14):Int)) 16==Zk .i64 (8+n)) (some (Wd b::Wd b_13::Wd b_14::Zy b_15::Xp 9 b_16::Zy b_17::Xy y::Xp 3 b_18::Zz .i64 n::Zy b_19::Zy b_20::Zz .u64 n_2::Zz .i64 n_3::Zz .i64 (Zk .i64 (1000+Zk .i64 (Zk .i64 (↑(Xk b_13):Int)*100)))::t0)) (some (Wd b::Wd b_13::Wd b_14::Zy b_15::Xp 9 b_16::Zy b_17::Xy y::Xp 3 b_18::Zz .i64 n::Zy b_19::Zy b_20::Zz .u64 n_2::Zz .i64 n_3::Zz .i64 n_4::t0))) fun l=>cU8 l fun b r=>cU8 r fun b_21 r=>cU8 r fun b_22 r=>cStr r fun b_23 r=>cSl 9 r fun b_24 r=>cStr r fun b_25 r=>onCons r fun x r=>Vx x fun y=>cSl 3 r fun b_26 r=>cInt .i64 r fun n r=>cStr r fun b_27 r=>cStr r fun b_28 r=>cInt .u64 r fun n_9 r=>cInt .i64 r fun n_10 r=>cInt .i64 r fun n_11 r=>cInt .i64 r fun n_12 r=>cInt .i64 r fun n_13 r=>cInt .i64 r fun n_14 r=>cInt .i64 r fun n_15 r=>let t1:List AV:=[Zf [Zy b_27,Zy b_28,Zz .u64 n_9,Zz .i64 n_10,Zz .i64 n_11,Zz .i64 n_12,Zz .i64 n_13,Zz .i64 n_14,Zz .i64 n_15]];onNil r (chk (room (Zv y+Zv t1) (nat_lit 88)) (some (Wn [Wd b,Wd b_21,Wd b_22,Zy b_23,Xp 9 b_24,Zy b_25,Xy (y++t1),Xp 3 b_26,Zz .i64 (Zk .i64 (n+1))])))))))))) (some (Wh (Wu 0,[Wd b,Wd b_1,Wd b_2,Zy b_3,Xp 9 b_4,Zy b_5,Xy y,Xp 3 b_6,Zz .i64 n]))))) [Wd lf,Wd xp,Wd bd,Zy [],Xp 9 [],Zy [(65:UInt8),(84:UInt8),(72:UInt8)],Xy [],Xp 3 [Zf [Zy (Xm (Zu 0)),Zy (Xh (Zu 0)),Zy (Xf (Zu 0))],Zf [Zy (Xm (Zu 1)),Zy (Xh (Zu 1)),Zy (Xf (Zu 1))],Zf [Zy (Xm (Zu 2)),Zy (Xh (Zu 2)),Zy (Xf (Zu 2))],Zf [Zy (Xm (Zw 2)),Zy (Xh (Zw 2)),Zy (Xf (Zw 2))],Zf [Zy (Xm (Zw 0)),Zy (Xh (Zw 0)),Zy (Xf (Zw 0))],Zf [Zy (Xm (Zw 1)),Zy (Xh (Zw 1)),Zy (Xf (Zw 1))]],Zz .i64 0]) fun (r:Ex×List AV)=>cU8 (Yy r) fun b r_1=>cU8 r_1 fun b r_2=>cU8 r_2 fun b r_3=>cStr r_3 fun b r_4=>cSl 9 r_4 fun b_1 r_5=>cStr r_5 fun b_2 r_6=>onCons r_6 fun x r_7=>Vx x fun y=>cSl 3 r_7 fun b_3 r_8=>cInt .i64 r_8 fun n r_9=>onNil r_9 (exK r.1 (some (Zf [Zy b,Xp 9 b_1],[])) fun (j:Nat)=>sel (Vz j 0) (some (Zf [Zy b_2,Xp 9 y],[])) none):Option (AV×Blocks))) (by kernel_rfl) ?_
  delta kI
  try dsimp only [cStr,cBs,cBool,cU8,cInt,cSl,l63]
  have b0:=Kerb.u8i_bd lf
  have b1:=Kerb.u8i_bd xp
  have b2:=Kerb.u8i_bd bd
  have e0:=Kerb.wrap_u8i
  have e1:Int.tmod (Zh bd) 16=Zh bd % 16:=Int.tmod_eq_emod_of_nonneg b2.1
  have e2:Zk .i64 (1000+Zk .i64 (Zh xp*100))=1000+Zh xp*100:=by rw [wrap_i64 (n:=Zh xp*100) (by omega) (by omega),wrap_i64 (by omega) (by omega)]
  have e3:Zk .i64 (1+Int.tmod (Zk .i64 (Int.tdiv (Zh bd) 16)) 3)=1+Zh bd / 16 % 3:=by
   rw [Int.tdiv_eq_ediv_of_nonneg b2.1,wrap_i64 (n:=Zh bd / 16) (by omega) (by omega),Int.tmod_eq_emod_of_nonneg (by omega),wrap_i64 (by omega) (by omega)]
  refine loop_rounds (fun i:Nat=>[Wd lf,Wd xp,Wd bd,Zy [],Xp 9 [],Zy [65,84,72],Xy (((Kerb.simpleDb lf xp bd).entries.take i).map Zp),Xp 3 [Zf [Zy (Zu 0).name,Zy (Zu 0).inst,Zy (Zu 0).realm],Zf [Zy (Zu 1).name,Zy (Zu 1).inst,Zy (Zu 1).realm],Zf [Zy (Zu 2).name,Zy (Zu 2).inst,Zy (Zu 2).realm],Zf [Zy (Zw 2).name,Zy (Zw 2).inst,Zy (Zw 2).realm],Zf [Zy (Zw 0).name,Zy (Zw 0).inst,Zy (Zw 0).realm],Zf [Zy (Zw 1).name,Zy (Zw 1).inst,Zy (Zw 1).realm]],Zz Zx (i:Int)]) (fun i=>i≤6) (fun i=>6-i)
   (fun r=>r=(Wu 0,[Wd lf,Wd xp,Wd bd,Zy [],Xp 9 [],Zy [65,84,72],Xy ((Kerb.simpleDb lf xp bd).entries.map Zp),Xp 3 [Zf [Zy (Zu 0).name,Zy (Zu 0).inst,Zy (Zu 0).realm],Zf [Zy (Zu 1).name,Zy (Zu 1).inst,Zy (Zu 1).realm],Zf [Zy (Zu 2).name,Zy (Zu 2).inst,Zy (Zu 2).realm],Zf [Zy (Zw 2).name,Zy (Zw 2).inst,Zy (Zw 2).realm],Zf [Zy (Zw 0).name,Zy (Zw 0).inst,Zy (Zw 0).realm],Zf [Zy (Zw 1).name,Zy (Zw 1).inst,Zy (Zw 1).realm]],Zz Zx 6])) 0 (by decide) rfl ?_ ?_
  ·intro i hi
   have hc:i=0∨i=1∨i=2∨i=3∨i=4∨i=5∨i=6:=by omega
   rcases hc with rfl | rfl | rfl | rfl | rfl | rfl | rfl
   ·have g:Yk [Zf [Zy (Zu 0).name,Zy (Zu 0).inst,Zy (Zu 0).realm],Zf [Zy (Zu 1).name,Zy (Zu 1).inst,Zy (Zu 1).realm],Zf [Zy (Zu 2).name,Zy (Zu 2).inst,Zy (Zu 2).realm],Zf [Zy (Zw 2).name,Zy (Zw 2).inst,Zy (Zw 2).realm],Zf [Zy (Zw 0).name,Zy (Zw 0).inst,Zy (Zw 0).realm],Zf [Zy (Zw 1).name,Zy (Zw 1).inst,Zy (Zw 1).realm]] (Zb ((0:Nat):Int)) Xx=Zf [Zy (Zu 0).name,Zy (Zu 0).inst,Zy (Zu 0).realm]:=rfl
    have k0:decide (((0:Nat):Int)<((Zv [Zf [Zy (Zu 0).name,Zy (Zu 0).inst,Zy (Zu 0).realm],Zf [Zy (Zu 1).name,Zy (Zu 1).inst,Zy (Zu 1).realm],Zf [Zy (Zu 2).name,Zy (Zu 2).inst,Zy (Zu 2).realm],Zf [Zy (Zw 2).name,Zy (Zw 2).inst,Zy (Zw 2).realm],Zf [Zy (Zw 0).name,Zy (Zw 0).inst,Zy (Zw 0).realm],Zf [Zy (Zw 1).name,Zy (Zw 1).inst,Zy (Zw 1).realm]]:Nat):Int))=true:=rfl
    have k1:decide ((0:Int)≤((0:Nat):Int))=true:=rfl
    have k2:decide (((0:Nat):Int)≤1000)=true:=rfl
    have k3:Zk .i64 (3+((0:Nat):Int))=3+((0:Nat):Int):=rfl
    have k4:Zk .i64 (8+((0:Nat):Int))=8+((0:Nat):Int):=rfl
    simp only [g,k0,k1,k2,k3,k4,e0,e1,e2,e3,Xq,↓A0,A0]
    by_cases h1:Zh bd % 16=((0:Nat):Int)
    all_goals by_cases h2:Zh bd % 16=8+((0:Nat):Int)
    ·have hE:Zp (Zd ((0:Nat):Int) (Zu 0) lf xp bd)=Zf [Zy (Zu 0).name,Zy (Zu 0).inst,Zz Yj (Yg ((0:Nat):Int)),Zz Zx (3+((0:Nat):Int)),Zz Zx (1000+Zh xp*100),Zz Zx (Zh lf),Zz Zx (1+Zh bd / 16 % 3),Zz Zx 0,Zz Zx 0]:=by
      unfold Zp Zd
      dsimp only
      rw [if_pos h2,if_pos h1]
     rw [sel_pos (by simpa using h1),sel_pos (by simpa using h2),chk_of (by rfl),← hE]
     exact ⟨_,rfl,1,rfl,by decide,by decide⟩
    ·have hE:Zp (Zd ((0:Nat):Int) (Zu 0) lf xp bd)=Zf [Zy (Zu 0).name,Zy (Zu 0).inst,Zz Yj (Yg ((0:Nat):Int)),Zz Zx (3+((0:Nat):Int)),Zz Zx (0),Zz Zx (Zh lf),Zz Zx (1+Zh bd / 16 % 3),Zz Zx 0,Zz Zx 0]:=by
      unfold Zp Zd
      dsimp only
      rw [if_neg h2,if_pos h1]
     rw [sel_pos (by simpa using h1),sel_neg (by simpa using h2),chk_of (by rfl),← hE]
     exact ⟨_,rfl,1,rfl,by decide,by decide⟩
    ·have hE:Zp (Zd ((0:Nat):Int) (Zu 0) lf xp bd)=Zf [Zy (Zu 0).name,Zy (Zu 0).inst,Zz Yj (Yg ((0:Nat):Int)),Zz Zx (3+((0:Nat):Int)),Zz Zx (1000+Zh xp*100),Zz Zx (Zh lf),Zz Zx (0),Zz Zx 0,Zz Zx 0]:=by
      unfold Zp Zd
      dsimp only
      rw [if_pos h2,if_neg h1]
     rw [sel_neg (by simpa using h1),sel_pos (by simpa using h2),chk_of (by rfl),← hE]
     exact ⟨_,rfl,1,rfl,by decide,by decide⟩
    ·have hE:Zp (Zd ((0:Nat):Int) (Zu 0) lf xp bd)=Zf [Zy (Zu 0).name,Zy (Zu 0).inst,Zz Yj (Yg ((0:Nat):Int)),Zz Zx (3+((0:Nat):Int)),Zz Zx (0),Zz Zx (Zh lf),Zz Zx (0),Zz Zx 0,Zz Zx 0]:=by
      unfold Zp Zd
      dsimp only
      rw [if_neg h2,if_neg h1]
     rw [sel_neg (by simpa using h1),sel_neg (by simpa using h2),chk_of (by rfl),← hE]
     exact ⟨_,rfl,1,rfl,by decide,by decide⟩
   ·have g:Yk [Zf [Zy (Zu 0).name,Zy (Zu 0).inst,Zy (Zu 0).realm],Zf [Zy (Zu 1).name,Zy (Zu 1).inst,Zy (Zu 1).realm],Zf [Zy (Zu 2).name,Zy (Zu 2).inst,Zy (Zu 2).realm],Zf [Zy (Zw 2).name,Zy (Zw 2).inst,Zy (Zw 2).realm],Zf [Zy (Zw 0).name,Zy (Zw 0).inst,Zy (Zw 0).realm],Zf [Zy (Zw 1).name,Zy (Zw 1).inst,Zy (Zw 1).realm]] (Zb ((1:Nat):Int)) Xx=Zf [Zy (Zu 1).name,Zy (Zu 1).inst,Zy (Zu 1).realm]:=rfl
    have k0:decide (((1:Nat):Int)<((Zv [Zf [Zy (Zu 0).name,Zy (Zu 0).inst,Zy (Zu 0).realm],Zf [Zy (Zu 1).name,Zy (Zu 1).inst,Zy (Zu 1).realm],Zf [Zy (Zu 2).name,Zy (Zu 2).inst,Zy (Zu 2).realm],Zf [Zy (Zw 2).name,Zy (Zw 2).inst,Zy (Zw 2).realm],Zf [Zy (Zw 0).name,Zy (Zw 0).inst,Zy (Zw 0).realm],Zf [Zy (Zw 1).name,Zy (Zw 1).inst,Zy (Zw 1).realm]]:Nat):Int))=true:=rfl
    have k1:decide ((0:Int)≤((1:Nat):Int))=true:=rfl
    have k2:decide (((1:Nat):Int)≤1000)=true:=rfl
    have k3:Zk .i64 (3+((1:Nat):Int))=3+((1:Nat):Int):=rfl
    have k4:Zk .i64 (8+((1:Nat):Int))=8+((1:Nat):Int):=rfl
    simp only [g,k0,k1,k2,k3,k4,e0,e1,e2,e3,Xq,↓A0,A0]
    by_cases h1:Zh bd % 16=((1:Nat):Int)
    all_goals by_cases h2:Zh bd % 16=8+((1:Nat):Int)
    ·have hE:Zp (Zd ((1:Nat):Int) (Zu 1) lf xp bd)=Zf [Zy (Zu 1).name,Zy (Zu 1).inst,Zz Yj (Yg ((1:Nat):Int)),Zz Zx (3+((1:Nat):Int)),Zz Zx (1000+Zh xp*100),Zz Zx (Zh lf),Zz Zx (1+Zh bd / 16 % 3),Zz Zx 0,Zz Zx 0]:=by
      unfold Zp Zd
      dsimp only
      rw [if_pos h2,if_pos h1]
     rw [sel_pos (by simpa using h1),sel_pos (by simpa using h2),chk_of (by rfl),← hE]
     exact ⟨_,rfl,2,rfl,by decide,by decide⟩
    ·have hE:Zp (Zd ((1:Nat):Int) (Zu 1) lf xp bd)=Zf [Zy (Zu 1).name,Zy (Zu 1).inst,Zz Yj (Yg ((1:Nat):Int)),Zz Zx (3+((1:Nat):Int)),Zz Zx (0),Zz Zx (Zh lf),Zz Zx (1+Zh bd / 16 % 3),Zz Zx 0,Zz Zx 0]:=by
      unfold Zp Zd
      dsimp only
      rw [if_neg h2,if_pos h1]
     rw [sel_pos (by simpa using h1),sel_neg (by simpa using h2),chk_of (by rfl),← hE]
     exact ⟨_,rfl,2,rfl,by decide,by decide⟩
    ·have hE:Zp (Zd ((1:Nat):Int) (Zu 1) lf xp bd)=Zf [Zy (Zu 1).name,Zy (Zu 1).inst,Zz Yj (Yg ((1:Nat):Int)),Zz Zx (3+((1:Nat):Int)),Zz Zx (1000+Zh xp*100),Zz Zx (Zh lf),Zz Zx (0),Zz Zx 0,Zz Zx 0]:=by
      unfold Zp Zd
      dsimp only
      rw [if_pos h2,if_neg h1]
     rw [sel_neg (by simpa using h1),sel_pos (by simpa using h2),chk_of (by rfl),← hE]
     exact ⟨_,rfl,2,rfl,by decide,by decide⟩
    ·have hE:Zp (Zd ((1:Nat):Int) (Zu 1) lf xp bd)=Zf [Zy (Zu 1).name,Zy (Zu 1).inst,Zz Yj (Yg ((1:Nat):Int)),Zz Zx (3+((1:Nat):Int)),Zz Zx (0),Zz Zx (Zh lf),Zz Zx (0),Zz Zx 0,Zz Zx 0]:=by
      unfold Zp Zd
      dsimp only
      rw [if_neg h2,if_neg h1]
     rw [sel_neg (by simpa using h1),sel_neg (by simpa using h2),chk_of (by rfl),← hE]
     exact ⟨_,rfl,2,rfl,by decide,by decide⟩
   ·have g:Yk [Zf [Zy (Zu 0).name,Zy (Zu 0).inst,Zy (Zu 0).realm],Zf [Zy (Zu 1).name,Zy (Zu 1).inst,Zy (Zu 1).realm],Zf [Zy (Zu 2).name,Zy (Zu 2).inst,Zy (Zu 2).realm],Zf [Zy (Zw 2).name,Zy (Zw 2).inst,Zy (Zw 2).realm],Zf [Zy (Zw 0).name,Zy (Zw 0).inst,Zy (Zw 0).realm],Zf [Zy (Zw 1).name,Zy (Zw 1).inst,Zy (Zw 1).realm]] (Zb ((2:Nat):Int)) Xx=Zf [Zy (Zu 2).name,Zy (Zu 2).inst,Zy (Zu 2).realm]:=rfl
    have k0:decide (((2:Nat):Int)<((Zv [Zf [Zy (Zu 0).name,Zy (Zu 0).inst,Zy (Zu 0).realm],Zf [Zy (Zu 1).name,Zy (Zu 1).inst,Zy (Zu 1).realm],Zf [Zy (Zu 2).name,Zy (Zu 2).inst,Zy (Zu 2).realm],Zf [Zy (Zw 2).name,Zy (Zw 2).inst,Zy (Zw 2).realm],Zf [Zy (Zw 0).name,Zy (Zw 0).inst,Zy (Zw 0).realm],Zf [Zy (Zw 1).name,Zy (Zw 1).inst,Zy (Zw 1).realm]]:Nat):Int))=true:=rfl
    have k1:decide ((0:Int)≤((2:Nat):Int))=true:=rfl
    have k2:decide (((2:Nat):Int)≤1000)=true:=rfl
    have k3:Zk .i64 (3+((2:Nat):Int))=3+((2:Nat):Int):=rfl
    have k4:Zk .i64 (8+((2:Nat):Int))=8+((2:Nat):Int):=rfl
    simp only [g,k0,k1,k2,k3,k4,e0,e1,e2,e3,Xq,↓A0,A0]
    by_cases h1:Zh bd % 16=((2:Nat):Int)
    all_goals by_cases h2:Zh bd % 16=8+((2:Nat):Int)
    ·have hE:Zp (Zd ((2:Nat):Int) (Zu 2) lf xp bd)=Zf [Zy (Zu 2).name,Zy (Zu 2).inst,Zz Yj (Yg ((2:Nat):Int)),Zz Zx (3+((2:Nat):Int)),Zz Zx (1000+Zh xp*100),Zz Zx (Zh lf),Zz Zx (1+Zh bd / 16 % 3),Zz Zx 0,Zz Zx 0]:=by
      unfold Zp Zd
      dsimp only
      rw [if_pos h2,if_pos h1]
     rw [sel_pos (by simpa using h1),sel_pos (by simpa using h2),chk_of (by rfl),← hE]
     exact ⟨_,rfl,3,rfl,by decide,by decide⟩
    ·have hE:Zp (Zd ((2:Nat):Int) (Zu 2) lf xp bd)=Zf [Zy (Zu 2).name,Zy (Zu 2).inst,Zz Yj (Yg ((2:Nat):Int)),Zz Zx (3+((2:Nat):Int)),Zz Zx (0),Zz Zx (Zh lf),Zz Zx (1+Zh bd / 16 % 3),Zz Zx 0,Zz Zx 0]:=by
      unfold Zp Zd
      dsimp only
      rw [if_neg h2,if_pos h1]
     rw [sel_pos (by simpa using h1),sel_neg (by simpa using h2),chk_of (by rfl),← hE]
     exact ⟨_,rfl,3,rfl,by decide,by decide⟩
    ·have hE:Zp (Zd ((2:Nat):Int) (Zu 2) lf xp bd)=Zf [Zy (Zu 2).name,Zy (Zu 2).inst,Zz Yj (Yg ((2:Nat):Int)),Zz Zx (3+((2:Nat):Int)),Zz Zx (1000+Zh xp*100),Zz Zx (Zh lf),Zz Zx (0),Zz Zx 0,Zz Zx 0]:=by
      unfold Zp Zd
      dsimp only
      rw [if_pos h2,if_neg h1]
     rw [sel_neg (by simpa using h1),sel_pos (by simpa using h2),chk_of (by rfl),← hE]
     exact ⟨_,rfl,3,rfl,by decide,by decide⟩
    ·have hE:Zp (Zd ((2:Nat):Int) (Zu 2) lf xp bd)=Zf [Zy (Zu 2).name,Zy (Zu 2).inst,Zz Yj (Yg ((2:Nat):Int)),Zz Zx (3+((2:Nat):Int)),Zz Zx (0),Zz Zx (Zh lf),Zz Zx (0),Zz Zx 0,Zz Zx 0]:=by
      unfold Zp Zd
      dsimp only
      rw [if_neg h2,if_neg h1]
     rw [sel_neg (by simpa using h1),sel_neg (by simpa using h2),chk_of (by rfl),← hE]
     exact ⟨_,rfl,3,rfl,by decide,by decide⟩
   ·have g:Yk [Zf [Zy (Zu 0).name,Zy (Zu 0).inst,Zy (Zu 0).realm],Zf [Zy (Zu 1).name,Zy (Zu 1).inst,Zy (Zu 1).realm],Zf [Zy (Zu 2).name,Zy (Zu 2).inst,Zy (Zu 2).realm],Zf [Zy (Zw 2).name,Zy (Zw 2).inst,Zy (Zw 2).realm],Zf [Zy (Zw 0).name,Zy (Zw 0).inst,Zy (Zw 0).realm],Zf [Zy (Zw 1).name,Zy (Zw 1).inst,Zy (Zw 1).realm]] (Zb ((3:Nat):Int)) Xx=Zf [Zy (Zw 2).name,Zy (Zw 2).inst,Zy (Zw 2).realm]:=rfl
    have k0:decide (((3:Nat):Int)<((Zv [Zf [Zy (Zu 0).name,Zy (Zu 0).inst,Zy (Zu 0).realm],Zf [Zy (Zu 1).name,Zy (Zu 1).inst,Zy (Zu 1).realm],Zf [Zy (Zu 2).name,Zy (Zu 2).inst,Zy (Zu 2).realm],Zf [Zy (Zw 2).name,Zy (Zw 2).inst,Zy (Zw 2).realm],Zf [Zy (Zw 0).name,Zy (Zw 0).inst,Zy (Zw 0).realm],Zf [Zy (Zw 1).name,Zy (Zw 1).inst,Zy (Zw 1).realm]]:Nat):Int))=true:=rfl
    have k1:decide ((0:Int)≤((3:Nat):Int))=true:=rfl
    have k2:decide (((3:Nat):Int)≤1000)=true:=rfl
    have k3:Zk .i64 (3+((3:Nat):Int))=3+((3:Nat):Int):=rfl
    have k4:Zk .i64 (8+((3:Nat):Int))=8+((3:Nat):Int):=rfl
    simp only [g,k0,k1,k2,k3,k4,e0,e1,e2,e3,Xq,↓A0,A0]
    by_cases h1:Zh bd % 16=((3:Nat):Int)
    all_goals by_cases h2:Zh bd % 16=8+((3:Nat):Int)
    ·have hE:Zp (Zd ((3:Nat):Int) (Zw 2) lf xp bd)=Zf [Zy (Zw 2).name,Zy (Zw 2).inst,Zz Yj (Yg ((3:Nat):Int)),Zz Zx (3+((3:Nat):Int)),Zz Zx (1000+Zh xp*100),Zz Zx (Zh lf),Zz Zx (1+Zh bd / 16 % 3),Zz Zx 0,Zz Zx 0]:=by
      unfold Zp Zd
      dsimp only
      rw [if_pos h2,if_pos h1]
     rw [sel_pos (by simpa using h1),sel_pos (by simpa using h2),chk_of (by rfl),← hE]
     exact ⟨_,rfl,4,rfl,by decide,by decide⟩
    ·have hE:Zp (Zd ((3:Nat):Int) (Zw 2) lf xp bd)=Zf [Zy (Zw 2).name,Zy (Zw 2).inst,Zz Yj (Yg ((3:Nat):Int)),Zz Zx (3+((3:Nat):Int)),Zz Zx (0),Zz Zx (Zh lf),Zz Zx (1+Zh bd / 16 % 3),Zz Zx 0,Zz Zx 0]:=by
      unfold Zp Zd
      dsimp only
      rw [if_neg h2,if_pos h1]
     rw [sel_pos (by simpa using h1),sel_neg (by simpa using h2),chk_of (by rfl),← hE]
     exact ⟨_,rfl,4,rfl,by decide,by decide⟩
    ·have hE:Zp (Zd ((3:Nat):Int) (Zw 2) lf xp bd)=Zf [Zy (Zw 2).name,Zy (Zw 2).inst,Zz Yj (Yg ((3:Nat):Int)),Zz Zx (3+((3:Nat):Int)),Zz Zx (1000+Zh xp*100),Zz Zx (Zh lf),Zz Zx (0),Zz Zx 0,Zz Zx 0]:=by
      unfold Zp Zd
      dsimp only
      rw [if_pos h2,if_neg h1]
     rw [sel_neg (by simpa using h1),sel_pos (by simpa using h2),chk_of (by rfl),← hE]
     exact ⟨_,rfl,4,rfl,by decide,by decide⟩
    ·have hE:Zp (Zd ((3:Nat):Int) (Zw 2) lf xp bd)=Zf [Zy (Zw 2).name,Zy (Zw 2).inst,Zz Yj (Yg ((3:Nat):Int)),Zz Zx (3+((3:Nat):Int)),Zz Zx (0),Zz Zx (Zh lf),Zz Zx (0),Zz Zx 0,Zz Zx 0]:=by
      unfold Zp Zd
      dsimp only
      rw [if_neg h2,if_neg h1]
     rw [sel_neg (by simpa using h1),sel_neg (by simpa using h2),chk_of (by rfl),← hE]
     exact ⟨_,rfl,4,rfl,by decide,by decide⟩
   ·have g:Yk [Zf [Zy (Zu 0).name,Zy (Zu 0).inst,Zy (Zu 0).realm],Zf [Zy (Zu 1).name,Zy (Zu 1).inst,Zy (Zu 1).realm],Zf [Zy (Zu 2).name,Zy (Zu 2).inst,Zy (Zu 2).realm],Zf [Zy (Zw 2).name,Zy (Zw 2).inst,Zy (Zw 2).realm],Zf [Zy (Zw 0).name,Zy (Zw 0).inst,Zy (Zw 0).realm],Zf [Zy (Zw 1).name,Zy (Zw 1).inst,Zy (Zw 1).realm]] (Zb ((4:Nat):Int)) Xx=Zf [Zy (Zw 0).name,Zy (Zw 0).inst,Zy (Zw 0).realm]:=rfl
    have k0:decide (((4:Nat):Int)<((Zv [Zf [Zy (Zu 0).name,Zy (Zu 0).inst,Zy (Zu 0).realm],Zf [Zy (Zu 1).name,Zy (Zu 1).inst,Zy (Zu 1).realm],Zf [Zy (Zu 2).name,Zy (Zu 2).inst,Zy (Zu 2).realm],Zf [Zy (Zw 2).name,Zy (Zw 2).inst,Zy (Zw 2).realm],Zf [Zy (Zw 0).name,Zy (Zw 0).inst,Zy (Zw 0).realm],Zf [Zy (Zw 1).name,Zy (Zw 1).inst,Zy (Zw 1).realm]]:Nat):Int))=true:=rfl
    have k1:decide ((0:Int)≤((4:Nat):Int))=true:=rfl
    have k2:decide (((4:Nat):Int)≤1000)=true:=rfl
    have k3:Zk .i64 (3+((4:Nat):Int))=3+((4:Nat):Int):=rfl
    have k4:Zk .i64 (8+((4:Nat):Int))=8+((4:Nat):Int):=rfl
    simp only [g,k0,k1,k2,k3,k4,e0,e1,e2,e3,Xq,↓A0,A0]
    by_cases h1:Zh bd % 16=((4:Nat):Int)
    all_goals by_cases h2:Zh bd % 16=8+((4:Nat):Int)
    ·have hE:Zp (Zd ((4:Nat):Int) (Zw 0) lf xp bd)=Zf [Zy (Zw 0).name,Zy (Zw 0).inst,Zz Yj (Yg ((4:Nat):Int)),Zz Zx (3+((4:Nat):Int)),Zz Zx (1000+Zh xp*100),Zz Zx (Zh lf),Zz Zx (1+Zh bd / 16 % 3),Zz Zx 0,Zz Zx 0]:=by
      unfold Zp Zd
      dsimp only
      rw [if_pos h2,if_pos h1]
     rw [sel_pos (by simpa using h1),sel_pos (by simpa using h2),chk_of (by rfl),← hE]
     exact ⟨_,rfl,5,rfl,by decide,by decide⟩
    ·have hE:Zp (Zd ((4:Nat):Int) (Zw 0) lf xp bd)=Zf [Zy (Zw 0).name,Zy (Zw 0).inst,Zz Yj (Yg ((4:Nat):Int)),Zz Zx (3+((4:Nat):Int)),Zz Zx (0),Zz Zx (Zh lf),Zz Zx (1+Zh bd / 16 % 3),Zz Zx 0,Zz Zx 0]:=by
      unfold Zp Zd
      dsimp only
      rw [if_neg h2,if_pos h1]
     rw [sel_pos (by simpa using h1),sel_neg (by simpa using h2),chk_of (by rfl),← hE]
     exact ⟨_,rfl,5,rfl,by decide,by decide⟩
    ·have hE:Zp (Zd ((4:Nat):Int) (Zw 0) lf xp bd)=Zf [Zy (Zw 0).name,Zy (Zw 0).inst,Zz Yj (Yg ((4:Nat):Int)),Zz Zx (3+((4:Nat):Int)),Zz Zx (1000+Zh xp*100),Zz Zx (Zh lf),Zz Zx (0),Zz Zx 0,Zz Zx 0]:=by
      unfold Zp Zd
      dsimp only
      rw [if_pos h2,if_neg h1]
     rw [sel_neg (by simpa using h1),sel_pos (by simpa using h2),chk_of (by rfl),← hE]
     exact ⟨_,rfl,5,rfl,by decide,by decide⟩
    ·have hE:Zp (Zd ((4:Nat):Int) (Zw 0) lf xp bd)=Zf [Zy (Zw 0).name,Zy (Zw 0).inst,Zz Yj (Yg ((4:Nat):Int)),Zz Zx (3+((4:Nat):Int)),Zz Zx (0),Zz Zx (Zh lf),Zz Zx (0),Zz Zx 0,Zz Zx 0]:=by
      unfold Zp Zd
      dsimp only
      rw [if_neg h2,if_neg h1]
     rw [sel_neg (by simpa using h1),sel_neg (by simpa using h2),chk_of (by rfl),← hE]
     exact ⟨_,rfl,5,rfl,by decide,by decide⟩
   ·have g:Yk [Zf [Zy (Zu 0).name,Zy (Zu 0).inst,Zy (Zu 0).realm],Zf [Zy (Zu 1).name,Zy (Zu 1).inst,Zy (Zu 1).realm],Zf [Zy (Zu 2).name,Zy (Zu 2).inst,Zy (Zu 2).realm],Zf [Zy (Zw 2).name,Zy (Zw 2).inst,Zy (Zw 2).realm],Zf [Zy (Zw 0).name,Zy (Zw 0).inst,Zy (Zw 0).realm],Zf [Zy (Zw 1).name,Zy (Zw 1).inst,Zy (Zw 1).realm]] (Zb ((5:Nat):Int)) Xx=Zf [Zy (Zw 1).name,Zy (Zw 1).inst,Zy (Zw 1).realm]:=rfl
    have k0:decide (((5:Nat):Int)<((Zv [Zf [Zy (Zu 0).name,Zy (Zu 0).inst,Zy (Zu 0).realm],Zf [Zy (Zu 1).name,Zy (Zu 1).inst,Zy (Zu 1).realm],Zf [Zy (Zu 2).name,Zy (Zu 2).inst,Zy (Zu 2).realm],Zf [Zy (Zw 2).name,Zy (Zw 2).inst,Zy (Zw 2).realm],Zf [Zy (Zw 0).name,Zy (Zw 0).inst,Zy (Zw 0).realm],Zf [Zy (Zw 1).name,Zy (Zw 1).inst,Zy (Zw 1).realm]]:Nat):Int))=true:=rfl
    have k1:decide ((0:Int)≤((5:Nat):Int))=true:=rfl
    have k2:decide (((5:Nat):Int)≤1000)=true:=rfl
    have k3:Zk .i64 (3+((5:Nat):Int))=3+((5:Nat):Int):=rfl
    have k4:Zk .i64 (8+((5:Nat):Int))=8+((5:Nat):Int):=rfl
    simp only [g,k0,k1,k2,k3,k4,e0,e1,e2,e3,Xq,↓A0,A0]
    by_cases h1:Zh bd % 16=((5:Nat):Int)
    all_goals by_cases h2:Zh bd % 16=8+((5:Nat):Int)
    ·have hE:Zp (Zd ((5:Nat):Int) (Zw 1) lf xp bd)=Zf [Zy (Zw 1).name,Zy (Zw 1).inst,Zz Yj (Yg ((5:Nat):Int)),Zz Zx (3+((5:Nat):Int)),Zz Zx (1000+Zh xp*100),Zz Zx (Zh lf),Zz Zx (1+Zh bd / 16 % 3),Zz Zx 0,Zz Zx 0]:=by
      unfold Zp Zd
      dsimp only
      rw [if_pos h2,if_pos h1]
     rw [sel_pos (by simpa using h1),sel_pos (by simpa using h2),chk_of (by rfl),← hE]
     exact ⟨_,rfl,6,rfl,by decide,by decide⟩
    ·have hE:Zp (Zd ((5:Nat):Int) (Zw 1) lf xp bd)=Zf [Zy (Zw 1).name,Zy (Zw 1).inst,Zz Yj (Yg ((5:Nat):Int)),Zz Zx (3+((5:Nat):Int)),Zz Zx (0),Zz Zx (Zh lf),Zz Zx (1+Zh bd / 16 % 3),Zz Zx 0,Zz Zx 0]:=by
      unfold Zp Zd
      dsimp only
      rw [if_neg h2,if_pos h1]
     rw [sel_pos (by simpa using h1),sel_neg (by simpa using h2),chk_of (by rfl),← hE]
     exact ⟨_,rfl,6,rfl,by decide,by decide⟩
    ·have hE:Zp (Zd ((5:Nat):Int) (Zw 1) lf xp bd)=Zf [Zy (Zw 1).name,Zy (Zw 1).inst,Zz Yj (Yg ((5:Nat):Int)),Zz Zx (3+((5:Nat):Int)),Zz Zx (1000+Zh xp*100),Zz Zx (Zh lf),Zz Zx (0),Zz Zx 0,Zz Zx 0]:=by
      unfold Zp Zd
      dsimp only
      rw [if_pos h2,if_neg h1]
     rw [sel_neg (by simpa using h1),sel_pos (by simpa using h2),chk_of (by rfl),← hE]
     exact ⟨_,rfl,6,rfl,by decide,by decide⟩
    ·have hE:Zp (Zd ((5:Nat):Int) (Zw 1) lf xp bd)=Zf [Zy (Zw 1).name,Zy (Zw 1).inst,Zz Yj (Yg ((5:Nat):Int)),Zz Zx (3+((5:Nat):Int)),Zz Zx (0),Zz Zx (Zh lf),Zz Zx (0),Zz Zx 0,Zz Zx 0]:=by
      unfold Zp Zd
      dsimp only
      rw [if_neg h2,if_neg h1]
     rw [sel_neg (by simpa using h1),sel_neg (by simpa using h2),chk_of (by rfl),← hE]
     exact ⟨_,rfl,6,rfl,by decide,by decide⟩
   ·exact ⟨_,rfl,rfl⟩
  ·rintro _ rfl
   rfl
 ·cases h
theorem w6:Walked Tryz.prog G 6 4 sp6:=by
 refine ⟨Tryz.f6,Tryz.func6,by decide +kernel,rfl,fun xs bl r h=> ?_⟩
 unfold sp6 at h
 split at h
 ·rename_i l
  obtain ⟨hpre,h2⟩:=chk_inv h;cases h2
  refine Eq.trans (b:=(Zq (chk (decide (Zv l≤100000)) (some (Xp 4 (Vv Ym (Kerb.dataCross l)),[]))) fun (r:AV×Blocks)=>onNilB (Yy r) (AV.onSl 4 (Yw r) fun b=>Zq (loopM (fun (st:List AV)=>cSl 4 st fun b r=>onCons r fun x r=>Vx x fun b_1=>cInt .i64 r fun n r=>let t0:Option (List AV ⊕ Ex×List AV):=some (Wh (Wu 0,[Xp 4 b,Xy b_1,Zz .i64 n]));onNil r (sel (decide (n<(↑(Zv b):Int))) (sel (decide ((↑(Zv b_1):Int)<20)) (chk (decide (0≤n)&&decide (n<(↑(Zv b):Int))&&true) (Xb (Yk b (Zb n) Xx) fun cs=>cStr cs fun b_2 r=>cStr r fun b_3 r=>cInt .i64 r fun n_1 r=>cInt .u64 r fun n_2 r=>onNil r (chk (decide (0≤n)&&decide (n<(↑(Zv b):Int))&&true) (Xb (Yk b (Zb n) Xx) fun cs=>cStr cs fun b_4 r=>cStr r fun b_5 r=>cInt .i64 r fun n_3 r=>cInt .u64 r fun n_4 r=>onNil r (Zq (loopM (fun (st:List AV)=>cSl 4 st fun b r=>onCons r fun x r=>Vx x fun b_6=>cInt .i64 r fun n r=>let t1:Bool:=decide (0≤n)&&decide (n<(↑(Zv b):Int))&&true;cBool r fun b_7 r=>cInt .i64 r fun n_5 r=>let t2:Bool:=decide (0≤n_5)&&decide (n_5<(↑(Zv b_6):Int))&&true;let t4:List AV:=[Zz .i64 (Zk .i64 (n_5+1))];let t3:Option (List AV ⊕ Ex×List AV):=some (Wn (Xp 4 b::Xy b_6::Zz .i64 n::Zg true::t4));onNil r (sel (decide (n_5<(↑(Zv b_6):Int))) (sel b_7 (chk t2 (chk (Nat.blt (Zb n_5) (Zv b_6)&&true) (Xb (Yk b_6 (Zb n_5) Xx) fun cs=>cStr cs fun b_8 r=>cStr r fun b_9 r=>cInt .i64 r fun n_6 r=>cInt .u64 r fun n_7 r=>onNil r (chk t1 (Xb (Yk b (Zb n) Xx) fun cs=>cStr cs fun b_10 r=>cStr r fun b_11 r=>cInt .i64 r fun n_8 r=>cInt .u64 r fun n_9 r=>onNil r (sel (!b_8==b_10) t3 (chk t2 (chk (Nat.blt (Zb n_5) (Zv b_6)&&true) (Xb (Yk b_6 (Zb n_5) Xx) fun cs=>cStr cs fun b_12 r=>cStr r fun b_13 r=>cInt .i64 r fun n_10 r=>cInt .u64 r fun n_11 r=>onNil r (chk t1 (Xb (Yk b (Zb n) Xx) fun cs=>cStr cs fun b_14 r=>cStr r fun b_15 r=>cInt .i64 r fun n_12 r=>cInt .u64 r fun n_13 r=>onNil r (sel (!b_13==b_15) t3 (chk t2 (chk (Nat.blt (Zb n_5) (Zv b_6)&&true) (Xb (Yk b_6 (Zb n_5) Xx) fun cs=>cStr cs fun b_16 r=>cStr r fun b_17 r=>cInt .i64 r fun n_14 r=>cInt .u64 r fun n_15 r=>onNil r (chk t1 (Xb (Yk b (Zb n) Xx) fun cs=>cStr cs fun b_18 r=>cStr r fun b_19 r=>cInt .i64 r fun n_16 r=>cInt .u64 r fun n_17 r=>onNil r (some (Wn (Xp 4 b::Xy b_6::Zz .i64 n::(Zg !n_14==n_16)::t4)))))))))))))))))))) (some (Wn (Xp 4 b::Xy b_6::Zz .i64 n::Zg false::t4)))) (some (Wh (Wu 2,[Xp 4 b,Xy b_6,Zz .i64 n,Zg b_7,Zz .i64 n_5]))))) [Xp 4 b,Xy b_1,Zz .i64 n,Zg !b_2==b_5,Zz .i64 0]) fun (r:Ex×List AV)=>cSl 4 (Yy r) fun b r_1=>onCons r_1 fun x r_2=>Vx x fun b_6=>cInt .i64 r_2 fun n r_3=>cBool r_3 fun b_7 r_4=>cInt .i64 r_4 fun n_5 r_5=>onNil r_5 (exK r.1 (some (Wh (Ex.ret,[Xp 4 b,Xy b_6,Zz .i64 n]))) fun (j:Nat)=>sel (Vz j 2) (sel b_7 (chk (decide (0≤n)&&decide (n<(↑(Zv b):Int))&&true) (Xb (Yk b (Zb n) Xx) fun cs=>cStr cs fun b_8 r=>cStr r fun b_9 r=>cInt .i64 r fun n_6 r=>cInt .u64 r fun n_7 r=>let t5:List AV:=[Zf [Zy b_8,Zy b_9,Zz .i64 n_6,Zz .u64 n_7]];onNil r (chk (room (Zv b_6+Zv t5) (nat_lit 48)) (some (Wn [Xp 4 b,Xy (b_6++t5),Zz .i64 (Zk .i64 (n+1))]))))) (some (Wn [Xp 4 b,Xy b_6,Zz .i64 (Zk .i64 (n+1))]))) none)))))) t0) t0)) [Xp 4 b,Xy [],Zz .i64 0]) fun (r:Ex×List AV)=>cSl 4 (Yy r) fun b r_1=>onCons r_1 fun x r_2=>Vx x fun b=>cInt .i64 r_2 fun n r_3=>onNil r_3 (exK r.1 none fun (j:Nat)=>sel (Vz j 0) (some (Xp 4 b,[])) none)):Option (AV×Blocks))) (by kernel_rfl) ?_
  try dsimp only [cStr,cBs,cBool,cU8,cInt,cSl,l63]
  have hl:=of_decide_eq_true hpre
  obtain ⟨al,has⟩:∃ a,Kerb.dataCross l=a:=⟨_,rfl⟩
  have hgood:Kerb.goodCross l=al.foldl Vp []:=by rw [← has];rfl
  have r48:∀ {m:Nat},m≤1000→Go.Abs.room m 48=true:=fun h=>by simp [Go.Abs.room];omega
  have hla:al.length≤25:=by rw [← has];exact (Kerb.dataCross_ok l).1
  simp (config:={maxSteps:=10000000}) only [hpre,has,hgood,↓A0,A0]
  refine loop_rounds (fun q:Nat×List Kerb.Cross=>[Xp 4 (al.map Ym),Xy (q.2.map Ym),Zz Zx (q.1:Int)]) (fun q=>q.1≤al.length∧q.2.length≤20∧al.foldl Vp []=(al.drop q.1).foldl Vp q.2) (fun q=>al.length-q.1)
   (fun r=>∃ i:Int,r=(Wu 0,[Xp 4 (al.map Ym),Xy ((al.foldl Vp []).map Ym),Zz Zx i])) (0,[]) ⟨Nat.zero_le _,by simp,by simp⟩ rfl ?_ ?_
  ·rintro ⟨i,out⟩ ⟨hi,ho,he⟩
   dsimp only at hi ho he
   simp (config:={maxSteps:=10000000}) only [Wk,↓sInt,↓sU8,↓sBool,↓sStr,↓sBs,↓sSl,↓sAgg,↓sTup,↓sCons,↓sNil,↓sNilB,↓sChk,↓sChkBind,↓sSome,↓sOwnL,↓sConsB,↓sOwnB]
   by_cases h1:i<al.length
   case neg =>
    rw [sel_neg (by simp;omega)]
    rw [List.drop_eq_nil_of_le (by omega)] at he
    exact ⟨_,rfl,(i:Int),by rw [he];rfl⟩
   rw [sel_pos (by simp;omega)]
   by_cases h2:out.length<20
   case neg =>
    rw [sel_neg (by simp;omega)]
    rw [Kerb.crossStep_full (out:=out) (by omega)] at he
    exact ⟨_,rfl,(i:Int),by rw [he]⟩
   rw [sel_pos (by simp;omega)]
   obtain ⟨c,hc⟩:∃ c,al.getD i Vh=c:=⟨_,rfl⟩
   have hgi:(al.map Ym).getD i Xx=c.av:=by rw [Kerb.getD_row (d:=Vh) h1,hc]
   have hki:(decide ((0:Int)≤(i:Int))&&decide ((i:Int)<(al.length:Int))&&true)=true:=by simp;omega
   rw [Kerb.drop_row (d:=Vh) h1,hc,List.foldl_cons] at he
   simp (config:={maxSteps:=10000000}) only [hki,hgi,Wv,Ym,↓sInt,↓sU8,↓sBool,↓sStr,↓sBs,↓sSl,↓sAgg,↓sTup,↓sCons,↓sNil,↓sNilB,↓sChk,↓sChkBind,↓sSome,↓sOwnL,↓sConsB,↓sOwnB]
   refine loop_ex (fun k:Nat=>[Xp 4 (al.map Ym),Xy (out.map Ym),Zz Zx (i:Int),Zg (!(c.source==c.target) && !(out.take k).any c.alike),Zz Zx (k:Int)]) (fun k=>k≤out.length) (fun k=>out.length-k)
    (fun r=>r=(Wu 2,[Xp 4 (al.map Ym),Xy (out.map Ym),Zz Zx (i:Int),Zg (!(c.source==c.target) && !out.any c.alike),Zz Zx (out.length:Int)])) 0 (Nat.zero_le _) (by simp) ?_ ?_
   ·intro k hk
    simp (config:={maxSteps:=10000000}) only [Wk,↓sInt,↓sU8,↓sBool,↓sStr,↓sBs,↓sSl,↓sAgg,↓sTup,↓sCons,↓sNil,↓sNilB,↓sChk,↓sChkBind,↓sSome,↓sOwnL,↓sConsB,↓sOwnB]
    by_cases h3:k<out.length
    case neg =>
     rw [sel_neg (by simp;omega)]
     have:k=out.length:=by omega
     subst this
     rw [List.take_length]
     exact ⟨_,rfl,rfl⟩
    rw [sel_pos (by simp;omega)]
    obtain ⟨d,hd⟩:∃ d,out.getD k Vh=d:=⟨_,rfl⟩
    have hgk:(out.map Ym).getD k Xx=d.av:=by rw [Kerb.getD_row (d:=Vh) h3,hd]
    have hkk:(decide ((0:Int)≤(k:Int))&&decide ((k:Int)<(out.length:Int))&&true)=true:=by simp;omega
    have hbk:(Nat.blt k out.length&&true)=true:=by simp [Nat.blt_eq];omega
    have htk:(out.take (k+1)).any c.alike=((out.take k).any c.alike||c.alike d):=by
     rw [Kerb.take_row (d:=Vh) h3,hd,List.any_append];simp
    rw [wrap_i64 (by omega) (by omega)]
    cases h4:(!(c.source==c.target) && !(out.take k).any c.alike)
    ·have h9:(!(c.source==c.target) && !(out.take (k+1)).any c.alike)=false:=by
      rw [htk,Bool.not_or,← Bool.and_assoc,h4];rfl
     exact ⟨_,rfl,k+1,by dsimp only;rw [h9];rfl,by omega,by dsimp only;omega⟩
    ·have h9:(!(c.source==c.target) && !(out.take (k+1)).any c.alike) = !(c.alike d):=by
      rw [htk,Bool.not_or,← Bool.and_assoc,h4,Bool.true_and]
     have he0:c.alike d=(d.source==c.source&&(d.target==c.target&&d.kvno==c.kvno)):=rfl
     simp (config:={maxSteps:=10000000}) only [↓sTrue,hkk,hki,hbk,hgk,hgi,Wv,Ym,↓sInt,↓sU8,↓sBool,↓sStr,↓sBs,↓sSl,↓sAgg,↓sTup,↓sCons,↓sNil,↓sNilB,↓sChk,↓sChkBind,↓sSome,↓sOwnL,↓sConsB,↓sOwnB]
     cases h5:(d.source==c.source)
     ·rw [h5,Bool.false_and] at he0
      exact ⟨_,rfl,k+1,by dsimp only;rw [h9,he0];rfl,by omega,by dsimp only;omega⟩
     rw [h5,Bool.true_and] at he0
     cases h6:(d.target==c.target)
     ·rw [h6,Bool.false_and] at he0
      exact ⟨_,rfl,k+1,by dsimp only;rw [h9,he0];rfl,by omega,by dsimp only;omega⟩
     rw [h6,Bool.true_and] at he0
     exact ⟨_,rfl,k+1,by dsimp only;rw [h9,he0];rfl,by omega,by dsimp only;omega⟩
   ·rintro _ rfl
    simp (config:={maxSteps:=10000000}) only [Wk,↓A0,A0]
    rw [sel_pos (Wz _),wrap_i64 (by omega) (by omega)]
    have hst:Vp out c=if (!(c.source==c.target) && !out.any c.alike)=true then out++[c] else out:=by
     unfold Vp
     by_cases q1:c.source=c.target
     ·rw [if_pos (.inr (.inl q1)),if_neg (by simp [q1])]
     by_cases q:out.any c.alike=true
     ·rw [if_pos (.inr (.inr q)),if_neg (by simp [q])]
     ·rw [if_neg (by rintro (h | h | h);omega;exact q1 h;exact q h),if_pos (by simp [q1];simpa using q)]
    cases h6:(!(c.source==c.target) && !out.any c.alike)
    case true =>
     rw [h6,if_pos rfl] at hst
     rw [hst] at he
     simp (config:={maxSteps:=10000000}) only [↓sTrue,hki,hgi,Wv,Ym,List.length_cons,List.length_nil,↓sInt,↓sU8,↓sBool,↓sStr,↓sBs,↓sSl,↓sAgg,↓sTup,↓sCons,↓sNil,↓sNilB,↓sChk,↓sChkBind,↓sSome,↓sOwnL,↓sConsB,↓sOwnB]
     rw [chk_of (r48 (by omega))]
     refine ⟨_,rfl,(i+1,out++[c]),?_,⟨by dsimp only;omega,by dsimp only;simp;omega,he⟩,by dsimp only;omega⟩
     dsimp only
     rw [List.map_append]
     rfl
    ·rw [h6,if_neg (by simp)] at hst
     rw [hst] at he
     exact ⟨_,rfl,(i+1,out),rfl,⟨by dsimp only;omega,ho,he⟩,by dsimp only;omega⟩
  ·rintro _ ⟨p,rfl⟩
   simp only [↓A0,A0]
   rw [sel_pos (Wz _)]
 ·cases h
theorem w8:Walked Tryz.prog G 8 4 sp8:=by
 refine ⟨Tryz.f8,Tryz.func8,by decide +kernel,rfl,fun xs bl r h=> ?_⟩
 unfold sp8 at h
 split at h
 ·rename_i li x y z t lf sv ins
  obtain ⟨hpre,h2⟩:=chk_inv h;cases h2
  refine Eq.trans (b:=(let t0:Option (AV×Blocks):=some (Yx [Yz [],Zz .i64 103],[]);let t1:Nat:=Zv (Vy 1 li)+Zv x+Zv y+Zv z;Zq (chk (l63 x&&l63 y&&l63 z) (some (Zg (Yf (Yn x y z)),[]))) (kL fun b=>sel (!b) t0 (Zq (chk (l63 sv) (some (Zg (Wy sv),[]))) (kL fun b=>sel (!b) t0 (Zq (chk (l63 ins) (some (Zg (Xg ins),[]))) (kL fun b=>sel (!b) t0 (sel (!Xz t 4294967295) (some (Yx [Yz [],Zz .i64 104],[])) (sel (!Xz lf 255) (some (Yx [Yz [],Zz .i64 104],[])) (Zq (chk (decide (t1≤70368744170000)) (some (Yz (Vm (Vy 1 li) (Yn x y z)),[]))) (kB fun b=>Zq (chk (decide (Zv b≤70368744177664)) (some (Xd (b++Yd t 4 li),[]))) (kO fun l=>Zq (chk (decide (Zv l≤70368744177664)) (some (Xd (l++Yd lf 1 false),[]))) (kO fun l=>Zq (chk (decide (Zv l+Zv sv≤70368744177664)) (some (Yz (Yq l sv),[]))) (kB fun b=>Zq (chk (decide (Zv b+Zv ins≤70368744177664)) (some (Yz (Yq b ins),[]))) (kB fun b=>some (Yx [Yz b,Zz .i64 0],[])))))))))))))):Option (AV×Blocks))) (by kernel_rfl) ?_
  delta kB kO kL
  try dsimp only [cStr,cBs,cBool,cU8,cInt,cSl,l63]
  simp only [Yu,decide_eq_true_eq] at hpre
  obtain ⟨⟨⟨⟨q1,q2⟩,q3⟩,q4⟩,q5⟩:=hpre
  simp only [A0]
  unfold Kerb.encodeRequest
  rw [chk_of (by simp [q1,q2,q3])]
  cases h1:Yf ⟨x,y,z⟩
  ·rfl
  rw [Yv,sel_false,chk_of (by simp [q4])]
  cases h2:Wy sv
  ·rfl
  rw [Yv,sel_false,chk_of (by simp [q5])]
  cases h3:Xg ins
  ·rfl
  rw [Yv,sel_false]
  cases h4:Xz t 4294967295
  ·rfl
  rw [Yv,sel_false]
  cases h5:Xz lf 255
  ·rfl
  rw [Yv,sel_false]
  have l1:=Uw h1
  have l2:=Kerb.validName_len h2
  have l3:=Kerb.validInst_len h3
  have l4:=Kerb.header_len 1 li
  simp only at l1
  rw [chk_of (by simp;omega),chk_of (by simp [Zj];omega),chk_of (by simp [Zj,Zm];omega),chk_of (by simp [Zj,Zm];omega),chk_of (by simp [Kerb.putText_len,Zj,Zm];omega)]
  rfl
 ·cases h
theorem w34:Walked Tryz.prog G 34 4 sp34:=by
 refine ⟨Tryz.f34,Tryz.func34,by decide +kernel,rfl,fun xs bl r h=> ?_⟩
 unfold sp34 at h
 split at h
 ·rename_i now w els
  obtain ⟨hpre,h2⟩:=chk_inv h;cases h2
  refine Eq.trans (b:=(Zq (loopM (fun (st:List AV)=>cInt .i64 st fun n r=>cInt .i64 r fun n_1 r=>onCons r fun x r=>Vx x fun b=>cSl 1 r fun b_1 r=>cInt .i64 r fun n_2 r=>cInt .i64 r fun n_3 r=>let t0:List AV:=[Xp 1 b_1,Zz .i64 n_2,Zz .i64 (Zk .i64 (n_3+1))];onNil r (sel (decide (n_3<n_2)) (chk (decide (0≤n_3)&&decide (n_3<(↑(Zv b_1):Int))&&true) (Xj .i64 (Yk b_1 (Zb n_3) Xx) fun n_4=>sel (!n_4==0) (chk (room (Zv b+Zv [Zz .i64 n_4]) (nat_lit 8)) (some (Wn (Zz .i64 n::Zz .i64 n_1::Xy (b++[Zz .i64 n_4])::t0)))) (some (Wn (Zz .i64 n::Zz .i64 n_1::Xy b::t0))))) (some (Wh (Wu 0,[Zz .i64 n,Zz .i64 n_1,Xy b,Xp 1 b_1,Zz .i64 n_2,Zz .i64 n_3]))))) [Zz .i64 now,Zz .i64 w,Xy [],Xp 1 els,Zz .i64 (↑(Zv els):Int),Zz .i64 0]) fun (r:Ex×List AV)=>cInt .i64 (Yy r) fun n r_1=>cInt .i64 r_1 fun n_1 r_2=>onCons r_2 fun x r_3=>Vx x fun b=>cSl 1 r_3 fun b_1 r_4=>cInt .i64 r_4 fun n_2 r_5=>cInt .i64 r_5 fun n_3 r_6=>onNil r_6 (exK r.1 none fun (j:Nat)=>sel (Vz j 0) (Zq (chk (allInts b&&decide (Zv b≤1000000)&&List.all (intsIn b) Kerb.isI64) (some (Yx [Zz .i64 (Yw (Kerb.grantLife n n_1 (intsIn b))),Zg (Yy (Kerb.grantLife n n_1 (intsIn b)))],[]))) (kT fun vs=>cInt .i64 vs fun n r=>cBool r fun b r=>onNil r (some (Yx [Zz .i64 n,Zg b],[])))) none):Option (AV×Blocks))) (by kernel_rfl) ?_
  delta kT
  try dsimp only [cStr,cBs,cBool,cU8,cInt,cSl,l63]
  simp only [Yu,decide_eq_true_eq] at hpre
  obtain ⟨⟨ha,hlen⟩,hi⟩:=hpre
  have hil:=Kerb.ints_len ha
  have r8:∀ {m:Nat},m≤1000001→Go.Abs.room m 8=true:=fun h=>by simp [Go.Abs.room];omega
  have hfl:∀ i,(((intsIn els).take i).filter (fun n => !(n==0))).length≤1000000:=fun i=>by
   refine Yh (List.length_filter_le _ _) ?_
   rw [List.length_take];omega
  refine loop_rounds (fun i:Nat=>[Zz Zx now,Zz Zx w,Xy ((((intsIn els).take i).filter (fun n => !(n==0))).map (Zz Zx)),Xp 1 els,Zz Zx (els.length:Int),Zz Zx (i:Int)]) (fun i=>i≤els.length) (fun i=>els.length-i)
   (fun r=>r=(Wu 0,[Zz Zx now,Zz Zx w,Xy (((intsIn els).filter (fun n => !(n==0))).map (Zz Zx)),Xp 1 els,Zz Zx (els.length:Int),Zz Zx (els.length:Int)])) 0 (Nat.zero_le _) rfl ?_ ?_
  ·intro i h0
   simp only [↓A0,A0,Wk,List.length_cons,List.length_nil]
   rcases Nat.lt_or_ge i els.length with h | h
   ·obtain ⟨m,h1,h2⟩:=Kerb.ints_get ha h
    rw [sel_pos (by simp;omega),chk_of (by simp;omega),Wv,h1,onInt_int]
    have ht:(intsIn els).take (i+1)=(intsIn els).take i++[m]:=by
     have h4:i<(intsIn els).length:=by omega
     rw [List.take_succ_eq_append_getElem h4]
     rw [List.drop_eq_getElem_cons h4] at h2
     rw [(List.cons.inj h2).1]
    have hs:((intsIn els).take (i+1)).filter (fun n => !(n==0))=((intsIn els).take i).filter (fun n => !(n==0))++(if m=0 then [] else [m]):=by
     rw [ht,List.filter_append]
     congr 1
     by_cases q:m=0<;>simp [q]
    rw [wrap_i64 (by omega) (by omega)]
    by_cases hm:m=0
    ·rw [if_pos hm,List.append_nil] at hs
     rw [sel_neg (by simpa using hm)]
     exact ⟨_,rfl,i+1,by dsimp only;rw [hs];rfl,by omega,by dsimp only;omega⟩
    ·rw [if_neg hm] at hs
     rw [sel_pos (by simpa using hm),chk_of (r8 (by have:=hfl i;omega))]
     exact ⟨_,rfl,i+1,by dsimp only;rw [hs,List.map_append];rfl,by omega,by dsimp only;omega⟩
   ·have h1:i=els.length:=by omega
    subst h1
    rw [sel_neg (by simp)]
    refine ⟨_,rfl,?_⟩
    show _=_
    rw [List.take_of_length_le (by omega)]
  ·rintro _ rfl
   have hall:=Kerb.ints_map ((intsIn els).filter (fun n => !(n==0)))
   have hfl2:((intsIn els).filter (fun n => !(n==0))).length≤1000000:=Yh (List.length_filter_le _ _) (by omega)
   have hI:((intsIn els).filter (fun n => !(n==0))).all Kerb.isI64=true:=by
    rw [List.all_eq_true] at hi ⊢
    exact fun x hx=>hi x (List.mem_filter.1 hx).1
   simp only [hall.1,hall.2,hfl2,hI,Wk,decide_true,Xq,↓A0,A0]
   rw [sel_pos (Wz _)]
 ·cases h
theorem w42:Walked Tryz.prog G 42 4 sp42:=by
 refine ⟨Tryz.f42,Tryz.func42,by decide +kernel,rfl,fun xs bl r h=> ?_⟩
 unfold sp42 at h
 split at h
 ·rename_i B at_ li bad
  obtain ⟨hpre,h2⟩:=chk_inv h;cases h2
  show runFnH (G.env 42 4) G.rts (G.own 42) Tryz.f42 _ _ [0]=_
  refine Eq.trans (b:=(Zq (chk (decide (Zv B≤140737488355328)) (some (Yx [Zz .i64 (Wf (Yp B at_ 4 li)),Zz .i64 (Wj (Yp B at_ 4 li)),Zz .i64 (Xv (Yp B at_ 4 li))],[]))) fun (r:AV×Blocks)=>onNilB (Yy r) (AV.onTup (Yw r) fun vs=>onCons vs fun x r=>Xj .i64 x fun n=>onCons r fun x r=>Xj .i64 x fun n_1=>onCons r fun x r=>Xj .i64 x fun n_2=>onNil r (some (Zz .i64 n,[[Yz B,Zz .i64 (bif bad || !n_2==0 then at_ else n_1),Zg li,Zg (bad || !n_2==0)]]))):Option (AV×Blocks))) (by kernel_rfl) ?_
  simp only [A0]
  rw [chk_of hpre]
 ·cases h
theorem w44:Walked Tryz.prog G 44 4 sp44:=by
 refine ⟨Tryz.f44,Tryz.func44,by decide +kernel,rfl,fun xs bl r h=> ?_⟩
 unfold sp44 at h
 split at h
 ·rename_i li x y z t cd tx
  obtain ⟨hpre,h2⟩:=chk_inv h;cases h2
  refine Eq.trans (b:=(let t0:Option (AV×Blocks):=some (Yx [Yz [],Zz .i64 104],[]);Zq (chk (l63 x&&l63 y&&l63 z) (some (Zg (Yf (Yn x y z)),[]))) (kL fun b=>sel (!b) (some (Yx [Yz [],Zz .i64 103],[])) (sel (!Xz t 4294967295) t0 (sel (decide (cd<1)) t0 (sel (decide (cd>99)) t0 (sel (decide ((↑(Zv tx):Int)>39)) (some (Yx [Yz [],Zz .i64 105],[])) (Zq (loopM (fun (st:List AV)=>cBool st fun b r=>cStr r fun b_1 r=>cStr r fun b_2 r=>cStr r fun b_3 r=>cInt .i64 r fun n r=>cInt .i64 r fun n_1 r=>cStr r fun b_4 r=>cBs r fun b_5 r=>cInt .i64 r fun n_2 r=>cInt .i64 r fun n_3 r=>onNil r (sel (decide (n_3<(↑(Zv b_4):Int))) (chk (decide (0≤n_3)&&decide (n_3<(↑(Zv b_4):Int))) (sel (Yk b_4 (Zb n_3) (0:UInt8)==(0:UInt8)) (some (Wh (Ex.ret,[Zg b,Zy b_1,Zy b_2,Zy b_3,Zz .i64 n,Zz .i64 n_1,Zy b_4,Yz [],Zz .i64 100,Zz .i64 n_3]))) (some (Wn [Zg b,Zy b_1,Zy b_2,Zy b_3,Zz .i64 n,Zz .i64 n_1,Zy b_4,Yz b_5,Zz .i64 n_2,Zz .i64 (Zk .i64 (n_3+1))])))) (some (Wh (Wu 0,[Zg b,Zy b_1,Zy b_2,Zy b_3,Zz .i64 n,Zz .i64 n_1,Zy b_4,Yz b_5,Zz .i64 n_2,Zz .i64 n_3]))))) [Zg li,Zy x,Zy y,Zy z,Zz .i64 t,Zz .i64 cd,Zy tx,Yz [],Zz .i64 0,Zz .i64 0]) fun (r:Ex×List AV)=>cBool (Yy r) fun b r_1=>cStr r_1 fun b_1 r_2=>cStr r_2 fun b_2 r_3=>cStr r_3 fun b_3 r_4=>let t1:Nat:=Zv (Vy 5 b)+Zv b_1+Zv b_2+Zv b_3;cInt .i64 r_4 fun n r_5=>cInt .i64 r_5 fun n_1 r_6=>cStr r_6 fun b_4 r_7=>cBs r_7 fun b_5 r_8=>cInt .i64 r_8 fun n_2 r_9=>cInt .i64 r_9 fun n_3 r_10=>onNil r_10 (exK r.1 (some (Yx [Yz b_5,Zz .i64 n_2],[])) fun (j:Nat)=>sel (Vz j 0) (Zq (chk (decide (t1≤70368744170000)) (some (Yz (Vm (Vy 5 b) (Yn b_1 b_2 b_3)),[]))) (kB fun b_6=>Zq (chk (decide (Zv b_6≤70368744177664)) (some (Xd (b_6++Yd n 4 b),[]))) (kO fun l=>Zq (chk (decide (Zv l≤70368744177664)) (some (Xd (l++Yd n_1 4 b),[]))) (kO fun l=>Zq (chk (decide (Zv l+Zv b_4≤70368744177664)) (some (Yz (Yq l b_4),[]))) (kB fun b=>some (Yx [Yz b,Zz .i64 0],[])))))) none))))))):Option (AV×Blocks))) (by kernel_rfl) ?_
  delta kB kO kL
  try dsimp only [cStr,cBs,cBool,cU8,cInt,cSl,l63]
  simp only [Yu,decide_eq_true_eq] at hpre
  obtain ⟨⟨⟨q1,q2⟩,q3⟩,q4⟩:=hpre
  simp only [A0]
  unfold Vd
  rw [chk_of (by simp [q1,q2,q3])]
  cases h1:Yf ⟨x,y,z⟩
  ·rfl
  rw [Yv,sel_false]
  cases h4:Xz t 4294967295
  ·rfl
  rw [Yv,sel_false]
  by_cases h5:1≤cd
  case neg =>
   rw [sel_pos (by simp;omega),if_neg (by simp),if_pos (by simp;omega)]
  by_cases h6:cd≤99
  case neg =>
   rw [sel_neg (by simp;omega),sel_pos (by simp;omega),if_neg (by simp),if_pos (by simp;omega)]
  rw [sel_neg (by simp;omega),sel_neg (by simp;omega),if_neg (by simp),if_neg (by simp;omega)]
  by_cases h7:39<tx.length
  ·rw [sel_pos (by simp;omega),if_pos h7]
  have l1:=Uw h1
  have l4:=Kerb.header_len 5 li
  simp only at l1
  rw [sel_neg (by simp;omega),if_neg h7]
  refine loop_rounds (fun i:Nat=>[Zg li,Zy x,Zy y,Zy z,Zz Zx t,Zz Zx cd,Zy tx,Yz [],Zz Zx 0,Zz Zx (i:Int)]) (fun i=>i≤tx.length∧((0:UInt8)∈tx↔(0:UInt8)∈tx.drop i)) (fun i=>tx.length-i)
   (fun r=>∃ (i:Nat) (e:Int),r.2=[Zg li,Zy x,Zy y,Zy z,Zz Zx t,Zz Zx cd,Zy tx,Yz [],Zz Zx e,Zz Zx (i:Int)]∧((r.1 = .ret∧e=100∧(0:UInt8)∈tx)∨(r.1 = .exit 0∧(0:UInt8) ∉ tx))) 0 ⟨Nat.zero_le _,by simp⟩ rfl ?_ ?_
  ·rintro i ⟨hi,hm⟩
   simp only [A0]
   by_cases hlt:i<tx.length
   ·have hd:=Kerb.drop_all_cons hlt
    rw [sel_pos (by simp;omega),chk_of (by simp;omega),Wv]
    rw [hd,List.mem_cons] at hm
    by_cases h3:tx.getD i 0=0
    ·rw [sel_pos (by rw [h3];rfl)]
     exact ⟨_,rfl,i,100,rfl,.inl ⟨rfl,rfl,hm.2 (.inl h3.symm)⟩⟩
    ·rw [sel_neg (beq_eq_false_iff_ne.2 h3),wrap_i64 (by omega) (by omega)]
     exact ⟨_,rfl,i+1,rfl,⟨by omega,hm.trans ⟨fun h=>h.resolve_left fun e=>h3 e.symm,.inr⟩⟩,by dsimp only;omega⟩
   ·rw [sel_neg (by simp;omega)]
    refine ⟨_,rfl,i,0,rfl,.inr ⟨rfl,?_⟩⟩
    rw [hm,List.drop_eq_nil_of_le (by omega)];simp
  ·rintro ⟨e,l⟩ ⟨i,x,rfl,⟨rfl,rfl,h⟩ | ⟨rfl,h⟩⟩
   ·simp only [A0]
    rw [if_pos h]
   ·simp only [A0]
    rw [if_neg h,sel_pos (Wz _)]
    rw [chk_of (by simp;omega),chk_of (by simp [Zj];omega),chk_of (by simp [Zj,Zm];omega),chk_of (by simp [Zj,Zm];omega)]
 ·cases h
theorem w61:Walked Tryz.prog G 61 4 sp61:=by
 refine ⟨Tryz.f61,Tryz.func61,by decide +kernel,rfl,fun xs bl r h=> ?_⟩
 unfold sp61 at h
 split at h
 ·rename_i rl els n i now bit xp br
  obtain ⟨hpre,h2⟩:=chk_inv h;cases h2
  refine Eq.trans (b:=(Zq (chk (List.all els Kerb.isEntry&&decide (Zv els≤1000000)) (some (Yx [Zz .i64 (Yw (Kerb.findEnt (Vv Wb els) n i)),Zz .i64 (Yy (Kerb.findEnt (Vv Wb els) n i))],[]))) (kT fun vs=>cInt .i64 vs fun n r=>cInt .i64 r fun n_1 r=>onNil r (sel (!n_1==0) (some (Yx [Zz .i64 0,Zz .i64 n_1],[])) (chk (decide (0≤n)&&decide (n<(↑(Zv els):Int))&&true) (Xb (Yk els (Zb n) Xx) fun cs=>cStr cs fun b r=>cStr r fun b r=>cInt .u64 r fun n_2 r=>cInt .i64 r fun n_3 r=>cInt .i64 r fun n_4 r=>cInt .i64 r fun n_5 r=>cInt .i64 r fun n_6 r=>let t0:Option (AV×Blocks):=sel (!Zk .i64 (↑(BitVec.toNat (BitVec.ofInt (Xn .i64) n_6 &&& BitVec.ofInt (Xn .i64) bit)):Int)==0) (some (Yx [Zz .i64 0,Zz .i64 br],[])) (some (Yx [Zz .i64 n,Zz .i64 0],[]));cInt .i64 r fun n r=>cInt .i64 r fun n r=>onNil r (Zq (chk (decide (0≤n_2)&&decide (n_2<18446744073709551616)) (some (Zg (Vf n_2),[]))) (kL fun b=>sel (!b) (some (Yx [Zz .i64 0,Zz .i64 10],[])) (sel (!n_4==0) (sel (decide (n_4≤now)) (some (Yx [Zz .i64 0,Zz .i64 xp],[])) t0) t0))))))):Option (AV×Blocks))) (by kernel_rfl) ?_
  delta kT kL
  try dsimp only [cStr,cBs,cBool,cU8,cInt,cSl,l63]
  simp only [Yu,decide_eq_true_eq] at hpre
  obtain ⟨hall,hlen⟩:=hpre
  obtain ⟨es,rfl,hok⟩:=Kerb.ents_of hall
  simp only [hall,hlen,Kerb.map_toEntry,decide_true,Xq,↓A0,A0]
  unfold Kerb.useEnt
  dsimp only
  have hf:=Kerb.find_count (es:=es) (n:=n) (i:=i)
  generalize Kerb.findEnt es n i=F at hf
  obtain ⟨j,e⟩:=F
  dsimp only at hf ⊢
  by_cases he:e=0
  case neg=>rw [sel_pos (by simpa using he),if_pos he]
  obtain ⟨_,f2,f3⟩:=hf he
  subst f2
  rw [sel_neg (by simpa using he),if_neg (by simpa using he),chk_of (by simp only [Wk,Bool.and_true,Yu,decide_eq_true_eq];omega),Wv,Kerb.getD_ent f3]
  have hx:=hok _ (Kerb.ent_mem f3)
  generalize es.getD (es.findIdx (Kerb.Entry.named n i)) Kerb.noEntry=x at hx
  obtain ⟨_,_,x3,_⟩:=hx
  have h4:(decide (0≤x.key)&&decide (x.key<18446744073709551616))=true:=x3
  simp only [Zp,↓A0,A0,h4]
  cases hk:Vf x.key
  ·rfl
  simp only [Yv,Wg,sel_true,sel_false]
  rw [if_neg (by simp)]
  have hb:Zk .i64 (BitVec.toNat (BitVec.ofInt (Xn .i64) x.attr &&& BitVec.ofInt (Xn .i64) bit):Int)=Kerb.bitOf x.attr bit:=rfl
  rw [hb]
  by_cases h1:x.expires=0
  ·rw [sel_neg (by simp [h1]),if_neg (by simp [h1])]
   by_cases h2:Kerb.bitOf x.attr bit=0
   ·rw [sel_neg (by simp [h2]),if_neg (by simp [h2])]
   ·rw [sel_pos (by simpa using h2),if_pos h2]
  ·rw [sel_pos (by simpa using h1)]
   by_cases h3:x.expires≤now
   ·rw [sel_pos (by simpa using h3),if_pos ⟨h1,h3⟩]
   ·rw [sel_neg (by simpa using h3),if_neg (by simp [h3])]
    by_cases h2:Kerb.bitOf x.attr bit=0
    ·rw [sel_neg (by simp [h2]),if_neg (by simp [h2])]
    ·rw [sel_pos (by simpa using h2),if_pos h2]
 ·cases h
theorem w72:Walked Tryz.prog G 72 4 sp72:=by
 refine ⟨Tryz.f72,Tryz.func72,by decide +kernel,rfl,fun xs bl r h=> ?_⟩
 unfold sp72 at h
 split at h
 ·rename_i kd k bd
  obtain ⟨hpre,h2⟩:=chk_inv h;cases h2
  refine Eq.trans (b:=(let t0:List UInt8:=[UInt8.ofNat (Zb (Zk .u8 (Int.fdiv (↑(Zv bd):Int) (2 ^ min (Zb 8) (Xn .i64))))),UInt8.ofNat (Zb (Zk .u8 (↑(Zv bd):Int)))];let t1:List UInt8:=List.replicate (Zb 0) (0:UInt8)++[(66:UInt8),UInt8.ofNat (Zb (Zk .u8 kd))];let t2:Int:=Zk .i64 (12+(↑(Zv bd):Int));sel (!Uv kd) (some (Yx [Yz [],Zz .i64 104],[])) (Zq (chk (decide (0≤k)&&decide (k<18446744073709551616)) (some (Zg (Vf k),[]))) (kL fun b=>sel (!b) (some (Yx [Yz [],Zz .i64 10],[])) (sel (decide ((↑(Zv bd):Int)>1000)) (some (Yx [Yz [],Zz .i64 105],[])) (chk (decide (0≤t2)&&decide (t2≤140737488355328)) (chk (room (Zv (List.replicate (Zb 0) (0:UInt8))+Zv [(66:UInt8),UInt8.ofNat (Zb (Zk .u8 kd))]) 1) (Zq (chk (decide (0≤k)&&decide (k<18446744073709551616)) (some (Yz (Kerb.keyBytes k),[]))) (kB fun b=>chk (room (Zv t1+Zv b) 1) (chk (room (Zv (t1++b)+Zv t0) 1) (chk (room (Zv (t1++b++t0)+Zv bd) 1) (some (Yx [Yz (t1++b++t0++bd),Zz .i64 0],[]))))))))))):Option (AV×Blocks))) (by kernel_rfl) ?_
  delta kB kL
  try dsimp only [cStr,cBs,cBool,cU8,cInt,cSl,l63]
  simp only [A0,Kerb.Client.av,Kerb.Cache.av,Kerb.Cred.av,hpre]
  unfold Kerb.makeBox
  cases h1:Uv kd
  ·rfl
  rw [Yv,sel_false,if_neg (by simp)]
  cases h2:Vf k
  ·rfl
  rw [Yv,sel_false,if_neg (by simp)]
  by_cases h3:1000<bd.length
  ·rw [sel_pos (by simp;omega),if_pos h3]
  have hk:1≤kd∧kd≤10:=by simp [Uv] at h1;omega
  have lk:=Zn k
  rw [sel_neg (by simp;omega),if_neg h3,wrap_i64 (by omega) (by omega),chk_of (by simp;omega),chk_of (Vu (by simp)),chk_of (Vu (by simp;omega)),chk_of (Vu (by simp;omega)),chk_of (Vu (by simp;omega)),Kerb.two_bytes,Kerb.wrap_u8,Int.emod_eq_of_lt (by omega) (by omega)]
  rfl
 ·cases h
theorem w74:Walked Tryz.prog G 74 4 sp74:=by
 refine ⟨Tryz.f74,Tryz.func74,by decide +kernel,rfl,fun xs bl r h=> ?_⟩
 unfold sp74 at h
 split at h
 ·rename_i b
  obtain ⟨hpre,h2⟩:=chk_inv h;cases h2
  refine Eq.trans (b:=(let t1:Option (AV×Blocks):=some (Yx [Zf [Zz .i64 0,Zz .u64 0,Yz []],Zz .i64 0,Zz .i64 100],[]);let t2:Int:=Zk .i64 (↑(BitVec.toNat (BitVec.ofInt (Xn .i64) (Zk .i64 (Zk .i64 (↑(Xk (Yk b (Zb 10) (0:UInt8))):Int)*2 ^ min (Zb 8) (Xn .i64))) ||| BitVec.ofInt (Xn .i64) (Zk .i64 (↑(Xk (Yk b (Zb 11) (0:UInt8))):Int)))):Int);let t3:Int:=Zk .i64 (↑(Xk (Yk b (Zb 1) (0:UInt8))):Int);let t4:Option (AV×Blocks):=some (Yx [Zf [Zz .i64 0,Zz .u64 0,Yz []],Zz .i64 0,Zz .i64 101],[]);let t0:Int:=Zk .i64 (12+t2);sel (decide ((↑(Zv b):Int)<12)) t4 (chk (decide (10≤(↑(Zv b):Int))) (Zq (chk (decide (Zv (Uy (Zb 2) (Uz (Zb 10) b))≤4611686018427387904)) (some (Yx [Zz .u64 (Yw (Vj (Uy (Zb 2) (Uz (Zb 10) b)))),Zg (Yy (Vj (Uy (Zb 2) (Uz (Zb 10) b))))],[]))) (kT fun vs=>cInt .u64 vs fun n r=>cBool r fun b_1 r=>onNil r (chk (decide (10<(↑(Zv b):Int))) (chk (decide (11<(↑(Zv b):Int))) (chk (decide (0<(↑(Zv b):Int))) (sel (!Yk b (Zb 0) (0:UInt8)==(66:UInt8)) t1 (chk (decide (1<(↑(Zv b):Int))) (sel (decide (t3<1)) t1 (chk (decide (1<(↑(Zv b):Int))) (sel (decide (t3>10)) t1 (sel (!b_1) t1 (sel (decide (t2>1000)) t1 (sel (decide ((↑(Zv b):Int)<t0)) t4 (chk (decide (1<(↑(Zv b):Int))) (chk (decide (12≤t0)&&decide (t0≤(↑(Zv b):Int))) (chk (room (Zv (Uy (Zb 12) (Uz (Zb t0) b))) 1) (some (Yx [Zf [Zz .i64 t3,Zz .u64 n,Yz (Uy (Zb 12) (Uz (Zb t0) b))],Zz .i64 t0,Zz .i64 0],[]))))))))))))))))))):Option (AV×Blocks))) (by kernel_rfl) ?_
  delta kT
  try dsimp only [cStr,cBs,cBool,cU8,cInt,cSl,l63]
  simp only [decide_eq_true_eq] at hpre
  unfold Vq
  by_cases h0:b.length<12
  ·rw [sel_pos (by simp;omega),if_pos h0];rfl
  rw [sel_neg (by simp;omega),if_neg h0]
  have hc:=Kerb.cut_len b 2 8
  have hs:(b.getD 10 0).toNat*256+(b.getD 11 0).toNat=Kerb.boxSize b:=rfl
  simp only [Kerb.cut_28,Kerb.size_or]
  simp only [show Zb 0=0 from rfl,show Zb 1=1 from rfl,show Zb 10=10 from rfl,show Zb 11=11 from rfl,Kerb.wrap_byte,hs]
  rw [chk_of (by simp;omega),chk_of (by simp;omega)]
  simp only [↓A0]
  rw [chk_of (by simp;omega),chk_of (by simp;omega),chk_of (by simp;omega)]
  by_cases h1:b.getD 0 0=66
  case neg=>rw [sel_pos (by simpa using h1),if_pos (.inl h1)];rfl
  rw [sel_neg (by simpa using h1),chk_of (by simp;omega)]
  cases h2:Uv ((b.getD 1 0).toNat:Int)
  ·rw [if_pos (.inr (.inl rfl))]
   by_cases h2a:((b.getD 1 0).toNat:Int)<1
   ·rw [sel_pos (by simpa using h2a)];rfl
   ·rw [sel_neg (by simpa using h2a),chk_of (by simp;omega),sel_pos (decide_eq_true (by simp only [Uv,Bool.and_eq_false_iff,decide_eq_false_iff_not] at h2;omega))];rfl
  have hk:1≤((b.getD 1 0).toNat:Int)∧((b.getD 1 0).toNat:Int)≤10:=by simp only [Uv,Yu,decide_eq_true_eq] at h2;exact h2
  rw [sel_neg (decide_eq_false (by omega)),chk_of (by simp;omega),sel_neg (decide_eq_false (by omega))]
  cases h3:(Vj (Kerb.cut b 2 8)).2
  ·rw [if_pos (.inr (.inr (.inl rfl)))];rfl
  rw [Yv,sel_false]
  by_cases h4:1000<Kerb.boxSize b
  ·rw [sel_pos (by simp;omega),if_pos (.inr (.inr (.inr h4)))];rfl
  rw [sel_neg (by simp;omega),if_neg (by rintro (h | h | h | h)<;>first | exact h h1 | cases h | omega),wrap_i64 (by omega) (by omega)]
  by_cases h5:b.length<12+Kerb.boxSize b
  ·rw [sel_pos (by simp;omega),if_pos h5];rfl
  have hc2:=Kerb.cut_len b 12 (Kerb.boxSize b)
  rw [sel_neg (by simp;omega),if_neg h5,Kerb.cut_12]
  repeat rw [chk_of (by first | (simp;omega) | exact Vu (by omega))]
  simp
 ·cases h
theorem w75:Walked Tryz.prog G 75 4 sp75:=by
 refine ⟨Tryz.f75,Tryz.func75,by decide +kernel,rfl,fun xs bl r h=> ?_⟩
 unfold sp75 at h
 split at h
 ·rename_i B at_ li bad
  obtain ⟨hpre,h2⟩:=chk_inv h;cases h2
  show runFnH (G.env 75 4) G.rts (G.own 75) Tryz.f75 _ _ [0]=_
  refine Eq.trans (b:=(Zq (chk (decide (Zv B≤140737488355328)) (some (Yx [Zz .i64 (Wf (Yp B at_ 1 false)),Zz .i64 (Wj (Yp B at_ 1 false)),Zz .i64 (Xv (Yp B at_ 1 false))],[]))) fun (r:AV×Blocks)=>onNilB (Yy r) (AV.onTup (Yw r) fun vs=>onCons vs fun x r=>Xj .i64 x fun n=>onCons r fun x r=>Xj .i64 x fun n_1=>onCons r fun x r=>Xj .i64 x fun n_2=>onNil r (some (Zz .i64 n,[[Yz B,Zz .i64 (bif bad || !n_2==0 then at_ else n_1),Zg li,Zg (bad || !n_2==0)]]))):Option (AV×Blocks))) (by kernel_rfl) ?_
  simp only [A0]
  rw [chk_of hpre]
 ·cases h
theorem w93:Walked Tryz.prog G 93 4 sp93:=by
 refine ⟨Tryz.f93,Tryz.func93,by decide +kernel,rfl,fun xs bl r h=> ?_⟩
 unfold sp93 at h
 split at h
 ·rename_i b x y z
  obtain ⟨hpre,h2⟩:=chk_inv h;cases h2
  refine Eq.trans (b:=(Zq (chk (decide (Zv b+Zv x≤70368744177664)) (some (Yz (Yq b x),[]))) fun (r:AV×Blocks)=>onNilB (Yy r) (AV.onBs (Yw r) fun b=>Zq (chk (decide (Zv b+Zv y≤70368744177664)) (some (Yz (Yq b y),[]))) fun (r:AV×Blocks)=>onNilB (Yy r) (AV.onBs (Yw r) fun b=>Zq (chk (decide (Zv b+Zv z≤70368744177664)) (some (Yz (Yq b z),[]))) fun (r:AV×Blocks)=>onNilB (Yy r) (AV.onBs (Yw r) fun b=>some (Yz b,[])))):Option (AV×Blocks))) (by kernel_rfl) ?_
  simp only [decide_eq_true_eq] at hpre
  simp only [A0]
  rw [chk_of (by simp;omega),chk_of (by simp [Yq];omega),chk_of (by simp [Yq];omega)]
  rfl
 ·cases h
theorem w94:Walked Tryz.prog G 94 4 sp94:=by
 refine ⟨Tryz.f94,Tryz.func94,by decide +kernel,rfl,fun xs bl r h=> ?_⟩
 unfold sp94 at h
 split at h
 ·rename_i b n little
  obtain ⟨hpre,h2⟩:=chk_inv h;cases h2
  refine Eq.trans (b:=(Zq (chk (decide (Zv b≤70368744177664)) (some (Xd (b++Yd n (Zb 4) little),[]))) fun (r:AV×Blocks)=>onNilB (Yy r) (AV.onOwnB (Yw r) fun l=>some (Xd l,[])):Option (AV×Blocks))) (by kernel_rfl) ?_
  simp only [decide_eq_true_eq] at hpre
  simp only [A0]
  rw [chk_of (by simp;omega)]
  rfl
 ·cases h
theorem w95:Walked Tryz.prog G 95 4 sp95:=by
 refine ⟨Tryz.f95,Tryz.func95,by decide +kernel,rfl,fun xs bl r h=> ?_⟩
 unfold sp95 at h
 split at h
 ·rename_i b n
  obtain ⟨hpre,h2⟩:=chk_inv h;cases h2
  refine Eq.trans (b:=(Zq (chk (decide (Zv b≤70368744177664)) (some (Xd (b++Yd n (Zb 1) false),[]))) fun (r:AV×Blocks)=>onNilB (Yy r) (AV.onOwnB (Yw r) fun l=>some (Xd l,[])):Option (AV×Blocks))) (by kernel_rfl) ?_
  simp only [decide_eq_true_eq] at hpre
  simp only [A0]
  rw [chk_of (by simp;omega)]
  rfl
 ·cases h
theorem w111:Walked Tryz.prog G 111 4 sp111:=by
 refine ⟨Tryz.f111,Tryz.func111,by decide +kernel,rfl,fun xs bl r h=> ?_⟩
 unfold sp111 at h
 split at h
 ·rename_i b n little
  obtain ⟨hpre,h2⟩:=chk_inv h;cases h2
  refine Eq.trans (b:=(Zq (chk (decide (Zv b≤70368744177664)) (some (Xd (b++Yd n (Zb 2) little),[]))) fun (r:AV×Blocks)=>onNilB (Yy r) (AV.onOwnB (Yw r) fun l=>some (Xd l,[])):Option (AV×Blocks))) (by kernel_rfl) ?_
  simp only [decide_eq_true_eq] at hpre
  simp only [A0]
  rw [chk_of (by simp;omega)]
  rfl
 ·cases h
theorem w115:Walked Tryz.prog G 115 4 sp115:=by
 refine ⟨Tryz.f115,Tryz.func115,by decide +kernel,rfl,fun xs bl r h=> ?_⟩
 unfold sp115 at h
 split at h
 ·rename_i li x y z ad k lf iss sv ins
  obtain ⟨hpre,h2⟩:=chk_inv h;cases h2
  refine Eq.trans (b:=(Zq (chk (decide (Zv x≤9223372036854775807)&&decide (Zv y≤9223372036854775807)&&decide (Zv z≤9223372036854775807)) (some (Zg (Yf (Yn x y z)),[]))) fun (r:AV×Blocks)=>onNilB (Yy r) (Vw (Yw r) fun b=>sel (!b) (some (Zz .i64 103,[])) (Zq (chk (decide (Zv sv≤9223372036854775807)) (some (Zg (Wy sv),[]))) fun (r:AV×Blocks)=>onNilB (Yy r) (Vw (Yw r) fun b=>sel (!b) (some (Zz .i64 103,[])) (Zq (chk (decide (Zv ins≤9223372036854775807)) (some (Zg (Xg ins),[]))) fun (r:AV×Blocks)=>onNilB (Yy r) (Vw (Yw r) fun b=>sel (!b) (some (Zz .i64 103,[])) (Zq (chk (decide (0≤k)&&decide (k<18446744073709551616)) (some (Zz .i64 (Kerb.classOf k),[]))) fun (r:AV×Blocks)=>onNilB (Yy r) (Xj .i64 (Yw r) fun n=>sel (!n==2) (some (Zz .i64 10,[])) (sel (!Xz ad 4294967295) (some (Zz .i64 104,[])) (sel (!Xz lf 255) (some (Zz .i64 104,[])) (sel (!Xz iss 4294967295) (some (Zz .i64 104,[])) (some (Zz .i64 0,[])))))))))))):Option (AV×Blocks))) (by kernel_rfl) ?_
  simp only [Yu,decide_eq_true_eq] at hpre
  obtain ⟨⟨⟨⟨⟨⟨h1,h2⟩,h3⟩,h4⟩,h5⟩,h6⟩,h7⟩:=hpre
  simp only [h1,h2,h3,h4,h5,h6,h7,decide_true,Xq,↓A0,A0]
  unfold Kerb.Ticket.err
  dsimp only
  cases Yf ⟨x,y,z⟩
  ·rfl
  cases Wy sv
  ·rfl
  cases Xg ins
  ·rfl
  simp only [Yv,Xq,sel_false]
  by_cases hc:Kerb.classOf k=2
  case neg=>rw [sel_pos (by simpa using hc),if_neg (by simp),if_pos hc]
  rw [sel_neg (by simp [hc]),if_neg (by simp),if_neg (by simp [hc])]
  cases Xz ad 4294967295
  ·rfl
  cases Xz lf 255
  ·rfl
  cases Xz iss 4294967295
  ·rfl
  rfl
 ·cases h
theorem w121:Walked Tryz.prog G 121 4 sp121:=by
 refine ⟨Tryz.f121,Tryz.func121,by decide +kernel,rfl,fun xs bl r h=> ?_⟩
 unfold sp121 at h
 split at h
 ·rename_i s bad
  obtain ⟨hpre,h2⟩:=chk_inv h;cases h2
  refine Eq.trans (b:=(Zq (loopM (fun (st:List AV)=>cStr st fun b r=>cStr r fun b_1 r=>cBool r fun b_2 r=>cInt .i64 r fun n r=>cInt .i64 r fun n_1 r=>let t0:Option (List AV ⊕ Ex×List AV):=some (Wh (Ex.ret,[Zy b,Zy b_1,Zg false,Zz .i64 n,Zz .i64 n_1]));let t1:Bool:=decide (0≤n_1)&&decide (n_1<(↑(Zv b):Int));let t2:Int:=(↑(Xk (Yk b (Zb n_1) (0:UInt8))):Int);onNil r (sel (decide (n_1<n)) (chk t1 (sel (decide (t2<(↑(Xk (33:UInt8)):Int))) t0 (chk t1 (sel (decide (t2>(↑(Xk (126:UInt8)):Int))) t0 (chk t1 (sel (decide (Kerb.indexOf (Yk b (Zb n_1) (0:UInt8)) b_1≥0)) t0 (some (Wn [Zy b,Zy b_1,Zg b_2,Zz .i64 n,Zz .i64 (Zk .i64 (n_1+1))])))))))) (some (Wh (Wu 0,[Zy b,Zy b_1,Zg b_2,Zz .i64 n,Zz .i64 n_1]))))) [Zy s,Zy bad,Zg false,Zz .i64 (↑(Zv s):Int),Zz .i64 0]) fun (r:Ex×List AV)=>cStr (Yy r) fun b r_1=>cStr r_1 fun b r_2=>cBool r_2 fun b r_3=>cInt .i64 r_3 fun n r_4=>cInt .i64 r_4 fun n r_5=>onNil r_5 (exK r.1 (some (Zg b,[])) fun (j:Nat)=>sel (Vz j 0) (some (Zg true,[])) none):Option (AV×Blocks))) (by kernel_rfl) ?_
  try dsimp only [cStr,cBs,cBool,cU8,cInt,cSl,l63]
  simp only [decide_eq_true_eq] at hpre
  refine loop_rounds (fun i:Nat=>[Zy s,Zy bad,Zg false,Zz Zx (s.length:Int),Zz Zx (i:Int)]) (fun i=>i≤s.length∧Wq s bad=Wq (s.drop i) bad) (fun i=>s.length-i)
   (fun r=>∃ i:Nat,r.2=[Zy s,Zy bad,Zg false,Zz Zx (s.length:Int),Zz Zx (i:Int)]∧((r.1 = .ret∧Wq s bad=false)∨(r.1 = .exit 0∧Wq s bad=true))) 0 ⟨Nat.zero_le _,rfl⟩ rfl ?_ ?_
  ·rintro i ⟨hi,hp⟩
   simp only [A0]
   by_cases hlt:i<s.length
   ·have hc:(decide ((0:Int)≤(i:Int))&&decide ((i:Int)<(s.length:Int)))=true:=by simp;omega
    have hd:=Kerb.drop_all_cons hlt
    rw [sel_pos (by simp;omega),chk_of hc,Wv]
    have hpr:Wq (s.drop i) bad=(Kerb.okB bad (s.getD i 0)&&Wq (s.drop (i+1)) bad):=by rw [hd];rfl
    generalize s.getD i 0=c at *
    by_cases h1:c.toNat<33
    ·rw [sel_pos (by simp;omega)]
     exact ⟨_,rfl,i,rfl,.inl ⟨rfl,by rw [hp,hpr];simp [Kerb.okB,h1]⟩⟩
    rw [sel_neg (by simp;omega),chk_of hc]
    by_cases h2:126<c.toNat
    ·rw [sel_pos (by simp;omega)]
     exact ⟨_,rfl,i,rfl,.inl ⟨rfl,by rw [hp,hpr];simp [Kerb.okB,h2]⟩⟩
    rw [sel_neg (by simp;omega),chk_of hc]
    have h4:=Kerb.indexOf_nonneg c bad
    by_cases h3:c∈bad
    ·rw [sel_pos (by simpa using h4.2 h3)]
     exact ⟨_,rfl,i,rfl,.inl ⟨rfl,by rw [hp,hpr];simp [Kerb.okB,h3]⟩⟩
    rw [sel_neg (by have:=mt h4.1 h3;simp;omega),wrap_i64 (by omega) (by omega)]
    exact ⟨_,rfl,i+1,rfl,⟨by omega,by rw [hp,hpr];simp [Kerb.okB,h1,h2,h3]⟩,by dsimp only;omega⟩
   ·rw [sel_neg (by simp;omega)]
    exact ⟨_,rfl,i,rfl,.inr ⟨rfl,by rw [hp,List.drop_eq_nil_of_le (by omega)];rfl⟩⟩
  ·rintro ⟨e,l⟩ ⟨i,rfl,⟨rfl,hp⟩ | ⟨rfl,hp⟩⟩
   ·simp only [A0,hp]
   ·simp only [A0,hp]
    rfl
 ·cases h
theorem w14:Walked Tryz.prog G 14 5 sp14:=by
 refine ⟨Tryz.f14,Tryz.func14,by decide +kernel,rfl,fun xs bl r h=> ?_⟩
 unfold sp14 at h
 split at h
 ·rename_i b
  obtain ⟨hpre,h2⟩:=chk_inv h;cases h2
  refine Eq.trans (b:=(let t1:AV:=Zf [Zg false,Zy [],Zy [],Zy [],Zz .i64 0,Zz .i64 0,Zy []];let t0:Option (AV×Blocks):=some (Yx [t1,Zz .i64 100],[]);sel (!Yy (Vg b [5])==0) (some (Yx [t1,Zz .i64 (Yy (Vg b [5]))],[])) (Zq (chk (decide (Zv b≤140737488355328)) (some (Zf [Zy (Xm (Up (Xw b 2 false))),Zy (Xh (Up (Xw b 2 false))),Zy (Xf (Up (Xw b 2 false)))],[[Yz b,Zz .i64 (Kerb.RdP.pos (Xw b 2 false)),Zg (Yw (Vg b [5])),Zg (Kerb.RdP.bad (Xw b 2 false))]]))) fun (r:AV×Blocks)=>onConsB (Yy r) fun (x:List AV) (r_1:List (List AV))=>cBs x fun b_1 r_2=>cInt .i64 r_2 fun n r_3=>cBool r_3 fun b_2 r_4=>cBool r_4 fun b_3 r_5=>onNil r_5 (onNilB r_1 (Xb (Yw r) fun cs=>cStr cs fun b_4 r=>cStr r fun b_5 r=>cStr r fun b_6 r=>onNil r (Zq (chk (decide (Zv b_1≤140737488355328)) (some (Zz .i64 (Wf (Yp b_1 n 4 b_2)),[[Yz b_1,Zz .i64 (bif b_3 || !Xv (Yp b_1 n 4 b_2)==0 then n else Wj (Yp b_1 n 4 b_2)),Zg b_2,Zg (b_3 || !Xv (Yp b_1 n 4 b_2)==0)]]))) fun (r:AV×Blocks)=>onConsB (Yy r) fun (x:List AV) (r_6:List (List AV))=>cBs x fun b_7 r_7=>cInt .i64 r_7 fun n r_8=>cBool r_8 fun b_8 r_9=>cBool r_9 fun b_9 r_10=>onNil r_10 (onNilB r_6 (Xj .i64 (Yw r) fun n_1=>Zq (chk (decide (Zv b_7≤140737488355328)) (some (Zz .i64 (Wf (Yp b_7 n 4 b_8)),[[Yz b_7,Zz .i64 (bif b_9 || !Xv (Yp b_7 n 4 b_8)==0 then n else Wj (Yp b_7 n 4 b_8)),Zg b_8,Zg (b_9 || !Xv (Yp b_7 n 4 b_8)==0)]]))) fun (r:AV×Blocks)=>onConsB (Yy r) fun (x:List AV) (r_11:List (List AV))=>cBs x fun b_10 r_12=>cInt .i64 r_12 fun n r_13=>cBool r_13 fun b_11 r_14=>cBool r_14 fun b_12 r_15=>onNil r_15 (onNilB r_11 (Xj .i64 (Yw r) fun n_2=>Zq (chk (decide (Zv b_10≤140737488355328)) (some (Zy (Ux (Xu b_10 n)),[[Yz b_10,Zz .i64 (bif b_12 || !Ww (Xu b_10 n)==0 then n else Vb (Xu b_10 n)),Zg b_11,Zg (b_12 || !Ww (Xu b_10 n)==0)]]))) fun (r:AV×Blocks)=>onConsB (Yy r) fun (x:List AV) (r_16:List (List AV))=>cBs x fun b_13 r_17=>cInt .i64 r_17 fun n r_18=>cBool r_18 fun b_14 r_19=>cBool r_19 fun b_15 r_20=>onNil r_20 (onNilB r_16 (AV.onStr (Yw r) fun b_16=>let t2:Kerb.Enc:=Vd (Kerb.ErrorReply.mk (Yw (Vg b [5])) (Yn b_4 b_5 b_6) n_1 n_2 b_16);Zq (chk (l63 b_4&&l63 b_5&&l63 b_6&&l63 b_16) (some (Yx [Yz (Kerb.Enc.val t2),Zz .i64 (Kerb.Enc.err t2)],[]))) (kT fun vs=>cBs vs fun b_17 r=>cInt .i64 r fun n r=>onNil r (sel b_15 t0 (sel (!n==0) t0 (sel (!b_17==b) t0 (some (Yx [Zf [Zg (Yw (Vg b [5])),Zy b_4,Zy b_5,Zy b_6,Zz .i64 n_1,Zz .i64 n_2,Zy b_16],Zz .i64 0],[])))))))))))))))):Option (AV×Blocks))) (by kernel_rfl) ?_
  delta kT
  try dsimp only [cStr,cBs,cBool,cU8,cInt,cSl,l63]
  have hb:=of_decide_eq_true hpre
  simp only [A0]
  by_cases h:(Vg b [5]).2=0
  case neg =>
   unfold Kerb.decodeError
   rw [sel_pos (by simpa using h),if_pos h]
   rfl
  rw [sel_neg (by simp [h]),Kerb.rdError_dec h]
  rw [chk_of hpre,chk_of hpre,chk_of hpre,chk_of hpre]
  have lp:=Kerb.rdPrin_len b 2 false
  have hx:∀ q,(Xu b q).val.length≤40:=Uk b
  rw [chk_of (by simp only [Yu,decide_eq_true_eq];refine ⟨⟨⟨Yh lp.1 (by decide),Yh lp.2.1 (by decide)⟩,Yh lp.2.2 (by decide)⟩,Yh (hx _) (by decide)⟩)]
  obtain ⟨R,hR⟩:∃ R,R=Kerb.rdError b:=⟨_,rfl⟩
  have eb:_=R.bad:=(congrArg Kerb.Rd.bad hR).symm
  have ev:_=R.val:=(congrArg Kerb.Rd.val hR).symm
  rw [← hR]
  unfold Kerb.rdError at eb ev
  dsimp only [Kerb.rdGet,Kerb.rdText,Kerb.rdBytes] at eb ev
  rw [eb]
  have ev2:Kerb.ErrorReply.mk (Vg b [5]).1 (Yn (Xw b 2 false).p.name (Xw b 2 false).p.inst (Xw b 2 false).p.realm) _ _ _=R.val:=ev
  rw [ev2]
  cases hbad:R.bad
  case true=>rw [if_pos (.inl rfl)];rfl
  rw [sel_false]
  by_cases h1:(Vd R.val).err=0
  ·rw [sel_neg (by simp [h1])]
   by_cases h2:(Vd R.val).val=b
   ·rw [sel_neg (by simp [h2]),if_neg (by simp [h1,h2]),← ev2]
   ·rw [sel_pos (by simpa using h2),if_pos (.inr (.inr h2))]
    rfl
  ·rw [sel_pos (by simpa using h1),if_pos (.inr (.inl h1))]
   rfl
 ·cases h
theorem w32:Walked Tryz.prog G 32 5 sp32:=by
 refine ⟨Tryz.f32,Tryz.func32,by decide +kernel,rfl,fun xs bl r h=> ?_⟩
 unfold sp32 at h
 split at h
 ·rename_i rl els n i now
  obtain ⟨hpre,h2⟩:=chk_inv h;cases h2
  refine Eq.trans (b:=(Zq (chk (List.all els Kerb.isEntry&&decide (Zv els≤1000000)) (some (Yx [Zz .i64 (Yw (Kerb.useEnt (Kerb.Db.mk rl (Vv Wb els)) n i now 1 1 5)),Zz .i64 (Yy (Kerb.useEnt (Kerb.Db.mk rl (Vv Wb els)) n i now 1 1 5))],[]))) fun (r:AV×Blocks)=>onNilB (Yy r) (AV.onTup (Yw r) fun vs=>onCons vs fun x r=>Xj .i64 x fun n=>onCons r fun x r=>Xj .i64 x fun n_1=>onNil r (some (Yx [Zz .i64 n,Zz .i64 n_1],[]))):Option (AV×Blocks))) (by kernel_rfl) ?_
  simp only [hpre,↓A0,A0]
  rfl
 ·cases h
theorem w38:Walked Tryz.prog G 38 5 sp38:=by
 refine ⟨Tryz.f38,Tryz.func38,by decide +kernel,rfl,fun xs bl r h=> ?_⟩
 unfold sp38 at h
 split at h
 ·rename_i b kd k
  obtain ⟨hpre,h2⟩:=chk_inv h;cases h2
  refine Eq.trans (b:=(Zq (chk (decide (Zv b≤140737488355328)) (some (Yx [Zf [Zz .i64 (Kerb.Box.kind (Kerb.GotBox.box (Vq b))),Zz .u64 (Kerb.Box.key (Kerb.GotBox.box (Vq b))),Yz (Kerb.Box.body (Kerb.GotBox.box (Vq b)))],Zz .i64 (Kerb.GotBox.n (Vq b)),Zz .i64 (Kerb.GotBox.err (Vq b))],[]))) fun (r:AV×Blocks)=>onNilB (Yy r) (AV.onTup (Yw r) fun vs=>onCons vs fun x r=>Xb x fun cs=>onCons cs fun x r_1=>Xj .i64 x fun n=>onCons r_1 fun x r_2=>Xj .u64 x fun n_1=>onCons r_2 fun x r_3=>AV.onBs x fun b_1=>onNil r_3 (onCons r fun x r=>Xj .i64 x fun n_2=>onCons r fun x r=>Xj .i64 x fun n_3=>onNil r (sel (!n_3==0) (some (Yx [Yz [],Zg false],[])) (sel (!n_2==(↑(Zv b):Int)) (some (Yx [Yz [],Zg false],[])) (sel (!n==kd) (some (Yx [Yz [],Zg false],[])) (sel (!n_1==k) (some (Yx [Yz [],Zg false],[])) (some (Yx [Yz b_1,Zg true],[])))))))):Option (AV×Blocks))) (by kernel_rfl) ?_
  simp only [↓A0,hpre]
  unfold Kerb.openBox
  generalize Vq b=r
  by_cases h1:r.err=0
  case neg=>rw [sel_pos (by simpa using h1),if_pos (.inl h1)]
  rw [sel_neg (by simpa using h1)]
  by_cases h2:r.n=b.length
  case neg=>rw [sel_pos (by simpa using h2),if_pos (.inr (.inl h2))]
  rw [sel_neg (by simpa using h2)]
  by_cases h3:r.box.kind=kd
  case neg=>rw [sel_pos (by simpa using h3),if_pos (.inr (.inr (.inl h3)))]
  rw [sel_neg (by simpa using h3)]
  by_cases h4:r.box.key=k
  case neg=>rw [sel_pos (by simpa using h4),if_pos (.inr (.inr (.inr h4)))]
  rw [sel_neg (by simpa using h4),if_neg (by simp [h1,h2,h3,h4])]
 ·cases h
theorem w65:Walked Tryz.prog G 65 5 sp65:=by
 refine ⟨Tryz.f65,Tryz.func65,by decide +kernel,rfl,fun xs bl r h=> ?_⟩
 unfold sp65 at h
 split at h
 ·rename_i rl els n i now
  obtain ⟨hpre,h2⟩:=chk_inv h;cases h2
  refine Eq.trans (b:=(Zq (chk (List.all els Kerb.isEntry&&decide (Zv els≤1000000)) (some (Yx [Zz .i64 (Yw (Kerb.useEnt (Kerb.Db.mk rl (Vv Wb els)) n i now 2 2 6)),Zz .i64 (Yy (Kerb.useEnt (Kerb.Db.mk rl (Vv Wb els)) n i now 2 2 6))],[]))) fun (r:AV×Blocks)=>onNilB (Yy r) (AV.onTup (Yw r) fun vs=>onCons vs fun x r=>Xj .i64 x fun n=>onCons r fun x r=>Xj .i64 x fun n_1=>onNil r (some (Yx [Zz .i64 n,Zz .i64 n_1],[]))):Option (AV×Blocks))) (by kernel_rfl) ?_
  simp only [hpre,↓A0,A0]
  rfl
 ·cases h
theorem w78:Walked Tryz.prog G 78 5 sp78:=by
 refine ⟨Tryz.f78,Tryz.func78,by decide +kernel,rfl,fun xs bl r h=> ?_⟩
 unfold sp78 at h
 split at h
 ·rename_i li x y z ad k lf iss sv ins
  obtain ⟨hpre,h2⟩:=chk_inv h;cases h2
  refine Eq.trans (b:=(let t0:Nat:=Zv ([]++Yd 0 1 false)+Zv x+Zv y+Zv z;let t1:Nat:=Zv ([]++Yd 1 1 false)+Zv x+Zv y+Zv z;let t2:Option (AV×Blocks):=chk (decide (0≤k)&&decide (k<18446744073709551616)) (some (Yz (Kerb.keyBytes k),[]));Zq (chk (l63 x&&l63 y&&l63 z&&l63 sv&&l63 ins&&decide (0≤k)&&decide (k<18446744073709551616)) (some (Zz .i64 (Kerb.Ticket.err (Kerb.Ticket.mk li (Yn x y z) ad k lf iss sv ins)),[]))) (kI .i64 fun n=>sel (!n==0) (some (Yx [Yz [],Zz .i64 n],[])) (sel li (Zq (chk (decide (t1≤70368744170000)) (some (Yz (Vm ([]++Yd 1 1 false) (Yn x y z)),[]))) (kB fun b=>Zq (chk (decide (Zv b≤70368744177664)) (some (Xd (b++Yd ad 4 li),[]))) (kO fun l=>Zq t2 (kB fun b=>chk (room (Zv l+Zv b) 1) (Zq (chk (decide (Zv (l++b)≤70368744177664)) (some (Xd (l++b++Yd lf 1 false),[]))) (kO fun l=>Zq (chk (decide (Zv l≤70368744177664)) (some (Xd (l++Yd iss 4 li),[]))) (kO fun l=>Zq (chk (decide (Zv l+Zv sv≤70368744177664)) (some (Yz (Yq l sv),[]))) (kB fun b=>Zq (chk (decide (Zv b+Zv ins≤70368744177664)) (some (Yz (Yq b ins),[]))) (kB fun b=>Zq (chk (decide (Zv b≤70368744177664)) (some (Xd (Kerb.pad b),[]))) (kO fun l=>some (Yx [Yz l,Zz .i64 0],[]))))))))))) (Zq (chk (decide (t0≤70368744170000)) (some (Yz (Vm ([]++Yd 0 1 false) (Yn x y z)),[]))) (kB fun b=>Zq (chk (decide (Zv b≤70368744177664)) (some (Xd (b++Yd ad 4 li),[]))) (kO fun l=>Zq t2 (kB fun b=>chk (room (Zv l+Zv b) 1) (Zq (chk (decide (Zv (l++b)≤70368744177664)) (some (Xd (l++b++Yd lf 1 false),[]))) (kO fun l=>Zq (chk (decide (Zv l≤70368744177664)) (some (Xd (l++Yd iss 4 li),[]))) (kO fun l=>Zq (chk (decide (Zv l+Zv sv≤70368744177664)) (some (Yz (Yq l sv),[]))) (kB fun b=>Zq (chk (decide (Zv b+Zv ins≤70368744177664)) (some (Yz (Yq b ins),[]))) (kB fun b=>Zq (chk (decide (Zv b≤70368744177664)) (some (Xd (Kerb.pad b),[]))) (kO fun l=>some (Yx [Yz l,Zz .i64 0],[]))))))))))))):Option (AV×Blocks))) (by kernel_rfl) ?_
  delta kB kO kI
  try dsimp only [cStr,cBs,cBool,cU8,cInt,cSl,l63]
  simp only [Yu,decide_eq_true_eq] at hpre
  obtain ⟨⟨⟨⟨⟨⟨h1,h2⟩,h3⟩,h4⟩,h5⟩,h6⟩,h7⟩:=hpre
  simp only [h1,h2,h3,h4,h5,h6,h7,decide_true,Xq,↓A0,A0]
  have hb := @Kerb.encTicket_inv ⟨li,⟨x,y,z⟩,ad,k,lf,iss,sv,ins⟩
  unfold Uu at hb ⊢
  dsimp only at hb ⊢
  generalize hE:Kerb.Ticket.err _=e at hb ⊢
  by_cases he:e=0
  case neg=>rw [sel_pos (by simpa using he),if_pos he]
  rw [if_neg (by simpa using he)] at hb
  obtain ⟨v1,v2,v3,_⟩:=hb rfl
  have l1:=Uw v1
  have l2:=(Kerb.name_ok v2).1
  have l3:=(Kerb.inst_ok v3).1
  dsimp only at l1
  rw [sel_neg (by simpa using he),if_neg (by simpa using he)]
  cases li
  ·rw [sel_false,chk_of (by first | (simp [Zj,Zm,Zn];done) | (simp [Zj,Zm,Zn];omega)),chk_of (by first | (simp [Zj,Zm,Zn];done) | (simp [Zj,Zm,Zn];omega)),chk_of (Vu (by first | (simp [Zj,Zm,Zn];done) | (simp [Zj,Zm,Zn];omega))),chk_of (by first | (simp [Zj,Zm,Zn];done) | (simp [Zj,Zm,Zn];omega)),chk_of (by first | (simp [Zj,Zm,Zn];done) | (simp [Zj,Zm,Zn];omega)),chk_of (by first | (simp [Zj,Zm,Zn];done) | (simp [Zj,Zm,Zn];omega)),chk_of (by first | (simp [Yq,Zj,Zm,Zn];done) | (simp [Yq,Zj,Zm,Zn];omega)),chk_of (by first | (simp [Yq,Zj,Zm,Zn];done) | (simp [Yq,Zj,Zm,Zn];omega))]
   simp
  ·rw [sel_true,chk_of (by first | (simp [Zj,Zm,Zn];done) | (simp [Zj,Zm,Zn];omega)),chk_of (by first | (simp [Zj,Zm,Zn];done) | (simp [Zj,Zm,Zn];omega)),chk_of (Vu (by first | (simp [Zj,Zm,Zn];done) | (simp [Zj,Zm,Zn];omega))),chk_of (by first | (simp [Zj,Zm,Zn];done) | (simp [Zj,Zm,Zn];omega)),chk_of (by first | (simp [Zj,Zm,Zn];done) | (simp [Zj,Zm,Zn];omega)),chk_of (by first | (simp [Zj,Zm,Zn];done) | (simp [Zj,Zm,Zn];omega)),chk_of (by first | (simp [Yq,Zj,Zm,Zn];done) | (simp [Yq,Zj,Zm,Zn];omega)),chk_of (by first | (simp [Yq,Zj,Zm,Zn];done) | (simp [Yq,Zj,Zm,Zn];omega))]
   simp
 ·cases h
theorem w89:Walked Tryz.prog G 89 5 sp89:=by
 refine ⟨Tryz.f89,Tryz.func89,by decide +kernel,rfl,fun xs bl r h=> ?_⟩
 unfold sp89 at h
 split at h
 ·rename_i s
  obtain ⟨hpre,h2⟩:=chk_inv h;cases h2
  refine Eq.trans (b:=(sel (!s==[]) (sel (decide ((↑(Zv s):Int)≤39)) (Zq (chk (decide (Zv s≤9223372036854775807)) (some (Zg (Wq s [(46:UInt8),(64:UInt8)]),[]))) fun (r:AV×Blocks)=>onNilB (Yy r) (Vw (Yw r) fun b=>some (Zg b,[]))) (some (Zg false,[]))) (some (Zg false,[])):Option (AV×Blocks))) (by kernel_rfl) ?_
  simp only [A0]
  rw [chk_of hpre,decide_eq_decide.2 (show ((s.length:Int)≤39)↔s.length≤39 from by omega)]
  simp only [Wy]
  cases s with
  | nil=>rfl
  | cons x r=>cases decide ((x::r).length≤39)<;>rfl
 ·cases h
theorem w90:Walked Tryz.prog G 90 5 sp90:=by
 refine ⟨Tryz.f90,Tryz.func90,by decide +kernel,rfl,fun xs bl r h=> ?_⟩
 unfold sp90 at h
 split at h
 ·rename_i s
  obtain ⟨hpre,h2⟩:=chk_inv h;cases h2
  refine Eq.trans (b:=(sel (decide ((↑(Zv s):Int)≤39)) (Zq (chk (decide (Zv s≤9223372036854775807)) (some (Zg (Wq s [(64:UInt8)]),[]))) fun (r:AV×Blocks)=>onNilB (Yy r) (Vw (Yw r) fun b=>some (Zg b,[]))) (some (Zg false,[])):Option (AV×Blocks))) (by kernel_rfl) ?_
  simp only [A0]
  rw [chk_of hpre,decide_eq_decide.2 (show ((s.length:Int)≤39)↔s.length≤39 from by omega)]
  simp only [Xg]
  cases decide (s.length≤39)<;>rfl
 ·cases h
theorem w39:Walked Tryz.prog G 39 6 sp39:=by
 refine ⟨Tryz.f39,Tryz.func39,by decide +kernel,rfl,fun xs bl r h=> ?_⟩
 unfold sp39 at h
 split at h
 ·rename_i b
  obtain ⟨hpre,h2⟩:=chk_inv h;cases h2
  refine Eq.trans (b:=(let t2:AV:=Zf [Zg false,Zy [],Zy [],Zy [],Zz .i64 0,Zz .u64 0,Zz .i64 0,Zz .i64 0,Zy [],Zy []];let t1:Option (AV×Blocks):=some (Yx [t2,Zz .i64 100],[]);let t0:Option (AV×Blocks):=Zq (chk (decide (Zv b≤140737488355328)) (some (Zz .i64 (Wf (Yp b 0 1 false)),[[Yz b,Zz .i64 (bif false || !Xv (Yp b 0 1 false)==0 then 0 else Wj (Yp b 0 1 false)),Zg false,Zg !Xv (Yp b 0 1 false)==0]]))) fun (r:AV×Blocks)=>onConsB (Yy r) fun (x:List AV) (r_1:List (List AV))=>cBs x fun b_1 r_2=>cInt .i64 r_2 fun n r_3=>cBool r_3 fun b_2 r_4=>cBool r_4 fun b_3 r_5=>onNil r_5 (onNilB r_1 (Xj .i64 (Yw r) fun n_1=>Zq (chk (decide (Zv b_1≤140737488355328)) (some (Zf [Zy (Xm (Up (Xw b_1 n b_3))),Zy (Xh (Up (Xw b_1 n b_3))),Zy (Xf (Up (Xw b_1 n b_3)))],[[Yz b_1,Zz .i64 (Kerb.RdP.pos (Xw b_1 n b_3)),Zg (n_1==1),Zg (Kerb.RdP.bad (Xw b_1 n b_3))]]))) fun (r:AV×Blocks)=>onConsB (Yy r) fun (x:List AV) (r_6:List (List AV))=>cBs x fun b_4 r_7=>cInt .i64 r_7 fun n r_8=>cBool r_8 fun b_5 r_9=>cBool r_9 fun b_6 r_10=>onNil r_10 (onNilB r_6 (Xb (Yw r) fun cs=>cStr cs fun b_7 r=>cStr r fun b_8 r=>cStr r fun b_9 r=>onNil r (Zq (chk (decide (Zv b_4≤140737488355328)) (some (Zz .i64 (Wf (Yp b_4 n 4 b_5)),[[Yz b_4,Zz .i64 (bif b_6 || !Xv (Yp b_4 n 4 b_5)==0 then n else Wj (Yp b_4 n 4 b_5)),Zg b_5,Zg (b_6 || !Xv (Yp b_4 n 4 b_5)==0)]]))) fun (r:AV×Blocks)=>onConsB (Yy r) fun (x:List AV) (r_11:List (List AV))=>cBs x fun b_10 r_12=>cInt .i64 r_12 fun n r_13=>cBool r_13 fun b_11 r_14=>cBool r_14 fun b_12 r_15=>onNil r_15 (onNilB r_11 (Xj .i64 (Yw r) fun n_2=>Zq (chk (decide (Zv b_10≤140737488355328)) (some (Yz (Ux (Kerb.bytes b_10 n 8)),[[Yz b_10,Zz .i64 (bif b_12 || !Ww (Kerb.bytes b_10 n 8)==0 then n else Vb (Kerb.bytes b_10 n 8)),Zg b_11,Zg (b_12 || !Ww (Kerb.bytes b_10 n 8)==0)]]))) fun (r:AV×Blocks)=>onConsB (Yy r) fun (x:List AV) (r_16:List (List AV))=>cBs x fun b_13 r_17=>cInt .i64 r_17 fun n r_18=>cBool r_18 fun b_14 r_19=>cBool r_19 fun b_15 r_20=>onNil r_20 (onNilB r_16 (AV.onBs (Yw r) fun b_16=>Zq (chk (decide (Zv b_16≤4611686018427387904)) (some (Yx [Zz .u64 (Yw (Vj b_16)),Zg (Yy (Vj b_16))],[]))) (kT fun vs=>cInt .u64 vs fun n_3 r=>cBool r fun b_17 r=>onNil r (Zq (chk (decide (Zv b_13≤140737488355328)) (some (Zz .i64 (Wf (Yp b_13 n 1 false)),[[Yz b_13,Zz .i64 (bif b_15 || !Xv (Yp b_13 n 1 false)==0 then n else Wj (Yp b_13 n 1 false)),Zg b_14,Zg (b_15 || !Xv (Yp b_13 n 1 false)==0)]]))) fun (r:AV×Blocks)=>onConsB (Yy r) fun (x:List AV) (r_21:List (List AV))=>cBs x fun b_18 r_22=>cInt .i64 r_22 fun n r_23=>cBool r_23 fun b_19 r_24=>cBool r_24 fun b_20 r_25=>onNil r_25 (onNilB r_21 (Xj .i64 (Yw r) fun n_4=>Zq (chk (decide (Zv b_18≤140737488355328)) (some (Zz .i64 (Wf (Yp b_18 n 4 b_19)),[[Yz b_18,Zz .i64 (bif b_20 || !Xv (Yp b_18 n 4 b_19)==0 then n else Wj (Yp b_18 n 4 b_19)),Zg b_19,Zg (b_20 || !Xv (Yp b_18 n 4 b_19)==0)]]))) fun (r:AV×Blocks)=>onConsB (Yy r) fun (x:List AV) (r_26:List (List AV))=>cBs x fun b_21 r_27=>cInt .i64 r_27 fun n r_28=>cBool r_28 fun b_22 r_29=>cBool r_29 fun b_23 r_30=>onNil r_30 (onNilB r_26 (Xj .i64 (Yw r) fun n_5=>Zq (chk (decide (Zv b_21≤140737488355328)) (some (Zy (Ux (Xu b_21 n)),[[Yz b_21,Zz .i64 (bif b_23 || !Ww (Xu b_21 n)==0 then n else Vb (Xu b_21 n)),Zg b_22,Zg (b_23 || !Ww (Xu b_21 n)==0)]]))) fun (r:AV×Blocks)=>onConsB (Yy r) fun (x:List AV) (r_31:List (List AV))=>cBs x fun b_24 r_32=>cInt .i64 r_32 fun n r_33=>cBool r_33 fun b_25 r_34=>cBool r_34 fun b_26 r_35=>onNil r_35 (onNilB r_31 (AV.onStr (Yw r) fun b_27=>Zq (chk (decide (Zv b_24≤140737488355328)) (some (Zy (Ux (Xu b_24 n)),[[Yz b_24,Zz .i64 (bif b_26 || !Ww (Xu b_24 n)==0 then n else Vb (Xu b_24 n)),Zg b_25,Zg (b_26 || !Ww (Xu b_24 n)==0)]]))) fun (r:AV×Blocks)=>onConsB (Yy r) fun (x:List AV) (r_36:List (List AV))=>cBs x fun b_28 r_37=>cInt .i64 r_37 fun n r_38=>cBool r_38 fun b_29 r_39=>cBool r_39 fun b_30 r_40=>onNil r_40 (onNilB r_36 (AV.onStr (Yw r) fun b_31=>Zq (chk (l63 b_7&&l63 b_8&&l63 b_9&&l63 b_27&&l63 b_31&&decide (0≤n_3)&&decide (n_3<18446744073709551616)) (some (Yx [Yz (Kerb.Enc.val (Uu (Kerb.Ticket.mk (n_1==1) (Yn b_7 b_8 b_9) n_2 n_3 n_4 n_5 b_27 b_31))),Zz .i64 (Kerb.Enc.err (Uu (Kerb.Ticket.mk (n_1==1) (Yn b_7 b_8 b_9) n_2 n_3 n_4 n_5 b_27 b_31)))],[]))) (kT fun vs=>cBs vs fun b_32 r=>cInt .i64 r fun n r=>onNil r (sel b_30 t1 (sel (!n==0) t1 (sel (!b_32==b) t1 (some (Yx [Zf [Zg (n_1==1),Zy b_7,Zy b_8,Zy b_9,Zz .i64 n_2,Zz .u64 n_3,Zz .i64 n_4,Zz .i64 n_5,Zy b_27,Zy b_31],Zz .i64 0],[])))))))))))))))))))))))));sel (decide ((↑(Zv b):Int)>0)) (chk (decide (0<(↑(Zv b):Int))) (sel (decide ((↑(Xk (Yk b (Zb 0) (0:UInt8))):Int)>(↑(Xk (1:UInt8)):Int))) (some (Yx [t2,Zz .i64 7],[])) t0)) t0:Option (AV×Blocks))) (by kernel_rfl) ?_
  delta kT
  try dsimp only [cStr,cBs,cBool,cU8,cInt,cSl,l63]
  have hb:=of_decide_eq_true hpre
  simp only [hpre,↓A0,A0]
  unfold Yb
  rw [Kerb.decTicket_ref]
  have hl:∀ p n,(Kerb.bytes b p n).val.length≤4611686018427387904:=fun p n=>Yh (Kerb.bytes_len b p n) (by omega)
  have hk:∀ q,0≤(Vj q).1∧(Vj q).1<18446744073709551616:=Kerb.keyRead_bd
  have hx:∀ q,(Xu b q).val.length≤40:=Uk b
  have lp:∀ q bd,(Xw b q bd).p.name.length≤40∧(Xw b q bd).p.inst.length≤40∧(Xw b q bd).p.realm.length≤40:=Kerb.rdPrin_len b
  have h7b:¬ (0<b.length)→¬ 1<(Yp b 0 1 false).val:=by
   intro h
   have:b=[]:=List.eq_nil_of_length_eq_zero (by omega)
   subst this
   decide
  have hv:0<b.length→(Yp b 0 1 false).val=((Yk b (Zb 0) 0).toNat:Int):=by
   intro h
   cases b with
   | nil=>simp at h
   | cons c r =>
    have hr:Kerb.room (c::r) 0 1=0:=Kerb.room_zero.2 ⟨by omega,by simp only [List.length_cons];omega,by omega,by simp only [List.length_cons];omega⟩
    unfold Yp
    rw [if_pos hr]
    simp [Kerb.cut,Kerb.valB]
  have fin:=Kerb.decBy_fin (no:=Kerb.noTicket) (enc:=Uu) (b:=b) (rd:=fun b=>((Kerb.rdTicket b).val,(Kerb.rdTicket b).bad)) _ _ rfl (fun x e=>(Yx [Zf [Zg (x).little,Zy (x).client.name,Zy (x).client.inst,Zy (x).client.realm,Zz Zx (x).address,Zz Yj (x).session,Zz Zx (x).life,Zz Zx (x).issued,Zy (x).service,Zy (x).inst],Zz Zx e],([]:Blocks)))
  by_cases h:0<b.length
  ·rw [sel_pos (by simp only [decide_eq_true_eq];omega),chk_of (by simp only [decide_eq_true_eq];omega)]
   have hv:=hv h
   by_cases h7:1<(Yp b 0 1 false).val
   ·rw [sel_pos (by rw [hv] at h7;exact decide_eq_true h7),if_pos h7]
    rfl
   rw [sel_neg (by rw [hv] at h7;exact decide_eq_false h7),if_neg h7]
   rw [chk_of (by simp only [decide_eq_true_eq];exact hl _ _),chk_of (by simp only [Yu,decide_eq_true_eq];exact ⟨⟨⟨⟨⟨⟨Yh (lp _ _).1 (by decide),Yh (lp _ _).2.1 (by decide)⟩,Yh (lp _ _).2.2 (by decide)⟩,Yh (hx _) (by decide)⟩,Yh (hx _) (by decide)⟩,(hk _).1⟩,(hk _).2⟩)]
   exact fin
  ·rw [sel_neg (by simp only [decide_eq_false_iff_not];omega),if_neg (h7b h)]
   rw [chk_of (by simp only [decide_eq_true_eq];exact hl _ _),chk_of (by simp only [Yu,decide_eq_true_eq];exact ⟨⟨⟨⟨⟨⟨Yh (lp _ _).1 (by decide),Yh (lp _ _).2.1 (by decide)⟩,Yh (lp _ _).2.2 (by decide)⟩,Yh (hx _) (by decide)⟩,Yh (hx _) (by decide)⟩,(hk _).1⟩,(hk _).2⟩)]
   exact fin
 ·cases h
theorem w63:Walked Tryz.prog G 63 6 sp63:=by
 refine ⟨Tryz.f63,Tryz.func63,by decide +kernel,rfl,fun xs bl r h=> ?_⟩
 unfold sp63 at h
 split at h
 ·rename_i s
  obtain ⟨hpre,h2⟩:=chk_inv h;cases h2
  refine Eq.trans (b:=(sel (!s==[]) (Zq (chk (decide (Zv s≤9223372036854775807)) (some (Zg (Xg s),[]))) fun (r:AV×Blocks)=>onNilB (Yy r) (Vw (Yw r) fun b=>some (Zg b,[]))) (some (Zg false,[])):Option (AV×Blocks))) (by kernel_rfl) ?_
  simp only [A0]
  rw [chk_of hpre]
  simp only [Kerb.validRealm]
  cases s<;>rfl
 ·cases h
theorem w13:Walked Tryz.prog G 13 7 sp13:=by
 refine ⟨Tryz.f13,Tryz.func13,by decide +kernel,rfl,fun xs bl r h=> ?_⟩
 unfold sp13 at h
 split at h
 ·rename_i b k
  obtain ⟨hpre,h2⟩:=chk_inv h;cases h2
  refine Eq.trans (b:=(Zq (chk (decide (Zv b≤140737488355328)) (some (Yx [Yz (Yw (Kerb.openBox b 1 k)),Zg (Yy (Kerb.openBox b 1 k))],[]))) (kT fun vs=>cBs vs fun b r=>cBool r fun b_1 r=>onNil r (sel (!b_1) (some (Yx [Zf [Zg false,Zy [],Zy [],Zy [],Zz .i64 0,Zz .u64 0,Zz .i64 0,Zz .i64 0,Zy [],Zy []],Zz .i64 31],[])) (Zq (chk (decide (Zv b≤140737488355328)) (some (Yx [Zf [Zg (Kerb.Ticket.little (Wx (Yb b))),Zy (Xm (Kerb.Ticket.client (Wx (Yb b)))),Zy (Xh (Kerb.Ticket.client (Wx (Yb b)))),Zy (Xf (Kerb.Ticket.client (Wx (Yb b)))),Zz .i64 (Kerb.Ticket.address (Wx (Yb b))),Zz .u64 (Kerb.Ticket.session (Wx (Yb b))),Zz .i64 (Kerb.Ticket.life (Wx (Yb b))),Zz .i64 (Kerb.Ticket.issued (Wx (Yb b))),Zy (Kerb.Ticket.service (Wx (Yb b))),Zy (Kerb.Ticket.inst (Wx (Yb b)))],Zz .i64 (Kerb.Dec.err (Yb b))],[]))) (kT fun vs=>onCons vs fun x r=>Xb x fun cs=>cBool cs fun b r_1=>cStr r_1 fun b_2 r_2=>cStr r_2 fun b_3 r_3=>cStr r_3 fun b_4 r_4=>cInt .i64 r_4 fun n r_5=>cInt .u64 r_5 fun n_1 r_6=>cInt .i64 r_6 fun n_2 r_7=>cInt .i64 r_7 fun n_3 r_8=>cStr r_8 fun b_5 r_9=>cStr r_9 fun b_6 r_10=>onNil r_10 (cInt .i64 r fun n_4 r=>onNil r (some (Yx [Zf [Zg b,Zy b_2,Zy b_3,Zy b_4,Zz .i64 n,Zz .u64 n_1,Zz .i64 n_2,Zz .i64 n_3,Zy b_5,Zy b_6],Zz .i64 n_4],[]))))))):Option (AV×Blocks))) (by kernel_rfl) ?_
  delta kT
  try dsimp only [cStr,cBs,cBool,cU8,cInt,cSl,l63]
  have hb:=of_decide_eq_true hpre
  have hl:=Kerb.openBox_len b 1 k
  simp only [hpre,↓A0,A0]
  unfold Kerb.openTicket
  cases h:(Kerb.openBox b 1 k).2
  ·rfl
  ·rw [sel_neg (by simp),chk_of (by simp;omega)]
   rfl
 ·cases h
theorem w33:Walked Tryz.prog G 33 7 sp33:=by
 refine ⟨Tryz.f33,Tryz.func33,by decide +kernel,rfl,fun xs bl r h=> ?_⟩
 unfold sp33 at h
 split at h
 ·rename_i rl els xls n i now
  obtain ⟨hpre,h2⟩:=chk_inv h;cases h2
  refine Eq.trans (b:=(let t0:Option (AV×Blocks):=Zq (chk (List.all els Kerb.isEntry&&decide (Zv els≤1000000)) (some (Yx [Zz .i64 (Yw (Vn (Kerb.Db.mk rl (Vv Wb els)) n i now)),Zz .i64 (Yy (Vn (Kerb.Db.mk rl (Vv Wb els)) n i now))],[]))) (kT fun vs=>cInt .i64 vs fun n r=>cInt .i64 r fun n_1 r=>onNil r (sel (!n_1==0) (some (Yx [Zz .u64 0,Zz .i64 0,Zz .i64 0,Zz .i64 0,Zz .i64 n_1],[])) (chk (decide (0≤n)&&decide (n<(↑(Zv els):Int))&&true) (Xb (Yk els (Zb n) Xx) fun cs=>cStr cs fun b r=>cStr r fun b r=>cInt .u64 r fun n r=>cInt .i64 r fun n_2 r=>cInt .i64 r fun n_3 r=>cInt .i64 r fun n_4 r=>cInt .i64 r fun n_5 r=>cInt .i64 r fun n_6 r=>cInt .i64 r fun n_7 r=>onNil r (some (Yx [Zz .u64 n,Zz .i64 n_2,Zz .i64 n_4,Zz .i64 n_3,Zz .i64 0],[]))))));sel (n==Kerb.krbtgt) (Zq (chk (l63 i) (some (Zg (Kerb.validRealm i),[]))) (kL fun b=>sel b (sel (!i==rl) (Zq (chk (List.all xls Kerb.isCross&&decide (Zv xls≤1000000)) (some (Yx [Zz .i64 (Yw (Vk (Vv Kerb.toCross xls) rl i)),Zg (Yy (Vk (Vv Kerb.toCross xls) rl i))],[]))) (kT fun vs=>cInt .i64 vs fun n r=>cBool r fun b r=>onNil r (sel (!b) (some (Yx [Zz .u64 0,Zz .i64 0,Zz .i64 0,Zz .i64 0,Zz .i64 8],[])) (chk (decide (0≤n)&&decide (n<(↑(Zv xls):Int))&&true) (Xb (Yk xls (Zb n) Xx) fun cs=>cStr cs fun b r=>cStr r fun b r=>cInt .i64 r fun n_1 r=>cInt .u64 r fun n_2 r=>onNil r (chk (decide (0≤n)&&decide (n<(↑(Zv xls):Int))&&true) (Xb (Yk xls (Zb n) Xx) fun cs=>cStr cs fun b r=>cStr r fun b r=>cInt .i64 r fun n r=>cInt .u64 r fun n_3 r=>onNil r (some (Yx [Zz .u64 n_2,Zz .i64 n,Zz .i64 255,Zz .i64 0,Zz .i64 0],[]))))))))) t0) t0)) t0:Option (AV×Blocks))) (by kernel_rfl) ?_
  delta kT kL
  try dsimp only [cStr,cBs,cBool,cU8,cInt,cSl,l63]
  simp only [Yu,decide_eq_true_eq] at hpre
  obtain ⟨⟨⟨⟨hall,hlen⟩,hx⟩,hxl⟩,hi⟩:=hpre
  obtain ⟨es,rfl,hok⟩:=Kerb.ents_of hall
  obtain ⟨cs,rfl⟩:=Kerb.cross_of hx
  rw [Kerb.map_toEntry,Kerb.map_toCross]
  simp only [hall,hlen,hx,hxl,hi,decide_true,Xq,↓A0,A0]
  simp only [Wk] at hlen hxl ⊢
  unfold Kerb.svc
  dsimp only
  have hkr:(n==[(107:UInt8),(114:UInt8),(98:UInt8),(116:UInt8),(103:UInt8),(116:UInt8)])=(n==Kerb.krbtgt):=rfl
  try rw [hkr]
  cases n==Kerb.krbtgt
  ·simp only [Yv,Wg,sel_true,sel_false]
   by_cases he:(Vn ⟨rl,es⟩ n i now).2=0
   case neg=>rw [sel_pos (by simpa using he),if_neg (by simp),if_pos he]
   obtain ⟨u1,u2⟩:=Kerb.serv_lt he
   dsimp only at u2
   rw [sel_neg (by simpa using he),if_neg (by simp),if_neg (by simpa using he),chk_of (by simp;omega),Kerb.getD_ent u2]
   simp only [Zp,↓A0,A0]
  cases Kerb.validRealm i
  ·simp only [Yv,Wg,sel_true,sel_false]
   by_cases he:(Vn ⟨rl,es⟩ n i now).2=0
   case neg=>rw [sel_pos (by simpa using he),if_neg (by simp),if_pos he]
   obtain ⟨u1,u2⟩:=Kerb.serv_lt he
   dsimp only at u2
   rw [sel_neg (by simpa using he),if_neg (by simp),if_neg (by simpa using he),chk_of (by simp;omega),Kerb.getD_ent u2]
   simp only [Zp,↓A0,A0]
  cases i==rl
  ·simp only [Yv,Wg,sel_true,sel_false]
   by_cases he:(Vk cs rl i).2=true
   ·obtain ⟨u1,u2⟩:=Kerb.findCross_lt he
    have hk:(decide (0≤(Vk cs rl i).1)&&decide ((Vk cs rl i).1<(cs.length:Int))&&true)=true:=by simp;omega
    simp only [he,hk,Kerb.getD_cross u2,Ym,Yv,Xq,Wg,if_true,↓A0,A0]
   ·have he2:(Vk cs rl i).2=false:=by simpa using he
    rw [he2]
    rfl
  ·simp only [Yv,Wg,sel_true,sel_false]
   by_cases he:(Vn ⟨rl,es⟩ n i now).2=0
   case neg=>rw [sel_pos (by simpa using he),if_neg (by simp),if_pos he]
   obtain ⟨u1,u2⟩:=Kerb.serv_lt he
   dsimp only at u2
   rw [sel_neg (by simpa using he),if_neg (by simp),if_neg (by simpa using he),chk_of (by simp;omega),Kerb.getD_ent u2]
   simp only [Zp,↓A0,A0]
 ·cases h
theorem w85:Walked Tryz.prog G 85 7 sp85:=by
 refine ⟨Tryz.f85,Tryz.func85,by decide +kernel,rfl,fun xs bl r h=> ?_⟩
 unfold sp85 at h
 split at h
 ·rename_i a b c
  obtain ⟨hpre,h2⟩:=chk_inv h;cases h2
  refine Eq.trans (b:=(Zq (chk (decide (Zv a≤9223372036854775807)) (some (Zg (Wy a),[]))) fun (r:AV×Blocks)=>onNilB (Yy r) (Vw (Yw r) fun b_1=>sel b_1 (Zq (chk (decide (Zv b≤9223372036854775807)) (some (Zg (Xg b),[]))) fun (r:AV×Blocks)=>onNilB (Yy r) (Vw (Yw r) fun b=>sel b (Zq (chk (decide (Zv c≤9223372036854775807)) (some (Zg (Kerb.validRealm c),[]))) fun (r:AV×Blocks)=>onNilB (Yy r) (Vw (Yw r) fun b=>some (Zg b,[]))) (some (Zg false,[])))) (some (Zg false,[]))):Option (AV×Blocks))) (by kernel_rfl) ?_
  simp only [Yu,decide_eq_true_eq] at hpre
  simp only [A0]
  rw [chk_of (by simp;omega),chk_of (by simp;omega),chk_of (by simp;omega)]
  simp only [Yf]
  cases Wy a<;>cases Xg b<;>rfl
 ·cases h
theorem w52:Walked Tryz.prog G 52 8 sp52:=by
 refine ⟨Tryz.f52,Tryz.func52,by decide +kernel,rfl,fun xs bl r h=> ?_⟩
 unfold sp52 at h
 split at h
 ·rename_i b pos
  obtain ⟨hpre,h2⟩:=chk_inv h;cases h2
  refine Eq.trans (b:=(Zq (loopM (fun (st:List AV)=>cBs st fun b r=>cInt .i64 r fun n r=>let t0:Option (AV×Blocks):=chk (decide (Zv b≤4611686018427387904)) (some (Yx [Zy (Ux (Xu b n)),Zz .i64 (Vb (Xu b n)),Zz .i64 (Ww (Xu b n))],[]));cStr r fun b_1 r=>cStr r fun b_2 r=>cStr r fun b_3 r=>cInt .i64 r fun n_1 r=>cInt .i64 r fun n_2 r=>cStr r fun b_4 r=>cStr r fun b_5 r=>cStr r fun b_6 r=>cInt .i64 r fun n_3 r=>cInt .i64 r fun n_4 r=>let t1:List AV:=[Zy b_6,Zz .i64 n_3,Zz .i64 (Zk .i64 (n_4+1))];onNil r (sel (decide (n_4<n_3)) (chk (decide (0≤n_4)&&decide (n_4<(↑(Zv [0,1,2]):Int))&&true) (sel (Vz (Zb n_4) 0) (Zq t0 (kT fun vs=>cStr vs fun b_7 r=>cInt .i64 r fun n r=>cInt .i64 r fun n_5 r=>onNil r (sel (!n_5==0) (some (Wh (Ex.ret,[Yz b,Zz .i64 n,Zy [],Zy [],Zy [],Zz .i64 0,Zz .i64 n_5,Zy b_7,Zy b_5,Zy b_6,Zz .i64 n_3,Zz .i64 n_4]))) (some (Wn (Yz b::Zz .i64 n::Zy b_1::Zy b_2::Zy b_3::Zz .i64 n_1::Zz .i64 n_2::Zy b_7::Zy b_5::t1)))))) (sel (Vz (Zb n_4-1) 0) (Zq t0 (kT fun vs=>cStr vs fun b_7 r=>cInt .i64 r fun n r=>cInt .i64 r fun n_5 r=>onNil r (sel (!n_5==0) (some (Wh (Ex.ret,[Yz b,Zz .i64 n,Zy [],Zy [],Zy [],Zz .i64 0,Zz .i64 n_5,Zy b_4,Zy b_7,Zy b_6,Zz .i64 n_3,Zz .i64 n_4]))) (some (Wn (Yz b::Zz .i64 n::Zy b_1::Zy b_2::Zy b_3::Zz .i64 n_1::Zz .i64 n_2::Zy b_4::Zy b_7::t1)))))) (sel (Vz (Zb n_4-1-1) 0) (Zq t0 (kT fun vs=>cStr vs fun b_7 r=>cInt .i64 r fun n r=>cInt .i64 r fun n_5 r=>onNil r (sel (!n_5==0) (some (Wh (Ex.ret,[Yz b,Zz .i64 n,Zy [],Zy [],Zy [],Zz .i64 0,Zz .i64 n_5,Zy b_4,Zy b_5,Zy b_7,Zz .i64 n_3,Zz .i64 n_4]))) (some (Wn [Yz b,Zz .i64 n,Zy b_1,Zy b_2,Zy b_3,Zz .i64 n_1,Zz .i64 n_2,Zy b_4,Zy b_5,Zy b_7,Zz .i64 n_3,Zz .i64 (Zk .i64 (n_4+1))]))))) none)))) (some (Wh (Wu 0,[Yz b,Zz .i64 n,Zy b_1,Zy b_2,Zy b_3,Zz .i64 n_1,Zz .i64 n_2,Zy b_4,Zy b_5,Zy b_6,Zz .i64 n_3,Zz .i64 n_4]))))) [Yz b,Zz .i64 pos,Zy [],Zy [],Zy [],Zz .i64 0,Zz .i64 0,Zy [],Zy [],Zy [],Zz .i64 (↑(Zv [0+0,0+1,0+2]):Int),Zz .i64 0]) fun (r:Ex×List AV)=>cBs (Yy r) fun b r_1=>cInt .i64 r_1 fun n r_2=>cStr r_2 fun b r_3=>cStr r_3 fun b_1 r_4=>cStr r_4 fun b_2 r_5=>cInt .i64 r_5 fun n_1 r_6=>cInt .i64 r_6 fun n_2 r_7=>cStr r_7 fun b_3 r_8=>cStr r_8 fun b_4 r_9=>cStr r_9 fun b_5 r_10=>cInt .i64 r_10 fun n_3 r_11=>cInt .i64 r_11 fun n_4 r_12=>onNil r_12 (exK r.1 (some (Yx [Zf [Zy b,Zy b_1,Zy b_2],Zz .i64 n_1,Zz .i64 n_2],[])) fun (j:Nat)=>sel (Vz j 0) (Zq (chk (l63 b_3&&l63 b_4&&l63 b_5) (some (Zg (Yf (Yn b_3 b_4 b_5)),[]))) (kL fun b=>sel (!b) (some (Yx [Zf [Zy [],Zy [],Zy []],Zz .i64 0,Zz .i64 103],[])) (some (Yx [Zf [Zy b_3,Zy b_4,Zy b_5],Zz .i64 n,Zz .i64 0],[])))) none):Option (AV×Blocks))) (by kernel_rfl) ?_
  delta kT kL
  try dsimp only [cStr,cBs,cBool,cU8,cInt,cSl,l63]
  have hb:=of_decide_eq_true hpre
  obtain ⟨T0,hT0⟩:∃ T,T=Xu b pos:=⟨_,rfl⟩
  obtain ⟨T1,hT1⟩:∃ T,T=Xu b T0.next:=⟨_,rfl⟩
  obtain ⟨T2,hT2⟩:∃ T,T=Xu b T1.next:=⟨_,rfl⟩
  have hp:Kerb.prin b pos=if T0.err≠0 then ⟨Kerb.noPrin,0,T0.err⟩ else if T1.err≠0 then ⟨Kerb.noPrin,0,T1.err⟩ else if T2.err≠0 then ⟨Kerb.noPrin,0,T2.err⟩
    else if Yf ⟨T0.val,T1.val,T2.val⟩ then ⟨⟨T0.val,T1.val,T2.val⟩,T2.next,0⟩ else ⟨Kerb.noPrin,0,103⟩:=by
   rw [hT2,hT1,hT0];rfl
  have k0:=Uk b pos
  rw [← hT0] at k0
  have k1:=Uk b T0.next
  rw [← hT1] at k1
  have k2:=Uk b T1.next
  rw [← hT2] at k2
  refine loop_rounds (fun i:Nat=>match i with
    | 0=>[Yz b,Zz Zx pos,Zy [],Zy [],Zy [],Zz Zx 0,Zz Zx 0,Zy [],Zy [],Zy [],Zz Zx 3,Zz Zx 0]
    | 1=>[Yz b,Zz Zx T0.next,Zy [],Zy [],Zy [],Zz Zx 0,Zz Zx 0,Zy T0.val,Zy [],Zy [],Zz Zx 3,Zz Zx 1]
    | 2=>[Yz b,Zz Zx T1.next,Zy [],Zy [],Zy [],Zz Zx 0,Zz Zx 0,Zy T0.val,Zy T1.val,Zy [],Zz Zx 3,Zz Zx 2]
    | _=>[Yz b,Zz Zx T2.next,Zy [],Zy [],Zy [],Zz Zx 0,Zz Zx 0,Zy T0.val,Zy T1.val,Zy T2.val,Zz Zx 3,Zz Zx 3])
   (fun i=>i≤3∧(1≤i→T0.err=0)∧(2≤i→T1.err=0)∧(3≤i→T2.err=0)) (fun i=>3-i)
   (fun r=>(T0.err=0∧T1.err=0∧T2.err=0∧r=(Wu 0,[Yz b,Zz Zx T2.next,Zy [],Zy [],Zy [],Zz Zx 0,Zz Zx 0,Zy T0.val,Zy T1.val,Zy T2.val,Zz Zx 3,Zz Zx 3])) ∨
    ∃ n x y z i,Kerb.prin b pos=⟨Kerb.noPrin,0,(Kerb.prin b pos).err⟩∧r=(Ex.ret,[Yz b,Zz Zx n,Zy [],Zy [],Zy [],Zz Zx 0,Zz Zx (Kerb.prin b pos).err,Zy x,Zy y,Zy z,Zz Zx 3,Zz Zx i])) 0 ⟨by omega,by omega,by omega,by omega⟩ rfl ?_ ?_
  ·rintro i ⟨hi,g0,g1,g2⟩
   have hc:i=0∨i=1∨i=2∨i=3:=by omega
   rcases hc with rfl | rfl | rfl | rfl
   ·simp only [A0]
    rw [sel_pos (by decide),chk_of (by decide),sel_pos (by decide),chk_of hpre,← hT0]
    by_cases h:T0.err=0
    ·rw [sel_neg (by simp [h])]
     exact ⟨_,rfl,1,rfl,⟨by omega,fun _=>h,by omega,by omega⟩,by dsimp only;omega⟩
    ·rw [sel_pos (by simpa using h)]
     exact ⟨_,rfl,.inr ⟨_,_,_,_,_,by rw [hp,if_pos h],by rw [hp,if_pos h]⟩⟩
   ·simp only [A0]
    have e0:=g0 (by omega)
    rw [sel_pos (by decide),chk_of (by decide),sel_neg (by decide),sel_pos (by decide),chk_of hpre,← hT1]
    by_cases h:T1.err=0
    ·rw [sel_neg (by simp [h])]
     exact ⟨_,rfl,2,rfl,⟨by omega,fun _=>e0,fun _=>h,by omega⟩,by dsimp only;omega⟩
    ·rw [sel_pos (by simpa using h)]
     exact ⟨_,rfl,.inr ⟨_,_,_,_,_,by rw [hp,if_neg (by simp [e0]),if_pos h],by rw [hp,if_neg (by simp [e0]),if_pos h]⟩⟩
   ·simp only [A0]
    have e0:=g0 (by omega)
    have e1:=g1 (by omega)
    rw [sel_pos (by decide),chk_of (by decide),sel_neg (by decide),sel_neg (by decide),sel_pos (by decide),chk_of hpre,← hT2]
    by_cases h:T2.err=0
    ·rw [sel_neg (by simp [h])]
     exact ⟨_,rfl,3,rfl,⟨by omega,fun _=>e0,fun _=>e1,fun _=>h⟩,by dsimp only;omega⟩
    ·rw [sel_pos (by simpa using h)]
     exact ⟨_,rfl,.inr ⟨_,_,_,_,_,by rw [hp,if_neg (by simp [e0]),if_neg (by simp [e1]),if_pos h],by rw [hp,if_neg (by simp [e0]),if_neg (by simp [e1]),if_pos h]⟩⟩
   ·simp only [A0]
    rw [sel_neg (by decide)]
    exact ⟨_,rfl,.inl ⟨g0 (by omega),g1 (by omega),g2 (by omega),rfl⟩⟩
  ·rintro r (⟨e0,e1,e2,rfl⟩ | ⟨n,x,y,z,i,h,rfl⟩)
   ·simp only [A0]
    rw [sel_pos (Wz _),chk_of (by simp;omega),hp,if_neg (by simp [e0]),if_neg (by simp [e1]),if_neg (by simp [e2])]
    cases hv:Yf ⟨T0.val,T1.val,T2.val⟩
    ·rfl
    ·rfl
   ·simp only [A0]
    rw [h]
    rfl
 ·cases h
theorem w56:Walked Tryz.prog G 56 8 sp56:=by
 refine ⟨Tryz.f56,Tryz.func56,by decide +kernel,rfl,fun xs bl r h=> ?_⟩
 unfold sp56 at h
 split at h
 ·rename_i li x y z t lf sv ins
  obtain ⟨hpre,h2⟩:=chk_inv h;cases h2
  refine Eq.trans (b:=(let t0:Option (AV×Blocks):=some (Yx [Yz [],Zz .i64 103],[]);let t1:Nat:=Zv (Vy 1 li)+Zv x+Zv y+Zv z;Zq (chk (l63 x&&l63 y&&l63 z) (some (Zg (Yf (Yn x y z)),[]))) (kL fun b=>sel (!b) t0 (Zq (chk (l63 sv) (some (Zg (Wy sv),[]))) (kL fun b=>sel (!b) t0 (Zq (chk (l63 ins) (some (Zg (Xg ins),[]))) (kL fun b=>sel (!b) t0 (sel (!Xz t 4294967295) (some (Yx [Yz [],Zz .i64 104],[])) (sel (!Xz lf 255) (some (Yx [Yz [],Zz .i64 104],[])) (Zq (chk (decide (t1≤70368744170000)) (some (Yz (Vm (Vy 1 li) (Yn x y z)),[]))) (kB fun b=>Zq (chk (decide (Zv b≤70368744177664)) (some (Xd (b++Yd t 4 li),[]))) (kO fun l=>Zq (chk (decide (Zv l≤70368744177664)) (some (Xd (l++Yd lf 1 false),[]))) (kO fun l=>Zq (chk (decide (Zv l+Zv sv≤70368744177664)) (some (Yz (Yq l sv),[]))) (kB fun b=>Zq (chk (decide (Zv b+Zv ins≤70368744177664)) (some (Yz (Yq b ins),[]))) (kB fun b=>some (Yx [Yz b,Zz .i64 0],[])))))))))))))):Option (AV×Blocks))) (by kernel_rfl) ?_
  delta kB kO kL
  try dsimp only [cStr,cBs,cBool,cU8,cInt,cSl,l63]
  simp only [Yu,decide_eq_true_eq] at hpre
  obtain ⟨⟨⟨⟨q1,q2⟩,q3⟩,q4⟩,q5⟩:=hpre
  simp only [A0]
  unfold Kerb.encodeRequest
  rw [chk_of (by simp [q1,q2,q3])]
  cases h1:Yf ⟨x,y,z⟩
  ·rfl
  rw [Yv,sel_false,chk_of (by simp [q4])]
  cases h2:Wy sv
  ·rfl
  rw [Yv,sel_false,chk_of (by simp [q5])]
  cases h3:Xg ins
  ·rfl
  rw [Yv,sel_false]
  cases h4:Xz t 4294967295
  ·rfl
  rw [Yv,sel_false]
  cases h5:Xz lf 255
  ·rfl
  rw [Yv,sel_false]
  have l1:=Uw h1
  have l2:=Kerb.validName_len h2
  have l3:=Kerb.validInst_len h3
  have l4:=Kerb.header_len 1 li
  simp only at l1
  rw [chk_of (by simp;omega),chk_of (by simp [Zj];omega),chk_of (by simp [Zj,Zm];omega),chk_of (by simp [Zj,Zm];omega),chk_of (by simp [Kerb.putText_len,Zj,Zm];omega)]
  rfl
 ·cases h
theorem w60:Walked Tryz.prog G 60 8 sp60:=by
 refine ⟨Tryz.f60,Tryz.func60,by decide +kernel,rfl,fun xs bl r h=> ?_⟩
 unfold sp60 at h
 split at h
 ·rename_i li x y z t cd tx
  obtain ⟨hpre,h2⟩:=chk_inv h;cases h2
  refine Eq.trans (b:=(let t0:Option (AV×Blocks):=some (Yx [Yz [],Zz .i64 104],[]);let t1:Nat:=Zv (Vy 5 li)+Zv x+Zv y+Zv z;Zq (chk (l63 x&&l63 y&&l63 z) (some (Zg (Yf (Yn x y z)),[]))) (kL fun b=>sel (!b) (some (Yx [Yz [],Zz .i64 103],[])) (sel (!Xz t 4294967295) t0 (sel (decide (cd<1)) t0 (sel (decide (cd>99)) t0 (sel (decide ((↑(Zv tx):Int)>39)) (some (Yx [Yz [],Zz .i64 105],[])) (sel (decide (Kerb.indexOf (0:UInt8) tx≥0)) (some (Yx [Yz [],Zz .i64 100],[])) (Zq (chk (decide (t1≤70368744170000)) (some (Yz (Vm (Vy 5 li) (Yn x y z)),[]))) (kB fun b=>Zq (chk (decide (Zv b≤70368744177664)) (some (Xd (b++Yd t 4 li),[]))) (kO fun l=>Zq (chk (decide (Zv l≤70368744177664)) (some (Xd (l++Yd cd 4 li),[]))) (kO fun l=>Zq (chk (decide (Zv l+Zv tx≤70368744177664)) (some (Yz (Yq l tx),[]))) (kB fun b=>some (Yx [Yz b,Zz .i64 0],[])))))))))))):Option (AV×Blocks))) (by kernel_rfl) ?_
  delta kB kO kL
  try dsimp only [cStr,cBs,cBool,cU8,cInt,cSl,l63]
  simp only [Yu,decide_eq_true_eq] at hpre
  obtain ⟨⟨⟨q1,q2⟩,q3⟩,q4⟩:=hpre
  simp only [A0]
  unfold Vd
  rw [chk_of (by simp [q1,q2,q3])]
  cases h1:Yf ⟨x,y,z⟩
  ·rfl
  rw [Yv,sel_false]
  cases h4:Xz t 4294967295
  ·rfl
  rw [Yv,sel_false]
  by_cases h5:1≤cd
  case neg =>
   rw [sel_pos (by simp;omega),if_neg (by simp),if_pos (by simp;omega)]
  by_cases h6:cd≤99
  case neg =>
   rw [sel_neg (by simp;omega),sel_pos (by simp;omega),if_neg (by simp),if_pos (by simp;omega)]
  rw [sel_neg (by simp;omega),sel_neg (by simp;omega),if_neg (by simp),if_neg (by simp;omega)]
  by_cases h7:39<tx.length
  ·rw [sel_pos (by simp;omega),if_pos h7]
  have l1:=Uw h1
  have l4:=Kerb.header_len 5 li
  simp only at l1
  rw [sel_neg (by simp;omega),if_neg h7]
  have hix:=Kerb.indexOf_nonneg 0 tx
  by_cases h8:(0:UInt8)∈tx
  ·rw [sel_pos (by simpa using hix.2 h8),if_pos h8]
  ·rw [sel_neg (by have:=mt hix.1 h8;simp;omega),if_neg h8]
   rw [chk_of (by simp;omega),chk_of (by simp [Zj];omega),chk_of (by simp [Zj,Zm];omega),chk_of (by simp [Zj,Zm];omega)]
 ·cases h
end Go.Proofs.YtkdmekflbaekpaaGreatDoor
