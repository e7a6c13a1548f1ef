/- What the functions of this seat compute. -/
import Derived.Test.YtlhambpafcdkbaaGreatDoorTab
import Derived.Test.YtlhambpafcdkbaaGreatDoorKerbPlain
import Derived.Test.YtlhambpafcdkbaaGreatDoorAbsStep
import Derived.Test.YtlhambpafcdkbaaGreatDoorKerbCli3
import Derived.Test.YtlhambpafcdkbaaGreatDoorKerbCli4
import Derived.Test.YtlhambpafcdkbaaGreatDoorKerbCli5
import Derived.Test.YtlhambpafcdkbaaGreatDoorKerbSrvL
import Derived.Test.YtlhambpafcdkbaaGreatDoorKerbKac2
import Derived.Test.YtlhambpafcdkbaaGreatDoorKerbKac4
import Derived.Test.YtlhambpafcdkbaaGreatDoorKerbSrvB
import Derived.Test.YtlhambpafcdkbaaGreatDoorKerbVerL
import Derived.Test.YtlhambpafcdkbaaGreatDoorKerbVerL
import Derived.Test.YtlhambpafcdkbaaGreatDoorKerbAuthL
open Go.Abs.AV renaming int→Zz,str→Zy,bool→Zf,agg→Zb,bs→Yw,tup→Yq,onInt→Ym,ownB→Yh,u8→Wf,sl→Wg,ownL→Wn,undef→Vk,onAgg→Vm
open Kerb renaming service→Zx,user→Zu,putPrin_len→Zj,keyBytes_len→Zp,u8i→Zd,putN_len→Zg,get→Zn,simpleEnt→Zm,rdPrin→Yu,putN→Yg,within→Xz,putText→Xw,headIs→Xv,text→Xu,long→Xq,bytes→Xk,encodeRequest→Xg,keyRead→Wx,room_ok→Wu,printable→Wq,realm→Wk,bfd→Wp,keyValid→Wd,validInst→Vy,readBox→Vx,rdPrin_len→Vq,encodePart→Vj,toEntry→Vp,putPrin→Vd,valid_len→Vb,validName→Vn,u8i_bd→Vh,isKind→Uz,header→Uy,encodeTicket→Ux,byteAt→Uw,bfd_eq→Uv,text_len→Uu
open List renaming length→Zw,getD→Xb,range_succ→Wm,take→Vf,drop→Vg
open Go.IntKind renaming i64→Zv,wrap→Zk,u64→Yn,bits→Xh
open Option renaming bind→Zq
open Kerb.Entry renaming av→Zh
open Int renaming toNat→Yz,tmod→Wy,tmod_eq_emod_of_nonneg→Ww,tdiv→Vv,toNat_natCast→Uk
open Prod renaming snd→Yy,fst→Yx
open Kerb.Got renaming err→Yv,next→Yb,val→Xy
open Nat renaming le_trans→Yj,beq_refl→Wb
open Bool renaming and_eq_true→Yk,not_true→Yf,and_self→Xf
open Kerb.Prin renaming mk→Yp,realm→Xj,name→Xp,inst→Xd,valid→Xn
open UInt8 renaming toNat→Yd,ofNat→Wj
open Kerb.GotB renaming err→Xx,next→Wz,val→Wv
open Kerb.RdP renaming p→Xm,pos→Uq,bad→Uj
open Kerb.Enc renaming val→Wh,err→Vz
open Kerb.KdcRequest renaming mk→Vw
open Go.Abs.Ex renaming exit→Vu
namespace Go.Proofs.YtlhambpafcdkbaaGreatDoor
open Go Go.Abs Go.Proofs
set_option linter.unusedVariables false
set_option linter.unusedSimpArgs false
set_option maxRecDepth 100000
theorem w130:Walked Tryz.prog G 130 3 sp130:=by
 refine ⟨Tryz.f130,Tryz.func130,by decide +kernel,rfl,fun xs bl r h=> ?_⟩
 unfold sp130 at h
 split at h
 ·rename_i b n k little
  obtain ⟨hpre,h2⟩:=chk_inv h;cases h2
  refine Eq.trans (b:=(Zq (loopM (fun (st:List AV)=>cBs st fun b r=>cInt .i64 r fun n r=>cInt .i64 r fun n_1 r=>cBool r fun b_1 r=>cBs r fun c r=>cInt .i64 r fun n_2 r=>cInt .i64 r fun n_3 r=>let t0:Int:=Zk .i64 (Zk .i64 (n_1-1)-n_3);let t1:UInt8:=Wj (Yz (Zk .u8 (Int.fdiv n (2 ^ min (Yz (Zk .i64 (8*n_3))) (Xh .i64)))));onNil r (sel (decide (n_3<n_2)) (sel (!b_1) (chk (decide (0≤Zk .i64 (8*n_3))) (chk (decide (0≤t0)&&decide (t0<(↑(Zw c):Int))&&Nat.beq (Zw c) 4&&true) (chk (Nat.blt (Yz t0) (Zw c)&&true&&true&&true&&true) (some (Sum.inl [Yw b,Zz .i64 n,Zz .i64 n_1,Zf b_1,Yw (List.set c (Yz t0) t1),Zz .i64 n_2,Zz .i64 (Zk .i64 (n_3+1))]))))) (chk (decide (0≤Zk .i64 (8*n_3))) (chk (decide (0≤n_3)&&decide (n_3<(↑(Zw c):Int))&&Nat.beq (Zw c) 4&&true) (chk (Nat.blt (Yz n_3) (Zw c)&&true&&true&&true&&true) (some (Sum.inl [Yw b,Zz .i64 n,Zz .i64 n_1,Zf b_1,Yw (List.set c (Yz n_3) t1),Zz .i64 n_2,Zz .i64 (Zk .i64 (n_3+1))])))))) (some (Sum.inr (Vu 0,[Yw b,Zz .i64 n,Zz .i64 n_1,Zf b_1,Yw c,Zz .i64 n_2,Zz .i64 n_3]))))) [Yw b,Zz .i64 n,Zz .i64 k,Zf little,Yw [(0:UInt8),(0:UInt8),(0:UInt8),(0:UInt8)],Zz .i64 k,Zz .i64 0]) fun (r:Ex×List AV)=>cBs (Yy r) fun b r_1=>cInt .i64 r_1 fun n r_2=>cInt .i64 r_2 fun n r_3=>cBool r_3 fun b_1 r_4=>cBs r_4 fun c r_5=>let t2:Nat:=Zw [Yw b,Yw (Vg (Yz (↑(0:Nat):Int)) (Vf (Yz n) c))];let t3:Nat:=Zw (List.append b (List.append (Vg (Yz (↑(0:Nat):Int)) (Vf (Yz n) c)) []));cInt .i64 r_5 fun n_1 r_6=>cInt .i64 r_6 fun n_2 r_7=>onNil r_7 (exK r.1 none fun (j:Nat)=>sel (Nat.beq j 0) (chk (decide ((↑(0:Nat):Int)≤n)&&decide (n≤(↑(Zw c):Int))&&Nat.beq (Zw c) 4) (Zq (chk (decide (t3≤140737488355328)&&decide (t2≤1000)) (some (Yh (List.append b (List.append (Vg (Yz (↑(0:Nat):Int)) (Vf (Yz n) c)) [])),[]))) (kO fun l=>some (Yh l,[])))) none):Option (AV×Blocks))) (by kernel_rfl) ?_
  delta kO
  try dsimp only [cStr,cBs,cBool,cU8,cInt,cSl,l63]
  simp only [Yk,decide_eq_true_eq] at hpre
  obtain ⟨hk,hb⟩:=hpre
  rcases hk with rfl | rfl | rfl<;>cases little
  ·refine loop_unroll 2 (Vu 0,[Yw b,Zz Zv n,Zz Zv 1,Zf false,Yw [Wp n 0,(0:UInt8),(0:UInt8),(0:UInt8)],Zz Zv 1,Zz Zv 1]) (by kernel_rfl) ?_
   simp only [A0]
   rw [sel_pos (Wb _),chk_of (by simp),chk_of (by simp;omega)]
   simp [Uv,Yg,Uw,Wm]
  ·refine loop_unroll 2 (Vu 0,[Yw b,Zz Zv n,Zz Zv 1,Zf true,Yw [Wp n 0,(0:UInt8),(0:UInt8),(0:UInt8)],Zz Zv 1,Zz Zv 1]) (by kernel_rfl) ?_
   simp only [A0]
   rw [sel_pos (Wb _),chk_of (by simp),chk_of (by simp;omega)]
   simp [Uv,Yg,Uw,Wm]
  ·refine loop_unroll 3 (Vu 0,[Yw b,Zz Zv n,Zz Zv 2,Zf false,Yw [Wp n 8,Wp n 0,(0:UInt8),(0:UInt8)],Zz Zv 2,Zz Zv 2]) (by kernel_rfl) ?_
   simp only [A0]
   rw [sel_pos (Wb _),chk_of (by simp),chk_of (by simp;omega)]
   simp [Uv,Yg,Uw,Wm]
  ·refine loop_unroll 3 (Vu 0,[Yw b,Zz Zv n,Zz Zv 2,Zf true,Yw [Wp n 0,Wp n 8,(0:UInt8),(0:UInt8)],Zz Zv 2,Zz Zv 2]) (by kernel_rfl) ?_
   simp only [A0]
   rw [sel_pos (Wb _),chk_of (by simp),chk_of (by simp;omega)]
   simp [Uv,Yg,Uw,Wm]
  ·refine loop_unroll 5 (Vu 0,[Yw b,Zz Zv n,Zz Zv 4,Zf false,Yw [Wp n 24,Wp n 16,Wp n 8,Wp n 0],Zz Zv 4,Zz Zv 4]) (by kernel_rfl) ?_
   simp only [A0]
   rw [sel_pos (Wb _),chk_of (by simp),chk_of (by simp;omega)]
   simp [Uv,Yg,Uw,Wm]
  ·refine loop_unroll 5 (Vu 0,[Yw b,Zz Zv n,Zz Zv 4,Zf true,Yw [Wp n 0,Wp n 8,Wp n 16,Wp n 24],Zz Zv 4,Zz Zv 4]) (by kernel_rfl) ?_
   simp only [A0]
   rw [sel_pos (Wb _),chk_of (by simp),chk_of (by simp;omega)]
   simp [Uv,Yg,Uw,Wm]
 ·cases h
theorem w134:Walked Tryz.prog G 134 3 sp134:=by
 refine ⟨Tryz.f134,Tryz.func134,by decide +kernel,rfl,fun xs bl r h=> ?_⟩
 unfold sp134 at h
 split at h
 ·rename_i k
  obtain ⟨hpre,h2⟩:=chk_inv h;cases h2
  refine Eq.trans (b:=(Zq (chk (decide (0≤k)&&decide (k<18446744073709551616)) (some (Zf (Wd k),[]))) fun (r:AV×Blocks)=>onNilB (Yy r) (AV.onBool (Yx r) fun b=>sel (!b) (some (Zz .i64 0,[])) (some (Zz .i64 (Zk .i64 (Int.fdiv k (2 ^ min (Yz 56) (Xh .u64)))),[]))):Option (AV×Blocks))) (by kernel_rfl) ?_
  simp only [hpre,↓A0,A0]
  unfold Kerb.classOf
  cases hk:Wd k
  ·rfl
  simp only [Yf,Bool.not_false,sel_true,sel_false]
  simp only [Yk,decide_eq_true_eq] at hpre
  have h7:(min (Yz 56) (Xh .u64))=56:=rfl
  rw [h7,Int.fdiv_eq_ediv_of_nonneg _ (by decide),wrap_i64 (by omega) (by omega)]
  rfl
 ·cases h
theorem w5:Walked Tryz.prog G 5 4 sp5:=by
 refine ⟨Tryz.f5,Tryz.func5,by decide +kernel,rfl,fun xs bl r h=> ?_⟩
 unfold sp5 at h
 split at h
 ·rename_i lf xp bd
  cases h
  refine Eq.trans (b:=(Zq (loopM (fun (st:List AV)=>cU8 st fun b r=>cU8 r fun b_1 r=>cU8 r fun b_2 r=>cStr r fun b_3 r=>cSl 9 r fun b_4 r=>cStr r fun b_5 r=>onCons r fun x r=>AV.onOwnL x fun y=>cSl 3 r fun b_6 r=>cInt .i64 r fun n r=>onNil r (sel (decide (n<(↑(Zw b_6):Int))) (chk (decide (0≤n)&&decide (n<(↑(Zw b_6):Int))&&true) (Vm (Xb b_6 (Yz n) Vk) fun cs=>cStr cs fun b_7 r=>cStr r fun b_8 r=>cStr r fun b_9 r=>onNil r (chk (decide (0≤n)&&decide (n<(↑(Zw b_6):Int))&&true) (Vm (Xb b_6 (Yz n) Vk) fun cs=>cStr cs fun b_10 r=>cStr r fun b_11 r=>cStr r fun b_12 r=>onNil r (Zq (chk (decide (0≤n)&&decide (n≤1000)) (some (Zz .u64 (Xq n),[]))) (kI .u64 fun n_1=>Zq (sel (Wy (Zk .i64 (↑(Yd b_2):Int)) 16==n) (some [Wf b,Wf b_1,Wf b_2,Zy b_3,Wg 9 b_4,Zy b_5,Wn y,Wg 3 b_6,Zz .i64 n,Zy b_7,Zy b_11,Zz .u64 n_1,Zz .i64 (Zk .i64 (3+n)),Zz .i64 0,Zz .i64 (Zk .i64 (↑(Yd b):Int)),Zz .i64 (Zk .i64 (1+Wy (Zk .i64 (Vv (Zk .i64 (↑(Yd b_2):Int)) 16)) 3)),Zz .i64 0,Zz .i64 0]) (some [Wf b,Wf b_1,Wf b_2,Zy b_3,Wg 9 b_4,Zy b_5,Wn y,Wg 3 b_6,Zz .i64 n,Zy b_7,Zy b_11,Zz .u64 n_1,Zz .i64 (Zk .i64 (3+n)),Zz .i64 0,Zz .i64 (Zk .i64 (↑(Yd b):Int)),Zz .i64 0,Zz .i64 0,Zz .i64 0])) fun l=>cU8 l fun b r=>cU8 r fun b_13 r=>cU8 r fun b_14 r=>cStr r fun b_15 r=>cSl 9 r fun b_16 r=>cStr r fun b_17 r=>onCons r fun x r=>AV.onOwnL x fun y=>cSl 3 r fun b_18 r=>cInt .i64 r fun n r=>cStr r fun b_19 r=>cStr r fun b_20 r=>cInt .u64 r fun n_2 r=>cInt .i64 r fun n_3 r=>cInt .i64 r fun n_4 r=>cInt .i64 r fun n_5 r=>cInt .i64 r fun n_6 r=>cInt .i64 r fun n_7 r=>cInt .i64 r fun n_8 r=>let t0:List AV:=[Zz .i64 n_5,Zz .i64 n_6,Zz .i64 n_7,Zz .i64 n_8];onNil r (Zq (sel (Wy (Zk .i64 (↑(Yd b_14):Int)) 16==Zk .i64 (8+n)) (some (Wf b::Wf b_13::Wf b_14::Zy b_15::Wg 9 b_16::Zy b_17::Wn y::Wg 3 b_18::Zz .i64 n::Zy b_19::Zy b_20::Zz .u64 n_2::Zz .i64 n_3::Zz .i64 (Zk .i64 (1000+Zk .i64 (Zk .i64 (↑(Yd b_13):Int)*100)))::t0)) (some (Wf b::Wf b_13::Wf b_14::Zy b_15::Wg 9 b_16::Zy b_17::Wn y::Wg 3 b_18::Zz .i64 n::Zy b_19::Zy b_20::Zz .u64 n_2::Zz .i64 n_3::Zz .i64 n_4::t0))) fun l=>cU8 l fun b r=>cU8 r fun b_21 r=>cU8 r fun b_22 r=>cStr r fun b_23 r=>cSl 9 r fun b_24 r=>cStr r fun b_25 r=>onCons r fun x r=>AV.onOwnL x fun y=>cSl 3 r fun b_26 r=>cInt .i64 r fun n r=>cStr r fun b_27 r=>cStr r fun b_28 r=>cInt .u64 r fun n_9 r=>cInt .i64 r fun n_10 r=>cInt .i64 r fun n_11 r=>cInt .i64 r fun n_12 r=>cInt .i64 r fun n_13 r=>cInt .i64 r fun n_14 r=>cInt .i64 r fun n_15 r=>let t1:List AV:=[Zb [Zy b_27,Zy b_28,Zz .u64 n_9,Zz .i64 n_10,Zz .i64 n_11,Zz .i64 n_12,Zz .i64 n_13,Zz .i64 n_14,Zz .i64 n_15]];onNil r (chk (room (Zw y+Zw t1) (nat_lit 88)) (some (Sum.inl [Wf b,Wf b_21,Wf b_22,Zy b_23,Wg 9 b_24,Zy b_25,Wn (y++t1),Wg 3 b_26,Zz .i64 (Zk .i64 (n+1))])))))))))) (some (Sum.inr (Vu 0,[Wf b,Wf b_1,Wf b_2,Zy b_3,Wg 9 b_4,Zy b_5,Wn y,Wg 3 b_6,Zz .i64 n]))))) [Wf lf,Wf xp,Wf bd,Zy [],Wg 9 [],Zy [(65:UInt8),(84:UInt8),(72:UInt8)],Wn [],Wg 3 [Zb [Zy (Xp (Zu 0)),Zy (Xd (Zu 0)),Zy (Xj (Zu 0))],Zb [Zy (Xp (Zu 1)),Zy (Xd (Zu 1)),Zy (Xj (Zu 1))],Zb [Zy (Xp (Zu 2)),Zy (Xd (Zu 2)),Zy (Xj (Zu 2))],Zb [Zy (Xp (Zx 2)),Zy (Xd (Zx 2)),Zy (Xj (Zx 2))],Zb [Zy (Xp (Zx 0)),Zy (Xd (Zx 0)),Zy (Xj (Zx 0))],Zb [Zy (Xp (Zx 1)),Zy (Xd (Zx 1)),Zy (Xj (Zx 1))]],Zz .i64 0]) fun (r:Ex×List AV)=>cU8 (Yy r) fun b r_1=>cU8 r_1 fun b r_2=>cU8 r_2 fun b r_3=>cStr r_3 fun b r_4=>cSl 9 r_4 fun b_1 r_5=>cStr r_5 fun b_2 r_6=>onCons r_6 fun x r_7=>AV.onOwnL x fun y=>cSl 3 r_7 fun b_3 r_8=>cInt .i64 r_8 fun n r_9=>onNil r_9 (exK r.1 (some (Zb [Zy b,Wg 9 b_1],[])) fun (j:Nat)=>sel (Nat.beq j 0) (some (Zb [Zy b_2,Wg 9 y],[])) none):Option (AV×Blocks))) (by kernel_rfl) ?_
  delta kI
  try dsimp only [cStr,cBs,cBool,cU8,cInt,cSl,l63]
  have b0:=Vh lf
  have b1:=Vh xp
  have b2:=Vh bd
  have e0:=Kerb.wrap_u8i
  have e1:Wy (Zd bd) 16=Zd bd % 16:=Ww b2.1
  have e2:Zk .i64 (1000+Zk .i64 (Zd xp*100))=1000+Zd xp*100:=by rw [wrap_i64 (n:=Zd xp*100) (by omega) (by omega),wrap_i64 (by omega) (by omega)]
  have e3:Zk .i64 (1+Wy (Zk .i64 (Vv (Zd bd) 16)) 3)=1+Zd bd / 16 % 3:=by
   rw [Int.tdiv_eq_ediv_of_nonneg b2.1,wrap_i64 (n:=Zd bd / 16) (by omega) (by omega),Ww (by omega),wrap_i64 (by omega) (by omega)]
  refine loop_rounds (fun i:Nat=>[Wf lf,Wf xp,Wf bd,Zy [],Wg 9 [],Zy [65,84,72],Wn (((Kerb.simpleDb lf xp bd).entries.take i).map Zh),Wg 3 [Zb [Zy (Zu 0).name,Zy (Zu 0).inst,Zy (Zu 0).realm],Zb [Zy (Zu 1).name,Zy (Zu 1).inst,Zy (Zu 1).realm],Zb [Zy (Zu 2).name,Zy (Zu 2).inst,Zy (Zu 2).realm],Zb [Zy (Zx 2).name,Zy (Zx 2).inst,Zy (Zx 2).realm],Zb [Zy (Zx 0).name,Zy (Zx 0).inst,Zy (Zx 0).realm],Zb [Zy (Zx 1).name,Zy (Zx 1).inst,Zy (Zx 1).realm]],Zz Zv (i:Int)]) (fun i=>i≤6) (fun i=>6-i)
   (fun r=>r=(Vu 0,[Wf lf,Wf xp,Wf bd,Zy [],Wg 9 [],Zy [65,84,72],Wn ((Kerb.simpleDb lf xp bd).entries.map Zh),Wg 3 [Zb [Zy (Zu 0).name,Zy (Zu 0).inst,Zy (Zu 0).realm],Zb [Zy (Zu 1).name,Zy (Zu 1).inst,Zy (Zu 1).realm],Zb [Zy (Zu 2).name,Zy (Zu 2).inst,Zy (Zu 2).realm],Zb [Zy (Zx 2).name,Zy (Zx 2).inst,Zy (Zx 2).realm],Zb [Zy (Zx 0).name,Zy (Zx 0).inst,Zy (Zx 0).realm],Zb [Zy (Zx 1).name,Zy (Zx 1).inst,Zy (Zx 1).realm]],Zz Zv 6])) 0 (by decide) rfl ?_ ?_
  ·intro i hi
   have hc:i=0∨i=1∨i=2∨i=3∨i=4∨i=5∨i=6:=by omega
   rcases hc with rfl | rfl | rfl | rfl | rfl | rfl | rfl
   ·have g:Xb [Zb [Zy (Zu 0).name,Zy (Zu 0).inst,Zy (Zu 0).realm],Zb [Zy (Zu 1).name,Zy (Zu 1).inst,Zy (Zu 1).realm],Zb [Zy (Zu 2).name,Zy (Zu 2).inst,Zy (Zu 2).realm],Zb [Zy (Zx 2).name,Zy (Zx 2).inst,Zy (Zx 2).realm],Zb [Zy (Zx 0).name,Zy (Zx 0).inst,Zy (Zx 0).realm],Zb [Zy (Zx 1).name,Zy (Zx 1).inst,Zy (Zx 1).realm]] (Yz ((0:Nat):Int)) Vk=Zb [Zy (Zu 0).name,Zy (Zu 0).inst,Zy (Zu 0).realm]:=rfl
    have k0:decide (((0:Nat):Int)<((Zw [Zb [Zy (Zu 0).name,Zy (Zu 0).inst,Zy (Zu 0).realm],Zb [Zy (Zu 1).name,Zy (Zu 1).inst,Zy (Zu 1).realm],Zb [Zy (Zu 2).name,Zy (Zu 2).inst,Zy (Zu 2).realm],Zb [Zy (Zx 2).name,Zy (Zx 2).inst,Zy (Zx 2).realm],Zb [Zy (Zx 0).name,Zy (Zx 0).inst,Zy (Zx 0).realm],Zb [Zy (Zx 1).name,Zy (Zx 1).inst,Zy (Zx 1).realm]]:Nat):Int))=true:=rfl
    have k1:decide ((0:Int)≤((0:Nat):Int))=true:=rfl
    have k2:decide (((0:Nat):Int)≤1000)=true:=rfl
    have k3:Zk .i64 (3+((0:Nat):Int))=3+((0:Nat):Int):=rfl
    have k4:Zk .i64 (8+((0:Nat):Int))=8+((0:Nat):Int):=rfl
    simp only [g,k0,k1,k2,k3,k4,e0,e1,e2,e3,Xf,↓A0,A0]
    by_cases h1:Zd bd % 16=((0:Nat):Int)
    all_goals by_cases h2:Zd bd % 16=8+((0:Nat):Int)
    ·have hE:Zh (Zm ((0:Nat):Int) (Zu 0) lf xp bd)=Zb [Zy (Zu 0).name,Zy (Zu 0).inst,Zz Yn (Xq ((0:Nat):Int)),Zz Zv (3+((0:Nat):Int)),Zz Zv (1000+Zd xp*100),Zz Zv (Zd lf),Zz Zv (1+Zd bd / 16 % 3),Zz Zv 0,Zz Zv 0]:=by
      unfold Zh Zm
      dsimp only
      rw [if_pos h2,if_pos h1]
     rw [sel_pos (by simpa using h1),sel_pos (by simpa using h2),chk_of (by rfl),← hE]
     exact ⟨_,rfl,1,rfl,by decide,by decide⟩
    ·have hE:Zh (Zm ((0:Nat):Int) (Zu 0) lf xp bd)=Zb [Zy (Zu 0).name,Zy (Zu 0).inst,Zz Yn (Xq ((0:Nat):Int)),Zz Zv (3+((0:Nat):Int)),Zz Zv (0),Zz Zv (Zd lf),Zz Zv (1+Zd bd / 16 % 3),Zz Zv 0,Zz Zv 0]:=by
      unfold Zh Zm
      dsimp only
      rw [if_neg h2,if_pos h1]
     rw [sel_pos (by simpa using h1),sel_neg (by simpa using h2),chk_of (by rfl),← hE]
     exact ⟨_,rfl,1,rfl,by decide,by decide⟩
    ·have hE:Zh (Zm ((0:Nat):Int) (Zu 0) lf xp bd)=Zb [Zy (Zu 0).name,Zy (Zu 0).inst,Zz Yn (Xq ((0:Nat):Int)),Zz Zv (3+((0:Nat):Int)),Zz Zv (1000+Zd xp*100),Zz Zv (Zd lf),Zz Zv (0),Zz Zv 0,Zz Zv 0]:=by
      unfold Zh Zm
      dsimp only
      rw [if_pos h2,if_neg h1]
     rw [sel_neg (by simpa using h1),sel_pos (by simpa using h2),chk_of (by rfl),← hE]
     exact ⟨_,rfl,1,rfl,by decide,by decide⟩
    ·have hE:Zh (Zm ((0:Nat):Int) (Zu 0) lf xp bd)=Zb [Zy (Zu 0).name,Zy (Zu 0).inst,Zz Yn (Xq ((0:Nat):Int)),Zz Zv (3+((0:Nat):Int)),Zz Zv (0),Zz Zv (Zd lf),Zz Zv (0),Zz Zv 0,Zz Zv 0]:=by
      unfold Zh Zm
      dsimp only
      rw [if_neg h2,if_neg h1]
     rw [sel_neg (by simpa using h1),sel_neg (by simpa using h2),chk_of (by rfl),← hE]
     exact ⟨_,rfl,1,rfl,by decide,by decide⟩
   ·have g:Xb [Zb [Zy (Zu 0).name,Zy (Zu 0).inst,Zy (Zu 0).realm],Zb [Zy (Zu 1).name,Zy (Zu 1).inst,Zy (Zu 1).realm],Zb [Zy (Zu 2).name,Zy (Zu 2).inst,Zy (Zu 2).realm],Zb [Zy (Zx 2).name,Zy (Zx 2).inst,Zy (Zx 2).realm],Zb [Zy (Zx 0).name,Zy (Zx 0).inst,Zy (Zx 0).realm],Zb [Zy (Zx 1).name,Zy (Zx 1).inst,Zy (Zx 1).realm]] (Yz ((1:Nat):Int)) Vk=Zb [Zy (Zu 1).name,Zy (Zu 1).inst,Zy (Zu 1).realm]:=rfl
    have k0:decide (((1:Nat):Int)<((Zw [Zb [Zy (Zu 0).name,Zy (Zu 0).inst,Zy (Zu 0).realm],Zb [Zy (Zu 1).name,Zy (Zu 1).inst,Zy (Zu 1).realm],Zb [Zy (Zu 2).name,Zy (Zu 2).inst,Zy (Zu 2).realm],Zb [Zy (Zx 2).name,Zy (Zx 2).inst,Zy (Zx 2).realm],Zb [Zy (Zx 0).name,Zy (Zx 0).inst,Zy (Zx 0).realm],Zb [Zy (Zx 1).name,Zy (Zx 1).inst,Zy (Zx 1).realm]]:Nat):Int))=true:=rfl
    have k1:decide ((0:Int)≤((1:Nat):Int))=true:=rfl
    have k2:decide (((1:Nat):Int)≤1000)=true:=rfl
    have k3:Zk .i64 (3+((1:Nat):Int))=3+((1:Nat):Int):=rfl
    have k4:Zk .i64 (8+((1:Nat):Int))=8+((1:Nat):Int):=rfl
    simp only [g,k0,k1,k2,k3,k4,e0,e1,e2,e3,Xf,↓A0,A0]
    by_cases h1:Zd bd % 16=((1:Nat):Int)
    all_goals by_cases h2:Zd bd % 16=8+((1:Nat):Int)
    ·have hE:Zh (Zm ((1:Nat):Int) (Zu 1) lf xp bd)=Zb [Zy (Zu 1).name,Zy (Zu 1).inst,Zz Yn (Xq ((1:Nat):Int)),Zz Zv (3+((1:Nat):Int)),Zz Zv (1000+Zd xp*100),Zz Zv (Zd lf),Zz Zv (1+Zd bd / 16 % 3),Zz Zv 0,Zz Zv 0]:=by
      unfold Zh Zm
      dsimp only
      rw [if_pos h2,if_pos h1]
     rw [sel_pos (by simpa using h1),sel_pos (by simpa using h2),chk_of (by rfl),← hE]
     exact ⟨_,rfl,2,rfl,by decide,by decide⟩
    ·have hE:Zh (Zm ((1:Nat):Int) (Zu 1) lf xp bd)=Zb [Zy (Zu 1).name,Zy (Zu 1).inst,Zz Yn (Xq ((1:Nat):Int)),Zz Zv (3+((1:Nat):Int)),Zz Zv (0),Zz Zv (Zd lf),Zz Zv (1+Zd bd / 16 % 3),Zz Zv 0,Zz Zv 0]:=by
      unfold Zh Zm
      dsimp only
      rw [if_neg h2,if_pos h1]
     rw [sel_pos (by simpa using h1),sel_neg (by simpa using h2),chk_of (by rfl),← hE]
     exact ⟨_,rfl,2,rfl,by decide,by decide⟩
    ·have hE:Zh (Zm ((1:Nat):Int) (Zu 1) lf xp bd)=Zb [Zy (Zu 1).name,Zy (Zu 1).inst,Zz Yn (Xq ((1:Nat):Int)),Zz Zv (3+((1:Nat):Int)),Zz Zv (1000+Zd xp*100),Zz Zv (Zd lf),Zz Zv (0),Zz Zv 0,Zz Zv 0]:=by
      unfold Zh Zm
      dsimp only
      rw [if_pos h2,if_neg h1]
     rw [sel_neg (by simpa using h1),sel_pos (by simpa using h2),chk_of (by rfl),← hE]
     exact ⟨_,rfl,2,rfl,by decide,by decide⟩
    ·have hE:Zh (Zm ((1:Nat):Int) (Zu 1) lf xp bd)=Zb [Zy (Zu 1).name,Zy (Zu 1).inst,Zz Yn (Xq ((1:Nat):Int)),Zz Zv (3+((1:Nat):Int)),Zz Zv (0),Zz Zv (Zd lf),Zz Zv (0),Zz Zv 0,Zz Zv 0]:=by
      unfold Zh Zm
      dsimp only
      rw [if_neg h2,if_neg h1]
     rw [sel_neg (by simpa using h1),sel_neg (by simpa using h2),chk_of (by rfl),← hE]
     exact ⟨_,rfl,2,rfl,by decide,by decide⟩
   ·have g:Xb [Zb [Zy (Zu 0).name,Zy (Zu 0).inst,Zy (Zu 0).realm],Zb [Zy (Zu 1).name,Zy (Zu 1).inst,Zy (Zu 1).realm],Zb [Zy (Zu 2).name,Zy (Zu 2).inst,Zy (Zu 2).realm],Zb [Zy (Zx 2).name,Zy (Zx 2).inst,Zy (Zx 2).realm],Zb [Zy (Zx 0).name,Zy (Zx 0).inst,Zy (Zx 0).realm],Zb [Zy (Zx 1).name,Zy (Zx 1).inst,Zy (Zx 1).realm]] (Yz ((2:Nat):Int)) Vk=Zb [Zy (Zu 2).name,Zy (Zu 2).inst,Zy (Zu 2).realm]:=rfl
    have k0:decide (((2:Nat):Int)<((Zw [Zb [Zy (Zu 0).name,Zy (Zu 0).inst,Zy (Zu 0).realm],Zb [Zy (Zu 1).name,Zy (Zu 1).inst,Zy (Zu 1).realm],Zb [Zy (Zu 2).name,Zy (Zu 2).inst,Zy (Zu 2).realm],Zb [Zy (Zx 2).name,Zy (Zx 2).inst,Zy (Zx 2).realm],Zb [Zy (Zx 0).name,Zy (Zx 0).inst,Zy (Zx 0).realm],Zb [Zy (Zx 1).name,Zy (Zx 1).inst,Zy (Zx 1).realm]]:Nat):Int))=true:=rfl
    have k1:decide ((0:Int)≤((2:Nat):Int))=true:=rfl
    have k2:decide (((2:Nat):Int)≤1000)=true:=rfl
    have k3:Zk .i64 (3+((2:Nat):Int))=3+((2:Nat):Int):=rfl
    have k4:Zk .i64 (8+((2:Nat):Int))=8+((2:Nat):Int):=rfl
    simp only [g,k0,k1,k2,k3,k4,e0,e1,e2,e3,Xf,↓A0,A0]
    by_cases h1:Zd bd % 16=((2:Nat):Int)
    all_goals by_cases h2:Zd bd % 16=8+((2:Nat):Int)
    ·have hE:Zh (Zm ((2:Nat):Int) (Zu 2) lf xp bd)=Zb [Zy (Zu 2).name,Zy (Zu 2).inst,Zz Yn (Xq ((2:Nat):Int)),Zz Zv (3+((2:Nat):Int)),Zz Zv (1000+Zd xp*100),Zz Zv (Zd lf),Zz Zv (1+Zd bd / 16 % 3),Zz Zv 0,Zz Zv 0]:=by
      unfold Zh Zm
      dsimp only
      rw [if_pos h2,if_pos h1]
     rw [sel_pos (by simpa using h1),sel_pos (by simpa using h2),chk_of (by rfl),← hE]
     exact ⟨_,rfl,3,rfl,by decide,by decide⟩
    ·have hE:Zh (Zm ((2:Nat):Int) (Zu 2) lf xp bd)=Zb [Zy (Zu 2).name,Zy (Zu 2).inst,Zz Yn (Xq ((2:Nat):Int)),Zz Zv (3+((2:Nat):Int)),Zz Zv (0),Zz Zv (Zd lf),Zz Zv (1+Zd bd / 16 % 3),Zz Zv 0,Zz Zv 0]:=by
      unfold Zh Zm
      dsimp only
      rw [if_neg h2,if_pos h1]
     rw [sel_pos (by simpa using h1),sel_neg (by simpa using h2),chk_of (by rfl),← hE]
     exact ⟨_,rfl,3,rfl,by decide,by decide⟩
    ·have hE:Zh (Zm ((2:Nat):Int) (Zu 2) lf xp bd)=Zb [Zy (Zu 2).name,Zy (Zu 2).inst,Zz Yn (Xq ((2:Nat):Int)),Zz Zv (3+((2:Nat):Int)),Zz Zv (1000+Zd xp*100),Zz Zv (Zd lf),Zz Zv (0),Zz Zv 0,Zz Zv 0]:=by
      unfold Zh Zm
      dsimp only
      rw [if_pos h2,if_neg h1]
     rw [sel_neg (by simpa using h1),sel_pos (by simpa using h2),chk_of (by rfl),← hE]
     exact ⟨_,rfl,3,rfl,by decide,by decide⟩
    ·have hE:Zh (Zm ((2:Nat):Int) (Zu 2) lf xp bd)=Zb [Zy (Zu 2).name,Zy (Zu 2).inst,Zz Yn (Xq ((2:Nat):Int)),Zz Zv (3+((2:Nat):Int)),Zz Zv (0),Zz Zv (Zd lf),Zz Zv (0),Zz Zv 0,Zz Zv 0]:=by
      unfold Zh Zm
      dsimp only
      rw [if_neg h2,if_neg h1]
     rw [sel_neg (by simpa using h1),sel_neg (by simpa using h2),chk_of (by rfl),← hE]
     exact ⟨_,rfl,3,rfl,by decide,by decide⟩
   ·have g:Xb [Zb [Zy (Zu 0).name,Zy (Zu 0).inst,Zy (Zu 0).realm],Zb [Zy (Zu 1).name,Zy (Zu 1).inst,Zy (Zu 1).realm],Zb [Zy (Zu 2).name,Zy (Zu 2).inst,Zy (Zu 2).realm],Zb [Zy (Zx 2).name,Zy (Zx 2).inst,Zy (Zx 2).realm],Zb [Zy (Zx 0).name,Zy (Zx 0).inst,Zy (Zx 0).realm],Zb [Zy (Zx 1).name,Zy (Zx 1).inst,Zy (Zx 1).realm]] (Yz ((3:Nat):Int)) Vk=Zb [Zy (Zx 2).name,Zy (Zx 2).inst,Zy (Zx 2).realm]:=rfl
    have k0:decide (((3:Nat):Int)<((Zw [Zb [Zy (Zu 0).name,Zy (Zu 0).inst,Zy (Zu 0).realm],Zb [Zy (Zu 1).name,Zy (Zu 1).inst,Zy (Zu 1).realm],Zb [Zy (Zu 2).name,Zy (Zu 2).inst,Zy (Zu 2).realm],Zb [Zy (Zx 2).name,Zy (Zx 2).inst,Zy (Zx 2).realm],Zb [Zy (Zx 0).name,Zy (Zx 0).inst,Zy (Zx 0).realm],Zb [Zy (Zx 1).name,Zy (Zx 1).inst,Zy (Zx 1).realm]]:Nat):Int))=true:=rfl
    have k1:decide ((0:Int)≤((3:Nat):Int))=true:=rfl
    have k2:decide (((3:Nat):Int)≤1000)=true:=rfl
    have k3:Zk .i64 (3+((3:Nat):Int))=3+((3:Nat):Int):=rfl
    have k4:Zk .i64 (8+((3:Nat):Int))=8+((3:Nat):Int):=rfl
    simp only [g,k0,k1,k2,k3,k4,e0,e1,e2,e3,Xf,↓A0,A0]
    by_cases h1:Zd bd % 16=((3:Nat):Int)
    all_goals by_cases h2:Zd bd % 16=8+((3:Nat):Int)
    ·have hE:Zh (Zm ((3:Nat):Int) (Zx 2) lf xp bd)=Zb [Zy (Zx 2).name,Zy (Zx 2).inst,Zz Yn (Xq ((3:Nat):Int)),Zz Zv (3+((3:Nat):Int)),Zz Zv (1000+Zd xp*100),Zz Zv (Zd lf),Zz Zv (1+Zd bd / 16 % 3),Zz Zv 0,Zz Zv 0]:=by
      unfold Zh Zm
      dsimp only
      rw [if_pos h2,if_pos h1]
     rw [sel_pos (by simpa using h1),sel_pos (by simpa using h2),chk_of (by rfl),← hE]
     exact ⟨_,rfl,4,rfl,by decide,by decide⟩
    ·have hE:Zh (Zm ((3:Nat):Int) (Zx 2) lf xp bd)=Zb [Zy (Zx 2).name,Zy (Zx 2).inst,Zz Yn (Xq ((3:Nat):Int)),Zz Zv (3+((3:Nat):Int)),Zz Zv (0),Zz Zv (Zd lf),Zz Zv (1+Zd bd / 16 % 3),Zz Zv 0,Zz Zv 0]:=by
      unfold Zh Zm
      dsimp only
      rw [if_neg h2,if_pos h1]
     rw [sel_pos (by simpa using h1),sel_neg (by simpa using h2),chk_of (by rfl),← hE]
     exact ⟨_,rfl,4,rfl,by decide,by decide⟩
    ·have hE:Zh (Zm ((3:Nat):Int) (Zx 2) lf xp bd)=Zb [Zy (Zx 2).name,Zy (Zx 2).inst,Zz Yn (Xq ((3:Nat):Int)),Zz Zv (3+((3:Nat):Int)),Zz Zv (1000+Zd xp*100),Zz Zv (Zd lf),Zz Zv (0),Zz Zv 0,Zz Zv 0]:=by
      unfold Zh Zm
      dsimp only
      rw [if_pos h2,if_neg h1]
     rw [sel_neg (by simpa using h1),sel_pos (by simpa using h2),chk_of (by rfl),← hE]
     exact ⟨_,rfl,4,rfl,by decide,by decide⟩
    ·have hE:Zh (Zm ((3:Nat):Int) (Zx 2) lf xp bd)=Zb [Zy (Zx 2).name,Zy (Zx 2).inst,Zz Yn (Xq ((3:Nat):Int)),Zz Zv (3+((3:Nat):Int)),Zz Zv (0),Zz Zv (Zd lf),Zz Zv (0),Zz Zv 0,Zz Zv 0]:=by
      unfold Zh Zm
      dsimp only
      rw [if_neg h2,if_neg h1]
     rw [sel_neg (by simpa using h1),sel_neg (by simpa using h2),chk_of (by rfl),← hE]
     exact ⟨_,rfl,4,rfl,by decide,by decide⟩
   ·have g:Xb [Zb [Zy (Zu 0).name,Zy (Zu 0).inst,Zy (Zu 0).realm],Zb [Zy (Zu 1).name,Zy (Zu 1).inst,Zy (Zu 1).realm],Zb [Zy (Zu 2).name,Zy (Zu 2).inst,Zy (Zu 2).realm],Zb [Zy (Zx 2).name,Zy (Zx 2).inst,Zy (Zx 2).realm],Zb [Zy (Zx 0).name,Zy (Zx 0).inst,Zy (Zx 0).realm],Zb [Zy (Zx 1).name,Zy (Zx 1).inst,Zy (Zx 1).realm]] (Yz ((4:Nat):Int)) Vk=Zb [Zy (Zx 0).name,Zy (Zx 0).inst,Zy (Zx 0).realm]:=rfl
    have k0:decide (((4:Nat):Int)<((Zw [Zb [Zy (Zu 0).name,Zy (Zu 0).inst,Zy (Zu 0).realm],Zb [Zy (Zu 1).name,Zy (Zu 1).inst,Zy (Zu 1).realm],Zb [Zy (Zu 2).name,Zy (Zu 2).inst,Zy (Zu 2).realm],Zb [Zy (Zx 2).name,Zy (Zx 2).inst,Zy (Zx 2).realm],Zb [Zy (Zx 0).name,Zy (Zx 0).inst,Zy (Zx 0).realm],Zb [Zy (Zx 1).name,Zy (Zx 1).inst,Zy (Zx 1).realm]]:Nat):Int))=true:=rfl
    have k1:decide ((0:Int)≤((4:Nat):Int))=true:=rfl
    have k2:decide (((4:Nat):Int)≤1000)=true:=rfl
    have k3:Zk .i64 (3+((4:Nat):Int))=3+((4:Nat):Int):=rfl
    have k4:Zk .i64 (8+((4:Nat):Int))=8+((4:Nat):Int):=rfl
    simp only [g,k0,k1,k2,k3,k4,e0,e1,e2,e3,Xf,↓A0,A0]
    by_cases h1:Zd bd % 16=((4:Nat):Int)
    all_goals by_cases h2:Zd bd % 16=8+((4:Nat):Int)
    ·have hE:Zh (Zm ((4:Nat):Int) (Zx 0) lf xp bd)=Zb [Zy (Zx 0).name,Zy (Zx 0).inst,Zz Yn (Xq ((4:Nat):Int)),Zz Zv (3+((4:Nat):Int)),Zz Zv (1000+Zd xp*100),Zz Zv (Zd lf),Zz Zv (1+Zd bd / 16 % 3),Zz Zv 0,Zz Zv 0]:=by
      unfold Zh Zm
      dsimp only
      rw [if_pos h2,if_pos h1]
     rw [sel_pos (by simpa using h1),sel_pos (by simpa using h2),chk_of (by rfl),← hE]
     exact ⟨_,rfl,5,rfl,by decide,by decide⟩
    ·have hE:Zh (Zm ((4:Nat):Int) (Zx 0) lf xp bd)=Zb [Zy (Zx 0).name,Zy (Zx 0).inst,Zz Yn (Xq ((4:Nat):Int)),Zz Zv (3+((4:Nat):Int)),Zz Zv (0),Zz Zv (Zd lf),Zz Zv (1+Zd bd / 16 % 3),Zz Zv 0,Zz Zv 0]:=by
      unfold Zh Zm
      dsimp only
      rw [if_neg h2,if_pos h1]
     rw [sel_pos (by simpa using h1),sel_neg (by simpa using h2),chk_of (by rfl),← hE]
     exact ⟨_,rfl,5,rfl,by decide,by decide⟩
    ·have hE:Zh (Zm ((4:Nat):Int) (Zx 0) lf xp bd)=Zb [Zy (Zx 0).name,Zy (Zx 0).inst,Zz Yn (Xq ((4:Nat):Int)),Zz Zv (3+((4:Nat):Int)),Zz Zv (1000+Zd xp*100),Zz Zv (Zd lf),Zz Zv (0),Zz Zv 0,Zz Zv 0]:=by
      unfold Zh Zm
      dsimp only
      rw [if_pos h2,if_neg h1]
     rw [sel_neg (by simpa using h1),sel_pos (by simpa using h2),chk_of (by rfl),← hE]
     exact ⟨_,rfl,5,rfl,by decide,by decide⟩
    ·have hE:Zh (Zm ((4:Nat):Int) (Zx 0) lf xp bd)=Zb [Zy (Zx 0).name,Zy (Zx 0).inst,Zz Yn (Xq ((4:Nat):Int)),Zz Zv (3+((4:Nat):Int)),Zz Zv (0),Zz Zv (Zd lf),Zz Zv (0),Zz Zv 0,Zz Zv 0]:=by
      unfold Zh Zm
      dsimp only
      rw [if_neg h2,if_neg h1]
     rw [sel_neg (by simpa using h1),sel_neg (by simpa using h2),chk_of (by rfl),← hE]
     exact ⟨_,rfl,5,rfl,by decide,by decide⟩
   ·have g:Xb [Zb [Zy (Zu 0).name,Zy (Zu 0).inst,Zy (Zu 0).realm],Zb [Zy (Zu 1).name,Zy (Zu 1).inst,Zy (Zu 1).realm],Zb [Zy (Zu 2).name,Zy (Zu 2).inst,Zy (Zu 2).realm],Zb [Zy (Zx 2).name,Zy (Zx 2).inst,Zy (Zx 2).realm],Zb [Zy (Zx 0).name,Zy (Zx 0).inst,Zy (Zx 0).realm],Zb [Zy (Zx 1).name,Zy (Zx 1).inst,Zy (Zx 1).realm]] (Yz ((5:Nat):Int)) Vk=Zb [Zy (Zx 1).name,Zy (Zx 1).inst,Zy (Zx 1).realm]:=rfl
    have k0:decide (((5:Nat):Int)<((Zw [Zb [Zy (Zu 0).name,Zy (Zu 0).inst,Zy (Zu 0).realm],Zb [Zy (Zu 1).name,Zy (Zu 1).inst,Zy (Zu 1).realm],Zb [Zy (Zu 2).name,Zy (Zu 2).inst,Zy (Zu 2).realm],Zb [Zy (Zx 2).name,Zy (Zx 2).inst,Zy (Zx 2).realm],Zb [Zy (Zx 0).name,Zy (Zx 0).inst,Zy (Zx 0).realm],Zb [Zy (Zx 1).name,Zy (Zx 1).inst,Zy (Zx 1).realm]]:Nat):Int))=true:=rfl
    have k1:decide ((0:Int)≤((5:Nat):Int))=true:=rfl
    have k2:decide (((5:Nat):Int)≤1000)=true:=rfl
    have k3:Zk .i64 (3+((5:Nat):Int))=3+((5:Nat):Int):=rfl
    have k4:Zk .i64 (8+((5:Nat):Int))=8+((5:Nat):Int):=rfl
    simp only [g,k0,k1,k2,k3,k4,e0,e1,e2,e3,Xf,↓A0,A0]
    by_cases h1:Zd bd % 16=((5:Nat):Int)
    all_goals by_cases h2:Zd bd % 16=8+((5:Nat):Int)
    ·have hE:Zh (Zm ((5:Nat):Int) (Zx 1) lf xp bd)=Zb [Zy (Zx 1).name,Zy (Zx 1).inst,Zz Yn (Xq ((5:Nat):Int)),Zz Zv (3+((5:Nat):Int)),Zz Zv (1000+Zd xp*100),Zz Zv (Zd lf),Zz Zv (1+Zd bd / 16 % 3),Zz Zv 0,Zz Zv 0]:=by
      unfold Zh Zm
      dsimp only
      rw [if_pos h2,if_pos h1]
     rw [sel_pos (by simpa using h1),sel_pos (by simpa using h2),chk_of (by rfl),← hE]
     exact ⟨_,rfl,6,rfl,by decide,by decide⟩
    ·have hE:Zh (Zm ((5:Nat):Int) (Zx 1) lf xp bd)=Zb [Zy (Zx 1).name,Zy (Zx 1).inst,Zz Yn (Xq ((5:Nat):Int)),Zz Zv (3+((5:Nat):Int)),Zz Zv (0),Zz Zv (Zd lf),Zz Zv (1+Zd bd / 16 % 3),Zz Zv 0,Zz Zv 0]:=by
      unfold Zh Zm
      dsimp only
      rw [if_neg h2,if_pos h1]
     rw [sel_pos (by simpa using h1),sel_neg (by simpa using h2),chk_of (by rfl),← hE]
     exact ⟨_,rfl,6,rfl,by decide,by decide⟩
    ·have hE:Zh (Zm ((5:Nat):Int) (Zx 1) lf xp bd)=Zb [Zy (Zx 1).name,Zy (Zx 1).inst,Zz Yn (Xq ((5:Nat):Int)),Zz Zv (3+((5:Nat):Int)),Zz Zv (1000+Zd xp*100),Zz Zv (Zd lf),Zz Zv (0),Zz Zv 0,Zz Zv 0]:=by
      unfold Zh Zm
      dsimp only
      rw [if_pos h2,if_neg h1]
     rw [sel_neg (by simpa using h1),sel_pos (by simpa using h2),chk_of (by rfl),← hE]
     exact ⟨_,rfl,6,rfl,by decide,by decide⟩
    ·have hE:Zh (Zm ((5:Nat):Int) (Zx 1) lf xp bd)=Zb [Zy (Zx 1).name,Zy (Zx 1).inst,Zz Yn (Xq ((5:Nat):Int)),Zz Zv (3+((5:Nat):Int)),Zz Zv (0),Zz Zv (Zd lf),Zz Zv (0),Zz Zv 0,Zz Zv 0]:=by
      unfold Zh Zm
      dsimp only
      rw [if_neg h2,if_neg h1]
     rw [sel_neg (by simpa using h1),sel_neg (by simpa using h2),chk_of (by rfl),← hE]
     exact ⟨_,rfl,6,rfl,by decide,by decide⟩
   ·exact ⟨_,rfl,rfl⟩
  ·rintro _ rfl
   rfl
 ·cases h
theorem w15:Walked Tryz.prog G 15 4 sp15:=by
 refine ⟨Tryz.f15,Tryz.func15,by decide +kernel,rfl,fun xs bl r h=> ?_⟩
 unfold sp15 at h
 split at h
 ·rename_i li x y z t lf sv ins
  obtain ⟨hpre,h2⟩:=chk_inv h;cases h2
  refine Eq.trans (b:=(let t0:Option (AV×Blocks):=some (Yq [Yh [],Zz .i64 103],[]);let t1:Nat:=Zw (Uy 1 li)+Zw x+Zw y+Zw z;Zq (chk (l63 x&&l63 y&&l63 z) (some (Zf (Xn (Yp x y z)),[]))) (kL fun b=>sel (!b) t0 (Zq (chk (l63 sv) (some (Zf (Vn sv),[]))) (kL fun b=>sel (!b) t0 (Zq (chk (l63 ins) (some (Zf (Vy ins),[]))) (kL fun b=>sel (!b) t0 (sel (!Xz t 4294967295) (some (Yq [Yh [],Zz .i64 104],[])) (sel (!Xz lf 255) (some (Yq [Yh [],Zz .i64 104],[])) (Zq (chk (decide (t1≤70368744170000)) (some (Yw (Vd (Uy 1 li) (Yp x y z)),[]))) (kB fun b=>Zq (chk (decide (Zw b≤70368744177664)) (some (Yh (b++Yg t 4 li),[]))) (kO fun l=>Zq (chk (decide (Zw l≤70368744177664)) (some (Yh (l++Yg lf 1 false),[]))) (kO fun l=>Zq (chk (decide (Zw l+Zw sv≤70368744177664)) (some (Yh (Xw l sv),[]))) (kO fun l=>Zq (chk (decide (Zw l+Zw ins≤70368744177664)) (some (Yh (Xw l ins),[]))) (kO fun l=>some (Yq [Yh l,Zz .i64 0],[])))))))))))))):Option (AV×Blocks))) (by kernel_rfl) ?_
  delta kB kO kL
  try dsimp only [cStr,cBs,cBool,cU8,cInt,cSl,l63]
  simp only [Yk,decide_eq_true_eq] at hpre
  obtain ⟨⟨⟨⟨q1,q2⟩,q3⟩,q4⟩,q5⟩:=hpre
  simp only [A0]
  unfold Xg
  rw [chk_of (by simp [q1,q2,q3])]
  cases h1:Xn ⟨x,y,z⟩
  ·rfl
  rw [Yf,sel_false,chk_of (by simp [q4])]
  cases h2:Vn sv
  ·rfl
  rw [Yf,sel_false,chk_of (by simp [q5])]
  cases h3:Vy ins
  ·rfl
  rw [Yf,sel_false]
  cases h4:Xz t 4294967295
  ·rfl
  rw [Yf,sel_false]
  cases h5:Xz lf 255
  ·rfl
  rw [Yf,sel_false]
  have l1:=Vb h1
  have l2:=Kerb.validName_len h2
  have l3:=Kerb.validInst_len h3
  have l4:=Kerb.header_len 1 li
  simp only at l1
  rw [chk_of (by simp;omega),chk_of (by simp [Zj];omega),chk_of (by simp [Zj,Zg];omega),chk_of (by simp [Zj,Zg];omega),chk_of (by simp [Kerb.putText_len,Zj,Zg];omega)]
  rfl
 ·cases h
theorem w26:Walked Tryz.prog G 26 4 sp26:=by
 refine ⟨Tryz.f26,Tryz.func26,by decide +kernel,rfl,fun xs bl r h=> ?_⟩
 unfold sp26 at h
 split at h
 ·rename_i now w els
  obtain ⟨hpre,h2⟩:=chk_inv h;cases h2
  refine Eq.trans (b:=(Zq (loopM (fun (st:List AV)=>cInt .i64 st fun n r=>cInt .i64 r fun n_1 r=>onCons r fun x r=>AV.onOwnL x fun b=>cSl 1 r fun b_1 r=>cInt .i64 r fun n_2 r=>cInt .i64 r fun n_3 r=>let t0:List AV:=[Wg 1 b_1,Zz .i64 n_2,Zz .i64 (Zk .i64 (n_3+1))];onNil r (sel (decide (n_3<n_2)) (chk (decide (0≤n_3)&&decide (n_3<(↑(Zw b_1):Int))&&true) (Ym .i64 (Xb b_1 (Yz n_3) Vk) fun n_4=>sel (!n_4==0) (chk (room (Zw b+Zw [Zz .i64 n_4]) (nat_lit 8)) (some (Sum.inl (Zz .i64 n::Zz .i64 n_1::Wn (b++[Zz .i64 n_4])::t0)))) (some (Sum.inl (Zz .i64 n::Zz .i64 n_1::Wn b::t0))))) (some (Sum.inr (Vu 0,[Zz .i64 n,Zz .i64 n_1,Wn b,Wg 1 b_1,Zz .i64 n_2,Zz .i64 n_3]))))) [Zz .i64 now,Zz .i64 w,Wn [],Wg 1 els,Zz .i64 (↑(Zw els):Int),Zz .i64 0]) fun (r:Ex×List AV)=>cInt .i64 (Yy r) fun n r_1=>cInt .i64 r_1 fun n_1 r_2=>onCons r_2 fun x r_3=>AV.onOwnL x fun b=>cSl 1 r_3 fun b_1 r_4=>cInt .i64 r_4 fun n_2 r_5=>cInt .i64 r_5 fun n_3 r_6=>onNil r_6 (exK r.1 none fun (j:Nat)=>sel (Nat.beq j 0) (Zq (chk (allInts b&&decide (Zw b≤1000000)&&List.all (intsIn b) Kerb.isI64) (some (Yq [Zz .i64 (Yx (Kerb.grantLife n n_1 (intsIn b))),Zf (Yy (Kerb.grantLife n n_1 (intsIn b)))],[]))) (kT fun vs=>cInt .i64 vs fun n r=>cBool r fun b r=>onNil r (some (Yq [Zz .i64 n,Zf b],[])))) none):Option (AV×Blocks))) (by kernel_rfl) ?_
  delta kT
  try dsimp only [cStr,cBs,cBool,cU8,cInt,cSl,l63]
  simp only [Yk,decide_eq_true_eq] at hpre
  obtain ⟨⟨ha,hlen⟩,hi⟩:=hpre
  have hil:=Kerb.ints_len ha
  have r8:∀ {m:Nat},m≤1000001→Go.Abs.room m 8=true:=fun h=>by simp [Go.Abs.room];omega
  have hfl:∀ i,(((intsIn els).take i).filter (fun n => !(n==0))).length≤1000000:=fun i=>by
   refine Yj (List.length_filter_le _ _) ?_
   rw [List.length_take];omega
  refine loop_rounds (fun i:Nat=>[Zz Zv now,Zz Zv w,Wn ((((intsIn els).take i).filter (fun n => !(n==0))).map (Zz Zv)),Wg 1 els,Zz Zv (els.length:Int),Zz Zv (i:Int)]) (fun i=>i≤els.length) (fun i=>els.length-i)
   (fun r=>r=(Vu 0,[Zz Zv now,Zz Zv w,Wn (((intsIn els).filter (fun n => !(n==0))).map (Zz Zv)),Wg 1 els,Zz Zv (els.length:Int),Zz Zv (els.length:Int)])) 0 (Nat.zero_le _) rfl ?_ ?_
  ·intro i h0
   simp only [↓A0,A0,List.length_map,List.length_cons,List.length_nil]
   rcases Nat.lt_or_ge i els.length with h | h
   ·obtain ⟨m,h1,h2⟩:=Kerb.ints_get ha h
    rw [sel_pos (by simp;omega),chk_of (by simp;omega),Uk,h1,onInt_int]
    have ht:(intsIn els).take (i+1)=(intsIn els).take i++[m]:=by
     have h4:i<(intsIn els).length:=by omega
     rw [List.take_succ_eq_append_getElem h4]
     rw [List.drop_eq_getElem_cons h4] at h2
     rw [(List.cons.inj h2).1]
    have hs:((intsIn els).take (i+1)).filter (fun n => !(n==0))=((intsIn els).take i).filter (fun n => !(n==0))++(if m=0 then [] else [m]):=by
     rw [ht,List.filter_append]
     congr 1
     by_cases q:m=0<;>simp [q]
    rw [wrap_i64 (by omega) (by omega)]
    by_cases hm:m=0
    ·rw [if_pos hm,List.append_nil] at hs
     rw [sel_neg (by simpa using hm)]
     exact ⟨_,rfl,i+1,by dsimp only;rw [hs];rfl,by omega,by dsimp only;omega⟩
    ·rw [if_neg hm] at hs
     rw [sel_pos (by simpa using hm),chk_of (r8 (by have:=hfl i;omega))]
     exact ⟨_,rfl,i+1,by dsimp only;rw [hs,List.map_append];rfl,by omega,by dsimp only;omega⟩
   ·have h1:i=els.length:=by omega
    subst h1
    rw [sel_neg (by simp)]
    refine ⟨_,rfl,?_⟩
    show _=_
    rw [List.take_of_length_le (by omega)]
  ·rintro _ rfl
   have hall:=Kerb.ints_map ((intsIn els).filter (fun n => !(n==0)))
   have hfl2:((intsIn els).filter (fun n => !(n==0))).length≤1000000:=Yj (List.length_filter_le _ _) (by omega)
   have hI:((intsIn els).filter (fun n => !(n==0))).all Kerb.isI64=true:=by
    rw [List.all_eq_true] at hi ⊢
    exact fun x hx=>hi x (List.mem_filter.1 hx).1
   simp only [hall.1,hall.2,hfl2,hI,List.length_map,decide_true,Xf,↓A0,A0]
   rw [sel_pos (Wb _)]
 ·cases h
theorem w34:Walked Tryz.prog G 34 4 sp34:=by
 refine ⟨Tryz.f34,Tryz.func34,by decide +kernel,rfl,fun xs bl r h=> ?_⟩
 unfold sp34 at h
 split at h
 ·rename_i B at_ li bad
  obtain ⟨hpre,h2⟩:=chk_inv h;cases h2
  show runFnH (G.env 34 4) G.rts (G.own 34) Tryz.f34 _ _ [0]=_
  refine Eq.trans (b:=(Zq (chk (decide (Zw B≤140737488355328)) (some (Yq [Zz .i64 (Xy (Zn B at_ 4 li)),Zz .i64 (Yb (Zn B at_ 4 li)),Zz .i64 (Yv (Zn B at_ 4 li))],[]))) fun (r:AV×Blocks)=>onNilB (Yy r) (AV.onTup (Yx r) fun vs=>onCons vs fun x r=>Ym .i64 x fun n=>onCons r fun x r=>Ym .i64 x fun n_1=>onCons r fun x r=>Ym .i64 x fun n_2=>onNil r (some (Zz .i64 n,[[Yw B,Zz .i64 (bif bad || !n_2==0 then at_ else n_1),Zf li,Zf (bad || !n_2==0)]]))):Option (AV×Blocks))) (by kernel_rfl) ?_
  simp only [A0]
  rw [chk_of hpre]
 ·cases h
theorem w35:Walked Tryz.prog G 35 4 sp35:=by
 refine ⟨Tryz.f35,Tryz.func35,by decide +kernel,rfl,fun xs bl r h=> ?_⟩
 unfold sp35 at h
 split at h
 ·rename_i B at_ li bad
  obtain ⟨hpre,h2⟩:=chk_inv h;cases h2
  show runFnH (G.env 35 4) G.rts (G.own 35) Tryz.f35 _ _ [0]=_
  refine Eq.trans (b:=(Zq (chk (decide (Zw B≤140737488355328)) (some (Yq [Zz .i64 (Xy (Zn B at_ 1 false)),Zz .i64 (Yb (Zn B at_ 1 false)),Zz .i64 (Yv (Zn B at_ 1 false))],[]))) fun (r:AV×Blocks)=>onNilB (Yy r) (AV.onTup (Yx r) fun vs=>onCons vs fun x r=>Ym .i64 x fun n=>onCons r fun x r=>Ym .i64 x fun n_1=>onCons r fun x r=>Ym .i64 x fun n_2=>onNil r (some (Zz .i64 n,[[Yw B,Zz .i64 (bif bad || !n_2==0 then at_ else n_1),Zf li,Zf (bad || !n_2==0)]]))):Option (AV×Blocks))) (by kernel_rfl) ?_
  simp only [A0]
  rw [chk_of hpre]
 ·cases h
theorem w37:Walked Tryz.prog G 37 4 sp37:=by
 refine ⟨Tryz.f37,Tryz.func37,by decide +kernel,rfl,fun xs bl r h=> ?_⟩
 unfold sp37 at h
 split at h
 ·rename_i B at_ li bad
  obtain ⟨hpre,h2⟩:=chk_inv h;cases h2
  show runFnH (G.env 37 4) G.rts (G.own 37) Tryz.f37 _ _ [0]=_
  refine Eq.trans (b:=(Zq (chk (decide (Zw B≤140737488355328)) (some (Yq [Zz .i64 (Xy (Zn B at_ 2 li)),Zz .i64 (Yb (Zn B at_ 2 li)),Zz .i64 (Yv (Zn B at_ 2 li))],[]))) fun (r:AV×Blocks)=>onNilB (Yy r) (AV.onTup (Yx r) fun vs=>onCons vs fun x r=>Ym .i64 x fun n=>onCons r fun x r=>Ym .i64 x fun n_1=>onCons r fun x r=>Ym .i64 x fun n_2=>onNil r (some (Zz .i64 n,[[Yw B,Zz .i64 (bif bad || !n_2==0 then at_ else n_1),Zf li,Zf (bad || !n_2==0)]]))):Option (AV×Blocks))) (by kernel_rfl) ?_
  simp only [A0]
  rw [chk_of hpre]
 ·cases h
theorem w39:Walked Tryz.prog G 39 4 sp39:=by
 refine ⟨Tryz.f39,Tryz.func39,by decide +kernel,rfl,fun xs bl r h=> ?_⟩
 unfold sp39 at h
 split at h
 ·rename_i li x y z t ex kv sd
  obtain ⟨hpre,h2⟩:=chk_inv h;cases h2
  refine Eq.trans (b:=(let t0:Option (AV×Blocks):=some (Yq [Yw [],Zz .i64 104],[]);let t1:Nat:=Zw (Uy 2 li)+Zw x+Zw y+Zw z;Zq (chk (l63 x&&l63 y&&l63 z) (some (Zf (Xn (Yp x y z)),[]))) (kL fun b=>sel (!b) (some (Yq [Yw [],Zz .i64 103],[])) (sel (!Xz t 4294967295) t0 (sel (!Xz ex 4294967295) t0 (sel (!Xz kv 255) t0 (sel (decide ((↑(Zw sd):Int)>1012)) (some (Yq [Yw [],Zz .i64 105],[])) (Zq (chk (decide (t1≤70368744170000)) (some (Yw (Vd (Uy 2 li) (Yp x y z)),[]))) (kB fun b=>Zq (chk (decide (Zw b≤70368744177664)) (some (Yh (b++Yg t 4 li),[]))) (kO fun l=>Zq (chk (decide (Zw l≤70368744177664)) (some (Yh (l++Yg 1 1 false),[]))) (kO fun l=>Zq (chk (decide (Zw l≤70368744177664)) (some (Yh (l++Yg ex 4 li),[]))) (kO fun l=>Zq (chk (decide (Zw l≤70368744177664)) (some (Yh (l++Yg kv 1 false),[]))) (kO fun l=>Zq (chk (decide (Zw l≤70368744177664)) (some (Yh (l++Yg (↑(Zw sd):Int) 2 li),[]))) (kO fun l=>chk (room (Zw l+Zw sd) 1) (some (Yq [Yw (l++sd),Zz .i64 0],[])))))))))))))):Option (AV×Blocks))) (by kernel_rfl) ?_
  delta kB kO kL
  try dsimp only [cStr,cBs,cBool,cU8,cInt,cSl,l63]
  simp only [Yk,decide_eq_true_eq] at hpre
  obtain ⟨⟨q1,q2⟩,q3⟩:=hpre
  simp only [A0]
  unfold Kerb.encodeReply
  rw [chk_of (by simp [q1,q2,q3])]
  cases h1:Xn ⟨x,y,z⟩
  ·rfl
  rw [Yf,sel_false]
  cases h4:Xz t 4294967295
  ·rfl
  rw [Yf,sel_false]
  cases h5:Xz ex 4294967295
  ·rfl
  rw [Yf,sel_false]
  cases h6:Xz kv 255
  ·rfl
  rw [Yf,sel_false]
  by_cases h7:1012<sd.length
  ·rw [sel_pos (by simp;omega),if_neg (by simp),if_neg (by simp),if_pos h7]
  have l1:=Vb h1
  have l4:=Kerb.header_len 2 li
  simp only at l1
  rw [sel_neg (by simp;omega),if_neg (by simp),if_neg (by simp),if_neg h7]
  rw [chk_of (by simp;omega),chk_of (by simp [Zj];omega),chk_of (by simp [Zj,Zg];omega),chk_of (by simp [Zj,Zg];omega),chk_of (by simp [Zj,Zg];omega),chk_of (by simp [Zj,Zg];omega),chk_of (Wu (by simp [Zj,Zg];omega))]
 ·cases h
theorem w40:Walked Tryz.prog G 40 4 sp40:=by
 refine ⟨Tryz.f40,Tryz.func40,by decide +kernel,rfl,fun xs bl r h=> ?_⟩
 unfold sp40 at h
 split at h
 ·rename_i b
  obtain ⟨hpre,h2⟩:=chk_inv h;cases h2
  refine Eq.trans (b:=(let t1:Option (AV×Blocks):=some (Yq [Zb [Zz .i64 0,Zz .u64 0,Yw []],Zz .i64 0,Zz .i64 100],[]);let t2:Int:=Zk .i64 (↑(BitVec.toNat (BitVec.ofInt (Xh .i64) (Zk .i64 (Zk .i64 (↑(Yd (Xb b (Yz 10) (0:UInt8))):Int)*2 ^ min (Yz 8) (Xh .i64))) ||| BitVec.ofInt (Xh .i64) (Zk .i64 (↑(Yd (Xb b (Yz 11) (0:UInt8))):Int)))):Int);let t3:Int:=Zk .i64 (↑(Yd (Xb b (Yz 1) (0:UInt8))):Int);let t4:Option (AV×Blocks):=some (Yq [Zb [Zz .i64 0,Zz .u64 0,Yw []],Zz .i64 0,Zz .i64 101],[]);let t0:Int:=Zk .i64 (12+t2);sel (decide ((↑(Zw b):Int)<12)) t4 (chk (decide (10≤(↑(Zw b):Int))) (Zq (chk (decide (Zw (Vg (Yz 2) (Vf (Yz 10) b))≤4611686018427387904)) (some (Yq [Zz .u64 (Yx (Wx (Vg (Yz 2) (Vf (Yz 10) b)))),Zf (Yy (Wx (Vg (Yz 2) (Vf (Yz 10) b))))],[]))) (kT fun vs=>cInt .u64 vs fun n r=>cBool r fun b_1 r=>onNil r (chk (decide (10<(↑(Zw b):Int))) (chk (decide (11<(↑(Zw b):Int))) (chk (decide (0<(↑(Zw b):Int))) (sel (!Xb b (Yz 0) (0:UInt8)==(66:UInt8)) t1 (chk (decide (1<(↑(Zw b):Int))) (sel (decide (t3<1)) t1 (chk (decide (1<(↑(Zw b):Int))) (sel (decide (t3>10)) t1 (sel (!b_1) t1 (sel (decide (t2>1000)) t1 (sel (decide ((↑(Zw b):Int)<t0)) t4 (chk (decide (1<(↑(Zw b):Int))) (chk (decide (12≤t0)&&decide (t0≤(↑(Zw b):Int))) (chk (room (Zw (Vg (Yz 12) (Vf (Yz t0) b))) 1) (some (Yq [Zb [Zz .i64 t3,Zz .u64 n,Yw (Vg (Yz 12) (Vf (Yz t0) b))],Zz .i64 t0,Zz .i64 0],[]))))))))))))))))))):Option (AV×Blocks))) (by kernel_rfl) ?_
  delta kT
  try dsimp only [cStr,cBs,cBool,cU8,cInt,cSl,l63]
  simp only [decide_eq_true_eq] at hpre
  unfold Vx
  by_cases h0:b.length<12
  ·rw [sel_pos (by simp;omega),if_pos h0];rfl
  rw [sel_neg (by simp;omega),if_neg h0]
  have hc:=Kerb.cut_len b 2 8
  have hs:(b.getD 10 0).toNat*256+(b.getD 11 0).toNat=Kerb.boxSize b:=rfl
  simp only [Kerb.cut_28,Kerb.size_or]
  simp only [show Yz 0=0 from rfl,show Yz 1=1 from rfl,show Yz 10=10 from rfl,show Yz 11=11 from rfl,Kerb.wrap_byte,hs]
  rw [chk_of (by simp;omega),chk_of (by simp;omega)]
  simp only [↓A0]
  rw [chk_of (by simp;omega),chk_of (by simp;omega),chk_of (by simp;omega)]
  by_cases h1:b.getD 0 0=66
  case neg=>rw [sel_pos (by simpa using h1),if_pos (.inl h1)];rfl
  rw [sel_neg (by simpa using h1),chk_of (by simp;omega)]
  cases h2:Uz ((b.getD 1 0).toNat:Int)
  ·rw [if_pos (.inr (.inl rfl))]
   by_cases h2a:((b.getD 1 0).toNat:Int)<1
   ·rw [sel_pos (by simpa using h2a)];rfl
   ·rw [sel_neg (by simpa using h2a),chk_of (by simp;omega),sel_pos (decide_eq_true (by simp only [Uz,Bool.and_eq_false_iff,decide_eq_false_iff_not] at h2;omega))];rfl
  have hk:1≤((b.getD 1 0).toNat:Int)∧((b.getD 1 0).toNat:Int)≤10:=by simp only [Uz,Yk,decide_eq_true_eq] at h2;exact h2
  rw [sel_neg (decide_eq_false (by omega)),chk_of (by simp;omega),sel_neg (decide_eq_false (by omega))]
  cases h3:(Wx (Kerb.cut b 2 8)).2
  ·rw [if_pos (.inr (.inr (.inl rfl)))];rfl
  rw [Yf,sel_false]
  by_cases h4:1000<Kerb.boxSize b
  ·rw [sel_pos (by simp;omega),if_pos (.inr (.inr (.inr h4)))];rfl
  rw [sel_neg (by simp;omega),if_neg (by rintro (h | h | h | h)<;>first | exact h h1 | cases h | omega),wrap_i64 (by omega) (by omega)]
  by_cases h5:b.length<12+Kerb.boxSize b
  ·rw [sel_pos (by simp;omega),if_pos h5];rfl
  have hc2:=Kerb.cut_len b 12 (Kerb.boxSize b)
  rw [sel_neg (by simp;omega),if_neg h5,Kerb.cut_12]
  repeat rw [chk_of (by first | (simp;omega) | exact Wu (by omega))]
  simp
 ·cases h
theorem w42:Walked Tryz.prog G 42 4 sp42:=by
 refine ⟨Tryz.f42,Tryz.func42,by decide +kernel,rfl,fun xs bl r h=> ?_⟩
 unfold sp42 at h
 split at h
 ·rename_i k x y z lf kv tk t little
  obtain ⟨hpre,h2⟩:=chk_inv h;cases h2
  refine Eq.trans (b:=(let t0:List UInt8:=[]++Yg (bif little then 1 else 0) 1 false;let t1:Option (AV×Blocks):=some (Yq [Yw [],Zz .i64 104],[]);Zq (chk (decide (0≤k)&&decide (k<18446744073709551616)) (some (Zf (Wd k),[]))) (kL fun b=>sel (!b) (some (Yq [Yw [],Zz .i64 10],[])) (Zq (chk (l63 x&&l63 y&&l63 z) (some (Zf (Xn (Yp x y z)),[]))) (kL fun b=>sel (!b) (some (Yq [Yw [],Zz .i64 103],[])) (sel (!Xz lf 255) t1 (sel (!Xz kv 255) t1 (sel (!Xz t 4294967295) t1 (sel (decide ((↑(Zw tk):Int)>255)) (some (Yq [Yw [],Zz .i64 105],[])) (Zq (chk (decide (0≤k)&&decide (k<18446744073709551616)) (some (Yw (Kerb.keyBytes k),[]))) (kB fun b=>let t2:Nat:=Zw (t0++b)+Zw x+Zw y+Zw z;chk (room (Zw t0+Zw b) 1) (Zq (chk (decide (t2≤70368744170000)) (some (Yw (Vd (t0++b) (Yp x y z)),[]))) (kB fun b=>Zq (chk (decide (Zw b≤70368744177664)) (some (Yh (b++Yg lf 1 false),[]))) (kO fun l=>Zq (chk (decide (Zw l≤70368744177664)) (some (Yh (l++Yg kv 1 false),[]))) (kO fun l=>Zq (chk (decide (Zw l≤70368744177664)) (some (Yh (l++Yg (↑(Zw tk):Int) 1 false),[]))) (kO fun l=>chk (room (Zw l+Zw tk) 1) (Zq (chk (decide (Zw (l++tk)≤70368744177664)) (some (Yh (l++tk++Yg t 4 little),[]))) (kO fun l=>Zq (chk (decide (Zw l≤70368744177664)) (some (Yh (Kerb.pad l),[]))) (kO fun l=>some (Yq [Yw l,Zz .i64 0],[])))))))))))))))))):Option (AV×Blocks))) (by kernel_rfl) ?_
  delta kB kO kL
  try dsimp only [cStr,cBs,cBool,cU8,cInt,cSl,l63]
  simp only [Yk,decide_eq_true_eq] at hpre
  obtain ⟨⟨⟨⟨q1,q2⟩,q3⟩,h0⟩,h1⟩:=hpre
  simp only [A0]
  unfold Vj
  rw [chk_of (by simp [h0,h1])]
  cases hk:Wd k
  ·rfl
  rw [Yf,sel_false,chk_of (by simp [q1,q2,q3])]
  cases h1:Xn ⟨x,y,z⟩
  ·rfl
  rw [Yf,sel_false]
  cases h4:Xz lf 255
  ·rfl
  rw [Yf,sel_false]
  cases h5:Xz kv 255
  ·rfl
  rw [Yf,sel_false]
  cases h6:Xz t 4294967295
  ·rfl
  rw [Yf,sel_false]
  by_cases h7:255<tk.length
  ·rw [sel_pos (by simp;omega),if_neg (by simp),if_neg (by simp),if_neg (by simp),if_pos h7]
  have l1:=Vb h1
  simp only at l1
  rw [sel_neg (by simp;omega),if_neg (by simp),if_neg (by simp),if_neg (by simp),if_neg h7]
  rw [chk_of (by simp;omega),chk_of (Wu (by first | (simp [Zj,Zg,Zp];done) | (simp [Zj,Zg,Zp];omega))),chk_of (by first | (simp [Zj,Zg,Zp];done) | (simp [Zj,Zg,Zp];omega)),chk_of (by first | (simp [Zj,Zg,Zp];done) | (simp [Zj,Zg,Zp];omega)),chk_of (by first | (simp [Zj,Zg,Zp];done) | (simp [Zj,Zg,Zp];omega)),chk_of (by first | (simp [Zj,Zg,Zp];done) | (simp [Zj,Zg,Zp];omega)),chk_of (Wu (by first | (simp [Zj,Zg,Zp];done) | (simp [Zj,Zg,Zp];omega))),chk_of (by first | (simp [Zj,Zg,Zp];done) | (simp [Zj,Zg,Zp];omega)),chk_of (by first | (simp [Zj,Zg,Zp];done) | (simp [Zj,Zg,Zp];omega))]
  simp
 ·cases h
theorem w54:Walked Tryz.prog G 54 4 sp54:=by
 refine ⟨Tryz.f54,Tryz.func54,by decide +kernel,rfl,fun xs bl r h=> ?_⟩
 unfold sp54 at h
 split at h
 ·rename_i li x y z t cd tx
  obtain ⟨hpre,h2⟩:=chk_inv h;cases h2
  refine Eq.trans (b:=(let t0:Option (AV×Blocks):=some (Yq [Yw [],Zz .i64 104],[]);Zq (chk (l63 x&&l63 y&&l63 z) (some (Zf (Xn (Yp x y z)),[]))) (kL fun b=>sel (!b) (some (Yq [Yw [],Zz .i64 103],[])) (sel (!Xz t 4294967295) t0 (sel (decide (cd<1)) t0 (sel (decide (cd>99)) t0 (sel (decide ((↑(Zw tx):Int)>39)) (some (Yq [Yw [],Zz .i64 105],[])) (Zq (loopM (fun (st:List AV)=>cBool st fun b r=>cStr r fun b_1 r=>cStr r fun b_2 r=>cStr r fun b_3 r=>cInt .i64 r fun n r=>cInt .i64 r fun n_1 r=>cStr r fun b_4 r=>cBs r fun b_5 r=>cInt .i64 r fun n_2 r=>cInt .i64 r fun n_3 r=>onNil r (sel (decide (n_3<(↑(Zw b_4):Int))) (chk (decide (0≤n_3)&&decide (n_3<(↑(Zw b_4):Int))) (sel (Xb b_4 (Yz n_3) (0:UInt8)==(0:UInt8)) (some (Sum.inr (Ex.ret,[Zf b,Zy b_1,Zy b_2,Zy b_3,Zz .i64 n,Zz .i64 n_1,Zy b_4,Yw [],Zz .i64 100,Zz .i64 n_3]))) (some (Sum.inl [Zf b,Zy b_1,Zy b_2,Zy b_3,Zz .i64 n,Zz .i64 n_1,Zy b_4,Yw b_5,Zz .i64 n_2,Zz .i64 (Zk .i64 (n_3+1))])))) (some (Sum.inr (Vu 0,[Zf b,Zy b_1,Zy b_2,Zy b_3,Zz .i64 n,Zz .i64 n_1,Zy b_4,Yw b_5,Zz .i64 n_2,Zz .i64 n_3]))))) [Zf li,Zy x,Zy y,Zy z,Zz .i64 t,Zz .i64 cd,Zy tx,Yw [],Zz .i64 0,Zz .i64 0]) fun (r:Ex×List AV)=>cBool (Yy r) fun b r_1=>cStr r_1 fun b_1 r_2=>cStr r_2 fun b_2 r_3=>cStr r_3 fun b_3 r_4=>let t1:Nat:=Zw (Uy 5 b)+Zw b_1+Zw b_2+Zw b_3;cInt .i64 r_4 fun n r_5=>cInt .i64 r_5 fun n_1 r_6=>cStr r_6 fun b_4 r_7=>cBs r_7 fun b_5 r_8=>cInt .i64 r_8 fun n_2 r_9=>cInt .i64 r_9 fun n_3 r_10=>onNil r_10 (exK r.1 (some (Yq [Yw b_5,Zz .i64 n_2],[])) fun (j:Nat)=>sel (Nat.beq j 0) (Zq (chk (decide (t1≤70368744170000)) (some (Yw (Vd (Uy 5 b) (Yp b_1 b_2 b_3)),[]))) (kB fun b_6=>Zq (chk (decide (Zw b_6≤70368744177664)) (some (Yh (b_6++Yg n 4 b),[]))) (kO fun l=>Zq (chk (decide (Zw l≤70368744177664)) (some (Yh (l++Yg n_1 4 b),[]))) (kO fun l=>Zq (chk (decide (Zw l+Zw b_4≤70368744177664)) (some (Yh (Xw l b_4),[]))) (kO fun l=>some (Yq [Yw l,Zz .i64 0],[])))))) none))))))):Option (AV×Blocks))) (by kernel_rfl) ?_
  delta kB kO kL
  try dsimp only [cStr,cBs,cBool,cU8,cInt,cSl,l63]
  simp only [Yk,decide_eq_true_eq] at hpre
  obtain ⟨⟨⟨q1,q2⟩,q3⟩,q4⟩:=hpre
  simp only [A0]
  unfold Kerb.encodeError
  rw [chk_of (by simp [q1,q2,q3])]
  cases h1:Xn ⟨x,y,z⟩
  ·rfl
  rw [Yf,sel_false]
  cases h4:Xz t 4294967295
  ·rfl
  rw [Yf,sel_false]
  by_cases h5:1≤cd
  case neg =>
   rw [sel_pos (by simp;omega),if_neg (by simp),if_pos (by simp;omega)]
  by_cases h6:cd≤99
  case neg =>
   rw [sel_neg (by simp;omega),sel_pos (by simp;omega),if_neg (by simp),if_pos (by simp;omega)]
  rw [sel_neg (by simp;omega),sel_neg (by simp;omega),if_neg (by simp),if_neg (by simp;omega)]
  by_cases h7:39<tx.length
  ·rw [sel_pos (by simp;omega),if_pos h7]
  have l1:=Vb h1
  have l4:=Kerb.header_len 5 li
  simp only at l1
  rw [sel_neg (by simp;omega),if_neg h7]
  refine loop_rounds (fun i:Nat=>[Zf li,Zy x,Zy y,Zy z,Zz Zv t,Zz Zv cd,Zy tx,Yw [],Zz Zv 0,Zz Zv (i:Int)]) (fun i=>i≤tx.length∧((0:UInt8)∈tx↔(0:UInt8)∈tx.drop i)) (fun i=>tx.length-i)
   (fun r=>∃ (i:Nat) (e:Int),r.2=[Zf li,Zy x,Zy y,Zy z,Zz Zv t,Zz Zv cd,Zy tx,Yw [],Zz Zv e,Zz Zv (i:Int)]∧((r.1 = .ret∧e=100∧(0:UInt8)∈tx)∨(r.1 = .exit 0∧(0:UInt8) ∉ tx))) 0 ⟨Nat.zero_le _,by simp⟩ rfl ?_ ?_
  ·rintro i ⟨hi,hm⟩
   simp only [A0]
   by_cases hlt:i<tx.length
   ·have hd:=Kerb.drop_all_cons hlt
    rw [sel_pos (by simp;omega),chk_of (by simp;omega),Uk]
    rw [hd,List.mem_cons] at hm
    by_cases h3:tx.getD i 0=0
    ·rw [sel_pos (by rw [h3];rfl)]
     exact ⟨_,rfl,i,100,rfl,.inl ⟨rfl,rfl,hm.2 (.inl h3.symm)⟩⟩
    ·rw [sel_neg (beq_eq_false_iff_ne.2 h3),wrap_i64 (by omega) (by omega)]
     exact ⟨_,rfl,i+1,rfl,⟨by omega,hm.trans ⟨fun h=>h.resolve_left fun e=>h3 e.symm,.inr⟩⟩,by dsimp only;omega⟩
   ·rw [sel_neg (by simp;omega)]
    refine ⟨_,rfl,i,0,rfl,.inr ⟨rfl,?_⟩⟩
    rw [hm,List.drop_eq_nil_of_le (by omega)];simp
  ·rintro ⟨e,l⟩ ⟨i,x,rfl,⟨rfl,rfl,h⟩ | ⟨rfl,h⟩⟩
   ·simp only [A0]
    rw [if_pos h]
   ·simp only [A0]
    rw [if_neg h,sel_pos (Wb _)]
    rw [chk_of (by simp;omega),chk_of (by simp [Zj];omega),chk_of (by simp [Zj,Zg];omega),chk_of (by simp [Zj,Zg];omega)]
 ·cases h
theorem w65:Walked Tryz.prog G 65 4 sp65:=by
 refine ⟨Tryz.f65,Tryz.func65,by decide +kernel,rfl,fun xs bl r h=> ?_⟩
 unfold sp65 at h
 split at h
 ·rename_i rl els n i now bit xp br
  obtain ⟨hpre,h2⟩:=chk_inv h;cases h2
  refine Eq.trans (b:=(Zq (chk (List.all els Kerb.isEntry&&decide (Zw els≤1000000)) (some (Yq [Zz .i64 (Yx (Kerb.findEnt (List.map Vp els) n i)),Zz .i64 (Yy (Kerb.findEnt (List.map Vp els) n i))],[]))) (kT fun vs=>cInt .i64 vs fun n r=>cInt .i64 r fun n_1 r=>onNil r (sel (!n_1==0) (some (Yq [Zz .i64 0,Zz .i64 n_1],[])) (chk (decide (0≤n)&&decide (n<(↑(Zw els):Int))&&true) (Vm (Xb els (Yz n) Vk) fun cs=>cStr cs fun b r=>cStr r fun b r=>cInt .u64 r fun n_2 r=>cInt .i64 r fun n_3 r=>cInt .i64 r fun n_4 r=>cInt .i64 r fun n_5 r=>cInt .i64 r fun n_6 r=>let t0:Option (AV×Blocks):=sel (!Zk .i64 (↑(BitVec.toNat (BitVec.ofInt (Xh .i64) n_6 &&& BitVec.ofInt (Xh .i64) bit)):Int)==0) (some (Yq [Zz .i64 0,Zz .i64 br],[])) (some (Yq [Zz .i64 n,Zz .i64 0],[]));cInt .i64 r fun n r=>cInt .i64 r fun n r=>onNil r (Zq (chk (decide (0≤n_2)&&decide (n_2<18446744073709551616)) (some (Zf (Wd n_2),[]))) (kL fun b=>sel (!b) (some (Yq [Zz .i64 0,Zz .i64 10],[])) (sel (!n_4==0) (sel (decide (n_4≤now)) (some (Yq [Zz .i64 0,Zz .i64 xp],[])) t0) t0))))))):Option (AV×Blocks))) (by kernel_rfl) ?_
  delta kT kL
  try dsimp only [cStr,cBs,cBool,cU8,cInt,cSl,l63]
  simp only [Yk,decide_eq_true_eq] at hpre
  obtain ⟨hall,hlen⟩:=hpre
  obtain ⟨es,rfl,hok⟩:=Kerb.ents_of hall
  simp only [hall,hlen,Kerb.map_toEntry,decide_true,Xf,↓A0,A0]
  unfold Kerb.useEnt
  dsimp only
  have hf:=Kerb.find_count (es:=es) (n:=n) (i:=i)
  generalize Kerb.findEnt es n i=F at hf
  obtain ⟨j,e⟩:=F
  dsimp only at hf ⊢
  by_cases he:e=0
  case neg=>rw [sel_pos (by simpa using he),if_pos he]
  obtain ⟨_,f2,f3⟩:=hf he
  subst f2
  rw [sel_neg (by simpa using he),if_neg (by simpa using he),chk_of (by simp only [List.length_map,Bool.and_true,Yk,decide_eq_true_eq];omega),Uk,Kerb.getD_ent f3]
  have hx:=hok _ (Kerb.ent_mem f3)
  generalize es.getD (es.findIdx (Kerb.Entry.named n i)) Kerb.noEntry=x at hx
  obtain ⟨_,_,x3,_⟩:=hx
  have h4:(decide (0≤x.key)&&decide (x.key<18446744073709551616))=true:=x3
  simp only [Zh,↓A0,A0,h4]
  cases hk:Wd x.key
  ·rfl
  simp only [Yf,Bool.not_false,sel_true,sel_false]
  rw [if_neg (by simp)]
  have hb:Zk .i64 (BitVec.toNat (BitVec.ofInt (Xh .i64) x.attr &&& BitVec.ofInt (Xh .i64) bit):Int)=Kerb.bitOf x.attr bit:=rfl
  rw [hb]
  by_cases h1:x.expires=0
  ·rw [sel_neg (by simp [h1]),if_neg (by simp [h1])]
   by_cases h2:Kerb.bitOf x.attr bit=0
   ·rw [sel_neg (by simp [h2]),if_neg (by simp [h2])]
   ·rw [sel_pos (by simpa using h2),if_pos h2]
  ·rw [sel_pos (by simpa using h1)]
   by_cases h3:x.expires≤now
   ·rw [sel_pos (by simpa using h3),if_pos ⟨h1,h3⟩]
   ·rw [sel_neg (by simpa using h3),if_neg (by simp [h3])]
    by_cases h2:Kerb.bitOf x.attr bit=0
    ·rw [sel_neg (by simp [h2]),if_neg (by simp [h2])]
    ·rw [sel_pos (by simpa using h2),if_pos h2]
 ·cases h
theorem w76:Walked Tryz.prog G 76 4 sp76:=by
 refine ⟨Tryz.f76,Tryz.func76,by decide +kernel,rfl,fun xs bl r h=> ?_⟩
 unfold sp76 at h
 split at h
 ·rename_i kd k bd
  obtain ⟨hpre,h2⟩:=chk_inv h;cases h2
  refine Eq.trans (b:=(let t0:List UInt8:=[Wj (Yz (Zk .u8 (Int.fdiv (↑(Zw bd):Int) (2 ^ min (Yz 8) (Xh .i64))))),Wj (Yz (Zk .u8 (↑(Zw bd):Int)))];let t1:List UInt8:=List.replicate (Yz 0) (0:UInt8)++[(66:UInt8),Wj (Yz (Zk .u8 kd))];let t2:Int:=Zk .i64 (12+(↑(Zw bd):Int));sel (!Uz kd) (some (Yq [Yw [],Zz .i64 104],[])) (Zq (chk (decide (0≤k)&&decide (k<18446744073709551616)) (some (Zf (Wd k),[]))) (kL fun b=>sel (!b) (some (Yq [Yw [],Zz .i64 10],[])) (sel (decide ((↑(Zw bd):Int)>1000)) (some (Yq [Yw [],Zz .i64 105],[])) (chk (decide (0≤t2)&&decide (t2≤140737488355328)) (chk (room (Zw (List.replicate (Yz 0) (0:UInt8))+Zw [(66:UInt8),Wj (Yz (Zk .u8 kd))]) 1) (Zq (chk (decide (0≤k)&&decide (k<18446744073709551616)) (some (Yw (Kerb.keyBytes k),[]))) (kB fun b=>chk (room (Zw t1+Zw b) 1) (chk (room (Zw (t1++b)+Zw t0) 1) (chk (room (Zw (t1++b++t0)+Zw bd) 1) (some (Yq [Yw (t1++b++t0++bd),Zz .i64 0],[]))))))))))):Option (AV×Blocks))) (by kernel_rfl) ?_
  delta kB kL
  try dsimp only [cStr,cBs,cBool,cU8,cInt,cSl,l63]
  simp only [A0,Kerb.Client.av,Kerb.Cache.av,Kerb.Cred.av,hpre]
  unfold Kerb.makeBox
  cases h1:Uz kd
  ·rfl
  rw [Yf,sel_false,if_neg (by simp)]
  cases h2:Wd k
  ·rfl
  rw [Yf,sel_false,if_neg (by simp)]
  by_cases h3:1000<bd.length
  ·rw [sel_pos (by simp;omega),if_pos h3]
  have hk:1≤kd∧kd≤10:=by simp [Uz] at h1;omega
  have lk:=Zp k
  rw [sel_neg (by simp;omega),if_neg h3,wrap_i64 (by omega) (by omega),chk_of (by simp;omega),chk_of (Wu (by simp)),chk_of (Wu (by simp;omega)),chk_of (Wu (by simp;omega)),chk_of (Wu (by simp;omega)),Kerb.two_bytes,Kerb.wrap_u8,Int.emod_eq_of_lt (by omega) (by omega)]
  rfl
 ·cases h
theorem w105:Walked Tryz.prog G 105 4 sp105:=by
 refine ⟨Tryz.f105,Tryz.func105,by decide +kernel,rfl,fun xs bl r h=> ?_⟩
 unfold sp105 at h
 split at h
 ·rename_i b x y z
  obtain ⟨hpre,h2⟩:=chk_inv h;cases h2
  refine Eq.trans (b:=(Zq (chk (decide (Zw b+Zw x≤70368744177664)) (some (Yw (Xw b x),[]))) fun (r:AV×Blocks)=>onNilB (Yy r) (AV.onBs (Yx r) fun b=>Zq (chk (decide (Zw b+Zw y≤70368744177664)) (some (Yw (Xw b y),[]))) fun (r:AV×Blocks)=>onNilB (Yy r) (AV.onBs (Yx r) fun b=>Zq (chk (decide (Zw b+Zw z≤70368744177664)) (some (Yw (Xw b z),[]))) fun (r:AV×Blocks)=>onNilB (Yy r) (AV.onBs (Yx r) fun b=>some (Yw b,[])))):Option (AV×Blocks))) (by kernel_rfl) ?_
  simp only [decide_eq_true_eq] at hpre
  simp only [A0]
  rw [chk_of (by simp;omega),chk_of (by simp [Xw];omega),chk_of (by simp [Xw];omega)]
  rfl
 ·cases h
theorem w106:Walked Tryz.prog G 106 4 sp106:=by
 refine ⟨Tryz.f106,Tryz.func106,by decide +kernel,rfl,fun xs bl r h=> ?_⟩
 unfold sp106 at h
 split at h
 ·rename_i b n little
  obtain ⟨hpre,h2⟩:=chk_inv h;cases h2
  refine Eq.trans (b:=(Zq (chk (decide (Zw b≤70368744177664)) (some (Yh (b++Yg n (Yz 4) little),[]))) fun (r:AV×Blocks)=>onNilB (Yy r) (AV.onOwnB (Yx r) fun l=>some (Yh l,[])):Option (AV×Blocks))) (by kernel_rfl) ?_
  simp only [decide_eq_true_eq] at hpre
  simp only [A0]
  rw [chk_of (by simp;omega)]
  rfl
 ·cases h
theorem w107:Walked Tryz.prog G 107 4 sp107:=by
 refine ⟨Tryz.f107,Tryz.func107,by decide +kernel,rfl,fun xs bl r h=> ?_⟩
 unfold sp107 at h
 split at h
 ·rename_i b n
  obtain ⟨hpre,h2⟩:=chk_inv h;cases h2
  refine Eq.trans (b:=(Zq (chk (decide (Zw b≤70368744177664)) (some (Yh (b++Yg n (Yz 1) false),[]))) fun (r:AV×Blocks)=>onNilB (Yy r) (AV.onOwnB (Yx r) fun l=>some (Yh l,[])):Option (AV×Blocks))) (by kernel_rfl) ?_
  simp only [decide_eq_true_eq] at hpre
  simp only [A0]
  rw [chk_of (by simp;omega)]
  rfl
 ·cases h
theorem w123:Walked Tryz.prog G 123 4 sp123:=by
 refine ⟨Tryz.f123,Tryz.func123,by decide +kernel,rfl,fun xs bl r h=> ?_⟩
 unfold sp123 at h
 split at h
 ·rename_i b n little
  obtain ⟨hpre,h2⟩:=chk_inv h;cases h2
  refine Eq.trans (b:=(Zq (chk (decide (Zw b≤70368744177664)) (some (Yh (b++Yg n (Yz 2) little),[]))) fun (r:AV×Blocks)=>onNilB (Yy r) (AV.onOwnB (Yx r) fun l=>some (Yh l,[])):Option (AV×Blocks))) (by kernel_rfl) ?_
  simp only [decide_eq_true_eq] at hpre
  simp only [A0]
  rw [chk_of (by simp;omega)]
  rfl
 ·cases h
theorem w126:Walked Tryz.prog G 126 4 sp126:=by
 refine ⟨Tryz.f126,Tryz.func126,by decide +kernel,rfl,fun xs bl r h=> ?_⟩
 unfold sp126 at h
 split at h
 ·rename_i li x y z ad k lf iss sv ins
  obtain ⟨hpre,h2⟩:=chk_inv h;cases h2
  refine Eq.trans (b:=(Zq (chk (decide (Zw x≤9223372036854775807)&&decide (Zw y≤9223372036854775807)&&decide (Zw z≤9223372036854775807)) (some (Zf (Xn (Yp x y z)),[]))) fun (r:AV×Blocks)=>onNilB (Yy r) (AV.onBool (Yx r) fun b=>sel (!b) (some (Zz .i64 103,[])) (Zq (chk (decide (Zw sv≤9223372036854775807)) (some (Zf (Vn sv),[]))) fun (r:AV×Blocks)=>onNilB (Yy r) (AV.onBool (Yx r) fun b=>sel (!b) (some (Zz .i64 103,[])) (Zq (chk (decide (Zw ins≤9223372036854775807)) (some (Zf (Vy ins),[]))) fun (r:AV×Blocks)=>onNilB (Yy r) (AV.onBool (Yx r) fun b=>sel (!b) (some (Zz .i64 103,[])) (Zq (chk (decide (0≤k)&&decide (k<18446744073709551616)) (some (Zz .i64 (Kerb.classOf k),[]))) fun (r:AV×Blocks)=>onNilB (Yy r) (Ym .i64 (Yx r) fun n=>sel (!n==2) (some (Zz .i64 10,[])) (sel (!Xz ad 4294967295) (some (Zz .i64 104,[])) (sel (!Xz lf 255) (some (Zz .i64 104,[])) (sel (!Xz iss 4294967295) (some (Zz .i64 104,[])) (some (Zz .i64 0,[])))))))))))):Option (AV×Blocks))) (by kernel_rfl) ?_
  simp only [Yk,decide_eq_true_eq] at hpre
  obtain ⟨⟨⟨⟨⟨⟨h1,h2⟩,h3⟩,h4⟩,h5⟩,h6⟩,h7⟩:=hpre
  simp only [h1,h2,h3,h4,h5,h6,h7,decide_true,Xf,↓A0,A0]
  unfold Kerb.Ticket.err
  dsimp only
  cases Xn ⟨x,y,z⟩
  ·rfl
  cases Vn sv
  ·rfl
  cases Vy ins
  ·rfl
  simp only [Yf,Xf,sel_false]
  by_cases hc:Kerb.classOf k=2
  case neg=>rw [sel_pos (by simpa using hc),if_neg (by simp),if_pos hc]
  rw [sel_neg (by simp [hc]),if_neg (by simp),if_neg (by simp [hc])]
  cases Xz ad 4294967295
  ·rfl
  cases Xz lf 255
  ·rfl
  cases Xz iss 4294967295
  ·rfl
  rfl
 ·cases h
theorem w129:Walked Tryz.prog G 129 4 sp129:=by
 refine ⟨Tryz.f129,Tryz.func129,by decide +kernel,rfl,fun xs bl r h=> ?_⟩
 unfold sp129 at h
 split at h
 ·rename_i s bad
  obtain ⟨hpre,h2⟩:=chk_inv h;cases h2
  refine Eq.trans (b:=(Zq (loopM (fun (st:List AV)=>cStr st fun b r=>cStr r fun b_1 r=>cBool r fun b_2 r=>cInt .i64 r fun n r=>cInt .i64 r fun n_1 r=>let t0:Option (List AV ⊕ Ex×List AV):=some (Sum.inr (Ex.ret,[Zy b,Zy b_1,Zf false,Zz .i64 n,Zz .i64 n_1]));let t1:Bool:=decide (0≤n_1)&&decide (n_1<(↑(Zw b):Int));let t2:Int:=(↑(Yd (Xb b (Yz n_1) (0:UInt8))):Int);onNil r (sel (decide (n_1<n)) (chk t1 (sel (decide (t2<(↑(Yd (33:UInt8)):Int))) t0 (chk t1 (sel (decide (t2>(↑(Yd (126:UInt8)):Int))) t0 (chk t1 (sel (decide (Kerb.indexOf (Xb b (Yz n_1) (0:UInt8)) b_1≥0)) t0 (some (Sum.inl [Zy b,Zy b_1,Zf b_2,Zz .i64 n,Zz .i64 (Zk .i64 (n_1+1))])))))))) (some (Sum.inr (Vu 0,[Zy b,Zy b_1,Zf b_2,Zz .i64 n,Zz .i64 n_1]))))) [Zy s,Zy bad,Zf false,Zz .i64 (↑(Zw s):Int),Zz .i64 0]) fun (r:Ex×List AV)=>cStr (Yy r) fun b r_1=>cStr r_1 fun b r_2=>cBool r_2 fun b r_3=>cInt .i64 r_3 fun n r_4=>cInt .i64 r_4 fun n r_5=>onNil r_5 (exK r.1 (some (Zf b,[])) fun (j:Nat)=>sel (Nat.beq j 0) (some (Zf true,[])) none):Option (AV×Blocks))) (by kernel_rfl) ?_
  try dsimp only [cStr,cBs,cBool,cU8,cInt,cSl,l63]
  simp only [decide_eq_true_eq] at hpre
  refine loop_rounds (fun i:Nat=>[Zy s,Zy bad,Zf false,Zz Zv (s.length:Int),Zz Zv (i:Int)]) (fun i=>i≤s.length∧Wq s bad=Wq (s.drop i) bad) (fun i=>s.length-i)
   (fun r=>∃ i:Nat,r.2=[Zy s,Zy bad,Zf false,Zz Zv (s.length:Int),Zz Zv (i:Int)]∧((r.1 = .ret∧Wq s bad=false)∨(r.1 = .exit 0∧Wq s bad=true))) 0 ⟨Nat.zero_le _,rfl⟩ rfl ?_ ?_
  ·rintro i ⟨hi,hp⟩
   simp only [A0]
   by_cases hlt:i<s.length
   ·have hc:(decide ((0:Int)≤(i:Int))&&decide ((i:Int)<(s.length:Int)))=true:=by simp;omega
    have hd:=Kerb.drop_all_cons hlt
    rw [sel_pos (by simp;omega),chk_of hc,Uk]
    have hpr:Wq (s.drop i) bad=(Kerb.okB bad (s.getD i 0)&&Wq (s.drop (i+1)) bad):=by rw [hd];rfl
    generalize s.getD i 0=c at *
    by_cases h1:c.toNat<33
    ·rw [sel_pos (by simp;omega)]
     exact ⟨_,rfl,i,rfl,.inl ⟨rfl,by rw [hp,hpr];simp [Kerb.okB,h1]⟩⟩
    rw [sel_neg (by simp;omega),chk_of hc]
    by_cases h2:126<c.toNat
    ·rw [sel_pos (by simp;omega)]
     exact ⟨_,rfl,i,rfl,.inl ⟨rfl,by rw [hp,hpr];simp [Kerb.okB,h2]⟩⟩
    rw [sel_neg (by simp;omega),chk_of hc]
    have h4:=Kerb.indexOf_nonneg c bad
    by_cases h3:c∈bad
    ·rw [sel_pos (by simpa using h4.2 h3)]
     exact ⟨_,rfl,i,rfl,.inl ⟨rfl,by rw [hp,hpr];simp [Kerb.okB,h3]⟩⟩
    rw [sel_neg (by have:=mt h4.1 h3;simp;omega),wrap_i64 (by omega) (by omega)]
    exact ⟨_,rfl,i+1,rfl,⟨by omega,by rw [hp,hpr];simp [Kerb.okB,h1,h2,h3]⟩,by dsimp only;omega⟩
   ·rw [sel_neg (by simp;omega)]
    exact ⟨_,rfl,i,rfl,.inr ⟨rfl,by rw [hp,List.drop_eq_nil_of_le (by omega)];rfl⟩⟩
  ·rintro ⟨e,l⟩ ⟨i,rfl,⟨rfl,hp⟩ | ⟨rfl,hp⟩⟩
   ·simp only [A0,hp]
   ·simp only [A0,hp]
    rfl
 ·cases h
theorem w8:Walked Tryz.prog G 8 5 sp8:=by
 refine ⟨Tryz.f8,Tryz.func8,by decide +kernel,rfl,fun xs bl r h=> ?_⟩
 unfold sp8 at h
 split at h
 ·rename_i qc qs qp qt_ ql qx qli qh
  obtain ⟨hpre,h2⟩:=chk_inv h;cases h2
  refine Eq.trans (b:=(let t1:Int:=Wy (Zk .i64 (↑(Yd qs):Int)) 3;let t2:Int:=Wy (Zk .i64 (↑(Yd qc):Int)) 5;let t0:Option (AV×Blocks):=chk (decide (0≤t2)&&decide (t2≤4611686018427387904)) (some (Zb [Zy (Xp (Zu t2)),Zy (Xd (Zu t2)),Zy (Xj (Zu t2))],[]));Zq (chk (decide (0≤t1)&&decide (t1≤4611686018427387904)) (some (Zb [Zy (Xp (Zx t1)),Zy (Xd (Zx t1)),Zy (Xj (Zx t1))],[]))) (kA fun cs=>cStr cs fun b r=>cStr r fun b_1 r=>cStr r fun b_2 r=>onNil r (sel (Wj (Yz (Wy (↑(Yd qs):Int) (↑(Yd (5:UInt8)):Int)))==(4:UInt8)) (Zq (chk (decide (0≤Zk .i64 (↑(Yd qp):Int))) (some (Zb [Zy Kerb.krbtgt,Zy (Wk (Zk .i64 (↑(Yd qp):Int))),Zy (Wk 0)],[]))) (kA fun cs=>cStr cs fun b r=>cStr r fun b_3 r=>cStr r fun b_4 r=>onNil r (Zq t0 (kA fun cs=>cStr cs fun b_5 r=>cStr r fun b_6 r=>cStr r fun b_7 r=>let t3:Kerb.Enc:=Xg (Vw qli (Yp b_5 b_6 b_7) (Zk .i64 (↑(Yd qt_):Int)) (Zk .i64 (↑(Yd ql):Int)) b b_3);onNil r (Zq (chk (l63 b_5&&l63 b_6&&l63 b_7&&l63 b&&l63 b_3) (some (Yq [Yh (Wh t3),Zz .i64 (Vz t3)],[]))) (kT fun vs=>onCons vs fun x r=>AV.onOwnB x fun l=>cInt .i64 r fun n r=>onNil r (sel (Wy qh 8==7) (Zq (chk (decide (Zw l≤1000000)&&decide (0≤Zk .u16 (Vv qh 8))&&decide (Zk .u16 (Vv qh 8)≤65535)) (some (Yw (Kerb.spoil l (Zk .u16 (Vv qh 8))),[]))) (kB fun b=>sel (Wy qh 8==6) (sel (decide ((↑(Zw b):Int)>0)) (chk (decide (0<(↑(Zw b):Int))) none) (some (Yw b,[]))) (some (Yw b,[])))) (sel (Wy qh 8==6) (sel (decide ((↑(Zw l):Int)>0)) (chk (decide (0<(↑(Zw l):Int))) (chk (Nat.blt (Yz 0) (Zw l)&&true&&true&&true&&true) (some (Yw (List.set l (Yz 0) (Wj (Yz (Zk .u8 (Zk .u16 (Vv qh 8)))))),[])))) (some (Yw l,[]))) (some (Yw l,[])))))))))) (Zq t0 (kA fun cs=>cStr cs fun b_3 r=>cStr r fun b_4 r=>cStr r fun b_5 r=>let t4:Kerb.Enc:=Xg (Vw qli (Yp b_3 b_4 b_5) (Zk .i64 (↑(Yd qt_):Int)) (Zk .i64 (↑(Yd ql):Int)) b b_1);onNil r (Zq (chk (l63 b_3&&l63 b_4&&l63 b_5&&l63 b&&l63 b_1) (some (Yq [Yh (Wh t4),Zz .i64 (Vz t4)],[]))) (kT fun vs=>onCons vs fun x r=>AV.onOwnB x fun l=>cInt .i64 r fun n r=>onNil r (sel (Wy qh 8==7) (Zq (chk (decide (Zw l≤1000000)&&decide (0≤Zk .u16 (Vv qh 8))&&decide (Zk .u16 (Vv qh 8)≤65535)) (some (Yw (Kerb.spoil l (Zk .u16 (Vv qh 8))),[]))) (kB fun b=>sel (Wy qh 8==6) (sel (decide ((↑(Zw b):Int)>0)) (chk (decide (0<(↑(Zw b):Int))) none) (some (Yw b,[]))) (some (Yw b,[])))) (sel (Wy qh 8==6) (sel (decide ((↑(Zw l):Int)>0)) (chk (decide (0<(↑(Zw l):Int))) (chk (Nat.blt (Yz 0) (Zw l)&&true&&true&&true&&true) (some (Yw (List.set l (Yz 0) (Wj (Yz (Zk .u8 (Zk .u16 (Vv qh 8)))))),[])))) (some (Yw l,[]))) (some (Yw l,[])))))))))):Option (AV×Blocks))) (by kernel_rfl) ?_
  delta kT kA kB
  try dsimp only [cStr,cBs,cBool,cU8,cInt,cSl,l63]
  simp only [Yk,decide_eq_true_eq] at hpre
  have bs:=Vh qs
  have bc:=Vh qc
  have bp:=Vh qp
  have z1:Wy (Zd qs) 3=Zd qs % 3:=Ww bs.1
  have z2:(decide ((0:Int)≤Zd qs % 3)&&decide (Zd qs % 3≤4611686018427387904))=true:=by simp;omega
  have z3:decide ((0:Int)≤Zd qp)=true:=by simp;omega
  have z4:Wy (Zd qc) 5=Zd qc % 5:=Ww bc.1
  have z5:(decide ((0:Int)≤Zd qc % 5)&&decide (Zd qc % 5≤4611686018427387904))=true:=by simp;omega
  have z6:(Wj (Yz (Wy (↑(Yd qs):Int) (↑(Yd (5:UInt8)):Int)))==(4:UInt8))=decide (qs.toNat % 5=4):=by
   rw [show (Yd (5:UInt8))=5 from rfl,Kerb.tmod_u8 qs 5 (by decide)]
   rw [Bool.eq_iff_iff,beq_iff_eq,decide_eq_true_eq,← UInt8.toNat_inj,UInt8.toNat_ofNat']
   show qs.toNat % 5 % 256=4↔_
   omega
  have z7:Wy qh 8=qh % 8:=Ww hpre.1
  have z8:Zk .u16 (Vv qh 8)=qh / 8:=by rw [Int.tdiv_eq_ediv_of_nonneg hpre.1];rw [Kerb.wrap_u16];omega
  have z9:(decide ((0:Int)≤qh / 8)&&decide (qh / 8≤65535))=true:=by simp;omega
  have hT:Kerb.tgs (Wk 0) (Wk (Zd qp))=⟨Kerb.krbtgt,Wk (Zd qp),Wk 0⟩:=rfl
  have l0:Kerb.krbtgt.length≤9223372036854775807:=by decide
  have l1:(Wk (Zd qp)).length≤9223372036854775807:=Kerb.realm_lenB _
  obtain ⟨l2,l3,l4⟩:=Kerb.user_dec (Zd qc % 5)
  obtain ⟨l5,l6,l7⟩:=Kerb.service_dec (Zd qs % 3)
  simp (config:={maxSteps:=10000000}) only [Kerb.wrap_u8i,z1,z2,z3,z4,z5,z6,z7,z8,l0,l1,l2,l3,l4,l5,l6,decide_true,Xf,Bool.and_assoc,↓sInt,↓sU8,↓sBool,↓sStr,↓sBs,↓sSl,↓sAgg,↓sTup,↓sCons,↓sNil,↓sNilB,↓sChk,↓sChkBind,↓sSome]
  have key:∀ W:Kerb.Prin,W.name.length≤9223372036854775807→W.inst.length≤9223372036854775807→Kerb.AAsk.want (Kerb.AAsk.mk qc qs qp qt_ ql qx qli qh)=W→∀ R,R=(Xg ⟨qli,⟨(Zu (Zd qc % 5)).name,(Zu (Zd qc % 5)).inst,(Zu (Zd qc % 5)).realm⟩,Zd qt_,Zd ql,W.name,W.inst⟩).val→∀ S,S=(if qh % 8=7 then Kerb.spoil R (qh / 8) else if qh % 8=6∧0<R.length then R.set 0 (Wj (Yz (Zk .u8 (qh / 8)))) else R)→S=Kerb.AAsk.msg (Kerb.AAsk.mk qc qs qp qt_ ql qx qli qh):=by
   rintro W - - hW R rfl S rfl
   unfold Kerb.AAsk.msg Kerb.AAsk.base
   rw [hW]
  rcases Decidable.em (qs.toNat % 5=4) with q | q
  all_goals simp only [q,decide_true,decide_false,↓sTrue,↓sFalse]
  all_goals simp (config:={maxSteps:=10000000}) only [l0,l1,l2,l3,l4,l5,l6,z9,decide_true,Xf,Bool.and_true,↓sInt,↓sU8,↓sBool,↓sStr,↓sBs,↓sSl,↓sAgg,↓sTup,↓sCons,↓sNil,↓sNilB,↓sChk,↓sChkBind,↓sSome,↓sOwnL,↓sConsB,↓sOwnB]
  ·have hW:Kerb.AAsk.want (Kerb.AAsk.mk qc qs qp qt_ ql qx qli qh)=Kerb.tgs (Wk 0) (Wk (Zd qp)):=if_pos q
   have lR:=Kerb.encode_len ⟨qli,⟨(Zu (Zd qc % 5)).name,(Zu (Zd qc % 5)).inst,(Zu (Zd qc % 5)).realm⟩,Zd qt_,Zd ql,Kerb.krbtgt,Wk (Zd qp)⟩
   obtain ⟨R,hR⟩:∃ R,(Xg ⟨qli,⟨(Zu (Zd qc % 5)).name,(Zu (Zd qc % 5)).inst,(Zu (Zd qc % 5)).realm⟩,Zd qt_,Zd ql,Kerb.krbtgt,Wk (Zd qp)⟩).val=R:=⟨_,rfl⟩
   rw [hR] at lR
   simp only [hR]
   have k2:=key _ (by first | exact l0 | exact l5) (by first | exact l1 | exact l6) hW R hR.symm _ rfl
   rw [← k2]
   clear k2 key hR
   have lR2:R.length≤1000000:=by omega
   by_cases q7:qh % 8=7
   ·have q6:¬ (qh % 8=6):=by omega
    rw [sel_pos (by simpa using q7),if_pos q7]
    simp (config:={maxSteps:=10000000}) only [lR2,decide_true,Bool.true_and,Bool.and_true,z9,↓sInt,↓sU8,↓sBool,↓sStr,↓sBs,↓sSl,↓sAgg,↓sTup,↓sCons,↓sNil,↓sNilB,↓sChk,↓sChkBind,↓sSome,↓sOwnL,↓sConsB,↓sOwnB]
    rw [sel_neg (by simpa using q6)]
   rw [sel_neg (by simpa using q7),if_neg q7]
   by_cases q6:qh % 8=6
   case neg=>rw [sel_neg (by simpa using q6),if_neg (fun h=>q6 h.1)]
   rw [sel_pos (by simpa using q6)]
   by_cases q0:0<R.length
   case neg=>rw [sel_neg (decide_eq_false (by omega)),if_neg (fun h=>q0 h.2)]
   rw [sel_pos (decide_eq_true (by omega)),if_pos ⟨q6,q0⟩,chk_of (decide_eq_true (by omega)),chk_of (by rw [Nat.blt_eq];exact q0)]
   rfl
  ·have hW:Kerb.AAsk.want (Kerb.AAsk.mk qc qs qp qt_ ql qx qli qh)=Zx (Zd qs % 3):=if_neg q
   have lR:=Kerb.encode_len ⟨qli,⟨(Zu (Zd qc % 5)).name,(Zu (Zd qc % 5)).inst,(Zu (Zd qc % 5)).realm⟩,Zd qt_,Zd ql,(Zx (Zd qs % 3)).name,(Zx (Zd qs % 3)).inst⟩
   obtain ⟨R,hR⟩:∃ R,(Xg ⟨qli,⟨(Zu (Zd qc % 5)).name,(Zu (Zd qc % 5)).inst,(Zu (Zd qc % 5)).realm⟩,Zd qt_,Zd ql,(Zx (Zd qs % 3)).name,(Zx (Zd qs % 3)).inst⟩).val=R:=⟨_,rfl⟩
   rw [hR] at lR
   simp only [hR]
   have k2:=key _ (by first | exact l0 | exact l5) (by first | exact l1 | exact l6) hW R hR.symm _ rfl
   rw [← k2]
   clear k2 key hR
   have lR2:R.length≤1000000:=by omega
   by_cases q7:qh % 8=7
   ·have q6:¬ (qh % 8=6):=by omega
    rw [sel_pos (by simpa using q7),if_pos q7]
    simp (config:={maxSteps:=10000000}) only [lR2,decide_true,Bool.true_and,Bool.and_true,z9,↓sInt,↓sU8,↓sBool,↓sStr,↓sBs,↓sSl,↓sAgg,↓sTup,↓sCons,↓sNil,↓sNilB,↓sChk,↓sChkBind,↓sSome,↓sOwnL,↓sConsB,↓sOwnB]
    rw [sel_neg (by simpa using q6)]
   rw [sel_neg (by simpa using q7),if_neg q7]
   by_cases q6:qh % 8=6
   case neg=>rw [sel_neg (by simpa using q6),if_neg (fun h=>q6 h.1)]
   rw [sel_pos (by simpa using q6)]
   by_cases q0:0<R.length
   case neg=>rw [sel_neg (decide_eq_false (by omega)),if_neg (fun h=>q0 h.2)]
   rw [sel_pos (decide_eq_true (by omega)),if_pos ⟨q6,q0⟩,chk_of (decide_eq_true (by omega)),chk_of (by rw [Nat.blt_eq];exact q0)]
   rfl
 ·cases h
theorem w9:Walked Tryz.prog G 9 5 sp9:=by
 refine ⟨Tryz.f9,Tryz.func9,by decide +kernel,rfl,fun xs bl r h=> ?_⟩
 unfold sp9 at h
 split at h
 ·rename_i b
  obtain ⟨hpre,h2⟩:=chk_inv h;cases h2
  refine Eq.trans (b:=(let t1:AV:=Zb [Zf false,Zy [],Zy [],Zy [],Zz .i64 0,Zz .i64 0,Zy [],Zy []];let t0:Option (AV×Blocks):=some (Yq [t1,Zz .i64 100],[]);sel (!Yy (Xv b [1])==0) (some (Yq [t1,Zz .i64 (Yy (Xv b [1]))],[])) (Zq (chk (decide (Zw b≤140737488355328)) (some (Zb [Zy (Xp (Xm (Yu b 2 false))),Zy (Xd (Xm (Yu b 2 false))),Zy (Xj (Xm (Yu b 2 false)))],[[Yw b,Zz .i64 (Uq (Yu b 2 false)),Zf (Yx (Xv b [1])),Zf (Uj (Yu b 2 false))]]))) fun (r:AV×Blocks)=>onConsB (Yy r) fun (x:List AV) (r_1:List (List AV))=>cBs x fun b_1 r_2=>cInt .i64 r_2 fun n r_3=>cBool r_3 fun b_2 r_4=>cBool r_4 fun b_3 r_5=>onNil r_5 (onNilB r_1 (Vm (Yx r) fun cs=>cStr cs fun b_4 r=>cStr r fun b_5 r=>cStr r fun b_6 r=>onNil r (Zq (chk (decide (Zw b_1≤140737488355328)) (some (Zz .i64 (Xy (Zn b_1 n 4 b_2)),[[Yw b_1,Zz .i64 (bif b_3 || !Yv (Zn b_1 n 4 b_2)==0 then n else Yb (Zn b_1 n 4 b_2)),Zf b_2,Zf (b_3 || !Yv (Zn b_1 n 4 b_2)==0)]]))) fun (r:AV×Blocks)=>onConsB (Yy r) fun (x:List AV) (r_6:List (List AV))=>cBs x fun b_7 r_7=>cInt .i64 r_7 fun n r_8=>cBool r_8 fun b_8 r_9=>cBool r_9 fun b_9 r_10=>onNil r_10 (onNilB r_6 (Ym .i64 (Yx r) fun n_1=>Zq (chk (decide (Zw b_7≤140737488355328)) (some (Zz .i64 (Xy (Zn b_7 n 1 false)),[[Yw b_7,Zz .i64 (bif b_9 || !Yv (Zn b_7 n 1 false)==0 then n else Yb (Zn b_7 n 1 false)),Zf b_8,Zf (b_9 || !Yv (Zn b_7 n 1 false)==0)]]))) fun (r:AV×Blocks)=>onConsB (Yy r) fun (x:List AV) (r_11:List (List AV))=>cBs x fun b_10 r_12=>cInt .i64 r_12 fun n r_13=>cBool r_13 fun b_11 r_14=>cBool r_14 fun b_12 r_15=>onNil r_15 (onNilB r_11 (Ym .i64 (Yx r) fun n_2=>Zq (chk (decide (Zw b_10≤140737488355328)) (some (Zy (Wv (Xu b_10 n)),[[Yw b_10,Zz .i64 (bif b_12 || !Xx (Xu b_10 n)==0 then n else Wz (Xu b_10 n)),Zf b_11,Zf (b_12 || !Xx (Xu b_10 n)==0)]]))) fun (r:AV×Blocks)=>onConsB (Yy r) fun (x:List AV) (r_16:List (List AV))=>cBs x fun b_13 r_17=>cInt .i64 r_17 fun n r_18=>cBool r_18 fun b_14 r_19=>cBool r_19 fun b_15 r_20=>onNil r_20 (onNilB r_16 (AV.onStr (Yx r) fun b_16=>Zq (chk (decide (Zw b_13≤140737488355328)) (some (Zy (Wv (Xu b_13 n)),[[Yw b_13,Zz .i64 (bif b_15 || !Xx (Xu b_13 n)==0 then n else Wz (Xu b_13 n)),Zf b_14,Zf (b_15 || !Xx (Xu b_13 n)==0)]]))) fun (r:AV×Blocks)=>onConsB (Yy r) fun (x:List AV) (r_21:List (List AV))=>cBs x fun b_17 r_22=>cInt .i64 r_22 fun n r_23=>cBool r_23 fun b_18 r_24=>cBool r_24 fun b_19 r_25=>onNil r_25 (onNilB r_21 (AV.onStr (Yx r) fun b_20=>let t2:Kerb.Enc:=Xg (Vw (Yx (Xv b [1])) (Yp b_4 b_5 b_6) n_1 n_2 b_16 b_20);Zq (chk (l63 b_4&&l63 b_5&&l63 b_6&&l63 b_16&&l63 b_20) (some (Yq [Yh (Wh t2),Zz .i64 (Vz t2)],[]))) (kT fun vs=>onCons vs fun x r=>AV.onOwnB x fun l=>cInt .i64 r fun n r=>onNil r (sel b_19 t0 (sel (!n==0) t0 (sel (!l==b) t0 (some (Yq [Zb [Zf (Yx (Xv b [1])),Zy b_4,Zy b_5,Zy b_6,Zz .i64 n_1,Zz .i64 n_2,Zy b_16,Zy b_20],Zz .i64 0],[])))))))))))))))))):Option (AV×Blocks))) (by kernel_rfl) ?_
  delta kT
  try dsimp only [cStr,cBs,cBool,cU8,cInt,cSl,l63]
  have hb:=of_decide_eq_true hpre
  simp only [A0]
  by_cases h:(Xv b [1]).2=0
  case neg =>
   unfold Kerb.decodeRequest
   rw [sel_pos (by simpa using h),if_pos h]
   rfl
  rw [sel_neg (by simp [h]),Kerb.rdRequest_dec h]
  rw [chk_of hpre,chk_of hpre,chk_of hpre,chk_of hpre,chk_of hpre]
  have lp:=Vq b 2 false
  have hx:∀ q,(Xu b q).val.length≤40:=Uu b
  rw [chk_of (by simp only [Yk,decide_eq_true_eq];refine ⟨⟨⟨⟨Yj lp.1 (by decide),Yj lp.2.1 (by decide)⟩,Yj lp.2.2 (by decide)⟩,Yj (hx _) (by decide)⟩,Yj (hx _) (by decide)⟩)]
  obtain ⟨R,hR⟩:∃ R,R=Kerb.rdRequest b:=⟨_,rfl⟩
  have eb:_=R.bad:=(congrArg Kerb.Rd.bad hR).symm
  have ev:_=R.val:=(congrArg Kerb.Rd.val hR).symm
  rw [← hR]
  unfold Kerb.rdRequest at eb ev
  dsimp only [Kerb.rdGet,Kerb.rdText,Kerb.rdBytes] at eb ev
  rw [eb]
  have ev2:Vw (Xv b [1]).1 (Yp (Yu b 2 false).p.name (Yu b 2 false).p.inst (Yu b 2 false).p.realm) _ _ _ _=R.val:=ev
  rw [ev2]
  cases hbad:R.bad
  case true=>rw [if_pos (.inl rfl)];rfl
  rw [sel_false]
  by_cases h1:(Xg R.val).err=0
  ·rw [sel_neg (by simp [h1])]
   by_cases h2:(Xg R.val).val=b
   ·rw [sel_neg (by simp [h2]),if_neg (by simp [h1,h2]),← ev2]
   ·rw [sel_pos (by simpa using h2),if_pos (.inr (.inr h2))]
    rfl
  ·rw [sel_pos (by simpa using h1),if_pos (.inr (.inl h1))]
   rfl
 ·cases h
theorem w10:Walked Tryz.prog G 10 5 sp10:=by
 refine ⟨Tryz.f10,Tryz.func10,by decide +kernel,rfl,fun xs bl r h=> ?_⟩
 unfold sp10 at h
 split at h
 ·rename_i b
  obtain ⟨hpre,h2⟩:=chk_inv h;cases h2
  refine Eq.trans (b:=(let t1:AV:=Zb [Zf false,Zy [],Zy [],Zy [],Zz .i64 0,Zz .i64 0,Zz .i64 0,Yw []];let t0:Option (AV×Blocks):=some (Yq [t1,Zz .i64 100],[]);sel (!Yy (Xv b [2])==0) (some (Yq [t1,Zz .i64 (Yy (Xv b [2]))],[])) (Zq (chk (decide (Zw b≤140737488355328)) (some (Zb [Zy (Xp (Xm (Yu b 2 false))),Zy (Xd (Xm (Yu b 2 false))),Zy (Xj (Xm (Yu b 2 false)))],[[Yw b,Zz .i64 (Uq (Yu b 2 false)),Zf (Yx (Xv b [2])),Zf (Uj (Yu b 2 false))]]))) fun (r:AV×Blocks)=>onConsB (Yy r) fun (x:List AV) (r_1:List (List AV))=>cBs x fun b_1 r_2=>cInt .i64 r_2 fun n r_3=>cBool r_3 fun b_2 r_4=>cBool r_4 fun b_3 r_5=>onNil r_5 (onNilB r_1 (Vm (Yx r) fun cs=>cStr cs fun b_4 r=>cStr r fun b_5 r=>cStr r fun b_6 r=>onNil r (Zq (chk (decide (Zw b_1≤140737488355328)) (some (Zz .i64 (Xy (Zn b_1 n 4 b_2)),[[Yw b_1,Zz .i64 (bif b_3 || !Yv (Zn b_1 n 4 b_2)==0 then n else Yb (Zn b_1 n 4 b_2)),Zf b_2,Zf (b_3 || !Yv (Zn b_1 n 4 b_2)==0)]]))) fun (r:AV×Blocks)=>onConsB (Yy r) fun (x:List AV) (r_6:List (List AV))=>cBs x fun b_7 r_7=>cInt .i64 r_7 fun n r_8=>cBool r_8 fun b_8 r_9=>cBool r_9 fun b_9 r_10=>onNil r_10 (onNilB r_6 (Ym .i64 (Yx r) fun n_1=>Zq (chk (decide (Zw b_7≤140737488355328)) (some (Zz .i64 (Xy (Zn b_7 n 1 false)),[[Yw b_7,Zz .i64 (bif b_9 || !Yv (Zn b_7 n 1 false)==0 then n else Yb (Zn b_7 n 1 false)),Zf b_8,Zf (b_9 || !Yv (Zn b_7 n 1 false)==0)]]))) fun (r:AV×Blocks)=>onConsB (Yy r) fun (x:List AV) (r_11:List (List AV))=>cBs x fun b_10 r_12=>cInt .i64 r_12 fun n r_13=>cBool r_13 fun b_11 r_14=>cBool r_14 fun b_12 r_15=>onNil r_15 (onNilB r_11 (Ym .i64 (Yx r) fun n_2=>Zq (chk (decide (Zw b_10≤140737488355328)) (some (Zz .i64 (Xy (Zn b_10 n 4 b_11)),[[Yw b_10,Zz .i64 (bif b_12 || !Yv (Zn b_10 n 4 b_11)==0 then n else Yb (Zn b_10 n 4 b_11)),Zf b_11,Zf (b_12 || !Yv (Zn b_10 n 4 b_11)==0)]]))) fun (r:AV×Blocks)=>onConsB (Yy r) fun (x:List AV) (r_16:List (List AV))=>cBs x fun b_13 r_17=>cInt .i64 r_17 fun n r_18=>cBool r_18 fun b_14 r_19=>cBool r_19 fun b_15 r_20=>onNil r_20 (onNilB r_16 (Ym .i64 (Yx r) fun n_3=>Zq (chk (decide (Zw b_13≤140737488355328)) (some (Zz .i64 (Xy (Zn b_13 n 1 false)),[[Yw b_13,Zz .i64 (bif b_15 || !Yv (Zn b_13 n 1 false)==0 then n else Yb (Zn b_13 n 1 false)),Zf b_14,Zf (b_15 || !Yv (Zn b_13 n 1 false)==0)]]))) fun (r:AV×Blocks)=>onConsB (Yy r) fun (x:List AV) (r_21:List (List AV))=>cBs x fun b_16 r_22=>cInt .i64 r_22 fun n r_23=>cBool r_23 fun b_17 r_24=>cBool r_24 fun b_18 r_25=>onNil r_25 (onNilB r_21 (Ym .i64 (Yx r) fun n_4=>Zq (chk (decide (Zw b_16≤140737488355328)) (some (Zz .i64 (Xy (Zn b_16 n 2 b_17)),[[Yw b_16,Zz .i64 (bif b_18 || !Yv (Zn b_16 n 2 b_17)==0 then n else Yb (Zn b_16 n 2 b_17)),Zf b_17,Zf (b_18 || !Yv (Zn b_16 n 2 b_17)==0)]]))) fun (r:AV×Blocks)=>onConsB (Yy r) fun (x:List AV) (r_26:List (List AV))=>cBs x fun b_19 r_27=>cInt .i64 r_27 fun n r_28=>cBool r_28 fun b_20 r_29=>cBool r_29 fun b_21 r_30=>onNil r_30 (onNilB r_26 (Ym .i64 (Yx r) fun n_5=>Zq (chk (decide (Zw b_19≤140737488355328)) (some (Yw (Wv (Xk b_19 n n_5)),[[Yw b_19,Zz .i64 (bif b_21 || !Xx (Xk b_19 n n_5)==0 then n else Wz (Xk b_19 n n_5)),Zf b_20,Zf (b_21 || !Xx (Xk b_19 n n_5)==0)]]))) fun (r:AV×Blocks)=>onConsB (Yy r) fun (x:List AV) (r_31:List (List AV))=>cBs x fun b_22 r_32=>cInt .i64 r_32 fun n r_33=>cBool r_33 fun b_23 r_34=>cBool r_34 fun b_24 r_35=>onNil r_35 (onNilB r_31 (AV.onBs (Yx r) fun b_25=>let t2:Kerb.Enc:=Kerb.encodeReply (Kerb.KdcReply.mk (Yx (Xv b [2])) (Yp b_4 b_5 b_6) n_1 n_3 n_4 b_25);Zq (chk (l63 b_4&&l63 b_5&&l63 b_6) (some (Yq [Yw (Wh t2),Zz .i64 (Vz t2)],[]))) (kT fun vs=>cBs vs fun b_26 r=>cInt .i64 r fun n r=>onNil r (sel b_24 t0 (sel (!n==0) t0 (sel (!b_26==b) t0 (some (Yq [Zb [Zf (Yx (Xv b [2])),Zy b_4,Zy b_5,Zy b_6,Zz .i64 n_1,Zz .i64 n_3,Zz .i64 n_4,Yw b_25],Zz .i64 0],[])))))))))))))))))))))):Option (AV×Blocks))) (by kernel_rfl) ?_
  delta kT
  try dsimp only [cStr,cBs,cBool,cU8,cInt,cSl,l63]
  have hb:=of_decide_eq_true hpre
  simp only [A0]
  by_cases h:(Xv b [2]).2=0
  case neg =>
   unfold Kerb.decodeReply
   rw [sel_pos (by simpa using h),if_pos h]
   rfl
  rw [sel_neg (by simp [h]),Kerb.rdReply_dec h]
  rw [chk_of hpre,chk_of hpre,chk_of hpre,chk_of hpre,chk_of hpre,chk_of hpre,chk_of hpre]
  have lp:=Vq b 2 false
  have hx:∀ q,(Xu b q).val.length≤40:=Uu b
  rw [chk_of (by simp only [Yk,decide_eq_true_eq];refine ⟨⟨Yj lp.1 (by decide),Yj lp.2.1 (by decide)⟩,Yj lp.2.2 (by decide)⟩)]
  obtain ⟨R,hR⟩:∃ R,R=Kerb.rdReply b:=⟨_,rfl⟩
  have eb:_=R.bad:=(congrArg Kerb.Rd.bad hR).symm
  have ev:_=R.val:=(congrArg Kerb.Rd.val hR).symm
  rw [← hR]
  unfold Kerb.rdReply at eb ev
  dsimp only [Kerb.rdGet,Kerb.rdText,Kerb.rdBytes] at eb ev
  rw [eb]
  have ev2:Kerb.KdcReply.mk (Xv b [2]).1 (Yp (Yu b 2 false).p.name (Yu b 2 false).p.inst (Yu b 2 false).p.realm) _ _ _ _=R.val:=ev
  rw [ev2]
  cases hbad:R.bad
  case true=>rw [if_pos (.inl rfl)];rfl
  rw [sel_false]
  by_cases h1:(Kerb.encodeReply R.val).err=0
  ·rw [sel_neg (by simp [h1])]
   by_cases h2:(Kerb.encodeReply R.val).val=b
   ·rw [sel_neg (by simp [h2]),if_neg (by simp [h1,h2]),← ev2]
   ·rw [sel_pos (by simpa using h2),if_pos (.inr (.inr h2))]
    rfl
  ·rw [sel_pos (by simpa using h1),if_pos (.inr (.inl h1))]
   rfl
 ·cases h
theorem w12:Walked Tryz.prog G 12 5 sp12:=by
 refine ⟨Tryz.f12,Tryz.func12,by decide +kernel,rfl,fun xs bl r h=> ?_⟩
 unfold sp12 at h
 split at h
 ·rename_i b kd k
  obtain ⟨hpre,h2⟩:=chk_inv h;cases h2
  refine Eq.trans (b:=(Zq (chk (decide (Zw b≤140737488355328)) (some (Yq [Zb [Zz .i64 (Kerb.Box.kind (Kerb.GotBox.box (Vx b))),Zz .u64 (Kerb.Box.key (Kerb.GotBox.box (Vx b))),Yw (Kerb.Box.body (Kerb.GotBox.box (Vx b)))],Zz .i64 (Kerb.GotBox.n (Vx b)),Zz .i64 (Kerb.GotBox.err (Vx b))],[]))) fun (r:AV×Blocks)=>onNilB (Yy r) (AV.onTup (Yx r) fun vs=>onCons vs fun x r=>Vm x fun cs=>onCons cs fun x r_1=>Ym .i64 x fun n=>onCons r_1 fun x r_2=>Ym .u64 x fun n_1=>onCons r_2 fun x r_3=>AV.onBs x fun b_1=>onNil r_3 (onCons r fun x r=>Ym .i64 x fun n_2=>onCons r fun x r=>Ym .i64 x fun n_3=>onNil r (sel (!n_3==0) (some (Yq [Yw [],Zf false],[])) (sel (!n_2==(↑(Zw b):Int)) (some (Yq [Yw [],Zf false],[])) (sel (!n==kd) (some (Yq [Yw [],Zf false],[])) (sel (!n_1==k) (some (Yq [Yw [],Zf false],[])) (some (Yq [Yw b_1,Zf true],[])))))))):Option (AV×Blocks))) (by kernel_rfl) ?_
  simp only [↓A0,hpre]
  unfold Kerb.openBox
  generalize Vx b=r
  by_cases h1:r.err=0
  case neg=>rw [sel_pos (by simpa using h1),if_pos (.inl h1)]
  rw [sel_neg (by simpa using h1)]
  by_cases h2:r.n=b.length
  case neg=>rw [sel_pos (by simpa using h2),if_pos (.inr (.inl h2))]
  rw [sel_neg (by simpa using h2)]
  by_cases h3:r.box.kind=kd
  case neg=>rw [sel_pos (by simpa using h3),if_pos (.inr (.inr (.inl h3)))]
  rw [sel_neg (by simpa using h3)]
  by_cases h4:r.box.key=k
  case neg=>rw [sel_pos (by simpa using h4),if_pos (.inr (.inr (.inr h4)))]
  rw [sel_neg (by simpa using h4),if_neg (by simp [h1,h2,h3,h4])]
 ·cases h
theorem w13:Walked Tryz.prog G 13 5 sp13:=by
 refine ⟨Tryz.f13,Tryz.func13,by decide +kernel,rfl,fun xs bl r h=> ?_⟩
 unfold sp13 at h
 split at h
 ·rename_i b little
  obtain ⟨hpre,h2⟩:=chk_inv h;cases h2
  refine Eq.trans (b:=(let t0:Option (AV×Blocks):=some (Yq [Zb [Zz .u64 0,Zy [],Zy [],Zy [],Zz .i64 0,Zz .i64 0,Yw [],Zz .i64 0],Zz .i64 100],[]);Zq (chk (decide (Zw b≤140737488355328)) (some (Zz .i64 (Xy (Zn b 0 1 false)),[[Yw b,Zz .i64 (bif false || !Yv (Zn b 0 1 false)==0 then 0 else Yb (Zn b 0 1 false)),Zf little,Zf !Yv (Zn b 0 1 false)==0]]))) fun (r:AV×Blocks)=>onConsB (Yy r) fun (x:List AV) (r_1:List (List AV))=>cBs x fun b_1 r_2=>cInt .i64 r_2 fun n r_3=>cBool r_3 fun b_2 r_4=>cBool r_4 fun b_3 r_5=>onNil r_5 (onNilB r_1 (Ym .i64 (Yx r) fun n_1=>Zq (chk (decide (Zw b_1≤140737488355328)) (some (Yw (Wv (Xk b_1 n 8)),[[Yw b_1,Zz .i64 (bif b_3 || !Xx (Xk b_1 n 8)==0 then n else Wz (Xk b_1 n 8)),Zf b_2,Zf (b_3 || !Xx (Xk b_1 n 8)==0)]]))) fun (r:AV×Blocks)=>onConsB (Yy r) fun (x:List AV) (r_6:List (List AV))=>cBs x fun b_4 r_7=>cInt .i64 r_7 fun n r_8=>cBool r_8 fun b_5 r_9=>cBool r_9 fun b_6 r_10=>onNil r_10 (onNilB r_6 (AV.onBs (Yx r) fun b_7=>Zq (chk (decide (Zw b_7≤4611686018427387904)) (some (Yq [Zz .u64 (Yx (Wx b_7)),Zf (Yy (Wx b_7))],[]))) (kT fun vs=>cInt .u64 vs fun n_2 r=>cBool r fun b_8 r=>onNil r (Zq (chk (decide (Zw b_4≤140737488355328)) (some (Zb [Zy (Xp (Xm (Yu b_4 n b_6))),Zy (Xd (Xm (Yu b_4 n b_6))),Zy (Xj (Xm (Yu b_4 n b_6)))],[[Yw b_4,Zz .i64 (Uq (Yu b_4 n b_6)),Zf b_5,Zf (Uj (Yu b_4 n b_6))]]))) fun (r:AV×Blocks)=>onConsB (Yy r) fun (x:List AV) (r_11:List (List AV))=>cBs x fun b_9 r_12=>cInt .i64 r_12 fun n r_13=>cBool r_13 fun b_10 r_14=>cBool r_14 fun b_11 r_15=>onNil r_15 (onNilB r_11 (Vm (Yx r) fun cs=>cStr cs fun b_12 r=>cStr r fun b_13 r=>cStr r fun b_14 r=>onNil r (Zq (chk (decide (Zw b_9≤140737488355328)) (some (Zz .i64 (Xy (Zn b_9 n 1 false)),[[Yw b_9,Zz .i64 (bif b_11 || !Yv (Zn b_9 n 1 false)==0 then n else Yb (Zn b_9 n 1 false)),Zf b_10,Zf (b_11 || !Yv (Zn b_9 n 1 false)==0)]]))) fun (r:AV×Blocks)=>onConsB (Yy r) fun (x:List AV) (r_16:List (List AV))=>cBs x fun b_15 r_17=>cInt .i64 r_17 fun n r_18=>cBool r_18 fun b_16 r_19=>cBool r_19 fun b_17 r_20=>onNil r_20 (onNilB r_16 (Ym .i64 (Yx r) fun n_3=>Zq (chk (decide (Zw b_15≤140737488355328)) (some (Zz .i64 (Xy (Zn b_15 n 1 false)),[[Yw b_15,Zz .i64 (bif b_17 || !Yv (Zn b_15 n 1 false)==0 then n else Yb (Zn b_15 n 1 false)),Zf b_16,Zf (b_17 || !Yv (Zn b_15 n 1 false)==0)]]))) fun (r:AV×Blocks)=>onConsB (Yy r) fun (x:List AV) (r_21:List (List AV))=>cBs x fun b_18 r_22=>cInt .i64 r_22 fun n r_23=>cBool r_23 fun b_19 r_24=>cBool r_24 fun b_20 r_25=>onNil r_25 (onNilB r_21 (Ym .i64 (Yx r) fun n_4=>Zq (chk (decide (Zw b_18≤140737488355328)) (some (Zz .i64 (Xy (Zn b_18 n 1 false)),[[Yw b_18,Zz .i64 (bif b_20 || !Yv (Zn b_18 n 1 false)==0 then n else Yb (Zn b_18 n 1 false)),Zf b_19,Zf (b_20 || !Yv (Zn b_18 n 1 false)==0)]]))) fun (r:AV×Blocks)=>onConsB (Yy r) fun (x:List AV) (r_26:List (List AV))=>cBs x fun b_21 r_27=>cInt .i64 r_27 fun n r_28=>cBool r_28 fun b_22 r_29=>cBool r_29 fun b_23 r_30=>onNil r_30 (onNilB r_26 (Ym .i64 (Yx r) fun n_5=>Zq (chk (decide (Zw b_21≤140737488355328)) (some (Yw (Wv (Xk b_21 n n_5)),[[Yw b_21,Zz .i64 (bif b_23 || !Xx (Xk b_21 n n_5)==0 then n else Wz (Xk b_21 n n_5)),Zf b_22,Zf (b_23 || !Xx (Xk b_21 n n_5)==0)]]))) fun (r:AV×Blocks)=>onConsB (Yy r) fun (x:List AV) (r_31:List (List AV))=>cBs x fun b_24 r_32=>cInt .i64 r_32 fun n r_33=>cBool r_33 fun b_25 r_34=>cBool r_34 fun b_26 r_35=>onNil r_35 (onNilB r_31 (AV.onBs (Yx r) fun b_27=>Zq (chk (decide (Zw b_24≤140737488355328)) (some (Zz .i64 (Xy (Zn b_24 n 4 b_25)),[[Yw b_24,Zz .i64 (bif b_26 || !Yv (Zn b_24 n 4 b_25)==0 then n else Yb (Zn b_24 n 4 b_25)),Zf b_25,Zf (b_26 || !Yv (Zn b_24 n 4 b_25)==0)]]))) fun (r:AV×Blocks)=>onConsB (Yy r) fun (x:List AV) (r_36:List (List AV))=>cBs x fun b_28 r_37=>cInt .i64 r_37 fun n r_38=>cBool r_38 fun b_29 r_39=>cBool r_39 fun b_30 r_40=>onNil r_40 (onNilB r_36 (Ym .i64 (Yx r) fun n=>Zq (chk (l63 b_12&&l63 b_13&&l63 b_14&&decide (0≤n_2)&&decide (n_2<18446744073709551616)) (some (Yq [Yw (Wh (Vj (Kerb.ReplyPart.mk n_2 (Yp b_12 b_13 b_14) n_3 n_4 b_27 n) little)),Zz .i64 (Vz (Vj (Kerb.ReplyPart.mk n_2 (Yp b_12 b_13 b_14) n_3 n_4 b_27 n) little))],[]))) (kT fun vs=>cBs vs fun b_31 r=>cInt .i64 r fun n_6 r=>onNil r (sel b_30 t0 (sel (!n_6==0) t0 (sel (!b_31==b) t0 (some (Yq [Zb [Zz .u64 n_2,Zy b_12,Zy b_13,Zy b_14,Zz .i64 n_3,Zz .i64 n_4,Yw b_27,Zz .i64 n],Zz .i64 0],[]))))))))))))))))))))))))):Option (AV×Blocks))) (by kernel_rfl) ?_
  delta kT
  try dsimp only [cStr,cBs,cBool,cU8,cInt,cSl,l63]
  have hb:=of_decide_eq_true hpre
  simp only [A0]
  rw [Kerb.rdPart_dec b little]
  rw [chk_of hpre,chk_of hpre]
  have lr:=Kerb.bytes_len b (cond (false || !((Zn b 0 1 false).err==0)) 0 (Zn b 0 1 false).next) 8
  rw [chk_of (by simp only [decide_eq_true_eq];exact Yj lr (by omega)),chk_of hpre,chk_of hpre,chk_of hpre,chk_of hpre,chk_of hpre,chk_of hpre]
  have hx:∀ q,(Xu b q).val.length≤40:=Uu b
  have lp:∀ q bd,(Yu b q bd).p.name.length≤40∧(Yu b q bd).p.inst.length≤40∧(Yu b q bd).p.realm.length≤40:=Vq b
  have hk:∀ q,0≤(Wx q).1∧(Wx q).1<18446744073709551616:=Kerb.keyRead_bd
  rw [chk_of (by simp only [Yk,decide_eq_true_eq];exact ⟨⟨⟨⟨Yj (lp _ _).1 (by decide),Yj (lp _ _).2.1 (by decide)⟩,Yj (lp _ _).2.2 (by decide)⟩,(hk _).1⟩,(hk _).2⟩)]
  obtain ⟨R,hR⟩:∃ R,R=Kerb.rdPart b little:=⟨_,rfl⟩
  have eb:_=R.bad:=(congrArg Kerb.Rd.bad hR).symm
  have ev:_=R.val:=(congrArg Kerb.Rd.val hR).symm
  rw [← hR]
  unfold Kerb.rdPart at eb ev
  dsimp only [Kerb.rdGet,Kerb.rdText,Kerb.rdBytes] at eb ev
  simp only [Bool.false_or] at eb ev ⊢
  generalize (Yu b (cond ((!((Zn b 0 1 false).err==0)) || !((Xk b (cond (!((Zn b 0 1 false).err==0)) 0 (Zn b 0 1 false).next) 8).err==0)) (cond (!((Zn b 0 1 false).err==0)) 0 (Zn b 0 1 false).next) (Xk b (cond (!((Zn b 0 1 false).err==0)) 0 (Zn b 0 1 false).next) 8).next) ((!((Zn b 0 1 false).err==0)) || !((Xk b (cond (!((Zn b 0 1 false).err==0)) 0 (Zn b 0 1 false).next) 8).err==0)))=X at eb ev ⊢
  have ev2:Kerb.ReplyPart.mk _ (Yp X.p.name X.p.inst X.p.realm) _ _ _ _=R.val:=ev
  rw [eb]
  rw [ev2]
  cases hbad:R.bad
  case true=>rw [if_pos (.inl rfl)];rfl
  rw [sel_false]
  by_cases h1:(Vj R.val little).err=0
  ·rw [sel_neg (by simp [h1])]
   by_cases h2:(Vj R.val little).val=b
   ·rw [sel_neg (by simp [h2]),if_neg (by simp [h1,h2]),← ev2]
   ·rw [sel_pos (by simpa using h2),if_pos (.inr (.inr h2))]
    rfl
  ·rw [sel_pos (by simpa using h1),if_pos (.inr (.inl h1))]
   rfl
 ·cases h
theorem w17:Walked Tryz.prog G 17 5 sp17:=by
 refine ⟨Tryz.f17,Tryz.func17,by decide +kernel,rfl,fun xs bl r h=> ?_⟩
 unfold sp17 at h
 split at h
 ·rename_i b
  obtain ⟨hpre,h2⟩:=chk_inv h;cases h2
  refine Eq.trans (b:=(let t1:AV:=Zb [Zf false,Zy [],Zy [],Zy [],Zz .i64 0,Zz .i64 0,Zy []];let t0:Option (AV×Blocks):=some (Yq [t1,Zz .i64 100],[]);sel (!Yy (Xv b [5])==0) (some (Yq [t1,Zz .i64 (Yy (Xv b [5]))],[])) (Zq (chk (decide (Zw b≤140737488355328)) (some (Zb [Zy (Xp (Xm (Yu b 2 false))),Zy (Xd (Xm (Yu b 2 false))),Zy (Xj (Xm (Yu b 2 false)))],[[Yw b,Zz .i64 (Uq (Yu b 2 false)),Zf (Yx (Xv b [5])),Zf (Uj (Yu b 2 false))]]))) fun (r:AV×Blocks)=>onConsB (Yy r) fun (x:List AV) (r_1:List (List AV))=>cBs x fun b_1 r_2=>cInt .i64 r_2 fun n r_3=>cBool r_3 fun b_2 r_4=>cBool r_4 fun b_3 r_5=>onNil r_5 (onNilB r_1 (Vm (Yx r) fun cs=>cStr cs fun b_4 r=>cStr r fun b_5 r=>cStr r fun b_6 r=>onNil r (Zq (chk (decide (Zw b_1≤140737488355328)) (some (Zz .i64 (Xy (Zn b_1 n 4 b_2)),[[Yw b_1,Zz .i64 (bif b_3 || !Yv (Zn b_1 n 4 b_2)==0 then n else Yb (Zn b_1 n 4 b_2)),Zf b_2,Zf (b_3 || !Yv (Zn b_1 n 4 b_2)==0)]]))) fun (r:AV×Blocks)=>onConsB (Yy r) fun (x:List AV) (r_6:List (List AV))=>cBs x fun b_7 r_7=>cInt .i64 r_7 fun n r_8=>cBool r_8 fun b_8 r_9=>cBool r_9 fun b_9 r_10=>onNil r_10 (onNilB r_6 (Ym .i64 (Yx r) fun n_1=>Zq (chk (decide (Zw b_7≤140737488355328)) (some (Zz .i64 (Xy (Zn b_7 n 4 b_8)),[[Yw b_7,Zz .i64 (bif b_9 || !Yv (Zn b_7 n 4 b_8)==0 then n else Yb (Zn b_7 n 4 b_8)),Zf b_8,Zf (b_9 || !Yv (Zn b_7 n 4 b_8)==0)]]))) fun (r:AV×Blocks)=>onConsB (Yy r) fun (x:List AV) (r_11:List (List AV))=>cBs x fun b_10 r_12=>cInt .i64 r_12 fun n r_13=>cBool r_13 fun b_11 r_14=>cBool r_14 fun b_12 r_15=>onNil r_15 (onNilB r_11 (Ym .i64 (Yx r) fun n_2=>Zq (chk (decide (Zw b_10≤140737488355328)) (some (Zy (Wv (Xu b_10 n)),[[Yw b_10,Zz .i64 (bif b_12 || !Xx (Xu b_10 n)==0 then n else Wz (Xu b_10 n)),Zf b_11,Zf (b_12 || !Xx (Xu b_10 n)==0)]]))) fun (r:AV×Blocks)=>onConsB (Yy r) fun (x:List AV) (r_16:List (List AV))=>cBs x fun b_13 r_17=>cInt .i64 r_17 fun n r_18=>cBool r_18 fun b_14 r_19=>cBool r_19 fun b_15 r_20=>onNil r_20 (onNilB r_16 (AV.onStr (Yx r) fun b_16=>let t2:Kerb.Enc:=Kerb.encodeError (Kerb.ErrorReply.mk (Yx (Xv b [5])) (Yp b_4 b_5 b_6) n_1 n_2 b_16);Zq (chk (l63 b_4&&l63 b_5&&l63 b_6&&l63 b_16) (some (Yq [Yw (Wh t2),Zz .i64 (Vz t2)],[]))) (kT fun vs=>cBs vs fun b_17 r=>cInt .i64 r fun n r=>onNil r (sel b_15 t0 (sel (!n==0) t0 (sel (!b_17==b) t0 (some (Yq [Zb [Zf (Yx (Xv b [5])),Zy b_4,Zy b_5,Zy b_6,Zz .i64 n_1,Zz .i64 n_2,Zy b_16],Zz .i64 0],[])))))))))))))))):Option (AV×Blocks))) (by kernel_rfl) ?_
  delta kT
  try dsimp only [cStr,cBs,cBool,cU8,cInt,cSl,l63]
  have hb:=of_decide_eq_true hpre
  simp only [A0]
  by_cases h:(Xv b [5]).2=0
  case neg =>
   unfold Kerb.decodeError
   rw [sel_pos (by simpa using h),if_pos h]
   rfl
  rw [sel_neg (by simp [h]),Kerb.rdError_dec h]
  rw [chk_of hpre,chk_of hpre,chk_of hpre,chk_of hpre]
  have lp:=Vq b 2 false
  have hx:∀ q,(Xu b q).val.length≤40:=Uu b
  rw [chk_of (by simp only [Yk,decide_eq_true_eq];refine ⟨⟨⟨Yj lp.1 (by decide),Yj lp.2.1 (by decide)⟩,Yj lp.2.2 (by decide)⟩,Yj (hx _) (by decide)⟩)]
  obtain ⟨R,hR⟩:∃ R,R=Kerb.rdError b:=⟨_,rfl⟩
  have eb:_=R.bad:=(congrArg Kerb.Rd.bad hR).symm
  have ev:_=R.val:=(congrArg Kerb.Rd.val hR).symm
  rw [← hR]
  unfold Kerb.rdError at eb ev
  dsimp only [Kerb.rdGet,Kerb.rdText,Kerb.rdBytes] at eb ev
  rw [eb]
  have ev2:Kerb.ErrorReply.mk (Xv b [5]).1 (Yp (Yu b 2 false).p.name (Yu b 2 false).p.inst (Yu b 2 false).p.realm) _ _ _=R.val:=ev
  rw [ev2]
  cases hbad:R.bad
  case true=>rw [if_pos (.inl rfl)];rfl
  rw [sel_false]
  by_cases h1:(Kerb.encodeError R.val).err=0
  ·rw [sel_neg (by simp [h1])]
   by_cases h2:(Kerb.encodeError R.val).val=b
   ·rw [sel_neg (by simp [h2]),if_neg (by simp [h1,h2]),← ev2]
   ·rw [sel_pos (by simpa using h2),if_pos (.inr (.inr h2))]
    rfl
  ·rw [sel_pos (by simpa using h1),if_pos (.inr (.inl h1))]
   rfl
 ·cases h
theorem w24:Walked Tryz.prog G 24 5 sp24:=by
 refine ⟨Tryz.f24,Tryz.func24,by decide +kernel,rfl,fun xs bl r h=> ?_⟩
 unfold sp24 at h
 split at h
 ·rename_i rl els n i now
  obtain ⟨hpre,h2⟩:=chk_inv h;cases h2
  refine Eq.trans (b:=(Zq (chk (List.all els Kerb.isEntry&&decide (Zw els≤1000000)) (some (Yq [Zz .i64 (Yx (Kerb.useEnt (Kerb.Db.mk rl (List.map Vp els)) n i now 1 1 5)),Zz .i64 (Yy (Kerb.useEnt (Kerb.Db.mk rl (List.map Vp els)) n i now 1 1 5))],[]))) fun (r:AV×Blocks)=>onNilB (Yy r) (AV.onTup (Yx r) fun vs=>onCons vs fun x r=>Ym .i64 x fun n=>onCons r fun x r=>Ym .i64 x fun n_1=>onNil r (some (Yq [Zz .i64 n,Zz .i64 n_1],[]))):Option (AV×Blocks))) (by kernel_rfl) ?_
  simp only [hpre,↓A0,A0]
  rfl
 ·cases h
theorem w69:Walked Tryz.prog G 69 5 sp69:=by
 refine ⟨Tryz.f69,Tryz.func69,by decide +kernel,rfl,fun xs bl r h=> ?_⟩
 unfold sp69 at h
 split at h
 ·rename_i rl els n i now
  obtain ⟨hpre,h2⟩:=chk_inv h;cases h2
  refine Eq.trans (b:=(Zq (chk (List.all els Kerb.isEntry&&decide (Zw els≤1000000)) (some (Yq [Zz .i64 (Yx (Kerb.useEnt (Kerb.Db.mk rl (List.map Vp els)) n i now 2 2 6)),Zz .i64 (Yy (Kerb.useEnt (Kerb.Db.mk rl (List.map Vp els)) n i now 2 2 6))],[]))) fun (r:AV×Blocks)=>onNilB (Yy r) (AV.onTup (Yx r) fun vs=>onCons vs fun x r=>Ym .i64 x fun n=>onCons r fun x r=>Ym .i64 x fun n_1=>onNil r (some (Yq [Zz .i64 n,Zz .i64 n_1],[]))):Option (AV×Blocks))) (by kernel_rfl) ?_
  simp only [hpre,↓A0,A0]
  rfl
 ·cases h
theorem w90:Walked Tryz.prog G 90 5 sp90:=by
 refine ⟨Tryz.f90,Tryz.func90,by decide +kernel,rfl,fun xs bl r h=> ?_⟩
 unfold sp90 at h
 split at h
 ·rename_i li x y z ad k lf iss sv ins
  obtain ⟨hpre,h2⟩:=chk_inv h;cases h2
  refine Eq.trans (b:=(let t0:Nat:=Zw ([]++Yg 1 1 false)+Zw x+Zw y+Zw z;let t1:Nat:=Zw ([]++Yg 0 1 false)+Zw x+Zw y+Zw z;let t2:Option (AV×Blocks):=chk (decide (0≤k)&&decide (k<18446744073709551616)) (some (Yw (Kerb.keyBytes k),[]));Zq (chk (l63 x&&l63 y&&l63 z&&l63 sv&&l63 ins&&decide (0≤k)&&decide (k<18446744073709551616)) (some (Zz .i64 (Kerb.Ticket.err (Kerb.Ticket.mk li (Yp x y z) ad k lf iss sv ins)),[]))) (kI .i64 fun n=>sel (!n==0) (some (Yq [Yw [],Zz .i64 n],[])) (sel li (Zq (chk (decide (t0≤70368744170000)) (some (Yw (Vd ([]++Yg 1 1 false) (Yp x y z)),[]))) (kB fun b=>Zq (chk (decide (Zw b≤70368744177664)) (some (Yh (b++Yg ad 4 li),[]))) (kO fun l=>Zq t2 (kB fun b=>chk (room (Zw l+Zw b) 1) (Zq (chk (decide (Zw (l++b)≤70368744177664)) (some (Yh (l++b++Yg lf 1 false),[]))) (kO fun l=>Zq (chk (decide (Zw l≤70368744177664)) (some (Yh (l++Yg iss 4 li),[]))) (kO fun l=>Zq (chk (decide (Zw l+Zw sv≤70368744177664)) (some (Yh (Xw l sv),[]))) (kO fun l=>Zq (chk (decide (Zw l+Zw ins≤70368744177664)) (some (Yh (Xw l ins),[]))) (kO fun l=>Zq (chk (decide (Zw l≤70368744177664)) (some (Yh (Kerb.pad l),[]))) (kO fun l=>some (Yq [Yw l,Zz .i64 0],[]))))))))))) (Zq (chk (decide (t1≤70368744170000)) (some (Yw (Vd ([]++Yg 0 1 false) (Yp x y z)),[]))) (kB fun b=>Zq (chk (decide (Zw b≤70368744177664)) (some (Yh (b++Yg ad 4 li),[]))) (kO fun l=>Zq t2 (kB fun b=>chk (room (Zw l+Zw b) 1) (Zq (chk (decide (Zw (l++b)≤70368744177664)) (some (Yh (l++b++Yg lf 1 false),[]))) (kO fun l=>Zq (chk (decide (Zw l≤70368744177664)) (some (Yh (l++Yg iss 4 li),[]))) (kO fun l=>Zq (chk (decide (Zw l+Zw sv≤70368744177664)) (some (Yh (Xw l sv),[]))) (kO fun l=>Zq (chk (decide (Zw l+Zw ins≤70368744177664)) (some (Yh (Xw l ins),[]))) (kO fun l=>Zq (chk (decide (Zw l≤70368744177664)) (some (Yh (Kerb.pad l),[]))) (kO fun l=>some (Yq [Yw l,Zz .i64 0],[]))))))))))))):Option (AV×Blocks))) (by kernel_rfl) ?_
  delta kB kO kI
  try dsimp only [cStr,cBs,cBool,cU8,cInt,cSl,l63]
  simp only [Yk,decide_eq_true_eq] at hpre
  obtain ⟨⟨⟨⟨⟨⟨h1,h2⟩,h3⟩,h4⟩,h5⟩,h6⟩,h7⟩:=hpre
  simp only [h1,h2,h3,h4,h5,h6,h7,decide_true,Xf,↓A0,A0]
  have hb := @Kerb.encTicket_inv ⟨li,⟨x,y,z⟩,ad,k,lf,iss,sv,ins⟩
  unfold Ux at hb ⊢
  dsimp only at hb ⊢
  generalize hE:Kerb.Ticket.err _=e at hb ⊢
  by_cases he:e=0
  case neg=>rw [sel_pos (by simpa using he),if_pos he]
  rw [if_neg (by simpa using he)] at hb
  obtain ⟨v1,v2,v3,_⟩:=hb rfl
  have l1:=Vb v1
  have l2:=(Kerb.name_ok v2).1
  have l3:=(Kerb.inst_ok v3).1
  dsimp only at l1
  rw [sel_neg (by simpa using he),if_neg (by simpa using he)]
  cases li
  ·rw [sel_false,chk_of (by first | (simp [Zj,Zg,Zp];done) | (simp [Zj,Zg,Zp];omega)),chk_of (by first | (simp [Zj,Zg,Zp];done) | (simp [Zj,Zg,Zp];omega)),chk_of (Wu (by first | (simp [Zj,Zg,Zp];done) | (simp [Zj,Zg,Zp];omega))),chk_of (by first | (simp [Zj,Zg,Zp];done) | (simp [Zj,Zg,Zp];omega)),chk_of (by first | (simp [Zj,Zg,Zp];done) | (simp [Zj,Zg,Zp];omega)),chk_of (by first | (simp [Zj,Zg,Zp];done) | (simp [Zj,Zg,Zp];omega)),chk_of (by first | (simp [Xw,Zj,Zg,Zp];done) | (simp [Xw,Zj,Zg,Zp];omega)),chk_of (by first | (simp [Xw,Zj,Zg,Zp];done) | (simp [Xw,Zj,Zg,Zp];omega))]
   simp
  ·rw [sel_true,chk_of (by first | (simp [Zj,Zg,Zp];done) | (simp [Zj,Zg,Zp];omega)),chk_of (by first | (simp [Zj,Zg,Zp];done) | (simp [Zj,Zg,Zp];omega)),chk_of (Wu (by first | (simp [Zj,Zg,Zp];done) | (simp [Zj,Zg,Zp];omega))),chk_of (by first | (simp [Zj,Zg,Zp];done) | (simp [Zj,Zg,Zp];omega)),chk_of (by first | (simp [Zj,Zg,Zp];done) | (simp [Zj,Zg,Zp];omega)),chk_of (by first | (simp [Zj,Zg,Zp];done) | (simp [Zj,Zg,Zp];omega)),chk_of (by first | (simp [Xw,Zj,Zg,Zp];done) | (simp [Xw,Zj,Zg,Zp];omega)),chk_of (by first | (simp [Xw,Zj,Zg,Zp];done) | (simp [Xw,Zj,Zg,Zp];omega))]
   simp
 ·cases h
theorem w101:Walked Tryz.prog G 101 5 sp101:=by
 refine ⟨Tryz.f101,Tryz.func101,by decide +kernel,rfl,fun xs bl r h=> ?_⟩
 unfold sp101 at h
 split at h
 ·rename_i s
  obtain ⟨hpre,h2⟩:=chk_inv h;cases h2
  refine Eq.trans (b:=(sel (!s==[]) (sel (decide ((↑(Zw s):Int)≤39)) (Zq (chk (decide (Zw s≤9223372036854775807)) (some (Zf (Wq s [(46:UInt8),(64:UInt8)]),[]))) fun (r:AV×Blocks)=>onNilB (Yy r) (AV.onBool (Yx r) fun b=>some (Zf b,[]))) (some (Zf false,[]))) (some (Zf false,[])):Option (AV×Blocks))) (by kernel_rfl) ?_
  simp only [A0]
  rw [chk_of hpre,decide_eq_decide.2 (show ((s.length:Int)≤39)↔s.length≤39 from by omega)]
  simp only [Vn]
  cases s with
  | nil=>rfl
  | cons x r=>cases decide ((x::r).length≤39)<;>rfl
 ·cases h
theorem w102:Walked Tryz.prog G 102 5 sp102:=by
 refine ⟨Tryz.f102,Tryz.func102,by decide +kernel,rfl,fun xs bl r h=> ?_⟩
 unfold sp102 at h
 split at h
 ·rename_i s
  obtain ⟨hpre,h2⟩:=chk_inv h;cases h2
  refine Eq.trans (b:=(sel (decide ((↑(Zw s):Int)≤39)) (Zq (chk (decide (Zw s≤9223372036854775807)) (some (Zf (Wq s [(64:UInt8)]),[]))) fun (r:AV×Blocks)=>onNilB (Yy r) (AV.onBool (Yx r) fun b=>some (Zf b,[]))) (some (Zf false,[])):Option (AV×Blocks))) (by kernel_rfl) ?_
  simp only [A0]
  rw [chk_of hpre,decide_eq_decide.2 (show ((s.length:Int)≤39)↔s.length≤39 from by omega)]
  simp only [Vy]
  cases decide (s.length≤39)<;>rfl
 ·cases h
theorem w43:Walked Tryz.prog G 43 6 sp43:=by
 refine ⟨Tryz.f43,Tryz.func43,by decide +kernel,rfl,fun xs bl r h=> ?_⟩
 unfold sp43 at h
 split at h
 ·rename_i b
  obtain ⟨hpre,h2⟩:=chk_inv h;cases h2
  refine Eq.trans (b:=(let t2:AV:=Zb [Zf false,Zy [],Zy [],Zy [],Zz .i64 0,Zz .u64 0,Zz .i64 0,Zz .i64 0,Zy [],Zy []];let t1:Option (AV×Blocks):=some (Yq [t2,Zz .i64 100],[]);let t0:Option (AV×Blocks):=Zq (chk (decide (Zw b≤140737488355328)) (some (Zz .i64 (Xy (Zn b 0 1 false)),[[Yw b,Zz .i64 (bif false || !Yv (Zn b 0 1 false)==0 then 0 else Yb (Zn b 0 1 false)),Zf false,Zf !Yv (Zn b 0 1 false)==0]]))) fun (r:AV×Blocks)=>onConsB (Yy r) fun (x:List AV) (r_1:List (List AV))=>cBs x fun b_1 r_2=>cInt .i64 r_2 fun n r_3=>cBool r_3 fun b_2 r_4=>cBool r_4 fun b_3 r_5=>onNil r_5 (onNilB r_1 (Ym .i64 (Yx r) fun n_1=>Zq (chk (decide (Zw b_1≤140737488355328)) (some (Zb [Zy (Xp (Xm (Yu b_1 n b_3))),Zy (Xd (Xm (Yu b_1 n b_3))),Zy (Xj (Xm (Yu b_1 n b_3)))],[[Yw b_1,Zz .i64 (Uq (Yu b_1 n b_3)),Zf (n_1==1),Zf (Uj (Yu b_1 n b_3))]]))) fun (r:AV×Blocks)=>onConsB (Yy r) fun (x:List AV) (r_6:List (List AV))=>cBs x fun b_4 r_7=>cInt .i64 r_7 fun n r_8=>cBool r_8 fun b_5 r_9=>cBool r_9 fun b_6 r_10=>onNil r_10 (onNilB r_6 (Vm (Yx r) fun cs=>cStr cs fun b_7 r=>cStr r fun b_8 r=>cStr r fun b_9 r=>onNil r (Zq (chk (decide (Zw b_4≤140737488355328)) (some (Zz .i64 (Xy (Zn b_4 n 4 b_5)),[[Yw b_4,Zz .i64 (bif b_6 || !Yv (Zn b_4 n 4 b_5)==0 then n else Yb (Zn b_4 n 4 b_5)),Zf b_5,Zf (b_6 || !Yv (Zn b_4 n 4 b_5)==0)]]))) fun (r:AV×Blocks)=>onConsB (Yy r) fun (x:List AV) (r_11:List (List AV))=>cBs x fun b_10 r_12=>cInt .i64 r_12 fun n r_13=>cBool r_13 fun b_11 r_14=>cBool r_14 fun b_12 r_15=>onNil r_15 (onNilB r_11 (Ym .i64 (Yx r) fun n_2=>Zq (chk (decide (Zw b_10≤140737488355328)) (some (Yw (Wv (Xk b_10 n 8)),[[Yw b_10,Zz .i64 (bif b_12 || !Xx (Xk b_10 n 8)==0 then n else Wz (Xk b_10 n 8)),Zf b_11,Zf (b_12 || !Xx (Xk b_10 n 8)==0)]]))) fun (r:AV×Blocks)=>onConsB (Yy r) fun (x:List AV) (r_16:List (List AV))=>cBs x fun b_13 r_17=>cInt .i64 r_17 fun n r_18=>cBool r_18 fun b_14 r_19=>cBool r_19 fun b_15 r_20=>onNil r_20 (onNilB r_16 (AV.onBs (Yx r) fun b_16=>Zq (chk (decide (Zw b_16≤4611686018427387904)) (some (Yq [Zz .u64 (Yx (Wx b_16)),Zf (Yy (Wx b_16))],[]))) (kT fun vs=>cInt .u64 vs fun n_3 r=>cBool r fun b_17 r=>onNil r (Zq (chk (decide (Zw b_13≤140737488355328)) (some (Zz .i64 (Xy (Zn b_13 n 1 false)),[[Yw b_13,Zz .i64 (bif b_15 || !Yv (Zn b_13 n 1 false)==0 then n else Yb (Zn b_13 n 1 false)),Zf b_14,Zf (b_15 || !Yv (Zn b_13 n 1 false)==0)]]))) fun (r:AV×Blocks)=>onConsB (Yy r) fun (x:List AV) (r_21:List (List AV))=>cBs x fun b_18 r_22=>cInt .i64 r_22 fun n r_23=>cBool r_23 fun b_19 r_24=>cBool r_24 fun b_20 r_25=>onNil r_25 (onNilB r_21 (Ym .i64 (Yx r) fun n_4=>Zq (chk (decide (Zw b_18≤140737488355328)) (some (Zz .i64 (Xy (Zn b_18 n 4 b_19)),[[Yw b_18,Zz .i64 (bif b_20 || !Yv (Zn b_18 n 4 b_19)==0 then n else Yb (Zn b_18 n 4 b_19)),Zf b_19,Zf (b_20 || !Yv (Zn b_18 n 4 b_19)==0)]]))) fun (r:AV×Blocks)=>onConsB (Yy r) fun (x:List AV) (r_26:List (List AV))=>cBs x fun b_21 r_27=>cInt .i64 r_27 fun n r_28=>cBool r_28 fun b_22 r_29=>cBool r_29 fun b_23 r_30=>onNil r_30 (onNilB r_26 (Ym .i64 (Yx r) fun n_5=>Zq (chk (decide (Zw b_21≤140737488355328)) (some (Zy (Wv (Xu b_21 n)),[[Yw b_21,Zz .i64 (bif b_23 || !Xx (Xu b_21 n)==0 then n else Wz (Xu b_21 n)),Zf b_22,Zf (b_23 || !Xx (Xu b_21 n)==0)]]))) fun (r:AV×Blocks)=>onConsB (Yy r) fun (x:List AV) (r_31:List (List AV))=>cBs x fun b_24 r_32=>cInt .i64 r_32 fun n r_33=>cBool r_33 fun b_25 r_34=>cBool r_34 fun b_26 r_35=>onNil r_35 (onNilB r_31 (AV.onStr (Yx r) fun b_27=>Zq (chk (decide (Zw b_24≤140737488355328)) (some (Zy (Wv (Xu b_24 n)),[[Yw b_24,Zz .i64 (bif b_26 || !Xx (Xu b_24 n)==0 then n else Wz (Xu b_24 n)),Zf b_25,Zf (b_26 || !Xx (Xu b_24 n)==0)]]))) fun (r:AV×Blocks)=>onConsB (Yy r) fun (x:List AV) (r_36:List (List AV))=>cBs x fun b_28 r_37=>cInt .i64 r_37 fun n r_38=>cBool r_38 fun b_29 r_39=>cBool r_39 fun b_30 r_40=>onNil r_40 (onNilB r_36 (AV.onStr (Yx r) fun b_31=>Zq (chk (l63 b_7&&l63 b_8&&l63 b_9&&l63 b_27&&l63 b_31&&decide (0≤n_3)&&decide (n_3<18446744073709551616)) (some (Yq [Yw (Wh (Ux (Kerb.Ticket.mk (n_1==1) (Yp b_7 b_8 b_9) n_2 n_3 n_4 n_5 b_27 b_31))),Zz .i64 (Vz (Ux (Kerb.Ticket.mk (n_1==1) (Yp b_7 b_8 b_9) n_2 n_3 n_4 n_5 b_27 b_31)))],[]))) (kT fun vs=>cBs vs fun b_32 r=>cInt .i64 r fun n r=>onNil r (sel b_30 t1 (sel (!n==0) t1 (sel (!b_32==b) t1 (some (Yq [Zb [Zf (n_1==1),Zy b_7,Zy b_8,Zy b_9,Zz .i64 n_2,Zz .u64 n_3,Zz .i64 n_4,Zz .i64 n_5,Zy b_27,Zy b_31],Zz .i64 0],[])))))))))))))))))))))))));sel (decide ((↑(Zw b):Int)>0)) (chk (decide (0<(↑(Zw b):Int))) (sel (decide ((↑(Yd (Xb b (Yz 0) (0:UInt8))):Int)>(↑(Yd (1:UInt8)):Int))) (some (Yq [t2,Zz .i64 7],[])) t0)) t0:Option (AV×Blocks))) (by kernel_rfl) ?_
  delta kT
  try dsimp only [cStr,cBs,cBool,cU8,cInt,cSl,l63]
  have hb:=of_decide_eq_true hpre
  simp only [hpre,↓A0,A0]
  unfold Kerb.decodeTicket
  rw [Kerb.decTicket_ref]
  have hl:∀ p n,(Xk b p n).val.length≤4611686018427387904:=fun p n=>Yj (Kerb.bytes_len b p n) (by omega)
  have hk:∀ q,0≤(Wx q).1∧(Wx q).1<18446744073709551616:=Kerb.keyRead_bd
  have hx:∀ q,(Xu b q).val.length≤40:=Uu b
  have lp:∀ q bd,(Yu b q bd).p.name.length≤40∧(Yu b q bd).p.inst.length≤40∧(Yu b q bd).p.realm.length≤40:=Vq b
  have h7b:¬ (0<b.length)→¬ 1<(Zn b 0 1 false).val:=by
   intro h
   have:b=[]:=List.eq_nil_of_length_eq_zero (by omega)
   subst this
   decide
  have hv:0<b.length→(Zn b 0 1 false).val=((Xb b (Yz 0) 0).toNat:Int):=by
   intro h
   cases b with
   | nil=>simp at h
   | cons c r =>
    have hr:Kerb.room (c::r) 0 1=0:=Kerb.room_zero.2 ⟨by omega,by simp only [List.length_cons];omega,by omega,by simp only [List.length_cons];omega⟩
    unfold Zn
    rw [if_pos hr]
    simp [Kerb.cut,Kerb.valB]
  have fin:=Kerb.decBy_fin (no:=Kerb.noTicket) (enc:=Ux) (b:=b) (rd:=fun b=>((Kerb.rdTicket b).val,(Kerb.rdTicket b).bad)) _ _ rfl (fun x e=>(Yq [Zb [Zf (x).little,Zy (x).client.name,Zy (x).client.inst,Zy (x).client.realm,Zz Zv (x).address,Zz Yn (x).session,Zz Zv (x).life,Zz Zv (x).issued,Zy (x).service,Zy (x).inst],Zz Zv e],([]:Blocks)))
  by_cases h:0<b.length
  ·rw [sel_pos (by simp only [decide_eq_true_eq];omega),chk_of (by simp only [decide_eq_true_eq];omega)]
   have hv:=hv h
   by_cases h7:1<(Zn b 0 1 false).val
   ·rw [sel_pos (by rw [hv] at h7;exact decide_eq_true h7),if_pos h7]
    rfl
   rw [sel_neg (by rw [hv] at h7;exact decide_eq_false h7),if_neg h7]
   rw [chk_of (by simp only [decide_eq_true_eq];exact hl _ _),chk_of (by simp only [Yk,decide_eq_true_eq];exact ⟨⟨⟨⟨⟨⟨Yj (lp _ _).1 (by decide),Yj (lp _ _).2.1 (by decide)⟩,Yj (lp _ _).2.2 (by decide)⟩,Yj (hx _) (by decide)⟩,Yj (hx _) (by decide)⟩,(hk _).1⟩,(hk _).2⟩)]
   exact fin
  ·rw [sel_neg (by simp only [decide_eq_false_iff_not];omega),if_neg (h7b h)]
   rw [chk_of (by simp only [decide_eq_true_eq];exact hl _ _),chk_of (by simp only [Yk,decide_eq_true_eq];exact ⟨⟨⟨⟨⟨⟨Yj (lp _ _).1 (by decide),Yj (lp _ _).2.1 (by decide)⟩,Yj (lp _ _).2.2 (by decide)⟩,Yj (hx _) (by decide)⟩,Yj (hx _) (by decide)⟩,(hk _).1⟩,(hk _).2⟩)]
   exact fin
 ·cases h
theorem w67:Walked Tryz.prog G 67 6 sp67:=by
 refine ⟨Tryz.f67,Tryz.func67,by decide +kernel,rfl,fun xs bl r h=> ?_⟩
 unfold sp67 at h
 split at h
 ·rename_i s
  obtain ⟨hpre,h2⟩:=chk_inv h;cases h2
  refine Eq.trans (b:=(sel (!s==[]) (Zq (chk (decide (Zw s≤9223372036854775807)) (some (Zf (Vy s),[]))) fun (r:AV×Blocks)=>onNilB (Yy r) (AV.onBool (Yx r) fun b=>some (Zf b,[]))) (some (Zf false,[])):Option (AV×Blocks))) (by kernel_rfl) ?_
  simp only [A0]
  rw [chk_of hpre]
  simp only [Kerb.validRealm]
  cases s<;>rfl
 ·cases h
end Go.Proofs.YtlhambpafcdkbaaGreatDoor
