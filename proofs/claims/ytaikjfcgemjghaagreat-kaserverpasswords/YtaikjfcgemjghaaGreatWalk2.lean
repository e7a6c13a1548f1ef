/- What the functions of this seat compute. -/
import Derived.Test.YtaikjfcgemjghaaGreatTab
import Derived.Test.YtaikjfcgemjghaaGreatKerbPlain
import Derived.Test.YtaikjfcgemjghaaGreatAbsStep
import Derived.Test.YtaikjfcgemjghaaGreatKerbKaPlain
import Derived.Test.YtaikjfcgemjghaaGreatKerbKaRef
import Derived.Test.YtaikjfcgemjghaaGreatKerbCli3
import Derived.Test.YtaikjfcgemjghaaGreatKerbCli4
import Derived.Test.YtaikjfcgemjghaaGreatKerbCli5
import Derived.Test.YtaikjfcgemjghaaGreatKerbSrvL
import Derived.Test.YtaikjfcgemjghaaGreatKerbKac2
import Derived.Test.YtaikjfcgemjghaaGreatKerbSrvP
open Go.Abs.AV renaming int→Zz,str→Zy,agg→Zf,bool→Zn,bs→Zm,tup→Yv,onInt→Yj,ownB→Yb,u8→Xb,onTup→Wy,onBool→Wq,sl→Wd,undef→Vv
open Kerb renaming service→Zx,user→Zu,putN_len→Zk,simpleEnt→Zp,keyBytes_len→Zg,putPrin_len→Zb,within→Zh,u8i→Yz,putN→Yk,putText→Yp,get→Yd,long→Yf,encodeKaSecret→Yg,room_ok→Xx,keyValid→Xw,pBytes→Xv,pGet→Xj,validInst→Xk,printable→Xp,bfd→Xg,validName→Xm,putText_len→Xh,encodeKaReply→Wu,readBox→Wj,keyRead→Wk,toEntry→Wb,timed→Wh,encodeTicket→Vu,byteAt→Vq,bfd_eq→Vj
open Go.IntKind renaming i64→Zw,wrap→Zj,u64→Yq,bits→Xz
open List renaming length→Zv,getD→Xy,range_succ→Wx,take→Wn,drop→Wm
open Option renaming bind→Zq
open Kerb.Entry renaming av→Zd
open Int renaming toNat→Yy
open Prod renaming snd→Yx,fst→Yu
open Bool renaming not_true→Yw,and_self→Yn,and_eq_true→Xu,not_false→Vw
open UInt8 renaming toNat→Ym
open Kerb.Got renaming err→Yh,next→Xq,val→Xd
open Kerb.KaSecret renaming mk→Xf
open Kerb.Prin renaming mk→Xn,realm→Wz,name→Ww,inst→Wv,valid→Vk
open Nat renaming beq_refl→Wp
open Kerb.Enc renaming err→Wf,val→Vp
open Go.Abs.Ex renaming exit→Wg
open Kerb.Rd renaming val→Vz,pos→Vy,bad→Vx
namespace Go.Proofs.YtaikjfcgemjghaaGreat
open Go Go.Abs Go.Proofs
set_option linter.unusedVariables false
set_option linter.unusedSimpArgs false
set_option maxRecDepth 100000
theorem w218:Walked Tryz.prog G 218 3 sp218:=by
 refine ⟨Tryz.f218,Tryz.func218,by decide +kernel,rfl,fun xs bl r h=> ?_⟩
 unfold sp218 at h
 split at h
 ·rename_i i l n s
  cases h
  refine Eq.trans (b:=(sel (!Zh i 4294967295) (some (Zz .i64 104,[])) (sel (!Zh n 4294967295) (some (Zz .i64 104,[])) (sel (!Zh l 255) (some (Zz .i64 104,[])) (sel (!Zh s 4294967295) (some (Zz .i64 104,[])) (sel (decide (i>Zj .i64 (n+s))) (some (Zz .i64 33,[])) (sel (decide (n>Zj .i64 (Kerb.tEnd i l+s))) (some (Zz .i64 32,[])) (some (Zz .i64 0,[]))))))):Option (AV×Blocks))) (by kernel_rfl) ?_
  unfold Kerb.stateErr
  cases h1:Zh i 4294967295
  ·rfl
  cases h2:Zh n 4294967295
  ·rfl
  cases h3:Zh l 255
  ·rfl
  cases h4:Zh s 4294967295
  ·rfl
  have b1:=Kerb.within_iff.1 h1
  have b2:=Kerb.within_iff.1 h2
  have b3:=Kerb.within_iff.1 h3
  have b4:=Kerb.within_iff.1 h4
  have he:Kerb.tEnd i l=i+300*(l+1):=by simp [Kerb.tEnd,h1,h3]
  simp only [Yw,sel_false,Yn,Bool.false_eq_true,if_false,he]
  rw [wrap_i64 (by omega) (by omega),wrap_i64 (by omega) (by omega)]
  by_cases h5:n+s<i
  ·rw [sel_pos (by simpa using h5),if_pos h5]
  rw [sel_neg (by simpa using h5),if_neg h5]
  by_cases h6:i+300*(l+1)+s<n
  ·rw [sel_pos (by simpa using h6),if_pos h6]
  rw [sel_neg (by simpa using h6),if_neg h6]
 ·cases h
theorem w235:Walked Tryz.prog G 235 3 sp235:=by
 refine ⟨Tryz.f235,Tryz.func235,by decide +kernel,rfl,fun xs bl r h=> ?_⟩
 unfold sp235 at h
 split at h
 ·rename_i b n k little
  obtain ⟨hpre,h2⟩:=chk_inv h;cases h2
  refine Eq.trans (b:=(Zq (loopM (fun (st:List AV)=>cBs st fun b r=>cInt .i64 r fun n r=>cInt .i64 r fun n_1 r=>cBool r fun b_1 r=>cBs r fun c r=>cInt .i64 r fun n_2 r=>cInt .i64 r fun n_3 r=>let t0:Int:=Zj .i64 (Zj .i64 (n_1-1)-n_3);let t1:UInt8:=UInt8.ofNat (Yy (Zj .u8 (Int.fdiv n (2 ^ min (Yy (Zj .i64 (8*n_3))) (Xz .i64)))));onNil r (sel (decide (n_3<n_2)) (sel (!b_1) (chk (decide (0≤Zj .i64 (8*n_3))) (chk (decide (0≤t0)&&decide (t0<(↑(Zv c):Int))&&Nat.beq (Zv c) 4&&true) (chk (Nat.blt (Yy t0) (Zv c)&&true&&true&&true&&true) (some (Sum.inl [Zm b,Zz .i64 n,Zz .i64 n_1,Zn b_1,Zm (List.set c (Yy t0) t1),Zz .i64 n_2,Zz .i64 (Zj .i64 (n_3+1))]))))) (chk (decide (0≤Zj .i64 (8*n_3))) (chk (decide (0≤n_3)&&decide (n_3<(↑(Zv c):Int))&&Nat.beq (Zv c) 4&&true) (chk (Nat.blt (Yy n_3) (Zv c)&&true&&true&&true&&true) (some (Sum.inl [Zm b,Zz .i64 n,Zz .i64 n_1,Zn b_1,Zm (List.set c (Yy n_3) t1),Zz .i64 n_2,Zz .i64 (Zj .i64 (n_3+1))])))))) (some (Sum.inr (Wg 0,[Zm b,Zz .i64 n,Zz .i64 n_1,Zn b_1,Zm c,Zz .i64 n_2,Zz .i64 n_3]))))) [Zm b,Zz .i64 n,Zz .i64 k,Zn little,Zm [(0:UInt8),(0:UInt8),(0:UInt8),(0:UInt8)],Zz .i64 k,Zz .i64 0]) fun (r:Ex×List AV)=>cBs (Yx r) fun b r_1=>cInt .i64 r_1 fun n r_2=>cInt .i64 r_2 fun n r_3=>cBool r_3 fun b_1 r_4=>cBs r_4 fun c r_5=>let t2:Nat:=Zv [Zm b,Zm (Wm (Yy (↑(0:Nat):Int)) (Wn (Yy n) c))];let t3:Nat:=Zv (List.append b (List.append (Wm (Yy (↑(0:Nat):Int)) (Wn (Yy n) c)) []));cInt .i64 r_5 fun n_1 r_6=>cInt .i64 r_6 fun n_2 r_7=>onNil r_7 (exK r.1 none fun (j:Nat)=>sel (Nat.beq j 0) (chk (decide ((↑(0:Nat):Int)≤n)&&decide (n≤(↑(Zv c):Int))&&Nat.beq (Zv c) 4) (Zq (chk (decide (t3≤140737488355328)&&decide (t2≤1000)) (some (Yb (List.append b (List.append (Wm (Yy (↑(0:Nat):Int)) (Wn (Yy n) c)) [])),[]))) (kO fun l=>some (Yb l,[])))) none):Option (AV×Blocks))) (by kernel_rfl) ?_
  delta kO
  try dsimp only [cStr,cBs,cBool,cU8,cInt,cSl,l63]
  simp only [Xu,decide_eq_true_eq] at hpre
  obtain ⟨hk,hb⟩:=hpre
  rcases hk with rfl | rfl | rfl<;>cases little
  ·refine loop_unroll 2 (Wg 0,[Zm b,Zz Zw n,Zz Zw 1,Zn false,Zm [Xg n 0,(0:UInt8),(0:UInt8),(0:UInt8)],Zz Zw 1,Zz Zw 1]) (by kernel_rfl) ?_
   simp only [A0]
   rw [sel_pos (Wp _),chk_of (by simp),chk_of (by simp;omega)]
   simp [Vj,Yk,Vq,Wx]
  ·refine loop_unroll 2 (Wg 0,[Zm b,Zz Zw n,Zz Zw 1,Zn true,Zm [Xg n 0,(0:UInt8),(0:UInt8),(0:UInt8)],Zz Zw 1,Zz Zw 1]) (by kernel_rfl) ?_
   simp only [A0]
   rw [sel_pos (Wp _),chk_of (by simp),chk_of (by simp;omega)]
   simp [Vj,Yk,Vq,Wx]
  ·refine loop_unroll 3 (Wg 0,[Zm b,Zz Zw n,Zz Zw 2,Zn false,Zm [Xg n 8,Xg n 0,(0:UInt8),(0:UInt8)],Zz Zw 2,Zz Zw 2]) (by kernel_rfl) ?_
   simp only [A0]
   rw [sel_pos (Wp _),chk_of (by simp),chk_of (by simp;omega)]
   simp [Vj,Yk,Vq,Wx]
  ·refine loop_unroll 3 (Wg 0,[Zm b,Zz Zw n,Zz Zw 2,Zn true,Zm [Xg n 0,Xg n 8,(0:UInt8),(0:UInt8)],Zz Zw 2,Zz Zw 2]) (by kernel_rfl) ?_
   simp only [A0]
   rw [sel_pos (Wp _),chk_of (by simp),chk_of (by simp;omega)]
   simp [Vj,Yk,Vq,Wx]
  ·refine loop_unroll 5 (Wg 0,[Zm b,Zz Zw n,Zz Zw 4,Zn false,Zm [Xg n 24,Xg n 16,Xg n 8,Xg n 0],Zz Zw 4,Zz Zw 4]) (by kernel_rfl) ?_
   simp only [A0]
   rw [sel_pos (Wp _),chk_of (by simp),chk_of (by simp;omega)]
   simp [Vj,Yk,Vq,Wx]
  ·refine loop_unroll 5 (Wg 0,[Zm b,Zz Zw n,Zz Zw 4,Zn true,Zm [Xg n 0,Xg n 8,Xg n 16,Xg n 24],Zz Zw 4,Zz Zw 4]) (by kernel_rfl) ?_
   simp only [A0]
   rw [sel_pos (Wp _),chk_of (by simp),chk_of (by simp;omega)]
   simp [Vj,Yk,Vq,Wx]
 ·cases h
theorem w244:Walked Tryz.prog G 244 3 sp244:=by
 refine ⟨Tryz.f244,Tryz.func244,by decide +kernel,rfl,fun xs bl r h=> ?_⟩
 unfold sp244 at h
 split at h
 ·rename_i b pos little
  obtain ⟨hpre,h2⟩:=chk_inv h;cases h2
  refine Eq.trans (b:=(Zq (chk (decide (Zv b≤4611686018427387904)&&true&&true) (some (Yv [Zz .i64 (Xd (Yd b pos 4 little)),Zz .i64 (Xq (Yd b pos 4 little)),Zz .i64 (Yh (Yd b pos 4 little))],[]))) fun (r:AV×Blocks)=>onNilB (Yx r) (Wy (Yu r) fun vs=>onCons vs fun x r=>Yj .i64 x fun n=>onCons r fun x r=>Yj .i64 x fun n_1=>onCons r fun x r=>Yj .i64 x fun n_2=>onNil r (some (Yv [Zz .i64 n,Zz .i64 n_1,Zz .i64 n_2],[]))):Option (AV×Blocks))) (by kernel_rfl) ?_
  simp only [A0]
  rw [chk_of (by rw [hpre];rfl)]
 ·cases h
theorem w246:Walked Tryz.prog G 246 3 sp246:=by
 refine ⟨Tryz.f246,Tryz.func246,by decide +kernel,rfl,fun xs bl r h=> ?_⟩
 unfold sp246 at h
 split at h
 ·rename_i s c
  cases h
  refine Eq.trans (b:=(some (Zz .i64 (Kerb.indexOf c s),[]):Option (AV×Blocks))) (by kernel_rfl) ?_
  rfl
 ·cases h
theorem w256:Walked Tryz.prog G 256 3 sp256:=by
 refine ⟨Tryz.f256,Tryz.func256,by decide +kernel,rfl,fun xs bl r h=> ?_⟩
 unfold sp256 at h
 split at h
 ·rename_i a b
  cases h
  refine Eq.trans (b:=(some (Zz .i64 (Kerb.cmpB a b),[]):Option (AV×Blocks))) (by kernel_rfl) ?_
  rfl
 ·cases h
theorem w10:Walked Tryz.prog G 10 4 sp10:=by
 refine ⟨Tryz.f10,Tryz.func10,by decide +kernel,rfl,fun xs bl r h=> ?_⟩
 unfold sp10 at h
 split at h
 ·rename_i lf xp bd
  cases h
  refine Eq.trans (b:=(Zq (loopM (fun (st:List AV)=>cU8 st fun b r=>cU8 r fun b_1 r=>cU8 r fun b_2 r=>cStr r fun b_3 r=>cSl 9 r fun b_4 r=>cStr r fun b_5 r=>onCons r fun x r=>AV.onOwnL x fun y=>cSl 3 r fun b_6 r=>cInt .i64 r fun n r=>onNil r (sel (decide (n<(↑(Zv b_6):Int))) (chk (decide (0≤n)&&decide (n<(↑(Zv b_6):Int))&&true) (AV.onAgg (Xy b_6 (Yy n) Vv) fun cs=>cStr cs fun b_7 r=>cStr r fun b_8 r=>cStr r fun b_9 r=>onNil r (chk (decide (0≤n)&&decide (n<(↑(Zv b_6):Int))&&true) (AV.onAgg (Xy b_6 (Yy n) Vv) fun cs=>cStr cs fun b_10 r=>cStr r fun b_11 r=>cStr r fun b_12 r=>onNil r (Zq (chk (decide (0≤n)&&decide (n≤1000)) (some (Zz .u64 (Yf n),[]))) (kI .u64 fun n_1=>Zq (sel (Int.tmod (Zj .i64 (↑(Ym b_2):Int)) 16==n) (some [Xb b,Xb b_1,Xb b_2,Zy b_3,Wd 9 b_4,Zy b_5,AV.ownL y,Wd 3 b_6,Zz .i64 n,Zy b_7,Zy b_11,Zz .u64 n_1,Zz .i64 (Zj .i64 (3+n)),Zz .i64 0,Zz .i64 (Zj .i64 (↑(Ym b):Int)),Zz .i64 (Zj .i64 (1+Int.tmod (Zj .i64 (Int.tdiv (Zj .i64 (↑(Ym b_2):Int)) 16)) 3)),Zz .i64 0,Zz .i64 0]) (some [Xb b,Xb b_1,Xb b_2,Zy b_3,Wd 9 b_4,Zy b_5,AV.ownL y,Wd 3 b_6,Zz .i64 n,Zy b_7,Zy b_11,Zz .u64 n_1,Zz .i64 (Zj .i64 (3+n)),Zz .i64 0,Zz .i64 (Zj .i64 (↑(Ym b):Int)),Zz .i64 0,Zz .i64 0,Zz .i64 0])) fun l=>cU8 l fun b r=>cU8 r fun b_13 r=>cU8 r fun b_14 r=>cStr r fun b_15 r=>cSl 9 r fun b_16 r=>cStr r fun b_17 r=>onCons r fun x r=>AV.onOwnL x fun y=>cSl 3 r fun b_18 r=>cInt .i64 r fun n r=>cStr r fun b_19 r=>cStr r fun b_20 r=>cInt .u64 r fun n_2 r=>cInt .i64 r fun n_3 r=>cInt .i64 r fun n_4 r=>cInt .i64 r fun n_5 r=>cInt .i64 r fun n_6 r=>cInt .i64 r fun n_7 r=>cInt .i64 r fun n_8 r=>let t0:List AV:=[Zz .i64 n_5,Zz .i64 n_6,Zz .i64 n_7,Zz .i64 n_8];onNil r (Zq (sel (Int.tmod (Zj .i64 (↑(Ym b_14):Int)) 16==Zj .i64 (8+n)) (some (Xb b::Xb b_13::Xb b_14::Zy b_15::Wd 9 b_16::Zy b_17::AV.ownL y::Wd 3 b_18::Zz .i64 n::Zy b_19::Zy b_20::Zz .u64 n_2::Zz .i64 n_3::Zz .i64 (Zj .i64 (1000+Zj .i64 (Zj .i64 (↑(Ym b_13):Int)*100)))::t0)) (some (Xb b::Xb b_13::Xb b_14::Zy b_15::Wd 9 b_16::Zy b_17::AV.ownL y::Wd 3 b_18::Zz .i64 n::Zy b_19::Zy b_20::Zz .u64 n_2::Zz .i64 n_3::Zz .i64 n_4::t0))) fun l=>cU8 l fun b r=>cU8 r fun b_21 r=>cU8 r fun b_22 r=>cStr r fun b_23 r=>cSl 9 r fun b_24 r=>cStr r fun b_25 r=>onCons r fun x r=>AV.onOwnL x fun y=>cSl 3 r fun b_26 r=>cInt .i64 r fun n r=>cStr r fun b_27 r=>cStr r fun b_28 r=>cInt .u64 r fun n_9 r=>cInt .i64 r fun n_10 r=>cInt .i64 r fun n_11 r=>cInt .i64 r fun n_12 r=>cInt .i64 r fun n_13 r=>cInt .i64 r fun n_14 r=>cInt .i64 r fun n_15 r=>let t1:List AV:=[Zf [Zy b_27,Zy b_28,Zz .u64 n_9,Zz .i64 n_10,Zz .i64 n_11,Zz .i64 n_12,Zz .i64 n_13,Zz .i64 n_14,Zz .i64 n_15]];onNil r (chk (room (Zv y+Zv t1) (nat_lit 88)) (some (Sum.inl [Xb b,Xb b_21,Xb b_22,Zy b_23,Wd 9 b_24,Zy b_25,AV.ownL (y++t1),Wd 3 b_26,Zz .i64 (Zj .i64 (n+1))])))))))))) (some (Sum.inr (Wg 0,[Xb b,Xb b_1,Xb b_2,Zy b_3,Wd 9 b_4,Zy b_5,AV.ownL y,Wd 3 b_6,Zz .i64 n]))))) [Xb lf,Xb xp,Xb bd,Zy [],Wd 9 [],Zy [(65:UInt8),(84:UInt8),(72:UInt8)],AV.ownL [],Wd 3 [Zf [Zy (Ww (Zu 0)),Zy (Wv (Zu 0)),Zy (Wz (Zu 0))],Zf [Zy (Ww (Zu 1)),Zy (Wv (Zu 1)),Zy (Wz (Zu 1))],Zf [Zy (Ww (Zu 2)),Zy (Wv (Zu 2)),Zy (Wz (Zu 2))],Zf [Zy (Ww (Zx 2)),Zy (Wv (Zx 2)),Zy (Wz (Zx 2))],Zf [Zy (Ww (Zx 0)),Zy (Wv (Zx 0)),Zy (Wz (Zx 0))],Zf [Zy (Ww (Zx 1)),Zy (Wv (Zx 1)),Zy (Wz (Zx 1))]],Zz .i64 0]) fun (r:Ex×List AV)=>cU8 (Yx r) fun b r_1=>cU8 r_1 fun b r_2=>cU8 r_2 fun b r_3=>cStr r_3 fun b r_4=>cSl 9 r_4 fun b_1 r_5=>cStr r_5 fun b_2 r_6=>onCons r_6 fun x r_7=>AV.onOwnL x fun y=>cSl 3 r_7 fun b_3 r_8=>cInt .i64 r_8 fun n r_9=>onNil r_9 (exK r.1 (some (Zf [Zy b,Wd 9 b_1],[])) fun (j:Nat)=>sel (Nat.beq j 0) (some (Zf [Zy b_2,Wd 9 y],[])) none):Option (AV×Blocks))) (by kernel_rfl) ?_
  delta kI
  try dsimp only [cStr,cBs,cBool,cU8,cInt,cSl,l63]
  have b0:=Kerb.u8i_bd lf
  have b1:=Kerb.u8i_bd xp
  have b2:=Kerb.u8i_bd bd
  have e0:=Kerb.wrap_u8i
  have e1:Int.tmod (Yz bd) 16=Yz bd % 16:=Int.tmod_eq_emod_of_nonneg b2.1
  have e2:Zj .i64 (1000+Zj .i64 (Yz xp*100))=1000+Yz xp*100:=by rw [wrap_i64 (n:=Yz xp*100) (by omega) (by omega),wrap_i64 (by omega) (by omega)]
  have e3:Zj .i64 (1+Int.tmod (Zj .i64 (Int.tdiv (Yz bd) 16)) 3)=1+Yz bd / 16 % 3:=by
   rw [Int.tdiv_eq_ediv_of_nonneg b2.1,wrap_i64 (n:=Yz bd / 16) (by omega) (by omega),Int.tmod_eq_emod_of_nonneg (by omega),wrap_i64 (by omega) (by omega)]
  refine loop_rounds (fun i:Nat=>[Xb lf,Xb xp,Xb bd,Zy [],Wd 9 [],Zy [65,84,72],AV.ownL (((Kerb.simpleDb lf xp bd).entries.take i).map Zd),Wd 3 [Zf [Zy (Zu 0).name,Zy (Zu 0).inst,Zy (Zu 0).realm],Zf [Zy (Zu 1).name,Zy (Zu 1).inst,Zy (Zu 1).realm],Zf [Zy (Zu 2).name,Zy (Zu 2).inst,Zy (Zu 2).realm],Zf [Zy (Zx 2).name,Zy (Zx 2).inst,Zy (Zx 2).realm],Zf [Zy (Zx 0).name,Zy (Zx 0).inst,Zy (Zx 0).realm],Zf [Zy (Zx 1).name,Zy (Zx 1).inst,Zy (Zx 1).realm]],Zz Zw (i:Int)]) (fun i=>i≤6) (fun i=>6-i)
   (fun r=>r=(Wg 0,[Xb lf,Xb xp,Xb bd,Zy [],Wd 9 [],Zy [65,84,72],AV.ownL ((Kerb.simpleDb lf xp bd).entries.map Zd),Wd 3 [Zf [Zy (Zu 0).name,Zy (Zu 0).inst,Zy (Zu 0).realm],Zf [Zy (Zu 1).name,Zy (Zu 1).inst,Zy (Zu 1).realm],Zf [Zy (Zu 2).name,Zy (Zu 2).inst,Zy (Zu 2).realm],Zf [Zy (Zx 2).name,Zy (Zx 2).inst,Zy (Zx 2).realm],Zf [Zy (Zx 0).name,Zy (Zx 0).inst,Zy (Zx 0).realm],Zf [Zy (Zx 1).name,Zy (Zx 1).inst,Zy (Zx 1).realm]],Zz Zw 6])) 0 (by decide) rfl ?_ ?_
  ·intro i hi
   have hc:i=0∨i=1∨i=2∨i=3∨i=4∨i=5∨i=6:=by omega
   rcases hc with rfl | rfl | rfl | rfl | rfl | rfl | rfl
   ·have g:Xy [Zf [Zy (Zu 0).name,Zy (Zu 0).inst,Zy (Zu 0).realm],Zf [Zy (Zu 1).name,Zy (Zu 1).inst,Zy (Zu 1).realm],Zf [Zy (Zu 2).name,Zy (Zu 2).inst,Zy (Zu 2).realm],Zf [Zy (Zx 2).name,Zy (Zx 2).inst,Zy (Zx 2).realm],Zf [Zy (Zx 0).name,Zy (Zx 0).inst,Zy (Zx 0).realm],Zf [Zy (Zx 1).name,Zy (Zx 1).inst,Zy (Zx 1).realm]] (Yy ((0:Nat):Int)) Vv=Zf [Zy (Zu 0).name,Zy (Zu 0).inst,Zy (Zu 0).realm]:=rfl
    have k0:decide (((0:Nat):Int)<((Zv [Zf [Zy (Zu 0).name,Zy (Zu 0).inst,Zy (Zu 0).realm],Zf [Zy (Zu 1).name,Zy (Zu 1).inst,Zy (Zu 1).realm],Zf [Zy (Zu 2).name,Zy (Zu 2).inst,Zy (Zu 2).realm],Zf [Zy (Zx 2).name,Zy (Zx 2).inst,Zy (Zx 2).realm],Zf [Zy (Zx 0).name,Zy (Zx 0).inst,Zy (Zx 0).realm],Zf [Zy (Zx 1).name,Zy (Zx 1).inst,Zy (Zx 1).realm]]:Nat):Int))=true:=rfl
    have k1:decide ((0:Int)≤((0:Nat):Int))=true:=rfl
    have k2:decide (((0:Nat):Int)≤1000)=true:=rfl
    have k3:Zj .i64 (3+((0:Nat):Int))=3+((0:Nat):Int):=rfl
    have k4:Zj .i64 (8+((0:Nat):Int))=8+((0:Nat):Int):=rfl
    simp only [g,k0,k1,k2,k3,k4,e0,e1,e2,e3,Yn,↓A0,A0]
    by_cases h1:Yz bd % 16=((0:Nat):Int)
    all_goals by_cases h2:Yz bd % 16=8+((0:Nat):Int)
    ·have hE:Zd (Zp ((0:Nat):Int) (Zu 0) lf xp bd)=Zf [Zy (Zu 0).name,Zy (Zu 0).inst,Zz Yq (Yf ((0:Nat):Int)),Zz Zw (3+((0:Nat):Int)),Zz Zw (1000+Yz xp*100),Zz Zw (Yz lf),Zz Zw (1+Yz bd / 16 % 3),Zz Zw 0,Zz Zw 0]:=by
      unfold Zd Zp
      dsimp only
      rw [if_pos h2,if_pos h1]
     rw [sel_pos (by simpa using h1),sel_pos (by simpa using h2),chk_of (by rfl),← hE]
     exact ⟨_,rfl,1,rfl,by decide,by decide⟩
    ·have hE:Zd (Zp ((0:Nat):Int) (Zu 0) lf xp bd)=Zf [Zy (Zu 0).name,Zy (Zu 0).inst,Zz Yq (Yf ((0:Nat):Int)),Zz Zw (3+((0:Nat):Int)),Zz Zw (0),Zz Zw (Yz lf),Zz Zw (1+Yz bd / 16 % 3),Zz Zw 0,Zz Zw 0]:=by
      unfold Zd Zp
      dsimp only
      rw [if_neg h2,if_pos h1]
     rw [sel_pos (by simpa using h1),sel_neg (by simpa using h2),chk_of (by rfl),← hE]
     exact ⟨_,rfl,1,rfl,by decide,by decide⟩
    ·have hE:Zd (Zp ((0:Nat):Int) (Zu 0) lf xp bd)=Zf [Zy (Zu 0).name,Zy (Zu 0).inst,Zz Yq (Yf ((0:Nat):Int)),Zz Zw (3+((0:Nat):Int)),Zz Zw (1000+Yz xp*100),Zz Zw (Yz lf),Zz Zw (0),Zz Zw 0,Zz Zw 0]:=by
      unfold Zd Zp
      dsimp only
      rw [if_pos h2,if_neg h1]
     rw [sel_neg (by simpa using h1),sel_pos (by simpa using h2),chk_of (by rfl),← hE]
     exact ⟨_,rfl,1,rfl,by decide,by decide⟩
    ·have hE:Zd (Zp ((0:Nat):Int) (Zu 0) lf xp bd)=Zf [Zy (Zu 0).name,Zy (Zu 0).inst,Zz Yq (Yf ((0:Nat):Int)),Zz Zw (3+((0:Nat):Int)),Zz Zw (0),Zz Zw (Yz lf),Zz Zw (0),Zz Zw 0,Zz Zw 0]:=by
      unfold Zd Zp
      dsimp only
      rw [if_neg h2,if_neg h1]
     rw [sel_neg (by simpa using h1),sel_neg (by simpa using h2),chk_of (by rfl),← hE]
     exact ⟨_,rfl,1,rfl,by decide,by decide⟩
   ·have g:Xy [Zf [Zy (Zu 0).name,Zy (Zu 0).inst,Zy (Zu 0).realm],Zf [Zy (Zu 1).name,Zy (Zu 1).inst,Zy (Zu 1).realm],Zf [Zy (Zu 2).name,Zy (Zu 2).inst,Zy (Zu 2).realm],Zf [Zy (Zx 2).name,Zy (Zx 2).inst,Zy (Zx 2).realm],Zf [Zy (Zx 0).name,Zy (Zx 0).inst,Zy (Zx 0).realm],Zf [Zy (Zx 1).name,Zy (Zx 1).inst,Zy (Zx 1).realm]] (Yy ((1:Nat):Int)) Vv=Zf [Zy (Zu 1).name,Zy (Zu 1).inst,Zy (Zu 1).realm]:=rfl
    have k0:decide (((1:Nat):Int)<((Zv [Zf [Zy (Zu 0).name,Zy (Zu 0).inst,Zy (Zu 0).realm],Zf [Zy (Zu 1).name,Zy (Zu 1).inst,Zy (Zu 1).realm],Zf [Zy (Zu 2).name,Zy (Zu 2).inst,Zy (Zu 2).realm],Zf [Zy (Zx 2).name,Zy (Zx 2).inst,Zy (Zx 2).realm],Zf [Zy (Zx 0).name,Zy (Zx 0).inst,Zy (Zx 0).realm],Zf [Zy (Zx 1).name,Zy (Zx 1).inst,Zy (Zx 1).realm]]:Nat):Int))=true:=rfl
    have k1:decide ((0:Int)≤((1:Nat):Int))=true:=rfl
    have k2:decide (((1:Nat):Int)≤1000)=true:=rfl
    have k3:Zj .i64 (3+((1:Nat):Int))=3+((1:Nat):Int):=rfl
    have k4:Zj .i64 (8+((1:Nat):Int))=8+((1:Nat):Int):=rfl
    simp only [g,k0,k1,k2,k3,k4,e0,e1,e2,e3,Yn,↓A0,A0]
    by_cases h1:Yz bd % 16=((1:Nat):Int)
    all_goals by_cases h2:Yz bd % 16=8+((1:Nat):Int)
    ·have hE:Zd (Zp ((1:Nat):Int) (Zu 1) lf xp bd)=Zf [Zy (Zu 1).name,Zy (Zu 1).inst,Zz Yq (Yf ((1:Nat):Int)),Zz Zw (3+((1:Nat):Int)),Zz Zw (1000+Yz xp*100),Zz Zw (Yz lf),Zz Zw (1+Yz bd / 16 % 3),Zz Zw 0,Zz Zw 0]:=by
      unfold Zd Zp
      dsimp only
      rw [if_pos h2,if_pos h1]
     rw [sel_pos (by simpa using h1),sel_pos (by simpa using h2),chk_of (by rfl),← hE]
     exact ⟨_,rfl,2,rfl,by decide,by decide⟩
    ·have hE:Zd (Zp ((1:Nat):Int) (Zu 1) lf xp bd)=Zf [Zy (Zu 1).name,Zy (Zu 1).inst,Zz Yq (Yf ((1:Nat):Int)),Zz Zw (3+((1:Nat):Int)),Zz Zw (0),Zz Zw (Yz lf),Zz Zw (1+Yz bd / 16 % 3),Zz Zw 0,Zz Zw 0]:=by
      unfold Zd Zp
      dsimp only
      rw [if_neg h2,if_pos h1]
     rw [sel_pos (by simpa using h1),sel_neg (by simpa using h2),chk_of (by rfl),← hE]
     exact ⟨_,rfl,2,rfl,by decide,by decide⟩
    ·have hE:Zd (Zp ((1:Nat):Int) (Zu 1) lf xp bd)=Zf [Zy (Zu 1).name,Zy (Zu 1).inst,Zz Yq (Yf ((1:Nat):Int)),Zz Zw (3+((1:Nat):Int)),Zz Zw (1000+Yz xp*100),Zz Zw (Yz lf),Zz Zw (0),Zz Zw 0,Zz Zw 0]:=by
      unfold Zd Zp
      dsimp only
      rw [if_pos h2,if_neg h1]
     rw [sel_neg (by simpa using h1),sel_pos (by simpa using h2),chk_of (by rfl),← hE]
     exact ⟨_,rfl,2,rfl,by decide,by decide⟩
    ·have hE:Zd (Zp ((1:Nat):Int) (Zu 1) lf xp bd)=Zf [Zy (Zu 1).name,Zy (Zu 1).inst,Zz Yq (Yf ((1:Nat):Int)),Zz Zw (3+((1:Nat):Int)),Zz Zw (0),Zz Zw (Yz lf),Zz Zw (0),Zz Zw 0,Zz Zw 0]:=by
      unfold Zd Zp
      dsimp only
      rw [if_neg h2,if_neg h1]
     rw [sel_neg (by simpa using h1),sel_neg (by simpa using h2),chk_of (by rfl),← hE]
     exact ⟨_,rfl,2,rfl,by decide,by decide⟩
   ·have g:Xy [Zf [Zy (Zu 0).name,Zy (Zu 0).inst,Zy (Zu 0).realm],Zf [Zy (Zu 1).name,Zy (Zu 1).inst,Zy (Zu 1).realm],Zf [Zy (Zu 2).name,Zy (Zu 2).inst,Zy (Zu 2).realm],Zf [Zy (Zx 2).name,Zy (Zx 2).inst,Zy (Zx 2).realm],Zf [Zy (Zx 0).name,Zy (Zx 0).inst,Zy (Zx 0).realm],Zf [Zy (Zx 1).name,Zy (Zx 1).inst,Zy (Zx 1).realm]] (Yy ((2:Nat):Int)) Vv=Zf [Zy (Zu 2).name,Zy (Zu 2).inst,Zy (Zu 2).realm]:=rfl
    have k0:decide (((2:Nat):Int)<((Zv [Zf [Zy (Zu 0).name,Zy (Zu 0).inst,Zy (Zu 0).realm],Zf [Zy (Zu 1).name,Zy (Zu 1).inst,Zy (Zu 1).realm],Zf [Zy (Zu 2).name,Zy (Zu 2).inst,Zy (Zu 2).realm],Zf [Zy (Zx 2).name,Zy (Zx 2).inst,Zy (Zx 2).realm],Zf [Zy (Zx 0).name,Zy (Zx 0).inst,Zy (Zx 0).realm],Zf [Zy (Zx 1).name,Zy (Zx 1).inst,Zy (Zx 1).realm]]:Nat):Int))=true:=rfl
    have k1:decide ((0:Int)≤((2:Nat):Int))=true:=rfl
    have k2:decide (((2:Nat):Int)≤1000)=true:=rfl
    have k3:Zj .i64 (3+((2:Nat):Int))=3+((2:Nat):Int):=rfl
    have k4:Zj .i64 (8+((2:Nat):Int))=8+((2:Nat):Int):=rfl
    simp only [g,k0,k1,k2,k3,k4,e0,e1,e2,e3,Yn,↓A0,A0]
    by_cases h1:Yz bd % 16=((2:Nat):Int)
    all_goals by_cases h2:Yz bd % 16=8+((2:Nat):Int)
    ·have hE:Zd (Zp ((2:Nat):Int) (Zu 2) lf xp bd)=Zf [Zy (Zu 2).name,Zy (Zu 2).inst,Zz Yq (Yf ((2:Nat):Int)),Zz Zw (3+((2:Nat):Int)),Zz Zw (1000+Yz xp*100),Zz Zw (Yz lf),Zz Zw (1+Yz bd / 16 % 3),Zz Zw 0,Zz Zw 0]:=by
      unfold Zd Zp
      dsimp only
      rw [if_pos h2,if_pos h1]
     rw [sel_pos (by simpa using h1),sel_pos (by simpa using h2),chk_of (by rfl),← hE]
     exact ⟨_,rfl,3,rfl,by decide,by decide⟩
    ·have hE:Zd (Zp ((2:Nat):Int) (Zu 2) lf xp bd)=Zf [Zy (Zu 2).name,Zy (Zu 2).inst,Zz Yq (Yf ((2:Nat):Int)),Zz Zw (3+((2:Nat):Int)),Zz Zw (0),Zz Zw (Yz lf),Zz Zw (1+Yz bd / 16 % 3),Zz Zw 0,Zz Zw 0]:=by
      unfold Zd Zp
      dsimp only
      rw [if_neg h2,if_pos h1]
     rw [sel_pos (by simpa using h1),sel_neg (by simpa using h2),chk_of (by rfl),← hE]
     exact ⟨_,rfl,3,rfl,by decide,by decide⟩
    ·have hE:Zd (Zp ((2:Nat):Int) (Zu 2) lf xp bd)=Zf [Zy (Zu 2).name,Zy (Zu 2).inst,Zz Yq (Yf ((2:Nat):Int)),Zz Zw (3+((2:Nat):Int)),Zz Zw (1000+Yz xp*100),Zz Zw (Yz lf),Zz Zw (0),Zz Zw 0,Zz Zw 0]:=by
      unfold Zd Zp
      dsimp only
      rw [if_pos h2,if_neg h1]
     rw [sel_neg (by simpa using h1),sel_pos (by simpa using h2),chk_of (by rfl),← hE]
     exact ⟨_,rfl,3,rfl,by decide,by decide⟩
    ·have hE:Zd (Zp ((2:Nat):Int) (Zu 2) lf xp bd)=Zf [Zy (Zu 2).name,Zy (Zu 2).inst,Zz Yq (Yf ((2:Nat):Int)),Zz Zw (3+((2:Nat):Int)),Zz Zw (0),Zz Zw (Yz lf),Zz Zw (0),Zz Zw 0,Zz Zw 0]:=by
      unfold Zd Zp
      dsimp only
      rw [if_neg h2,if_neg h1]
     rw [sel_neg (by simpa using h1),sel_neg (by simpa using h2),chk_of (by rfl),← hE]
     exact ⟨_,rfl,3,rfl,by decide,by decide⟩
   ·have g:Xy [Zf [Zy (Zu 0).name,Zy (Zu 0).inst,Zy (Zu 0).realm],Zf [Zy (Zu 1).name,Zy (Zu 1).inst,Zy (Zu 1).realm],Zf [Zy (Zu 2).name,Zy (Zu 2).inst,Zy (Zu 2).realm],Zf [Zy (Zx 2).name,Zy (Zx 2).inst,Zy (Zx 2).realm],Zf [Zy (Zx 0).name,Zy (Zx 0).inst,Zy (Zx 0).realm],Zf [Zy (Zx 1).name,Zy (Zx 1).inst,Zy (Zx 1).realm]] (Yy ((3:Nat):Int)) Vv=Zf [Zy (Zx 2).name,Zy (Zx 2).inst,Zy (Zx 2).realm]:=rfl
    have k0:decide (((3:Nat):Int)<((Zv [Zf [Zy (Zu 0).name,Zy (Zu 0).inst,Zy (Zu 0).realm],Zf [Zy (Zu 1).name,Zy (Zu 1).inst,Zy (Zu 1).realm],Zf [Zy (Zu 2).name,Zy (Zu 2).inst,Zy (Zu 2).realm],Zf [Zy (Zx 2).name,Zy (Zx 2).inst,Zy (Zx 2).realm],Zf [Zy (Zx 0).name,Zy (Zx 0).inst,Zy (Zx 0).realm],Zf [Zy (Zx 1).name,Zy (Zx 1).inst,Zy (Zx 1).realm]]:Nat):Int))=true:=rfl
    have k1:decide ((0:Int)≤((3:Nat):Int))=true:=rfl
    have k2:decide (((3:Nat):Int)≤1000)=true:=rfl
    have k3:Zj .i64 (3+((3:Nat):Int))=3+((3:Nat):Int):=rfl
    have k4:Zj .i64 (8+((3:Nat):Int))=8+((3:Nat):Int):=rfl
    simp only [g,k0,k1,k2,k3,k4,e0,e1,e2,e3,Yn,↓A0,A0]
    by_cases h1:Yz bd % 16=((3:Nat):Int)
    all_goals by_cases h2:Yz bd % 16=8+((3:Nat):Int)
    ·have hE:Zd (Zp ((3:Nat):Int) (Zx 2) lf xp bd)=Zf [Zy (Zx 2).name,Zy (Zx 2).inst,Zz Yq (Yf ((3:Nat):Int)),Zz Zw (3+((3:Nat):Int)),Zz Zw (1000+Yz xp*100),Zz Zw (Yz lf),Zz Zw (1+Yz bd / 16 % 3),Zz Zw 0,Zz Zw 0]:=by
      unfold Zd Zp
      dsimp only
      rw [if_pos h2,if_pos h1]
     rw [sel_pos (by simpa using h1),sel_pos (by simpa using h2),chk_of (by rfl),← hE]
     exact ⟨_,rfl,4,rfl,by decide,by decide⟩
    ·have hE:Zd (Zp ((3:Nat):Int) (Zx 2) lf xp bd)=Zf [Zy (Zx 2).name,Zy (Zx 2).inst,Zz Yq (Yf ((3:Nat):Int)),Zz Zw (3+((3:Nat):Int)),Zz Zw (0),Zz Zw (Yz lf),Zz Zw (1+Yz bd / 16 % 3),Zz Zw 0,Zz Zw 0]:=by
      unfold Zd Zp
      dsimp only
      rw [if_neg h2,if_pos h1]
     rw [sel_pos (by simpa using h1),sel_neg (by simpa using h2),chk_of (by rfl),← hE]
     exact ⟨_,rfl,4,rfl,by decide,by decide⟩
    ·have hE:Zd (Zp ((3:Nat):Int) (Zx 2) lf xp bd)=Zf [Zy (Zx 2).name,Zy (Zx 2).inst,Zz Yq (Yf ((3:Nat):Int)),Zz Zw (3+((3:Nat):Int)),Zz Zw (1000+Yz xp*100),Zz Zw (Yz lf),Zz Zw (0),Zz Zw 0,Zz Zw 0]:=by
      unfold Zd Zp
      dsimp only
      rw [if_pos h2,if_neg h1]
     rw [sel_neg (by simpa using h1),sel_pos (by simpa using h2),chk_of (by rfl),← hE]
     exact ⟨_,rfl,4,rfl,by decide,by decide⟩
    ·have hE:Zd (Zp ((3:Nat):Int) (Zx 2) lf xp bd)=Zf [Zy (Zx 2).name,Zy (Zx 2).inst,Zz Yq (Yf ((3:Nat):Int)),Zz Zw (3+((3:Nat):Int)),Zz Zw (0),Zz Zw (Yz lf),Zz Zw (0),Zz Zw 0,Zz Zw 0]:=by
      unfold Zd Zp
      dsimp only
      rw [if_neg h2,if_neg h1]
     rw [sel_neg (by simpa using h1),sel_neg (by simpa using h2),chk_of (by rfl),← hE]
     exact ⟨_,rfl,4,rfl,by decide,by decide⟩
   ·have g:Xy [Zf [Zy (Zu 0).name,Zy (Zu 0).inst,Zy (Zu 0).realm],Zf [Zy (Zu 1).name,Zy (Zu 1).inst,Zy (Zu 1).realm],Zf [Zy (Zu 2).name,Zy (Zu 2).inst,Zy (Zu 2).realm],Zf [Zy (Zx 2).name,Zy (Zx 2).inst,Zy (Zx 2).realm],Zf [Zy (Zx 0).name,Zy (Zx 0).inst,Zy (Zx 0).realm],Zf [Zy (Zx 1).name,Zy (Zx 1).inst,Zy (Zx 1).realm]] (Yy ((4:Nat):Int)) Vv=Zf [Zy (Zx 0).name,Zy (Zx 0).inst,Zy (Zx 0).realm]:=rfl
    have k0:decide (((4:Nat):Int)<((Zv [Zf [Zy (Zu 0).name,Zy (Zu 0).inst,Zy (Zu 0).realm],Zf [Zy (Zu 1).name,Zy (Zu 1).inst,Zy (Zu 1).realm],Zf [Zy (Zu 2).name,Zy (Zu 2).inst,Zy (Zu 2).realm],Zf [Zy (Zx 2).name,Zy (Zx 2).inst,Zy (Zx 2).realm],Zf [Zy (Zx 0).name,Zy (Zx 0).inst,Zy (Zx 0).realm],Zf [Zy (Zx 1).name,Zy (Zx 1).inst,Zy (Zx 1).realm]]:Nat):Int))=true:=rfl
    have k1:decide ((0:Int)≤((4:Nat):Int))=true:=rfl
    have k2:decide (((4:Nat):Int)≤1000)=true:=rfl
    have k3:Zj .i64 (3+((4:Nat):Int))=3+((4:Nat):Int):=rfl
    have k4:Zj .i64 (8+((4:Nat):Int))=8+((4:Nat):Int):=rfl
    simp only [g,k0,k1,k2,k3,k4,e0,e1,e2,e3,Yn,↓A0,A0]
    by_cases h1:Yz bd % 16=((4:Nat):Int)
    all_goals by_cases h2:Yz bd % 16=8+((4:Nat):Int)
    ·have hE:Zd (Zp ((4:Nat):Int) (Zx 0) lf xp bd)=Zf [Zy (Zx 0).name,Zy (Zx 0).inst,Zz Yq (Yf ((4:Nat):Int)),Zz Zw (3+((4:Nat):Int)),Zz Zw (1000+Yz xp*100),Zz Zw (Yz lf),Zz Zw (1+Yz bd / 16 % 3),Zz Zw 0,Zz Zw 0]:=by
      unfold Zd Zp
      dsimp only
      rw [if_pos h2,if_pos h1]
     rw [sel_pos (by simpa using h1),sel_pos (by simpa using h2),chk_of (by rfl),← hE]
     exact ⟨_,rfl,5,rfl,by decide,by decide⟩
    ·have hE:Zd (Zp ((4:Nat):Int) (Zx 0) lf xp bd)=Zf [Zy (Zx 0).name,Zy (Zx 0).inst,Zz Yq (Yf ((4:Nat):Int)),Zz Zw (3+((4:Nat):Int)),Zz Zw (0),Zz Zw (Yz lf),Zz Zw (1+Yz bd / 16 % 3),Zz Zw 0,Zz Zw 0]:=by
      unfold Zd Zp
      dsimp only
      rw [if_neg h2,if_pos h1]
     rw [sel_pos (by simpa using h1),sel_neg (by simpa using h2),chk_of (by rfl),← hE]
     exact ⟨_,rfl,5,rfl,by decide,by decide⟩
    ·have hE:Zd (Zp ((4:Nat):Int) (Zx 0) lf xp bd)=Zf [Zy (Zx 0).name,Zy (Zx 0).inst,Zz Yq (Yf ((4:Nat):Int)),Zz Zw (3+((4:Nat):Int)),Zz Zw (1000+Yz xp*100),Zz Zw (Yz lf),Zz Zw (0),Zz Zw 0,Zz Zw 0]:=by
      unfold Zd Zp
      dsimp only
      rw [if_pos h2,if_neg h1]
     rw [sel_neg (by simpa using h1),sel_pos (by simpa using h2),chk_of (by rfl),← hE]
     exact ⟨_,rfl,5,rfl,by decide,by decide⟩
    ·have hE:Zd (Zp ((4:Nat):Int) (Zx 0) lf xp bd)=Zf [Zy (Zx 0).name,Zy (Zx 0).inst,Zz Yq (Yf ((4:Nat):Int)),Zz Zw (3+((4:Nat):Int)),Zz Zw (0),Zz Zw (Yz lf),Zz Zw (0),Zz Zw 0,Zz Zw 0]:=by
      unfold Zd Zp
      dsimp only
      rw [if_neg h2,if_neg h1]
     rw [sel_neg (by simpa using h1),sel_neg (by simpa using h2),chk_of (by rfl),← hE]
     exact ⟨_,rfl,5,rfl,by decide,by decide⟩
   ·have g:Xy [Zf [Zy (Zu 0).name,Zy (Zu 0).inst,Zy (Zu 0).realm],Zf [Zy (Zu 1).name,Zy (Zu 1).inst,Zy (Zu 1).realm],Zf [Zy (Zu 2).name,Zy (Zu 2).inst,Zy (Zu 2).realm],Zf [Zy (Zx 2).name,Zy (Zx 2).inst,Zy (Zx 2).realm],Zf [Zy (Zx 0).name,Zy (Zx 0).inst,Zy (Zx 0).realm],Zf [Zy (Zx 1).name,Zy (Zx 1).inst,Zy (Zx 1).realm]] (Yy ((5:Nat):Int)) Vv=Zf [Zy (Zx 1).name,Zy (Zx 1).inst,Zy (Zx 1).realm]:=rfl
    have k0:decide (((5:Nat):Int)<((Zv [Zf [Zy (Zu 0).name,Zy (Zu 0).inst,Zy (Zu 0).realm],Zf [Zy (Zu 1).name,Zy (Zu 1).inst,Zy (Zu 1).realm],Zf [Zy (Zu 2).name,Zy (Zu 2).inst,Zy (Zu 2).realm],Zf [Zy (Zx 2).name,Zy (Zx 2).inst,Zy (Zx 2).realm],Zf [Zy (Zx 0).name,Zy (Zx 0).inst,Zy (Zx 0).realm],Zf [Zy (Zx 1).name,Zy (Zx 1).inst,Zy (Zx 1).realm]]:Nat):Int))=true:=rfl
    have k1:decide ((0:Int)≤((5:Nat):Int))=true:=rfl
    have k2:decide (((5:Nat):Int)≤1000)=true:=rfl
    have k3:Zj .i64 (3+((5:Nat):Int))=3+((5:Nat):Int):=rfl
    have k4:Zj .i64 (8+((5:Nat):Int))=8+((5:Nat):Int):=rfl
    simp only [g,k0,k1,k2,k3,k4,e0,e1,e2,e3,Yn,↓A0,A0]
    by_cases h1:Yz bd % 16=((5:Nat):Int)
    all_goals by_cases h2:Yz bd % 16=8+((5:Nat):Int)
    ·have hE:Zd (Zp ((5:Nat):Int) (Zx 1) lf xp bd)=Zf [Zy (Zx 1).name,Zy (Zx 1).inst,Zz Yq (Yf ((5:Nat):Int)),Zz Zw (3+((5:Nat):Int)),Zz Zw (1000+Yz xp*100),Zz Zw (Yz lf),Zz Zw (1+Yz bd / 16 % 3),Zz Zw 0,Zz Zw 0]:=by
      unfold Zd Zp
      dsimp only
      rw [if_pos h2,if_pos h1]
     rw [sel_pos (by simpa using h1),sel_pos (by simpa using h2),chk_of (by rfl),← hE]
     exact ⟨_,rfl,6,rfl,by decide,by decide⟩
    ·have hE:Zd (Zp ((5:Nat):Int) (Zx 1) lf xp bd)=Zf [Zy (Zx 1).name,Zy (Zx 1).inst,Zz Yq (Yf ((5:Nat):Int)),Zz Zw (3+((5:Nat):Int)),Zz Zw (0),Zz Zw (Yz lf),Zz Zw (1+Yz bd / 16 % 3),Zz Zw 0,Zz Zw 0]:=by
      unfold Zd Zp
      dsimp only
      rw [if_neg h2,if_pos h1]
     rw [sel_pos (by simpa using h1),sel_neg (by simpa using h2),chk_of (by rfl),← hE]
     exact ⟨_,rfl,6,rfl,by decide,by decide⟩
    ·have hE:Zd (Zp ((5:Nat):Int) (Zx 1) lf xp bd)=Zf [Zy (Zx 1).name,Zy (Zx 1).inst,Zz Yq (Yf ((5:Nat):Int)),Zz Zw (3+((5:Nat):Int)),Zz Zw (1000+Yz xp*100),Zz Zw (Yz lf),Zz Zw (0),Zz Zw 0,Zz Zw 0]:=by
      unfold Zd Zp
      dsimp only
      rw [if_pos h2,if_neg h1]
     rw [sel_neg (by simpa using h1),sel_pos (by simpa using h2),chk_of (by rfl),← hE]
     exact ⟨_,rfl,6,rfl,by decide,by decide⟩
    ·have hE:Zd (Zp ((5:Nat):Int) (Zx 1) lf xp bd)=Zf [Zy (Zx 1).name,Zy (Zx 1).inst,Zz Yq (Yf ((5:Nat):Int)),Zz Zw (3+((5:Nat):Int)),Zz Zw (0),Zz Zw (Yz lf),Zz Zw (0),Zz Zw 0,Zz Zw 0]:=by
      unfold Zd Zp
      dsimp only
      rw [if_neg h2,if_neg h1]
     rw [sel_neg (by simpa using h1),sel_neg (by simpa using h2),chk_of (by rfl),← hE]
     exact ⟨_,rfl,6,rfl,by decide,by decide⟩
   ·exact ⟨_,rfl,rfl⟩
  ·rintro _ rfl
   rfl
 ·cases h
theorem w64:Walked Tryz.prog G 64 4 sp64:=by
 refine ⟨Tryz.f64,Tryz.func64,by decide +kernel,rfl,fun xs bl r h=> ?_⟩
 unfold sp64 at h
 split at h
 ·rename_i op ux uy uz kv rl tk sv ins bx
  obtain ⟨hpre,h2⟩:=chk_inv h;cases h2
  refine Eq.trans (b:=(Zq (sel (!(op==1||op==3)) (some [Zz .i64 op,Zy ux,Zy uy,Zy uz,Zz .i64 kv,Zy rl,Zm tk,Zy sv,Zy ins,Zm bx,Zn !op==2,Zz .i64 0]) (some [Zz .i64 op,Zy ux,Zy uy,Zy uz,Zz .i64 kv,Zy rl,Zm tk,Zy sv,Zy ins,Zm bx,Zn false,Zz .i64 0])) fun l=>cInt .i64 l fun n r=>cStr r fun b r=>cStr r fun b_1 r=>cStr r fun b_2 r=>cInt .i64 r fun n_1 r=>cStr r fun b_3 r=>cBs r fun b_4 r=>cStr r fun b_5 r=>cStr r fun b_6 r=>cBs r fun b_7 r=>cBool r fun b_8 r=>cInt .i64 r fun n_2 r=>let t1:Option (List AV):=some [Zz .i64 n,Zy b,Zy b_1,Zy b_2,Zz .i64 n_1,Zy b_3,Zm b_4,Zy b_5,Zy b_6,Zm b_7,Zn true,Zz .i64 n_2];let t0:Option (List AV):=sel (!(n==1||n==3)) (Zq (chk (l63 b_3) (some (Zn (Kerb.validRealm b_3),[]))) (kL fun b_9=>sel (!b_9) t1 (Zq (chk (l63 b_5) (some (Zn (Xm b_5),[]))) (kL fun b_10=>sel (!b_10) t1 (Zq (chk (l63 b_6) (some (Zn (Xk b_6),[]))) (kL fun b_11=>some [Zz .i64 n,Zy b,Zy b_1,Zy b_2,Zz .i64 n_1,Zy b_3,Zm b_4,Zy b_5,Zy b_6,Zm b_7,Zn !b_11,Zz .i64 n_2])))))) (some [Zz .i64 n,Zy b,Zy b_1,Zy b_2,Zz .i64 n_1,Zy b_3,Zm b_4,Zy b_5,Zy b_6,Zm b_7,Zn false,Zz .i64 n_2]);onNil r (sel b_8 (some (Yv [Zm [],Zz .i64 40],[])) (Zq (sel (n==1||n==3) (Zq (chk (l63 b&&l63 b_1&&l63 b_2) (some (Zn (Vk (Xn b b_1 b_2)),[]))) (kL fun b=>sel (!b) t1 t0)) t0) fun l=>cInt .i64 l fun n r=>cStr r fun b r=>cStr r fun b_9 r=>cStr r fun b_10 r=>cInt .i64 r fun n_3 r=>cStr r fun b_11 r=>cBs r fun b_12 r=>cStr r fun b_13 r=>cStr r fun b_14 r=>cBs r fun b_15 r=>cBool r fun b_16 r=>cInt .i64 r fun n_4 r=>onNil r (sel b_16 (some (Yv [Zm [],Zz .i64 103],[])) (Zq (sel (!(n==1||n==3)) (some [Zz .i64 n,Zy b,Zy b_9,Zy b_10,Zz .i64 n_3,Zy b_11,Zm b_12,Zy b_13,Zy b_14,Zm b_15,Zn !Zh n_3 255,Zz .i64 n_4]) (some [Zz .i64 n,Zy b,Zy b_9,Zy b_10,Zz .i64 n_3,Zy b_11,Zm b_12,Zy b_13,Zy b_14,Zm b_15,Zn false,Zz .i64 n_4])) fun l=>cInt .i64 l fun n r=>cStr r fun b r=>cStr r fun b_17 r=>cStr r fun b_18 r=>cInt .i64 r fun n_5 r=>cStr r fun b_19 r=>cBs r fun b_20 r=>cStr r fun b_21 r=>cStr r fun b_22 r=>cBs r fun b_23 r=>cBool r fun b_24 r=>cInt .i64 r fun n_6 r=>let t2:Option (List AV):=some [Zz .i64 n,Zy b,Zy b_17,Zy b_18,Zz .i64 n_5,Zy b_19,Zm b_20,Zy b_21,Zy b_22,Zm b_23,Zn (decide ((↑(Zv b_23):Int)>1012)),Zz .i64 n_6];onNil r (sel b_24 (some (Yv [Zm [],Zz .i64 104],[])) (Zq (sel (!(n==1||n==3)) (sel (decide ((↑(Zv b_20):Int)>255)) (some [Zz .i64 n,Zy b,Zy b_17,Zy b_18,Zz .i64 n_5,Zy b_19,Zm b_20,Zy b_21,Zy b_22,Zm b_23,Zn true,Zz .i64 n_6]) t2) t2) fun l=>cInt .i64 l fun n r=>cStr r fun b r=>cStr r fun b_25 r=>cStr r fun b_26 r=>cInt .i64 r fun n_7 r=>cStr r fun b_27 r=>cBs r fun b_28 r=>cStr r fun b_29 r=>cStr r fun b_30 r=>cBs r fun b_31 r=>cBool r fun b_32 r=>cInt .i64 r fun n_8 r=>let t3:Option (List AV):=some [Zz .i64 n,Zy b,Zy b_25,Zy b_26,Zz .i64 n_7,Zy b_27,Zm b_28,Zy b_29,Zy b_30,Zm b_31,Zn true,Zz .i64 n_8];let t4:Option (List AV):=sel (!(n==1||n==3)) (some [Zz .i64 n,Zy b,Zy b_25,Zy b_26,Zz .i64 n_7,Zy b_27,Zm b_28,Zy b_29,Zy b_30,Zm b_31,Zn !(b==[]&&(b_25==[]&&b_26==[])),Zz .i64 n_8]) (some [Zz .i64 n,Zy b,Zy b_25,Zy b_26,Zz .i64 n_7,Zy b_27,Zm b_28,Zy b_29,Zy b_30,Zm b_31,Zn false,Zz .i64 n_8]);onNil r (sel b_32 (some (Yv [Zm [],Zz .i64 105],[])) (Zq (sel (n==1||n==3) (sel (!n_7==0) t3 (sel (!b_27==[]) t3 (sel (decide ((↑(Zv b_28):Int)>0)) t3 (sel (!b_29==[]) t3 (sel (!b_30==[]) t3 t4))))) t4) fun l=>cInt .i64 l fun n r=>let t6:List UInt8:=Kerb.header 9 false++Yk n 1 false;let t5:Nat:=Zv t6;cStr r fun b r=>cStr r fun b_33 r=>cStr r fun b_34 r=>cInt .i64 r fun n_9 r=>cStr r fun b_35 r=>cBs r fun b_36 r=>cStr r fun b_37 r=>cStr r fun b_38 r=>cBs r fun b_39 r=>cBool r fun b_40 r=>cInt .i64 r fun n_10 r=>onNil r (sel b_40 (some (Yv [Zm [],Zz .i64 108],[])) (sel (n==1||n==3) (Zq (chk (decide (t5+Zv b+Zv b_33+Zv b_34≤70368744170000)) (some (Zm (Kerb.putPrin t6 (Xn b b_33 b_34)),[]))) (kB fun b=>Zq (chk (decide (Zv b≤70368744177664)) (some (Yb (b++Yk (↑(Zv b_39):Int) 2 false),[]))) (kO fun l=>chk (room (Zv l+Zv b_39) 1) (some (Yv [Zm (l++b_39),Zz .i64 0],[]))))) (Zq (chk (decide (t5≤70368744177664)) (some (Yb (t6++Yk n_9 1 false),[]))) (kO fun l=>Zq (chk (decide (Zv l+Zv b_35≤70368744177664)) (some (Zm (Yp l b_35),[]))) (kB fun b=>Zq (chk (decide (Zv b≤70368744177664)) (some (Yb (b++Yk (↑(Zv b_36):Int) 1 false),[]))) (kO fun l=>chk (room (Zv l+Zv b_36) 1) (Zq (chk (decide (Zv (l++b_36)+Zv b_37≤70368744177664)) (some (Zm (Yp (l++b_36) b_37),[]))) (kB fun b=>Zq (chk (decide (Zv b+Zv b_38≤70368744177664)) (some (Zm (Yp b b_38),[]))) (kB fun b=>Zq (chk (decide (Zv b≤70368744177664)) (some (Yb (b++Yk (↑(Zv b_39):Int) 2 false),[]))) (kO fun l=>chk (room (Zv l+Zv b_39) 1) (some (Yv [Zm (l++b_39),Zz .i64 0],[])))))))))))))))))))):Option (AV×Blocks))) (by kernel_rfl) ?_
  delta kB kO kL
  try dsimp only [cStr,cBs,cBool,cU8,cInt,cSl,l63]
  simp only [Xu,decide_eq_true_eq] at hpre
  have hl9:(Kerb.header 9 false).length=2:=rfl
  unfold Kerb.encodeKaRequest
  by_cases h13:op=1∨op=3
  ·have e1:(op==1||op==3)=true:=by simpa using h13
   have e2:(op==2)=false:=by simp;omega
   have e3:Kerb.kaOp op=true:=by simp [Kerb.kaOp];omega
   simp only [A0,e1,e2,e3,Yw,sel_true,sel_false,Bool.false_eq_true,if_false]
   rw [chk_of (by simp;omega)]
   cases h2:Vk ⟨ux,uy,uz⟩
   ·rfl
   rw [Yw,sel_false,if_neg (by simp)]
   by_cases h3:1012<bx.length
   ·rw [sel_pos (by simp;omega),if_pos h3]
   rw [sel_neg (by simp;omega),if_neg h3]
   by_cases h4:kv=0
   case neg=>rw [sel_pos (by simpa using h4),if_pos (.inl h4)]
   rw [sel_neg (by simp [h4])]
   by_cases h5:rl=[]
   case neg=>rw [sel_pos (by simpa using h5),if_pos (.inr (.inl h5))]
   rw [sel_neg (by simp [h5])]
   by_cases h6:tk=[]
   case neg=>rw [sel_pos (by have:=List.length_pos_iff.2 h6;simp;omega),if_pos (.inr (.inr (.inl h6)))]
   rw [sel_neg (by simp [h6])]
   by_cases h7:sv=[]
   case neg=>rw [sel_pos (by simpa using h7),if_pos (.inr (.inr (.inr (.inl h7))))]
   rw [sel_neg (by simp [h7])]
   by_cases h8:ins=[]
   case neg=>rw [sel_pos (by simpa using h8),if_pos (.inr (.inr (.inr (.inr h8))))]
   rw [sel_neg (by simp [h8]),if_neg (by simp [h4,h5,h6,h7,h8])]
   have l1:=Kerb.valid_len h2
   simp only at l1
   rw [chk_of (by simp [Zk,hl9];omega),chk_of (by simp [Zk,hl9,Zb];omega),chk_of (Xx (by simp [Zk,hl9,Zb];omega))]
   simp [Kerb.putBox,Kerb.kaHead]
  ·have e1:(op==1||op==3)=false:=by simpa using h13
   simp only [A0,e1,Vw,sel_true,sel_false]
   by_cases h2:op=2
   case neg =>
    have e3:Kerb.kaOp op=false:=by simp [Kerb.kaOp];omega
    rw [sel_pos (by simpa using h2),e3]
    rfl
   subst h2
   rw [sel_neg (by simp)]
   simp only [show Kerb.kaOp 2=true from rfl,Yw,Bool.false_eq_true,if_false,beq_self_eq_true,if_true]
   rw [chk_of (by simp;omega)]
   cases h2:Kerb.validRealm rl
   ·rfl
   rw [Yw,sel_false,chk_of (by simp;omega)]
   cases h3:Xm sv
   ·rfl
   rw [Yw,sel_false,chk_of (by simp;omega)]
   cases h4:Xk ins
   ·rfl
   rw [Yw,sel_false,if_neg (by simp)]
   cases h5:Zh kv 255
   ·rfl
   rw [Yw,sel_false,if_neg (by simp)]
   by_cases h6:255<tk.length
   ·rw [sel_pos (by simp;omega),if_pos (.inl h6)]
   rw [sel_neg (by simp;omega)]
   by_cases h7:1012<bx.length
   ·rw [sel_pos (by simp;omega),if_pos (.inr h7)]
   rw [sel_neg (by simp;omega),if_neg (by omega)]
   show sel (!(Kerb.Prin.isNo ⟨ux,uy,uz⟩)) _ _=_
   cases Kerb.Prin.isNo ⟨ux,uy,uz⟩
   ·rfl
   rw [Yw,sel_false,if_neg (by simp)]
   have l1:=Kerb.validRealm_len h2
   have l2:=Kerb.validName_len h3
   have l3:=Kerb.validInst_len h4
   rw [chk_of (by simp [Zk,hl9]),chk_of (by simp [Zk,hl9];omega),chk_of (by simp [Zk,hl9,Xh];omega),chk_of (Xx (by simp [Zk,hl9,Xh];omega)),chk_of (by simp [Zk,hl9,Xh];omega),chk_of (by simp [Zk,hl9,Xh];omega),chk_of (by simp [Zk,hl9,Xh];omega),chk_of (Xx (by simp [Zk,hl9,Xh];omega))]
   simp [Kerb.putBox,Kerb.kaHead,Kerb.putTick]
 ·cases h
theorem w70:Walked Tryz.prog G 70 4 sp70:=by
 refine ⟨Tryz.f70,Tryz.func70,by decide +kernel,rfl,fun xs bl r h=> ?_⟩
 unfold sp70 at h
 split at h
 ·rename_i B at_ li bad
  obtain ⟨hpre,h2⟩:=chk_inv h;cases h2
  show runFnH (G.env 70 4) G.rts (G.own 70) Tryz.f70 _ _ [0]=_
  refine Eq.trans (b:=(Zq (chk (decide (Zv B≤140737488355328)) (some (Yv [Zz .i64 (Xd (Yd B at_ 1 false)),Zz .i64 (Xq (Yd B at_ 1 false)),Zz .i64 (Yh (Yd B at_ 1 false))],[]))) fun (r:AV×Blocks)=>onNilB (Yx r) (Wy (Yu r) fun vs=>onCons vs fun x r=>Yj .i64 x fun n=>onCons r fun x r=>Yj .i64 x fun n_1=>onCons r fun x r=>Yj .i64 x fun n_2=>onNil r (some (Zz .i64 n,[[Zm B,Zz .i64 (bif bad || !n_2==0 then at_ else n_1),Zn li,Zn (bad || !n_2==0)]]))):Option (AV×Blocks))) (by kernel_rfl) ?_
  simp only [A0]
  rw [chk_of hpre]
 ·cases h
theorem w75:Walked Tryz.prog G 75 4 sp75:=by
 refine ⟨Tryz.f75,Tryz.func75,by decide +kernel,rfl,fun xs bl r h=> ?_⟩
 unfold sp75 at h
 split at h
 ·rename_i B at_ li bad
  obtain ⟨hpre,h2⟩:=chk_inv h;cases h2
  show runFnH (G.env 75 4) G.rts (G.own 75) Tryz.f75 _ _ [0]=_
  refine Eq.trans (b:=(Zq (chk (decide (Zv B≤140737488355328)) (some (Yv [Zz .i64 (Xd (Yd B at_ 2 li)),Zz .i64 (Xq (Yd B at_ 2 li)),Zz .i64 (Yh (Yd B at_ 2 li))],[]))) fun (r:AV×Blocks)=>onNilB (Yx r) (Wy (Yu r) fun vs=>onCons vs fun x r=>Yj .i64 x fun n=>onCons r fun x r=>Yj .i64 x fun n_1=>onCons r fun x r=>Yj .i64 x fun n_2=>onNil r (some (Zz .i64 n,[[Zm B,Zz .i64 (bif bad || !n_2==0 then at_ else n_1),Zn li,Zn (bad || !n_2==0)]]))):Option (AV×Blocks))) (by kernel_rfl) ?_
  simp only [A0]
  rw [chk_of hpre]
 ·cases h
theorem w95:Walked Tryz.prog G 95 4 sp95:=by
 refine ⟨Tryz.f95,Tryz.func95,by decide +kernel,rfl,fun xs bl r h=> ?_⟩
 unfold sp95 at h
 split at h
 ·rename_i kd k bd
  obtain ⟨hpre,h2⟩:=chk_inv h;cases h2
  refine Eq.trans (b:=(let t0:List UInt8:=[UInt8.ofNat (Yy (Zj .u8 (Int.fdiv (↑(Zv bd):Int) (2 ^ min (Yy 8) (Xz .i64))))),UInt8.ofNat (Yy (Zj .u8 (↑(Zv bd):Int)))];let t1:List UInt8:=List.replicate (Yy 0) (0:UInt8)++[(66:UInt8),UInt8.ofNat (Yy (Zj .u8 kd))];let t2:Int:=Zj .i64 (12+(↑(Zv bd):Int));sel (!Kerb.isKind kd) (some (Yv [Zm [],Zz .i64 104],[])) (Zq (chk (decide (0≤k)&&decide (k<18446744073709551616)) (some (Zn (Xw k),[]))) (kL fun b=>sel (!b) (some (Yv [Zm [],Zz .i64 10],[])) (sel (decide ((↑(Zv bd):Int)>1000)) (some (Yv [Zm [],Zz .i64 105],[])) (chk (decide (0≤t2)&&decide (t2≤140737488355328)) (chk (room (Zv (List.replicate (Yy 0) (0:UInt8))+Zv [(66:UInt8),UInt8.ofNat (Yy (Zj .u8 kd))]) 1) (Zq (chk (decide (0≤k)&&decide (k<18446744073709551616)) (some (Zm (Kerb.keyBytes k),[]))) (kB fun b=>chk (room (Zv t1+Zv b) 1) (chk (room (Zv (t1++b)+Zv t0) 1) (chk (room (Zv (t1++b++t0)+Zv bd) 1) (some (Yv [Zm (t1++b++t0++bd),Zz .i64 0],[]))))))))))):Option (AV×Blocks))) (by kernel_rfl) ?_
  delta kB kL
  try dsimp only [cStr,cBs,cBool,cU8,cInt,cSl,l63]
  simp only [A0,Kerb.Client.av,Kerb.Cache.av,Kerb.Cred.av,hpre]
  unfold Kerb.makeBox
  cases h1:Kerb.isKind kd
  ·rfl
  rw [Yw,sel_false,if_neg (by simp)]
  cases h2:Xw k
  ·rfl
  rw [Yw,sel_false,if_neg (by simp)]
  by_cases h3:1000<bd.length
  ·rw [sel_pos (by simp;omega),if_pos h3]
  have hk:1≤kd∧kd≤10:=by simp [Kerb.isKind] at h1;omega
  have lk:=Zg k
  rw [sel_neg (by simp;omega),if_neg h3,wrap_i64 (by omega) (by omega),chk_of (by simp;omega),chk_of (Xx (by simp)),chk_of (Xx (by simp;omega)),chk_of (Xx (by simp;omega)),chk_of (Xx (by simp;omega)),Kerb.two_bytes,Kerb.wrap_u8,Int.emod_eq_of_lt (by omega) (by omega)]
  rfl
 ·cases h
theorem w117:Walked Tryz.prog G 117 4 sp117:=by
 refine ⟨Tryz.f117,Tryz.func117,by decide +kernel,rfl,fun xs bl r h=> ?_⟩
 unfold sp117 at h
 split at h
 ·rename_i B at_ bad
  obtain ⟨hpre,h2⟩:=chk_inv h;cases h2
  show runFnH (G.env 117 4) G.rts (G.own 117) Tryz.f117 _ _ [0]=_
  refine Eq.trans (b:=(Zq (chk (decide (Zv B≤4611686018427387904)) (some (Yv [Zz .i64 (Xd (Yd B at_ 1 false)),Zz .i64 (Xq (Yd B at_ 1 false)),Zz .i64 (Yh (Yd B at_ 1 false))],[]))) fun (r:AV×Blocks)=>onNilB (Yx r) (Wy (Yu r) fun vs=>onCons vs fun x r=>Yj .i64 x fun n=>onCons r fun x r=>Yj .i64 x fun n_1=>onCons r fun x r=>Yj .i64 x fun n_2=>onNil r (sel (!!(bad || !n_2==0)) (some (Zz .i64 0,[[Zm B,Zz .i64 (bif bad || !n_2==0 then at_ else n_1),Zn (bad || !n_2==0)]])) (some (Zz .i64 n,[[Zm B,Zz .i64 (bif bad || !n_2==0 then at_ else n_1),Zn (bad || !n_2==0)]])))):Option (AV×Blocks))) (by kernel_rfl) ?_
  have hb:=of_decide_eq_true hpre
  simp only [A0]
  rw [chk_of (by simp;omega)]
  unfold Xj
  cases bad
  ·simp only [Bool.false_or]
   generalize hq:(!(_==(0:Int)))=q
   cases q<;>rfl
  ·rfl
 ·cases h
theorem w119:Walked Tryz.prog G 119 4 sp119:=by
 refine ⟨Tryz.f119,Tryz.func119,by decide +kernel,rfl,fun xs bl r h=> ?_⟩
 unfold sp119 at h
 split at h
 ·rename_i B at_ bad
  obtain ⟨hpre,h2⟩:=chk_inv h;cases h2
  show runFnH (G.env 119 4) G.rts (G.own 119) Tryz.f119 _ _ [0]=_
  refine Eq.trans (b:=(Zq (chk (decide (Zv B≤4611686018427387904)) (some (Yv [Zz .i64 (Xd (Yd B at_ 2 false)),Zz .i64 (Xq (Yd B at_ 2 false)),Zz .i64 (Yh (Yd B at_ 2 false))],[]))) fun (r:AV×Blocks)=>onNilB (Yx r) (Wy (Yu r) fun vs=>onCons vs fun x r=>Yj .i64 x fun n=>onCons r fun x r=>Yj .i64 x fun n_1=>onCons r fun x r=>Yj .i64 x fun n_2=>onNil r (sel (!!(bad || !n_2==0)) (some (Zz .i64 0,[[Zm B,Zz .i64 (bif bad || !n_2==0 then at_ else n_1),Zn (bad || !n_2==0)]])) (some (Zz .i64 n,[[Zm B,Zz .i64 (bif bad || !n_2==0 then at_ else n_1),Zn (bad || !n_2==0)]])))):Option (AV×Blocks))) (by kernel_rfl) ?_
  have hb:=of_decide_eq_true hpre
  simp only [A0]
  rw [chk_of (by simp;omega)]
  unfold Xj
  cases bad
  ·simp only [Bool.false_or]
   generalize hq:(!(_==(0:Int)))=q
   cases q<;>rfl
  ·rfl
 ·cases h
theorem w145:Walked Tryz.prog G 145 4 sp145:=by
 refine ⟨Tryz.f145,Tryz.func145,by decide +kernel,rfl,fun xs bl r h=> ?_⟩
 unfold sp145 at h
 split at h
 ·rename_i B at_ bad
  obtain ⟨hpre,h2⟩:=chk_inv h;cases h2
  show runFnH (G.env 145 4) G.rts (G.own 145) Tryz.f145 _ _ [0]=_
  refine Eq.trans (b:=(Zq (chk (decide (Zv B≤4611686018427387904)) (some (Yv [Zy (Kerb.GotB.val (Kerb.text B at_)),Zz .i64 (Kerb.GotB.next (Kerb.text B at_)),Zz .i64 (Kerb.GotB.err (Kerb.text B at_))],[]))) fun (r:AV×Blocks)=>onNilB (Yx r) (Wy (Yu r) fun vs=>onCons vs fun x r=>AV.onStr x fun b=>onCons r fun x r=>Yj .i64 x fun n=>onCons r fun x r=>Yj .i64 x fun n_1=>onNil r (sel (!!(bad || !n_1==0)) (some (Zy [],[[Zm B,Zz .i64 (bif bad || !n_1==0 then at_ else n),Zn (bad || !n_1==0)]])) (some (Zy b,[[Zm B,Zz .i64 (bif bad || !n_1==0 then at_ else n),Zn (bad || !n_1==0)]])))):Option (AV×Blocks))) (by kernel_rfl) ?_
  have hb:=of_decide_eq_true hpre
  simp only [A0]
  rw [chk_of (by simp;omega)]
  unfold Kerb.pText
  cases bad
  ·simp only [Bool.false_or]
   generalize hq:(!(_==(0:Int)))=q
   cases q<;>rfl
  ·rfl
 ·cases h
theorem w178:Walked Tryz.prog G 178 4 sp178:=by
 refine ⟨Tryz.f178,Tryz.func178,by decide +kernel,rfl,fun xs bl r h=> ?_⟩
 unfold sp178 at h
 split at h
 ·rename_i lb t st en k
  obtain ⟨hpre,h2⟩:=chk_inv h;cases h2
  refine Eq.trans (b:=(sel (!Wh lb) (sel (!lb==[(67:UInt8),(80:UInt8),(87:UInt8),(108:UInt8)]) (some (Zz .i64 80,[])) (sel (!Zh t 4294967295) (some (Zz .i64 104,[])) (sel (Wh lb) (sel (!Zh st 4294967295) (some (Zz .i64 104,[])) (sel (!Zh en 4294967295) (some (Zz .i64 104,[])) (sel (!k==0) (some (Zz .i64 108,[])) (some (Zz .i64 0,[]))))) (Zq (chk (decide (0≤k)&&decide (k<18446744073709551616)) (some (Zn (Xw k),[]))) fun (r:AV×Blocks)=>onNilB (Yx r) (Wq (Yu r) fun b=>sel (!b) (some (Zz .i64 10,[])) (sel (!st==0) (some (Zz .i64 108,[])) (sel (!en==0) (some (Zz .i64 108,[])) (some (Zz .i64 0,[]))))))))) (sel (!Zh t 4294967295) (some (Zz .i64 104,[])) (sel (Wh lb) (sel (!Zh st 4294967295) (some (Zz .i64 104,[])) (sel (!Zh en 4294967295) (some (Zz .i64 104,[])) (sel (!k==0) (some (Zz .i64 108,[])) (some (Zz .i64 0,[]))))) (Zq (chk (decide (0≤k)&&decide (k<18446744073709551616)) (some (Zn (Xw k),[]))) fun (r:AV×Blocks)=>onNilB (Yx r) (Wq (Yu r) fun b=>sel (!b) (some (Zz .i64 10,[])) (sel (!st==0) (some (Zz .i64 108,[])) (sel (!en==0) (some (Zz .i64 108,[])) (some (Zz .i64 0,[])))))))):Option (AV×Blocks))) (by kernel_rfl) ?_
  have eGet:([103,84,71,83]:List UInt8)=Kerb.lGet:=rfl
  have eTick:([103,84,75,84]:List UInt8)=Kerb.lTicket:=rfl
  have eChg:([67,80,87,108]:List UInt8)=Kerb.lChange:=rfl
  have eDone:([67,80,87,100]:List UInt8)=Kerb.lDone:=rfl
  have eGot:([116,103,115,84]:List UInt8)=Kerb.lGot:=rfl
  have eGiven:([116,107,116,71]:List UInt8)=Kerb.lGiven:=rfl
  simp only [A0,eChg,hpre]
  unfold Yg
  simp only
  cases ht:Wh lb
  ·rw [Vw,sel_true]
   cases hc:(lb==Kerb.lChange)
   ·rfl
   rw [Yw,sel_false,if_neg (by simp)]
   cases h1:Zh t 4294967295
   ·rfl
   rw [Yw,sel_false,if_neg (by simp),sel_false,if_neg (by simp)]
   cases h2:Xw k
   ·rfl
   rw [Yw,sel_false,if_neg (by simp)]
   by_cases h3:st=0
   case neg=>rw [sel_pos (by simpa using h3),if_pos (.inl h3)]
   rw [sel_neg (by simp [h3])]
   by_cases h4:en=0
   case neg=>rw [sel_pos (by simpa using h4),if_pos (.inr h4)]
   rw [sel_neg (by simp [h4]),if_neg (by simp [h3,h4])]
  ·rw [Yw,sel_false,if_neg (by simp)]
   cases h1:Zh t 4294967295
   ·rfl
   rw [Yw,sel_false,if_neg (by simp),sel_true,if_pos rfl]
   cases h2:Zh st 4294967295
   ·rfl
   rw [Yw,sel_false]
   cases h3:Zh en 4294967295
   ·rfl
   rw [Yw,sel_false,if_neg (by simp)]
   by_cases h4:k=0
   ·rw [sel_neg (by simp [h4]),if_neg (by simp [h4])]
   ·rw [sel_pos (by simpa using h4),if_pos h4]
 ·cases h
theorem w179:Walked Tryz.prog G 179 4 sp179:=by
 refine ⟨Tryz.f179,Tryz.func179,by decide +kernel,rfl,fun xs bl r h=> ?_⟩
 unfold sp179 at h
 split at h
 ·rename_i b n little
  obtain ⟨hpre,h2⟩:=chk_inv h;cases h2
  refine Eq.trans (b:=(Zq (chk (decide (Zv b≤70368744177664)) (some (Yb (b++Yk n (Yy 4) little),[]))) fun (r:AV×Blocks)=>onNilB (Yx r) (AV.onOwnB (Yu r) fun l=>some (Yb l,[])):Option (AV×Blocks))) (by kernel_rfl) ?_
  simp only [decide_eq_true_eq] at hpre
  simp only [A0]
  rw [chk_of (by simp;omega)]
  rfl
 ·cases h
theorem w186:Walked Tryz.prog G 186 4 sp186:=by
 refine ⟨Tryz.f186,Tryz.func186,by decide +kernel,rfl,fun xs bl r h=> ?_⟩
 unfold sp186 at h
 split at h
 ·rename_i b n
  obtain ⟨hpre,h2⟩:=chk_inv h;cases h2
  refine Eq.trans (b:=(Zq (chk (decide (Zv b≤70368744177664)) (some (Yb (b++Yk n (Yy 1) false),[]))) fun (r:AV×Blocks)=>onNilB (Yx r) (AV.onOwnB (Yu r) fun l=>some (Yb l,[])):Option (AV×Blocks))) (by kernel_rfl) ?_
  simp only [decide_eq_true_eq] at hpre
  simp only [A0]
  rw [chk_of (by simp;omega)]
  rfl
 ·cases h
theorem w189:Walked Tryz.prog G 189 4 sp189:=by
 refine ⟨Tryz.f189,Tryz.func189,by decide +kernel,rfl,fun xs bl r h=> ?_⟩
 unfold sp189 at h
 split at h
 ·rename_i b x y z
  obtain ⟨hpre,h2⟩:=chk_inv h;cases h2
  refine Eq.trans (b:=(Zq (chk (decide (Zv b+Zv x≤70368744177664)) (some (Zm (Yp b x),[]))) fun (r:AV×Blocks)=>onNilB (Yx r) (AV.onBs (Yu r) fun b=>Zq (chk (decide (Zv b+Zv y≤70368744177664)) (some (Zm (Yp b y),[]))) fun (r:AV×Blocks)=>onNilB (Yx r) (AV.onBs (Yu r) fun b=>Zq (chk (decide (Zv b+Zv z≤70368744177664)) (some (Zm (Yp b z),[]))) fun (r:AV×Blocks)=>onNilB (Yx r) (AV.onBs (Yu r) fun b=>some (Zm b,[])))):Option (AV×Blocks))) (by kernel_rfl) ?_
  simp only [decide_eq_true_eq] at hpre
  simp only [A0]
  rw [chk_of (by simp;omega),chk_of (by simp [Yp];omega),chk_of (by simp [Yp];omega)]
  rfl
 ·cases h
theorem w205:Walked Tryz.prog G 205 4 sp205:=by
 refine ⟨Tryz.f205,Tryz.func205,by decide +kernel,rfl,fun xs bl r h=> ?_⟩
 unfold sp205 at h
 split at h
 ·rename_i B at_ bad
  obtain ⟨hpre,h2⟩:=chk_inv h;cases h2
  show runFnH (G.env 205 4) G.rts (G.own 205) Tryz.f205 _ _ [0]=_
  refine Eq.trans (b:=(Zq (chk (decide (Zv B≤4611686018427387904)) (some (Yv [Zz .i64 (Xd (Yd B at_ 4 false)),Zz .i64 (Xq (Yd B at_ 4 false)),Zz .i64 (Yh (Yd B at_ 4 false))],[]))) fun (r:AV×Blocks)=>onNilB (Yx r) (Wy (Yu r) fun vs=>onCons vs fun x r=>Yj .i64 x fun n=>onCons r fun x r=>Yj .i64 x fun n_1=>onCons r fun x r=>Yj .i64 x fun n_2=>onNil r (sel (!!(bad || !n_2==0)) (some (Zz .i64 0,[[Zm B,Zz .i64 (bif bad || !n_2==0 then at_ else n_1),Zn (bad || !n_2==0)]])) (some (Zz .i64 n,[[Zm B,Zz .i64 (bif bad || !n_2==0 then at_ else n_1),Zn (bad || !n_2==0)]])))):Option (AV×Blocks))) (by kernel_rfl) ?_
  have hb:=of_decide_eq_true hpre
  simp only [A0]
  rw [chk_of (by simp;omega)]
  unfold Xj
  cases bad
  ·simp only [Bool.false_or]
   generalize hq:(!(_==(0:Int)))=q
   cases q<;>rfl
  ·rfl
 ·cases h
theorem w210:Walked Tryz.prog G 210 4 sp210:=by
 refine ⟨Tryz.f210,Tryz.func210,by decide +kernel,rfl,fun xs bl r h=> ?_⟩
 unfold sp210 at h
 split at h
 ·rename_i s bad
  obtain ⟨hpre,h2⟩:=chk_inv h;cases h2
  refine Eq.trans (b:=(Zq (loopM (fun (st:List AV)=>cStr st fun b r=>cStr r fun b_1 r=>cBool r fun b_2 r=>cInt .i64 r fun n r=>cInt .i64 r fun n_1 r=>let t0:Option (List AV ⊕ Ex×List AV):=some (Sum.inr (Ex.ret,[Zy b,Zy b_1,Zn false,Zz .i64 n,Zz .i64 n_1]));let t1:Bool:=decide (0≤n_1)&&decide (n_1<(↑(Zv b):Int));let t2:Int:=(↑(Ym (Xy b (Yy n_1) (0:UInt8))):Int);onNil r (sel (decide (n_1<n)) (chk t1 (sel (decide (t2<(↑(Ym (33:UInt8)):Int))) t0 (chk t1 (sel (decide (t2>(↑(Ym (126:UInt8)):Int))) t0 (chk t1 (sel (decide (Kerb.indexOf (Xy b (Yy n_1) (0:UInt8)) b_1≥0)) t0 (some (Sum.inl [Zy b,Zy b_1,Zn b_2,Zz .i64 n,Zz .i64 (Zj .i64 (n_1+1))])))))))) (some (Sum.inr (Wg 0,[Zy b,Zy b_1,Zn b_2,Zz .i64 n,Zz .i64 n_1]))))) [Zy s,Zy bad,Zn false,Zz .i64 (↑(Zv s):Int),Zz .i64 0]) fun (r:Ex×List AV)=>cStr (Yx r) fun b r_1=>cStr r_1 fun b r_2=>cBool r_2 fun b r_3=>cInt .i64 r_3 fun n r_4=>cInt .i64 r_4 fun n r_5=>onNil r_5 (exK r.1 (some (Zn b,[])) fun (j:Nat)=>sel (Nat.beq j 0) (some (Zn true,[])) none):Option (AV×Blocks))) (by kernel_rfl) ?_
  try dsimp only [cStr,cBs,cBool,cU8,cInt,cSl,l63]
  simp only [decide_eq_true_eq] at hpre
  refine loop_rounds (fun i:Nat=>[Zy s,Zy bad,Zn false,Zz Zw (s.length:Int),Zz Zw (i:Int)]) (fun i=>i≤s.length∧Xp s bad=Xp (s.drop i) bad) (fun i=>s.length-i)
   (fun r=>∃ i:Nat,r.2=[Zy s,Zy bad,Zn false,Zz Zw (s.length:Int),Zz Zw (i:Int)]∧((r.1 = .ret∧Xp s bad=false)∨(r.1 = .exit 0∧Xp s bad=true))) 0 ⟨Nat.zero_le _,rfl⟩ rfl ?_ ?_
  ·rintro i ⟨hi,hp⟩
   simp only [A0]
   by_cases hlt:i<s.length
   ·have hc:(decide ((0:Int)≤(i:Int))&&decide ((i:Int)<(s.length:Int)))=true:=by simp;omega
    have hd:=Kerb.drop_all_cons hlt
    rw [sel_pos (by simp;omega),chk_of hc,Int.toNat_natCast]
    have hpr:Xp (s.drop i) bad=(Kerb.okB bad (s.getD i 0)&&Xp (s.drop (i+1)) bad):=by rw [hd];rfl
    generalize s.getD i 0=c at *
    by_cases h1:c.toNat<33
    ·rw [sel_pos (by simp;omega)]
     exact ⟨_,rfl,i,rfl,.inl ⟨rfl,by rw [hp,hpr];simp [Kerb.okB,h1]⟩⟩
    rw [sel_neg (by simp;omega),chk_of hc]
    by_cases h2:126<c.toNat
    ·rw [sel_pos (by simp;omega)]
     exact ⟨_,rfl,i,rfl,.inl ⟨rfl,by rw [hp,hpr];simp [Kerb.okB,h2]⟩⟩
    rw [sel_neg (by simp;omega),chk_of hc]
    have h4:=Kerb.indexOf_nonneg c bad
    by_cases h3:c∈bad
    ·rw [sel_pos (by simpa using h4.2 h3)]
     exact ⟨_,rfl,i,rfl,.inl ⟨rfl,by rw [hp,hpr];simp [Kerb.okB,h3]⟩⟩
    rw [sel_neg (by have:=mt h4.1 h3;simp;omega),wrap_i64 (by omega) (by omega)]
    exact ⟨_,rfl,i+1,rfl,⟨by omega,by rw [hp,hpr];simp [Kerb.okB,h1,h2,h3]⟩,by dsimp only;omega⟩
   ·rw [sel_neg (by simp;omega)]
    exact ⟨_,rfl,i,rfl,.inr ⟨rfl,by rw [hp,List.drop_eq_nil_of_le (by omega)];rfl⟩⟩
  ·rintro ⟨e,l⟩ ⟨i,rfl,⟨rfl,hp⟩ | ⟨rfl,hp⟩⟩
   ·simp only [A0,hp]
   ·simp only [A0,hp]
    rfl
 ·cases h
theorem w213:Walked Tryz.prog G 213 4 sp213:=by
 refine ⟨Tryz.f213,Tryz.func213,by decide +kernel,rfl,fun xs bl r h=> ?_⟩
 unfold sp213 at h
 split at h
 ·rename_i li x y z ad k lf iss sv ins
  obtain ⟨hpre,h2⟩:=chk_inv h;cases h2
  refine Eq.trans (b:=(Zq (chk (decide (Zv x≤9223372036854775807)&&decide (Zv y≤9223372036854775807)&&decide (Zv z≤9223372036854775807)) (some (Zn (Vk (Xn x y z)),[]))) fun (r:AV×Blocks)=>onNilB (Yx r) (Wq (Yu r) fun b=>sel (!b) (some (Zz .i64 103,[])) (Zq (chk (decide (Zv sv≤9223372036854775807)) (some (Zn (Xm sv),[]))) fun (r:AV×Blocks)=>onNilB (Yx r) (Wq (Yu r) fun b=>sel (!b) (some (Zz .i64 103,[])) (Zq (chk (decide (Zv ins≤9223372036854775807)) (some (Zn (Xk ins),[]))) fun (r:AV×Blocks)=>onNilB (Yx r) (Wq (Yu r) fun b=>sel (!b) (some (Zz .i64 103,[])) (Zq (chk (decide (0≤k)&&decide (k<18446744073709551616)) (some (Zz .i64 (Kerb.classOf k),[]))) fun (r:AV×Blocks)=>onNilB (Yx r) (Yj .i64 (Yu r) fun n=>sel (!n==2) (some (Zz .i64 10,[])) (sel (!Zh ad 4294967295) (some (Zz .i64 104,[])) (sel (!Zh lf 255) (some (Zz .i64 104,[])) (sel (!Zh iss 4294967295) (some (Zz .i64 104,[])) (some (Zz .i64 0,[])))))))))))):Option (AV×Blocks))) (by kernel_rfl) ?_
  simp only [Xu,decide_eq_true_eq] at hpre
  obtain ⟨⟨⟨⟨⟨⟨h1,h2⟩,h3⟩,h4⟩,h5⟩,h6⟩,h7⟩:=hpre
  simp only [h1,h2,h3,h4,h5,h6,h7,decide_true,Yn,↓A0,A0]
  unfold Kerb.Ticket.err
  dsimp only
  cases Vk ⟨x,y,z⟩
  ·rfl
  cases Xm sv
  ·rfl
  cases Xk ins
  ·rfl
  simp only [Yw,Yn,sel_false]
  by_cases hc:Kerb.classOf k=2
  case neg=>rw [sel_pos (by simpa using hc),if_neg (by simp),if_pos hc]
  rw [sel_neg (by simp [hc]),if_neg (by simp),if_neg (by simp [hc])]
  cases Zh ad 4294967295
  ·rfl
  cases Zh lf 255
  ·rfl
  cases Zh iss 4294967295
  ·rfl
  rfl
 ·cases h
theorem w227:Walked Tryz.prog G 227 4 sp227:=by
 refine ⟨Tryz.f227,Tryz.func227,by decide +kernel,rfl,fun xs bl r h=> ?_⟩
 unfold sp227 at h
 split at h
 ·rename_i rl els n i now bit xp br
  obtain ⟨hpre,h2⟩:=chk_inv h;cases h2
  refine Eq.trans (b:=(Zq (chk (List.all els Kerb.isEntry&&decide (Zv els≤1000000)) (some (Yv [Zz .i64 (Yu (Kerb.findEnt (List.map Wb els) n i)),Zz .i64 (Yx (Kerb.findEnt (List.map Wb els) n i))],[]))) (kT fun vs=>cInt .i64 vs fun n r=>cInt .i64 r fun n_1 r=>onNil r (sel (!n_1==0) (some (Yv [Zz .i64 0,Zz .i64 n_1],[])) (chk (decide (0≤n)&&decide (n<(↑(Zv els):Int))&&true) (AV.onAgg (Xy els (Yy n) Vv) fun cs=>cStr cs fun b r=>cStr r fun b r=>cInt .u64 r fun n_2 r=>cInt .i64 r fun n_3 r=>cInt .i64 r fun n_4 r=>cInt .i64 r fun n_5 r=>cInt .i64 r fun n_6 r=>let t0:Option (AV×Blocks):=sel (!Zj .i64 (↑(BitVec.toNat (BitVec.ofInt (Xz .i64) n_6 &&& BitVec.ofInt (Xz .i64) bit)):Int)==0) (some (Yv [Zz .i64 0,Zz .i64 br],[])) (some (Yv [Zz .i64 n,Zz .i64 0],[]));cInt .i64 r fun n r=>cInt .i64 r fun n r=>onNil r (Zq (chk (decide (0≤n_2)&&decide (n_2<18446744073709551616)) (some (Zn (Xw n_2),[]))) (kL fun b=>sel (!b) (some (Yv [Zz .i64 0,Zz .i64 10],[])) (sel (!n_4==0) (sel (decide (n_4≤now)) (some (Yv [Zz .i64 0,Zz .i64 xp],[])) t0) t0))))))):Option (AV×Blocks))) (by kernel_rfl) ?_
  delta kT kL
  try dsimp only [cStr,cBs,cBool,cU8,cInt,cSl,l63]
  simp only [Xu,decide_eq_true_eq] at hpre
  obtain ⟨hall,hlen⟩:=hpre
  obtain ⟨es,rfl,hok⟩:=Kerb.ents_of hall
  simp only [hall,hlen,Kerb.map_toEntry,decide_true,Yn,↓A0,A0]
  unfold Kerb.useEnt
  dsimp only
  have hf:=Kerb.find_count (es:=es) (n:=n) (i:=i)
  generalize Kerb.findEnt es n i=F at hf
  obtain ⟨j,e⟩:=F
  dsimp only at hf ⊢
  by_cases he:e=0
  case neg=>rw [sel_pos (by simpa using he),if_pos he]
  obtain ⟨_,f2,f3⟩:=hf he
  subst f2
  rw [sel_neg (by simpa using he),if_neg (by simpa using he),chk_of (by simp only [List.length_map,Bool.and_true,Xu,decide_eq_true_eq];omega),Int.toNat_natCast,Kerb.getD_ent f3]
  have hx:=hok _ (Kerb.ent_mem f3)
  generalize es.getD (es.findIdx (Kerb.Entry.named n i)) Kerb.noEntry=x at hx
  obtain ⟨_,_,x3,_⟩:=hx
  have h4:(decide (0≤x.key)&&decide (x.key<18446744073709551616))=true:=x3
  simp only [Zd,↓A0,A0,h4]
  cases hk:Xw x.key
  ·rfl
  simp only [Yw,Vw,sel_true,sel_false]
  rw [if_neg (by simp)]
  have hb:Zj .i64 (BitVec.toNat (BitVec.ofInt (Xz .i64) x.attr &&& BitVec.ofInt (Xz .i64) bit):Int)=Kerb.bitOf x.attr bit:=rfl
  rw [hb]
  by_cases h1:x.expires=0
  ·rw [sel_neg (by simp [h1]),if_neg (by simp [h1])]
   by_cases h2:Kerb.bitOf x.attr bit=0
   ·rw [sel_neg (by simp [h2]),if_neg (by simp [h2])]
   ·rw [sel_pos (by simpa using h2),if_pos h2]
  ·rw [sel_pos (by simpa using h1)]
   by_cases h3:x.expires≤now
   ·rw [sel_pos (by simpa using h3),if_pos ⟨h1,h3⟩]
   ·rw [sel_neg (by simpa using h3),if_neg (by simp [h3])]
    by_cases h2:Kerb.bitOf x.attr bit=0
    ·rw [sel_neg (by simp [h2]),if_neg (by simp [h2])]
    ·rw [sel_pos (by simpa using h2),if_pos h2]
 ·cases h
theorem w230:Walked Tryz.prog G 230 4 sp230:=by
 refine ⟨Tryz.f230,Tryz.func230,by decide +kernel,rfl,fun xs bl r h=> ?_⟩
 unfold sp230 at h
 split at h
 ·rename_i en ei ek ev ex em ea ef et fn fi fk fv fx fm fa ff ft
  cases h
  refine Eq.trans (b:=(some (Zz .i64 (if Kerb.cmpB en fn=0 then Kerb.cmpB ei fi else Kerb.cmpB en fn),[]):Option (AV×Blocks))) (by kernel_rfl) ?_
  rfl
 ·cases h
theorem w238:Walked Tryz.prog G 238 4 sp238:=by
 refine ⟨Tryz.f238,Tryz.func238,by decide +kernel,rfl,fun xs bl r h=> ?_⟩
 unfold sp238 at h
 split at h
 ·rename_i b n little
  obtain ⟨hpre,h2⟩:=chk_inv h;cases h2
  refine Eq.trans (b:=(Zq (chk (decide (Zv b≤70368744177664)) (some (Yb (b++Yk n (Yy 2) little),[]))) fun (r:AV×Blocks)=>onNilB (Yx r) (AV.onOwnB (Yu r) fun l=>some (Yb l,[])):Option (AV×Blocks))) (by kernel_rfl) ?_
  simp only [decide_eq_true_eq] at hpre
  simp only [A0]
  rw [chk_of (by simp;omega)]
  rfl
 ·cases h
theorem w243:Walked Tryz.prog G 243 4 sp243:=by
 refine ⟨Tryz.f243,Tryz.func243,by decide +kernel,rfl,fun xs bl r h=> ?_⟩
 unfold sp243 at h
 split at h
 ·rename_i b
  obtain ⟨hpre,h2⟩:=chk_inv h;cases h2
  refine Eq.trans (b:=(sel (!(↑(Zv b):Int)==8) (some (Yv [Zz .u64 0,Zn false],[])) (Zq (loopM (fun (st:List AV)=>cInt .u64 st fun n r=>cBs r fun b r=>cInt .i64 r fun n_1 r=>cInt .i64 r fun n_2 r=>onNil r (sel (decide (n_2<n_1)) (chk (decide (0≤n_2)&&decide (n_2<(↑(Zv b):Int))) (some (Sum.inl [Zz .u64 (Zj .u64 (↑(BitVec.toNat (BitVec.ofInt (Xz .u64) (Zj .u64 (n*2 ^ min (Yy 8) (Xz .u64))) ||| BitVec.ofInt (Xz .u64) (Zj .u64 (↑(Ym (Xy b (Yy n_2) (0:UInt8))):Int)))):Int)),Zm b,Zz .i64 n_1,Zz .i64 (Zj .i64 (n_2+1))]))) (some (Sum.inr (Wg 0,[Zz .u64 n,Zm b,Zz .i64 n_1,Zz .i64 n_2]))))) [Zz .u64 0,Zm b,Zz .i64 (↑(Zv b):Int),Zz .i64 0]) fun (r:Ex×List AV)=>cInt .u64 (Yx r) fun n r_1=>cBs r_1 fun b r_2=>cInt .i64 r_2 fun n_1 r_3=>cInt .i64 r_3 fun n_2 r_4=>onNil r_4 (exK r.1 none fun (j:Nat)=>sel (Nat.beq j 0) (Zq (chk (decide (0≤n)&&decide (n<18446744073709551616)) (some (Zn (Xw n),[]))) (kL fun b=>sel (!b) (some (Yv [Zz .u64 0,Zn false],[])) (some (Yv [Zz .u64 n,Zn true],[])))) none)):Option (AV×Blocks))) (by kernel_rfl) ?_
  delta kL
  try dsimp only [cStr,cBs,cBool,cU8,cInt,cSl,l63]
  have hb:=of_decide_eq_true hpre
  unfold Wk
  by_cases h8:b.length=8
  case neg =>
   rw [sel_pos (by simp;omega),if_neg (by omega)]
  rw [sel_neg (by simp [h8])]
  refine loop_rounds (fun i:Nat=>[Zz Yq (Kerb.valB (b.take i)),Zm b,Zz Zw (b.length:Int),Zz Zw (i:Int)]) (fun i=>i≤8) (fun i=>8-i)
   (fun r=>r=(Wg 0,[Zz Yq (Kerb.valB b),Zm b,Zz Zw (b.length:Int),Zz Zw 8])) 0 (by omega) rfl ?_ ?_
  ·intro i hi
   simp only [A0]
   by_cases hlt:i<8
   ·have hv:=Kerb.valB_take (l:=b) (i:=i) (by omega)
    have hbd:=Kerb.valB_bd7 (l:=b.take i) (by simp;omega)
    rw [sel_pos (by simp;omega),chk_of (by simp;omega),Int.toNat_natCast,Kerb.shl8_oru _ hbd.1 hbd.2,wrap_i64 (by omega) (by omega),← hv]
    exact ⟨_,rfl,i+1,rfl,by omega,by dsimp only;omega⟩
   ·rw [sel_neg (by simp;omega)]
    refine ⟨_,rfl,?_⟩
    show _=_
    rw [List.take_of_length_le (by omega),show i=8 from by omega]
    rfl
  rintro r rfl
  have hbd:=Kerb.valB_bd8 (l:=b) (by omega)
  simp only [A0]
  rw [sel_pos (Wp _),chk_of (by simp;omega)]
  cases hv:Xw (Kerb.valB b)
  ·rw [if_neg (by simp)]
   rfl
  ·rw [if_pos ⟨h8,rfl⟩]
   rfl
 ·cases h
theorem w30:Walked Tryz.prog G 30 5 sp30:=by
 refine ⟨Tryz.f30,Tryz.func30,by decide +kernel,rfl,fun xs bl r h=> ?_⟩
 unfold sp30 at h
 split at h
 ·rename_i b
  obtain ⟨hpre,h2⟩:=chk_inv h;cases h2
  refine Eq.trans (b:=(let t0:Option (AV×Blocks):=some (Yv [Zf [Zz .i64 0,Zz .i64 0,Zm []],Zz .i64 100],[]);sel (!Yx (Kerb.headIs b [9])==0) (some (Yv [Zf [Zz .i64 0,Zz .i64 0,Zm []],Zz .i64 (Yx (Kerb.headIs b [9]))],[])) (Zq (chk (decide (Zv b≤140737488355328)) (some (Zz .i64 (Xd (Yd b 2 1 false)),[[Zm b,Zz .i64 (bif false || !Yh (Yd b 2 1 false)==0 then 2 else Xq (Yd b 2 1 false)),Zn false,Zn !Yh (Yd b 2 1 false)==0]]))) fun (r:AV×Blocks)=>onConsB (Yx r) fun (x:List AV) (r_1:List (List AV))=>cBs x fun b_1 r_2=>cInt .i64 r_2 fun n r_3=>cBool r_3 fun b_2 r_4=>cBool r_4 fun b_3 r_5=>onNil r_5 (onNilB r_1 (Yj .i64 (Yu r) fun n_1=>Zq (chk (decide (Zv b_1≤140737488355328)) (some (Zz .i64 (Xd (Yd b_1 n 1 false)),[[Zm b_1,Zz .i64 (bif b_3 || !Yh (Yd b_1 n 1 false)==0 then n else Xq (Yd b_1 n 1 false)),Zn b_2,Zn (b_3 || !Yh (Yd b_1 n 1 false)==0)]]))) fun (r:AV×Blocks)=>onConsB (Yx r) fun (x:List AV) (r_6:List (List AV))=>cBs x fun b_4 r_7=>cInt .i64 r_7 fun n r_8=>cBool r_8 fun b_5 r_9=>cBool r_9 fun b_6 r_10=>onNil r_10 (onNilB r_6 (Yj .i64 (Yu r) fun n_2=>Zq (chk (decide (Zv b_4≤140737488355328)) (some (Zz .i64 (Xd (Yd b_4 n 2 b_5)),[[Zm b_4,Zz .i64 (bif b_6 || !Yh (Yd b_4 n 2 b_5)==0 then n else Xq (Yd b_4 n 2 b_5)),Zn b_5,Zn (b_6 || !Yh (Yd b_4 n 2 b_5)==0)]]))) fun (r:AV×Blocks)=>onConsB (Yx r) fun (x:List AV) (r_11:List (List AV))=>cBs x fun b_7 r_12=>cInt .i64 r_12 fun n r_13=>cBool r_13 fun b_8 r_14=>cBool r_14 fun b_9 r_15=>onNil r_15 (onNilB r_11 (Yj .i64 (Yu r) fun n_3=>Zq (chk (decide (Zv b_7≤140737488355328)) (some (Zm (Kerb.GotB.val (Kerb.bytes b_7 n n_3)),[[Zm b_7,Zz .i64 (bif b_9 || !Kerb.GotB.err (Kerb.bytes b_7 n n_3)==0 then n else Kerb.GotB.next (Kerb.bytes b_7 n n_3)),Zn b_8,Zn (b_9 || !Kerb.GotB.err (Kerb.bytes b_7 n n_3)==0)]]))) fun (r:AV×Blocks)=>onConsB (Yx r) fun (x:List AV) (r_16:List (List AV))=>cBs x fun b_10 r_17=>cInt .i64 r_17 fun n r_18=>cBool r_18 fun b_11 r_19=>cBool r_19 fun b_12 r_20=>onNil r_20 (onNilB r_16 (AV.onBs (Yu r) fun b_13=>sel b_12 t0 (sel (!Wf (Wu (Kerb.KaReply.mk (Zj .i64 (n_1-128)) n_2 b_13))==0) t0 (sel (!Vp (Wu (Kerb.KaReply.mk (Zj .i64 (n_1-128)) n_2 b_13))==b) t0 (some (Yv [Zf [Zz .i64 (Zj .i64 (n_1-128)),Zz .i64 n_2,Zm b_13],Zz .i64 0],[]))))))))))))):Option (AV×Blocks))) (by kernel_rfl) ?_
  try dsimp only [cStr,cBs,cBool,cU8,cInt,cSl,l63]
  have hb:=of_decide_eq_true hpre
  simp only [A0,hpre]
  by_cases h:(Kerb.headIs b [9]).2=0
  case neg =>
   rw [sel_pos (by simpa using h)]
   unfold Kerb.decodeKaReply
   rw [if_pos h]
   rfl
  have hd:Kerb.decodeKaReply b=Kerb.decBy Kerb.noKaReply Wu Kerb.rdKaRep b:=by unfold Kerb.decodeKaReply;rw [if_neg (by simpa using h),Kerb.decRep_ref]
  rw [sel_neg (by simp [h]),hd]
  have hg:=Kerb.get_bd b 2 1 false (by omega)
  rw [wrap_i64 (by omega) (by omega)]
  exact Kerb.decBy_fin (no:=Kerb.noKaReply) (enc:=Wu) (rd:=Kerb.rdKaRep) _ _ rfl (fun x e=>(Yv [Zf [Zz Zw (x).op,Zz Zw (x).code,Zm (x).box],Zz Zw e],([]:Blocks)))
 ·cases h
theorem w94:Walked Tryz.prog G 94 5 sp94:=by
 refine ⟨Tryz.f94,Tryz.func94,by decide +kernel,rfl,fun xs bl r h=> ?_⟩
 unfold sp94 at h
 split at h
 ·rename_i lb t st en k
  obtain ⟨hpre,h2⟩:=chk_inv h;cases h2
  refine Eq.trans (b:=(Zq (chk (decide (0≤k)&&decide (k<18446744073709551616)) (some (Zz .i64 (Wf (Yg (Xf lb t st en k))),[]))) (kI .i64 fun n=>sel (!n==0) (some (Yv [Zm [],Zz .i64 n],[])) (Zq (chk (decide (Zv lb≤70368744177664)) (some (Yb (lb++Yk t 4 false),[]))) (kO fun l=>sel (Wh lb) (Zq (chk (decide (Zv l≤70368744177664)) (some (Yb (l++Yk st 4 false),[]))) (kO fun l=>Zq (chk (decide (Zv l≤70368744177664)) (some (Yb (l++Yk en 4 false),[]))) (kO fun l=>Zq (chk (decide (Zv l≤70368744177664)) (some (Zm (Kerb.pad l),[]))) (kB fun b=>some (Yv [Zm b,Zz .i64 0],[]))))) (Zq (chk (decide (0≤k)&&decide (k<18446744073709551616)) (some (Zm (Kerb.keyBytes k),[]))) (kB fun b=>chk (room (Zv l+Zv b) 1) (Zq (chk (decide (Zv (l++b)≤70368744177664)) (some (Zm (Kerb.pad (l++b)),[]))) (kB fun b=>some (Yv [Zm b,Zz .i64 0],[])))))))):Option (AV×Blocks))) (by kernel_rfl) ?_
  delta kB kO kI
  try dsimp only [cStr,cBs,cBool,cU8,cInt,cSl,l63]
  simp only [A0,hpre]
  by_cases he:(Yg (Xf lb t st en k)).err=0
  case neg=>rw [sel_pos (by simpa using he),Kerb.encKaSec_no he]
  rw [sel_neg (by simp [he]),he]
  have hl:lb.length=4:=by
   obtain ⟨_,⟨_,h4,_⟩ | ⟨h4,_⟩⟩:=Kerb.encKaSec_inv he
   ·exact h4
   ·simp only at h4;rw [h4];rfl
  rw [chk_of (by simp;omega)]
  rcases Kerb.encKaSec_val he with ⟨ht,hv⟩ | ⟨ht,hv⟩
  ·rw [sel_pos ht,hv,chk_of (by simp [Zk];omega),chk_of (by simp [Zk];omega),chk_of (by simp [Zk];omega)]
  ·rw [sel_neg ht,hv,chk_of (Xx (by simp [Zk,Zg];omega)),chk_of (by simp [Zk,Zg];omega)]
 ·cases h
theorem w126:Walked Tryz.prog G 126 5 sp126:=by
 refine ⟨Tryz.f126,Tryz.func126,by decide +kernel,rfl,fun xs bl r h=> ?_⟩
 unfold sp126 at h
 split at h
 ·rename_i s
  obtain ⟨hpre,h2⟩:=chk_inv h;cases h2
  refine Eq.trans (b:=(sel (!s==[]) (sel (decide ((↑(Zv s):Int)≤39)) (Zq (chk (decide (Zv s≤9223372036854775807)) (some (Zn (Xp s [(46:UInt8),(64:UInt8)]),[]))) fun (r:AV×Blocks)=>onNilB (Yx r) (Wq (Yu r) fun b=>some (Zn b,[]))) (some (Zn false,[]))) (some (Zn false,[])):Option (AV×Blocks))) (by kernel_rfl) ?_
  simp only [A0]
  rw [chk_of hpre,decide_eq_decide.2 (show ((s.length:Int)≤39)↔s.length≤39 from by omega)]
  simp only [Xm]
  cases s with
  | nil=>rfl
  | cons x r=>cases decide ((x::r).length≤39)<;>rfl
 ·cases h
theorem w127:Walked Tryz.prog G 127 5 sp127:=by
 refine ⟨Tryz.f127,Tryz.func127,by decide +kernel,rfl,fun xs bl r h=> ?_⟩
 unfold sp127 at h
 split at h
 ·rename_i s
  obtain ⟨hpre,h2⟩:=chk_inv h;cases h2
  refine Eq.trans (b:=(sel (decide ((↑(Zv s):Int)≤39)) (Zq (chk (decide (Zv s≤9223372036854775807)) (some (Zn (Xp s [(64:UInt8)]),[]))) fun (r:AV×Blocks)=>onNilB (Yx r) (Wq (Yu r) fun b=>some (Zn b,[]))) (some (Zn false,[])):Option (AV×Blocks))) (by kernel_rfl) ?_
  simp only [A0]
  rw [chk_of hpre,decide_eq_decide.2 (show ((s.length:Int)≤39)↔s.length≤39 from by omega)]
  simp only [Xk]
  cases decide (s.length≤39)<;>rfl
 ·cases h
theorem w137:Walked Tryz.prog G 137 5 sp137:=by
 refine ⟨Tryz.f137,Tryz.func137,by decide +kernel,rfl,fun xs bl r h=> ?_⟩
 unfold sp137 at h
 split at h
 ·rename_i li x y z ad k lf iss sv ins
  obtain ⟨hpre,h2⟩:=chk_inv h;cases h2
  refine Eq.trans (b:=(let t0:Nat:=Zv ([]++Yk 0 1 false)+Zv x+Zv y+Zv z;let t1:Nat:=Zv ([]++Yk 1 1 false)+Zv x+Zv y+Zv z;let t2:Option (AV×Blocks):=chk (decide (0≤k)&&decide (k<18446744073709551616)) (some (Zm (Kerb.keyBytes k),[]));Zq (chk (l63 x&&l63 y&&l63 z&&l63 sv&&l63 ins&&decide (0≤k)&&decide (k<18446744073709551616)) (some (Zz .i64 (Kerb.Ticket.err (Kerb.Ticket.mk li (Xn x y z) ad k lf iss sv ins)),[]))) (kI .i64 fun n=>sel (!n==0) (some (Yv [Zm [],Zz .i64 n],[])) (sel li (Zq (chk (decide (t1≤70368744170000)) (some (Zm (Kerb.putPrin ([]++Yk 1 1 false) (Xn x y z)),[]))) (kB fun b=>Zq (chk (decide (Zv b≤70368744177664)) (some (Yb (b++Yk ad 4 li),[]))) (kO fun l=>Zq t2 (kB fun b=>chk (room (Zv l+Zv b) 1) (Zq (chk (decide (Zv (l++b)≤70368744177664)) (some (Yb (l++b++Yk lf 1 false),[]))) (kO fun l=>Zq (chk (decide (Zv l≤70368744177664)) (some (Yb (l++Yk iss 4 li),[]))) (kO fun l=>Zq (chk (decide (Zv l+Zv sv≤70368744177664)) (some (Zm (Yp l sv),[]))) (kB fun b=>Zq (chk (decide (Zv b+Zv ins≤70368744177664)) (some (Zm (Yp b ins),[]))) (kB fun b=>Zq (chk (decide (Zv b≤70368744177664)) (some (Yb (Kerb.pad b),[]))) (kO fun l=>some (Yv [Zm l,Zz .i64 0],[]))))))))))) (Zq (chk (decide (t0≤70368744170000)) (some (Zm (Kerb.putPrin ([]++Yk 0 1 false) (Xn x y z)),[]))) (kB fun b=>Zq (chk (decide (Zv b≤70368744177664)) (some (Yb (b++Yk ad 4 li),[]))) (kO fun l=>Zq t2 (kB fun b=>chk (room (Zv l+Zv b) 1) (Zq (chk (decide (Zv (l++b)≤70368744177664)) (some (Yb (l++b++Yk lf 1 false),[]))) (kO fun l=>Zq (chk (decide (Zv l≤70368744177664)) (some (Yb (l++Yk iss 4 li),[]))) (kO fun l=>Zq (chk (decide (Zv l+Zv sv≤70368744177664)) (some (Zm (Yp l sv),[]))) (kB fun b=>Zq (chk (decide (Zv b+Zv ins≤70368744177664)) (some (Zm (Yp b ins),[]))) (kB fun b=>Zq (chk (decide (Zv b≤70368744177664)) (some (Yb (Kerb.pad b),[]))) (kO fun l=>some (Yv [Zm l,Zz .i64 0],[]))))))))))))):Option (AV×Blocks))) (by kernel_rfl) ?_
  delta kB kO kI
  try dsimp only [cStr,cBs,cBool,cU8,cInt,cSl,l63]
  simp only [Xu,decide_eq_true_eq] at hpre
  obtain ⟨⟨⟨⟨⟨⟨h1,h2⟩,h3⟩,h4⟩,h5⟩,h6⟩,h7⟩:=hpre
  simp only [h1,h2,h3,h4,h5,h6,h7,decide_true,Yn,↓A0,A0]
  have hb := @Kerb.encTicket_inv ⟨li,⟨x,y,z⟩,ad,k,lf,iss,sv,ins⟩
  unfold Vu at hb ⊢
  dsimp only at hb ⊢
  generalize hE:Kerb.Ticket.err _=e at hb ⊢
  by_cases he:e=0
  case neg=>rw [sel_pos (by simpa using he),if_pos he]
  rw [if_neg (by simpa using he)] at hb
  obtain ⟨v1,v2,v3,_⟩:=hb rfl
  have l1:=Kerb.valid_len v1
  have l2:=(Kerb.name_ok v2).1
  have l3:=(Kerb.inst_ok v3).1
  dsimp only at l1
  rw [sel_neg (by simpa using he),if_neg (by simpa using he)]
  cases li
  ·rw [sel_false,chk_of (by first | (simp [Zb,Zk,Zg];done) | (simp [Zb,Zk,Zg];omega)),chk_of (by first | (simp [Zb,Zk,Zg];done) | (simp [Zb,Zk,Zg];omega)),chk_of (Xx (by first | (simp [Zb,Zk,Zg];done) | (simp [Zb,Zk,Zg];omega))),chk_of (by first | (simp [Zb,Zk,Zg];done) | (simp [Zb,Zk,Zg];omega)),chk_of (by first | (simp [Zb,Zk,Zg];done) | (simp [Zb,Zk,Zg];omega)),chk_of (by first | (simp [Zb,Zk,Zg];done) | (simp [Zb,Zk,Zg];omega)),chk_of (by first | (simp [Yp,Zb,Zk,Zg];done) | (simp [Yp,Zb,Zk,Zg];omega)),chk_of (by first | (simp [Yp,Zb,Zk,Zg];done) | (simp [Yp,Zb,Zk,Zg];omega))]
   simp
  ·rw [sel_true,chk_of (by first | (simp [Zb,Zk,Zg];done) | (simp [Zb,Zk,Zg];omega)),chk_of (by first | (simp [Zb,Zk,Zg];done) | (simp [Zb,Zk,Zg];omega)),chk_of (Xx (by first | (simp [Zb,Zk,Zg];done) | (simp [Zb,Zk,Zg];omega))),chk_of (by first | (simp [Zb,Zk,Zg];done) | (simp [Zb,Zk,Zg];omega)),chk_of (by first | (simp [Zb,Zk,Zg];done) | (simp [Zb,Zk,Zg];omega)),chk_of (by first | (simp [Zb,Zk,Zg];done) | (simp [Zb,Zk,Zg];omega)),chk_of (by first | (simp [Yp,Zb,Zk,Zg];done) | (simp [Yp,Zb,Zk,Zg];omega)),chk_of (by first | (simp [Yp,Zb,Zk,Zg];done) | (simp [Yp,Zb,Zk,Zg];omega))]
   simp
 ·cases h
theorem w155:Walked Tryz.prog G 155 5 sp155:=by
 refine ⟨Tryz.f155,Tryz.func155,by decide +kernel,rfl,fun xs bl r h=> ?_⟩
 unfold sp155 at h
 split at h
 ·rename_i rl els n i now
  obtain ⟨hpre,h2⟩:=chk_inv h;cases h2
  refine Eq.trans (b:=(Zq (chk (List.all els Kerb.isEntry&&decide (Zv els≤1000000)) (some (Yv [Zz .i64 (Yu (Kerb.useEnt (Kerb.Db.mk rl (List.map Wb els)) n i now 1 1 5)),Zz .i64 (Yx (Kerb.useEnt (Kerb.Db.mk rl (List.map Wb els)) n i now 1 1 5))],[]))) fun (r:AV×Blocks)=>onNilB (Yx r) (Wy (Yu r) fun vs=>onCons vs fun x r=>Yj .i64 x fun n=>onCons r fun x r=>Yj .i64 x fun n_1=>onNil r (some (Yv [Zz .i64 n,Zz .i64 n_1],[]))):Option (AV×Blocks))) (by kernel_rfl) ?_
  simp only [hpre,↓A0,A0]
  rfl
 ·cases h
theorem w188:Walked Tryz.prog G 188 5 sp188:=by
 refine ⟨Tryz.f188,Tryz.func188,by decide +kernel,rfl,fun xs bl r h=> ?_⟩
 unfold sp188 at h
 split at h
 ·rename_i b t
  obtain ⟨hpre,h2⟩:=chk_inv h;cases h2
  refine Eq.trans (b:=(Zq (chk (decide (Zv b≤70368744177664)) (some (Yb (b++Yk (↑(Zv t):Int) 1 false),[]))) fun (r:AV×Blocks)=>onNilB (Yx r) (AV.onOwnB (Yu r) fun l=>chk (room (Zv l+Zv t) 1) (some (Zm (l++t),[]))):Option (AV×Blocks))) (by kernel_rfl) ?_
  simp only [decide_eq_true_eq] at hpre
  simp only [A0]
  rw [chk_of (by simp;omega),chk_of (Xx (by simp [Zk];omega))]
  rfl
 ·cases h
theorem w190:Walked Tryz.prog G 190 5 sp190:=by
 refine ⟨Tryz.f190,Tryz.func190,by decide +kernel,rfl,fun xs bl r h=> ?_⟩
 unfold sp190 at h
 split at h
 ·rename_i b t
  obtain ⟨hpre,h2⟩:=chk_inv h;cases h2
  refine Eq.trans (b:=(Zq (chk (decide (Zv b≤70368744177664)) (some (Yb (b++Yk (↑(Zv t):Int) 2 false),[]))) fun (r:AV×Blocks)=>onNilB (Yx r) (AV.onOwnB (Yu r) fun l=>chk (room (Zv l+Zv t) 1) (some (Zm (l++t),[]))):Option (AV×Blocks))) (by kernel_rfl) ?_
  simp only [decide_eq_true_eq] at hpre
  simp only [A0]
  rw [chk_of (by simp;omega),chk_of (Xx (by simp [Zk];omega))]
  rfl
 ·cases h
theorem w204:Walked Tryz.prog G 204 5 sp204:=by
 refine ⟨Tryz.f204,Tryz.func204,by decide +kernel,rfl,fun xs bl r h=> ?_⟩
 unfold sp204 at h
 split at h
 ·rename_i b
  obtain ⟨hpre,h2⟩:=chk_inv h;cases h2
  refine Eq.trans (b:=(let t1:Int:=Zj .i64 (↑(BitVec.toNat (BitVec.ofInt (Xz .i64) (Zj .i64 (Zj .i64 (↑(Ym (Xy b (Yy 10) (0:UInt8))):Int)*2 ^ min (Yy 8) (Xz .i64))) ||| BitVec.ofInt (Xz .i64) (Zj .i64 (↑(Ym (Xy b (Yy 11) (0:UInt8))):Int)))):Int);let t2:Option (AV×Blocks):=some (Yv [Zf [Zz .i64 0,Zz .u64 0,Zm []],Zz .i64 0,Zz .i64 100],[]);let t3:Option (AV×Blocks):=some (Yv [Zf [Zz .i64 0,Zz .u64 0,Zm []],Zz .i64 0,Zz .i64 101],[]);let t0:Int:=Zj .i64 (12+t1);sel (decide ((↑(Zv b):Int)<12)) t3 (chk (decide (1<(↑(Zv b):Int))) (chk (decide (10≤(↑(Zv b):Int))) (Zq (chk (decide (Zv (Wm (Yy 2) (Wn (Yy 10) b))≤4611686018427387904)) (some (Yv [Zz .u64 (Yu (Wk (Wm (Yy 2) (Wn (Yy 10) b)))),Zn (Yx (Wk (Wm (Yy 2) (Wn (Yy 10) b))))],[]))) (kT fun vs=>cInt .u64 vs fun n r=>cBool r fun b_1 r=>onNil r (chk (decide (10<(↑(Zv b):Int))) (chk (decide (11<(↑(Zv b):Int))) (chk (decide (0<(↑(Zv b):Int))) (sel (!Xy b (Yy 0) (0:UInt8)==(66:UInt8)) t2 (sel (!Kerb.isKind (Zj .i64 (↑(Ym (Xy b (Yy 1) (0:UInt8))):Int))) t2 (sel (!b_1) t2 (sel (decide (t1>1000)) t2 (sel (decide ((↑(Zv b):Int)<t0)) t3 (chk (decide (12≤t0)&&decide (t0≤t0)&&decide (t0≤(↑(Zv b):Int))) (Zq (chk (decide (Zv (Wm (Yy 12) (Wn (Yy t0) b))≤140737488355328)) (some (Zm (Wm (Yy 12) (Wn (Yy t0) b)),[]))) (kB fun b_2=>some (Yv [Zf [Zz .i64 (Zj .i64 (↑(Ym (Xy b (Yy 1) (0:UInt8))):Int)),Zz .u64 n,Zm b_2],Zz .i64 t0,Zz .i64 0],[])))))))))))))))):Option (AV×Blocks))) (by kernel_rfl) ?_
  delta kT kB
  try dsimp only [cStr,cBs,cBool,cU8,cInt,cSl,l63]
  simp only [decide_eq_true_eq] at hpre
  unfold Wj
  by_cases h0:b.length<12
  ·rw [sel_pos (by simp;omega),if_pos h0];rfl
  rw [sel_neg (by simp;omega),if_neg h0]
  have hc:=Kerb.cut_len b 2 8
  have hs:(b.getD 10 0).toNat*256+(b.getD 11 0).toNat=Kerb.boxSize b:=rfl
  simp only [Kerb.cut_28,Kerb.size_or]
  simp only [show Yy 0=0 from rfl,show Yy 1=1 from rfl,show Yy 10=10 from rfl,show Yy 11=11 from rfl,Kerb.wrap_byte,hs]
  rw [chk_of (by simp;omega),chk_of (by simp;omega),chk_of (by simp;omega)]
  simp only [↓A0]
  rw [chk_of (by simp;omega),chk_of (by simp;omega),chk_of (by simp;omega)]
  by_cases h1:b.getD 0 0=66
  case neg=>rw [sel_pos (by simpa using h1),if_pos (.inl h1)];rfl
  rw [sel_neg (by simpa using h1)]
  cases h2:Kerb.isKind ((b.getD 1 0).toNat:Int)
  ·rw [if_pos (.inr (.inl rfl))];rfl
  rw [Yw,sel_false]
  cases h3:(Wk (Kerb.cut b 2 8)).2
  ·rw [if_pos (.inr (.inr (.inl rfl)))];rfl
  rw [Yw,sel_false]
  by_cases h4:1000<Kerb.boxSize b
  ·rw [sel_pos (by simp;omega),if_pos (.inr (.inr (.inr h4)))];rfl
  rw [sel_neg (by simp;omega),if_neg (by rintro (h | h | h | h)<;>first | exact h h1 | cases h | omega),wrap_i64 (by omega) (by omega)]
  by_cases h5:b.length<12+Kerb.boxSize b
  ·rw [sel_pos (by simp;omega),if_pos h5];rfl
  have hc2:=Kerb.cut_len b 12 (Kerb.boxSize b)
  rw [sel_neg (by simp;omega),if_neg h5,Kerb.cut_12,chk_of (by simp;omega)]
  simp only [↓A0]
  rw [chk_of (by simp;omega)]
  simp
 ·cases h
theorem w207:Walked Tryz.prog G 207 5 sp207:=by
 refine ⟨Tryz.f207,Tryz.func207,by decide +kernel,rfl,fun xs bl r h=> ?_⟩
 unfold sp207 at h
 split at h
 ·rename_i B at_ bad
  obtain ⟨hpre,h2⟩:=chk_inv h;cases h2
  show runFnH (G.env 207 5) G.rts (G.own 207) Tryz.f207 _ _ [0]=_
  refine Eq.trans (b:=(Zq (chk (decide (Zv B≤140737488355328)) (some (Zm (Vz (Xv B 8 at_ bad)),[[Zm B,Zz .i64 (Vy (Xv B 8 at_ bad)),Zn (Vx (Xv B 8 at_ bad))]]))) fun (r:AV×Blocks)=>onConsB (Yx r) fun (x:List AV) (r_1:List (List AV))=>onCons x fun x r_2=>AV.onBs x fun b=>onCons r_2 fun x r_3=>Yj .i64 x fun n=>onCons r_3 fun x r_4=>Wq x fun b_1=>onNil r_4 (onNilB r_1 (AV.onBs (Yu r) fun b_2=>Zq (chk (decide (Zv b_2≤4611686018427387904)) (some (Yv [Zz .u64 (Yu (Wk b_2)),Zn (Yx (Wk b_2))],[]))) fun (r:AV×Blocks)=>onNilB (Yx r) (Wy (Yu r) fun vs=>onCons vs fun x r=>Yj .u64 x fun n_1=>onCons r fun x r=>Wq x fun b_3=>onNil r (sel (!b_3) (some (Zz .u64 0,[[Zm b,Zz .i64 n,Zn true]])) (some (Zz .u64 n_1,[[Zm b,Zz .i64 n,Zn b_1]])))))):Option (AV×Blocks))) (by kernel_rfl) ?_
  have hb:=of_decide_eq_true hpre
  simp only [A0]
  have hl:(Xv B 8 at_ bad).val.length≤B.length:=Kerb.pBytes_len B 8 at_ bad
  rw [chk_of hpre,chk_of (by simp;omega)]
  unfold Kerb.pKey
  cases (Wk (Xv B 8 at_ bad).val).2
  ·simp [sel]
  ·simp [sel]
 ·cases h
theorem w216:Walked Tryz.prog G 216 5 sp216:=by
 refine ⟨Tryz.f216,Tryz.func216,by decide +kernel,rfl,fun xs bl r h=> ?_⟩
 unfold sp216 at h
 split at h
 ·rename_i rl els n i now
  obtain ⟨hpre,h2⟩:=chk_inv h;cases h2
  refine Eq.trans (b:=(Zq (chk (List.all els Kerb.isEntry&&decide (Zv els≤1000000)) (some (Yv [Zz .i64 (Yu (Kerb.useEnt (Kerb.Db.mk rl (List.map Wb els)) n i now 2 2 6)),Zz .i64 (Yx (Kerb.useEnt (Kerb.Db.mk rl (List.map Wb els)) n i now 2 2 6))],[]))) fun (r:AV×Blocks)=>onNilB (Yx r) (Wy (Yu r) fun vs=>onCons vs fun x r=>Yj .i64 x fun n=>onCons r fun x r=>Yj .i64 x fun n_1=>onNil r (some (Yv [Zz .i64 n,Zz .i64 n_1],[]))):Option (AV×Blocks))) (by kernel_rfl) ?_
  simp only [hpre,↓A0,A0]
  rfl
 ·cases h
theorem w61:Walked Tryz.prog G 61 6 sp61:=by
 refine ⟨Tryz.f61,Tryz.func61,by decide +kernel,rfl,fun xs bl r h=> ?_⟩
 unfold sp61 at h
 split at h
 ·rename_i li x y z ad k lf iss sv ins key
  obtain ⟨hpre,h2⟩:=chk_inv h;cases h2
  refine Eq.trans (b:=(Zq (chk (decide (Zv x≤9223372036854775807)&&decide (Zv y≤9223372036854775807)&&decide (Zv z≤9223372036854775807)&&decide (Zv sv≤9223372036854775807)&&decide (Zv ins≤9223372036854775807)&&decide (0≤k)&&decide (k<18446744073709551616)) (some (Yv [Zm (Vp (Vu (Kerb.Ticket.mk li (Xn x y z) ad k lf iss sv ins))),Zz .i64 (Wf (Vu (Kerb.Ticket.mk li (Xn x y z) ad k lf iss sv ins)))],[]))) fun (r:AV×Blocks)=>onNilB (Yx r) (Wy (Yu r) fun vs=>onCons vs fun x r=>AV.onBs x fun b=>onCons r fun x r=>Yj .i64 x fun n=>onNil r (sel (!n==0) (some (Yv [Zm [],Zz .i64 n],[])) (Zq (chk (decide (0≤key)&&decide (key<18446744073709551616)) (some (Yv [Zm (Vp (Kerb.makeBox 1 key b)),Zz .i64 (Wf (Kerb.makeBox 1 key b))],[]))) fun (r:AV×Blocks)=>onNilB (Yx r) (Wy (Yu r) fun vs=>onCons vs fun x r=>AV.onBs x fun b=>onCons r fun x r=>Yj .i64 x fun n=>onNil r (some (Yv [Zm b,Zz .i64 n],[])))))):Option (AV×Blocks))) (by kernel_rfl) ?_
  simp only [Xu,decide_eq_true_eq] at hpre
  obtain ⟨⟨⟨⟨⟨⟨⟨⟨h1,h2⟩,h3⟩,h4⟩,h5⟩,h6⟩,h7⟩,h8⟩,h9⟩:=hpre
  simp only [h1,h2,h3,h4,h5,h6,h7,h8,h9,decide_true,Yn,↓A0,A0]
  unfold Kerb.sealTicket
  generalize Vu _=E
  by_cases he:E.err=0
  ·rw [sel_neg (by simpa using he),if_neg (by simpa using he)]
  ·rw [sel_pos (by simpa using he),if_pos he]
 ·cases h
theorem w120:Walked Tryz.prog G 120 6 sp120:=by
 refine ⟨Tryz.f120,Tryz.func120,by decide +kernel,rfl,fun xs bl r h=> ?_⟩
 unfold sp120 at h
 split at h
 ·rename_i op cd bx
  cases h
  refine Eq.trans (b:=(let t2:List UInt8:=Kerb.header 9 false++Yk (Zj .i64 (op+128)) 1 false;let t1:Nat:=Zv t2;let t0:Option (AV×Blocks):=Zq (chk (decide (t1≤70368744177664)) (some (Yb (t2++Yk cd 1 false),[]))) (kO fun l=>Zq (chk (decide (Zv l+Zv bx≤70368744170000)) (some (Zm (Kerb.putBox l bx),[]))) (kB fun b=>some (Yv [Zm b,Zz .i64 0],[])));sel (!Kerb.kaOp op) (some (Yv [Zm [],Zz .i64 40],[])) (sel (!Zh cd 99) (some (Yv [Zm [],Zz .i64 104],[])) (sel (decide ((↑(Zv bx):Int)>1012)) (some (Yv [Zm [],Zz .i64 105],[])) (sel (!cd==0) (sel (decide ((↑(Zv bx):Int)>0)) (some (Yv [Zm [],Zz .i64 108],[])) t0) t0))):Option (AV×Blocks))) (by kernel_rfl) ?_
  delta kB kO
  try dsimp only [cStr,cBs,cBool,cU8,cInt,cSl,l63]
  simp only [A0]
  have hl9:(Kerb.header 9 false).length=2:=rfl
  unfold Wu
  simp only
  cases h0:Kerb.kaOp op
  ·rfl
  rw [Yw,sel_false,if_neg (by simp)]
  have ho:=Kerb.kaOp_iff.1 h0
  cases h1:Zh cd 99
  ·rfl
  rw [Yw,sel_false,if_neg (by simp)]
  by_cases h2:1012<bx.length
  ·rw [sel_pos (by simp;omega),if_pos h2]
  rw [sel_neg (by simp;omega),if_neg h2,wrap_i64 (by omega) (by omega)]
  by_cases h3:cd=0
  ·rw [sel_neg (by simp [h3]),if_neg (by simp [h3]),chk_of (by simp [Zk,hl9]),chk_of (by simp [Zk,hl9];omega)]
   rfl
  rw [sel_pos (by simpa using h3)]
  by_cases h4:bx=[]
  ·rw [sel_neg (by simp [h4]),if_neg (by simp [h4]),chk_of (by simp [Zk,hl9]),chk_of (by simp [Zk,hl9];omega)]
   rfl
  ·rw [sel_pos (by have:=List.length_pos_iff.2 h4;simp;omega),if_pos ⟨h3,h4⟩]
 ·cases h
theorem w122:Walked Tryz.prog G 122 6 sp122:=by
 refine ⟨Tryz.f122,Tryz.func122,by decide +kernel,rfl,fun xs bl r h=> ?_⟩
 unfold sp122 at h
 split at h
 ·rename_i b kd k
  obtain ⟨hpre,h2⟩:=chk_inv h;cases h2
  refine Eq.trans (b:=(Zq (chk (decide (Zv b≤140737488355328)) (some (Yv [Zf [Zz .i64 (Kerb.Box.kind (Kerb.GotBox.box (Wj b))),Zz .u64 (Kerb.Box.key (Kerb.GotBox.box (Wj b))),Zm (Kerb.Box.body (Kerb.GotBox.box (Wj b)))],Zz .i64 (Kerb.GotBox.n (Wj b)),Zz .i64 (Kerb.GotBox.err (Wj b))],[]))) fun (r:AV×Blocks)=>onNilB (Yx r) (Wy (Yu r) fun vs=>onCons vs fun x r=>AV.onAgg x fun cs=>onCons cs fun x r_1=>Yj .i64 x fun n=>onCons r_1 fun x r_2=>Yj .u64 x fun n_1=>onCons r_2 fun x r_3=>AV.onBs x fun b_1=>onNil r_3 (onCons r fun x r=>Yj .i64 x fun n_2=>onCons r fun x r=>Yj .i64 x fun n_3=>onNil r (sel (!n_3==0) (some (Yv [Zm [],Zn false],[])) (sel (!n_2==(↑(Zv b):Int)) (some (Yv [Zm [],Zn false],[])) (sel (!n==kd) (some (Yv [Zm [],Zn false],[])) (sel (!n_1==k) (some (Yv [Zm [],Zn false],[])) (some (Yv [Zm b_1,Zn true],[])))))))):Option (AV×Blocks))) (by kernel_rfl) ?_
  simp only [↓A0,hpre]
  unfold Kerb.openBox
  generalize Wj b=r
  by_cases h1:r.err=0
  case neg=>rw [sel_pos (by simpa using h1),if_pos (.inl h1)]
  rw [sel_neg (by simpa using h1)]
  by_cases h2:r.n=b.length
  case neg=>rw [sel_pos (by simpa using h2),if_pos (.inr (.inl h2))]
  rw [sel_neg (by simpa using h2)]
  by_cases h3:r.box.kind=kd
  case neg=>rw [sel_pos (by simpa using h3),if_pos (.inr (.inr (.inl h3)))]
  rw [sel_neg (by simpa using h3)]
  by_cases h4:r.box.key=k
  case neg=>rw [sel_pos (by simpa using h4),if_pos (.inr (.inr (.inr h4)))]
  rw [sel_neg (by simpa using h4),if_neg (by simp [h1,h2,h3,h4])]
 ·cases h
theorem w128:Walked Tryz.prog G 128 6 sp128:=by
 refine ⟨Tryz.f128,Tryz.func128,by decide +kernel,rfl,fun xs bl r h=> ?_⟩
 unfold sp128 at h
 split at h
 ·rename_i s
  obtain ⟨hpre,h2⟩:=chk_inv h;cases h2
  refine Eq.trans (b:=(sel (!s==[]) (Zq (chk (decide (Zv s≤9223372036854775807)) (some (Zn (Xk s),[]))) fun (r:AV×Blocks)=>onNilB (Yx r) (Wq (Yu r) fun b=>some (Zn b,[]))) (some (Zn false,[])):Option (AV×Blocks))) (by kernel_rfl) ?_
  simp only [A0]
  rw [chk_of hpre]
  simp only [Kerb.validRealm]
  cases s<;>rfl
 ·cases h
theorem w220:Walked Tryz.prog G 220 6 sp220:=by
 refine ⟨Tryz.f220,Tryz.func220,by decide +kernel,rfl,fun xs bl r h=> ?_⟩
 unfold sp220 at h
 split at h
 ·rename_i b
  obtain ⟨hpre,h2⟩:=chk_inv h;cases h2
  refine Eq.trans (b:=(let t0:Option (AV×Blocks):=some (Yv [Zf [Zy [],Zz .i64 0,Zz .i64 0,Zz .i64 0,Zz .u64 0],Zz .i64 100],[]);Zq (chk (decide (Zv b≤140737488355328)) (some (Zm (Vz (Xv b 4 0 false)),[[Zm b,Zz .i64 (Vy (Xv b 4 0 false)),Zn (Vx (Xv b 4 0 false))]]))) fun (r:AV×Blocks)=>onConsB (Yx r) fun (x:List AV) (r_1:List (List AV))=>cBs x fun b_1 r_2=>cInt .i64 r_2 fun n r_3=>cBool r_3 fun b_2 r_4=>onNil r_4 (onNilB r_1 (AV.onBs (Yu r) fun b_3=>Zq (chk (decide (Zv b_1≤140737488355328)) (some (Zz .i64 (Vz (Xj b_1 4 n b_2)),[[Zm b_1,Zz .i64 (Vy (Xj b_1 4 n b_2)),Zn (Vx (Xj b_1 4 n b_2))]]))) fun (r:AV×Blocks)=>onConsB (Yx r) fun (x:List AV) (r_5:List (List AV))=>cBs x fun b_4 r_6=>cInt .i64 r_6 fun n r_7=>cBool r_7 fun b_5 r_8=>onNil r_8 (onNilB r_5 (Yj .i64 (Yu r) fun n_1=>sel (Wh b_3) (Zq (chk (decide (Zv b_4≤140737488355328)) (some (Zz .i64 (Vz (Xj b_4 4 n b_5)),[[Zm b_4,Zz .i64 (Vy (Xj b_4 4 n b_5)),Zn (Vx (Xj b_4 4 n b_5))]]))) fun (r:AV×Blocks)=>onConsB (Yx r) fun (x:List AV) (r_9:List (List AV))=>cBs x fun b_6 r_10=>cInt .i64 r_10 fun n r_11=>cBool r_11 fun b_7 r_12=>onNil r_12 (onNilB r_9 (Yj .i64 (Yu r) fun n_2=>Zq (chk (decide (Zv b_6≤140737488355328)) (some (Zz .i64 (Vz (Xj b_6 4 n b_7)),[[Zm b_6,Zz .i64 (Vy (Xj b_6 4 n b_7)),Zn (Vx (Xj b_6 4 n b_7))]]))) fun (r:AV×Blocks)=>onConsB (Yx r) fun (x:List AV) (r_13:List (List AV))=>cBs x fun b_8 r_14=>cInt .i64 r_14 fun n r_15=>cBool r_15 fun b_9 r_16=>onNil r_16 (onNilB r_13 (Yj .i64 (Yu r) fun n=>sel b_9 t0 (sel (!Wf (Yg (Xf b_3 n_1 n_2 n 0))==0) t0 (sel (!Vp (Yg (Xf b_3 n_1 n_2 n 0))==b) t0 (some (Yv [Zf [Zy b_3,Zz .i64 n_1,Zz .i64 n_2,Zz .i64 n,Zz .u64 0],Zz .i64 0],[]))))))))) (Zq (chk (decide (Zv b_4≤140737488355328)) (some (Zz .u64 (Vz (Kerb.pKey b_4 n b_5)),[[Zm b_4,Zz .i64 (Vy (Kerb.pKey b_4 n b_5)),Zn (Vx (Kerb.pKey b_4 n b_5))]]))) fun (r:AV×Blocks)=>onConsB (Yx r) fun (x:List AV) (r_9:List (List AV))=>cBs x fun b_6 r_10=>cInt .i64 r_10 fun n r_11=>cBool r_11 fun b_7 r_12=>onNil r_12 (onNilB r_9 (Yj .u64 (Yu r) fun n=>sel b_7 t0 (Zq (chk (decide (0≤n)&&decide (n<18446744073709551616)) (some (Yv [Zm (Vp (Yg (Xf b_3 n_1 0 0 n))),Zz .i64 (Wf (Yg (Xf b_3 n_1 0 0 n)))],[]))) (kT fun vs=>cBs vs fun b_8 r=>cInt .i64 r fun n_2 r=>onNil r (sel (!n_2==0) t0 (sel (!b_8==b) t0 (some (Yv [Zf [Zy b_3,Zz .i64 n_1,Zz .i64 0,Zz .i64 0,Zz .u64 n],Zz .i64 0],[]))))))))))))):Option (AV×Blocks))) (by kernel_rfl) ?_
  delta kT
  try dsimp only [cStr,cBs,cBool,cU8,cInt,cSl,l63]
  have hb:=of_decide_eq_true hpre
  simp only [A0,hpre]
  cases ht:Wh (Xv b 4 0 false).val
  ·have hk:=Kerb.pKey_bd b (Xj b 4 (Xv b 4 0 false).pos (Xv b 4 0 false).bad).pos (Xj b 4 (Xv b 4 0 false).pos (Xv b 4 0 false).bad).bad
   rw [sel_false,chk_of (by simp;omega)]
   exact Kerb.decBy_fin (no:=Kerb.noKaSecret) (enc:=Yg) (rd:=Kerb.readKaSec) _ _ (by unfold Kerb.readKaSec Kerb.pSec;dsimp only;rw [ht];rfl) (fun x e=>(Yv [Zf [Zy (x).label,Zz Zw (x).time,Zz Zw (x).start,Zz Zw (x).stop,Zz Yq (x).new],Zz Zw e],([]:Blocks)))
  ·rw [sel_true]
   exact Kerb.decBy_fin (no:=Kerb.noKaSecret) (enc:=Yg) (rd:=Kerb.readKaSec) _ _ (by unfold Kerb.readKaSec Kerb.pSec;dsimp only;rw [ht];rfl) (fun x e=>(Yv [Zf [Zy (x).label,Zz Zw (x).time,Zz Zw (x).start,Zz Zw (x).stop,Zz Yq (x).new],Zz Zw e],([]:Blocks)))
 ·cases h
theorem w229:Walked Tryz.prog G 229 6 sp229:=by
 refine ⟨Tryz.f229,Tryz.func229,by decide +kernel,rfl,fun xs bl r h=> ?_⟩
 unfold sp229 at h
 split at h
 ·rename_i en ei ek ev ex em ea ef et
  obtain ⟨hpre,h2⟩:=chk_inv h;cases h2
  refine Eq.trans (b:=(let t0:Option (AV×Blocks):=sel (!Zh ev 255) (some (Zz .i64 104,[])) (sel (!Zh ex 4294967295) (some (Zz .i64 104,[])) (sel (!Zh et 4294967295) (some (Zz .i64 104,[])) (sel (!Zh em 255) (some (Zz .i64 104,[])) (sel (!Zh ea 3) (some (Zz .i64 104,[])) (sel (!Zh ef 20) (some (Zz .i64 104,[])) (some (Zz .i64 0,[])))))));Zq (chk (l63 en) (some (Zn (Xm en),[]))) (kL fun b=>sel (!b) (some (Zz .i64 103,[])) (Zq (chk (l63 ei) (some (Zn (Xk ei),[]))) (kL fun b=>sel (!b) (some (Zz .i64 103,[])) (sel (!ek==0) (Zq (chk (decide (0≤ek)&&decide (ek<18446744073709551616)) (some (Zn (Xw ek),[]))) (kL fun b=>sel (!b) (some (Zz .i64 10,[])) t0)) t0)))):Option (AV×Blocks))) (by kernel_rfl) ?_
  delta kL
  try dsimp only [cStr,cBs,cBool,cU8,cInt,cSl,l63]
  simp only [Xu,decide_eq_true_eq] at hpre
  obtain ⟨⟨h1,h2⟩,h3⟩:=hpre
  have h4:(decide (0≤ek)&&decide (ek<18446744073709551616))=true:=h3
  simp only [h1,h2,h4,decide_true,↓A0,A0]
  unfold Kerb.Entry.err
  dsimp only
  cases Xm en
  ·rfl
  cases Xk ei
  ·rfl
  simp only [Yw,Vw,sel_true,sel_false]
  rw [if_neg (by simp)]
  by_cases hk:ek=0
  ·rw [sel_neg (by simp [hk]),if_neg (by simp [hk])]
   cases Zh ev 255<;>cases Zh ex 4294967295<;>cases Zh et 4294967295<;>cases Zh em 255<;>cases Zh ea 3<;>cases Zh ef 20<;>rfl
  rw [sel_pos (by simpa using hk)]
  cases hv:Xw ek
  ·rw [if_pos ⟨hk,rfl⟩];rfl
  simp only [Yw,Vw,sel_true,sel_false]
  rw [if_neg (by simp)]
  cases Zh ev 255<;>cases Zh ex 4294967295<;>cases Zh et 4294967295<;>cases Zh em 255<;>cases Zh ea 3<;>cases Zh ef 20<;>rfl
 ·cases h
end Go.Proofs.YtaikjfcgemjghaaGreat
