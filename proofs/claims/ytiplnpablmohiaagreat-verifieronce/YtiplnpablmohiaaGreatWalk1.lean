/- What the functions of this seat compute. -/
import Derived.Test.YtiplnpablmohiaaGreatTab
import Derived.Test.YtiplnpablmohiaaGreatKerbPlain
import Derived.Test.YtiplnpablmohiaaGreatAbsStep
import Derived.Test.YtiplnpablmohiaaGreatKerbCli3
import Derived.Test.YtiplnpablmohiaaGreatKerbCli4
import Derived.Test.YtiplnpablmohiaaGreatKerbKac4
import Derived.Test.YtiplnpablmohiaaGreatKerbVerL
open List renaming length→Zz,append→Yb,getD→Ym,take_of_length_le→Xk,drop_eq_nil_of_le→Xp,replicate→Xb,take→Xn,range_succ→Xm,drop→Wj,length_map→Vd
open Go.IntKind renaming wrap→Zy,i64→Zv,bits→Zf,u64→Xz
open Go.Abs.AV renaming int→Zx,bool→Zq,str→Zk,ownB→Zn,bs→Zh,tup→Yx,onOwnB→Xx,sl→Xv,onBool→Xq,onInt→Xd,onStr→Wy,agg→Wg,undef→Vh
open Option renaming bind→Zw
open Int renaming toNat→Zu,tmod→Yy,toNat_natCast→Yn,tmod_eq_emod_of_nonneg→Yh,fdiv→Wn,tdiv→Vz,tdiv_eq_ediv_of_nonneg→Vm
open Kerb renaming putN_len→Zj,putPrin_len→Zp,keyBytes_len→Zd,within→Zg,putN→Zb,putText→Yv,room_ok→Yu,indexOf→Yq,bfd→Yp,printable→Yf,keyValid→Yg,isKind→Xu,header→Xf,putText_len→Xg,get→Xh,readHead→Wz,byteAt→Wm,bfd_eq→Wh,skAt→Vx,room→Vw,isSerial→Vv,okB→Vj,isClass→Vf,validName→Vg,bytes→Vb,keyBytes→Uy
open Prod renaming snd→Zm,fst→Yw
open Bool renaming and_eq_true→Yz,not_true→Xw,and_self→Vq
open UInt8 renaming toNat→Yj,ofNat→Yk
open Nat renaming beq_refl→Yd,beq→Wq,zero_le→Wp,blt→Uz
open Go.Abs.Ex renaming exit→Xy
open Sum renaming inr→Xj,inl→Wu
open Kerb.Prin renaming mk→Wx,valid→Wk,realm→Vy,name→Vk,inst→Vp
open Kerb.Case renaming mk→Ww,me→Wv
open Kerb.Client renaming av→Wd
open Kerb.Cache renaming av→Wf
open Kerb.Cred renaming av→Wb
open Kerb.SKey renaming av→Vu
open Kerb.Got renaming next→Vn,val→Ux,err→Uw
namespace Go.Proofs.YtiplnpablmohiaaGreat
open Go Go.Abs Go.Proofs
set_option linter.unusedVariables false
set_option linter.unusedSimpArgs false
set_option maxRecDepth 100000
theorem w12:Walked Tryz.prog G 12 1 sp12:=by
 refine ⟨Tryz.f12,Tryz.func12,by decide +kernel,rfl,fun xs bl r h=> ?_⟩
 unfold sp12 at h
 split at h
 ·rename_i n
  obtain ⟨hpre,h2⟩:=chk_inv h;cases h2
  refine Eq.trans (b:=(some (Zx .u64 (Zy .u64 (↑(BitVec.toNat (BitVec.ofInt (Zf .u64) 72057594037927936 ||| BitVec.ofInt (Zf .u64) (Zy .u64 (Zy .i64 (1+n))))):Int)),[]):Option (AV×Blocks))) (by kernel_rfl) ?_
  rfl
 ·cases h
theorem w13:Walked Tryz.prog G 13 1 sp13:=by
 refine ⟨Tryz.f13,Tryz.func13,by decide +kernel,rfl,fun xs bl r h=> ?_⟩
 unfold sp13 at h
 split at h
 ·rename_i b how
  obtain ⟨hpre,h2⟩:=chk_inv h;cases h2
  refine Eq.trans (b:=(let t0:Int:=Yy (Zy .i64 (Zy .u16 (Vz how 8))) (↑(Zz b):Int);chk (room (Zz b) 1) (sel ((↑(Zz b):Int)==0) (some (Zh b,[])) (chk (!(↑(Zz b):Int)==0) (sel (Yy how 4==0) (chk (decide (0≤t0)&&decide (t0<(↑(Zz b):Int))) (chk (Uz (Zu t0) (Zz b)&&true&&true&&true) (chk (decide (0≤Zy .u64 (Yy how 7))) (chk (decide (0≤t0)&&decide (t0<(↑(Zz b):Int))) (chk (Uz (Zu t0) (Zz b)&&true&&true&&true&&true) (some (Zh (List.set b (Zu t0) (Yk (Zu (Zy .u8 (↑(BitVec.toNat (BitVec.ofInt (Zf .u8) (↑(Yj (Ym b (Zu t0) (0:UInt8))):Int) ^^^ BitVec.ofInt (Zf .u8) (↑(Yj (Yk (Zu (Zy .u8 ((↑(Yj (1:UInt8)):Int)*2 ^ min (Zu (Zy .u64 (Yy how 7))) 8))))):Int))):Int))))),[]))))))) (sel (Yy how 4==1) (chk (decide (0≤t0)&&decide (t0≤(↑(Zz b):Int))&&Uz 0 (Zz b)&&true) (chk (decide (0≤Zy .i64 (t0+1))&&decide (Zy .i64 (t0+1)≤(↑(Zz b):Int))&&Uz 0 (Zz b)&&true) (chk (Uz 0 (Zz b)&&true&&true&&true&&room (Zu t0+(Zz b-Zu (Zy .i64 (t0+1)))) 1) (some (Zh (Xn (Zu t0) b++Wj (Zu (Zy .i64 (t0+1))) b),[]))))) (sel (Yy how 4==2) (chk (room (Zz b+Zz [Yk (Zu (Zy .u8 how))]) 1) (some (Zh (b++[Yk (Zu (Zy .u8 how))]),[]))) (some (Zh b,[]))))))):Option (AV×Blocks))) (by kernel_rfl) ?_
  try dsimp only [cStr,cBs,cBool,cU8,cInt,cSl,l63]
  simp only [Yz,decide_eq_true_eq] at hpre
  obtain ⟨⟨hb,h0⟩,h1⟩:=hpre
  rw [chk_of (Yu (by omega))]
  unfold Kerb.spoil
  by_cases hn:b=[]
  ·subst hn;rfl
  have hpos:0<b.length:=List.length_pos_iff.2 hn
  rw [if_neg hn,sel_neg (by simp;omega),chk_of (by simp;omega)]
  have e:Yy (Zy Zv (Zy IntKind.u16 (Vz how (8:Int)))) (b.length:Int)=Kerb.spoilAt b how:=rfl
  rw [e]
  obtain ⟨ha,hc⟩:=Kerb.spoilAt_bd h0 h1 hpos
  generalize Kerb.spoilAt b how=a at ha hc ⊢
  have hd:(decide ((0:Int)≤a)&&decide (a<(b.length:Int)))=true:=by simp;omega
  have hbl:Uz a.toNat b.length=true:=Nat.ble_eq_true_of_le (by omega)
  have hbl0:Uz 0 b.length=true:=Nat.ble_eq_true_of_le (by omega)
  have h7:decide ((0:Int)≤Zy Xz (Yy how (7:Int)))=true:=by rw [Kerb.wrap_u64];simp;omega
  by_cases c0:Yy how 4=0
  ·rw [if_pos c0,sel_pos (by simpa using c0),chk_of hd,chk_of (by rw [hbl];rfl),chk_of h7,chk_of hd,chk_of (by rw [hbl];rfl)]
  rw [if_neg c0,sel_neg (by simpa using c0)]
  by_cases c1:Yy how 4=1
  ·rw [if_pos c1,sel_pos (by simpa using c1),wrap_i64 (n:=a+1) (by omega) (by omega),chk_of (by rw [hbl0];simp;omega),chk_of (by rw [hbl0];simp;omega),chk_of (by rw [hbl0,Yu (by omega)];rfl)]
  rw [if_neg c1,sel_neg (by simpa using c1)]
  by_cases c2:Yy how 4=2
  ·rw [if_pos c2,sel_pos (by simpa using c2),chk_of (Yu (by simp;omega))]
  ·rw [if_neg c2,sel_neg (by simpa using c2)]
 ·cases h
theorem w22:Walked Tryz.prog G 22 1 sp22:=by
 refine ⟨Tryz.f22,Tryz.func22,by decide +kernel,rfl,fun xs bl r h=> ?_⟩
 unfold sp22 at h
 split at h
 ·rename_i n
  obtain ⟨hpre,h2⟩:=chk_inv h;cases h2
  refine Eq.trans (b:=(some (Zx .u64 (Zy .u64 (↑(BitVec.toNat (BitVec.ofInt (Zf .u64) 144115188075855872 ||| BitVec.ofInt (Zf .u64) (Zy .u64 (Zy .i64 (1+n))))):Int)),[]):Option (AV×Blocks))) (by kernel_rfl) ?_
  rfl
 ·cases h
theorem w65:Walked Tryz.prog G 65 1 sp65:=by
 refine ⟨Tryz.f65,Tryz.func65,by decide +kernel,rfl,fun xs bl r h=> ?_⟩
 unfold sp65 at h
 split at h
 ·rename_i n
  cases h
  refine Eq.trans (b:=(sel (decide (n≥0)) (some (Zq (decide (n≤4294967295)),[])) (some (Zq false,[])):Option (AV×Blocks))) (by kernel_rfl) ?_
  by_cases h:0≤n<;>simp [sel,Zg,h]
 ·cases h
theorem w82:Walked Tryz.prog G 82 1 sp82:=by
 refine ⟨Tryz.f82,Tryz.func82,by decide +kernel,rfl,fun xs bl r h=> ?_⟩
 unfold sp82 at h
 split at h
 ·rename_i n m
  cases h
  refine Eq.trans (b:=(sel (decide (n≥0)) (some (Zq (decide (n≤m)),[])) (some (Zq false,[])):Option (AV×Blocks))) (by kernel_rfl) ?_
  by_cases h:0≤n<;>simp [sel,Zg,h]
 ·cases h
theorem w84:Walked Tryz.prog G 84 1 sp84:=by
 refine ⟨Tryz.f84,Tryz.func84,by decide +kernel,rfl,fun xs bl r h=> ?_⟩
 unfold sp84 at h
 split at h
 ·rename_i k little
  cases h
  refine Eq.trans (b:=(sel (decide (k<1)) (some (Zh [],[])) (sel (decide (k>10)) (some (Zh [],[])) (sel little (some (Zh [(4:UInt8),Yk (Zu (Zy .u8 (Zy .i64 (Zy .i64 (2*k)+1))))],[])) (some (Zh [(4:UInt8),Yk (Zu (Zy .u8 (Zy .i64 (2*k))))],[])))):Option (AV×Blocks))) (by kernel_rfl) ?_
  by_cases h:1≤k∧k≤10
  ·have hk:k=1∨k=2∨k=3∨k=4∨k=5∨k=6∨k=7∨k=8∨k=9∨k=10:=by omega
   rcases hk with rfl | rfl | rfl | rfl | rfl | rfl | rfl | rfl | rfl | rfl<;>cases little<;>rfl
  ·have hk:Xu k=false:=by simp [Xu];omega
   by_cases h1:k<1
   ·simp [sel,Xf,hk,h1]
   ·have h2:10<k:=by omega
    simp [sel,Xf,hk,h1,h2]
 ·cases h
theorem w85:Walked Tryz.prog G 85 1 sp85:=by
 refine ⟨Tryz.f85,Tryz.func85,by decide +kernel,rfl,fun xs bl r h=> ?_⟩
 unfold sp85 at h
 split at h
 ·rename_i b s
  obtain ⟨hpre,h2⟩:=chk_inv h;cases h2
  refine Eq.trans (b:=(chk (room (Zz b) 1) (chk (room (Zz b+Zz s) 1) (chk (room (Zz (b++s)+Zz [(0:UInt8)]) 1) (some (Zh (b++s++[(0:UInt8)]),[])))):Option (AV×Blocks))) (by kernel_rfl) ?_
  simp only [decide_eq_true_eq] at hpre
  rw [chk_of (Yu (by omega)),chk_of (Yu (by omega)),chk_of (Yu (by simp;omega))]
  simp [Yv]
 ·cases h
theorem w89:Walked Tryz.prog G 89 1 sp89:=by
 refine ⟨Tryz.f89,Tryz.func89,by decide +kernel,rfl,fun xs bl r h=> ?_⟩
 unfold sp89 at h
 split at h
 ·rename_i a b
  cases h
  refine Eq.trans (b:=(some (Zq (a==b),[]):Option (AV×Blocks))) (by kernel_rfl) ?_
  rfl
 ·cases h
theorem w98:Walked Tryz.prog G 98 1 sp98:=by
 refine ⟨Tryz.f98,Tryz.func98,by decide +kernel,rfl,fun xs bl r h=> ?_⟩
 unfold sp98 at h
 split at h
 ·rename_i ali b1 b2 b3 aad ak alf ais asv ain rl
  cases h
  refine Eq.trans (b:=(some (Wg [Zk asv,Zk ain,Zk rl],[]):Option (AV×Blocks))) (by kernel_rfl) ?_
  rfl
 ·cases h
theorem w102:Walked Tryz.prog G 102 1 sp102:=by
 refine ⟨Tryz.f102,Tryz.func102,by decide +kernel,rfl,fun xs bl r h=> ?_⟩
 unfold sp102 at h
 split at h
 ·rename_i n l m
  cases h
  refine Eq.trans (b:=(sel (decide (n≥l)) (some (Zq (decide (n≤m)),[])) (some (Zq false,[])):Option (AV×Blocks))) (by kernel_rfl) ?_
  by_cases h:l≤n
  ·rw [sel_pos (by simpa using h)];simp [h]
  ·rw [sel_neg (by simpa using h)];simp [h]
 ·cases h
theorem w109:Walked Tryz.prog G 109 1 sp109:=by
 refine ⟨Tryz.f109,Tryz.func109,by decide +kernel,rfl,fun xs bl r h=> ?_⟩
 unfold sp109 at h
 split at h
 ·rename_i n m
  cases h
  refine Eq.trans (b:=(sel (decide (n≥0)) (some (Zq (decide (n≤m)),[])) (some (Zq false,[])):Option (AV×Blocks))) (by kernel_rfl) ?_
  by_cases h:0≤n<;>simp [sel,Zg,h]
 ·cases h
theorem w113:Walked Tryz.prog G 113 1 sp113:=by
 refine ⟨Tryz.f113,Tryz.func113,by decide +kernel,rfl,fun xs bl r h=> ?_⟩
 unfold sp113 at h
 split at h
 ·rename_i k
  cases h
  refine Eq.trans (b:=(sel (decide (k≥1)) (some (Zq (decide (k≤10)),[])) (some (Zq false,[])):Option (AV×Blocks))) (by kernel_rfl) ?_
  by_cases h:1≤k<;>simp [sel,Xu,h]
 ·cases h
theorem w115:Walked Tryz.prog G 115 1 sp115:=by
 refine ⟨Tryz.f115,Tryz.func115,by decide +kernel,rfl,fun xs bl r h=> ?_⟩
 unfold sp115 at h
 split at h
 ·rename_i k
  obtain ⟨hpre,h2⟩:=chk_inv h;cases h2
  refine Eq.trans (b:=(Zw (loopM (fun (st:List AV)=>cInt .u64 st fun n r=>onCons r fun x r=>Xx x fun b=>cInt .i64 r fun n_1 r=>cInt .i64 r fun n_2 r=>let t0:Int:=Zy .i64 (8*Zy .i64 (7-n_2));onNil r (sel (decide (n_2<n_1)) (chk (decide (0≤t0)) (chk (decide (0≤n_2)&&decide (n_2<(↑(Zz b):Int))) (chk (Uz (Zu n_2) (Zz b)&&true&&true&&true&&true) (some (Wu [Zx .u64 n,Zn (List.set b (Zu n_2) (Yk (Zu (Zy .u8 (Wn n (2 ^ min (Zu t0) (Zf .u64))))))),Zx .i64 n_1,Zx .i64 (Zy .i64 (n_2+1))]))))) (some (Xj (Xy 0,[Zx .u64 n,Zn b,Zx .i64 n_1,Zx .i64 n_2]))))) [Zx .u64 k,Zn (Xb (Zu 8) (0:UInt8)),Zx .i64 (↑(Zz (Xb (Zu 8) (0:UInt8))):Int),Zx .i64 0]) fun (r:Ex×List AV)=>cInt .u64 (Zm r) fun n r_1=>onCons r_1 fun x r_2=>Xx x fun b=>cInt .i64 r_2 fun n r_3=>cInt .i64 r_3 fun n r_4=>onNil r_4 (exK r.1 none fun (j:Nat)=>sel (Wq j 0) (some (Zh b,[])) none):Option (AV×Blocks))) (by kernel_rfl) ?_
  try dsimp only [cStr,cBs,cBool,cU8,cInt,cSl,l63]
  refine loop_unroll 9 (Xy 0,[Zx Xz k,Zn [Yp k 56,Yp k 48,Yp k 40,Yp k 32,Yp k 24,Yp k 16,Yp k 8,Yp k 0],Zx Zv 8,Zx Zv 8]) (by kernel_rfl) ?_
  simp only [A0]
  rw [sel_pos (Yd _)]
  simp [Wh,Uy,Wm,Xm]
 ·cases h
theorem w121:Walked Tryz.prog G 121 1 sp121:=by
 refine ⟨Tryz.f121,Tryz.func121,by decide +kernel,rfl,fun xs bl r h=> ?_⟩
 unfold sp121 at h
 split at h
 ·rename_i b
  obtain ⟨hpre,h2⟩:=chk_inv h;cases h2
  refine Eq.trans (b:=(chk (room (Zz b) 1) (Zw (loopM (fun (st:List AV)=>onCons st fun x r=>Xx x fun b=>onNil r (sel (!Yy (↑(Zz b):Int) 8==0) (chk (room (Zz b+Zz [(0:UInt8)]) 1) (some (Wu [Zn (b++[(0:UInt8)])]))) (some (Xj (Xy 0,[Zn b]))))) [Zn b]) fun (r:Ex×List AV)=>onCons (Zm r) fun x r_1=>Xx x fun b=>onNil r_1 (exK r.1 none fun (j:Nat)=>sel (Wq j 0) (some (Zn b,[])) none)):Option (AV×Blocks))) (by kernel_rfl) ?_
  have hb:=of_decide_eq_true hpre
  rw [chk_of (Yu (by omega))]
  refine loop_rounds (fun i:Nat=>[Zn (b++Xb i 0)]) (fun i=>i≤(8-b.length % 8) % 8) (fun i=>(8-b.length % 8) % 8-i)
   (fun r=>r=(Xy 0,[Zn (Kerb.pad b)])) 0 (by omega) (by simp) ?_ ?_
  ·intro i hi
   simp only [A0]
   have e:Yy ((b++Xb i 0).length:Int) 8=(((b.length+i) % 8:Nat):Int):=by
    rw [Yh (by omega)]
    simp
   rw [e]
   by_cases hlt:i<(8-b.length % 8) % 8
   ·rw [sel_pos (by simp;omega),chk_of (Yu (by simp;omega))]
    refine ⟨_,rfl,i+1,?_,by omega,by dsimp only;omega⟩
    dsimp only
    rw [List.replicate_succ',List.append_assoc]
   ·rw [sel_neg (by simp;omega)]
    refine ⟨_,rfl,?_⟩
    show _=_
    rw [Kerb.pad,show i=(8-b.length % 8) % 8 from by omega]
  rintro r rfl
  simp only [A0]
  rw [sel_pos (Yd _)]
 ·cases h
theorem w123:Walked Tryz.prog G 123 1 sp123:=by
 refine ⟨Tryz.f123,Tryz.func123,by decide +kernel,rfl,fun xs bl r h=> ?_⟩
 unfold sp123 at h
 split at h
 ·rename_i k
  obtain ⟨hpre,h2⟩:=chk_inv h;cases h2
  refine Eq.trans (b:=(Zw (loopM (fun (st:List AV)=>cInt .u64 st fun n r=>onCons r fun x r=>Xx x fun b=>cInt .i64 r fun n_1 r=>let t0:List UInt8:=[Yk (Zu (Zy .u8 (Wn n (2 ^ min (Zu (Zy .u64 (Zy .i64 (8*n_1)))) (Zf .u64)))))];onNil r (sel (decide (n_1≥0)) (chk (decide (0≤Zy .u64 (Zy .i64 (8*n_1)))) (chk (room (Zz b+Zz t0) 1) (some (Wu [Zx .u64 n,Zn (b++t0),Zx .i64 (Zy .i64 (n_1-1))])))) (some (Xj (Xy 0,[Zx .u64 n,Zn b,Zx .i64 n_1]))))) [Zx .u64 k,Zn [],Zx .i64 7]) fun (r:Ex×List AV)=>cInt .u64 (Zm r) fun n r_1=>onCons r_1 fun x r_2=>Xx x fun b=>cInt .i64 r_2 fun n r_3=>onNil r_3 (exK r.1 none fun (j:Nat)=>sel (Wq j 0) (some (Zh b,[])) none):Option (AV×Blocks))) (by kernel_rfl) ?_
  try dsimp only [cStr,cBs,cBool,cU8,cInt,cSl,l63]
  refine loop_unroll 9 (Xy 0,[Zx Xz k,Zn [Yp k 56,Yp k 48,Yp k 40,Yp k 32,Yp k 24,Yp k 16,Yp k 8,Yp k 0],Zx Zv (-1)]) (by kernel_rfl) ?_
  simp only [A0]
  rw [sel_pos (Yd _)]
  simp [Wh,Uy,Wm,Xm]
 ·cases h
theorem w125:Walked Tryz.prog G 125 1 sp125:=by
 refine ⟨Tryz.f125,Tryz.func125,by decide +kernel,rfl,fun xs bl r h=> ?_⟩
 unfold sp125 at h
 split at h
 ·cases h
  refine Eq.trans (b:=(some (Xv 1 [Zk [(65:UInt8),(84:UInt8),(72:UInt8)],Zk [(66:UInt8),(79:UInt8),(83:UInt8)],Zk [(67:UInt8),(65:UInt8),(77:UInt8)]],[]):Option (AV×Blocks))) (by kernel_rfl) ?_
  rfl
 ·cases h
theorem w130:Walked Tryz.prog G 130 1 sp130:=by
 refine ⟨Tryz.f130,Tryz.func130,by decide +kernel,rfl,fun xs bl r h=> ?_⟩
 unfold sp130 at h
 split at h
 ·rename_i x y z v k
  cases h
  refine Eq.trans (b:=(some (Wg [Zk x,Zk y,Zk z,Zx .i64 v],[]):Option (AV×Blocks))) (by kernel_rfl) ?_
  rfl
 ·cases h
theorem w131:Walked Tryz.prog G 131 1 sp131:=by
 refine ⟨Tryz.f131,Tryz.func131,by decide +kernel,rfl,fun xs bl r h=> ?_⟩
 unfold sp131 at h
 split at h
 ·rename_i mls a1 a2 a3 at_ atk
  obtain ⟨hpre,h2⟩:=chk_inv h;cases h2
  refine Eq.trans (b:=(Zw (loopM (fun (st:List AV)=>cStr st fun b r=>cStr r fun b_1 r=>cStr r fun b_2 r=>cInt .i64 r fun n r=>cInt .i64 r fun n_1 r=>cBool r fun b_3 r=>cSl 5 r fun b_4 r=>cInt .i64 r fun n_2 r=>cInt .i64 r fun n_3 r=>onNil r (sel (decide (n_3<n_2)) (chk (decide (0≤n_3)&&decide (n_3<(↑(Zz b_4):Int))&&true) (AV.onAgg (Ym b_4 (Zu n_3) Vh) fun cs=>cStr cs fun b_5 r=>cStr r fun b_6 r=>cStr r fun b_7 r=>cInt .i64 r fun n_4 r=>cInt .i64 r fun n_5 r=>onNil r (sel (b_5==b&&(b_6==b_1&&(b_7==b_2&&(n_4==n&&n_5==n_1)))) (some (Xj (Ex.ret,[Zk b,Zk b_1,Zk b_2,Zx .i64 n,Zx .i64 n_1,Zq true,Xv 5 b_4,Zx .i64 n_2,Zx .i64 n_3]))) (some (Wu [Zk b,Zk b_1,Zk b_2,Zx .i64 n,Zx .i64 n_1,Zq b_3,Xv 5 b_4,Zx .i64 n_2,Zx .i64 (Zy .i64 (n_3+1))]))))) (some (Xj (Xy 0,[Zk b,Zk b_1,Zk b_2,Zx .i64 n,Zx .i64 n_1,Zq b_3,Xv 5 b_4,Zx .i64 n_2,Zx .i64 n_3]))))) [Zk a1,Zk a2,Zk a3,Zx .i64 at_,Zx .i64 atk,Zq false,Xv 5 mls,Zx .i64 (↑(Zz mls):Int),Zx .i64 0]) fun (r:Ex×List AV)=>cStr (Zm r) fun b r_1=>cStr r_1 fun b r_2=>cStr r_2 fun b r_3=>cInt .i64 r_3 fun n r_4=>cInt .i64 r_4 fun n r_5=>cBool r_5 fun b r_6=>cSl 5 r_6 fun b_1 r_7=>cInt .i64 r_7 fun n r_8=>cInt .i64 r_8 fun n r_9=>onNil r_9 (exK r.1 (some (Zq b,[])) fun (j:Nat)=>sel (Wq j 0) (some (Zq false,[])) none):Option (AV×Blocks))) (by kernel_rfl) ?_
  try dsimp only [cStr,cBs,cBool,cU8,cInt,cSl,l63]
  simp only [Yz,decide_eq_true_eq] at hpre
  obtain ⟨hall,hlen⟩:=hpre
  obtain ⟨cs,rfl,hok⟩:=Kerb.marks_of hall
  rw [Kerb.map_toMark]
  simp only [Vd] at hlen ⊢
  refine loop_rounds (fun i:Nat=>[Zk a1,Zk a2,Zk a3,Zx Zv at_,Zx Zv atk,Zq false,Xv 5 (cs.map Kerb.Mark.av),Zx Zv (cs.length:Int),Zx Zv (i:Int)]) (fun i=>i≤cs.length∧Kerb.hasMark cs ⟨⟨a1,a2,a3⟩,at_,atk⟩=Kerb.hasMark (cs.drop i) ⟨⟨a1,a2,a3⟩,at_,atk⟩) (fun i=>cs.length-i)
   (fun r=>∃ (i:Nat) (q:Bool),r.2=[Zk a1,Zk a2,Zk a3,Zx Zv at_,Zx Zv atk,Zq q,Xv 5 (cs.map Kerb.Mark.av),Zx Zv (cs.length:Int),Zx Zv (i:Int)]∧((r.1 = .ret∧q=true∧Kerb.hasMark cs ⟨⟨a1,a2,a3⟩,at_,atk⟩=true)∨(r.1 = .exit 0∧Kerb.hasMark cs ⟨⟨a1,a2,a3⟩,at_,atk⟩=false))) 0 ⟨Wp _,by simp⟩ rfl ?_ ?_
  ·rintro i ⟨hi,hp⟩
   simp only [↓A0,A0,Vd]
   by_cases hlt:i<cs.length
   ·rw [sel_pos (by simp;omega),chk_of (by simp;omega),Yn,Kerb.getD_row (d:=Kerb.noMark) hlt]
    obtain ⟨c,hc⟩:∃ c,cs.getD i Kerb.noMark=c:=⟨_,rfl⟩
    have hd:=Kerb.hasMark_step (m:=⟨⟨a1,a2,a3⟩,at_,atk⟩) hlt hc
    rw [hc]
    simp only [Kerb.Mark.av,↓A0,A0]
    rw [wrap_i64 (by omega) (by omega)]
    show ∃ y,sel (Kerb.Mark.eqb c ⟨⟨a1,a2,a3⟩,at_,atk⟩) _ _=some y∧_
    cases he:Kerb.Mark.eqb c ⟨⟨a1,a2,a3⟩,at_,atk⟩
    ·rw [he,Bool.false_or] at hd
     exact ⟨_,rfl,i+1,rfl,⟨by omega,hp.trans hd⟩,by dsimp only;omega⟩
    ·rw [he,Bool.true_or] at hd
     exact ⟨_,rfl,i,_,rfl,.inl ⟨rfl,rfl,hp.trans hd⟩⟩
   ·rw [sel_neg (by simp;omega)]
    refine ⟨_,rfl,i,_,rfl,.inr ⟨rfl,?_⟩⟩
    rw [hp,Xp (by omega)]
    rfl
  ·rintro ⟨e,l⟩ ⟨i,q,rfl,⟨rfl,rfl,h⟩ | ⟨rfl,h⟩⟩
   ·simp only [↓A0,A0,h]
   ·simp only [↓A0,A0,h]
    rw [sel_pos (Yd _)]
 ·cases h
theorem w140:Walked Tryz.prog G 140 1 sp140:=by
 refine ⟨Tryz.f140,Tryz.func140,by decide +kernel,rfl,fun xs bl r h=> ?_⟩
 unfold sp140 at h
 split at h
 ·rename_i s bad
  obtain ⟨hpre,h2⟩:=chk_inv h;cases h2
  refine Eq.trans (b:=(Zw (loopM (fun (st:List AV)=>cStr st fun b r=>cStr r fun b_1 r=>cBool r fun b_2 r=>cInt .i64 r fun n r=>let t0:Int:=(↑(Yj (Ym b (Zu n) (0:UInt8))):Int);let t1:Option (List AV ⊕ Ex×List AV):=some (Xj (Ex.ret,[Zk b,Zk b_1,Zq false,Zx .i64 n]));onNil r (sel (decide (n<(↑(Zz b):Int))) (chk (decide (0≤n)&&decide (n<(↑(Zz b):Int))) (sel (decide (t0<(↑(Yj (33:UInt8)):Int))) t1 (chk (decide (0≤n)&&decide (n<(↑(Zz b):Int))) (sel (decide (t0>(↑(Yj (126:UInt8)):Int))) t1 (Zw (loopM (fun (st:List AV)=>cStr st fun b r=>cStr r fun b_3 r=>cBool r fun b_4 r=>cInt .i64 r fun n r=>cInt .i64 r fun n_1 r=>onNil r (sel (decide (n_1<(↑(Zz b_3):Int))) (chk (decide (0≤n)&&decide (n<(↑(Zz b):Int))) (chk (decide (0≤n_1)&&decide (n_1<(↑(Zz b_3):Int))) (sel (Ym b (Zu n) (0:UInt8)==Ym b_3 (Zu n_1) (0:UInt8)) (some (Xj (Ex.ret,[Zk b,Zk b_3,Zq false,Zx .i64 n,Zx .i64 n_1]))) (some (Wu [Zk b,Zk b_3,Zq b_4,Zx .i64 n,Zx .i64 (Zy .i64 (n_1+1))]))))) (some (Xj (Xy 2,[Zk b,Zk b_3,Zq b_4,Zx .i64 n,Zx .i64 n_1]))))) [Zk b,Zk b_1,Zq b_2,Zx .i64 n,Zx .i64 0]) fun (r:Ex×List AV)=>cStr (Zm r) fun b r_1=>cStr r_1 fun b_3 r_2=>cBool r_2 fun b_4 r_3=>cInt .i64 r_3 fun n r_4=>cInt .i64 r_4 fun n_1 r_5=>onNil r_5 (exK r.1 (some (Xj (Ex.ret,[Zk b,Zk b_3,Zq b_4,Zx .i64 n]))) fun (j:Nat)=>sel (Wq j 2) (some (Wu [Zk b,Zk b_3,Zq b_4,Zx .i64 (Zy .i64 (n+1))])) none)))))) (some (Xj (Xy 0,[Zk b,Zk b_1,Zq b_2,Zx .i64 n]))))) [Zk s,Zk bad,Zq false,Zx .i64 0]) fun (r:Ex×List AV)=>cStr (Zm r) fun b r_1=>cStr r_1 fun b_1 r_2=>cBool r_2 fun b_2 r_3=>cInt .i64 r_3 fun n r_4=>onNil r_4 (exK r.1 (some (Zq b_2,[])) fun (j:Nat)=>sel (Wq j 0) (some (Zq (decide ((↑(Zz b):Int)≤39)),[])) none):Option (AV×Blocks))) (by kernel_rfl) ?_
  try dsimp only [cStr,cBs,cBool,cU8,cInt,cSl,l63]
  simp only [Yz,decide_eq_true_eq] at hpre
  refine loop_rounds (fun i:Nat=>[Zk s,Zk bad,Zq false,Zx Zv (i:Int)]) (fun i=>i≤s.length∧Yf s bad=Yf (s.drop i) bad) (fun i=>s.length-i)
   (fun r=>∃ i:Nat,r.2=[Zk s,Zk bad,Zq false,Zx Zv (i:Int)]∧((r.1 = .ret∧Yf s bad=false)∨(r.1 = .exit 0∧Yf s bad=true))) 0 ⟨Wp _,rfl⟩ rfl ?_ ?_
  ·rintro i ⟨hi,hp⟩
   simp only [A0]
   by_cases hlt:i<s.length
   ·have hc:(decide ((0:Int)≤(i:Int))&&decide ((i:Int)<(s.length:Int)))=true:=by simp;omega
    have hd:=Kerb.drop_all_cons hlt
    rw [sel_pos (by simp;omega),chk_of hc,Yn]
    have hpr:Yf (s.drop i) bad=(Vj bad (s.getD i 0)&&Yf (s.drop (i+1)) bad):=by rw [hd];rfl
    generalize hcc:s.getD i 0=c at *
    by_cases h1:c.toNat<33
    ·rw [sel_pos (by simp;omega)]
     exact ⟨_,rfl,i,rfl,.inl ⟨rfl,by rw [hp,hpr];simp [Vj,h1]⟩⟩
    rw [sel_neg (by simp;omega),chk_of hc]
    by_cases h2:126<c.toNat
    ·rw [sel_pos (by simp;omega)]
     exact ⟨_,rfl,i,rfl,.inl ⟨rfl,by rw [hp,hpr];simp [Vj,h2]⟩⟩
    rw [sel_neg (by simp;omega)]
    refine loop_ex (fun j:Nat=>[Zk s,Zk bad,Zq false,Zx Zv (i:Int),Zx Zv (j:Int)]) (fun j=>j≤bad.length∧(c∈bad↔c∈bad.drop j)) (fun j=>bad.length-j)
     (fun r=>∃ j:Nat,r.2=[Zk s,Zk bad,Zq false,Zx Zv (i:Int),Zx Zv (j:Int)]∧((r.1 = .ret∧c∈bad)∨(r.1 = .exit 2∧c ∉ bad))) 0 ⟨Wp _,by simp⟩ rfl ?_ ?_
    ·rintro j ⟨hj,hm⟩
     simp only [A0]
     by_cases hjl:j<bad.length
     ·have hdj:=Kerb.drop_all_cons hjl
      rw [sel_pos (by simp;omega),chk_of hc,chk_of (by simp;omega),Yn,Yn,hcc]
      rw [hdj,List.mem_cons] at hm
      by_cases h3:c=bad.getD j 0
      ·rw [sel_pos (by simpa using h3)]
       exact ⟨_,rfl,j,rfl,.inl ⟨rfl,hm.2 (.inl h3)⟩⟩
      ·rw [sel_neg (by simpa using h3),wrap_i64 (by omega) (by omega)]
       exact ⟨_,rfl,j+1,rfl,⟨by omega,hm.trans ⟨fun h=>h.resolve_left h3,.inr⟩⟩,by dsimp only;omega⟩
     ·rw [sel_neg (by simp;omega)]
      refine ⟨_,rfl,j,rfl,.inr ⟨rfl,?_⟩⟩
      rw [hm,Xp (by omega)];simp
    ·rintro ⟨e,l⟩ ⟨j,rfl,⟨rfl,h3⟩ | ⟨rfl,h3⟩⟩
     ·simp only [A0]
      exact ⟨_,rfl,i,rfl,.inl ⟨rfl,by rw [hp,hpr];simp [Vj,h3]⟩⟩
     ·simp only [A0]
      rw [sel_pos (Yd _),wrap_i64 (by omega) (by omega)]
      exact ⟨_,rfl,i+1,rfl,⟨by omega,by rw [hp,hpr];simp [Vj,h1,h2,h3]⟩,by dsimp only;omega⟩
   ·rw [sel_neg (by simp;omega)]
    exact ⟨_,rfl,i,rfl,.inr ⟨rfl,by rw [hp,Xp (by omega)];rfl⟩⟩
  ·rintro ⟨e,l⟩ ⟨i,rfl,⟨rfl,hp⟩ | ⟨rfl,hp⟩⟩
   ·simp only [A0,hp]
    rfl
   ·simp only [A0,hp]
    rw [sel_pos (Yd _),decide_eq_decide.2 (show ((s.length:Int)≤39)↔s.length≤39 from by omega)]
    rfl
 ·cases h
theorem w141:Walked Tryz.prog G 141 1 sp141:=by
 refine ⟨Tryz.f141,Tryz.func141,by decide +kernel,rfl,fun xs bl r h=> ?_⟩
 unfold sp141 at h
 split at h
 ·rename_i b n k little
  obtain ⟨hpre,h2⟩:=chk_inv h;cases h2
  refine Eq.trans (b:=(chk (room (Zz b) 1) (Zw (loopM (fun (st:List AV)=>cInt .i64 st fun n r=>cInt .i64 r fun n_1 r=>cBool r fun b r=>onCons r fun x r=>Xx x fun b_1=>cInt .i64 r fun n_2 r=>let t1:Int:=Zy .u64 (Zy .i64 (8*Zy .i64 (Zy .i64 (n_1-1)-n_2)));let t2:List UInt8:=[Yk (Zu (Zy .u8 (Wn (Zy .u64 n) (2 ^ min (Zu (Zy .u64 (Zy .i64 (8*n_2)))) (Zf .u64)))))];let t0:List UInt8:=[Yk (Zu (Zy .u8 (Wn (Zy .u64 n) (2 ^ min (Zu t1) (Zf .u64)))))];onNil r (sel (decide (n_2<n_1)) (sel b (chk (decide (0≤Zy .u64 (Zy .i64 (8*n_2)))) (chk (room (Zz b_1+Zz t2) 1) (some (Wu [Zx .i64 n,Zx .i64 n_1,Zq b,Zn (b_1++t2),Zx .i64 (Zy .i64 (n_2+1))])))) (chk (decide (0≤t1)) (chk (room (Zz b_1+Zz t0) 1) (some (Wu [Zx .i64 n,Zx .i64 n_1,Zq b,Zn (b_1++t0),Zx .i64 (Zy .i64 (n_2+1))]))))) (some (Xj (Xy 0,[Zx .i64 n,Zx .i64 n_1,Zq b,Zn b_1,Zx .i64 n_2]))))) [Zx .i64 n,Zx .i64 k,Zq little,Zn b,Zx .i64 0]) fun (r:Ex×List AV)=>cInt .i64 (Zm r) fun n r_1=>cInt .i64 r_1 fun n r_2=>cBool r_2 fun b r_3=>onCons r_3 fun x r_4=>Xx x fun b=>cInt .i64 r_4 fun n r_5=>onNil r_5 (exK r.1 none fun (j:Nat)=>sel (Wq j 0) (some (Zn b,[])) none)):Option (AV×Blocks))) (by kernel_rfl) ?_
  try dsimp only [cStr,cBs,cBool,cU8,cInt,cSl,l63]
  simp only [Yz,decide_eq_true_eq] at hpre
  obtain ⟨hk,hb⟩:=hpre
  have hk4:k.toNat≤4∧0≤k:=by omega
  rw [chk_of (Yu (by omega))]
  refine loop_rounds (fun i:Nat=>[Zx Zv n,Zx Zv k,Zq little,Zn (b++(Zb n k.toNat little).take i),Zx Zv (i:Int)]) (fun i=>i≤k.toNat) (fun i=>k.toNat-i)
   (fun r=>r=(Xy 0,[Zx Zv n,Zx Zv k,Zq little,Zn (b++Zb n k.toNat little),Zx Zv k])) 0 (Wp _) (by simp) ?_ ?_
  ·intro i hi
   simp only [A0]
   by_cases hlt:i<k.toNat
   ·have hs:=Kerb.take_succ_getD (l:=Zb n k.toNat little) (i:=i) (by rw [Zj];omega)
    have hg:=Kerb.putN_getD n k.toNat little hlt
    have hl:((Zb n k.toNat little).take i).length=i:=by simp [Zj];omega
    rw [sel_pos (by simp;omega)]
    have hw:∀ j:Nat,j<4→Zy Xz (Zy Zv (8*(j:Int)))=((8*j:Nat):Int):=fun j hj=>by
     rw [wrap_i64 (by omega) (by omega),Kerb.wrap_u64];omega
    have hm:∀ j:Nat,j<4→min (Zu ((8*j:Nat):Int)) (Zf Xz)=8*j:=fun j hj=>by
     have:Zf Xz=64:=rfl
     rw [this];omega
    cases little
    ·have e:Zy Zv (Zy Zv (k-1)-(i:Int))=((k.toNat-1-i:Nat):Int):=by
      rw [wrap_i64 (n:=k-1) (by omega) (by omega),wrap_i64 (by omega) (by omega)];omega
     rw [sel_neg rfl,e,hw _ (by omega),hm _ (by omega),Kerb.ubyte n (by omega),chk_of (by simp;omega),chk_of (Yu (by simp [hl];omega)),wrap_i64 (by omega) (by omega)]
     refine ⟨_,rfl,i+1,?_,by omega,by dsimp only;omega⟩
     dsimp only
     rw [hs,hg,← List.append_assoc]
     rfl
    ·rw [sel_pos rfl,hw _ (by omega),hm _ (by omega),Kerb.ubyte n (by omega),chk_of (by simp;omega),chk_of (Yu (by simp [hl];omega)),wrap_i64 (by omega) (by omega)]
     refine ⟨_,rfl,i+1,?_,by omega,by dsimp only;omega⟩
     dsimp only
     rw [hs,hg,← List.append_assoc]
     rfl
   ·rw [sel_neg (by simp;omega)]
    refine ⟨_,rfl,?_⟩
    show _=_
    rw [Xk (by rw [Zj];omega),show (i:Int)=k from by omega]
  ·rintro r rfl
   simp only [A0]
   rw [sel_pos (Yd _)]
 ·cases h
theorem w143:Walked Tryz.prog G 143 1 sp143:=by
 refine ⟨Tryz.f143,Tryz.func143,by decide +kernel,rfl,fun xs bl r h=> ?_⟩
 unfold sp143 at h
 split at h
 ·rename_i k els
  obtain ⟨hpre,h2⟩:=chk_inv h;cases h2
  refine Eq.trans (b:=(Zw (loopM (fun (st:List AV)=>cInt .i64 st fun n r=>cBool r fun b r=>cSl 1 r fun b_1 r=>cInt .i64 r fun n_1 r=>cInt .i64 r fun n_2 r=>onNil r (sel (decide (n_2<n_1)) (chk (decide (0≤n_2)&&decide (n_2<(↑(Zz b_1):Int))&&true) (Xd .i64 (Ym b_1 (Zu n_2) Vh) fun n_3=>sel (n_3==n) (some (Xj (Ex.ret,[Zx .i64 n,Zq true,Xv 1 b_1,Zx .i64 n_1,Zx .i64 n_2]))) (some (Wu [Zx .i64 n,Zq b,Xv 1 b_1,Zx .i64 n_1,Zx .i64 (Zy .i64 (n_2+1))])))) (some (Xj (Xy 0,[Zx .i64 n,Zq b,Xv 1 b_1,Zx .i64 n_1,Zx .i64 n_2]))))) [Zx .i64 k,Zq false,Xv 1 els,Zx .i64 (↑(Zz els):Int),Zx .i64 0]) fun (r:Ex×List AV)=>cInt .i64 (Zm r) fun n r_1=>cBool r_1 fun b r_2=>cSl 1 r_2 fun b_1 r_3=>cInt .i64 r_3 fun n r_4=>cInt .i64 r_4 fun n r_5=>onNil r_5 (exK r.1 (some (Zq b,[])) fun (j:Nat)=>sel (Wq j 0) (some (Zq false,[])) none):Option (AV×Blocks))) (by kernel_rfl) ?_
  try dsimp only [cStr,cBs,cBool,cU8,cInt,cSl,l63]
  simp only [Yz,decide_eq_true_eq] at hpre
  obtain ⟨ha,hl⟩:=hpre
  have hil:=Kerb.ints_len ha
  refine loop_rounds (fun i:Nat=>[Zx Zv k,Zq false,Xv 1 els,Zx Zv (els.length:Int),Zx Zv (i:Int)]) (fun i=>i≤els.length∧(k∈intsIn els↔k∈(intsIn els).drop i)) (fun i=>els.length-i)
   (fun r=>∃ (i:Nat) (x:Bool),r.2=[Zx Zv k,Zq x,Xv 1 els,Zx Zv (els.length:Int),Zx Zv (i:Int)]∧((r.1 = .ret∧x=true∧k∈intsIn els)∨(r.1 = .exit 0∧k ∉ intsIn els))) 0 ⟨Wp _,by simp⟩ rfl ?_ ?_
  ·rintro i ⟨hi,hm⟩
   simp only [A0]
   by_cases hlt:i<els.length
   ·obtain ⟨n,h1,h2⟩:=Kerb.ints_get ha hlt
    rw [sel_pos (by simp;omega),chk_of (by simp;omega),Yn,h1,onInt_int]
    rw [h2,List.mem_cons] at hm
    by_cases h3:n=k
    ·rw [sel_pos (by simpa using h3)]
     exact ⟨_,rfl,i,true,rfl,.inl ⟨rfl,rfl,hm.2 (.inl h3.symm)⟩⟩
    ·rw [sel_neg (by simpa using h3),wrap_i64 (by omega) (by omega)]
     exact ⟨_,rfl,i+1,rfl,⟨by omega,hm.trans ⟨fun h=>h.resolve_left fun e=>h3 e.symm,.inr⟩⟩,by dsimp only;omega⟩
   ·rw [sel_neg (by simp;omega)]
    refine ⟨_,rfl,i,false,rfl,.inr ⟨rfl,?_⟩⟩
    rw [hm,Xp (by omega)];simp
  ·rintro ⟨e,l⟩ ⟨i,x,rfl,⟨rfl,rfl,h⟩ | ⟨rfl,h⟩⟩
   ·simp [onCons,Xd,Xq,AV.onSl,onNil,exK,h]
   ·simp [onCons,Xd,Xq,AV.onSl,onNil,exK,h,sel]
 ·cases h
theorem w156:Walked Tryz.prog G 156 1 sp156:=by
 refine ⟨Tryz.f156,Tryz.func156,by decide +kernel,rfl,fun xs bl r h=> ?_⟩
 unfold sp156 at h
 split at h
 ·rename_i n
  cases h
  refine Eq.trans (b:=(sel (decide (n≥0)) (some (Zq (decide (n≤4294967295)),[])) (some (Zq false,[])):Option (AV×Blocks))) (by kernel_rfl) ?_
  by_cases h:0≤n<;>simp [sel,Zg,h]
 ·cases h
theorem w157:Walked Tryz.prog G 157 1 sp157:=by
 refine ⟨Tryz.f157,Tryz.func157,by decide +kernel,rfl,fun xs bl r h=> ?_⟩
 unfold sp157 at h
 split at h
 ·rename_i n
  cases h
  refine Eq.trans (b:=(sel (decide (n≥0)) (some (Zq (decide (n≤255)),[])) (some (Zq false,[])):Option (AV×Blocks))) (by kernel_rfl) ?_
  by_cases h:0≤n<;>simp [sel,Zg,h]
 ·cases h
theorem w162:Walked Tryz.prog G 162 1 sp162:=by
 refine ⟨Tryz.f162,Tryz.func162,by decide +kernel,rfl,fun xs bl r h=> ?_⟩
 unfold sp162 at h
 split at h
 ·rename_i k
  cases h
  refine Eq.trans (b:=(sel (decide (k≥1)) (some (Zq (decide (k≤10)),[])) (some (Zq false,[])):Option (AV×Blocks))) (by kernel_rfl) ?_
  by_cases h:1≤k<;>simp [sel,Xu,h]
 ·cases h
theorem w164:Walked Tryz.prog G 164 1 sp164:=by
 refine ⟨Tryz.f164,Tryz.func164,by decide +kernel,rfl,fun xs bl r h=> ?_⟩
 unfold sp164 at h
 split at h
 ·rename_i c n
  cases h
  refine Eq.trans (b:=(sel (!c==1) (sel (!c==2) (some (Zx .u64 0,[])) (sel (decide (n<1)) (some (Zx .u64 0,[])) (sel (decide (n>4294967295)) (some (Zx .u64 0,[])) (some (Zx .u64 (Zy .u64 (↑(BitVec.toNat (BitVec.ofInt (Zf .u64) (Zy .u64 (Zy .u64 c*2 ^ min (Zu 56) (Zf .u64))) ||| BitVec.ofInt (Zf .u64) (Zy .u64 n))):Int)),[]))))) (sel (decide (n<1)) (some (Zx .u64 0,[])) (sel (decide (n>4294967295)) (some (Zx .u64 0,[])) (some (Zx .u64 (Zy .u64 (↑(BitVec.toNat (BitVec.ofInt (Zf .u64) (Zy .u64 (Zy .u64 c*2 ^ min (Zu 56) (Zf .u64))) ||| BitVec.ofInt (Zf .u64) (Zy .u64 n))):Int)),[])))):Option (AV×Blocks))) (by kernel_rfl) ?_
  unfold Vf Vv
  by_cases hc:c=1∨c=2
  case neg =>
   have q1:(c==(1:Int))=false:=by simp;omega
   have q2:(c==(2:Int))=false:=by simp;omega
   rw [q1,q2]
   rfl
  by_cases hn:1≤n∧n≤4294967295
  case neg =>
   have q:(decide (1≤n)&&decide (n≤4294967295))=false:=by
    rw [Bool.eq_false_iff]
    simp
    omega
   rw [q,Bool.and_false]
   have key:(sel (decide (n<(1:Int))) (some (Zx .u64 (0:Int),([]:Blocks))) (sel (decide (n>(4294967295:Int))) (some (Zx .u64 (0:Int),[])) (some (Zx Xz (Zy Xz ((BitVec.toNat (BitVec.ofInt (Zf Xz) (Zy Xz (Zy Xz c*(2:Int) ^ min (Zu (56:Int)) (Zf Xz))) ||| BitVec.ofInt (Zf Xz) (Zy Xz n)):Nat):Int)),[]))))=some (Zx .u64 0,[]):=by
    by_cases hl:n<1
    ·rw [sel_pos (by simpa using hl)]
    ·rw [sel_neg (by simpa using hl),sel_pos (by simp;omega)]
   rcases hc with rfl | rfl
   ·rw [sel_neg (by decide)];exact key
   ·rw [sel_pos (by decide),sel_neg (by decide)];exact key
  have q:(decide (1≤n)&&decide (n≤4294967295))=true:=by simp;omega
  have q2:(c==(1:Int)||c==(2:Int))=true:=by simpa using hc
  rw [q,q2,Kerb.key_make hc hn.1 hn.2]
  rcases hc with rfl | rfl
  ·rw [sel_neg (by decide),sel_neg (by simp;omega),sel_neg (by simp;omega)]
   rfl
  ·rw [sel_pos (by decide),sel_neg (by decide),sel_neg (by simp;omega),sel_neg (by simp;omega)]
   rfl
 ·cases h
theorem w168:Walked Tryz.prog G 168 1 sp168:=by
 refine ⟨Tryz.f168,Tryz.func168,by decide +kernel,rfl,fun xs bl r h=> ?_⟩
 unfold sp168 at h
 split at h
 ·rename_i b pos n
  obtain ⟨hpre,h2⟩:=chk_inv h;cases h2
  refine Eq.trans (b:=(sel (decide (pos<0)) (some (Zx .i64 104,[])) (sel (decide (pos>(↑(Zz b):Int))) (some (Zx .i64 104,[])) (sel (decide (n<0)) (some (Zx .i64 104,[])) (sel (decide (n>Zy .i64 ((↑(Zz b):Int)-pos))) (some (Zx .i64 101,[])) (some (Zx .i64 0,[]))))):Option (AV×Blocks))) (by kernel_rfl) ?_
  simp only [decide_eq_true_eq] at hpre
  unfold Vw
  by_cases h1:pos<0
  ·simp [sel,h1]
  by_cases h2:(b.length:Int)<pos
  ·simp [sel,h1,h2]
  by_cases h3:n<0
  ·simp [sel,h1,h2,h3]
  rw [sel_neg (by simp;omega),sel_neg (by simp;omega),sel_neg (by simp;omega),wrap_i64 (by omega) (by omega),if_neg (by omega)]
  by_cases h4:(b.length:Int)-pos<n
  ·rw [sel_pos (by simp;omega),if_pos h4]
  ·rw [sel_neg (by simp;omega),if_neg h4]
 ·cases h
theorem w172:Walked Tryz.prog G 172 1 sp172:=by
 refine ⟨Tryz.f172,Tryz.func172,by decide +kernel,rfl,fun xs bl r h=> ?_⟩
 unfold sp172 at h
 split at h
 ·rename_i n m
  cases h
  refine Eq.trans (b:=(sel (decide (n≥0)) (some (Zq (decide (n≤m)),[])) (some (Zq false,[])):Option (AV×Blocks))) (by kernel_rfl) ?_
  by_cases h:0≤n<;>simp [sel,Zg,h]
 ·cases h
theorem w173:Walked Tryz.prog G 173 1 sp173:=by
 refine ⟨Tryz.f173,Tryz.func173,by decide +kernel,rfl,fun xs bl r h=> ?_⟩
 unfold sp173 at h
 split at h
 ·rename_i n m
  cases h
  refine Eq.trans (b:=(sel (decide (n≥0)) (some (Zq (decide (n≤m)),[])) (some (Zq false,[])):Option (AV×Blocks))) (by kernel_rfl) ?_
  by_cases h:0≤n<;>simp [sel,Zg,h]
 ·cases h
theorem w180:Walked Tryz.prog G 180 1 sp180:=by
 refine ⟨Tryz.f180,Tryz.func180,by decide +kernel,rfl,fun xs bl r h=> ?_⟩
 unfold sp180 at h
 split at h
 ·rename_i k
  cases h
  refine Eq.trans (b:=(sel (k==1) (some (Zq true,[])) (some (Zq (k==2),[])):Option (AV×Blocks))) (by kernel_rfl) ?_
  unfold Vf
  cases (k==(1:Int))<;>rfl
 ·cases h
theorem w181:Walked Tryz.prog G 181 1 sp181:=by
 refine ⟨Tryz.f181,Tryz.func181,by decide +kernel,rfl,fun xs bl r h=> ?_⟩
 unfold sp181 at h
 split at h
 ·rename_i k
  cases h
  refine Eq.trans (b:=(sel (decide (k≥1)) (some (Zq (decide (k≤4294967295)),[])) (some (Zq false,[])):Option (AV×Blocks))) (by kernel_rfl) ?_
  by_cases h:1≤k<;>simp [sel,Vv,h]
 ·cases h
theorem w189:Walked Tryz.prog G 189 1 sp189:=by
 refine ⟨Tryz.f189,Tryz.func189,by decide +kernel,rfl,fun xs bl r h=> ?_⟩
 unfold sp189 at h
 split at h
 ·rename_i n m
  cases h
  refine Eq.trans (b:=(sel (decide (n≥0)) (some (Zq (decide (n≤m)),[])) (some (Zq false,[])):Option (AV×Blocks))) (by kernel_rfl) ?_
  by_cases h:0≤n<;>simp [sel,Zg,h]
 ·cases h
theorem w190:Walked Tryz.prog G 190 1 sp190:=by
 refine ⟨Tryz.f190,Tryz.func190,by decide +kernel,rfl,fun xs bl r h=> ?_⟩
 unfold sp190 at h
 split at h
 ·rename_i n m
  cases h
  refine Eq.trans (b:=(sel (decide (n≥0)) (some (Zq (decide (n≤m)),[])) (some (Zq false,[])):Option (AV×Blocks))) (by kernel_rfl) ?_
  by_cases h:0≤n<;>simp [sel,Zg,h]
 ·cases h
theorem w39:Walked Tryz.prog G 39 2 sp39:=by
 refine ⟨Tryz.f39,Tryz.func39,by decide +kernel,rfl,fun xs bl r h=> ?_⟩
 unfold sp39 at h
 split at h
 ·rename_i m1 m2 m3 kls sz fl mls sk
  obtain ⟨hpre,h2⟩:=chk_inv h;cases h2
  refine Eq.trans (b:=(Zw (chk (decide (Zz kls≤1000000)) (some (AV.ownL kls,[]))) fun (r:AV×Blocks)=>onNilB (Zm r) (AV.onOwnL (Yw r) fun l=>Zw (chk (decide (Zz mls≤1000000)) (some (AV.ownL mls,[]))) fun (r:AV×Blocks)=>onNilB (Zm r) (AV.onOwnL (Yw r) fun l_1=>some (Wg [Zk m1,Zk m2,Zk m3,Xv 5 l,Zx .i64 sz,Zx .i64 fl,Xv 5 l_1,Zx .i64 sk],[]))):Option (AV×Blocks))) (by kernel_rfl) ?_
  simp only [Yz,decide_eq_true_eq] at hpre
  simp only [hpre,decide_true,↓A0,A0]
 ·cases h
theorem w61:Walked Tryz.prog G 61 2 sp61:=by
 refine ⟨Tryz.f61,Tryz.func61,by decide +kernel,rfl,fun xs bl r h=> ?_⟩
 unfold sp61 at h
 split at h
 ·rename_i n
  obtain ⟨hpre,h2⟩:=chk_inv h;cases h2
  refine Eq.trans (b:=(chk (decide (0≤Yy n 3)&&decide (Yy n 3<(↑(Zz [Zk [(65:UInt8),(84:UInt8),(72:UInt8)],Zk [(66:UInt8),(79:UInt8),(83:UInt8)],Zk [(67:UInt8),(65:UInt8),(77:UInt8)]]):Int))&&true) (Wy (Ym [Zk [(65:UInt8),(84:UInt8),(72:UInt8)],Zk [(66:UInt8),(79:UInt8),(83:UInt8)],Zk [(67:UInt8),(65:UInt8),(77:UInt8)]] (Zu (Yy n 3)) Vh) fun b=>some (Zk b,[])):Option (AV×Blocks))) (by kernel_rfl) ?_
  have hn:0≤n:=by first | exact of_decide_eq_true hpre | (simp only [Yz,decide_eq_true_eq] at hpre;exact hpre.1)
  have ht:Yy n 3=n % 3:=Yh hn
  have hcase:n % 3=0∨n % 3=1∨n % 3=2:=by omega
  rcases hcase with e | e | e<;>simp [ht,e,chk,Wy,Kerb.realm]
 ·cases h
theorem w81:Walked Tryz.prog G 81 2 sp81:=by
 refine ⟨Tryz.f81,Tryz.func81,by decide +kernel,rfl,fun xs bl r h=> ?_⟩
 unfold sp81 at h
 split at h
 ·rename_i s
  obtain ⟨hpre,h2⟩:=chk_inv h;cases h2
  refine Eq.trans (b:=(sel (decide ((↑(Zz s):Int)>0)) (Zw (chk (decide (Zz s≤9223372036854775807)&&true) (some (Zq (Yf s [(64:UInt8)]&&decide (Zz s≤39)),[]))) fun (r:AV×Blocks)=>onNilB (Zm r) (Xq (Yw r) fun b=>some (Zq b,[]))) (some (Zq false,[])):Option (AV×Blocks))) (by kernel_rfl) ?_
  simp only [A0]
  rw [chk_of (by rw [hpre];rfl)]
  simp only [Kerb.validRealm]
  cases s with
  | nil=>rfl
  | cons x r =>
   rw [sel_pos (by first | (simp;done) | (simp;omega)),Bool.and_comm]
   rfl
 ·cases h
theorem w83:Walked Tryz.prog G 83 2 sp83:=by
 refine ⟨Tryz.f83,Tryz.func83,by decide +kernel,rfl,fun xs bl r h=> ?_⟩
 unfold sp83 at h
 split at h
 ·rename_i b n
  obtain ⟨hpre,h2⟩:=chk_inv h;cases h2
  refine Eq.trans (b:=(Zw (chk (decide (Zz b≤70368744177664)) (some (Zn (b++Zb n (Zu 1) false),[]))) fun (r:AV×Blocks)=>onNilB (Zm r) (Xx (Yw r) fun l=>some (Zn l,[])):Option (AV×Blocks))) (by kernel_rfl) ?_
  simp only [decide_eq_true_eq] at hpre
  simp only [A0]
  rw [chk_of (by simp;omega)]
  rfl
 ·cases h
theorem w100:Walked Tryz.prog G 100 2 sp100:=by
 refine ⟨Tryz.f100,Tryz.func100,by decide +kernel,rfl,fun xs bl r h=> ?_⟩
 unfold sp100 at h
 split at h
 ·rename_i a b s
  cases h
  refine Eq.trans (b:=(sel (!Zg a 4294967295) (some (Zq false,[])) (sel (!Zg b 4294967295) (some (Zq false,[])) (sel (!Zg s 4294967295) (some (Zq false,[])) (sel (decide (Zy .i64 (a-b)≤s)) (some (Zq (decide (Zy .i64 (b-a)≤s)),[])) (some (Zq false,[]))))):Option (AV×Blocks))) (by kernel_rfl) ?_
  unfold Kerb.near
  cases h1:Zg a 4294967295
  ·rfl
  cases h2:Zg b 4294967295
  ·rfl
  have a1:=Kerb.within_iff.1 h1
  have a2:=Kerb.within_iff.1 h2
  simp only [Xw,sel_false,Vq,Bool.true_and]
  rw [wrap_i64 (n:=a-b) (by omega) (by omega),wrap_i64 (n:=b-a) (by omega) (by omega)]
  cases h3:Zg s 4294967295
  ·rfl
  cases decide (a-b≤s)<;>rfl
 ·cases h
theorem w103:Walked Tryz.prog G 103 2 sp103:=by
 refine ⟨Tryz.f103,Tryz.func103,by decide +kernel,rfl,fun xs bl r h=> ?_⟩
 unfold sp103 at h
 split at h
 ·rename_i sz fl mls a1 a2 a3 at_ atk
  obtain ⟨hpre,h2⟩:=chk_inv h;cases h2
  refine Eq.trans (b:=(Zw (chk (List.all mls Kerb.isMark&&decide (Zz mls≤1000000)) (some (Zq (Kerb.hasMark (List.map Kerb.toMark mls) (Kerb.Mark.mk (Wx a1 a2 a3) at_ atk)),[]))) fun (r:AV×Blocks)=>onNilB (Zm r) (Xq (Yw r) fun b=>some (Zq b,[])):Option (AV×Blocks))) (by kernel_rfl) ?_
  simp only [hpre,↓A0,A0]
 ·cases h
theorem w116:Walked Tryz.prog G 116 2 sp116:=by
 refine ⟨Tryz.f116,Tryz.func116,by decide +kernel,rfl,fun xs bl r h=> ?_⟩
 unfold sp116 at h
 split at h
 ·rename_i k little
  cases h
  refine Eq.trans (b:=(sel (!Xu k) (some (Zh [],[])) (sel little (some (Zh [(4:UInt8),Yk (Zu (Zy .u8 (Zy .i64 (Zy .i64 (2*k)+1))))],[])) (some (Zh [(4:UInt8),Yk (Zu (Zy .u8 (Zy .i64 (2*k))))],[]))):Option (AV×Blocks))) (by kernel_rfl) ?_
  by_cases h:1≤k∧k≤10
  ·have hk:k=1∨k=2∨k=3∨k=4∨k=5∨k=6∨k=7∨k=8∨k=9∨k=10:=by omega
   rcases hk with rfl | rfl | rfl | rfl | rfl | rfl | rfl | rfl | rfl | rfl<;>cases little<;>rfl
  ·have hk:Xu k=false:=by simp [Xu];omega
   by_cases h1:k<1
   ·simp [sel,Xf,hk,h1]
   ·have h2:10<k:=by omega
    simp [sel,Xf,hk,h1,h2]
 ·cases h
theorem w118:Walked Tryz.prog G 118 2 sp118:=by
 refine ⟨Tryz.f118,Tryz.func118,by decide +kernel,rfl,fun xs bl r h=> ?_⟩
 unfold sp118 at h
 split at h
 ·rename_i els
  obtain ⟨hpre,h2⟩:=chk_inv h;cases h2
  refine Eq.trans (b:=(Zw (loopM (fun (st:List AV)=>cSl 1 st fun b r=>cInt .i64 r fun n r=>cSl 1 r fun b_1 r=>cInt .i64 r fun n_1 r=>cInt .i64 r fun n_2 r=>onNil r (sel (decide (n_2<n_1)) (chk (decide (0≤n_2)&&decide (n_2<(↑(Zz b_1):Int))&&true) (AV.onBs (Ym b_1 (Zu n_2) Vh) fun b_2=>sel (decide (Zy .i64 (n+(↑(Zz b_2):Int))<0)) none (some (Wu [Xv 1 b,Zx .i64 (Zy .i64 (n+(↑(Zz b_2):Int))),Xv 1 b_1,Zx .i64 n_1,Zx .i64 (Zy .i64 (n_2+1))])))) (some (Xj (Xy 0,[Xv 1 b,Zx .i64 n,Xv 1 b_1,Zx .i64 n_1,Zx .i64 n_2]))))) [Xv 1 els,Zx .i64 0,Xv 1 els,Zx .i64 (↑(Zz els):Int),Zx .i64 0]) fun (r:Ex×List AV)=>cSl 1 (Zm r) fun b r_1=>cInt .i64 r_1 fun n r_2=>cSl 1 r_2 fun b_1 r_3=>cInt .i64 r_3 fun n_1 r_4=>cInt .i64 r_4 fun n_2 r_5=>onNil r_5 (exK r.1 none fun (j:Nat)=>sel (Wq j 0) (Zw (chk (decide (0≤n)&&decide (n≤140737488355328)) (some (Zn [],[]))) (kO fun l=>Zw (loopM (fun (st:List AV)=>onCons st fun x r=>Xx x fun b=>cSl 1 r fun b_2 r=>cInt .i64 r fun n r=>cInt .i64 r fun n_3 r=>onNil r (sel (decide (n_3<n)) (chk (decide (0≤n_3)&&decide (n_3<(↑(Zz b_2):Int))&&true) (AV.onBs (Ym b_2 (Zu n_3) Vh) fun b_3=>chk (room (Zz b+Zz b_3) 1) (some (Wu [Zn (b++b_3),Xv 1 b_2,Zx .i64 n,Zx .i64 (Zy .i64 (n_3+1))])))) (some (Xj (Xy 2,[Zn b,Xv 1 b_2,Zx .i64 n,Zx .i64 n_3]))))) [Zn l,Xv 1 b,Zx .i64 (↑(Zz b):Int),Zx .i64 0]) fun (r:Ex×List AV)=>onCons (Zm r) fun x r_6=>Xx x fun b=>cSl 1 r_6 fun b_2 r_7=>cInt .i64 r_7 fun n r_8=>cInt .i64 r_8 fun n r_9=>onNil r_9 (exK r.1 none fun (j:Nat)=>sel (Wq j 2) (some (Zn b,[])) none))) none):Option (AV×Blocks))) (by kernel_rfl) ?_
  delta kO
  try dsimp only [cStr,cBs,cBool,cU8,cInt,cSl,l63]
  simp only [Yz,decide_eq_true_eq] at hpre
  obtain ⟨⟨ha,hl⟩,hbig⟩:=hpre
  refine loop_rounds (fun i:Nat=>[Xv 1 els,Zx Zv ((catB (els.take i)).length:Int),Xv 1 els,Zx Zv (els.length:Int),Zx Zv (i:Int)]) (fun i=>i≤els.length) (fun i=>els.length-i)
   (fun r=>r=(Xy 0,[Xv 1 els,Zx Zv ((catB els).length:Int),Xv 1 els,Zx Zv (els.length:Int),Zx Zv (els.length:Int)])) 0 (Wp _) rfl ?_ ?_
  ·intro i hi
   simp only [A0]
   by_cases hlt:i<els.length
   ·obtain ⟨l,h1,h2,h3⟩:=Kerb.cat_step ha hlt
    rw [sel_pos (by simp;omega),chk_of (by simp;omega),Yn,h1,onBs_bs,wrap_i64 (n:=((catB (els.take i)).length:Int)+(l.length:Int)) (by omega) (by omega),sel_neg (by simp;omega),wrap_i64 (by omega) (by omega)]
    refine ⟨_,rfl,i+1,?_,by omega,by dsimp only;omega⟩
    dsimp only
    rw [h2,List.length_append,Int.natCast_add]
    rfl
   ·rw [sel_neg (by simp;omega)]
    refine ⟨_,rfl,?_⟩
    show _=_
    rw [Xk (by omega),show i=els.length from by omega]
  rintro r rfl
  simp only [A0]
  rw [sel_pos (Yd _),chk_of (by simp;omega)]
  refine loop_rounds (fun i:Nat=>[Zn (catB (els.take i)),Xv 1 els,Zx Zv (els.length:Int),Zx Zv (i:Int)]) (fun i=>i≤els.length) (fun i=>els.length-i)
   (fun r=>r=(Xy 2,[Zn (catB els),Xv 1 els,Zx Zv (els.length:Int),Zx Zv (els.length:Int)])) 0 (Wp _) rfl ?_ ?_
  ·intro i hi
   simp only [A0]
   by_cases hlt:i<els.length
   ·obtain ⟨l,h1,h2,h3⟩:=Kerb.cat_step ha hlt
    rw [sel_pos (by simp;omega),chk_of (by simp;omega),Yn,h1,onBs_bs,chk_of (Yu (by omega)),wrap_i64 (by omega) (by omega)]
    refine ⟨_,rfl,i+1,?_,by omega,by dsimp only;omega⟩
    dsimp only
    rw [h2]
    rfl
   ·rw [sel_neg (by simp;omega)]
    refine ⟨_,rfl,?_⟩
    show _=_
    rw [Xk (by omega),show i=els.length from by omega]
  rintro r rfl
  simp only [A0]
  rw [sel_pos (Yd _)]
 ·cases h
theorem w119:Walked Tryz.prog G 119 2 sp119:=by
 refine ⟨Tryz.f119,Tryz.func119,by decide +kernel,rfl,fun xs bl r h=> ?_⟩
 unfold sp119 at h
 split at h
 ·rename_i b n little
  obtain ⟨hpre,h2⟩:=chk_inv h;cases h2
  refine Eq.trans (b:=(Zw (chk (decide (Zz b≤70368744177664)) (some (Zn (b++Zb n (Zu 4) little),[]))) fun (r:AV×Blocks)=>onNilB (Zm r) (Xx (Yw r) fun l=>some (Zn l,[])):Option (AV×Blocks))) (by kernel_rfl) ?_
  simp only [decide_eq_true_eq] at hpre
  simp only [A0]
  rw [chk_of (by simp;omega)]
  rfl
 ·cases h
theorem w122:Walked Tryz.prog G 122 2 sp122:=by
 refine ⟨Tryz.f122,Tryz.func122,by decide +kernel,rfl,fun xs bl r h=> ?_⟩
 unfold sp122 at h
 split at h
 ·rename_i k
  obtain ⟨hpre,h2⟩:=chk_inv h;cases h2
  refine Eq.trans (b:=(sel (!k==0) (some (Zq ((bif Vf (Zy .i64 (Wn k (2 ^ min (Zu 56) (Zf .u64))))&&Vv (Zy .i64 (Zy .u64 (↑(BitVec.toNat (BitVec.ofInt (Zf .u64) k &&& BitVec.ofInt (Zf .u64) 72057594037927935)):Int))) then Zy .i64 (Wn k (2 ^ min (Zu 56) (Zf .u64)))*72057594037927936+Zy .i64 (Zy .u64 (↑(BitVec.toNat (BitVec.ofInt (Zf .u64) k &&& BitVec.ofInt (Zf .u64) 72057594037927935)):Int)) else 0)==k),[])) (some (Zq false,[])):Option (AV×Blocks))) (by kernel_rfl) ?_
  simp only [Yz,decide_eq_true_eq] at hpre
  obtain ⟨h0,h1⟩:=hpre
  rw [Kerb.key_hi h0 h1,Kerb.key_lo h0 h1,Kerb.key_sum]
  by_cases hk:k=0
  ·subst hk;rfl
  rw [sel_pos (by simpa using hk)]
  unfold Yg
  cases Vf (Kerb.keyClass k)&&Vv (Kerb.keySerial k)
  ·have q:((0:Int)==k)=false:=by simp;omega
   simp only [cond_false,q]
  ·simp only [cond_true,BEq.rfl]
 ·cases h
theorem w129:Walked Tryz.prog G 129 2 sp129:=by
 refine ⟨Tryz.f129,Tryz.func129,by decide +kernel,rfl,fun xs bl r h=> ?_⟩
 unfold sp129 at h
 split at h
 ·rename_i kls x y z v
  obtain ⟨hpre,h2⟩:=chk_inv h;cases h2
  refine Eq.trans (b:=(Zw (loopM (fun (st:List AV)=>cSl 5 st fun b r=>cStr r fun b_1 r=>cStr r fun b_2 r=>cStr r fun b_3 r=>cInt .i64 r fun n r=>cInt .i64 r fun n_1 r=>cSl 5 r fun b_4 r=>cInt .i64 r fun n_2 r=>cInt .i64 r fun n_3 r=>onNil r (sel (decide (n_3<n_2)) (chk (decide (0≤n_3)&&decide (n_3<(↑(Zz b_4):Int))&&true) (AV.onAgg (Ym b_4 (Zu n_3) Vh) fun cs=>cStr cs fun b_5 r=>cStr r fun b_6 r=>cStr r fun b_7 r=>cInt .i64 r fun n_4 r=>cInt .u64 r fun n_5 r=>onNil r (sel (b_5==b_1&&(b_6==b_2&&(b_7==b_3&&n_4==n))) (some (Xj (Ex.ret,[Xv 5 b,Zk b_1,Zk b_2,Zk b_3,Zx .i64 n,Zx .i64 n_3,Xv 5 b_4,Zx .i64 n_2,Zx .i64 n_3]))) (some (Wu [Xv 5 b,Zk b_1,Zk b_2,Zk b_3,Zx .i64 n,Zx .i64 n_1,Xv 5 b_4,Zx .i64 n_2,Zx .i64 (Zy .i64 (n_3+1))]))))) (some (Xj (Xy 0,[Xv 5 b,Zk b_1,Zk b_2,Zk b_3,Zx .i64 n,Zx .i64 n_1,Xv 5 b_4,Zx .i64 n_2,Zx .i64 n_3]))))) [Xv 5 kls,Zk x,Zk y,Zk z,Zx .i64 v,Zx .i64 0,Xv 5 kls,Zx .i64 (↑(Zz kls):Int),Zx .i64 0]) fun (r:Ex×List AV)=>cSl 5 (Zm r) fun b r_1=>cStr r_1 fun b_1 r_2=>cStr r_2 fun b_2 r_3=>cStr r_3 fun b_3 r_4=>cInt .i64 r_4 fun n r_5=>cInt .i64 r_5 fun n r_6=>cSl 5 r_6 fun b_4 r_7=>cInt .i64 r_7 fun n_1 r_8=>cInt .i64 r_8 fun n_2 r_9=>onNil r_9 (exK r.1 (some (Zx .i64 n,[])) fun (j:Nat)=>sel (Wq j 0) (some (Zx .i64 (↑(Zz b):Int),[])) none):Option (AV×Blocks))) (by kernel_rfl) ?_
  try dsimp only [cStr,cBs,cBool,cU8,cInt,cSl,l63]
  simp only [Yz,decide_eq_true_eq] at hpre
  obtain ⟨hall,hlen⟩:=hpre
  obtain ⟨cs,rfl,hok⟩:=Kerb.skeys_of hall
  rw [Kerb.map_toSKey]
  simp only [Vd] at hlen ⊢
  refine loop_rounds (fun i:Nat=>[Xv 5 (cs.map Vu),Zk x,Zk y,Zk z,Zx Zv v,Zx Zv 0,Xv 5 (cs.map Vu),Zx Zv (cs.length:Int),Zx Zv (i:Int)]) (fun i=>i≤cs.length∧Vx cs ⟨x,y,z⟩ v=i+Vx (cs.drop i) ⟨x,y,z⟩ v) (fun i=>cs.length-i)
   (fun r=>∃ (i:Nat) (n:Int),r.2=[Xv 5 (cs.map Vu),Zk x,Zk y,Zk z,Zx Zv v,Zx Zv n,Xv 5 (cs.map Vu),Zx Zv (cs.length:Int),Zx Zv (i:Int)]∧((r.1 = .ret∧n=(Vx cs ⟨x,y,z⟩ v:Nat))∨(r.1 = .exit 0∧Vx cs ⟨x,y,z⟩ v=cs.length))) 0 ⟨Wp _,by simp⟩ rfl ?_ ?_
  ·rintro i ⟨hi,hp⟩
   simp only [↓A0,A0]
   by_cases hlt:i<cs.length
   ·rw [sel_pos (by simp;omega),chk_of (by simp;omega),Yn,Kerb.getD_row (d:=Kerb.noSKey) hlt]
    have hd:=Kerb.drop_row (d:=Kerb.noSKey) hlt
    generalize cs.getD i Kerb.noSKey=c at hd
    simp only [Vu,↓A0,A0]
    have he0:(c.service.name==x&&(c.service.inst==y&&(c.service.realm==z&&c.kvno==v)))=Kerb.SKey.is ⟨x,y,z⟩ v c:=by
     simp only [Kerb.SKey.is,Kerb.Prin.eqb,Bool.and_assoc]
    rw [he0]
    cases he:Kerb.SKey.is ⟨x,y,z⟩ v c
    ·rw [sel_false,wrap_i64 (by omega) (by omega)]
     refine ⟨_,rfl,i+1,rfl,⟨by omega,?_⟩,by dsimp only;omega⟩
     rw [hp,hd]
     simp only [Vx,List.findIdx_cons,he,cond_false]
     omega
    ·rw [sel_true]
     refine ⟨_,rfl,i,_,rfl,.inl ⟨rfl,?_⟩⟩
     rw [hp,hd]
     simp only [Vx,List.findIdx_cons,he,cond_true]
     omega
   ·rw [sel_neg (by simp;omega)]
    refine ⟨_,rfl,i,_,rfl,.inr ⟨rfl,?_⟩⟩
    rw [hp,Xp (by omega)]
    simp [Vx];omega
  ·rintro ⟨e,l⟩ ⟨i,n,rfl,⟨rfl,h⟩ | ⟨rfl,h⟩⟩
   ·simp only [↓A0,A0,h]
   ·simp only [↓A0,A0,h,Vd]
    rw [sel_pos (Yd _)]
 ·cases h
theorem w138:Walked Tryz.prog G 138 2 sp138:=by
 refine ⟨Tryz.f138,Tryz.func138,by decide +kernel,rfl,fun xs bl r h=> ?_⟩
 unfold sp138 at h
 split at h
 ·rename_i s
  obtain ⟨hpre,h2⟩:=chk_inv h;cases h2
  refine Eq.trans (b:=(sel (decide ((↑(Zz s):Int)>0)) (Zw (chk (decide (Zz s≤9223372036854775807)&&true) (some (Zq (Yf s [(46:UInt8),(64:UInt8)]&&decide (Zz s≤39)),[]))) fun (r:AV×Blocks)=>onNilB (Zm r) (Xq (Yw r) fun b=>some (Zq b,[]))) (some (Zq false,[])):Option (AV×Blocks))) (by kernel_rfl) ?_
  simp only [A0]
  rw [chk_of (by rw [hpre];rfl)]
  simp only [Vg]
  cases s with
  | nil=>rfl
  | cons x r =>
   rw [sel_pos (by first | (simp;done) | (simp;omega)),Bool.and_comm]
   rfl
 ·cases h
theorem w139:Walked Tryz.prog G 139 2 sp139:=by
 refine ⟨Tryz.f139,Tryz.func139,by decide +kernel,rfl,fun xs bl r h=> ?_⟩
 unfold sp139 at h
 split at h
 ·rename_i s
  obtain ⟨hpre,h2⟩:=chk_inv h;cases h2
  refine Eq.trans (b:=(Zw (chk (decide (Zz s≤9223372036854775807)&&true) (some (Zq (Yf s [(64:UInt8)]&&decide (Zz s≤39)),[]))) fun (r:AV×Blocks)=>onNilB (Zm r) (Xq (Yw r) fun b=>some (Zq b,[])):Option (AV×Blocks))) (by kernel_rfl) ?_
  simp only [A0]
  rw [chk_of (by rw [hpre];rfl),Bool.and_comm]
  rfl
 ·cases h
theorem w142:Walked Tryz.prog G 142 2 sp142:=by
 refine ⟨Tryz.f142,Tryz.func142,by decide +kernel,rfl,fun xs bl r h=> ?_⟩
 unfold sp142 at h
 split at h
 ·rename_i b
  cases h
  refine Eq.trans (b:=(sel (decide ((↑(Zz b):Int)<2)) (some (Yx [Zx .i64 0,Zq false,Zx .i64 101],[])) (chk (decide (0<(↑(Zz b):Int))) (sel (!Ym b (Zu 0) (0:UInt8)==(4:UInt8)) (some (Yx [Zx .i64 0,Zq false,Zx .i64 39],[])) (chk (decide (1<(↑(Zz b):Int))) (sel (!Xu (Zy .i64 (Vz (Zy .i64 (↑(Yj (Ym b (Zu 1) (0:UInt8))):Int)) 2))) (some (Yx [Zx .i64 0,Zq false,Zx .i64 40],[])) (chk (decide (1<(↑(Zz b):Int))) (some (Yx [Zx .i64 (Zy .i64 (Vz (Zy .i64 (↑(Yj (Ym b (Zu 1) (0:UInt8))):Int)) 2)),Zq (Yk (Zu (Yy (↑(Yj (Ym b (Zu 1) (0:UInt8))):Int) (↑(Yj (2:UInt8)):Int)))==(1:UInt8)),Zx .i64 0],[]))))))):Option (AV×Blocks))) (by kernel_rfl) ?_
  unfold Wz
  by_cases h1:b.length<2
  ·rw [sel_pos (by simp;omega)]
   simp [h1]
  rw [sel_neg (by simp;omega),chk_of (by simp;omega),if_neg h1]
  by_cases h2:b.getD 0 0=4
  ·have hb:=(b.getD 1 0).toNat_lt
   have e:Zy Zv (Vz (Zy Zv ((b.getD (Zu 1) 0).toNat:Int)) 2)=(((b.getD 1 0).toNat / 2:Nat):Int):=by
    rw [show Zu 1=1 from rfl,wrap_i64 (n:=((b.getD 1 0).toNat:Int)) (by omega) (by omega),Vm (by omega),wrap_i64 (by omega) (by omega)];omega
   have e2:(Yk (Zu (Yy ((b.getD (Zu 1) 0).toNat:Int) ((2:UInt8).toNat:Int)))==1)=decide ((b.getD 1 0).toNat % 2=1):=by
    rw [show Zu 1=1 from rfl,Yh (by omega)]
    have e3:Zu (((b.getD 1 0).toNat:Int) % ((2:UInt8).toNat:Int))=(b.getD 1 0).toNat % 2:=by
     show Zu (((b.getD 1 0).toNat:Int) % 2)=_
     omega
    rw [e3]
    rcases Nat.mod_two_eq_zero_or_one (b.getD 1 0).toNat with h | h<;>rw [h]<;>rfl
   rw [sel_neg (by simp [h2] at *;exact h2),chk_of (by simp;omega),if_neg (by simpa using h2),e,e2]
   cases hk:Xu (((b.getD 1 0).toNat / 2:Nat):Int)
   ·rfl
   ·rw [Xw,sel_false,chk_of (by simp;omega)]
    rfl
  ·rw [sel_pos (by simpa using h2),if_pos (by simpa using h2)]
 ·cases h
theorem w146:Walked Tryz.prog G 146 2 sp146:=by
 refine ⟨Tryz.f146,Tryz.func146,by decide +kernel,rfl,fun xs bl r h=> ?_⟩
 unfold sp146 at h
 split at h
 ·rename_i b pos n
  obtain ⟨hpre,h2⟩:=chk_inv h;cases h2
  refine Eq.trans (b:=(Zw (chk (decide (Zz b≤4611686018427387904)) (some (Zx .i64 (Vw b pos n),[]))) fun (r:AV×Blocks)=>onNilB (Zm r) (Xd .i64 (Yw r) fun n_1=>sel (!n_1==0) (some (Yx [Zh [],Zx .i64 0,Zx .i64 n_1],[])) (chk (decide (0≤pos)&&decide (pos≤Zy .i64 (pos+n))&&decide (Zy .i64 (pos+n)≤(↑(Zz b):Int))) (Zw (chk (decide (Zz (Wj (Zu pos) (Xn (Zu (Zy .i64 (pos+n))) b))≤140737488355328)) (some (Zh (Wj (Zu pos) (Xn (Zu (Zy .i64 (pos+n))) b)),[]))) fun (r:AV×Blocks)=>onNilB (Zm r) (AV.onBs (Yw r) fun b=>some (Yx [Zh b,Zx .i64 (Zy .i64 (pos+n)),Zx .i64 0],[]))))):Option (AV×Blocks))) (by kernel_rfl) ?_
  have hb:=of_decide_eq_true hpre
  simp only [A0]
  rw [chk_of (by simp;omega)]
  unfold Vb
  by_cases hr:Vw b pos n=0
  ·obtain ⟨q1,q2,q3,q4⟩:=Kerb.room_zero.1 hr
   have e:Wj (Zu pos) (Xn (Zu (pos+n)) b)=Kerb.cut b pos n:=by
    rw [show Zu (pos+n)=pos.toNat+n.toNat by omega,List.drop_take,show pos.toNat+n.toNat-pos.toNat=n.toNat by omega]
    rfl
   have hc:=Kerb.cut_length hr
   rw [sel_neg (by simp [hr]),if_pos hr,wrap_i64 (by omega) (by omega),e,chk_of (by simp;omega),chk_of (by simp;omega)]
  ·rw [sel_pos (by simpa using hr),if_neg hr]
 ·cases h
theorem w151:Walked Tryz.prog G 151 2 sp151:=by
 refine ⟨Tryz.f151,Tryz.func151,by decide +kernel,rfl,fun xs bl r h=> ?_⟩
 unfold sp151 at h
 split at h
 ·rename_i b x y z
  obtain ⟨hpre,h2⟩:=chk_inv h;cases h2
  refine Eq.trans (b:=(Zw (chk (decide (Zz b+Zz x≤70368744177664)) (some (Zh (Yv b x),[]))) fun (r:AV×Blocks)=>onNilB (Zm r) (AV.onBs (Yw r) fun b=>Zw (chk (decide (Zz b+Zz y≤70368744177664)) (some (Zh (Yv b y),[]))) fun (r:AV×Blocks)=>onNilB (Zm r) (AV.onBs (Yw r) fun b=>Zw (chk (decide (Zz b+Zz z≤70368744177664)) (some (Zh (Yv b z),[]))) fun (r:AV×Blocks)=>onNilB (Zm r) (AV.onBs (Yw r) fun b=>some (Zh b,[])))):Option (AV×Blocks))) (by kernel_rfl) ?_
  simp only [decide_eq_true_eq] at hpre
  simp only [A0]
  rw [chk_of (by simp;omega),chk_of (by simp [Yv];omega),chk_of (by simp [Yv];omega)]
  rfl
 ·cases h
theorem w158:Walked Tryz.prog G 158 2 sp158:=by
 refine ⟨Tryz.f158,Tryz.func158,by decide +kernel,rfl,fun xs bl r h=> ?_⟩
 unfold sp158 at h
 split at h
 ·rename_i i l
  cases h
  refine Eq.trans (b:=(sel (!Zg i 4294967295) (some (Zx .i64 0,[])) (sel (!Zg l 255) (some (Zx .i64 0,[])) (some (Zx .i64 (Zy .i64 (i+Zy .i64 (300*Zy .i64 (l+1)))),[]))):Option (AV×Blocks))) (by kernel_rfl) ?_
  unfold Kerb.tEnd
  cases h1:Zg i 4294967295
  ·rfl
  cases h2:Zg l 255
  ·rfl
  have a1:=Kerb.within_iff.1 h1
  have a2:=Kerb.within_iff.1 h2
  simp only [Xw,sel_false,Vq,if_true]
  rw [wrap_i64 (n:=l+1) (by omega) (by omega),wrap_i64 (n:=300*(l+1)) (by omega) (by omega),wrap_i64 (by omega) (by omega)]
 ·cases h
theorem w161:Walked Tryz.prog G 161 2 sp161:=by
 refine ⟨Tryz.f161,Tryz.func161,by decide +kernel,rfl,fun xs bl r h=> ?_⟩
 unfold sp161 at h
 split at h
 ·rename_i k
  obtain ⟨hpre,h2⟩:=chk_inv h;cases h2
  refine Eq.trans (b:=(sel (!Vf (Zy .i64 (Wn k (2 ^ min (Zu 56) (Zf .u64))))) (some (Yx [Zx .i64 0,Zx .i64 0,Zq false],[])) (sel (!Vv (Zy .i64 (Zy .u64 (↑(BitVec.toNat (BitVec.ofInt (Zf .u64) k &&& BitVec.ofInt (Zf .u64) 72057594037927935)):Int)))) (some (Yx [Zx .i64 0,Zx .i64 0,Zq false],[])) (some (Yx [Zx .i64 (Zy .i64 (Wn k (2 ^ min (Zu 56) (Zf .u64)))),Zx .i64 (Zy .i64 (Zy .u64 (↑(BitVec.toNat (BitVec.ofInt (Zf .u64) k &&& BitVec.ofInt (Zf .u64) 72057594037927935)):Int))),Zq true],[]))):Option (AV×Blocks))) (by kernel_rfl) ?_
  simp only [Yz,decide_eq_true_eq] at hpre
  obtain ⟨h0,h1⟩:=hpre
  rw [Kerb.key_hi h0 h1,Kerb.key_lo h0 h1]
  unfold Yg
  cases Vf (Kerb.keyClass k)
  ·rfl
  cases Vv (Kerb.keySerial k)<;>rfl
 ·cases h
theorem w167:Walked Tryz.prog G 167 2 sp167:=by
 refine ⟨Tryz.f167,Tryz.func167,by decide +kernel,rfl,fun xs bl r h=> ?_⟩
 unfold sp167 at h
 split at h
 ·rename_i b pos k little
  obtain ⟨hpre,h2⟩:=chk_inv h;cases h2
  refine Eq.trans (b:=(Zw (chk (decide (Zz b≤4611686018427387904)) (some (Zx .i64 (Vw b pos k),[]))) (kI .i64 fun n=>sel (!n==0) (some (Yx [Zx .i64 0,Zx .i64 0,Zx .i64 n],[])) (Zw (loopM (fun (st:List AV)=>cBs st fun b r=>cInt .i64 r fun n r=>cInt .i64 r fun n_1 r=>cBool r fun b_1 r=>cInt .i64 r fun n_2 r=>let t0:BitVec (Zf .i64):=BitVec.ofInt (Zf .i64) (Zy .i64 (n_2*2 ^ min (Zu 8) (Zf .i64)));cInt .i64 r fun n_3 r=>cInt .i64 r fun n_4 r=>let t1:Int:=Zy .i64 (n+Zy .i64 (Zy .i64 (n_1-1)-n_4));onNil r (sel (decide (n_4<n_3)) (sel b_1 (chk (decide (0≤t1)&&decide (t1<(↑(Zz b):Int))) (some (Wu [Zh b,Zx .i64 n,Zx .i64 n_1,Zq b_1,Zx .i64 (Zy .i64 (↑(BitVec.toNat (t0 ||| BitVec.ofInt (Zf .i64) (Zy .i64 (↑(Yj (Ym b (Zu t1) (0:UInt8))):Int)))):Int)),Zx .i64 n_3,Zx .i64 (Zy .i64 (n_4+1))]))) (chk (decide (0≤Zy .i64 (n+n_4))&&decide (Zy .i64 (n+n_4)<(↑(Zz b):Int))) (some (Wu [Zh b,Zx .i64 n,Zx .i64 n_1,Zq b_1,Zx .i64 (Zy .i64 (↑(BitVec.toNat (t0 ||| BitVec.ofInt (Zf .i64) (Zy .i64 (↑(Yj (Ym b (Zu (Zy .i64 (n+n_4))) (0:UInt8))):Int)))):Int)),Zx .i64 n_3,Zx .i64 (Zy .i64 (n_4+1))])))) (some (Xj (Xy 0,[Zh b,Zx .i64 n,Zx .i64 n_1,Zq b_1,Zx .i64 n_2,Zx .i64 n_3,Zx .i64 n_4]))))) [Zh b,Zx .i64 pos,Zx .i64 k,Zq little,Zx .i64 0,Zx .i64 k,Zx .i64 0]) fun (r:Ex×List AV)=>cBs (Zm r) fun b r_1=>cInt .i64 r_1 fun n r_2=>cInt .i64 r_2 fun n_1 r_3=>cBool r_3 fun b r_4=>cInt .i64 r_4 fun n_2 r_5=>cInt .i64 r_5 fun n_3 r_6=>cInt .i64 r_6 fun n_4 r_7=>onNil r_7 (exK r.1 none fun (j:Nat)=>sel (Wq j 0) (some (Yx [Zx .i64 n_2,Zx .i64 (Zy .i64 (n+n_1)),Zx .i64 0],[])) none))):Option (AV×Blocks))) (by kernel_rfl) ?_
  delta kI
  try dsimp only [cStr,cBs,cBool,cU8,cInt,cSl,l63]
  simp only [Yz,decide_eq_true_eq] at hpre
  obtain ⟨⟨hb,hk0⟩,hk4⟩:=hpre
  simp only [A0]
  rw [chk_of (by simpa using hb)]
  unfold Xh
  by_cases hr:Vw b pos k=0
  ·rw [sel_neg (by simp [hr]),if_pos hr]
   obtain ⟨q1,q2,q3,q4⟩:=Kerb.room_zero.1 hr
   have hcl:=Kerb.cut_length hr
   obtain ⟨L,hL⟩:∃ L,L=cond little (Kerb.cut b pos k).reverse (Kerb.cut b pos k):=⟨_,rfl⟩
   have hLl:L.length=k.toNat:=by rw [hL];cases little<;>simp [hcl]
   rw [← hL]
   refine loop_rounds (fun i:Nat=>[Zh b,Zx Zv pos,Zx Zv k,Zq little,Zx Zv (Kerb.valB (L.take i)),Zx Zv k,Zx Zv (i:Int)]) (fun i=>i≤k.toNat) (fun i=>k.toNat-i)
    (fun r=>r=(Xy 0,[Zh b,Zx Zv pos,Zx Zv k,Zq little,Zx Zv (Kerb.valB L),Zx Zv k,Zx Zv k])) 0 (Wp _) rfl ?_ ?_
   ·intro i hi
    simp only [A0]
    by_cases hlt:i<k.toNat
    ·rw [sel_pos (by simp;omega)]
     have hv:=Kerb.valB_bd (l:=L.take i) (by simp;omega)
     have hs:=Kerb.valB_take (l:=L) (i:=i) (by omega)
     have hgd:L.getD i 0=b.getD (cond little (pos.toNat+(k.toNat-1-i)) (pos.toNat+i)) 0:=by
      rw [hL]
      cases little
      ·exact Kerb.cut_getD hlt
      ·show (Kerb.cut b pos k).reverse.getD i 0=_
       rw [Kerb.getD_reverse (by omega),hcl,Kerb.cut_getD (by omega)];rfl
     cases little
     ·rw [sel_neg rfl,wrap_i64 (n:=pos+(i:Int)) (by omega) (by omega),chk_of (by simp;omega),show (pos+(i:Int)).toNat=pos.toNat+i from by omega]
      rw [Kerb.shl8_or _ hv.1 (by omega),wrap_i64 (n:=(i:Int)+1) (by omega) (by omega)]
      refine ⟨_,rfl,i+1,?_,by omega,by dsimp only;omega⟩
      dsimp only
      rw [hs,hgd];rfl
     ·rw [sel_pos rfl,wrap_i64 (n:=k-1) (by omega) (by omega),wrap_i64 (n:=k-1-(i:Int)) (by omega) (by omega),wrap_i64 (n:=pos+(k-1-(i:Int))) (by omega) (by omega),chk_of (by simp;omega),show (pos+(k-1-(i:Int))).toNat=pos.toNat+(k.toNat-1-i) from by omega]
      rw [Kerb.shl8_or _ hv.1 (by omega),wrap_i64 (n:=(i:Int)+1) (by omega) (by omega)]
      refine ⟨_,rfl,i+1,?_,by omega,by dsimp only;omega⟩
      dsimp only
      rw [hs,hgd];rfl
    ·rw [sel_neg (by simp;omega)]
     refine ⟨_,rfl,?_⟩
     show _=_
     rw [Xk (by omega),show (i:Int)=k from by omega]
   ·rintro r rfl
    simp only [A0]
    rw [sel_pos (Yd _),wrap_i64 (by omega) (by omega)]
  ·rw [sel_pos (by simpa using hr),if_neg hr]
 ·cases h
theorem w169:Walked Tryz.prog G 169 2 sp169:=by
 refine ⟨Tryz.f169,Tryz.func169,by decide +kernel,rfl,fun xs bl r h=> ?_⟩
 unfold sp169 at h
 split at h
 ·rename_i s c
  cases h
  refine Eq.trans (b:=(some (Zx .i64 (Yq c s),[]):Option (AV×Blocks))) (by kernel_rfl) ?_
  rfl
 ·cases h
theorem w187:Walked Tryz.prog G 187 2 sp187:=by
 refine ⟨Tryz.f187,Tryz.func187,by decide +kernel,rfl,fun xs bl r h=> ?_⟩
 unfold sp187 at h
 split at h
 ·rename_i s c
  cases h
  refine Eq.trans (b:=(some (Zx .i64 (Yq c s),[]):Option (AV×Blocks))) (by kernel_rfl) ?_
  rfl
 ·cases h
theorem w25:Walked Tryz.prog G 25 3 sp25:=by
 refine ⟨Tryz.f25,Tryz.func25,by decide +kernel,rfl,fun xs bl r h=> ?_⟩
 unfold sp25 at h
 split at h
 ·rename_i n
  obtain ⟨hpre,h2⟩:=chk_inv h;cases h2
  refine Eq.trans (b:=(chk (decide (0≤Yy n 3)&&decide (Yy n 3<(↑(Zz [Zk [(97:UInt8),(110:UInt8),(110:UInt8)],Zk [(98:UInt8),(111:UInt8),(98:UInt8)],Zk [(99:UInt8),(97:UInt8),(116:UInt8)]]):Int))&&true) (Wy (Ym [Zk [(97:UInt8),(110:UInt8),(110:UInt8)],Zk [(98:UInt8),(111:UInt8),(98:UInt8)],Zk [(99:UInt8),(97:UInt8),(116:UInt8)]] (Zu (Yy n 3)) Vh) fun b=>Zw (chk (decide (0≤Zy .i64 (Vz n 3))) (some (Zk (Kerb.realm (Zy .i64 (Vz n 3))),[]))) fun (r:AV×Blocks)=>onNilB (Zm r) (Wy (Yw r) fun b_1=>some (Wg [Zk b,Zk [],Zk b_1],[]))):Option (AV×Blocks))) (by kernel_rfl) ?_
  have hn:0≤n:=by first | exact of_decide_eq_true hpre | (simp only [Yz,decide_eq_true_eq] at hpre;exact hpre.1)
  have ht:Yy n 3=n % 3:=Yh hn
  have hcase:n % 3=0∨n % 3=1∨n % 3=2:=by omega
  simp only [Yz,decide_eq_true_eq] at hpre
  have hd:Vz n 3=n / 3:=Vm hn
  rw [hd,wrap_i64 (by omega) (by omega)]
  have hq:decide ((0:Int)≤n / 3)=true:=by simp;omega
  rcases hcase with e | e | e<;>simp [ht,e,chk,Wy,Kerb.user,hq,onNilB]<;>omega
 ·cases h
theorem w36:Walked Tryz.prog G 36 3 sp36:=by
 refine ⟨Tryz.f36,Tryz.func36,by decide +kernel,rfl,fun xs bl r h=> ?_⟩
 unfold sp36 at h
 split at h
 ·rename_i li mu kv rl tk au
  obtain ⟨hpre,h2⟩:=chk_inv h;cases h2
  refine Eq.trans (b:=(Zw (chk (l63 rl) (some (Zq (Kerb.validRealm rl),[]))) (kL fun b=>sel (!b) (some (Yx [Zh [],Zx .i64 103],[])) (sel (!Zg kv 255) (some (Yx [Zh [],Zx .i64 104],[])) (sel (decide ((↑(Zz tk):Int)>255)) (some (Yx [Zh [],Zx .i64 105],[])) (sel (decide ((↑(Zz au):Int)>255)) (some (Yx [Zh [],Zx .i64 105],[])) (sel mu (Zw (chk (decide (Zz (Xf 4 li)≤70368744177664)) (some (Zn (Xf 4 li++Zb kv 1 false),[]))) (kO fun l=>Zw (chk (decide (Zz l+Zz rl≤70368744177664)) (some (Zh (Yv l rl),[]))) (kB fun b=>Zw (chk (decide (Zz b≤70368744177664)) (some (Zn (b++Zb (↑(Zz tk):Int) 1 false),[]))) (kO fun l=>Zw (chk (decide (Zz l≤70368744177664)) (some (Zn (l++Zb (↑(Zz au):Int) 1 false),[]))) (kO fun l=>chk (room (Zz l+Zz tk) 1) (chk (room (Zz (l++tk)+Zz au) 1) (some (Yx [Zh (l++tk++au),Zx .i64 0],[])))))))) (Zw (chk (decide (Zz (Xf 3 li)≤70368744177664)) (some (Zn (Xf 3 li++Zb kv 1 false),[]))) (kO fun l=>Zw (chk (decide (Zz l+Zz rl≤70368744177664)) (some (Zh (Yv l rl),[]))) (kB fun b=>Zw (chk (decide (Zz b≤70368744177664)) (some (Zn (b++Zb (↑(Zz tk):Int) 1 false),[]))) (kO fun l=>Zw (chk (decide (Zz l≤70368744177664)) (some (Zn (l++Zb (↑(Zz au):Int) 1 false),[]))) (kO fun l=>chk (room (Zz l+Zz tk) 1) (chk (room (Zz (l++tk)+Zz au) 1) (some (Yx [Zh (l++tk++au),Zx .i64 0],[]))))))))))))):Option (AV×Blocks))) (by kernel_rfl) ?_
  delta kB kO kL
  try dsimp only [cStr,cBs,cBool,cU8,cInt,cSl,l63]
  simp only [A0,Wd,Wf,Wb,hpre]
  unfold Kerb.encodeAp
  simp only
  cases h1:Kerb.validRealm rl
  ·rfl
  rw [Xw,sel_false,if_neg (by simp)]
  cases h2:Zg kv 255
  ·rfl
  rw [Xw,sel_false,if_neg (by simp)]
  by_cases h3:255<tk.length
  ·rw [sel_pos (by simp;omega),if_pos (.inl h3)]
  rw [sel_neg (by simp;omega)]
  by_cases h4:255<au.length
  ·rw [sel_pos (by simp;omega),if_pos (.inr h4)]
  rw [sel_neg (by simp;omega),if_neg (by omega)]
  have l1:=Kerb.validRealm_len h1
  have g3:=Kerb.header_len 3 li
  have g4:=Kerb.header_len 4 li
  cases mu
  ·rw [sel_false,chk_of (by simp;omega),chk_of (by simp [Zj];omega),chk_of (by simp [Zj,Xg];omega),chk_of (by simp [Zj,Xg];omega),chk_of (Yu (by simp [Zj,Xg];omega)),chk_of (Yu (by simp [Zj,Xg];omega))]
   rfl
  ·rw [sel_true,chk_of (by simp;omega),chk_of (by simp [Zj];omega),chk_of (by simp [Zj,Xg];omega),chk_of (by simp [Zj,Xg];omega),chk_of (Yu (by simp [Zj,Xg];omega)),chk_of (Yu (by simp [Zj,Xg];omega))]
   rfl
 ·cases h
theorem w59:Walked Tryz.prog G 59 3 sp59:=by
 refine ⟨Tryz.f59,Tryz.func59,by decide +kernel,rfl,fun xs bl r h=> ?_⟩
 unfold sp59 at h
 split at h
 ·rename_i kd k bd
  obtain ⟨hpre,h2⟩:=chk_inv h;cases h2
  refine Eq.trans (b:=(let t0:List UInt8:=[Yk (Zu (Zy .u8 (Wn (↑(Zz bd):Int) (2 ^ min (Zu 8) (Zf .i64))))),Yk (Zu (Zy .u8 (↑(Zz bd):Int)))];let t1:List UInt8:=[(66:UInt8),Yk (Zu (Zy .u8 kd))];sel (decide (kd<1)) (some (Yx [Zh [],Zx .i64 104],[])) (sel (decide (kd>10)) (some (Yx [Zh [],Zx .i64 104],[])) (Zw (chk (decide (0≤k)&&decide (k<18446744073709551616)) (some (Zq (Yg k),[]))) (kL fun b=>sel (!b) (some (Yx [Zh [],Zx .i64 10],[])) (sel (decide ((↑(Zz bd):Int)>1000)) (some (Yx [Zh [],Zx .i64 105],[])) (Zw (chk (decide (0≤k)&&decide (k<18446744073709551616)) (some (Zh (Uy k),[]))) (kB fun b=>chk (room (Zz t1+Zz b) 1) (chk (room (Zz (t1++b)+Zz t0) 1) (chk (room (Zz (t1++b++t0)+Zz bd) 1) (some (Yx [Zh (t1++b++t0++bd),Zx .i64 0],[])))))))))):Option (AV×Blocks))) (by kernel_rfl) ?_
  delta kB kL
  try dsimp only [cStr,cBs,cBool,cU8,cInt,cSl,l63]
  simp only [A0,Wd,Wf,Wb,hpre]
  unfold Kerb.makeBox
  by_cases k1:1≤kd
  case neg =>
   rw [sel_pos (by simp;omega),if_pos (by simp [Xu];omega)]
  by_cases k2:kd≤10
  case neg =>
   rw [sel_neg (by simp;omega),sel_pos (by simp;omega),if_pos (by simp [Xu];omega)]
  rw [sel_neg (by simp;omega),sel_neg (by simp;omega),if_neg (by simp [Xu];omega)]
  cases h2:Yg k
  ·rfl
  rw [Xw,sel_false,if_neg (by simp)]
  by_cases h3:1000<bd.length
  ·rw [sel_pos (by simp;omega),if_pos h3]
  have lk:=Zd k
  rw [sel_neg (by simp;omega),if_neg h3,chk_of (Yu (by simp;omega)),chk_of (Yu (by simp;omega)),chk_of (Yu (by simp;omega)),Kerb.two_bytes,Kerb.wrap_u8,Int.emod_eq_of_lt (by omega) (by omega)]
 ·cases h
theorem w73:Walked Tryz.prog G 73 3 sp73:=by
 refine ⟨Tryz.f73,Tryz.func73,by decide +kernel,rfl,fun xs bl r h=> ?_⟩
 unfold sp73 at h
 split at h
 ·rename_i n
  obtain ⟨hpre,h2⟩:=chk_inv h;cases h2
  refine Eq.trans (b:=(chk (decide (0≤Yy n 3)&&decide (Yy n 3<(↑(Zz [Wg [Zk [(109:UInt8),(97:UInt8),(105:UInt8),(108:UInt8)],Zk [],Zk []],Wg [Zk [(110:UInt8),(102:UInt8),(115:UInt8)],Zk [(104:UInt8),(111:UInt8),(109:UInt8),(101:UInt8)],Zk []],Wg [Zk [(107:UInt8),(114:UInt8),(98:UInt8),(116:UInt8),(103:UInt8),(116:UInt8)],Zk [(65:UInt8),(84:UInt8),(72:UInt8)],Zk []]]):Int))&&true) (AV.onAgg (Ym [Wg [Zk [(109:UInt8),(97:UInt8),(105:UInt8),(108:UInt8)],Zk [],Zk []],Wg [Zk [(110:UInt8),(102:UInt8),(115:UInt8)],Zk [(104:UInt8),(111:UInt8),(109:UInt8),(101:UInt8)],Zk []],Wg [Zk [(107:UInt8),(114:UInt8),(98:UInt8),(116:UInt8),(103:UInt8),(116:UInt8)],Zk [(65:UInt8),(84:UInt8),(72:UInt8)],Zk []]] (Zu (Yy n 3)) Vh) fun cs=>onCons cs fun x r=>Wy x fun b=>onCons r fun x r=>Wy x fun b_1=>onCons r fun x r=>Wy x fun b_2=>onNil r (Zw (chk (decide (0≤Zy .i64 (Vz n 3))) (some (Zk (Kerb.realm (Zy .i64 (Vz n 3))),[]))) fun (r:AV×Blocks)=>onNilB (Zm r) (Wy (Yw r) fun b_3=>some (Wg [Zk b,Zk b_1,Zk b_3],[])))):Option (AV×Blocks))) (by kernel_rfl) ?_
  have hn:0≤n:=by first | exact of_decide_eq_true hpre | (simp only [Yz,decide_eq_true_eq] at hpre;exact hpre.1)
  have ht:Yy n 3=n % 3:=Yh hn
  have hcase:n % 3=0∨n % 3=1∨n % 3=2:=by omega
  simp only [Yz,decide_eq_true_eq] at hpre
  have hd:Vz n 3=n / 3:=Vm hn
  rw [hd,wrap_i64 (by omega) (by omega)]
  have hq:decide ((0:Int)≤n / 3)=true:=by simp;omega
  rcases hcase with e | e | e<;>simp [ht,e,chk,Wy,AV.onAgg,onCons,onNil,Kerb.service,hq,onNilB]<;>omega
 ·cases h
theorem w77:Walked Tryz.prog G 77 3 sp77:=by
 refine ⟨Tryz.f77,Tryz.func77,by decide +kernel,rfl,fun xs bl r h=> ?_⟩
 unfold sp77 at h
 split at h
 ·rename_i a b c
  obtain ⟨hpre,h2⟩:=chk_inv h;cases h2
  refine Eq.trans (b:=(Zw (chk (decide (Zz a≤9223372036854775807)) (some (Zq (Vg a),[]))) fun (r:AV×Blocks)=>onNilB (Zm r) (Xq (Yw r) fun b_1=>sel b_1 (Zw (chk (decide (Zz b≤9223372036854775807)) (some (Zq (Kerb.validInst b),[]))) fun (r:AV×Blocks)=>onNilB (Zm r) (Xq (Yw r) fun b=>sel b (Zw (chk (decide (Zz c≤9223372036854775807)) (some (Zq (Kerb.validRealm c),[]))) fun (r:AV×Blocks)=>onNilB (Zm r) (Xq (Yw r) fun b=>some (Zq b,[]))) (some (Zq false,[])))) (some (Zq false,[]))):Option (AV×Blocks))) (by kernel_rfl) ?_
  simp only [Yz,decide_eq_true_eq] at hpre
  simp only [A0]
  rw [chk_of (by simp;omega),chk_of (by simp;omega),chk_of (by simp;omega)]
  simp only [Wk]
  cases Vg a<;>cases Kerb.validInst b<;>rfl
 ·cases h
theorem w86:Walked Tryz.prog G 86 3 sp86:=by
 refine ⟨Tryz.f86,Tryz.func86,by decide +kernel,rfl,fun xs bl r h=> ?_⟩
 unfold sp86 at h
 split at h
 ·rename_i b els
  obtain ⟨hpre,h2⟩:=chk_inv h;cases h2
  refine Eq.trans (b:=(sel (!Kerb.Head.err (Wz b)==0) (some (Yx [Zq false,Zx .i64 (Kerb.Head.err (Wz b))],[])) (Zw (chk (allInts els&&decide (Zz els≤1000)) (some (Zq (List.contains (intsIn els) (Kerb.Head.kind (Wz b))),[]))) fun (r:AV×Blocks)=>onNilB (Zm r) (Xq (Yw r) fun b_1=>sel (!b_1) (some (Yx [Zq false,Zx .i64 40],[])) (some (Yx [Zq (Kerb.Head.little (Wz b)),Zx .i64 0],[])))):Option (AV×Blocks))) (by kernel_rfl) ?_
  simp only [A0]
  unfold Kerb.headIs
  by_cases h:(Wz b).err=0
  ·rw [sel_neg (by simp [h]),chk_of hpre]
   cases hc:(intsIn els).contains (Wz b).kind<;>simp [sel,h,hc]
  ·rw [sel_pos (by simpa using h)]
   simp [h]
 ·cases h
theorem w96:Walked Tryz.prog G 96 3 sp96:=by
 refine ⟨Tryz.f96,Tryz.func96,by decide +kernel,rfl,fun xs bl r h=> ?_⟩
 unfold sp96 at h
 split at h
 ·rename_i kls x y z v
  obtain ⟨hpre,h2⟩:=chk_inv h;cases h2
  refine Eq.trans (b:=(Zw (chk (List.all kls Kerb.isSKey&&decide (Zz kls≤1000000)) (some (Zx .i64 (↑(Vx (List.map Kerb.toSKey kls) (Wx x y z) v):Int),[]))) fun (r:AV×Blocks)=>onNilB (Zm r) (Xd .i64 (Yw r) fun n=>sel (n==(↑(Zz kls):Int)) (some (Yx [Zx .u64 0,Zq false],[])) (chk (decide (0≤n)&&decide (n<(↑(Zz kls):Int))&&true) (AV.onAgg (Ym kls (Zu n) Vh) fun cs=>onCons cs fun x r=>Wy x fun b=>onCons r fun x r=>Wy x fun b=>onCons r fun x r=>Wy x fun b=>onCons r fun x r=>Xd .i64 x fun n=>onCons r fun x r=>Xd .u64 x fun n=>onNil r (some (Yx [Zx .u64 n,Zq true],[]))))):Option (AV×Blocks))) (by kernel_rfl) ?_
  simp only [Yz,decide_eq_true_eq] at hpre
  obtain ⟨hall,hlen⟩:=hpre
  obtain ⟨cs,rfl,hok⟩:=Kerb.skeys_of hall
  simp only [Kerb.map_toSKey,Vd,↓A0,A0] at hlen ⊢
  rw [chk_of (by rw [hall];simp;omega)]
  have hle:=Kerb.skAt_le cs ⟨x,y,z⟩ v
  unfold Kerb.skFind
  by_cases h:Vx cs ⟨x,y,z⟩ v<cs.length
  ·rw [sel_neg (by simp;omega),chk_of (by simp;omega),Yn,Kerb.getD_row (d:=Kerb.noSKey) h,if_pos h]
   simp only [Vu,↓A0,A0]
  ·rw [sel_pos (by simp;omega),if_neg h]
 ·cases h
theorem w101:Walked Tryz.prog G 101 3 sp101:=by
 refine ⟨Tryz.f101,Tryz.func101,by decide +kernel,rfl,fun xs bl r h=> ?_⟩
 unfold sp101 at h
 split at h
 ·rename_i i l n s
  cases h
  refine Eq.trans (b:=(sel (!Zg i 4294967295) (some (Zx .i64 104,[])) (sel (!Zg n 4294967295) (some (Zx .i64 104,[])) (sel (!Zg l 255) (some (Zx .i64 104,[])) (sel (!Zg s 4294967295) (some (Zx .i64 104,[])) (sel (decide (i>Zy .i64 (n+s))) (some (Zx .i64 33,[])) (sel (decide (n>Zy .i64 (Kerb.tEnd i l+s))) (some (Zx .i64 32,[])) (some (Zx .i64 0,[]))))))):Option (AV×Blocks))) (by kernel_rfl) ?_
  unfold Kerb.stateErr
  cases h1:Zg i 4294967295
  ·rfl
  cases h2:Zg n 4294967295
  ·rfl
  cases h3:Zg l 255
  ·rfl
  cases h4:Zg s 4294967295
  ·rfl
  have b1:=Kerb.within_iff.1 h1
  have b2:=Kerb.within_iff.1 h2
  have b3:=Kerb.within_iff.1 h3
  have b4:=Kerb.within_iff.1 h4
  have he:Kerb.tEnd i l=i+300*(l+1):=by simp [Kerb.tEnd,h1,h3]
  simp only [Xw,sel_false,Vq,Bool.false_eq_true,if_false,he]
  rw [wrap_i64 (by omega) (by omega),wrap_i64 (by omega) (by omega)]
  by_cases h5:n+s<i
  ·rw [sel_pos (by simpa using h5),if_pos h5]
  rw [sel_neg (by simpa using h5),if_neg h5]
  by_cases h6:i+300*(l+1)+s<n
  ·rw [sel_pos (by simpa using h6),if_pos h6]
  rw [sel_neg (by simpa using h6),if_neg h6]
 ·cases h
theorem w112:Walked Tryz.prog G 112 3 sp112:=by
 refine ⟨Tryz.f112,Tryz.func112,by decide +kernel,rfl,fun xs bl r h=> ?_⟩
 unfold sp112 at h
 split at h
 ·rename_i b
  obtain ⟨hpre,h2⟩:=chk_inv h;cases h2
  refine Eq.trans (b:=(chk (decide (0≤Yy (Zy .i64 (8-Yy (↑(Zz b):Int) 8)) 8)&&decide (Yy (Zy .i64 (8-Yy (↑(Zz b):Int) 8)) 8≤Yy (Zy .i64 (8-Yy (↑(Zz b):Int) 8)) 8)&&decide (Yy (Zy .i64 (8-Yy (↑(Zz b):Int) 8)) 8≤140737488355328)) (Zw (chk (decide (Zz (Yb b (Yb (Xb (Zu (Yy (Zy .i64 (8-Yy (↑(Zz b):Int) 8)) 8)) (0:UInt8)) []))≤140737488355328)&&decide (Zz [Zh b,Zh (Xb (Zu (Yy (Zy .i64 (8-Yy (↑(Zz b):Int) 8)) 8)) (0:UInt8))]≤1000)) (some (Zn (Yb b (Yb (Xb (Zu (Yy (Zy .i64 (8-Yy (↑(Zz b):Int) 8)) 8)) (0:UInt8)) [])),[]))) fun (r:AV×Blocks)=>onNilB (Zm r) (Xx (Yw r) fun l=>some (Zh l,[]))):Option (AV×Blocks))) (by kernel_rfl) ?_
  have hb:=of_decide_eq_true hpre
  rw [Kerb.pad_eq hb]
  simp only [A0]
  rw [chk_of (by simp;omega),chk_of (by simp;omega)]
  simp [Kerb.pad]
  omega
 ·cases h
theorem w114:Walked Tryz.prog G 114 3 sp114:=by
 refine ⟨Tryz.f114,Tryz.func114,by decide +kernel,rfl,fun xs bl r h=> ?_⟩
 unfold sp114 at h
 split at h
 ·rename_i k
  obtain ⟨hpre,h2⟩:=chk_inv h;cases h2
  refine Eq.trans (b:=(Zw (chk (decide (0≤k)&&decide (k<18446744073709551616)) (some (Yx [Zx .i64 (bif Yg k then Kerb.keyClass k else 0),Zx .i64 (bif Yg k then Kerb.keySerial k else 0),Zq (Yg k)],[]))) fun (r:AV×Blocks)=>onNilB (Zm r) (AV.onTup (Yw r) fun vs=>onCons vs fun x r=>Xd .i64 x fun n=>onCons r fun x r=>Xd .i64 x fun n=>onCons r fun x r=>Xq x fun b=>onNil r (some (Zq b,[]))):Option (AV×Blocks))) (by kernel_rfl) ?_
  simp only [A0]
  rw [chk_of hpre]
 ·cases h
theorem w120:Walked Tryz.prog G 120 3 sp120:=by
 refine ⟨Tryz.f120,Tryz.func120,by decide +kernel,rfl,fun xs bl r h=> ?_⟩
 unfold sp120 at h
 split at h
 ·rename_i b little
  obtain ⟨hpre,h2⟩:=chk_inv h;cases h2
  refine Eq.trans (b:=(sel little (Zw (chk (decide (Zz b≤70368744177664)) (some (Zn (b++Zb 1 1 false),[]))) fun (r:AV×Blocks)=>onNilB (Zm r) (Xx (Yw r) fun l=>some (Zn l,[]))) (Zw (chk (decide (Zz b≤70368744177664)) (some (Zn (b++Zb 0 1 false),[]))) fun (r:AV×Blocks)=>onNilB (Zm r) (Xx (Yw r) fun l=>some (Zn l,[]))):Option (AV×Blocks))) (by kernel_rfl) ?_
  simp only [A0]
  rw [chk_of hpre,chk_of hpre]
  cases little<;>rfl
 ·cases h
theorem w144:Walked Tryz.prog G 144 3 sp144:=by
 refine ⟨Tryz.f144,Tryz.func144,by decide +kernel,rfl,fun xs bl r h=> ?_⟩
 unfold sp144 at h
 split at h
 ·rename_i b pos
  obtain ⟨hpre,h2⟩:=chk_inv h;cases h2
  refine Eq.trans (b:=(Zw (chk (decide (Zz b≤4611686018427387904)&&true&&true) (some (Yx [Zx .i64 (Ux (Xh b pos 1 false)),Zx .i64 (Vn (Xh b pos 1 false)),Zx .i64 (Uw (Xh b pos 1 false))],[]))) fun (r:AV×Blocks)=>onNilB (Zm r) (AV.onTup (Yw r) fun vs=>onCons vs fun x r=>Xd .i64 x fun n=>onCons r fun x r=>Xd .i64 x fun n_1=>onCons r fun x r=>Xd .i64 x fun n_2=>onNil r (some (Yx [Zx .i64 n,Zx .i64 n_1,Zx .i64 n_2],[]))):Option (AV×Blocks))) (by kernel_rfl) ?_
  simp only [A0]
  rw [chk_of (by rw [hpre];rfl)]
 ·cases h
theorem w145:Walked Tryz.prog G 145 3 sp145:=by
 refine ⟨Tryz.f145,Tryz.func145,by decide +kernel,rfl,fun xs bl r h=> ?_⟩
 unfold sp145 at h
 split at h
 ·rename_i b pos
  obtain ⟨hpre,h2⟩:=chk_inv h;cases h2
  refine Eq.trans (b:=(let t5:List UInt8:=Wj (Zu pos) (Xn (Zu (↑(Zz b):Int)) b);let t6:Option (AV×Blocks):=some (Yx [Zk [],Zx .i64 0,Zx .i64 105],[]);let t7:Option (AV×Blocks):=some (Yx [Zk [],Zx .i64 0,Zx .i64 101],[]);let t1:Int:=Yq (0:UInt8) t5;let t2:Int:=(↑(Zz t5):Int);let t4:List UInt8:=Wj (Zu (↑(0:Nat):Int)) (Xn (Zu 40) t5);let t0:Int:=Yq (0:UInt8) t4;let t3:Int:=(↑(Zz t4):Int);Zw (chk (decide (Zz b≤4611686018427387904)) (some (Zx .i64 (Vw b pos 0),[]))) (kI .i64 fun n=>sel (!n==0) (some (Yx [Zk [],Zx .i64 0,Zx .i64 n],[])) (chk (decide (0≤pos)&&decide (pos≤(↑(Zz b):Int))&&decide ((↑(Zz b):Int)≤(↑(Zz b):Int))) (sel (decide (t2>40)) (chk (decide (40≤t2)) (sel (decide (t0≥0)) (chk (decide ((↑(0:Nat):Int)≤t0)&&decide (t0≤t3)) (some (Yx [Zk (Wj (Zu (↑(0:Nat):Int)) (Xn (Zu t0) t4)),Zx .i64 (Zy .i64 (Zy .i64 (pos+t0)+1)),Zx .i64 0],[]))) (sel (t3==40) t6 t7))) (sel (decide (t1≥0)) (chk (decide ((↑(0:Nat):Int)≤t1)&&decide (t1≤t2)) (some (Yx [Zk (Wj (Zu (↑(0:Nat):Int)) (Xn (Zu t1) t5)),Zx .i64 (Zy .i64 (Zy .i64 (pos+t1)+1)),Zx .i64 0],[]))) (sel (t2==40) t6 t7))))):Option (AV×Blocks))) (by kernel_rfl) ?_
  delta kI
  try dsimp only [cStr,cBs,cBool,cU8,cInt,cSl,l63]
  simp only [decide_eq_true_eq] at hpre
  simp only [A0]
  rw [chk_of (by simpa using hpre)]
  have ht:(Xn (Zu (b.length:Int)) b)=b:=by simp
  rw [ht]
  unfold Kerb.text
  by_cases hr:Vw b pos 0=0
  case neg =>
   have h104:Vw b pos 0=104:=by
    unfold Vw at hr ⊢
    split at hr
    ·rw [if_pos (by assumption)]
    ·split at hr<;>omega
   rw [sel_pos (by simpa using hr),if_neg hr,h104]
  obtain ⟨q1,q2,_,_⟩:=Kerb.room_zero.1 hr
  rw [sel_neg (by simp [hr]),if_pos hr,chk_of (by simp;omega)]
  obtain ⟨R,hR⟩:∃ R,R=b.drop pos.toNat:=⟨_,rfl⟩
  have hRl:R.length=b.length-pos.toNat:=by rw [hR];simp
  rw [← hR]
  obtain ⟨T,hT⟩:∃ T,T=R.take 40:=⟨_,rfl⟩
  have hix:=Kerb.indexOf_bd 0 T
  have key:(sel (decide (Yq (0:UInt8) T≥(0:Int)))
    (chk (decide (((0:Nat):Int)≤Yq (0:UInt8) T)&&decide (Yq (0:UInt8) T≤(T.length:Int)))
     (some (Yx [Zk (Wj (Zu ((0:Nat):Int)) (Xn (Zu (Yq (0:UInt8) T)) T)),Zx Zv (Zy Zv (Zy Zv (pos+Yq (0:UInt8) T)+(1:Int))),Zx Zv (0:Int)],([]:Blocks))))
    (sel (((T.length:Int))==(40:Int)) (some (Yx [Zk [],Zx Zv (0:Int),Zx Zv (105:Int)],[]))
     (some (Yx [Zk [],Zx Zv (0:Int),Zx Zv (101:Int)],[])))) =
    some (Yx [Zk (if 0≤Yq 0 T then (⟨T.take (Yq 0 T).toNat,pos+Yq 0 T+1,0⟩:Kerb.GotB) else if T.length=40 then ⟨[],0,105⟩ else ⟨[],0,101⟩).val,
     Zx Zv (if 0≤Yq 0 T then (⟨T.take (Yq 0 T).toNat,pos+Yq 0 T+1,0⟩:Kerb.GotB) else if T.length=40 then ⟨[],0,105⟩ else ⟨[],0,101⟩).next,
     Zx Zv (if 0≤Yq 0 T then (⟨T.take (Yq 0 T).toNat,pos+Yq 0 T+1,0⟩:Kerb.GotB) else if T.length=40 then ⟨[],0,105⟩ else ⟨[],0,101⟩).err],[]):=by
   have hTl:T.length≤b.length-pos.toNat:=by rw [hT];simp;omega
   by_cases hi:0≤Yq 0 T
   ·rw [sel_pos (by simpa using hi),chk_of (by simp;omega),if_pos hi,wrap_i64 (n:=pos+Yq 0 T) (by omega) (by omega),wrap_i64 (by omega) (by omega)]
    rfl
   ·rw [sel_neg (by simp;omega),if_neg hi]
    by_cases h40:T.length=40
    ·rw [sel_pos (by simp [h40]),if_pos h40]
    ·rw [sel_neg (by simp;omega),if_neg h40]
  by_cases hlong:40<R.length
  ·rw [sel_pos (by simp;omega),chk_of (by simp;omega)]
   have e1:Wj (Zu ((0:Nat):Int)) (Xn (Zu (40:Int)) R)=T:=by rw [hT];rfl
   rw [e1]
   rw [← hT]
   exact key
  ·rw [sel_neg (by simp;omega)]
   have e1:R=T:=by rw [hT,Xk (by omega)]
   rw [← hT,e1]
   exact key
 ·cases h
theorem w147:Walked Tryz.prog G 147 3 sp147:=by
 refine ⟨Tryz.f147,Tryz.func147,by decide +kernel,rfl,fun xs bl r h=> ?_⟩
 unfold sp147 at h
 split at h
 ·rename_i b s
  obtain ⟨hpre,h2⟩:=chk_inv h;cases h2
  refine Eq.trans (b:=(Zw (chk (decide (Zz (Yb b (Yb s ((0:UInt8)::Yb [] [])))≤140737488355328)&&decide (Zz [Zh b,Zh s,Zh [(0:UInt8)]]≤1000)) (some (Zn (Yb b (Yb s ((0:UInt8)::Yb [] []))),[]))) fun (r:AV×Blocks)=>onNilB (Zm r) (Xx (Yw r) fun l=>some (Zh l,[])):Option (AV×Blocks))) (by kernel_rfl) ?_
  simp only [decide_eq_true_eq] at hpre
  simp only [A0]
  rw [chk_of (by simp;omega)]
  simp [Yv]
 ·cases h
theorem w160:Walked Tryz.prog G 160 3 sp160:=by
 refine ⟨Tryz.f160,Tryz.func160,by decide +kernel,rfl,fun xs bl r h=> ?_⟩
 unfold sp160 at h
 split at h
 ·rename_i b n k little
  obtain ⟨hpre,h2⟩:=chk_inv h;cases h2
  refine Eq.trans (b:=(Zw (loopM (fun (st:List AV)=>cBs st fun b r=>cInt .i64 r fun n r=>cInt .i64 r fun n_1 r=>cBool r fun b_1 r=>cBs r fun c r=>cInt .i64 r fun n_2 r=>cInt .i64 r fun n_3 r=>let t0:Int:=Zy .i64 (Zy .i64 (n_1-1)-n_3);let t1:UInt8:=Yk (Zu (Zy .u8 (Wn n (2 ^ min (Zu (Zy .i64 (8*n_3))) (Zf .i64)))));onNil r (sel (decide (n_3<n_2)) (sel (!b_1) (chk (decide (0≤Zy .i64 (8*n_3))) (chk (decide (0≤t0)&&decide (t0<(↑(Zz c):Int))&&Wq (Zz c) 4&&true) (chk (Uz (Zu t0) (Zz c)&&true&&true&&true&&true) (some (Wu [Zh b,Zx .i64 n,Zx .i64 n_1,Zq b_1,Zh (List.set c (Zu t0) t1),Zx .i64 n_2,Zx .i64 (Zy .i64 (n_3+1))]))))) (chk (decide (0≤Zy .i64 (8*n_3))) (chk (decide (0≤n_3)&&decide (n_3<(↑(Zz c):Int))&&Wq (Zz c) 4&&true) (chk (Uz (Zu n_3) (Zz c)&&true&&true&&true&&true) (some (Wu [Zh b,Zx .i64 n,Zx .i64 n_1,Zq b_1,Zh (List.set c (Zu n_3) t1),Zx .i64 n_2,Zx .i64 (Zy .i64 (n_3+1))])))))) (some (Xj (Xy 0,[Zh b,Zx .i64 n,Zx .i64 n_1,Zq b_1,Zh c,Zx .i64 n_2,Zx .i64 n_3]))))) [Zh b,Zx .i64 n,Zx .i64 k,Zq little,Zh [(0:UInt8),(0:UInt8),(0:UInt8),(0:UInt8)],Zx .i64 k,Zx .i64 0]) fun (r:Ex×List AV)=>cBs (Zm r) fun b r_1=>cInt .i64 r_1 fun n r_2=>cInt .i64 r_2 fun n r_3=>cBool r_3 fun b_1 r_4=>cBs r_4 fun c r_5=>let t2:Nat:=Zz [Zh b,Zh (Wj (Zu (↑(0:Nat):Int)) (Xn (Zu n) c))];let t3:Nat:=Zz (Yb b (Yb (Wj (Zu (↑(0:Nat):Int)) (Xn (Zu n) c)) []));cInt .i64 r_5 fun n_1 r_6=>cInt .i64 r_6 fun n_2 r_7=>onNil r_7 (exK r.1 none fun (j:Nat)=>sel (Wq j 0) (chk (decide ((↑(0:Nat):Int)≤n)&&decide (n≤(↑(Zz c):Int))&&Wq (Zz c) 4) (Zw (chk (decide (t3≤140737488355328)&&decide (t2≤1000)) (some (Zn (Yb b (Yb (Wj (Zu (↑(0:Nat):Int)) (Xn (Zu n) c)) [])),[]))) (kO fun l=>some (Zn l,[])))) none):Option (AV×Blocks))) (by kernel_rfl) ?_
  delta kO
  try dsimp only [cStr,cBs,cBool,cU8,cInt,cSl,l63]
  simp only [Yz,decide_eq_true_eq] at hpre
  obtain ⟨hk,hb⟩:=hpre
  rcases hk with rfl | rfl | rfl<;>cases little
  ·refine loop_unroll 2 (Xy 0,[Zh b,Zx Zv n,Zx Zv 1,Zq false,Zh [Yp n 0,(0:UInt8),(0:UInt8),(0:UInt8)],Zx Zv 1,Zx Zv 1]) (by kernel_rfl) ?_
   simp only [A0]
   rw [sel_pos (Yd _),chk_of (by simp),chk_of (by simp;omega)]
   simp [Wh,Zb,Wm,Xm]
  ·refine loop_unroll 2 (Xy 0,[Zh b,Zx Zv n,Zx Zv 1,Zq true,Zh [Yp n 0,(0:UInt8),(0:UInt8),(0:UInt8)],Zx Zv 1,Zx Zv 1]) (by kernel_rfl) ?_
   simp only [A0]
   rw [sel_pos (Yd _),chk_of (by simp),chk_of (by simp;omega)]
   simp [Wh,Zb,Wm,Xm]
  ·refine loop_unroll 3 (Xy 0,[Zh b,Zx Zv n,Zx Zv 2,Zq false,Zh [Yp n 8,Yp n 0,(0:UInt8),(0:UInt8)],Zx Zv 2,Zx Zv 2]) (by kernel_rfl) ?_
   simp only [A0]
   rw [sel_pos (Yd _),chk_of (by simp),chk_of (by simp;omega)]
   simp [Wh,Zb,Wm,Xm]
  ·refine loop_unroll 3 (Xy 0,[Zh b,Zx Zv n,Zx Zv 2,Zq true,Zh [Yp n 0,Yp n 8,(0:UInt8),(0:UInt8)],Zx Zv 2,Zx Zv 2]) (by kernel_rfl) ?_
   simp only [A0]
   rw [sel_pos (Yd _),chk_of (by simp),chk_of (by simp;omega)]
   simp [Wh,Zb,Wm,Xm]
  ·refine loop_unroll 5 (Xy 0,[Zh b,Zx Zv n,Zx Zv 4,Zq false,Zh [Yp n 24,Yp n 16,Yp n 8,Yp n 0],Zx Zv 4,Zx Zv 4]) (by kernel_rfl) ?_
   simp only [A0]
   rw [sel_pos (Yd _),chk_of (by simp),chk_of (by simp;omega)]
   simp [Wh,Zb,Wm,Xm]
  ·refine loop_unroll 5 (Xy 0,[Zh b,Zx Zv n,Zx Zv 4,Zq true,Zh [Yp n 0,Yp n 8,Yp n 16,Yp n 24],Zx Zv 4,Zx Zv 4]) (by kernel_rfl) ?_
   simp only [A0]
   rw [sel_pos (Yd _),chk_of (by simp),chk_of (by simp;omega)]
   simp [Wh,Zb,Wm,Xm]
 ·cases h
theorem w171:Walked Tryz.prog G 171 3 sp171:=by
 refine ⟨Tryz.f171,Tryz.func171,by decide +kernel,rfl,fun xs bl r h=> ?_⟩
 unfold sp171 at h
 split at h
 ·rename_i k
  obtain ⟨hpre,h2⟩:=chk_inv h;cases h2
  refine Eq.trans (b:=(Zw (chk (decide (0≤k)&&decide (k<18446744073709551616)) (some (Zq (Yg k),[]))) fun (r:AV×Blocks)=>onNilB (Zm r) (Xq (Yw r) fun b=>sel (!b) (some (Zx .i64 0,[])) (some (Zx .i64 (Zy .i64 (Wn k (2 ^ min (Zu 56) (Zf .u64)))),[]))):Option (AV×Blocks))) (by kernel_rfl) ?_
  simp only [hpre,↓A0,A0]
  unfold Kerb.classOf
  cases hk:Yg k
  ·rfl
  simp only [Xw,Bool.not_false,sel_true,sel_false]
  simp only [Yz,decide_eq_true_eq] at hpre
  have h7:(min (Zu 56) (Zf .u64))=56:=rfl
  rw [h7,Int.fdiv_eq_ediv_of_nonneg _ (by decide),wrap_i64 (by omega) (by omega)]
  rfl
 ·cases h
theorem w176:Walked Tryz.prog G 176 3 sp176:=by
 refine ⟨Tryz.f176,Tryz.func176,by decide +kernel,rfl,fun xs bl r h=> ?_⟩
 unfold sp176 at h
 split at h
 ·rename_i b pos little
  obtain ⟨hpre,h2⟩:=chk_inv h;cases h2
  refine Eq.trans (b:=(Zw (chk (decide (Zz b≤4611686018427387904)&&true&&true) (some (Yx [Zx .i64 (Ux (Xh b pos 4 little)),Zx .i64 (Vn (Xh b pos 4 little)),Zx .i64 (Uw (Xh b pos 4 little))],[]))) fun (r:AV×Blocks)=>onNilB (Zm r) (AV.onTup (Yw r) fun vs=>onCons vs fun x r=>Xd .i64 x fun n=>onCons r fun x r=>Xd .i64 x fun n_1=>onCons r fun x r=>Xd .i64 x fun n_2=>onNil r (some (Yx [Zx .i64 n,Zx .i64 n_1,Zx .i64 n_2],[]))):Option (AV×Blocks))) (by kernel_rfl) ?_
  simp only [A0]
  rw [chk_of (by rw [hpre];rfl)]
 ·cases h
theorem w182:Walked Tryz.prog G 182 3 sp182:=by
 refine ⟨Tryz.f182,Tryz.func182,by decide +kernel,rfl,fun xs bl r h=> ?_⟩
 unfold sp182 at h
 split at h
 ·rename_i s c
  cases h
  refine Eq.trans (b:=(some (Zx .i64 (Yq c s),[]):Option (AV×Blocks))) (by kernel_rfl) ?_
  rfl
 ·cases h
theorem w188:Walked Tryz.prog G 188 3 sp188:=by
 refine ⟨Tryz.f188,Tryz.func188,by decide +kernel,rfl,fun xs bl r h=> ?_⟩
 unfold sp188 at h
 split at h
 ·rename_i k
  obtain ⟨hpre,h2⟩:=chk_inv h;cases h2
  refine Eq.trans (b:=(Zw (chk (decide (0≤k)&&decide (k<18446744073709551616)) (some (Yx [Zx .i64 (bif Yg k then Kerb.keyClass k else 0),Zx .i64 (bif Yg k then Kerb.keySerial k else 0),Zq (Yg k)],[]))) fun (r:AV×Blocks)=>onNilB (Zm r) (AV.onTup (Yw r) fun vs=>onCons vs fun x r=>Xd .i64 x fun n=>onCons r fun x r=>Xd .i64 x fun n_1=>onCons r fun x r=>Xq x fun b=>onNil r (some (Zx .i64 n,[]))):Option (AV×Blocks))) (by kernel_rfl) ?_
  simp only [hpre,↓A0,A0]
  rfl
 ·cases h
theorem w32:Walked Tryz.prog G 32 4 sp32:=by
 refine ⟨Tryz.f32,Tryz.func32,by decide +kernel,rfl,fun xs bl r h=> ?_⟩
 unfold sp32 at h
 split at h
 ·rename_i cu co cv cr lt tn mt cad cfr cis ctm ctk clf ccs cky ckv css ctt cau
  cases h
  refine Eq.trans (b:=(Zw (chk (decide (0≤Yy (Zy .i64 (↑(Yj cv):Int)) 6)&&decide (Yy (Zy .i64 (↑(Yj cv):Int)) 6≤4611686018427387904)) (some (Wg [Zk (Vk (Kerb.service (Yy (Zy .i64 (↑(Yj cv):Int)) 6))),Zk (Vp (Kerb.service (Yy (Zy .i64 (↑(Yj cv):Int)) 6))),Zk (Vy (Kerb.service (Yy (Zy .i64 (↑(Yj cv):Int)) 6)))],[]))) fun (r:AV×Blocks)=>onNilB (Zm r) (AV.onAgg (Yw r) fun cs=>onCons cs fun x r=>Wy x fun b=>onCons r fun x r=>Wy x fun b_1=>onCons r fun x r=>Wy x fun b_2=>onNil r (some (Wg [Zk b,Zk b_1,Zk b_2],[]))):Option (AV×Blocks))) (by kernel_rfl) ?_
  have b:=Kerb.u8i_bd cv
  have f1:Yy (Kerb.u8i cv) 6=Kerb.u8i cv % 6:=Yh b.1
  simp only [Kerb.wrap_u8i,f1,↓A0,A0]
  rw [chk_of (by simp;omega)]
  rfl
 ·cases h
theorem w46:Walked Tryz.prog G 46 4 sp46:=by
 refine ⟨Tryz.f46,Tryz.func46,by decide +kernel,rfl,fun xs bl r h=> ?_⟩
 unfold sp46 at h
 split at h
 ·rename_i ali b1 b2 b3 aad ak alf ais asv ain x y z ck tc tm src now skw
  cases h
  refine Eq.trans (b:=(sel (!(b1==x&&(b2==y&&b3==z))) (some (Zx .i64 36,[])) (sel (!src==aad) (some (Zx .i64 38,[])) (sel (!Kerb.near tm now skw) (some (Zx .i64 37,[])) (some (Zx .i64 (Kerb.stateErr ais alf now skw),[])))):Option (AV×Blocks))) (by kernel_rfl) ?_
  unfold Kerb.judge
  cases h1:Kerb.Prin.eqb ⟨b1,b2,b3⟩ ⟨x,y,z⟩
  ·have h1':(b1==x&&(b2==y&&b3==z))=false:=h1
   rw [if_pos rfl,h1'];rfl
  have h1':(b1==x&&(b2==y&&b3==z))=true:=h1
  rw [if_neg (by simp),h1',Xw,sel_false]
  by_cases h2:src=aad
  case neg=>rw [sel_pos (by simpa using h2),if_pos h2]
  rw [sel_neg (by simpa using h2),if_neg (by simpa using h2)]
  cases h3:Kerb.near tm now skw
  ·rfl
  ·rw [if_neg (by simp)];rfl
 ·cases h
theorem w56:Walked Tryz.prog G 56 4 sp56:=by
 refine ⟨Tryz.f56,Tryz.func56,by decide +kernel,rfl,fun xs bl r h=> ?_⟩
 unfold sp56 at h
 split at h
 ·rename_i kd k bd
  obtain ⟨hpre,h2⟩:=chk_inv h;cases h2
  refine Eq.trans (b:=(let t0:List UInt8:=[Yk (Zu (Zy .u8 (Wn (↑(Zz bd):Int) (2 ^ min (Zu 8) (Zf .i64))))),Yk (Zu (Zy .u8 (↑(Zz bd):Int)))];let t1:List UInt8:=Xb (Zu 0) (0:UInt8)++[(66:UInt8),Yk (Zu (Zy .u8 kd))];let t2:Int:=Zy .i64 (12+(↑(Zz bd):Int));sel (!Xu kd) (some (Yx [Zh [],Zx .i64 104],[])) (Zw (chk (decide (0≤k)&&decide (k<18446744073709551616)) (some (Zq (Yg k),[]))) (kL fun b=>sel (!b) (some (Yx [Zh [],Zx .i64 10],[])) (sel (decide ((↑(Zz bd):Int)>1000)) (some (Yx [Zh [],Zx .i64 105],[])) (chk (decide (0≤t2)&&decide (t2≤140737488355328)) (chk (room (Zz (Xb (Zu 0) (0:UInt8))+Zz [(66:UInt8),Yk (Zu (Zy .u8 kd))]) 1) (Zw (chk (decide (0≤k)&&decide (k<18446744073709551616)) (some (Zh (Uy k),[]))) (kB fun b=>chk (room (Zz t1+Zz b) 1) (chk (room (Zz (t1++b)+Zz t0) 1) (chk (room (Zz (t1++b++t0)+Zz bd) 1) (some (Yx [Zh (t1++b++t0++bd),Zx .i64 0],[]))))))))))):Option (AV×Blocks))) (by kernel_rfl) ?_
  delta kB kL
  try dsimp only [cStr,cBs,cBool,cU8,cInt,cSl,l63]
  simp only [A0,Wd,Wf,Wb,hpre]
  unfold Kerb.makeBox
  cases h1:Xu kd
  ·rfl
  rw [Xw,sel_false,if_neg (by simp)]
  cases h2:Yg k
  ·rfl
  rw [Xw,sel_false,if_neg (by simp)]
  by_cases h3:1000<bd.length
  ·rw [sel_pos (by simp;omega),if_pos h3]
  have hk:1≤kd∧kd≤10:=by simp [Xu] at h1;omega
  have lk:=Zd k
  rw [sel_neg (by simp;omega),if_neg h3,wrap_i64 (by omega) (by omega),chk_of (by simp;omega),chk_of (Yu (by simp)),chk_of (Yu (by simp;omega)),chk_of (Yu (by simp;omega)),chk_of (Yu (by simp;omega)),Kerb.two_bytes,Kerb.wrap_u8,Int.emod_eq_of_lt (by omega) (by omega)]
  rfl
 ·cases h
theorem w87:Walked Tryz.prog G 87 4 sp87:=by
 refine ⟨Tryz.f87,Tryz.func87,by decide +kernel,rfl,fun xs bl r h=> ?_⟩
 unfold sp87 at h
 split at h
 ·rename_i b
  obtain ⟨hpre,h2⟩:=chk_inv h;cases h2
  refine Eq.trans (b:=(Zw (chk (decide (Zz b≤4611686018427387904)) (some (Yx [Zx .i64 (Ux (Xh b 2 1 false)),Zx .i64 (Vn (Xh b 2 1 false)),Zx .i64 (Uw (Xh b 2 1 false))],[]))) (kT fun vs=>cInt .i64 vs fun n r=>cInt .i64 r fun n_1 r=>cInt .i64 r fun n_2 r=>onNil r (Zw (chk (decide (Zz b≤4611686018427387904)) (some (Yx [Zk (Kerb.GotB.val (Kerb.text b n_1)),Zx .i64 (Kerb.GotB.next (Kerb.text b n_1)),Zx .i64 (Kerb.GotB.err (Kerb.text b n_1))],[]))) (kT fun vs=>cStr vs fun b_1 r=>cInt .i64 r fun n_3 r=>cInt .i64 r fun n_4 r=>onNil r (Zw (chk (decide (Zz b≤4611686018427387904)) (some (Yx [Zx .i64 (Ux (Xh b n_3 1 false)),Zx .i64 (Vn (Xh b n_3 1 false)),Zx .i64 (Uw (Xh b n_3 1 false))],[]))) (kT fun vs=>cInt .i64 vs fun n_5 r=>cInt .i64 r fun n_6 r=>cInt .i64 r fun n_7 r=>onNil r (Zw (chk (decide (Zz b≤4611686018427387904)) (some (Yx [Zx .i64 (Ux (Xh b n_6 1 false)),Zx .i64 (Vn (Xh b n_6 1 false)),Zx .i64 (Uw (Xh b n_6 1 false))],[]))) (kT fun vs=>cInt .i64 vs fun n_8 r=>cInt .i64 r fun n_9 r=>cInt .i64 r fun n_10 r=>onNil r (Zw (chk (decide (Zz b≤140737488355328)) (some (Yx [Zh (Kerb.GotB.val (Vb b n_9 n_5)),Zx .i64 (Kerb.GotB.next (Vb b n_9 n_5)),Zx .i64 (Kerb.GotB.err (Vb b n_9 n_5))],[]))) (kT fun vs=>cBs vs fun b_2 r=>cInt .i64 r fun n_11 r=>cInt .i64 r fun n_12 r=>onNil r (Zw (chk (decide (Zz b≤140737488355328)) (some (Yx [Zh (Kerb.GotB.val (Vb b n_11 n_8)),Zx .i64 (Kerb.GotB.next (Vb b n_11 n_8)),Zx .i64 (Kerb.GotB.err (Vb b n_11 n_8))],[]))) (kT fun vs=>cBs vs fun b_3 r=>cInt .i64 r fun n_13 r=>cInt .i64 r fun n_14 r=>onNil r (some (Yx [Wg [Zq (Kerb.Head.little (Wz b)),Zq (Kerb.Head.kind (Wz b)==4),Zx .i64 n,Zk b_1,Zh b_2,Zh b_3],Zx .i64 n_13],[]))))))))))))):Option (AV×Blocks))) (by kernel_rfl) ?_
  delta kT
  try dsimp only [cStr,cBs,cBool,cU8,cInt,cSl,l63]
  have hb:=of_decide_eq_true hpre
  have hpre2:decide (b.length≤4611686018427387904)=true:=by simp;omega
  simp only [hpre,hpre2,↓A0,A0]
  rfl
 ·cases h
theorem w110:Walked Tryz.prog G 110 4 sp110:=by
 refine ⟨Tryz.f110,Tryz.func110,by decide +kernel,rfl,fun xs bl r h=> ?_⟩
 unfold sp110 at h
 split at h
 ·rename_i b n
  obtain ⟨hpre,h2⟩:=chk_inv h;cases h2
  refine Eq.trans (b:=(Zw (chk (decide (Zz b≤70368744177664)) (some (Zn (b++Zb n (Zu 1) false),[]))) fun (r:AV×Blocks)=>onNilB (Zm r) (Xx (Yw r) fun l=>some (Zn l,[])):Option (AV×Blocks))) (by kernel_rfl) ?_
  simp only [decide_eq_true_eq] at hpre
  simp only [A0]
  rw [chk_of (by simp;omega)]
  rfl
 ·cases h
theorem w111:Walked Tryz.prog G 111 4 sp111:=by
 refine ⟨Tryz.f111,Tryz.func111,by decide +kernel,rfl,fun xs bl r h=> ?_⟩
 unfold sp111 at h
 split at h
 ·rename_i b n little
  obtain ⟨hpre,h2⟩:=chk_inv h;cases h2
  refine Eq.trans (b:=(Zw (chk (decide (Zz b≤70368744177664)) (some (Zn (b++Zb n (Zu 4) little),[]))) fun (r:AV×Blocks)=>onNilB (Zm r) (Xx (Yw r) fun l=>some (Zn l,[])):Option (AV×Blocks))) (by kernel_rfl) ?_
  simp only [decide_eq_true_eq] at hpre
  simp only [A0]
  rw [chk_of (by simp;omega)]
  rfl
 ·cases h
theorem w117:Walked Tryz.prog G 117 4 sp117:=by
 refine ⟨Tryz.f117,Tryz.func117,by decide +kernel,rfl,fun xs bl r h=> ?_⟩
 unfold sp117 at h
 split at h
 ·rename_i b n little
  obtain ⟨hpre,h2⟩:=chk_inv h;cases h2
  refine Eq.trans (b:=(Zw (chk (decide (Zz b≤70368744177664)) (some (Zn (b++Zb n (Zu 2) little),[]))) fun (r:AV×Blocks)=>onNilB (Zm r) (Xx (Yw r) fun l=>some (Zn l,[])):Option (AV×Blocks))) (by kernel_rfl) ?_
  simp only [decide_eq_true_eq] at hpre
  simp only [A0]
  rw [chk_of (by simp;omega)]
  rfl
 ·cases h
theorem w150:Walked Tryz.prog G 150 4 sp150:=by
 refine ⟨Tryz.f150,Tryz.func150,by decide +kernel,rfl,fun xs bl r h=> ?_⟩
 unfold sp150 at h
 split at h
 ·rename_i li x y z ad k lf iss sv ins
  obtain ⟨hpre,h2⟩:=chk_inv h;cases h2
  refine Eq.trans (b:=(Zw (chk (decide (Zz x≤9223372036854775807)&&decide (Zz y≤9223372036854775807)&&decide (Zz z≤9223372036854775807)) (some (Zq (Wk (Wx x y z)),[]))) fun (r:AV×Blocks)=>onNilB (Zm r) (Xq (Yw r) fun b=>sel (!b) (some (Zx .i64 103,[])) (Zw (chk (decide (Zz sv≤9223372036854775807)) (some (Zq (Vg sv),[]))) fun (r:AV×Blocks)=>onNilB (Zm r) (Xq (Yw r) fun b=>sel (!b) (some (Zx .i64 103,[])) (Zw (chk (decide (Zz ins≤9223372036854775807)) (some (Zq (Kerb.validInst ins),[]))) fun (r:AV×Blocks)=>onNilB (Zm r) (Xq (Yw r) fun b=>sel (!b) (some (Zx .i64 103,[])) (Zw (chk (decide (0≤k)&&decide (k<18446744073709551616)) (some (Zx .i64 (Kerb.classOf k),[]))) fun (r:AV×Blocks)=>onNilB (Zm r) (Xd .i64 (Yw r) fun n=>sel (!n==2) (some (Zx .i64 10,[])) (sel (!Zg ad 4294967295) (some (Zx .i64 104,[])) (sel (!Zg lf 255) (some (Zx .i64 104,[])) (sel (!Zg iss 4294967295) (some (Zx .i64 104,[])) (some (Zx .i64 0,[])))))))))))):Option (AV×Blocks))) (by kernel_rfl) ?_
  simp only [Yz,decide_eq_true_eq] at hpre
  obtain ⟨⟨⟨⟨⟨⟨h1,h2⟩,h3⟩,h4⟩,h5⟩,h6⟩,h7⟩:=hpre
  simp only [h1,h2,h3,h4,h5,h6,h7,decide_true,Vq,↓A0,A0]
  unfold Kerb.Ticket.err
  dsimp only
  cases Wk ⟨x,y,z⟩
  ·rfl
  cases Vg sv
  ·rfl
  cases Kerb.validInst ins
  ·rfl
  simp only [Xw,Vq,sel_false]
  by_cases hc:Kerb.classOf k=2
  case neg=>rw [sel_pos (by simpa using hc),if_neg (by simp),if_pos hc]
  rw [sel_neg (by simp [hc]),if_neg (by simp),if_neg (by simp [hc])]
  cases Zg ad 4294967295
  ·rfl
  cases Zg lf 255
  ·rfl
  cases Zg iss 4294967295
  ·rfl
  rfl
 ·cases h
theorem w152:Walked Tryz.prog G 152 4 sp152:=by
 refine ⟨Tryz.f152,Tryz.func152,by decide +kernel,rfl,fun xs bl r h=> ?_⟩
 unfold sp152 at h
 split at h
 ·rename_i x y z ck tc tm
  obtain ⟨hpre,h2⟩:=chk_inv h;cases h2
  refine Eq.trans (b:=(Zw (chk (decide (Zz x≤9223372036854775807)&&decide (Zz y≤9223372036854775807)&&decide (Zz z≤9223372036854775807)) (some (Zq (Wk (Wx x y z)),[]))) fun (r:AV×Blocks)=>onNilB (Zm r) (Xq (Yw r) fun b=>sel (!b) (some (Zx .i64 103,[])) (sel (!Zg ck 4294967295) (some (Zx .i64 104,[])) (sel (!Zg tc 199) (some (Zx .i64 104,[])) (sel (!Zg tm 4294967295) (some (Zx .i64 104,[])) (some (Zx .i64 0,[])))))):Option (AV×Blocks))) (by kernel_rfl) ?_
  simp only [A0,Wd,Wf,Wb,hpre]
  unfold Kerb.Auth.check
  simp only
  cases Wk ⟨x,y,z⟩
  ·rfl
  cases Zg ck 4294967295
  ·rfl
  cases Zg tc 199
  ·rfl
  cases Zg tm 4294967295<;>rfl
 ·cases h
theorem w165:Walked Tryz.prog G 165 4 sp165:=by
 refine ⟨Tryz.f165,Tryz.func165,by decide +kernel,rfl,fun xs bl r h=> ?_⟩
 unfold sp165 at h
 split at h
 ·rename_i s bad
  obtain ⟨hpre,h2⟩:=chk_inv h;cases h2
  refine Eq.trans (b:=(Zw (loopM (fun (st:List AV)=>cStr st fun b r=>cStr r fun b_1 r=>cBool r fun b_2 r=>cInt .i64 r fun n r=>cInt .i64 r fun n_1 r=>let t0:Option (List AV ⊕ Ex×List AV):=some (Xj (Ex.ret,[Zk b,Zk b_1,Zq false,Zx .i64 n,Zx .i64 n_1]));let t1:Bool:=decide (0≤n_1)&&decide (n_1<(↑(Zz b):Int));let t2:Int:=(↑(Yj (Ym b (Zu n_1) (0:UInt8))):Int);onNil r (sel (decide (n_1<n)) (chk t1 (sel (decide (t2<(↑(Yj (33:UInt8)):Int))) t0 (chk t1 (sel (decide (t2>(↑(Yj (126:UInt8)):Int))) t0 (chk t1 (sel (decide (Yq (Ym b (Zu n_1) (0:UInt8)) b_1≥0)) t0 (some (Wu [Zk b,Zk b_1,Zq b_2,Zx .i64 n,Zx .i64 (Zy .i64 (n_1+1))])))))))) (some (Xj (Xy 0,[Zk b,Zk b_1,Zq b_2,Zx .i64 n,Zx .i64 n_1]))))) [Zk s,Zk bad,Zq false,Zx .i64 (↑(Zz s):Int),Zx .i64 0]) fun (r:Ex×List AV)=>cStr (Zm r) fun b r_1=>cStr r_1 fun b r_2=>cBool r_2 fun b r_3=>cInt .i64 r_3 fun n r_4=>cInt .i64 r_4 fun n r_5=>onNil r_5 (exK r.1 (some (Zq b,[])) fun (j:Nat)=>sel (Wq j 0) (some (Zq true,[])) none):Option (AV×Blocks))) (by kernel_rfl) ?_
  try dsimp only [cStr,cBs,cBool,cU8,cInt,cSl,l63]
  simp only [decide_eq_true_eq] at hpre
  refine loop_rounds (fun i:Nat=>[Zk s,Zk bad,Zq false,Zx Zv (s.length:Int),Zx Zv (i:Int)]) (fun i=>i≤s.length∧Yf s bad=Yf (s.drop i) bad) (fun i=>s.length-i)
   (fun r=>∃ i:Nat,r.2=[Zk s,Zk bad,Zq false,Zx Zv (s.length:Int),Zx Zv (i:Int)]∧((r.1 = .ret∧Yf s bad=false)∨(r.1 = .exit 0∧Yf s bad=true))) 0 ⟨Wp _,rfl⟩ rfl ?_ ?_
  ·rintro i ⟨hi,hp⟩
   simp only [A0]
   by_cases hlt:i<s.length
   ·have hc:(decide ((0:Int)≤(i:Int))&&decide ((i:Int)<(s.length:Int)))=true:=by simp;omega
    have hd:=Kerb.drop_all_cons hlt
    rw [sel_pos (by simp;omega),chk_of hc,Yn]
    have hpr:Yf (s.drop i) bad=(Vj bad (s.getD i 0)&&Yf (s.drop (i+1)) bad):=by rw [hd];rfl
    generalize s.getD i 0=c at *
    by_cases h1:c.toNat<33
    ·rw [sel_pos (by simp;omega)]
     exact ⟨_,rfl,i,rfl,.inl ⟨rfl,by rw [hp,hpr];simp [Vj,h1]⟩⟩
    rw [sel_neg (by simp;omega),chk_of hc]
    by_cases h2:126<c.toNat
    ·rw [sel_pos (by simp;omega)]
     exact ⟨_,rfl,i,rfl,.inl ⟨rfl,by rw [hp,hpr];simp [Vj,h2]⟩⟩
    rw [sel_neg (by simp;omega),chk_of hc]
    have h4:=Kerb.indexOf_nonneg c bad
    by_cases h3:c∈bad
    ·rw [sel_pos (by simpa using h4.2 h3)]
     exact ⟨_,rfl,i,rfl,.inl ⟨rfl,by rw [hp,hpr];simp [Vj,h3]⟩⟩
    rw [sel_neg (by have:=mt h4.1 h3;simp;omega),wrap_i64 (by omega) (by omega)]
    exact ⟨_,rfl,i+1,rfl,⟨by omega,by rw [hp,hpr];simp [Vj,h1,h2,h3]⟩,by dsimp only;omega⟩
   ·rw [sel_neg (by simp;omega)]
    exact ⟨_,rfl,i,rfl,.inr ⟨rfl,by rw [hp,Xp (by omega)];rfl⟩⟩
  ·rintro ⟨e,l⟩ ⟨i,rfl,⟨rfl,hp⟩ | ⟨rfl,hp⟩⟩
   ·simp only [A0,hp]
   ·simp only [A0,hp]
    rfl
 ·cases h
theorem w177:Walked Tryz.prog G 177 4 sp177:=by
 refine ⟨Tryz.f177,Tryz.func177,by decide +kernel,rfl,fun xs bl r h=> ?_⟩
 unfold sp177 at h
 split at h
 ·rename_i b
  obtain ⟨hpre,h2⟩:=chk_inv h;cases h2
  refine Eq.trans (b:=(sel (!(↑(Zz b):Int)==8) (some (Yx [Zx .u64 0,Zq false],[])) (Zw (loopM (fun (st:List AV)=>cInt .u64 st fun n r=>cBs r fun b r=>cInt .i64 r fun n_1 r=>cInt .i64 r fun n_2 r=>onNil r (sel (decide (n_2<n_1)) (chk (decide (0≤n_2)&&decide (n_2<(↑(Zz b):Int))) (some (Wu [Zx .u64 (Zy .u64 (↑(BitVec.toNat (BitVec.ofInt (Zf .u64) (Zy .u64 (n*2 ^ min (Zu 8) (Zf .u64))) ||| BitVec.ofInt (Zf .u64) (Zy .u64 (↑(Yj (Ym b (Zu n_2) (0:UInt8))):Int)))):Int)),Zh b,Zx .i64 n_1,Zx .i64 (Zy .i64 (n_2+1))]))) (some (Xj (Xy 0,[Zx .u64 n,Zh b,Zx .i64 n_1,Zx .i64 n_2]))))) [Zx .u64 0,Zh b,Zx .i64 (↑(Zz b):Int),Zx .i64 0]) fun (r:Ex×List AV)=>cInt .u64 (Zm r) fun n r_1=>cBs r_1 fun b r_2=>cInt .i64 r_2 fun n_1 r_3=>cInt .i64 r_3 fun n_2 r_4=>onNil r_4 (exK r.1 none fun (j:Nat)=>sel (Wq j 0) (Zw (chk (decide (0≤n)&&decide (n<18446744073709551616)) (some (Zq (Yg n),[]))) (kL fun b=>sel (!b) (some (Yx [Zx .u64 0,Zq false],[])) (some (Yx [Zx .u64 n,Zq true],[])))) none)):Option (AV×Blocks))) (by kernel_rfl) ?_
  delta kL
  try dsimp only [cStr,cBs,cBool,cU8,cInt,cSl,l63]
  have hb:=of_decide_eq_true hpre
  unfold Kerb.keyRead
  by_cases h8:b.length=8
  case neg =>
   rw [sel_pos (by simp;omega),if_neg (by omega)]
  rw [sel_neg (by simp [h8])]
  refine loop_rounds (fun i:Nat=>[Zx Xz (Kerb.valB (b.take i)),Zh b,Zx Zv (b.length:Int),Zx Zv (i:Int)]) (fun i=>i≤8) (fun i=>8-i)
   (fun r=>r=(Xy 0,[Zx Xz (Kerb.valB b),Zh b,Zx Zv (b.length:Int),Zx Zv 8])) 0 (by omega) rfl ?_ ?_
  ·intro i hi
   simp only [A0]
   by_cases hlt:i<8
   ·have hv:=Kerb.valB_take (l:=b) (i:=i) (by omega)
    have hbd:=Kerb.valB_bd7 (l:=b.take i) (by simp;omega)
    rw [sel_pos (by simp;omega),chk_of (by simp;omega),Yn,Kerb.shl8_oru _ hbd.1 hbd.2,wrap_i64 (by omega) (by omega),← hv]
    exact ⟨_,rfl,i+1,rfl,by omega,by dsimp only;omega⟩
   ·rw [sel_neg (by simp;omega)]
    refine ⟨_,rfl,?_⟩
    show _=_
    rw [Xk (by omega),show i=8 from by omega]
    rfl
  rintro r rfl
  have hbd:=Kerb.valB_bd8 (l:=b) (by omega)
  simp only [A0]
  rw [sel_pos (Yd _),chk_of (by simp;omega)]
  cases hv:Yg (Kerb.valB b)
  ·rw [if_neg (by simp)]
   rfl
  ·rw [if_pos ⟨h8,rfl⟩]
   rfl
 ·cases h
theorem w185:Walked Tryz.prog G 185 4 sp185:=by
 refine ⟨Tryz.f185,Tryz.func185,by decide +kernel,rfl,fun xs bl r h=> ?_⟩
 unfold sp185 at h
 split at h
 ·rename_i b x y z
  obtain ⟨hpre,h2⟩:=chk_inv h;cases h2
  refine Eq.trans (b:=(Zw (chk (decide (Zz b+Zz x≤70368744177664)) (some (Zh (Yv b x),[]))) fun (r:AV×Blocks)=>onNilB (Zm r) (AV.onBs (Yw r) fun b=>Zw (chk (decide (Zz b+Zz y≤70368744177664)) (some (Zh (Yv b y),[]))) fun (r:AV×Blocks)=>onNilB (Zm r) (AV.onBs (Yw r) fun b=>Zw (chk (decide (Zz b+Zz z≤70368744177664)) (some (Zh (Yv b z),[]))) fun (r:AV×Blocks)=>onNilB (Zm r) (AV.onBs (Yw r) fun b=>some (Zh b,[])))):Option (AV×Blocks))) (by kernel_rfl) ?_
  simp only [decide_eq_true_eq] at hpre
  simp only [A0]
  rw [chk_of (by simp;omega),chk_of (by simp [Yv];omega),chk_of (by simp [Yv];omega)]
  rfl
 ·cases h
theorem w10:Walked Tryz.prog G 10 5 sp10:=by
 refine ⟨Tryz.f10,Tryz.func10,by decide +kernel,rfl,fun xs bl r h=> ?_⟩
 unfold sp10 at h
 split at h
 ·rename_i cu co cv cr lt tn mt cad cfr cis ctm ctk clf ccs cky ckv css ctt cau sz sk
  cases h
  refine Eq.trans (b:=(some (Wg [Zk (Vk (Wv (Ww cu co cv cr lt tn mt cad cfr cis ctm ctk clf ccs cky ckv css ctt cau))),Zk (Vp (Wv (Ww cu co cv cr lt tn mt cad cfr cis ctm ctk clf ccs cky ckv css ctt cau))),Zk (Vy (Wv (Ww cu co cv cr lt tn mt cad cfr cis ctm ctk clf ccs cky ckv css ctt cau))),Xv 5 [Wg [Zk (Vk (Wv (Ww cu co cv cr lt tn mt cad cfr cis ctm ctk clf ccs cky ckv css ctt cau))),Zk (Vp (Wv (Ww cu co cv cr lt tn mt cad cfr cis ctm ctk clf ccs cky ckv css ctt cau))),Zk (Vy (Wv (Ww cu co cv cr lt tn mt cad cfr cis ctm ctk clf ccs cky ckv css ctt cau))),Zx .i64 1,Zx .u64 (Kerb.long 1)],Wg [Zk (Vk (Wv (Ww cu co cv cr lt tn mt cad cfr cis ctm ctk clf ccs cky ckv css ctt cau))),Zk (Vp (Wv (Ww cu co cv cr lt tn mt cad cfr cis ctm ctk clf ccs cky ckv css ctt cau))),Zk (Vy (Wv (Ww cu co cv cr lt tn mt cad cfr cis ctm ctk clf ccs cky ckv css ctt cau))),Zx .i64 2,Zx .u64 (Kerb.long 2)],Wg [Zk (Vk (Kerb.user 0)),Zk (Vp (Kerb.user 0)),Zk (Vy (Kerb.user 0)),Zx .i64 1,Zx .u64 (Kerb.long 9)]],Zx .i64 (Zy .i64 (1+Yy (Zy .i64 (↑(Yj sz):Int)) 40)),Zx .i64 0,Xv 5 [],Zx .i64 (Zy .i64 (Zy .i64 (↑(Yj sk):Int)*4))],[]):Option (AV×Blocks))) (by kernel_rfl) ?_
  have b1:=Kerb.u8i_bd sz
  have b2:=Kerb.u8i_bd sk
  have f1:Zy .i64 (1+Yy (Kerb.u8i sz) 40)=1+Kerb.u8i sz % 40:=by rw [Yh b1.1];exact wrap_i64 (by omega) (by omega)
  have f2:Zy .i64 (Kerb.u8i sk*4)=Kerb.u8i sk*4:=wrap_i64 (by omega) (by omega)
  simp only [Kerb.wrap_u8i,f1,f2]
  rfl
 ·cases h
theorem w55:Walked Tryz.prog G 55 5 sp55:=by
 refine ⟨Tryz.f55,Tryz.func55,by decide +kernel,rfl,fun xs bl r h=> ?_⟩
 unfold sp55 at h
 split at h
 ·rename_i ck tc tm li
  cases h
  refine Eq.trans (b:=(let t0:Option (AV×Blocks):=some (Yx [Zh [],Zx .i64 104],[]);let t1:Nat:=Zz ([]++Zb 0 1 false++Zb ck 4 li);let t2:Nat:=Zz ([]++Zb 1 1 false++Zb ck 4 li);sel (!Zg ck 4294967295) t0 (sel (!Zg tc 199) t0 (sel (!Zg tm 4294967295) t0 (sel li (Zw (chk (decide (t2≤70368744177664)) (some (Zn ([]++Zb 1 1 false++Zb ck 4 li++Zb tc 1 false),[]))) (kO fun l=>Zw (chk (decide (Zz l≤70368744177664)) (some (Zn (l++Zb tm 4 li),[]))) (kO fun l=>Zw (chk (decide (Zz l≤70368744177664)) (some (Zh (Kerb.pad l),[]))) (kB fun b=>some (Yx [Zh b,Zx .i64 0],[]))))) (Zw (chk (decide (t1≤70368744177664)) (some (Zn ([]++Zb 0 1 false++Zb ck 4 li++Zb tc 1 false),[]))) (kO fun l=>Zw (chk (decide (Zz l≤70368744177664)) (some (Zn (l++Zb tm 4 li),[]))) (kO fun l=>Zw (chk (decide (Zz l≤70368744177664)) (some (Zh (Kerb.pad l),[]))) (kB fun b=>some (Yx [Zh b,Zx .i64 0],[])))))))):Option (AV×Blocks))) (by kernel_rfl) ?_
  delta kB kO
  try dsimp only [cStr,cBs,cBool,cU8,cInt,cSl,l63]
  unfold Kerb.encodeMutual
  cases h1:Zg ck 4294967295
  ·rfl
  cases h2:Zg tc 199
  ·rfl
  cases h3:Zg tm 4294967295
  ·rfl
  rw [if_neg (by simp)]
  simp only [↓A0,Xw]
  cases li
  ·simp only [↓A0]
   rw [chk_of (by simp [Zj]),chk_of (by simp [Zj]),chk_of (by simp [Zj])]
   rfl
  ·simp only [↓A0]
   rw [chk_of (by simp [Zj]),chk_of (by simp [Zj]),chk_of (by simp [Zj])]
   rfl
 ·cases h
theorem w57:Walked Tryz.prog G 57 5 sp57:=by
 refine ⟨Tryz.f57,Tryz.func57,by decide +kernel,rfl,fun xs bl r h=> ?_⟩
 unfold sp57 at h
 split at h
 ·rename_i s li
  cases h
  refine Eq.trans (b:=(sel (decide ((↑(Zz s):Int)>1012)) (some (Yx [Zh [],Zx .i64 105],[])) (Zw (chk (decide (Zz (Xf 8 li)≤70368744177664)) (some (Zn (Xf 8 li++Zb (↑(Zz s):Int) 2 li),[]))) fun (r:AV×Blocks)=>onNilB (Zm r) (Xx (Yw r) fun l=>Zw (chk (decide (Zz (Yb l (Yb s []))≤140737488355328)&&decide (Zz [Zh l,Zh s]≤1000)) (some (Zn (Yb l (Yb s [])),[]))) fun (r:AV×Blocks)=>onNilB (Zm r) (Xx (Yw r) fun l=>some (Yx [Zh l,Zx .i64 0],[])))):Option (AV×Blocks))) (by kernel_rfl) ?_
  unfold Kerb.encodeAns
  by_cases h:1012<s.length
  ·rw [sel_pos (by simp;omega),if_pos h]
  rw [sel_neg (by simp;omega),if_neg h]
  have hl:(Xf 8 li).length=2:=by cases li<;>rfl
  simp only [↓A0]
  rw [chk_of (by simp [hl]),chk_of (by simp [Zj,hl];omega)]
  show some (Yx [Zh ((Xf 8 li++Zb (↑s.length:Int) 2 li)++(s++[])),Zx Zv 0],([]:Blocks))=_
  rw [List.append_nil]
 ·cases h
theorem w94:Walked Tryz.prog G 94 5 sp94:=by
 refine ⟨Tryz.f94,Tryz.func94,by decide +kernel,rfl,fun xs bl r h=> ?_⟩
 unfold sp94 at h
 split at h
 ·rename_i li x y z ad k lf iss sv ins
  obtain ⟨hpre,h2⟩:=chk_inv h;cases h2
  refine Eq.trans (b:=(let t0:Nat:=Zz ([]++Zb 0 1 false)+Zz x+Zz y+Zz z;let t1:Nat:=Zz ([]++Zb 1 1 false)+Zz x+Zz y+Zz z;let t2:Option (AV×Blocks):=chk (decide (0≤k)&&decide (k<18446744073709551616)) (some (Zh (Uy k),[]));Zw (chk (l63 x&&l63 y&&l63 z&&l63 sv&&l63 ins&&decide (0≤k)&&decide (k<18446744073709551616)) (some (Zx .i64 (Kerb.Ticket.err (Kerb.Ticket.mk li (Wx x y z) ad k lf iss sv ins)),[]))) (kI .i64 fun n=>sel (!n==0) (some (Yx [Zh [],Zx .i64 n],[])) (sel li (Zw (chk (decide (t1≤70368744170000)) (some (Zh (Kerb.putPrin ([]++Zb 1 1 false) (Wx x y z)),[]))) (kB fun b=>Zw (chk (decide (Zz b≤70368744177664)) (some (Zn (b++Zb ad 4 li),[]))) (kO fun l=>Zw t2 (kB fun b=>chk (room (Zz l+Zz b) 1) (Zw (chk (decide (Zz (l++b)≤70368744177664)) (some (Zn (l++b++Zb lf 1 false),[]))) (kO fun l=>Zw (chk (decide (Zz l≤70368744177664)) (some (Zn (l++Zb iss 4 li),[]))) (kO fun l=>Zw (chk (decide (Zz l+Zz sv≤70368744177664)) (some (Zh (Yv l sv),[]))) (kB fun b=>Zw (chk (decide (Zz b+Zz ins≤70368744177664)) (some (Zh (Yv b ins),[]))) (kB fun b=>Zw (chk (decide (Zz b≤70368744177664)) (some (Zn (Kerb.pad b),[]))) (kO fun l=>some (Yx [Zh l,Zx .i64 0],[]))))))))))) (Zw (chk (decide (t0≤70368744170000)) (some (Zh (Kerb.putPrin ([]++Zb 0 1 false) (Wx x y z)),[]))) (kB fun b=>Zw (chk (decide (Zz b≤70368744177664)) (some (Zn (b++Zb ad 4 li),[]))) (kO fun l=>Zw t2 (kB fun b=>chk (room (Zz l+Zz b) 1) (Zw (chk (decide (Zz (l++b)≤70368744177664)) (some (Zn (l++b++Zb lf 1 false),[]))) (kO fun l=>Zw (chk (decide (Zz l≤70368744177664)) (some (Zn (l++Zb iss 4 li),[]))) (kO fun l=>Zw (chk (decide (Zz l+Zz sv≤70368744177664)) (some (Zh (Yv l sv),[]))) (kB fun b=>Zw (chk (decide (Zz b+Zz ins≤70368744177664)) (some (Zh (Yv b ins),[]))) (kB fun b=>Zw (chk (decide (Zz b≤70368744177664)) (some (Zn (Kerb.pad b),[]))) (kO fun l=>some (Yx [Zh l,Zx .i64 0],[]))))))))))))):Option (AV×Blocks))) (by kernel_rfl) ?_
  delta kB kO kI
  try dsimp only [cStr,cBs,cBool,cU8,cInt,cSl,l63]
  simp only [Yz,decide_eq_true_eq] at hpre
  obtain ⟨⟨⟨⟨⟨⟨h1,h2⟩,h3⟩,h4⟩,h5⟩,h6⟩,h7⟩:=hpre
  simp only [h1,h2,h3,h4,h5,h6,h7,decide_true,Vq,↓A0,A0]
  have hb := @Kerb.encTicket_inv ⟨li,⟨x,y,z⟩,ad,k,lf,iss,sv,ins⟩
  unfold Kerb.encodeTicket at hb ⊢
  dsimp only at hb ⊢
  generalize hE:Kerb.Ticket.err _=e at hb ⊢
  by_cases he:e=0
  case neg=>rw [sel_pos (by simpa using he),if_pos he]
  rw [if_neg (by simpa using he)] at hb
  obtain ⟨v1,v2,v3,_⟩:=hb rfl
  have l1:=Kerb.valid_len v1
  have l2:=(Kerb.name_ok v2).1
  have l3:=(Kerb.inst_ok v3).1
  dsimp only at l1
  rw [sel_neg (by simpa using he),if_neg (by simpa using he)]
  cases li
  ·rw [sel_false,chk_of (by first | (simp [Zp,Zj,Zd];done) | (simp [Zp,Zj,Zd];omega)),chk_of (by first | (simp [Zp,Zj,Zd];done) | (simp [Zp,Zj,Zd];omega)),chk_of (Yu (by first | (simp [Zp,Zj,Zd];done) | (simp [Zp,Zj,Zd];omega))),chk_of (by first | (simp [Zp,Zj,Zd];done) | (simp [Zp,Zj,Zd];omega)),chk_of (by first | (simp [Zp,Zj,Zd];done) | (simp [Zp,Zj,Zd];omega)),chk_of (by first | (simp [Zp,Zj,Zd];done) | (simp [Zp,Zj,Zd];omega)),chk_of (by first | (simp [Yv,Zp,Zj,Zd];done) | (simp [Yv,Zp,Zj,Zd];omega)),chk_of (by first | (simp [Yv,Zp,Zj,Zd];done) | (simp [Yv,Zp,Zj,Zd];omega))]
   simp
  ·rw [sel_true,chk_of (by first | (simp [Zp,Zj,Zd];done) | (simp [Zp,Zj,Zd];omega)),chk_of (by first | (simp [Zp,Zj,Zd];done) | (simp [Zp,Zj,Zd];omega)),chk_of (Yu (by first | (simp [Zp,Zj,Zd];done) | (simp [Zp,Zj,Zd];omega))),chk_of (by first | (simp [Zp,Zj,Zd];done) | (simp [Zp,Zj,Zd];omega)),chk_of (by first | (simp [Zp,Zj,Zd];done) | (simp [Zp,Zj,Zd];omega)),chk_of (by first | (simp [Zp,Zj,Zd];done) | (simp [Zp,Zj,Zd];omega)),chk_of (by first | (simp [Yv,Zp,Zj,Zd];done) | (simp [Yv,Zp,Zj,Zd];omega)),chk_of (by first | (simp [Yv,Zp,Zj,Zd];done) | (simp [Yv,Zp,Zj,Zd];omega))]
   simp
 ·cases h
theorem w95:Walked Tryz.prog G 95 5 sp95:=by
 refine ⟨Tryz.f95,Tryz.func95,by decide +kernel,rfl,fun xs bl r h=> ?_⟩
 unfold sp95 at h
 split at h
 ·rename_i x y z ck tc tm li
  obtain ⟨hpre,h2⟩:=chk_inv h;cases h2
  refine Eq.trans (b:=(let t0:Nat:=Zz ([]++Zb (bif li then 1 else 0) 1 false)+Zz x+Zz y+Zz z;Zw (chk (l63 x&&l63 y&&l63 z) (some (Zx .i64 (Kerb.Auth.check (Kerb.Auth.mk (Wx x y z) ck tc tm)),[]))) (kI .i64 fun n=>sel (!n==0) (some (Yx [Zh [],Zx .i64 n],[])) (Zw (chk (decide (t0≤70368744170000)) (some (Zh (Kerb.putPrin ([]++Zb (bif li then 1 else 0) 1 false) (Wx x y z)),[]))) (kB fun b=>Zw (chk (decide (Zz b≤70368744177664)) (some (Zn (b++Zb ck 4 li),[]))) (kO fun l=>Zw (chk (decide (Zz l≤70368744177664)) (some (Zn (l++Zb tc 1 false),[]))) (kO fun l=>Zw (chk (decide (Zz l≤70368744177664)) (some (Zn (l++Zb tm 4 li),[]))) (kO fun l=>Zw (chk (decide (Zz l≤70368744177664)) (some (Zn (Kerb.pad l),[]))) (kO fun l=>some (Yx [Zh l,Zx .i64 0],[])))))))):Option (AV×Blocks))) (by kernel_rfl) ?_
  delta kB kO kI
  try dsimp only [cStr,cBs,cBool,cU8,cInt,cSl,l63]
  simp only [A0,Wd,Wf,Wb,hpre]
  unfold Kerb.encodeAuth
  by_cases h:(Kerb.Auth.mk ⟨x,y,z⟩ ck tc tm).check=0
  case neg =>
   rw [sel_pos (by simpa using h),if_pos h]
  have hv:Wk ⟨x,y,z⟩=true:=by
   unfold Kerb.Auth.check at h
   cases hv:Wk ⟨x,y,z⟩
   ·simp [hv] at h
   ·rfl
  have l1:=Kerb.valid_len hv
  simp only at l1
  rw [sel_neg (by simp [h]),if_neg (by simpa using h)]
  cases li
  ·simp only [A0,Wd,Wf,Wb,List.nil_append,cond_false,cond_true]
   rw [chk_of (by simp [Zj];omega),chk_of (by simp [Zj,Zp];omega),chk_of (by simp [Zj,Zp];omega),chk_of (by simp [Zj,Zp];omega),chk_of (by simp [Zj,Zp];omega)]
  ·simp only [A0,Wd,Wf,Wb,List.nil_append,cond_false,cond_true]
   rw [chk_of (by simp [Zj];omega),chk_of (by simp [Zj,Zp];omega),chk_of (by simp [Zj,Zp];omega),chk_of (by simp [Zj,Zp];omega),chk_of (by simp [Zj,Zp];omega)]
 ·cases h
end Go.Proofs.YtiplnpablmohiaaGreat
