/- What the functions of this seat compute. -/
import Derived.Test.YtiplnpablmohiaaGreatTab
import Derived.Test.YtiplnpablmohiaaGreatKerbPlain
import Derived.Test.YtiplnpablmohiaaGreatAbsStep
import Derived.Test.YtiplnpablmohiaaGreatKerbCli3
import Derived.Test.YtiplnpablmohiaaGreatKerbCli4
import Derived.Test.YtiplnpablmohiaaGreatKerbKac4
import Derived.Test.YtiplnpablmohiaaGreatKerbVerL
open List renaming length→Zz,getD→Yw,take→Ym,drop→Xy,take_of_length_le→Xq,append→Xj,drop_eq_nil_of_le→Xd,replicate→Xg,range_succ→Xm,length_map→Vy
open Go.IntKind renaming wrap→Zy,i64→Zv,bits→Zj,u64→Xw
open Go.Abs.AV renaming int→Zx,bool→Zu,str→Zk,tup→Zd,bs→Zf,ownB→Zm,onInt→Yj,onOwnB→Yh,sl→Xx,onStr→Wx,onBool→Ww,agg→Wg,undef→Vx,onTup→Vv
open Int renaming toNat→Zw,tmod→Zn,toNat_natCast→Yf,tmod_eq_emod_of_nonneg→Xz,tdiv_eq_ediv_of_nonneg→Wu,tdiv→Wq,fdiv→Wj
open Option renaming bind→Zq
open Prod renaming snd→Zp,fst→Zh
open Bool renaming and_eq_true→Zg,not_true→Xv
open Kerb renaming within→Zb,room_ok→Yy,indexOf→Yv,putN_len→Yq,putN→Yk,bfd→Yp,keyValid→Yd,isKind→Yg,readHead→Yb,room→Xu,get→Xk,putText_len→Xf,printable→Xb,header→Xh,putText→Wv,bytes→Wk,byteAt→Wp,bfd_eq→Wd,skAt→Wb,isSerial→Wn,isClass→Vw
open UInt8 renaming toNat→Yz,ofNat→Yx
open Nat renaming beq_refl→Yu,zero_le→Wz,beq→Wy,blt→Vu
open Go.Abs.Ex renaming exit→Yn
open Sum renaming inr→Xp,inl→Xn
open Kerb.Got renaming next→Wf,val→Wh,err→Vz
open Kerb.SKey renaming av→Wm
namespace Go.Proofs.YtiplnpablmohiaaGreat
open Go Go.Abs Go.Proofs
set_option linter.unusedVariables false
set_option linter.unusedSimpArgs false
set_option maxRecDepth 100000
theorem w12:Walked Tryz.prog G 12 1 sp12:=by
 refine ⟨Tryz.f12,Tryz.func12,by decide +kernel,rfl,fun xs bl r h=> ?_⟩
 unfold sp12 at h
 split at h
 ·rename_i n
  obtain ⟨hpre,h2⟩:=chk_inv h;cases h2
  refine Eq.trans (b:=(some (Zx .u64 (Zy .u64 (↑(BitVec.toNat (BitVec.ofInt (Zj .u64) 72057594037927936 ||| BitVec.ofInt (Zj .u64) (Zy .u64 (Zy .i64 (1+n))))):Int)),[]):Option (AV×Blocks))) (by kernel_rfl) ?_
  rfl
 ·cases h
theorem w13:Walked Tryz.prog G 13 1 sp13:=by
 refine ⟨Tryz.f13,Tryz.func13,by decide +kernel,rfl,fun xs bl r h=> ?_⟩
 unfold sp13 at h
 split at h
 ·rename_i b how
  obtain ⟨hpre,h2⟩:=chk_inv h;cases h2
  refine Eq.trans (b:=(let t0:Int:=Zn (Zy .i64 (Zy .u16 (Wq how 8))) (↑(Zz b):Int);chk (room (Zz b) 1) (sel ((↑(Zz b):Int)==0) (some (Zf b,[])) (chk (!(↑(Zz b):Int)==0) (sel (Zn how 4==0) (chk (decide (0≤t0)&&decide (t0<(↑(Zz b):Int))) (chk (Vu (Zw t0) (Zz b)&&true&&true&&true) (chk (decide (0≤Zy .u64 (Zn how 7))) (chk (decide (0≤t0)&&decide (t0<(↑(Zz b):Int))) (chk (Vu (Zw t0) (Zz b)&&true&&true&&true&&true) (some (Zf (List.set b (Zw t0) (Yx (Zw (Zy .u8 (↑(BitVec.toNat (BitVec.ofInt (Zj .u8) (↑(Yz (Yw b (Zw t0) (0:UInt8))):Int) ^^^ BitVec.ofInt (Zj .u8) (↑(Yz (Yx (Zw (Zy .u8 ((↑(Yz (1:UInt8)):Int)*2 ^ min (Zw (Zy .u64 (Zn how 7))) 8))))):Int))):Int))))),[]))))))) (sel (Zn how 4==1) (chk (decide (0≤t0)&&decide (t0≤(↑(Zz b):Int))&&Vu 0 (Zz b)&&true) (chk (decide (0≤Zy .i64 (t0+1))&&decide (Zy .i64 (t0+1)≤(↑(Zz b):Int))&&Vu 0 (Zz b)&&true) (chk (Vu 0 (Zz b)&&true&&true&&true&&room (Zw t0+(Zz b-Zw (Zy .i64 (t0+1)))) 1) (some (Zf (Ym (Zw t0) b++Xy (Zw (Zy .i64 (t0+1))) b),[]))))) (sel (Zn how 4==2) (chk (room (Zz b+Zz [Yx (Zw (Zy .u8 how))]) 1) (some (Zf (b++[Yx (Zw (Zy .u8 how))]),[]))) (some (Zf b,[]))))))):Option (AV×Blocks))) (by kernel_rfl) ?_
  try dsimp only [cStr,cBs,cBool,cU8,cInt,cSl,l63]
  simp only [Zg,decide_eq_true_eq] at hpre
  obtain ⟨⟨hb,h0⟩,h1⟩:=hpre
  rw [chk_of (Yy (by omega))]
  unfold Kerb.spoil
  by_cases hn:b=[]
  ·subst hn;rfl
  have hpos:0<b.length:=List.length_pos_iff.2 hn
  rw [if_neg hn,sel_neg (by simp;omega),chk_of (by simp;omega)]
  have e:Zn (Zy Zv (Zy IntKind.u16 (Wq how (8:Int)))) (b.length:Int)=Kerb.spoilAt b how:=rfl
  rw [e]
  obtain ⟨ha,hc⟩:=Kerb.spoilAt_bd h0 h1 hpos
  generalize Kerb.spoilAt b how=a at ha hc ⊢
  have hd:(decide ((0:Int)≤a)&&decide (a<(b.length:Int)))=true:=by simp;omega
  have hbl:Vu a.toNat b.length=true:=Nat.ble_eq_true_of_le (by omega)
  have hbl0:Vu 0 b.length=true:=Nat.ble_eq_true_of_le (by omega)
  have h7:decide ((0:Int)≤Zy Xw (Zn how (7:Int)))=true:=by rw [Kerb.wrap_u64];simp;omega
  by_cases c0:Zn how 4=0
  ·rw [if_pos c0,sel_pos (by simpa using c0),chk_of hd,chk_of (by rw [hbl];rfl),chk_of h7,chk_of hd,chk_of (by rw [hbl];rfl)]
  rw [if_neg c0,sel_neg (by simpa using c0)]
  by_cases c1:Zn how 4=1
  ·rw [if_pos c1,sel_pos (by simpa using c1),wrap_i64 (n:=a+1) (by omega) (by omega),chk_of (by rw [hbl0];simp;omega),chk_of (by rw [hbl0];simp;omega),chk_of (by rw [hbl0,Yy (by omega)];rfl)]
  rw [if_neg c1,sel_neg (by simpa using c1)]
  by_cases c2:Zn how 4=2
  ·rw [if_pos c2,sel_pos (by simpa using c2),chk_of (Yy (by simp;omega))]
  ·rw [if_neg c2,sel_neg (by simpa using c2)]
 ·cases h
theorem w22:Walked Tryz.prog G 22 1 sp22:=by
 refine ⟨Tryz.f22,Tryz.func22,by decide +kernel,rfl,fun xs bl r h=> ?_⟩
 unfold sp22 at h
 split at h
 ·rename_i n
  obtain ⟨hpre,h2⟩:=chk_inv h;cases h2
  refine Eq.trans (b:=(some (Zx .u64 (Zy .u64 (↑(BitVec.toNat (BitVec.ofInt (Zj .u64) 144115188075855872 ||| BitVec.ofInt (Zj .u64) (Zy .u64 (Zy .i64 (1+n))))):Int)),[]):Option (AV×Blocks))) (by kernel_rfl) ?_
  rfl
 ·cases h
theorem w65:Walked Tryz.prog G 65 1 sp65:=by
 refine ⟨Tryz.f65,Tryz.func65,by decide +kernel,rfl,fun xs bl r h=> ?_⟩
 unfold sp65 at h
 split at h
 ·rename_i n
  cases h
  refine Eq.trans (b:=(sel (decide (n≥0)) (some (Zu (decide (n≤4294967295)),[])) (some (Zu false,[])):Option (AV×Blocks))) (by kernel_rfl) ?_
  by_cases h:0≤n<;>simp [sel,Zb,h]
 ·cases h
theorem w82:Walked Tryz.prog G 82 1 sp82:=by
 refine ⟨Tryz.f82,Tryz.func82,by decide +kernel,rfl,fun xs bl r h=> ?_⟩
 unfold sp82 at h
 split at h
 ·rename_i n m
  cases h
  refine Eq.trans (b:=(sel (decide (n≥0)) (some (Zu (decide (n≤m)),[])) (some (Zu false,[])):Option (AV×Blocks))) (by kernel_rfl) ?_
  by_cases h:0≤n<;>simp [sel,Zb,h]
 ·cases h
theorem w84:Walked Tryz.prog G 84 1 sp84:=by
 refine ⟨Tryz.f84,Tryz.func84,by decide +kernel,rfl,fun xs bl r h=> ?_⟩
 unfold sp84 at h
 split at h
 ·rename_i k little
  cases h
  refine Eq.trans (b:=(sel (decide (k<1)) (some (Zf [],[])) (sel (decide (k>10)) (some (Zf [],[])) (sel little (some (Zf [(4:UInt8),Yx (Zw (Zy .u8 (Zy .i64 (Zy .i64 (2*k)+1))))],[])) (some (Zf [(4:UInt8),Yx (Zw (Zy .u8 (Zy .i64 (2*k))))],[])))):Option (AV×Blocks))) (by kernel_rfl) ?_
  by_cases h:1≤k∧k≤10
  ·have hk:k=1∨k=2∨k=3∨k=4∨k=5∨k=6∨k=7∨k=8∨k=9∨k=10:=by omega
   rcases hk with rfl | rfl | rfl | rfl | rfl | rfl | rfl | rfl | rfl | rfl<;>cases little<;>rfl
  ·have hk:Yg k=false:=by simp [Yg];omega
   by_cases h1:k<1
   ·simp [sel,Xh,hk,h1]
   ·have h2:10<k:=by omega
    simp [sel,Xh,hk,h1,h2]
 ·cases h
theorem w85:Walked Tryz.prog G 85 1 sp85:=by
 refine ⟨Tryz.f85,Tryz.func85,by decide +kernel,rfl,fun xs bl r h=> ?_⟩
 unfold sp85 at h
 split at h
 ·rename_i b s
  obtain ⟨hpre,h2⟩:=chk_inv h;cases h2
  refine Eq.trans (b:=(chk (room (Zz b) 1) (chk (room (Zz b+Zz s) 1) (chk (room (Zz (b++s)+Zz [(0:UInt8)]) 1) (some (Zf (b++s++[(0:UInt8)]),[])))):Option (AV×Blocks))) (by kernel_rfl) ?_
  simp only [decide_eq_true_eq] at hpre
  rw [chk_of (Yy (by omega)),chk_of (Yy (by omega)),chk_of (Yy (by simp;omega))]
  simp [Wv]
 ·cases h
theorem w89:Walked Tryz.prog G 89 1 sp89:=by
 refine ⟨Tryz.f89,Tryz.func89,by decide +kernel,rfl,fun xs bl r h=> ?_⟩
 unfold sp89 at h
 split at h
 ·rename_i a b
  cases h
  refine Eq.trans (b:=(some (Zu (a==b),[]):Option (AV×Blocks))) (by kernel_rfl) ?_
  rfl
 ·cases h
theorem w92:Walked Tryz.prog G 92 1 sp92:=by
 refine ⟨Tryz.f92,Tryz.func92,by decide +kernel,rfl,fun xs bl r h=> ?_⟩
 unfold sp92 at h
 split at h
 ·rename_i b
  cases h
  refine Eq.trans (b:=(let t0:Int:=Zy .i64 (↑(Yz (Yx (Zw (Zy .u8 (Wq (↑(Yz (Yw b (Zw 1) (0:UInt8))):Int) (↑(Yz (2:UInt8)):Int)))))):Int);let t1:Option (AV×Blocks):=some (Zd [Zx .i64 0,Zu false,Zx .i64 40],[]);sel (decide ((↑(Zz b):Int)<2)) (some (Zd [Zx .i64 0,Zu false,Zx .i64 101],[])) (chk (decide (0<(↑(Zz b):Int))) (sel (!Yw b (Zw 0) (0:UInt8)==(4:UInt8)) (some (Zd [Zx .i64 0,Zu false,Zx .i64 39],[])) (chk (decide (1<(↑(Zz b):Int))) (sel (decide (t0<1)) t1 (sel (decide (t0>10)) t1 (chk (decide (1<(↑(Zz b):Int))) (some (Zd [Zx .i64 t0,Zu (Yx (Zw (Zn (↑(Yz (Yw b (Zw 1) (0:UInt8))):Int) (↑(Yz (2:UInt8)):Int)))==(1:UInt8)),Zx .i64 0],[])))))))):Option (AV×Blocks))) (by kernel_rfl) ?_
  try dsimp only [cStr,cBs,cBool,cU8,cInt,cSl,l63]
  unfold Yb
  by_cases h1:b.length<2
  ·rw [sel_pos (by simp;omega)]
   simp [h1]
  rw [sel_neg (by simp;omega),chk_of (by simp;omega),if_neg h1]
  by_cases h2:b.getD 0 0=4
  ·have hb:=(b.getD 1 0).toNat_lt
   have e:Zy Zv ((Yx (Zw (Zy IntKind.u8 (Wq ((b.getD (Zw 1) 0).toNat:Int) ((2:UInt8).toNat:Int))))).toNat:Int)=(((b.getD 1 0).toNat / 2:Nat):Int):=by
    rw [show Zw 1=1 from rfl,show ((2:UInt8).toNat:Int)=2 from rfl,Wu (by omega),Kerb.wrap_u8]
    have e3:Zw (((b.getD 1 0).toNat:Int) / 2 % 256)=(b.getD 1 0).toNat / 2:=by omega
    rw [e3,UInt8.toNat_ofNat_of_lt' (by show _<256;omega),wrap_i64 (by omega) (by omega)]
   have e2:(Yx (Zw (Zn ((b.getD (Zw 1) 0).toNat:Int) ((2:UInt8).toNat:Int)))==1)=decide ((b.getD 1 0).toNat % 2=1):=by
    rw [show Zw 1=1 from rfl,Xz (by omega)]
    have e3:Zw (((b.getD 1 0).toNat:Int) % ((2:UInt8).toNat:Int))=(b.getD 1 0).toNat % 2:=by
     show Zw (((b.getD 1 0).toNat:Int) % 2)=_
     omega
    rw [e3]
    rcases Nat.mod_two_eq_zero_or_one (b.getD 1 0).toNat with h | h<;>rw [h]<;>rfl
   rw [sel_neg (by simp [h2] at *;exact h2),chk_of (by simp;omega),if_neg (by simpa using h2),e,e2]
   generalize (b.getD 1 0).toNat / 2=m
   unfold Yg
   by_cases h3:1≤m
   case neg =>
    rw [sel_pos (by simp;omega),if_neg (by simp;omega)]
   by_cases h4:m≤10
   case neg =>
    rw [sel_neg (by simp;omega),sel_pos (by simp;omega),if_neg (by simp;omega)]
   rw [sel_neg (by simp;omega),sel_neg (by simp;omega),chk_of (by simp;omega),if_pos (by simp;omega)]
  ·rw [sel_pos (by simpa using h2),if_pos (by simpa using h2)]
 ·cases h
theorem w98:Walked Tryz.prog G 98 1 sp98:=by
 refine ⟨Tryz.f98,Tryz.func98,by decide +kernel,rfl,fun xs bl r h=> ?_⟩
 unfold sp98 at h
 split at h
 ·rename_i ali b1 b2 b3 aad ak alf ais asv ain rl
  cases h
  refine Eq.trans (b:=(some (Wg [Zk asv,Zk ain,Zk rl],[]):Option (AV×Blocks))) (by kernel_rfl) ?_
  rfl
 ·cases h
theorem w102:Walked Tryz.prog G 102 1 sp102:=by
 refine ⟨Tryz.f102,Tryz.func102,by decide +kernel,rfl,fun xs bl r h=> ?_⟩
 unfold sp102 at h
 split at h
 ·rename_i n l m
  cases h
  refine Eq.trans (b:=(sel (decide (n≥l)) (some (Zu (decide (n≤m)),[])) (some (Zu false,[])):Option (AV×Blocks))) (by kernel_rfl) ?_
  by_cases h:l≤n
  ·rw [sel_pos (by simpa using h)];simp [h]
  ·rw [sel_neg (by simpa using h)];simp [h]
 ·cases h
theorem w109:Walked Tryz.prog G 109 1 sp109:=by
 refine ⟨Tryz.f109,Tryz.func109,by decide +kernel,rfl,fun xs bl r h=> ?_⟩
 unfold sp109 at h
 split at h
 ·rename_i n m
  cases h
  refine Eq.trans (b:=(sel (decide (n≥0)) (some (Zu (decide (n≤m)),[])) (some (Zu false,[])):Option (AV×Blocks))) (by kernel_rfl) ?_
  by_cases h:0≤n<;>simp [sel,Zb,h]
 ·cases h
theorem w113:Walked Tryz.prog G 113 1 sp113:=by
 refine ⟨Tryz.f113,Tryz.func113,by decide +kernel,rfl,fun xs bl r h=> ?_⟩
 unfold sp113 at h
 split at h
 ·rename_i k
  cases h
  refine Eq.trans (b:=(sel (decide (k≥1)) (some (Zu (decide (k≤10)),[])) (some (Zu false,[])):Option (AV×Blocks))) (by kernel_rfl) ?_
  by_cases h:1≤k<;>simp [sel,Yg,h]
 ·cases h
theorem w115:Walked Tryz.prog G 115 1 sp115:=by
 refine ⟨Tryz.f115,Tryz.func115,by decide +kernel,rfl,fun xs bl r h=> ?_⟩
 unfold sp115 at h
 split at h
 ·rename_i k
  obtain ⟨hpre,h2⟩:=chk_inv h;cases h2
  refine Eq.trans (b:=(Zq (loopM (fun (st:List AV)=>cInt .u64 st fun n r=>onCons r fun x r=>Yh x fun b=>cInt .i64 r fun n_1 r=>cInt .i64 r fun n_2 r=>let t0:Int:=Zy .i64 (8*Zy .i64 (7-n_2));onNil r (sel (decide (n_2<n_1)) (chk (decide (0≤t0)) (chk (decide (0≤n_2)&&decide (n_2<(↑(Zz b):Int))) (chk (Vu (Zw n_2) (Zz b)&&true&&true&&true&&true) (some (Xn [Zx .u64 n,Zm (List.set b (Zw n_2) (Yx (Zw (Zy .u8 (Wj n (2 ^ min (Zw t0) (Zj .u64))))))),Zx .i64 n_1,Zx .i64 (Zy .i64 (n_2+1))]))))) (some (Xp (Yn 0,[Zx .u64 n,Zm b,Zx .i64 n_1,Zx .i64 n_2]))))) [Zx .u64 k,Zm (Xg (Zw 8) (0:UInt8)),Zx .i64 (↑(Zz (Xg (Zw 8) (0:UInt8))):Int),Zx .i64 0]) fun (r:Ex×List AV)=>cInt .u64 (Zp r) fun n r_1=>onCons r_1 fun x r_2=>Yh x fun b=>cInt .i64 r_2 fun n r_3=>cInt .i64 r_3 fun n r_4=>onNil r_4 (exK r.1 none fun (j:Nat)=>sel (Wy j 0) (some (Zf b,[])) none):Option (AV×Blocks))) (by kernel_rfl) ?_
  try dsimp only [cStr,cBs,cBool,cU8,cInt,cSl,l63]
  refine loop_unroll 9 (Yn 0,[Zx Xw k,Zm [Yp k 56,Yp k 48,Yp k 40,Yp k 32,Yp k 24,Yp k 16,Yp k 8,Yp k 0],Zx Zv 8,Zx Zv 8]) (by kernel_rfl) ?_
  simp only [A0]
  rw [sel_pos (Yu _)]
  simp [Wd,Kerb.keyBytes,Wp,Xm]
 ·cases h
theorem w121:Walked Tryz.prog G 121 1 sp121:=by
 refine ⟨Tryz.f121,Tryz.func121,by decide +kernel,rfl,fun xs bl r h=> ?_⟩
 unfold sp121 at h
 split at h
 ·rename_i b
  obtain ⟨hpre,h2⟩:=chk_inv h;cases h2
  refine Eq.trans (b:=(chk (room (Zz b) 1) (Zq (loopM (fun (st:List AV)=>onCons st fun x r=>Yh x fun b=>onNil r (sel (!Zn (↑(Zz b):Int) 8==0) (chk (room (Zz b+Zz [(0:UInt8)]) 1) (some (Xn [Zm (b++[(0:UInt8)])]))) (some (Xp (Yn 0,[Zm b]))))) [Zm b]) fun (r:Ex×List AV)=>onCons (Zp r) fun x r_1=>Yh x fun b=>onNil r_1 (exK r.1 none fun (j:Nat)=>sel (Wy j 0) (some (Zm b,[])) none)):Option (AV×Blocks))) (by kernel_rfl) ?_
  have hb:=of_decide_eq_true hpre
  rw [chk_of (Yy (by omega))]
  refine loop_rounds (fun i:Nat=>[Zm (b++Xg i 0)]) (fun i=>i≤(8-b.length % 8) % 8) (fun i=>(8-b.length % 8) % 8-i)
   (fun r=>r=(Yn 0,[Zm (Kerb.pad b)])) 0 (by omega) (by simp) ?_ ?_
  ·intro i hi
   simp only [A0]
   have e:Zn ((b++Xg i 0).length:Int) 8=(((b.length+i) % 8:Nat):Int):=by
    rw [Xz (by omega)]
    simp
   rw [e]
   by_cases hlt:i<(8-b.length % 8) % 8
   ·rw [sel_pos (by simp;omega),chk_of (Yy (by simp;omega))]
    refine ⟨_,rfl,i+1,?_,by omega,by dsimp only;omega⟩
    dsimp only
    rw [List.replicate_succ',List.append_assoc]
   ·rw [sel_neg (by simp;omega)]
    refine ⟨_,rfl,?_⟩
    show _=_
    rw [Kerb.pad,show i=(8-b.length % 8) % 8 from by omega]
  rintro r rfl
  simp only [A0]
  rw [sel_pos (Yu _)]
 ·cases h
theorem w123:Walked Tryz.prog G 123 1 sp123:=by
 refine ⟨Tryz.f123,Tryz.func123,by decide +kernel,rfl,fun xs bl r h=> ?_⟩
 unfold sp123 at h
 split at h
 ·rename_i k
  obtain ⟨hpre,h2⟩:=chk_inv h;cases h2
  refine Eq.trans (b:=(Zq (loopM (fun (st:List AV)=>cInt .u64 st fun n r=>onCons r fun x r=>Yh x fun b=>cInt .i64 r fun n_1 r=>let t0:List UInt8:=[Yx (Zw (Zy .u8 (Wj n (2 ^ min (Zw (Zy .u64 (Zy .i64 (8*n_1)))) (Zj .u64)))))];onNil r (sel (decide (n_1≥0)) (chk (decide (0≤Zy .u64 (Zy .i64 (8*n_1)))) (chk (room (Zz b+Zz t0) 1) (some (Xn [Zx .u64 n,Zm (b++t0),Zx .i64 (Zy .i64 (n_1-1))])))) (some (Xp (Yn 0,[Zx .u64 n,Zm b,Zx .i64 n_1]))))) [Zx .u64 k,Zm [],Zx .i64 7]) fun (r:Ex×List AV)=>cInt .u64 (Zp r) fun n r_1=>onCons r_1 fun x r_2=>Yh x fun b=>cInt .i64 r_2 fun n r_3=>onNil r_3 (exK r.1 none fun (j:Nat)=>sel (Wy j 0) (some (Zf b,[])) none):Option (AV×Blocks))) (by kernel_rfl) ?_
  try dsimp only [cStr,cBs,cBool,cU8,cInt,cSl,l63]
  refine loop_unroll 9 (Yn 0,[Zx Xw k,Zm [Yp k 56,Yp k 48,Yp k 40,Yp k 32,Yp k 24,Yp k 16,Yp k 8,Yp k 0],Zx Zv (-1)]) (by kernel_rfl) ?_
  simp only [A0]
  rw [sel_pos (Yu _)]
  simp [Wd,Kerb.keyBytes,Wp,Xm]
 ·cases h
theorem w125:Walked Tryz.prog G 125 1 sp125:=by
 refine ⟨Tryz.f125,Tryz.func125,by decide +kernel,rfl,fun xs bl r h=> ?_⟩
 unfold sp125 at h
 split at h
 ·cases h
  refine Eq.trans (b:=(some (Xx 1 [Zk [(65:UInt8),(84:UInt8),(72:UInt8)],Zk [(66:UInt8),(79:UInt8),(83:UInt8)],Zk [(67:UInt8),(65:UInt8),(77:UInt8)]],[]):Option (AV×Blocks))) (by kernel_rfl) ?_
  rfl
 ·cases h
theorem w130:Walked Tryz.prog G 130 1 sp130:=by
 refine ⟨Tryz.f130,Tryz.func130,by decide +kernel,rfl,fun xs bl r h=> ?_⟩
 unfold sp130 at h
 split at h
 ·rename_i x y z v k
  cases h
  refine Eq.trans (b:=(some (Wg [Zk x,Zk y,Zk z,Zx .i64 v],[]):Option (AV×Blocks))) (by kernel_rfl) ?_
  rfl
 ·cases h
theorem w131:Walked Tryz.prog G 131 1 sp131:=by
 refine ⟨Tryz.f131,Tryz.func131,by decide +kernel,rfl,fun xs bl r h=> ?_⟩
 unfold sp131 at h
 split at h
 ·rename_i mls a1 a2 a3 at_ atk
  obtain ⟨hpre,h2⟩:=chk_inv h;cases h2
  refine Eq.trans (b:=(Zq (loopM (fun (st:List AV)=>cStr st fun b r=>cStr r fun b_1 r=>cStr r fun b_2 r=>cInt .i64 r fun n r=>cInt .i64 r fun n_1 r=>cBool r fun b_3 r=>cSl 5 r fun b_4 r=>cInt .i64 r fun n_2 r=>cInt .i64 r fun n_3 r=>onNil r (sel (decide (n_3<n_2)) (chk (decide (0≤n_3)&&decide (n_3<(↑(Zz b_4):Int))&&true) (AV.onAgg (Yw b_4 (Zw n_3) Vx) fun cs=>cStr cs fun b_5 r=>cStr r fun b_6 r=>cStr r fun b_7 r=>cInt .i64 r fun n_4 r=>cInt .i64 r fun n_5 r=>onNil r (sel (b_5==b&&(b_6==b_1&&(b_7==b_2&&(n_4==n&&n_5==n_1)))) (some (Xp (Ex.ret,[Zk b,Zk b_1,Zk b_2,Zx .i64 n,Zx .i64 n_1,Zu true,Xx 5 b_4,Zx .i64 n_2,Zx .i64 n_3]))) (some (Xn [Zk b,Zk b_1,Zk b_2,Zx .i64 n,Zx .i64 n_1,Zu b_3,Xx 5 b_4,Zx .i64 n_2,Zx .i64 (Zy .i64 (n_3+1))]))))) (some (Xp (Yn 0,[Zk b,Zk b_1,Zk b_2,Zx .i64 n,Zx .i64 n_1,Zu b_3,Xx 5 b_4,Zx .i64 n_2,Zx .i64 n_3]))))) [Zk a1,Zk a2,Zk a3,Zx .i64 at_,Zx .i64 atk,Zu false,Xx 5 mls,Zx .i64 (↑(Zz mls):Int),Zx .i64 0]) fun (r:Ex×List AV)=>cStr (Zp r) fun b r_1=>cStr r_1 fun b r_2=>cStr r_2 fun b r_3=>cInt .i64 r_3 fun n r_4=>cInt .i64 r_4 fun n r_5=>cBool r_5 fun b r_6=>cSl 5 r_6 fun b_1 r_7=>cInt .i64 r_7 fun n r_8=>cInt .i64 r_8 fun n r_9=>onNil r_9 (exK r.1 (some (Zu b,[])) fun (j:Nat)=>sel (Wy j 0) (some (Zu false,[])) none):Option (AV×Blocks))) (by kernel_rfl) ?_
  try dsimp only [cStr,cBs,cBool,cU8,cInt,cSl,l63]
  simp only [Zg,decide_eq_true_eq] at hpre
  obtain ⟨hall,hlen⟩:=hpre
  obtain ⟨cs,rfl,hok⟩:=Kerb.marks_of hall
  rw [Kerb.map_toMark]
  simp only [Vy] at hlen ⊢
  refine loop_rounds (fun i:Nat=>[Zk a1,Zk a2,Zk a3,Zx Zv at_,Zx Zv atk,Zu false,Xx 5 (cs.map Kerb.Mark.av),Zx Zv (cs.length:Int),Zx Zv (i:Int)]) (fun i=>i≤cs.length∧Kerb.hasMark cs ⟨⟨a1,a2,a3⟩,at_,atk⟩=Kerb.hasMark (cs.drop i) ⟨⟨a1,a2,a3⟩,at_,atk⟩) (fun i=>cs.length-i)
   (fun r=>∃ (i:Nat) (q:Bool),r.2=[Zk a1,Zk a2,Zk a3,Zx Zv at_,Zx Zv atk,Zu q,Xx 5 (cs.map Kerb.Mark.av),Zx Zv (cs.length:Int),Zx Zv (i:Int)]∧((r.1 = .ret∧q=true∧Kerb.hasMark cs ⟨⟨a1,a2,a3⟩,at_,atk⟩=true)∨(r.1 = .exit 0∧Kerb.hasMark cs ⟨⟨a1,a2,a3⟩,at_,atk⟩=false))) 0 ⟨Wz _,by simp⟩ rfl ?_ ?_
  ·rintro i ⟨hi,hp⟩
   simp only [↓A0,A0,Vy]
   by_cases hlt:i<cs.length
   ·rw [sel_pos (by simp;omega),chk_of (by simp;omega),Yf,Kerb.getD_row (d:=Kerb.noMark) hlt]
    obtain ⟨c,hc⟩:∃ c,cs.getD i Kerb.noMark=c:=⟨_,rfl⟩
    have hd:=Kerb.hasMark_step (m:=⟨⟨a1,a2,a3⟩,at_,atk⟩) hlt hc
    rw [hc]
    simp only [Kerb.Mark.av,↓A0,A0]
    rw [wrap_i64 (by omega) (by omega)]
    show ∃ y,sel (Kerb.Mark.eqb c ⟨⟨a1,a2,a3⟩,at_,atk⟩) _ _=some y∧_
    cases he:Kerb.Mark.eqb c ⟨⟨a1,a2,a3⟩,at_,atk⟩
    ·rw [he,Bool.false_or] at hd
     exact ⟨_,rfl,i+1,rfl,⟨by omega,hp.trans hd⟩,by dsimp only;omega⟩
    ·rw [he,Bool.true_or] at hd
     exact ⟨_,rfl,i,_,rfl,.inl ⟨rfl,rfl,hp.trans hd⟩⟩
   ·rw [sel_neg (by simp;omega)]
    refine ⟨_,rfl,i,_,rfl,.inr ⟨rfl,?_⟩⟩
    rw [hp,Xd (by omega)]
    rfl
  ·rintro ⟨e,l⟩ ⟨i,q,rfl,⟨rfl,rfl,h⟩ | ⟨rfl,h⟩⟩
   ·simp only [↓A0,A0,h]
   ·simp only [↓A0,A0,h]
    rw [sel_pos (Yu _)]
 ·cases h
theorem w133:Walked Tryz.prog G 133 1 sp133:=by
 refine ⟨Tryz.f133,Tryz.func133,by decide +kernel,rfl,fun xs bl r h=> ?_⟩
 unfold sp133 at h
 split at h
 ·rename_i nx e B at_ li bad
  cases h
  show runFnH (G.env 133 1) G.rts (G.own 133) Tryz.f133 _ _ [0]=_
  refine Eq.trans (b:=(sel bad (some (Zd [],[[Zf B,Zx .i64 at_,Zu li,Zu true]])) (sel (!e==0) (some (Zd [],[[Zf B,Zx .i64 at_,Zu li,Zu true]])) (some (Zd [],[[Zf B,Zx .i64 nx,Zu li,Zu bad]]))):Option (AV×Blocks))) (by kernel_rfl) ?_
  cases bad
  ·cases (e==0)<;>rfl
  ·rfl
 ·cases h
theorem w134:Walked Tryz.prog G 134 1 sp134:=by
 refine ⟨Tryz.f134,Tryz.func134,by decide +kernel,rfl,fun xs bl r h=> ?_⟩
 unfold sp134 at h
 split at h
 ·rename_i b pos n
  obtain ⟨hpre,h2⟩:=chk_inv h;cases h2
  refine Eq.trans (b:=(sel (decide (pos<0)) (some (Zd [Zf [],Zx .i64 0,Zx .i64 104],[])) (sel (decide (pos>(↑(Zz b):Int))) (some (Zd [Zf [],Zx .i64 0,Zx .i64 104],[])) (sel (decide (n<0)) (some (Zd [Zf [],Zx .i64 0,Zx .i64 104],[])) (sel (decide (n>Zy .i64 ((↑(Zz b):Int)-pos))) (some (Zd [Zf [],Zx .i64 0,Zx .i64 101],[])) (chk (decide (0≤pos)&&decide (pos≤Zy .i64 (pos+n))&&decide (Zy .i64 (pos+n)≤(↑(Zz b):Int))) (chk (room (Zz (Xy (Zw pos) (Ym (Zw (Zy .i64 (pos+n))) b))) 1) (some (Zd [Zf (Xy (Zw pos) (Ym (Zw (Zy .i64 (pos+n))) b)),Zx .i64 (Zy .i64 (pos+n)),Zx .i64 0],[]))))))):Option (AV×Blocks))) (by kernel_rfl) ?_
  have hb:=of_decide_eq_true hpre
  unfold Wk
  by_cases h1:pos<0
  ·have e:Xu b pos n=104:=by unfold Xu;rw [if_pos (by omega)]
   rw [sel_pos (by simpa using h1),e]
   rfl
  rw [sel_neg (by simpa using h1)]
  by_cases h2:(b.length:Int)<pos
  ·have e:Xu b pos n=104:=by unfold Xu;rw [if_pos (by omega)]
   rw [sel_pos (by simpa using h2),e]
   rfl
  rw [sel_neg (by simpa using h2)]
  by_cases h3:n<0
  ·have e:Xu b pos n=104:=by unfold Xu;rw [if_pos (by omega)]
   rw [sel_pos (by simpa using h3),e]
   rfl
  rw [sel_neg (by simpa using h3),wrap_i64 (n:=(b.length:Int)-pos) (by omega) (by omega)]
  by_cases h4:(b.length:Int)-pos<n
  ·have e:Xu b pos n=101:=by unfold Xu;rw [if_neg (by omega),if_pos h4]
   rw [sel_pos (by simpa using h4),e]
   rfl
  have hr:Xu b pos n=0:=Kerb.room_zero.2 (by omega)
  have e:Xy (Zw pos) (Ym (Zw (pos+n)) b)=Kerb.cut b pos n:=by
   rw [show Zw (pos+n)=pos.toNat+n.toNat by omega,List.drop_take,show pos.toNat+n.toNat-pos.toNat=n.toNat by omega]
   rfl
  have hc:=Kerb.cut_length hr
  rw [sel_neg (by simpa using h4),if_pos hr,wrap_i64 (by omega) (by omega),e,chk_of (by simp;omega),chk_of (Yy (by omega))]
 ·cases h
theorem w140:Walked Tryz.prog G 140 1 sp140:=by
 refine ⟨Tryz.f140,Tryz.func140,by decide +kernel,rfl,fun xs bl r h=> ?_⟩
 unfold sp140 at h
 split at h
 ·rename_i s bad
  obtain ⟨hpre,h2⟩:=chk_inv h;cases h2
  refine Eq.trans (b:=(Zq (loopM (fun (st:List AV)=>cStr st fun b r=>cStr r fun b_1 r=>cBool r fun b_2 r=>cInt .i64 r fun n r=>let t0:Int:=(↑(Yz (Yw b (Zw n) (0:UInt8))):Int);let t1:Option (List AV ⊕ Ex×List AV):=some (Xp (Ex.ret,[Zk b,Zk b_1,Zu false,Zx .i64 n]));onNil r (sel (decide (n<(↑(Zz b):Int))) (chk (decide (0≤n)&&decide (n<(↑(Zz b):Int))) (sel (decide (t0<(↑(Yz (33:UInt8)):Int))) t1 (chk (decide (0≤n)&&decide (n<(↑(Zz b):Int))) (sel (decide (t0>(↑(Yz (126:UInt8)):Int))) t1 (Zq (loopM (fun (st:List AV)=>cStr st fun b r=>cStr r fun b_3 r=>cBool r fun b_4 r=>cInt .i64 r fun n r=>cInt .i64 r fun n_1 r=>onNil r (sel (decide (n_1<(↑(Zz b_3):Int))) (chk (decide (0≤n)&&decide (n<(↑(Zz b):Int))) (chk (decide (0≤n_1)&&decide (n_1<(↑(Zz b_3):Int))) (sel (Yw b (Zw n) (0:UInt8)==Yw b_3 (Zw n_1) (0:UInt8)) (some (Xp (Ex.ret,[Zk b,Zk b_3,Zu false,Zx .i64 n,Zx .i64 n_1]))) (some (Xn [Zk b,Zk b_3,Zu b_4,Zx .i64 n,Zx .i64 (Zy .i64 (n_1+1))]))))) (some (Xp (Yn 2,[Zk b,Zk b_3,Zu b_4,Zx .i64 n,Zx .i64 n_1]))))) [Zk b,Zk b_1,Zu b_2,Zx .i64 n,Zx .i64 0]) fun (r:Ex×List AV)=>cStr (Zp r) fun b r_1=>cStr r_1 fun b_3 r_2=>cBool r_2 fun b_4 r_3=>cInt .i64 r_3 fun n r_4=>cInt .i64 r_4 fun n_1 r_5=>onNil r_5 (exK r.1 (some (Xp (Ex.ret,[Zk b,Zk b_3,Zu b_4,Zx .i64 n]))) fun (j:Nat)=>sel (Wy j 2) (some (Xn [Zk b,Zk b_3,Zu b_4,Zx .i64 (Zy .i64 (n+1))])) none)))))) (some (Xp (Yn 0,[Zk b,Zk b_1,Zu b_2,Zx .i64 n]))))) [Zk s,Zk bad,Zu false,Zx .i64 0]) fun (r:Ex×List AV)=>cStr (Zp r) fun b r_1=>cStr r_1 fun b_1 r_2=>cBool r_2 fun b_2 r_3=>cInt .i64 r_3 fun n r_4=>onNil r_4 (exK r.1 (some (Zu b_2,[])) fun (j:Nat)=>sel (Wy j 0) (some (Zu (decide ((↑(Zz b):Int)≤39)),[])) none):Option (AV×Blocks))) (by kernel_rfl) ?_
  try dsimp only [cStr,cBs,cBool,cU8,cInt,cSl,l63]
  simp only [Zg,decide_eq_true_eq] at hpre
  refine loop_rounds (fun i:Nat=>[Zk s,Zk bad,Zu false,Zx Zv (i:Int)]) (fun i=>i≤s.length∧Xb s bad=Xb (s.drop i) bad) (fun i=>s.length-i)
   (fun r=>∃ i:Nat,r.2=[Zk s,Zk bad,Zu false,Zx Zv (i:Int)]∧((r.1 = .ret∧Xb s bad=false)∨(r.1 = .exit 0∧Xb s bad=true))) 0 ⟨Wz _,rfl⟩ rfl ?_ ?_
  ·rintro i ⟨hi,hp⟩
   simp only [A0]
   by_cases hlt:i<s.length
   ·have hc:(decide ((0:Int)≤(i:Int))&&decide ((i:Int)<(s.length:Int)))=true:=by simp;omega
    have hd:=Kerb.drop_all_cons hlt
    rw [sel_pos (by simp;omega),chk_of hc,Yf]
    have hpr:Xb (s.drop i) bad=(Kerb.okB bad (s.getD i 0)&&Xb (s.drop (i+1)) bad):=by rw [hd];rfl
    generalize hcc:s.getD i 0=c at *
    by_cases h1:c.toNat<33
    ·rw [sel_pos (by simp;omega)]
     exact ⟨_,rfl,i,rfl,.inl ⟨rfl,by rw [hp,hpr];simp [Kerb.okB,h1]⟩⟩
    rw [sel_neg (by simp;omega),chk_of hc]
    by_cases h2:126<c.toNat
    ·rw [sel_pos (by simp;omega)]
     exact ⟨_,rfl,i,rfl,.inl ⟨rfl,by rw [hp,hpr];simp [Kerb.okB,h2]⟩⟩
    rw [sel_neg (by simp;omega)]
    refine loop_ex (fun j:Nat=>[Zk s,Zk bad,Zu false,Zx Zv (i:Int),Zx Zv (j:Int)]) (fun j=>j≤bad.length∧(c∈bad↔c∈bad.drop j)) (fun j=>bad.length-j)
     (fun r=>∃ j:Nat,r.2=[Zk s,Zk bad,Zu false,Zx Zv (i:Int),Zx Zv (j:Int)]∧((r.1 = .ret∧c∈bad)∨(r.1 = .exit 2∧c ∉ bad))) 0 ⟨Wz _,by simp⟩ rfl ?_ ?_
    ·rintro j ⟨hj,hm⟩
     simp only [A0]
     by_cases hjl:j<bad.length
     ·have hdj:=Kerb.drop_all_cons hjl
      rw [sel_pos (by simp;omega),chk_of hc,chk_of (by simp;omega),Yf,Yf,hcc]
      rw [hdj,List.mem_cons] at hm
      by_cases h3:c=bad.getD j 0
      ·rw [sel_pos (by simpa using h3)]
       exact ⟨_,rfl,j,rfl,.inl ⟨rfl,hm.2 (.inl h3)⟩⟩
      ·rw [sel_neg (by simpa using h3),wrap_i64 (by omega) (by omega)]
       exact ⟨_,rfl,j+1,rfl,⟨by omega,hm.trans ⟨fun h=>h.resolve_left h3,.inr⟩⟩,by dsimp only;omega⟩
     ·rw [sel_neg (by simp;omega)]
      refine ⟨_,rfl,j,rfl,.inr ⟨rfl,?_⟩⟩
      rw [hm,Xd (by omega)];simp
    ·rintro ⟨e,l⟩ ⟨j,rfl,⟨rfl,h3⟩ | ⟨rfl,h3⟩⟩
     ·simp only [A0]
      exact ⟨_,rfl,i,rfl,.inl ⟨rfl,by rw [hp,hpr];simp [Kerb.okB,h3]⟩⟩
     ·simp only [A0]
      rw [sel_pos (Yu _),wrap_i64 (by omega) (by omega)]
      exact ⟨_,rfl,i+1,rfl,⟨by omega,by rw [hp,hpr];simp [Kerb.okB,h1,h2,h3]⟩,by dsimp only;omega⟩
   ·rw [sel_neg (by simp;omega)]
    exact ⟨_,rfl,i,rfl,.inr ⟨rfl,by rw [hp,Xd (by omega)];rfl⟩⟩
  ·rintro ⟨e,l⟩ ⟨i,rfl,⟨rfl,hp⟩ | ⟨rfl,hp⟩⟩
   ·simp only [A0,hp]
    rfl
   ·simp only [A0,hp]
    rw [sel_pos (Yu _),decide_eq_decide.2 (show ((s.length:Int)≤39)↔s.length≤39 from by omega)]
    rfl
 ·cases h
theorem w141:Walked Tryz.prog G 141 1 sp141:=by
 refine ⟨Tryz.f141,Tryz.func141,by decide +kernel,rfl,fun xs bl r h=> ?_⟩
 unfold sp141 at h
 split at h
 ·rename_i b n k little
  obtain ⟨hpre,h2⟩:=chk_inv h;cases h2
  refine Eq.trans (b:=(chk (room (Zz b) 1) (Zq (loopM (fun (st:List AV)=>cInt .i64 st fun n r=>cInt .i64 r fun n_1 r=>cBool r fun b r=>onCons r fun x r=>Yh x fun b_1=>cInt .i64 r fun n_2 r=>let t1:Int:=Zy .u64 (Zy .i64 (8*Zy .i64 (Zy .i64 (n_1-1)-n_2)));let t2:List UInt8:=[Yx (Zw (Zy .u8 (Wj (Zy .u64 n) (2 ^ min (Zw (Zy .u64 (Zy .i64 (8*n_2)))) (Zj .u64)))))];let t0:List UInt8:=[Yx (Zw (Zy .u8 (Wj (Zy .u64 n) (2 ^ min (Zw t1) (Zj .u64)))))];onNil r (sel (decide (n_2<n_1)) (sel b (chk (decide (0≤Zy .u64 (Zy .i64 (8*n_2)))) (chk (room (Zz b_1+Zz t2) 1) (some (Xn [Zx .i64 n,Zx .i64 n_1,Zu b,Zm (b_1++t2),Zx .i64 (Zy .i64 (n_2+1))])))) (chk (decide (0≤t1)) (chk (room (Zz b_1+Zz t0) 1) (some (Xn [Zx .i64 n,Zx .i64 n_1,Zu b,Zm (b_1++t0),Zx .i64 (Zy .i64 (n_2+1))]))))) (some (Xp (Yn 0,[Zx .i64 n,Zx .i64 n_1,Zu b,Zm b_1,Zx .i64 n_2]))))) [Zx .i64 n,Zx .i64 k,Zu little,Zm b,Zx .i64 0]) fun (r:Ex×List AV)=>cInt .i64 (Zp r) fun n r_1=>cInt .i64 r_1 fun n r_2=>cBool r_2 fun b r_3=>onCons r_3 fun x r_4=>Yh x fun b=>cInt .i64 r_4 fun n r_5=>onNil r_5 (exK r.1 none fun (j:Nat)=>sel (Wy j 0) (some (Zm b,[])) none)):Option (AV×Blocks))) (by kernel_rfl) ?_
  try dsimp only [cStr,cBs,cBool,cU8,cInt,cSl,l63]
  simp only [Zg,decide_eq_true_eq] at hpre
  obtain ⟨hk,hb⟩:=hpre
  have hk4:k.toNat≤4∧0≤k:=by omega
  rw [chk_of (Yy (by omega))]
  refine loop_rounds (fun i:Nat=>[Zx Zv n,Zx Zv k,Zu little,Zm (b++(Yk n k.toNat little).take i),Zx Zv (i:Int)]) (fun i=>i≤k.toNat) (fun i=>k.toNat-i)
   (fun r=>r=(Yn 0,[Zx Zv n,Zx Zv k,Zu little,Zm (b++Yk n k.toNat little),Zx Zv k])) 0 (Wz _) (by simp) ?_ ?_
  ·intro i hi
   simp only [A0]
   by_cases hlt:i<k.toNat
   ·have hs:=Kerb.take_succ_getD (l:=Yk n k.toNat little) (i:=i) (by rw [Yq];omega)
    have hg:=Kerb.putN_getD n k.toNat little hlt
    have hl:((Yk n k.toNat little).take i).length=i:=by simp [Yq];omega
    rw [sel_pos (by simp;omega)]
    have hw:∀ j:Nat,j<4→Zy Xw (Zy Zv (8*(j:Int)))=((8*j:Nat):Int):=fun j hj=>by
     rw [wrap_i64 (by omega) (by omega),Kerb.wrap_u64];omega
    have hm:∀ j:Nat,j<4→min (Zw ((8*j:Nat):Int)) (Zj Xw)=8*j:=fun j hj=>by
     have:Zj Xw=64:=rfl
     rw [this];omega
    cases little
    ·have e:Zy Zv (Zy Zv (k-1)-(i:Int))=((k.toNat-1-i:Nat):Int):=by
      rw [wrap_i64 (n:=k-1) (by omega) (by omega),wrap_i64 (by omega) (by omega)];omega
     rw [sel_neg rfl,e,hw _ (by omega),hm _ (by omega),Kerb.ubyte n (by omega),chk_of (by simp;omega),chk_of (Yy (by simp [hl];omega)),wrap_i64 (by omega) (by omega)]
     refine ⟨_,rfl,i+1,?_,by omega,by dsimp only;omega⟩
     dsimp only
     rw [hs,hg,← List.append_assoc]
     rfl
    ·rw [sel_pos rfl,hw _ (by omega),hm _ (by omega),Kerb.ubyte n (by omega),chk_of (by simp;omega),chk_of (Yy (by simp [hl];omega)),wrap_i64 (by omega) (by omega)]
     refine ⟨_,rfl,i+1,?_,by omega,by dsimp only;omega⟩
     dsimp only
     rw [hs,hg,← List.append_assoc]
     rfl
   ·rw [sel_neg (by simp;omega)]
    refine ⟨_,rfl,?_⟩
    show _=_
    rw [Xq (by rw [Yq];omega),show (i:Int)=k from by omega]
  ·rintro r rfl
   simp only [A0]
   rw [sel_pos (Yu _)]
 ·cases h
theorem w143:Walked Tryz.prog G 143 1 sp143:=by
 refine ⟨Tryz.f143,Tryz.func143,by decide +kernel,rfl,fun xs bl r h=> ?_⟩
 unfold sp143 at h
 split at h
 ·rename_i k els
  obtain ⟨hpre,h2⟩:=chk_inv h;cases h2
  refine Eq.trans (b:=(Zq (loopM (fun (st:List AV)=>cInt .i64 st fun n r=>cBool r fun b r=>cSl 1 r fun b_1 r=>cInt .i64 r fun n_1 r=>cInt .i64 r fun n_2 r=>onNil r (sel (decide (n_2<n_1)) (chk (decide (0≤n_2)&&decide (n_2<(↑(Zz b_1):Int))&&true) (Yj .i64 (Yw b_1 (Zw n_2) Vx) fun n_3=>sel (n_3==n) (some (Xp (Ex.ret,[Zx .i64 n,Zu true,Xx 1 b_1,Zx .i64 n_1,Zx .i64 n_2]))) (some (Xn [Zx .i64 n,Zu b,Xx 1 b_1,Zx .i64 n_1,Zx .i64 (Zy .i64 (n_2+1))])))) (some (Xp (Yn 0,[Zx .i64 n,Zu b,Xx 1 b_1,Zx .i64 n_1,Zx .i64 n_2]))))) [Zx .i64 k,Zu false,Xx 1 els,Zx .i64 (↑(Zz els):Int),Zx .i64 0]) fun (r:Ex×List AV)=>cInt .i64 (Zp r) fun n r_1=>cBool r_1 fun b r_2=>cSl 1 r_2 fun b_1 r_3=>cInt .i64 r_3 fun n r_4=>cInt .i64 r_4 fun n r_5=>onNil r_5 (exK r.1 (some (Zu b,[])) fun (j:Nat)=>sel (Wy j 0) (some (Zu false,[])) none):Option (AV×Blocks))) (by kernel_rfl) ?_
  try dsimp only [cStr,cBs,cBool,cU8,cInt,cSl,l63]
  simp only [Zg,decide_eq_true_eq] at hpre
  obtain ⟨ha,hl⟩:=hpre
  have hil:=Kerb.ints_len ha
  refine loop_rounds (fun i:Nat=>[Zx Zv k,Zu false,Xx 1 els,Zx Zv (els.length:Int),Zx Zv (i:Int)]) (fun i=>i≤els.length∧(k∈intsIn els↔k∈(intsIn els).drop i)) (fun i=>els.length-i)
   (fun r=>∃ (i:Nat) (x:Bool),r.2=[Zx Zv k,Zu x,Xx 1 els,Zx Zv (els.length:Int),Zx Zv (i:Int)]∧((r.1 = .ret∧x=true∧k∈intsIn els)∨(r.1 = .exit 0∧k ∉ intsIn els))) 0 ⟨Wz _,by simp⟩ rfl ?_ ?_
  ·rintro i ⟨hi,hm⟩
   simp only [A0]
   by_cases hlt:i<els.length
   ·obtain ⟨n,h1,h2⟩:=Kerb.ints_get ha hlt
    rw [sel_pos (by simp;omega),chk_of (by simp;omega),Yf,h1,onInt_int]
    rw [h2,List.mem_cons] at hm
    by_cases h3:n=k
    ·rw [sel_pos (by simpa using h3)]
     exact ⟨_,rfl,i,true,rfl,.inl ⟨rfl,rfl,hm.2 (.inl h3.symm)⟩⟩
    ·rw [sel_neg (by simpa using h3),wrap_i64 (by omega) (by omega)]
     exact ⟨_,rfl,i+1,rfl,⟨by omega,hm.trans ⟨fun h=>h.resolve_left fun e=>h3 e.symm,.inr⟩⟩,by dsimp only;omega⟩
   ·rw [sel_neg (by simp;omega)]
    refine ⟨_,rfl,i,false,rfl,.inr ⟨rfl,?_⟩⟩
    rw [hm,Xd (by omega)];simp
  ·rintro ⟨e,l⟩ ⟨i,x,rfl,⟨rfl,rfl,h⟩ | ⟨rfl,h⟩⟩
   ·simp [onCons,Yj,Ww,AV.onSl,onNil,exK,h]
   ·simp [onCons,Yj,Ww,AV.onSl,onNil,exK,h,sel]
 ·cases h
theorem w156:Walked Tryz.prog G 156 1 sp156:=by
 refine ⟨Tryz.f156,Tryz.func156,by decide +kernel,rfl,fun xs bl r h=> ?_⟩
 unfold sp156 at h
 split at h
 ·rename_i n
  cases h
  refine Eq.trans (b:=(sel (decide (n≥0)) (some (Zu (decide (n≤4294967295)),[])) (some (Zu false,[])):Option (AV×Blocks))) (by kernel_rfl) ?_
  by_cases h:0≤n<;>simp [sel,Zb,h]
 ·cases h
theorem w157:Walked Tryz.prog G 157 1 sp157:=by
 refine ⟨Tryz.f157,Tryz.func157,by decide +kernel,rfl,fun xs bl r h=> ?_⟩
 unfold sp157 at h
 split at h
 ·rename_i n
  cases h
  refine Eq.trans (b:=(sel (decide (n≥0)) (some (Zu (decide (n≤255)),[])) (some (Zu false,[])):Option (AV×Blocks))) (by kernel_rfl) ?_
  by_cases h:0≤n<;>simp [sel,Zb,h]
 ·cases h
theorem w162:Walked Tryz.prog G 162 1 sp162:=by
 refine ⟨Tryz.f162,Tryz.func162,by decide +kernel,rfl,fun xs bl r h=> ?_⟩
 unfold sp162 at h
 split at h
 ·rename_i k
  cases h
  refine Eq.trans (b:=(sel (decide (k≥1)) (some (Zu (decide (k≤10)),[])) (some (Zu false,[])):Option (AV×Blocks))) (by kernel_rfl) ?_
  by_cases h:1≤k<;>simp [sel,Yg,h]
 ·cases h
theorem w164:Walked Tryz.prog G 164 1 sp164:=by
 refine ⟨Tryz.f164,Tryz.func164,by decide +kernel,rfl,fun xs bl r h=> ?_⟩
 unfold sp164 at h
 split at h
 ·rename_i c n
  cases h
  refine Eq.trans (b:=(sel (!c==1) (sel (!c==2) (some (Zx .u64 0,[])) (sel (decide (n<1)) (some (Zx .u64 0,[])) (sel (decide (n>4294967295)) (some (Zx .u64 0,[])) (some (Zx .u64 (Zy .u64 (↑(BitVec.toNat (BitVec.ofInt (Zj .u64) (Zy .u64 (Zy .u64 c*2 ^ min (Zw 56) (Zj .u64))) ||| BitVec.ofInt (Zj .u64) (Zy .u64 n))):Int)),[]))))) (sel (decide (n<1)) (some (Zx .u64 0,[])) (sel (decide (n>4294967295)) (some (Zx .u64 0,[])) (some (Zx .u64 (Zy .u64 (↑(BitVec.toNat (BitVec.ofInt (Zj .u64) (Zy .u64 (Zy .u64 c*2 ^ min (Zw 56) (Zj .u64))) ||| BitVec.ofInt (Zj .u64) (Zy .u64 n))):Int)),[])))):Option (AV×Blocks))) (by kernel_rfl) ?_
  unfold Vw Wn
  by_cases hc:c=1∨c=2
  case neg =>
   have q1:(c==(1:Int))=false:=by simp;omega
   have q2:(c==(2:Int))=false:=by simp;omega
   rw [q1,q2]
   rfl
  by_cases hn:1≤n∧n≤4294967295
  case neg =>
   have q:(decide (1≤n)&&decide (n≤4294967295))=false:=by
    rw [Bool.eq_false_iff]
    simp
    omega
   rw [q,Bool.and_false]
   have key:(sel (decide (n<(1:Int))) (some (Zx .u64 (0:Int),([]:Blocks))) (sel (decide (n>(4294967295:Int))) (some (Zx .u64 (0:Int),[])) (some (Zx Xw (Zy Xw ((BitVec.toNat (BitVec.ofInt (Zj Xw) (Zy Xw (Zy Xw c*(2:Int) ^ min (Zw (56:Int)) (Zj Xw))) ||| BitVec.ofInt (Zj Xw) (Zy Xw n)):Nat):Int)),[]))))=some (Zx .u64 0,[]):=by
    by_cases hl:n<1
    ·rw [sel_pos (by simpa using hl)]
    ·rw [sel_neg (by simpa using hl),sel_pos (by simp;omega)]
   rcases hc with rfl | rfl
   ·rw [sel_neg (by decide)];exact key
   ·rw [sel_pos (by decide),sel_neg (by decide)];exact key
  have q:(decide (1≤n)&&decide (n≤4294967295))=true:=by simp;omega
  have q2:(c==(1:Int)||c==(2:Int))=true:=by simpa using hc
  rw [q,q2,Kerb.key_make hc hn.1 hn.2]
  rcases hc with rfl | rfl
  ·rw [sel_neg (by decide),sel_neg (by simp;omega),sel_neg (by simp;omega)]
   rfl
  ·rw [sel_pos (by decide),sel_neg (by decide),sel_neg (by simp;omega),sel_neg (by simp;omega)]
   rfl
 ·cases h
theorem w168:Walked Tryz.prog G 168 1 sp168:=by
 refine ⟨Tryz.f168,Tryz.func168,by decide +kernel,rfl,fun xs bl r h=> ?_⟩
 unfold sp168 at h
 split at h
 ·rename_i b pos n
  obtain ⟨hpre,h2⟩:=chk_inv h;cases h2
  refine Eq.trans (b:=(sel (decide (pos<0)) (some (Zx .i64 104,[])) (sel (decide (pos>(↑(Zz b):Int))) (some (Zx .i64 104,[])) (sel (decide (n<0)) (some (Zx .i64 104,[])) (sel (decide (n>Zy .i64 ((↑(Zz b):Int)-pos))) (some (Zx .i64 101,[])) (some (Zx .i64 0,[]))))):Option (AV×Blocks))) (by kernel_rfl) ?_
  simp only [decide_eq_true_eq] at hpre
  unfold Xu
  by_cases h1:pos<0
  ·simp [sel,h1]
  by_cases h2:(b.length:Int)<pos
  ·simp [sel,h1,h2]
  by_cases h3:n<0
  ·simp [sel,h1,h2,h3]
  rw [sel_neg (by simp;omega),sel_neg (by simp;omega),sel_neg (by simp;omega),wrap_i64 (by omega) (by omega),if_neg (by omega)]
  by_cases h4:(b.length:Int)-pos<n
  ·rw [sel_pos (by simp;omega),if_pos h4]
  ·rw [sel_neg (by simp;omega),if_neg h4]
 ·cases h
theorem w172:Walked Tryz.prog G 172 1 sp172:=by
 refine ⟨Tryz.f172,Tryz.func172,by decide +kernel,rfl,fun xs bl r h=> ?_⟩
 unfold sp172 at h
 split at h
 ·rename_i n m
  cases h
  refine Eq.trans (b:=(sel (decide (n≥0)) (some (Zu (decide (n≤m)),[])) (some (Zu false,[])):Option (AV×Blocks))) (by kernel_rfl) ?_
  by_cases h:0≤n<;>simp [sel,Zb,h]
 ·cases h
theorem w173:Walked Tryz.prog G 173 1 sp173:=by
 refine ⟨Tryz.f173,Tryz.func173,by decide +kernel,rfl,fun xs bl r h=> ?_⟩
 unfold sp173 at h
 split at h
 ·rename_i n m
  cases h
  refine Eq.trans (b:=(sel (decide (n≥0)) (some (Zu (decide (n≤m)),[])) (some (Zu false,[])):Option (AV×Blocks))) (by kernel_rfl) ?_
  by_cases h:0≤n<;>simp [sel,Zb,h]
 ·cases h
theorem w180:Walked Tryz.prog G 180 1 sp180:=by
 refine ⟨Tryz.f180,Tryz.func180,by decide +kernel,rfl,fun xs bl r h=> ?_⟩
 unfold sp180 at h
 split at h
 ·rename_i k
  cases h
  refine Eq.trans (b:=(sel (k==1) (some (Zu true,[])) (some (Zu (k==2),[])):Option (AV×Blocks))) (by kernel_rfl) ?_
  unfold Vw
  cases (k==(1:Int))<;>rfl
 ·cases h
theorem w181:Walked Tryz.prog G 181 1 sp181:=by
 refine ⟨Tryz.f181,Tryz.func181,by decide +kernel,rfl,fun xs bl r h=> ?_⟩
 unfold sp181 at h
 split at h
 ·rename_i k
  cases h
  refine Eq.trans (b:=(sel (decide (k≥1)) (some (Zu (decide (k≤4294967295)),[])) (some (Zu false,[])):Option (AV×Blocks))) (by kernel_rfl) ?_
  by_cases h:1≤k<;>simp [sel,Wn,h]
 ·cases h
theorem w189:Walked Tryz.prog G 189 1 sp189:=by
 refine ⟨Tryz.f189,Tryz.func189,by decide +kernel,rfl,fun xs bl r h=> ?_⟩
 unfold sp189 at h
 split at h
 ·rename_i n m
  cases h
  refine Eq.trans (b:=(sel (decide (n≥0)) (some (Zu (decide (n≤m)),[])) (some (Zu false,[])):Option (AV×Blocks))) (by kernel_rfl) ?_
  by_cases h:0≤n<;>simp [sel,Zb,h]
 ·cases h
theorem w190:Walked Tryz.prog G 190 1 sp190:=by
 refine ⟨Tryz.f190,Tryz.func190,by decide +kernel,rfl,fun xs bl r h=> ?_⟩
 unfold sp190 at h
 split at h
 ·rename_i n m
  cases h
  refine Eq.trans (b:=(sel (decide (n≥0)) (some (Zu (decide (n≤m)),[])) (some (Zu false,[])):Option (AV×Blocks))) (by kernel_rfl) ?_
  by_cases h:0≤n<;>simp [sel,Zb,h]
 ·cases h
theorem w39:Walked Tryz.prog G 39 2 sp39:=by
 refine ⟨Tryz.f39,Tryz.func39,by decide +kernel,rfl,fun xs bl r h=> ?_⟩
 unfold sp39 at h
 split at h
 ·rename_i m1 m2 m3 kls sz fl mls sk
  obtain ⟨hpre,h2⟩:=chk_inv h;cases h2
  refine Eq.trans (b:=(Zq (chk (decide (Zz kls≤1000000)) (some (AV.ownL kls,[]))) fun (r:AV×Blocks)=>onNilB (Zp r) (AV.onOwnL (Zh r) fun l=>Zq (chk (decide (Zz mls≤1000000)) (some (AV.ownL mls,[]))) fun (r:AV×Blocks)=>onNilB (Zp r) (AV.onOwnL (Zh r) fun l_1=>some (Wg [Zk m1,Zk m2,Zk m3,Xx 5 l,Zx .i64 sz,Zx .i64 fl,Xx 5 l_1,Zx .i64 sk],[]))):Option (AV×Blocks))) (by kernel_rfl) ?_
  simp only [Zg,decide_eq_true_eq] at hpre
  simp only [hpre,decide_true,↓A0,A0]
 ·cases h
theorem w61:Walked Tryz.prog G 61 2 sp61:=by
 refine ⟨Tryz.f61,Tryz.func61,by decide +kernel,rfl,fun xs bl r h=> ?_⟩
 unfold sp61 at h
 split at h
 ·rename_i n
  obtain ⟨hpre,h2⟩:=chk_inv h;cases h2
  refine Eq.trans (b:=(chk (decide (0≤Zn n 3)&&decide (Zn n 3<(↑(Zz [Zk [(65:UInt8),(84:UInt8),(72:UInt8)],Zk [(66:UInt8),(79:UInt8),(83:UInt8)],Zk [(67:UInt8),(65:UInt8),(77:UInt8)]]):Int))&&true) (Wx (Yw [Zk [(65:UInt8),(84:UInt8),(72:UInt8)],Zk [(66:UInt8),(79:UInt8),(83:UInt8)],Zk [(67:UInt8),(65:UInt8),(77:UInt8)]] (Zw (Zn n 3)) Vx) fun b=>some (Zk b,[])):Option (AV×Blocks))) (by kernel_rfl) ?_
  have hn:0≤n:=by first | exact of_decide_eq_true hpre | (simp only [Zg,decide_eq_true_eq] at hpre;exact hpre.1)
  have ht:Zn n 3=n % 3:=Xz hn
  have hcase:n % 3=0∨n % 3=1∨n % 3=2:=by omega
  rcases hcase with e | e | e<;>simp [ht,e,chk,Wx,Kerb.realm]
 ·cases h
theorem w66:Walked Tryz.prog G 66 2 sp66:=by
 refine ⟨Tryz.f66,Tryz.func66,by decide +kernel,rfl,fun xs bl r h=> ?_⟩
 unfold sp66 at h
 split at h
 ·rename_i b els
  obtain ⟨hpre,h2⟩:=chk_inv h;cases h2
  refine Eq.trans (b:=(sel (!Kerb.Head.err (Yb b)==0) (some (Zd [Zu false,Zx .i64 (Kerb.Head.err (Yb b))],[])) (Zq (loopM (fun (st:List AV)=>cSl 1 st fun b r=>cBool r fun b_1 r=>cInt .i64 r fun n r=>cInt .i64 r fun n_1 r=>cBool r fun b_2 r=>cInt .i64 r fun n_2 r=>onNil r (sel (decide (n_2<(↑(Zz b):Int))) (chk (decide (0≤n_2)&&decide (n_2<(↑(Zz b):Int))&&true) (Yj .i64 (Yw b (Zw n_2) Vx) fun n_3=>sel (n_3==n_1) (some (Xp (Ex.ret,[Xx 1 b,Zu b_2,Zx .i64 0,Zx .i64 n_1,Zu b_2,Zx .i64 n_2]))) (some (Xn [Xx 1 b,Zu b_1,Zx .i64 n,Zx .i64 n_1,Zu b_2,Zx .i64 (Zy .i64 (n_2+1))])))) (some (Xp (Yn 0,[Xx 1 b,Zu b_1,Zx .i64 n,Zx .i64 n_1,Zu b_2,Zx .i64 n_2]))))) [Xx 1 els,Zu false,Zx .i64 0,Zx .i64 (Kerb.Head.kind (Yb b)),Zu (Kerb.Head.little (Yb b)),Zx .i64 0]) fun (r:Ex×List AV)=>cSl 1 (Zp r) fun b r_1=>cBool r_1 fun b r_2=>cInt .i64 r_2 fun n r_3=>cInt .i64 r_3 fun n_1 r_4=>cBool r_4 fun b_1 r_5=>cInt .i64 r_5 fun n_2 r_6=>onNil r_6 (exK r.1 (some (Zd [Zu b,Zx .i64 n],[])) fun (j:Nat)=>sel (Wy j 0) (some (Zd [Zu false,Zx .i64 40],[])) none)):Option (AV×Blocks))) (by kernel_rfl) ?_
  try dsimp only [cStr,cBs,cBool,cU8,cInt,cSl,l63]
  simp only [Zg,decide_eq_true_eq] at hpre
  obtain ⟨ha,hl⟩:=hpre
  have hil:=Kerb.ints_len ha
  unfold Kerb.headIs
  by_cases he:(Yb b).err=0
  case neg =>
   rw [sel_pos (by simpa using he),if_pos he]
  rw [sel_neg (by simp [he]),if_neg (by simpa using he)]
  generalize (Yb b).kind=k
  generalize (Yb b).little=lt
  refine loop_rounds (fun i:Nat=>[Xx 1 els,Zu false,Zx Zv 0,Zx Zv k,Zu lt,Zx Zv (i:Int)]) (fun i=>i≤els.length∧(k∈intsIn els↔k∈(intsIn els).drop i)) (fun i=>els.length-i)
   (fun r=>∃ (i:Nat) (x:Bool),r.2=[Xx 1 els,Zu x,Zx Zv 0,Zx Zv k,Zu lt,Zx Zv (i:Int)]∧((r.1 = .ret∧x=lt∧k∈intsIn els)∨(r.1 = .exit 0∧k ∉ intsIn els))) 0 ⟨Wz _,by simp⟩ rfl ?_ ?_
  ·rintro i ⟨hi,hm⟩
   simp only [A0]
   by_cases hlt:i<els.length
   ·obtain ⟨n,h1,h2⟩:=Kerb.ints_get ha hlt
    rw [sel_pos (by simp;omega),chk_of (by simp;omega),Yf,h1,onInt_int]
    rw [h2,List.mem_cons] at hm
    by_cases h3:n=k
    ·rw [sel_pos (by simpa using h3)]
     exact ⟨_,rfl,i,lt,rfl,.inl ⟨rfl,rfl,hm.2 (.inl h3.symm)⟩⟩
    ·rw [sel_neg (by simpa using h3),wrap_i64 (by omega) (by omega)]
     exact ⟨_,rfl,i+1,rfl,⟨by omega,hm.trans ⟨fun h=>h.resolve_left fun e=>h3 e.symm,.inr⟩⟩,by dsimp only;omega⟩
   ·rw [sel_neg (by simp;omega)]
    refine ⟨_,rfl,i,false,rfl,.inr ⟨rfl,?_⟩⟩
    rw [hm,Xd (by omega)];simp
  ·rintro ⟨e,l⟩ ⟨i,x,rfl,⟨rfl,rfl,h⟩ | ⟨rfl,h⟩⟩
   ·simp only [A0]
    rw [if_pos (by simpa using h)]
   ·simp only [A0]
    rw [if_neg (by simpa using h),sel_pos (Yu _)]
 ·cases h
theorem w68:Walked Tryz.prog G 68 2 sp68:=by
 refine ⟨Tryz.f68,Tryz.func68,by decide +kernel,rfl,fun xs bl r h=> ?_⟩
 unfold sp68 at h
 split at h
 ·rename_i n B at_ li bad
  obtain ⟨hpre,h2⟩:=chk_inv h;cases h2
  show runFnH (G.env 68 2) G.rts (G.own 68) Tryz.f68 _ _ [0]=_
  refine Eq.trans (b:=(Zq (chk (decide (Zz B≤140737488355328)) (some (Zd [Zf (Kerb.GotB.val (Wk B at_ n)),Zx .i64 (Kerb.GotB.next (Wk B at_ n)),Zx .i64 (Kerb.GotB.err (Wk B at_ n))],[]))) fun (r:AV×Blocks)=>onNilB (Zp r) (Vv (Zh r) fun vs=>onCons vs fun x r=>AV.onBs x fun b=>onCons r fun x r=>Yj .i64 x fun n=>onCons r fun x r=>Yj .i64 x fun n_1=>onNil r (some (Zf b,[[Zf B,Zx .i64 (bif bad || !n_1==0 then at_ else n),Zu li,Zu (bad || !n_1==0)]]))):Option (AV×Blocks))) (by kernel_rfl) ?_
  simp only [A0]
  rw [chk_of hpre]
 ·cases h
theorem w81:Walked Tryz.prog G 81 2 sp81:=by
 refine ⟨Tryz.f81,Tryz.func81,by decide +kernel,rfl,fun xs bl r h=> ?_⟩
 unfold sp81 at h
 split at h
 ·rename_i s
  obtain ⟨hpre,h2⟩:=chk_inv h;cases h2
  refine Eq.trans (b:=(sel (decide ((↑(Zz s):Int)>0)) (Zq (chk (decide (Zz s≤9223372036854775807)&&true) (some (Zu (Xb s [(64:UInt8)]&&decide (Zz s≤39)),[]))) fun (r:AV×Blocks)=>onNilB (Zp r) (Ww (Zh r) fun b=>some (Zu b,[]))) (some (Zu false,[])):Option (AV×Blocks))) (by kernel_rfl) ?_
  simp only [A0]
  rw [chk_of (by rw [hpre];rfl)]
  simp only [Kerb.validRealm]
  cases s with
  | nil=>rfl
  | cons x r =>
   rw [sel_pos (by first | (simp;done) | (simp;omega)),Bool.and_comm]
   rfl
 ·cases h
theorem w83:Walked Tryz.prog G 83 2 sp83:=by
 refine ⟨Tryz.f83,Tryz.func83,by decide +kernel,rfl,fun xs bl r h=> ?_⟩
 unfold sp83 at h
 split at h
 ·rename_i b n
  obtain ⟨hpre,h2⟩:=chk_inv h;cases h2
  refine Eq.trans (b:=(Zq (chk (decide (Zz b≤70368744177664)) (some (Zm (b++Yk n (Zw 1) false),[]))) fun (r:AV×Blocks)=>onNilB (Zp r) (Yh (Zh r) fun l=>some (Zm l,[])):Option (AV×Blocks))) (by kernel_rfl) ?_
  simp only [decide_eq_true_eq] at hpre
  simp only [A0]
  rw [chk_of (by simp;omega)]
  rfl
 ·cases h
theorem w100:Walked Tryz.prog G 100 2 sp100:=by
 refine ⟨Tryz.f100,Tryz.func100,by decide +kernel,rfl,fun xs bl r h=> ?_⟩
 unfold sp100 at h
 split at h
 ·rename_i a b s
  cases h
  refine Eq.trans (b:=(sel (!Zb a 4294967295) (some (Zu false,[])) (sel (!Zb b 4294967295) (some (Zu false,[])) (sel (!Zb s 4294967295) (some (Zu false,[])) (sel (decide (Zy .i64 (a-b)≤s)) (some (Zu (decide (Zy .i64 (b-a)≤s)),[])) (some (Zu false,[]))))):Option (AV×Blocks))) (by kernel_rfl) ?_
  unfold Kerb.near
  cases h1:Zb a 4294967295
  ·rfl
  cases h2:Zb b 4294967295
  ·rfl
  have a1:=Kerb.within_iff.1 h1
  have a2:=Kerb.within_iff.1 h2
  simp only [Xv,sel_false,Bool.and_self,Bool.true_and]
  rw [wrap_i64 (n:=a-b) (by omega) (by omega),wrap_i64 (n:=b-a) (by omega) (by omega)]
  cases h3:Zb s 4294967295
  ·rfl
  cases decide (a-b≤s)<;>rfl
 ·cases h
theorem w103:Walked Tryz.prog G 103 2 sp103:=by
 refine ⟨Tryz.f103,Tryz.func103,by decide +kernel,rfl,fun xs bl r h=> ?_⟩
 unfold sp103 at h
 split at h
 ·rename_i sz fl mls a1 a2 a3 at_ atk
  obtain ⟨hpre,h2⟩:=chk_inv h;cases h2
  refine Eq.trans (b:=(Zq (chk (List.all mls Kerb.isMark&&decide (Zz mls≤1000000)) (some (Zu (Kerb.hasMark (List.map Kerb.toMark mls) (Kerb.Mark.mk (Kerb.Prin.mk a1 a2 a3) at_ atk)),[]))) fun (r:AV×Blocks)=>onNilB (Zp r) (Ww (Zh r) fun b=>some (Zu b,[])):Option (AV×Blocks))) (by kernel_rfl) ?_
  simp only [hpre,↓A0,A0]
 ·cases h
theorem w116:Walked Tryz.prog G 116 2 sp116:=by
 refine ⟨Tryz.f116,Tryz.func116,by decide +kernel,rfl,fun xs bl r h=> ?_⟩
 unfold sp116 at h
 split at h
 ·rename_i k little
  cases h
  refine Eq.trans (b:=(sel (!Yg k) (some (Zf [],[])) (sel little (some (Zf [(4:UInt8),Yx (Zw (Zy .u8 (Zy .i64 (Zy .i64 (2*k)+1))))],[])) (some (Zf [(4:UInt8),Yx (Zw (Zy .u8 (Zy .i64 (2*k))))],[]))):Option (AV×Blocks))) (by kernel_rfl) ?_
  by_cases h:1≤k∧k≤10
  ·have hk:k=1∨k=2∨k=3∨k=4∨k=5∨k=6∨k=7∨k=8∨k=9∨k=10:=by omega
   rcases hk with rfl | rfl | rfl | rfl | rfl | rfl | rfl | rfl | rfl | rfl<;>cases little<;>rfl
  ·have hk:Yg k=false:=by simp [Yg];omega
   by_cases h1:k<1
   ·simp [sel,Xh,hk,h1]
   ·have h2:10<k:=by omega
    simp [sel,Xh,hk,h1,h2]
 ·cases h
theorem w118:Walked Tryz.prog G 118 2 sp118:=by
 refine ⟨Tryz.f118,Tryz.func118,by decide +kernel,rfl,fun xs bl r h=> ?_⟩
 unfold sp118 at h
 split at h
 ·rename_i els
  obtain ⟨hpre,h2⟩:=chk_inv h;cases h2
  refine Eq.trans (b:=(Zq (loopM (fun (st:List AV)=>cSl 1 st fun b r=>cInt .i64 r fun n r=>cSl 1 r fun b_1 r=>cInt .i64 r fun n_1 r=>cInt .i64 r fun n_2 r=>onNil r (sel (decide (n_2<n_1)) (chk (decide (0≤n_2)&&decide (n_2<(↑(Zz b_1):Int))&&true) (AV.onBs (Yw b_1 (Zw n_2) Vx) fun b_2=>sel (decide (Zy .i64 (n+(↑(Zz b_2):Int))<0)) none (some (Xn [Xx 1 b,Zx .i64 (Zy .i64 (n+(↑(Zz b_2):Int))),Xx 1 b_1,Zx .i64 n_1,Zx .i64 (Zy .i64 (n_2+1))])))) (some (Xp (Yn 0,[Xx 1 b,Zx .i64 n,Xx 1 b_1,Zx .i64 n_1,Zx .i64 n_2]))))) [Xx 1 els,Zx .i64 0,Xx 1 els,Zx .i64 (↑(Zz els):Int),Zx .i64 0]) fun (r:Ex×List AV)=>cSl 1 (Zp r) fun b r_1=>cInt .i64 r_1 fun n r_2=>cSl 1 r_2 fun b_1 r_3=>cInt .i64 r_3 fun n_1 r_4=>cInt .i64 r_4 fun n_2 r_5=>onNil r_5 (exK r.1 none fun (j:Nat)=>sel (Wy j 0) (Zq (chk (decide (0≤n)&&decide (n≤140737488355328)) (some (Zm [],[]))) (kO fun l=>Zq (loopM (fun (st:List AV)=>onCons st fun x r=>Yh x fun b=>cSl 1 r fun b_2 r=>cInt .i64 r fun n r=>cInt .i64 r fun n_3 r=>onNil r (sel (decide (n_3<n)) (chk (decide (0≤n_3)&&decide (n_3<(↑(Zz b_2):Int))&&true) (AV.onBs (Yw b_2 (Zw n_3) Vx) fun b_3=>chk (room (Zz b+Zz b_3) 1) (some (Xn [Zm (b++b_3),Xx 1 b_2,Zx .i64 n,Zx .i64 (Zy .i64 (n_3+1))])))) (some (Xp (Yn 2,[Zm b,Xx 1 b_2,Zx .i64 n,Zx .i64 n_3]))))) [Zm l,Xx 1 b,Zx .i64 (↑(Zz b):Int),Zx .i64 0]) fun (r:Ex×List AV)=>onCons (Zp r) fun x r_6=>Yh x fun b=>cSl 1 r_6 fun b_2 r_7=>cInt .i64 r_7 fun n r_8=>cInt .i64 r_8 fun n r_9=>onNil r_9 (exK r.1 none fun (j:Nat)=>sel (Wy j 2) (some (Zm b,[])) none))) none):Option (AV×Blocks))) (by kernel_rfl) ?_
  delta kO
  try dsimp only [cStr,cBs,cBool,cU8,cInt,cSl,l63]
  simp only [Zg,decide_eq_true_eq] at hpre
  obtain ⟨⟨ha,hl⟩,hbig⟩:=hpre
  refine loop_rounds (fun i:Nat=>[Xx 1 els,Zx Zv ((catB (els.take i)).length:Int),Xx 1 els,Zx Zv (els.length:Int),Zx Zv (i:Int)]) (fun i=>i≤els.length) (fun i=>els.length-i)
   (fun r=>r=(Yn 0,[Xx 1 els,Zx Zv ((catB els).length:Int),Xx 1 els,Zx Zv (els.length:Int),Zx Zv (els.length:Int)])) 0 (Wz _) rfl ?_ ?_
  ·intro i hi
   simp only [A0]
   by_cases hlt:i<els.length
   ·obtain ⟨l,h1,h2,h3⟩:=Kerb.cat_step ha hlt
    rw [sel_pos (by simp;omega),chk_of (by simp;omega),Yf,h1,onBs_bs,wrap_i64 (n:=((catB (els.take i)).length:Int)+(l.length:Int)) (by omega) (by omega),sel_neg (by simp;omega),wrap_i64 (by omega) (by omega)]
    refine ⟨_,rfl,i+1,?_,by omega,by dsimp only;omega⟩
    dsimp only
    rw [h2,List.length_append,Int.natCast_add]
    rfl
   ·rw [sel_neg (by simp;omega)]
    refine ⟨_,rfl,?_⟩
    show _=_
    rw [Xq (by omega),show i=els.length from by omega]
  rintro r rfl
  simp only [A0]
  rw [sel_pos (Yu _),chk_of (by simp;omega)]
  refine loop_rounds (fun i:Nat=>[Zm (catB (els.take i)),Xx 1 els,Zx Zv (els.length:Int),Zx Zv (i:Int)]) (fun i=>i≤els.length) (fun i=>els.length-i)
   (fun r=>r=(Yn 2,[Zm (catB els),Xx 1 els,Zx Zv (els.length:Int),Zx Zv (els.length:Int)])) 0 (Wz _) rfl ?_ ?_
  ·intro i hi
   simp only [A0]
   by_cases hlt:i<els.length
   ·obtain ⟨l,h1,h2,h3⟩:=Kerb.cat_step ha hlt
    rw [sel_pos (by simp;omega),chk_of (by simp;omega),Yf,h1,onBs_bs,chk_of (Yy (by omega)),wrap_i64 (by omega) (by omega)]
    refine ⟨_,rfl,i+1,?_,by omega,by dsimp only;omega⟩
    dsimp only
    rw [h2]
    rfl
   ·rw [sel_neg (by simp;omega)]
    refine ⟨_,rfl,?_⟩
    show _=_
    rw [Xq (by omega),show i=els.length from by omega]
  rintro r rfl
  simp only [A0]
  rw [sel_pos (Yu _)]
 ·cases h
theorem w119:Walked Tryz.prog G 119 2 sp119:=by
 refine ⟨Tryz.f119,Tryz.func119,by decide +kernel,rfl,fun xs bl r h=> ?_⟩
 unfold sp119 at h
 split at h
 ·rename_i b n little
  obtain ⟨hpre,h2⟩:=chk_inv h;cases h2
  refine Eq.trans (b:=(Zq (chk (decide (Zz b≤70368744177664)) (some (Zm (b++Yk n (Zw 4) little),[]))) fun (r:AV×Blocks)=>onNilB (Zp r) (Yh (Zh r) fun l=>some (Zm l,[])):Option (AV×Blocks))) (by kernel_rfl) ?_
  simp only [decide_eq_true_eq] at hpre
  simp only [A0]
  rw [chk_of (by simp;omega)]
  rfl
 ·cases h
theorem w122:Walked Tryz.prog G 122 2 sp122:=by
 refine ⟨Tryz.f122,Tryz.func122,by decide +kernel,rfl,fun xs bl r h=> ?_⟩
 unfold sp122 at h
 split at h
 ·rename_i k
  obtain ⟨hpre,h2⟩:=chk_inv h;cases h2
  refine Eq.trans (b:=(sel (!k==0) (some (Zu ((bif Vw (Zy .i64 (Wj k (2 ^ min (Zw 56) (Zj .u64))))&&Wn (Zy .i64 (Zy .u64 (↑(BitVec.toNat (BitVec.ofInt (Zj .u64) k &&& BitVec.ofInt (Zj .u64) 72057594037927935)):Int))) then Zy .i64 (Wj k (2 ^ min (Zw 56) (Zj .u64)))*72057594037927936+Zy .i64 (Zy .u64 (↑(BitVec.toNat (BitVec.ofInt (Zj .u64) k &&& BitVec.ofInt (Zj .u64) 72057594037927935)):Int)) else 0)==k),[])) (some (Zu false,[])):Option (AV×Blocks))) (by kernel_rfl) ?_
  simp only [Zg,decide_eq_true_eq] at hpre
  obtain ⟨h0,h1⟩:=hpre
  rw [Kerb.key_hi h0 h1,Kerb.key_lo h0 h1,Kerb.key_sum]
  by_cases hk:k=0
  ·subst hk;rfl
  rw [sel_pos (by simpa using hk)]
  unfold Yd
  cases Vw (Kerb.keyClass k)&&Wn (Kerb.keySerial k)
  ·have q:((0:Int)==k)=false:=by simp;omega
   simp only [cond_false,q]
  ·simp only [cond_true,BEq.rfl]
 ·cases h
theorem w124:Walked Tryz.prog G 124 2 sp124:=by
 refine ⟨Tryz.f124,Tryz.func124,by decide +kernel,rfl,fun xs bl r h=> ?_⟩
 unfold sp124 at h
 split at h
 ·rename_i b n little
  obtain ⟨hpre,h2⟩:=chk_inv h;cases h2
  refine Eq.trans (b:=(Zq (chk (decide (Zz b≤70368744177664)) (some (Zm (b++Yk n (Zw 2) little),[]))) fun (r:AV×Blocks)=>onNilB (Zp r) (Yh (Zh r) fun l=>some (Zm l,[])):Option (AV×Blocks))) (by kernel_rfl) ?_
  simp only [decide_eq_true_eq] at hpre
  simp only [A0]
  rw [chk_of (by simp;omega)]
  rfl
 ·cases h
theorem w129:Walked Tryz.prog G 129 2 sp129:=by
 refine ⟨Tryz.f129,Tryz.func129,by decide +kernel,rfl,fun xs bl r h=> ?_⟩
 unfold sp129 at h
 split at h
 ·rename_i kls x y z v
  obtain ⟨hpre,h2⟩:=chk_inv h;cases h2
  refine Eq.trans (b:=(Zq (loopM (fun (st:List AV)=>cSl 5 st fun b r=>cStr r fun b_1 r=>cStr r fun b_2 r=>cStr r fun b_3 r=>cInt .i64 r fun n r=>cInt .i64 r fun n_1 r=>cSl 5 r fun b_4 r=>cInt .i64 r fun n_2 r=>cInt .i64 r fun n_3 r=>onNil r (sel (decide (n_3<n_2)) (chk (decide (0≤n_3)&&decide (n_3<(↑(Zz b_4):Int))&&true) (AV.onAgg (Yw b_4 (Zw n_3) Vx) fun cs=>cStr cs fun b_5 r=>cStr r fun b_6 r=>cStr r fun b_7 r=>cInt .i64 r fun n_4 r=>cInt .u64 r fun n_5 r=>onNil r (sel (b_5==b_1&&(b_6==b_2&&(b_7==b_3&&n_4==n))) (some (Xp (Ex.ret,[Xx 5 b,Zk b_1,Zk b_2,Zk b_3,Zx .i64 n,Zx .i64 n_3,Xx 5 b_4,Zx .i64 n_2,Zx .i64 n_3]))) (some (Xn [Xx 5 b,Zk b_1,Zk b_2,Zk b_3,Zx .i64 n,Zx .i64 n_1,Xx 5 b_4,Zx .i64 n_2,Zx .i64 (Zy .i64 (n_3+1))]))))) (some (Xp (Yn 0,[Xx 5 b,Zk b_1,Zk b_2,Zk b_3,Zx .i64 n,Zx .i64 n_1,Xx 5 b_4,Zx .i64 n_2,Zx .i64 n_3]))))) [Xx 5 kls,Zk x,Zk y,Zk z,Zx .i64 v,Zx .i64 0,Xx 5 kls,Zx .i64 (↑(Zz kls):Int),Zx .i64 0]) fun (r:Ex×List AV)=>cSl 5 (Zp r) fun b r_1=>cStr r_1 fun b_1 r_2=>cStr r_2 fun b_2 r_3=>cStr r_3 fun b_3 r_4=>cInt .i64 r_4 fun n r_5=>cInt .i64 r_5 fun n r_6=>cSl 5 r_6 fun b_4 r_7=>cInt .i64 r_7 fun n_1 r_8=>cInt .i64 r_8 fun n_2 r_9=>onNil r_9 (exK r.1 (some (Zx .i64 n,[])) fun (j:Nat)=>sel (Wy j 0) (some (Zx .i64 (↑(Zz b):Int),[])) none):Option (AV×Blocks))) (by kernel_rfl) ?_
  try dsimp only [cStr,cBs,cBool,cU8,cInt,cSl,l63]
  simp only [Zg,decide_eq_true_eq] at hpre
  obtain ⟨hall,hlen⟩:=hpre
  obtain ⟨cs,rfl,hok⟩:=Kerb.skeys_of hall
  rw [Kerb.map_toSKey]
  simp only [Vy] at hlen ⊢
  refine loop_rounds (fun i:Nat=>[Xx 5 (cs.map Wm),Zk x,Zk y,Zk z,Zx Zv v,Zx Zv 0,Xx 5 (cs.map Wm),Zx Zv (cs.length:Int),Zx Zv (i:Int)]) (fun i=>i≤cs.length∧Wb cs ⟨x,y,z⟩ v=i+Wb (cs.drop i) ⟨x,y,z⟩ v) (fun i=>cs.length-i)
   (fun r=>∃ (i:Nat) (n:Int),r.2=[Xx 5 (cs.map Wm),Zk x,Zk y,Zk z,Zx Zv v,Zx Zv n,Xx 5 (cs.map Wm),Zx Zv (cs.length:Int),Zx Zv (i:Int)]∧((r.1 = .ret∧n=(Wb cs ⟨x,y,z⟩ v:Nat))∨(r.1 = .exit 0∧Wb cs ⟨x,y,z⟩ v=cs.length))) 0 ⟨Wz _,by simp⟩ rfl ?_ ?_
  ·rintro i ⟨hi,hp⟩
   simp only [↓A0,A0]
   by_cases hlt:i<cs.length
   ·rw [sel_pos (by simp;omega),chk_of (by simp;omega),Yf,Kerb.getD_row (d:=Kerb.noSKey) hlt]
    have hd:=Kerb.drop_row (d:=Kerb.noSKey) hlt
    generalize cs.getD i Kerb.noSKey=c at hd
    simp only [Wm,↓A0,A0]
    have he0:(c.service.name==x&&(c.service.inst==y&&(c.service.realm==z&&c.kvno==v)))=Kerb.SKey.is ⟨x,y,z⟩ v c:=by
     simp only [Kerb.SKey.is,Kerb.Prin.eqb,Bool.and_assoc]
    rw [he0]
    cases he:Kerb.SKey.is ⟨x,y,z⟩ v c
    ·rw [sel_false,wrap_i64 (by omega) (by omega)]
     refine ⟨_,rfl,i+1,rfl,⟨by omega,?_⟩,by dsimp only;omega⟩
     rw [hp,hd]
     simp only [Wb,List.findIdx_cons,he,cond_false]
     omega
    ·rw [sel_true]
     refine ⟨_,rfl,i,_,rfl,.inl ⟨rfl,?_⟩⟩
     rw [hp,hd]
     simp only [Wb,List.findIdx_cons,he,cond_true]
     omega
   ·rw [sel_neg (by simp;omega)]
    refine ⟨_,rfl,i,_,rfl,.inr ⟨rfl,?_⟩⟩
    rw [hp,Xd (by omega)]
    simp [Wb];omega
  ·rintro ⟨e,l⟩ ⟨i,n,rfl,⟨rfl,h⟩ | ⟨rfl,h⟩⟩
   ·simp only [↓A0,A0,h]
   ·simp only [↓A0,A0,h,Vy]
    rw [sel_pos (Yu _)]
 ·cases h
theorem w138:Walked Tryz.prog G 138 2 sp138:=by
 refine ⟨Tryz.f138,Tryz.func138,by decide +kernel,rfl,fun xs bl r h=> ?_⟩
 unfold sp138 at h
 split at h
 ·rename_i s
  obtain ⟨hpre,h2⟩:=chk_inv h;cases h2
  refine Eq.trans (b:=(sel (decide ((↑(Zz s):Int)>0)) (Zq (chk (decide (Zz s≤9223372036854775807)&&true) (some (Zu (Xb s [(46:UInt8),(64:UInt8)]&&decide (Zz s≤39)),[]))) fun (r:AV×Blocks)=>onNilB (Zp r) (Ww (Zh r) fun b=>some (Zu b,[]))) (some (Zu false,[])):Option (AV×Blocks))) (by kernel_rfl) ?_
  simp only [A0]
  rw [chk_of (by rw [hpre];rfl)]
  simp only [Kerb.validName]
  cases s with
  | nil=>rfl
  | cons x r =>
   rw [sel_pos (by first | (simp;done) | (simp;omega)),Bool.and_comm]
   rfl
 ·cases h
theorem w139:Walked Tryz.prog G 139 2 sp139:=by
 refine ⟨Tryz.f139,Tryz.func139,by decide +kernel,rfl,fun xs bl r h=> ?_⟩
 unfold sp139 at h
 split at h
 ·rename_i s
  obtain ⟨hpre,h2⟩:=chk_inv h;cases h2
  refine Eq.trans (b:=(Zq (chk (decide (Zz s≤9223372036854775807)&&true) (some (Zu (Xb s [(64:UInt8)]&&decide (Zz s≤39)),[]))) fun (r:AV×Blocks)=>onNilB (Zp r) (Ww (Zh r) fun b=>some (Zu b,[])):Option (AV×Blocks))) (by kernel_rfl) ?_
  simp only [A0]
  rw [chk_of (by rw [hpre];rfl),Bool.and_comm]
  rfl
 ·cases h
theorem w142:Walked Tryz.prog G 142 2 sp142:=by
 refine ⟨Tryz.f142,Tryz.func142,by decide +kernel,rfl,fun xs bl r h=> ?_⟩
 unfold sp142 at h
 split at h
 ·rename_i b
  cases h
  refine Eq.trans (b:=(sel (decide ((↑(Zz b):Int)<2)) (some (Zd [Zx .i64 0,Zu false,Zx .i64 101],[])) (chk (decide (0<(↑(Zz b):Int))) (sel (!Yw b (Zw 0) (0:UInt8)==(4:UInt8)) (some (Zd [Zx .i64 0,Zu false,Zx .i64 39],[])) (chk (decide (1<(↑(Zz b):Int))) (sel (!Yg (Zy .i64 (Wq (Zy .i64 (↑(Yz (Yw b (Zw 1) (0:UInt8))):Int)) 2))) (some (Zd [Zx .i64 0,Zu false,Zx .i64 40],[])) (chk (decide (1<(↑(Zz b):Int))) (some (Zd [Zx .i64 (Zy .i64 (Wq (Zy .i64 (↑(Yz (Yw b (Zw 1) (0:UInt8))):Int)) 2)),Zu (Yx (Zw (Zn (↑(Yz (Yw b (Zw 1) (0:UInt8))):Int) (↑(Yz (2:UInt8)):Int)))==(1:UInt8)),Zx .i64 0],[]))))))):Option (AV×Blocks))) (by kernel_rfl) ?_
  unfold Yb
  by_cases h1:b.length<2
  ·rw [sel_pos (by simp;omega)]
   simp [h1]
  rw [sel_neg (by simp;omega),chk_of (by simp;omega),if_neg h1]
  by_cases h2:b.getD 0 0=4
  ·have hb:=(b.getD 1 0).toNat_lt
   have e:Zy Zv (Wq (Zy Zv ((b.getD (Zw 1) 0).toNat:Int)) 2)=(((b.getD 1 0).toNat / 2:Nat):Int):=by
    rw [show Zw 1=1 from rfl,wrap_i64 (n:=((b.getD 1 0).toNat:Int)) (by omega) (by omega),Wu (by omega),wrap_i64 (by omega) (by omega)];omega
   have e2:(Yx (Zw (Zn ((b.getD (Zw 1) 0).toNat:Int) ((2:UInt8).toNat:Int)))==1)=decide ((b.getD 1 0).toNat % 2=1):=by
    rw [show Zw 1=1 from rfl,Xz (by omega)]
    have e3:Zw (((b.getD 1 0).toNat:Int) % ((2:UInt8).toNat:Int))=(b.getD 1 0).toNat % 2:=by
     show Zw (((b.getD 1 0).toNat:Int) % 2)=_
     omega
    rw [e3]
    rcases Nat.mod_two_eq_zero_or_one (b.getD 1 0).toNat with h | h<;>rw [h]<;>rfl
   rw [sel_neg (by simp [h2] at *;exact h2),chk_of (by simp;omega),if_neg (by simpa using h2),e,e2]
   cases hk:Yg (((b.getD 1 0).toNat / 2:Nat):Int)
   ·rfl
   ·rw [Xv,sel_false,chk_of (by simp;omega)]
    rfl
  ·rw [sel_pos (by simpa using h2),if_pos (by simpa using h2)]
 ·cases h
theorem w146:Walked Tryz.prog G 146 2 sp146:=by
 refine ⟨Tryz.f146,Tryz.func146,by decide +kernel,rfl,fun xs bl r h=> ?_⟩
 unfold sp146 at h
 split at h
 ·rename_i b pos n
  obtain ⟨hpre,h2⟩:=chk_inv h;cases h2
  refine Eq.trans (b:=(Zq (chk (decide (Zz b≤4611686018427387904)) (some (Zx .i64 (Xu b pos n),[]))) fun (r:AV×Blocks)=>onNilB (Zp r) (Yj .i64 (Zh r) fun n_1=>sel (!n_1==0) (some (Zd [Zf [],Zx .i64 0,Zx .i64 n_1],[])) (chk (decide (0≤pos)&&decide (pos≤Zy .i64 (pos+n))&&decide (Zy .i64 (pos+n)≤(↑(Zz b):Int))) (Zq (chk (decide (Zz (Xy (Zw pos) (Ym (Zw (Zy .i64 (pos+n))) b))≤140737488355328)) (some (Zf (Xy (Zw pos) (Ym (Zw (Zy .i64 (pos+n))) b)),[]))) fun (r:AV×Blocks)=>onNilB (Zp r) (AV.onBs (Zh r) fun b=>some (Zd [Zf b,Zx .i64 (Zy .i64 (pos+n)),Zx .i64 0],[]))))):Option (AV×Blocks))) (by kernel_rfl) ?_
  have hb:=of_decide_eq_true hpre
  simp only [A0]
  rw [chk_of (by simp;omega)]
  unfold Wk
  by_cases hr:Xu b pos n=0
  ·obtain ⟨q1,q2,q3,q4⟩:=Kerb.room_zero.1 hr
   have e:Xy (Zw pos) (Ym (Zw (pos+n)) b)=Kerb.cut b pos n:=by
    rw [show Zw (pos+n)=pos.toNat+n.toNat by omega,List.drop_take,show pos.toNat+n.toNat-pos.toNat=n.toNat by omega]
    rfl
   have hc:=Kerb.cut_length hr
   rw [sel_neg (by simp [hr]),if_pos hr,wrap_i64 (by omega) (by omega),e,chk_of (by simp;omega),chk_of (by simp;omega)]
  ·rw [sel_pos (by simpa using hr),if_neg hr]
 ·cases h
theorem w151:Walked Tryz.prog G 151 2 sp151:=by
 refine ⟨Tryz.f151,Tryz.func151,by decide +kernel,rfl,fun xs bl r h=> ?_⟩
 unfold sp151 at h
 split at h
 ·rename_i b x y z
  obtain ⟨hpre,h2⟩:=chk_inv h;cases h2
  refine Eq.trans (b:=(Zq (chk (decide (Zz b+Zz x≤70368744177664)) (some (Zf (Wv b x),[]))) fun (r:AV×Blocks)=>onNilB (Zp r) (AV.onBs (Zh r) fun b=>Zq (chk (decide (Zz b+Zz y≤70368744177664)) (some (Zf (Wv b y),[]))) fun (r:AV×Blocks)=>onNilB (Zp r) (AV.onBs (Zh r) fun b=>Zq (chk (decide (Zz b+Zz z≤70368744177664)) (some (Zf (Wv b z),[]))) fun (r:AV×Blocks)=>onNilB (Zp r) (AV.onBs (Zh r) fun b=>some (Zf b,[])))):Option (AV×Blocks))) (by kernel_rfl) ?_
  simp only [decide_eq_true_eq] at hpre
  simp only [A0]
  rw [chk_of (by simp;omega),chk_of (by simp [Wv];omega),chk_of (by simp [Wv];omega)]
  rfl
 ·cases h
theorem w158:Walked Tryz.prog G 158 2 sp158:=by
 refine ⟨Tryz.f158,Tryz.func158,by decide +kernel,rfl,fun xs bl r h=> ?_⟩
 unfold sp158 at h
 split at h
 ·rename_i i l
  cases h
  refine Eq.trans (b:=(sel (!Zb i 4294967295) (some (Zx .i64 0,[])) (sel (!Zb l 255) (some (Zx .i64 0,[])) (some (Zx .i64 (Zy .i64 (i+Zy .i64 (300*Zy .i64 (l+1)))),[]))):Option (AV×Blocks))) (by kernel_rfl) ?_
  unfold Kerb.tEnd
  cases h1:Zb i 4294967295
  ·rfl
  cases h2:Zb l 255
  ·rfl
  have a1:=Kerb.within_iff.1 h1
  have a2:=Kerb.within_iff.1 h2
  simp only [Xv,sel_false,Bool.and_self,if_true]
  rw [wrap_i64 (n:=l+1) (by omega) (by omega),wrap_i64 (n:=300*(l+1)) (by omega) (by omega),wrap_i64 (by omega) (by omega)]
 ·cases h
theorem w161:Walked Tryz.prog G 161 2 sp161:=by
 refine ⟨Tryz.f161,Tryz.func161,by decide +kernel,rfl,fun xs bl r h=> ?_⟩
 unfold sp161 at h
 split at h
 ·rename_i k
  obtain ⟨hpre,h2⟩:=chk_inv h;cases h2
  refine Eq.trans (b:=(sel (!Vw (Zy .i64 (Wj k (2 ^ min (Zw 56) (Zj .u64))))) (some (Zd [Zx .i64 0,Zx .i64 0,Zu false],[])) (sel (!Wn (Zy .i64 (Zy .u64 (↑(BitVec.toNat (BitVec.ofInt (Zj .u64) k &&& BitVec.ofInt (Zj .u64) 72057594037927935)):Int)))) (some (Zd [Zx .i64 0,Zx .i64 0,Zu false],[])) (some (Zd [Zx .i64 (Zy .i64 (Wj k (2 ^ min (Zw 56) (Zj .u64)))),Zx .i64 (Zy .i64 (Zy .u64 (↑(BitVec.toNat (BitVec.ofInt (Zj .u64) k &&& BitVec.ofInt (Zj .u64) 72057594037927935)):Int))),Zu true],[]))):Option (AV×Blocks))) (by kernel_rfl) ?_
  simp only [Zg,decide_eq_true_eq] at hpre
  obtain ⟨h0,h1⟩:=hpre
  rw [Kerb.key_hi h0 h1,Kerb.key_lo h0 h1]
  unfold Yd
  cases Vw (Kerb.keyClass k)
  ·rfl
  cases Wn (Kerb.keySerial k)<;>rfl
 ·cases h
theorem w166:Walked Tryz.prog G 166 2 sp166:=by
 refine ⟨Tryz.f166,Tryz.func166,by decide +kernel,rfl,fun xs bl r h=> ?_⟩
 unfold sp166 at h
 split at h
 ·rename_i b pos k little
  obtain ⟨hpre,h2⟩:=chk_inv h;cases h2
  refine Eq.trans (b:=(Zq (chk (decide (Zz b≤140737488355328)) (some (Zd [Zf (Kerb.GotB.val (Wk b pos k)),Zx .i64 (Kerb.GotB.next (Wk b pos k)),Zx .i64 (Kerb.GotB.err (Wk b pos k))],[]))) (kT fun vs=>cBs vs fun b r=>cInt .i64 r fun n r=>cInt .i64 r fun n_1 r=>onNil r (sel (!n_1==0) (some (Zd [Zx .i64 0,Zx .i64 0,Zx .i64 n_1],[])) (Zq (loopM (fun (st:List AV)=>cInt .i64 st fun n r=>cBool r fun b r=>cBs r fun b_1 r=>cInt .i64 r fun n_2 r=>cInt .i64 r fun n_3 r=>let t0:BitVec (Zj .i64):=BitVec.ofInt (Zj .i64) (Zy .i64 (n_3*2 ^ min (Zw 8) (Zj .i64)));cInt .i64 r fun n_4 r=>let t1:Int:=Zy .i64 (Zy .i64 (n-1)-n_4);onNil r (sel (decide (n_4<n)) (sel b (chk (decide (0≤t1)&&decide (t1<(↑(Zz b_1):Int))) (some (Xn [Zx .i64 n,Zu b,Zf b_1,Zx .i64 n_2,Zx .i64 (Zy .i64 (↑(BitVec.toNat (t0 ||| BitVec.ofInt (Zj .i64) (Zy .i64 (↑(Yz (Yw b_1 (Zw t1) (0:UInt8))):Int)))):Int)),Zx .i64 (Zy .i64 (n_4+1))]))) (chk (decide (0≤n_4)&&decide (n_4<(↑(Zz b_1):Int))) (some (Xn [Zx .i64 n,Zu b,Zf b_1,Zx .i64 n_2,Zx .i64 (Zy .i64 (↑(BitVec.toNat (t0 ||| BitVec.ofInt (Zj .i64) (Zy .i64 (↑(Yz (Yw b_1 (Zw n_4) (0:UInt8))):Int)))):Int)),Zx .i64 (Zy .i64 (n_4+1))])))) (some (Xp (Yn 0,[Zx .i64 n,Zu b,Zf b_1,Zx .i64 n_2,Zx .i64 n_3,Zx .i64 n_4]))))) [Zx .i64 k,Zu little,Zf b,Zx .i64 n,Zx .i64 0,Zx .i64 0]) fun (r:Ex×List AV)=>cInt .i64 (Zp r) fun n r_1=>cBool r_1 fun b r_2=>cBs r_2 fun b r_3=>cInt .i64 r_3 fun n r_4=>cInt .i64 r_4 fun n_2 r_5=>cInt .i64 r_5 fun n_3 r_6=>onNil r_6 (exK r.1 none fun (j:Nat)=>sel (Wy j 0) (some (Zd [Zx .i64 n_2,Zx .i64 n,Zx .i64 0],[])) none)))):Option (AV×Blocks))) (by kernel_rfl) ?_
  delta kT
  try dsimp only [cStr,cBs,cBool,cU8,cInt,cSl,l63]
  simp only [Zg,decide_eq_true_eq] at hpre
  obtain ⟨⟨hb,hk0⟩,hk4⟩:=hpre
  simp only [A0]
  rw [chk_of (by simpa using hb)]
  unfold Xk Wk
  by_cases hr:Xu b pos k=0
  case neg =>
   rw [if_neg hr,if_neg hr,sel_pos (by simpa using hr)]
  rw [if_pos hr,if_pos hr,sel_neg (by simp)]
  obtain ⟨q1,q2,q3,q4⟩:=Kerb.room_zero.1 hr
  have hcl:=Kerb.cut_length hr
  obtain ⟨C,hC⟩:∃ C,C=Kerb.cut b pos k:=⟨_,rfl⟩
  rw [← hC] at hcl ⊢
  obtain ⟨L,hL⟩:∃ L,L=cond little C.reverse C:=⟨_,rfl⟩
  have hLl:L.length=k.toNat:=by rw [hL];cases little<;>simp [hcl]
  rw [← hL]
  refine loop_rounds (fun i:Nat=>[Zx Zv k,Zu little,Zf C,Zx Zv (pos+k),Zx Zv (Kerb.valB (L.take i)),Zx Zv (i:Int)]) (fun i=>i≤k.toNat) (fun i=>k.toNat-i)
   (fun r=>r=(Yn 0,[Zx Zv k,Zu little,Zf C,Zx Zv (pos+k),Zx Zv (Kerb.valB L),Zx Zv k])) 0 (Wz _) rfl ?_ ?_
  ·intro i hi
   simp only [A0]
   by_cases hlt:i<k.toNat
   ·rw [sel_pos (by simp;omega)]
    have hv:=Kerb.valB_bd (l:=L.take i) (by simp;omega)
    have hs:=Kerb.valB_take (l:=L) (i:=i) (by omega)
    have hgd:L.getD i 0=C.getD (cond little (k.toNat-1-i) i) 0:=by
     rw [hL]
     cases little
     ·rfl
     ·show C.reverse.getD i 0=_
      rw [Kerb.getD_reverse (by omega),hcl];rfl
    cases little
    ·rw [sel_neg rfl,chk_of (by simp;omega),Yf]
     rw [Kerb.shl8_or _ hv.1 (by omega),wrap_i64 (n:=(i:Int)+1) (by omega) (by omega)]
     refine ⟨_,rfl,i+1,?_,by omega,by dsimp only;omega⟩
     dsimp only
     rw [hs,hgd];rfl
    ·rw [sel_pos rfl,wrap_i64 (n:=k-1) (by omega) (by omega),wrap_i64 (n:=k-1-(i:Int)) (by omega) (by omega),chk_of (by simp;omega),show (k-1-(i:Int)).toNat=k.toNat-1-i from by omega]
     rw [Kerb.shl8_or _ hv.1 (by omega),wrap_i64 (n:=(i:Int)+1) (by omega) (by omega)]
     refine ⟨_,rfl,i+1,?_,by omega,by dsimp only;omega⟩
     dsimp only
     rw [hs,hgd];rfl
   ·rw [sel_neg (by simp;omega)]
    refine ⟨_,rfl,?_⟩
    show _=_
    rw [Xq (by omega),show (i:Int)=k from by omega]
  ·rintro r rfl
   simp only [A0]
   rw [sel_pos (Yu _)]
 ·cases h
theorem w167:Walked Tryz.prog G 167 2 sp167:=by
 refine ⟨Tryz.f167,Tryz.func167,by decide +kernel,rfl,fun xs bl r h=> ?_⟩
 unfold sp167 at h
 split at h
 ·rename_i b pos k little
  obtain ⟨hpre,h2⟩:=chk_inv h;cases h2
  refine Eq.trans (b:=(Zq (chk (decide (Zz b≤4611686018427387904)) (some (Zx .i64 (Xu b pos k),[]))) (kI .i64 fun n=>sel (!n==0) (some (Zd [Zx .i64 0,Zx .i64 0,Zx .i64 n],[])) (Zq (loopM (fun (st:List AV)=>cBs st fun b r=>cInt .i64 r fun n r=>cInt .i64 r fun n_1 r=>cBool r fun b_1 r=>cInt .i64 r fun n_2 r=>let t0:BitVec (Zj .i64):=BitVec.ofInt (Zj .i64) (Zy .i64 (n_2*2 ^ min (Zw 8) (Zj .i64)));cInt .i64 r fun n_3 r=>cInt .i64 r fun n_4 r=>let t1:Int:=Zy .i64 (n+Zy .i64 (Zy .i64 (n_1-1)-n_4));onNil r (sel (decide (n_4<n_3)) (sel b_1 (chk (decide (0≤t1)&&decide (t1<(↑(Zz b):Int))) (some (Xn [Zf b,Zx .i64 n,Zx .i64 n_1,Zu b_1,Zx .i64 (Zy .i64 (↑(BitVec.toNat (t0 ||| BitVec.ofInt (Zj .i64) (Zy .i64 (↑(Yz (Yw b (Zw t1) (0:UInt8))):Int)))):Int)),Zx .i64 n_3,Zx .i64 (Zy .i64 (n_4+1))]))) (chk (decide (0≤Zy .i64 (n+n_4))&&decide (Zy .i64 (n+n_4)<(↑(Zz b):Int))) (some (Xn [Zf b,Zx .i64 n,Zx .i64 n_1,Zu b_1,Zx .i64 (Zy .i64 (↑(BitVec.toNat (t0 ||| BitVec.ofInt (Zj .i64) (Zy .i64 (↑(Yz (Yw b (Zw (Zy .i64 (n+n_4))) (0:UInt8))):Int)))):Int)),Zx .i64 n_3,Zx .i64 (Zy .i64 (n_4+1))])))) (some (Xp (Yn 0,[Zf b,Zx .i64 n,Zx .i64 n_1,Zu b_1,Zx .i64 n_2,Zx .i64 n_3,Zx .i64 n_4]))))) [Zf b,Zx .i64 pos,Zx .i64 k,Zu little,Zx .i64 0,Zx .i64 k,Zx .i64 0]) fun (r:Ex×List AV)=>cBs (Zp r) fun b r_1=>cInt .i64 r_1 fun n r_2=>cInt .i64 r_2 fun n_1 r_3=>cBool r_3 fun b r_4=>cInt .i64 r_4 fun n_2 r_5=>cInt .i64 r_5 fun n_3 r_6=>cInt .i64 r_6 fun n_4 r_7=>onNil r_7 (exK r.1 none fun (j:Nat)=>sel (Wy j 0) (some (Zd [Zx .i64 n_2,Zx .i64 (Zy .i64 (n+n_1)),Zx .i64 0],[])) none))):Option (AV×Blocks))) (by kernel_rfl) ?_
  delta kI
  try dsimp only [cStr,cBs,cBool,cU8,cInt,cSl,l63]
  simp only [Zg,decide_eq_true_eq] at hpre
  obtain ⟨⟨hb,hk0⟩,hk4⟩:=hpre
  simp only [A0]
  rw [chk_of (by simpa using hb)]
  unfold Xk
  by_cases hr:Xu b pos k=0
  ·rw [sel_neg (by simp [hr]),if_pos hr]
   obtain ⟨q1,q2,q3,q4⟩:=Kerb.room_zero.1 hr
   have hcl:=Kerb.cut_length hr
   obtain ⟨L,hL⟩:∃ L,L=cond little (Kerb.cut b pos k).reverse (Kerb.cut b pos k):=⟨_,rfl⟩
   have hLl:L.length=k.toNat:=by rw [hL];cases little<;>simp [hcl]
   rw [← hL]
   refine loop_rounds (fun i:Nat=>[Zf b,Zx Zv pos,Zx Zv k,Zu little,Zx Zv (Kerb.valB (L.take i)),Zx Zv k,Zx Zv (i:Int)]) (fun i=>i≤k.toNat) (fun i=>k.toNat-i)
    (fun r=>r=(Yn 0,[Zf b,Zx Zv pos,Zx Zv k,Zu little,Zx Zv (Kerb.valB L),Zx Zv k,Zx Zv k])) 0 (Wz _) rfl ?_ ?_
   ·intro i hi
    simp only [A0]
    by_cases hlt:i<k.toNat
    ·rw [sel_pos (by simp;omega)]
     have hv:=Kerb.valB_bd (l:=L.take i) (by simp;omega)
     have hs:=Kerb.valB_take (l:=L) (i:=i) (by omega)
     have hgd:L.getD i 0=b.getD (cond little (pos.toNat+(k.toNat-1-i)) (pos.toNat+i)) 0:=by
      rw [hL]
      cases little
      ·exact Kerb.cut_getD hlt
      ·show (Kerb.cut b pos k).reverse.getD i 0=_
       rw [Kerb.getD_reverse (by omega),hcl,Kerb.cut_getD (by omega)];rfl
     cases little
     ·rw [sel_neg rfl,wrap_i64 (n:=pos+(i:Int)) (by omega) (by omega),chk_of (by simp;omega),show (pos+(i:Int)).toNat=pos.toNat+i from by omega]
      rw [Kerb.shl8_or _ hv.1 (by omega),wrap_i64 (n:=(i:Int)+1) (by omega) (by omega)]
      refine ⟨_,rfl,i+1,?_,by omega,by dsimp only;omega⟩
      dsimp only
      rw [hs,hgd];rfl
     ·rw [sel_pos rfl,wrap_i64 (n:=k-1) (by omega) (by omega),wrap_i64 (n:=k-1-(i:Int)) (by omega) (by omega),wrap_i64 (n:=pos+(k-1-(i:Int))) (by omega) (by omega),chk_of (by simp;omega),show (pos+(k-1-(i:Int))).toNat=pos.toNat+(k.toNat-1-i) from by omega]
      rw [Kerb.shl8_or _ hv.1 (by omega),wrap_i64 (n:=(i:Int)+1) (by omega) (by omega)]
      refine ⟨_,rfl,i+1,?_,by omega,by dsimp only;omega⟩
      dsimp only
      rw [hs,hgd];rfl
    ·rw [sel_neg (by simp;omega)]
     refine ⟨_,rfl,?_⟩
     show _=_
     rw [Xq (by omega),show (i:Int)=k from by omega]
   ·rintro r rfl
    simp only [A0]
    rw [sel_pos (Yu _),wrap_i64 (by omega) (by omega)]
  ·rw [sel_pos (by simpa using hr),if_neg hr]
 ·cases h
theorem w169:Walked Tryz.prog G 169 2 sp169:=by
 refine ⟨Tryz.f169,Tryz.func169,by decide +kernel,rfl,fun xs bl r h=> ?_⟩
 unfold sp169 at h
 split at h
 ·rename_i s c
  cases h
  refine Eq.trans (b:=(some (Zx .i64 (Yv c s),[]):Option (AV×Blocks))) (by kernel_rfl) ?_
  rfl
 ·cases h
theorem w187:Walked Tryz.prog G 187 2 sp187:=by
 refine ⟨Tryz.f187,Tryz.func187,by decide +kernel,rfl,fun xs bl r h=> ?_⟩
 unfold sp187 at h
 split at h
 ·rename_i s c
  cases h
  refine Eq.trans (b:=(some (Zx .i64 (Yv c s),[]):Option (AV×Blocks))) (by kernel_rfl) ?_
  rfl
 ·cases h
theorem w25:Walked Tryz.prog G 25 3 sp25:=by
 refine ⟨Tryz.f25,Tryz.func25,by decide +kernel,rfl,fun xs bl r h=> ?_⟩
 unfold sp25 at h
 split at h
 ·rename_i n
  obtain ⟨hpre,h2⟩:=chk_inv h;cases h2
  refine Eq.trans (b:=(chk (decide (0≤Zn n 3)&&decide (Zn n 3<(↑(Zz [Zk [(97:UInt8),(110:UInt8),(110:UInt8)],Zk [(98:UInt8),(111:UInt8),(98:UInt8)],Zk [(99:UInt8),(97:UInt8),(116:UInt8)]]):Int))&&true) (Wx (Yw [Zk [(97:UInt8),(110:UInt8),(110:UInt8)],Zk [(98:UInt8),(111:UInt8),(98:UInt8)],Zk [(99:UInt8),(97:UInt8),(116:UInt8)]] (Zw (Zn n 3)) Vx) fun b=>Zq (chk (decide (0≤Zy .i64 (Wq n 3))) (some (Zk (Kerb.realm (Zy .i64 (Wq n 3))),[]))) fun (r:AV×Blocks)=>onNilB (Zp r) (Wx (Zh r) fun b_1=>some (Wg [Zk b,Zk [],Zk b_1],[]))):Option (AV×Blocks))) (by kernel_rfl) ?_
  have hn:0≤n:=by first | exact of_decide_eq_true hpre | (simp only [Zg,decide_eq_true_eq] at hpre;exact hpre.1)
  have ht:Zn n 3=n % 3:=Xz hn
  have hcase:n % 3=0∨n % 3=1∨n % 3=2:=by omega
  simp only [Zg,decide_eq_true_eq] at hpre
  have hd:Wq n 3=n / 3:=Wu hn
  rw [hd,wrap_i64 (by omega) (by omega)]
  have hq:decide ((0:Int)≤n / 3)=true:=by simp;omega
  rcases hcase with e | e | e<;>simp [ht,e,chk,Wx,Kerb.user,hq,onNilB]<;>omega
 ·cases h
theorem w36:Walked Tryz.prog G 36 3 sp36:=by
 refine ⟨Tryz.f36,Tryz.func36,by decide +kernel,rfl,fun xs bl r h=> ?_⟩
 unfold sp36 at h
 split at h
 ·rename_i li mu kv rl tk au
  obtain ⟨hpre,h2⟩:=chk_inv h;cases h2
  refine Eq.trans (b:=(Zq (chk (l63 rl) (some (Zu (Kerb.validRealm rl),[]))) (kL fun b=>sel (!b) (some (Zd [Zf [],Zx .i64 103],[])) (sel (!Zb kv 255) (some (Zd [Zf [],Zx .i64 104],[])) (sel (decide ((↑(Zz tk):Int)>255)) (some (Zd [Zf [],Zx .i64 105],[])) (sel (decide ((↑(Zz au):Int)>255)) (some (Zd [Zf [],Zx .i64 105],[])) (sel mu (Zq (chk (decide (Zz (Xh 4 li)≤70368744177664)) (some (Zm (Xh 4 li++Yk kv 1 false),[]))) (kO fun l=>Zq (chk (decide (Zz l+Zz rl≤70368744177664)) (some (Zf (Wv l rl),[]))) (kB fun b=>Zq (chk (decide (Zz b≤70368744177664)) (some (Zm (b++Yk (↑(Zz tk):Int) 1 false),[]))) (kO fun l=>Zq (chk (decide (Zz l≤70368744177664)) (some (Zm (l++Yk (↑(Zz au):Int) 1 false),[]))) (kO fun l=>chk (room (Zz l+Zz tk) 1) (chk (room (Zz (l++tk)+Zz au) 1) (some (Zd [Zf (l++tk++au),Zx .i64 0],[])))))))) (Zq (chk (decide (Zz (Xh 3 li)≤70368744177664)) (some (Zm (Xh 3 li++Yk kv 1 false),[]))) (kO fun l=>Zq (chk (decide (Zz l+Zz rl≤70368744177664)) (some (Zf (Wv l rl),[]))) (kB fun b=>Zq (chk (decide (Zz b≤70368744177664)) (some (Zm (b++Yk (↑(Zz tk):Int) 1 false),[]))) (kO fun l=>Zq (chk (decide (Zz l≤70368744177664)) (some (Zm (l++Yk (↑(Zz au):Int) 1 false),[]))) (kO fun l=>chk (room (Zz l+Zz tk) 1) (chk (room (Zz (l++tk)+Zz au) 1) (some (Zd [Zf (l++tk++au),Zx .i64 0],[]))))))))))))):Option (AV×Blocks))) (by kernel_rfl) ?_
  delta kB kO kL
  try dsimp only [cStr,cBs,cBool,cU8,cInt,cSl,l63]
  simp only [A0,Kerb.Client.av,Kerb.Cache.av,Kerb.Cred.av,hpre]
  unfold Kerb.encodeAp
  simp only
  cases h1:Kerb.validRealm rl
  ·rfl
  rw [Xv,sel_false,if_neg (by simp)]
  cases h2:Zb kv 255
  ·rfl
  rw [Xv,sel_false,if_neg (by simp)]
  by_cases h3:255<tk.length
  ·rw [sel_pos (by simp;omega),if_pos (.inl h3)]
  rw [sel_neg (by simp;omega)]
  by_cases h4:255<au.length
  ·rw [sel_pos (by simp;omega),if_pos (.inr h4)]
  rw [sel_neg (by simp;omega),if_neg (by omega)]
  have l1:=Kerb.validRealm_len h1
  have g3:=Kerb.header_len 3 li
  have g4:=Kerb.header_len 4 li
  cases mu
  ·rw [sel_false,chk_of (by simp;omega),chk_of (by simp [Yq];omega),chk_of (by simp [Yq,Xf];omega),chk_of (by simp [Yq,Xf];omega),chk_of (Yy (by simp [Yq,Xf];omega)),chk_of (Yy (by simp [Yq,Xf];omega))]
   rfl
  ·rw [sel_true,chk_of (by simp;omega),chk_of (by simp [Yq];omega),chk_of (by simp [Yq,Xf];omega),chk_of (by simp [Yq,Xf];omega),chk_of (Yy (by simp [Yq,Xf];omega)),chk_of (Yy (by simp [Yq,Xf];omega))]
   rfl
 ·cases h
theorem w59:Walked Tryz.prog G 59 3 sp59:=by
 refine ⟨Tryz.f59,Tryz.func59,by decide +kernel,rfl,fun xs bl r h=> ?_⟩
 unfold sp59 at h
 split at h
 ·rename_i kd k bd
  obtain ⟨hpre,h2⟩:=chk_inv h;cases h2
  refine Eq.trans (b:=(let t0:List UInt8:=[Yx (Zw (Zy .u8 (Wj (↑(Zz bd):Int) (2 ^ min (Zw 8) (Zj .i64))))),Yx (Zw (Zy .u8 (↑(Zz bd):Int)))];let t1:List UInt8:=[(66:UInt8),Yx (Zw (Zy .u8 kd))];sel (decide (kd<1)) (some (Zd [Zf [],Zx .i64 104],[])) (sel (decide (kd>10)) (some (Zd [Zf [],Zx .i64 104],[])) (Zq (chk (decide (0≤k)&&decide (k<18446744073709551616)) (some (Zu (Yd k),[]))) (kL fun b=>sel (!b) (some (Zd [Zf [],Zx .i64 10],[])) (sel (decide ((↑(Zz bd):Int)>1000)) (some (Zd [Zf [],Zx .i64 105],[])) (Zq (chk (decide (0≤k)&&decide (k<18446744073709551616)) (some (Zf (Kerb.keyBytes k),[]))) (kB fun b=>chk (room (Zz t1+Zz b) 1) (chk (room (Zz (t1++b)+Zz t0) 1) (chk (room (Zz (t1++b++t0)+Zz bd) 1) (some (Zd [Zf (t1++b++t0++bd),Zx .i64 0],[])))))))))):Option (AV×Blocks))) (by kernel_rfl) ?_
  delta kB kL
  try dsimp only [cStr,cBs,cBool,cU8,cInt,cSl,l63]
  simp only [A0,Kerb.Client.av,Kerb.Cache.av,Kerb.Cred.av,hpre]
  unfold Kerb.makeBox
  by_cases k1:1≤kd
  case neg =>
   rw [sel_pos (by simp;omega),if_pos (by simp [Yg];omega)]
  by_cases k2:kd≤10
  case neg =>
   rw [sel_neg (by simp;omega),sel_pos (by simp;omega),if_pos (by simp [Yg];omega)]
  rw [sel_neg (by simp;omega),sel_neg (by simp;omega),if_neg (by simp [Yg];omega)]
  cases h2:Yd k
  ·rfl
  rw [Xv,sel_false,if_neg (by simp)]
  by_cases h3:1000<bd.length
  ·rw [sel_pos (by simp;omega),if_pos h3]
  have lk:=Kerb.keyBytes_len k
  rw [sel_neg (by simp;omega),if_neg h3,chk_of (Yy (by simp;omega)),chk_of (Yy (by simp;omega)),chk_of (Yy (by simp;omega)),Kerb.two_bytes,Kerb.wrap_u8,Int.emod_eq_of_lt (by omega) (by omega)]
 ·cases h
theorem w60:Walked Tryz.prog G 60 3 sp60:=by
 refine ⟨Tryz.f60,Tryz.func60,by decide +kernel,rfl,fun xs bl r h=> ?_⟩
 unfold sp60 at h
 split at h
 ·rename_i s li
  cases h
  refine Eq.trans (b:=(sel (decide ((↑(Zz s):Int)>1012)) (some (Zd [Zf [],Zx .i64 105],[])) (Zq (chk (decide (Zz (Xh 8 li)≤70368744177664)) (some (Zm (Xh 8 li++Yk (↑(Zz s):Int) 2 li),[]))) fun (r:AV×Blocks)=>onNilB (Zp r) (Yh (Zh r) fun l=>chk (room (Zz l+Zz s) 1) (some (Zd [Zf (l++s),Zx .i64 0],[])))):Option (AV×Blocks))) (by kernel_rfl) ?_
  unfold Kerb.encodeAns
  by_cases h:1012<s.length
  ·rw [sel_pos (by simp;omega),if_pos h]
  rw [sel_neg (by simp;omega),if_neg h]
  have hl:(Xh 8 li).length=2:=by cases li<;>rfl
  simp only [↓A0]
  rw [chk_of (by simp [hl]),chk_of (by simp [room,Yq,hl];omega)]
 ·cases h
theorem w73:Walked Tryz.prog G 73 3 sp73:=by
 refine ⟨Tryz.f73,Tryz.func73,by decide +kernel,rfl,fun xs bl r h=> ?_⟩
 unfold sp73 at h
 split at h
 ·rename_i n
  obtain ⟨hpre,h2⟩:=chk_inv h;cases h2
  refine Eq.trans (b:=(chk (decide (0≤Zn n 3)&&decide (Zn n 3<(↑(Zz [Wg [Zk [(109:UInt8),(97:UInt8),(105:UInt8),(108:UInt8)],Zk [],Zk []],Wg [Zk [(110:UInt8),(102:UInt8),(115:UInt8)],Zk [(104:UInt8),(111:UInt8),(109:UInt8),(101:UInt8)],Zk []],Wg [Zk [(107:UInt8),(114:UInt8),(98:UInt8),(116:UInt8),(103:UInt8),(116:UInt8)],Zk [(65:UInt8),(84:UInt8),(72:UInt8)],Zk []]]):Int))&&true) (AV.onAgg (Yw [Wg [Zk [(109:UInt8),(97:UInt8),(105:UInt8),(108:UInt8)],Zk [],Zk []],Wg [Zk [(110:UInt8),(102:UInt8),(115:UInt8)],Zk [(104:UInt8),(111:UInt8),(109:UInt8),(101:UInt8)],Zk []],Wg [Zk [(107:UInt8),(114:UInt8),(98:UInt8),(116:UInt8),(103:UInt8),(116:UInt8)],Zk [(65:UInt8),(84:UInt8),(72:UInt8)],Zk []]] (Zw (Zn n 3)) Vx) fun cs=>onCons cs fun x r=>Wx x fun b=>onCons r fun x r=>Wx x fun b_1=>onCons r fun x r=>Wx x fun b_2=>onNil r (Zq (chk (decide (0≤Zy .i64 (Wq n 3))) (some (Zk (Kerb.realm (Zy .i64 (Wq n 3))),[]))) fun (r:AV×Blocks)=>onNilB (Zp r) (Wx (Zh r) fun b_3=>some (Wg [Zk b,Zk b_1,Zk b_3],[])))):Option (AV×Blocks))) (by kernel_rfl) ?_
  have hn:0≤n:=by first | exact of_decide_eq_true hpre | (simp only [Zg,decide_eq_true_eq] at hpre;exact hpre.1)
  have ht:Zn n 3=n % 3:=Xz hn
  have hcase:n % 3=0∨n % 3=1∨n % 3=2:=by omega
  simp only [Zg,decide_eq_true_eq] at hpre
  have hd:Wq n 3=n / 3:=Wu hn
  rw [hd,wrap_i64 (by omega) (by omega)]
  have hq:decide ((0:Int)≤n / 3)=true:=by simp;omega
  rcases hcase with e | e | e<;>simp [ht,e,chk,Wx,AV.onAgg,onCons,onNil,Kerb.service,hq,onNilB]<;>omega
 ·cases h
theorem w77:Walked Tryz.prog G 77 3 sp77:=by
 refine ⟨Tryz.f77,Tryz.func77,by decide +kernel,rfl,fun xs bl r h=> ?_⟩
 unfold sp77 at h
 split at h
 ·rename_i a b c
  obtain ⟨hpre,h2⟩:=chk_inv h;cases h2
  refine Eq.trans (b:=(Zq (chk (decide (Zz a≤9223372036854775807)) (some (Zu (Kerb.validName a),[]))) fun (r:AV×Blocks)=>onNilB (Zp r) (Ww (Zh r) fun b_1=>sel b_1 (Zq (chk (decide (Zz b≤9223372036854775807)) (some (Zu (Kerb.validInst b),[]))) fun (r:AV×Blocks)=>onNilB (Zp r) (Ww (Zh r) fun b=>sel b (Zq (chk (decide (Zz c≤9223372036854775807)) (some (Zu (Kerb.validRealm c),[]))) fun (r:AV×Blocks)=>onNilB (Zp r) (Ww (Zh r) fun b=>some (Zu b,[]))) (some (Zu false,[])))) (some (Zu false,[]))):Option (AV×Blocks))) (by kernel_rfl) ?_
  simp only [Zg,decide_eq_true_eq] at hpre
  simp only [A0]
  rw [chk_of (by simp;omega),chk_of (by simp;omega),chk_of (by simp;omega)]
  simp only [Kerb.Prin.valid]
  cases Kerb.validName a<;>cases Kerb.validInst b<;>rfl
 ·cases h
theorem w86:Walked Tryz.prog G 86 3 sp86:=by
 refine ⟨Tryz.f86,Tryz.func86,by decide +kernel,rfl,fun xs bl r h=> ?_⟩
 unfold sp86 at h
 split at h
 ·rename_i b els
  obtain ⟨hpre,h2⟩:=chk_inv h;cases h2
  refine Eq.trans (b:=(sel (!Kerb.Head.err (Yb b)==0) (some (Zd [Zu false,Zx .i64 (Kerb.Head.err (Yb b))],[])) (Zq (chk (allInts els&&decide (Zz els≤1000)) (some (Zu (List.contains (intsIn els) (Kerb.Head.kind (Yb b))),[]))) fun (r:AV×Blocks)=>onNilB (Zp r) (Ww (Zh r) fun b_1=>sel (!b_1) (some (Zd [Zu false,Zx .i64 40],[])) (some (Zd [Zu (Kerb.Head.little (Yb b)),Zx .i64 0],[])))):Option (AV×Blocks))) (by kernel_rfl) ?_
  simp only [A0]
  unfold Kerb.headIs
  by_cases h:(Yb b).err=0
  ·rw [sel_neg (by simp [h]),chk_of hpre]
   cases hc:(intsIn els).contains (Yb b).kind<;>simp [sel,h,hc]
  ·rw [sel_pos (by simpa using h)]
   simp [h]
 ·cases h
theorem w96:Walked Tryz.prog G 96 3 sp96:=by
 refine ⟨Tryz.f96,Tryz.func96,by decide +kernel,rfl,fun xs bl r h=> ?_⟩
 unfold sp96 at h
 split at h
 ·rename_i kls x y z v
  obtain ⟨hpre,h2⟩:=chk_inv h;cases h2
  refine Eq.trans (b:=(Zq (chk (List.all kls Kerb.isSKey&&decide (Zz kls≤1000000)) (some (Zx .i64 (↑(Wb (List.map Kerb.toSKey kls) (Kerb.Prin.mk x y z) v):Int),[]))) fun (r:AV×Blocks)=>onNilB (Zp r) (Yj .i64 (Zh r) fun n=>sel (n==(↑(Zz kls):Int)) (some (Zd [Zx .u64 0,Zu false],[])) (chk (decide (0≤n)&&decide (n<(↑(Zz kls):Int))&&true) (AV.onAgg (Yw kls (Zw n) Vx) fun cs=>onCons cs fun x r=>Wx x fun b=>onCons r fun x r=>Wx x fun b=>onCons r fun x r=>Wx x fun b=>onCons r fun x r=>Yj .i64 x fun n=>onCons r fun x r=>Yj .u64 x fun n=>onNil r (some (Zd [Zx .u64 n,Zu true],[]))))):Option (AV×Blocks))) (by kernel_rfl) ?_
  simp only [Zg,decide_eq_true_eq] at hpre
  obtain ⟨hall,hlen⟩:=hpre
  obtain ⟨cs,rfl,hok⟩:=Kerb.skeys_of hall
  simp only [Kerb.map_toSKey,Vy,↓A0,A0] at hlen ⊢
  rw [chk_of (by rw [hall];simp;omega)]
  have hle:=Kerb.skAt_le cs ⟨x,y,z⟩ v
  unfold Kerb.skFind
  by_cases h:Wb cs ⟨x,y,z⟩ v<cs.length
  ·rw [sel_neg (by simp;omega),chk_of (by simp;omega),Yf,Kerb.getD_row (d:=Kerb.noSKey) h,if_pos h]
   simp only [Wm,↓A0,A0]
  ·rw [sel_pos (by simp;omega),if_neg h]
 ·cases h
theorem w101:Walked Tryz.prog G 101 3 sp101:=by
 refine ⟨Tryz.f101,Tryz.func101,by decide +kernel,rfl,fun xs bl r h=> ?_⟩
 unfold sp101 at h
 split at h
 ·rename_i i l n s
  cases h
  refine Eq.trans (b:=(sel (!Zb i 4294967295) (some (Zx .i64 104,[])) (sel (!Zb n 4294967295) (some (Zx .i64 104,[])) (sel (!Zb l 255) (some (Zx .i64 104,[])) (sel (!Zb s 4294967295) (some (Zx .i64 104,[])) (sel (decide (i>Zy .i64 (n+s))) (some (Zx .i64 33,[])) (sel (decide (n>Zy .i64 (Kerb.tEnd i l+s))) (some (Zx .i64 32,[])) (some (Zx .i64 0,[]))))))):Option (AV×Blocks))) (by kernel_rfl) ?_
  unfold Kerb.stateErr
  cases h1:Zb i 4294967295
  ·rfl
  cases h2:Zb n 4294967295
  ·rfl
  cases h3:Zb l 255
  ·rfl
  cases h4:Zb s 4294967295
  ·rfl
  have b1:=Kerb.within_iff.1 h1
  have b2:=Kerb.within_iff.1 h2
  have b3:=Kerb.within_iff.1 h3
  have b4:=Kerb.within_iff.1 h4
  have he:Kerb.tEnd i l=i+300*(l+1):=by simp [Kerb.tEnd,h1,h3]
  simp only [Xv,sel_false,Bool.and_self,Bool.false_eq_true,if_false,he]
  rw [wrap_i64 (by omega) (by omega),wrap_i64 (by omega) (by omega)]
  by_cases h5:n+s<i
  ·rw [sel_pos (by simpa using h5),if_pos h5]
  rw [sel_neg (by simpa using h5),if_neg h5]
  by_cases h6:i+300*(l+1)+s<n
  ·rw [sel_pos (by simpa using h6),if_pos h6]
  rw [sel_neg (by simpa using h6),if_neg h6]
 ·cases h
theorem w112:Walked Tryz.prog G 112 3 sp112:=by
 refine ⟨Tryz.f112,Tryz.func112,by decide +kernel,rfl,fun xs bl r h=> ?_⟩
 unfold sp112 at h
 split at h
 ·rename_i b
  obtain ⟨hpre,h2⟩:=chk_inv h;cases h2
  refine Eq.trans (b:=(chk (decide (0≤Zn (Zy .i64 (8-Zn (↑(Zz b):Int) 8)) 8)&&decide (Zn (Zy .i64 (8-Zn (↑(Zz b):Int) 8)) 8≤Zn (Zy .i64 (8-Zn (↑(Zz b):Int) 8)) 8)&&decide (Zn (Zy .i64 (8-Zn (↑(Zz b):Int) 8)) 8≤140737488355328)) (Zq (chk (decide (Zz (Xj b (Xj (Xg (Zw (Zn (Zy .i64 (8-Zn (↑(Zz b):Int) 8)) 8)) (0:UInt8)) []))≤140737488355328)&&decide (Zz [Zf b,Zf (Xg (Zw (Zn (Zy .i64 (8-Zn (↑(Zz b):Int) 8)) 8)) (0:UInt8))]≤1000)) (some (Zm (Xj b (Xj (Xg (Zw (Zn (Zy .i64 (8-Zn (↑(Zz b):Int) 8)) 8)) (0:UInt8)) [])),[]))) fun (r:AV×Blocks)=>onNilB (Zp r) (Yh (Zh r) fun l=>some (Zf l,[]))):Option (AV×Blocks))) (by kernel_rfl) ?_
  have hb:=of_decide_eq_true hpre
  rw [Kerb.pad_eq hb]
  simp only [A0]
  rw [chk_of (by simp;omega),chk_of (by simp;omega)]
  simp [Kerb.pad]
  omega
 ·cases h
theorem w114:Walked Tryz.prog G 114 3 sp114:=by
 refine ⟨Tryz.f114,Tryz.func114,by decide +kernel,rfl,fun xs bl r h=> ?_⟩
 unfold sp114 at h
 split at h
 ·rename_i k
  obtain ⟨hpre,h2⟩:=chk_inv h;cases h2
  refine Eq.trans (b:=(Zq (chk (decide (0≤k)&&decide (k<18446744073709551616)) (some (Zd [Zx .i64 (bif Yd k then Kerb.keyClass k else 0),Zx .i64 (bif Yd k then Kerb.keySerial k else 0),Zu (Yd k)],[]))) fun (r:AV×Blocks)=>onNilB (Zp r) (Vv (Zh r) fun vs=>onCons vs fun x r=>Yj .i64 x fun n=>onCons r fun x r=>Yj .i64 x fun n=>onCons r fun x r=>Ww x fun b=>onNil r (some (Zu b,[]))):Option (AV×Blocks))) (by kernel_rfl) ?_
  simp only [A0]
  rw [chk_of hpre]
 ·cases h
theorem w120:Walked Tryz.prog G 120 3 sp120:=by
 refine ⟨Tryz.f120,Tryz.func120,by decide +kernel,rfl,fun xs bl r h=> ?_⟩
 unfold sp120 at h
 split at h
 ·rename_i b little
  obtain ⟨hpre,h2⟩:=chk_inv h;cases h2
  refine Eq.trans (b:=(sel little (Zq (chk (decide (Zz b≤70368744177664)) (some (Zm (b++Yk 1 1 false),[]))) fun (r:AV×Blocks)=>onNilB (Zp r) (Yh (Zh r) fun l=>some (Zm l,[]))) (Zq (chk (decide (Zz b≤70368744177664)) (some (Zm (b++Yk 0 1 false),[]))) fun (r:AV×Blocks)=>onNilB (Zp r) (Yh (Zh r) fun l=>some (Zm l,[]))):Option (AV×Blocks))) (by kernel_rfl) ?_
  simp only [A0]
  rw [chk_of hpre,chk_of hpre]
  cases little<;>rfl
 ·cases h
theorem w132:Walked Tryz.prog G 132 3 sp132:=by
 refine ⟨Tryz.f132,Tryz.func132,by decide +kernel,rfl,fun xs bl r h=> ?_⟩
 unfold sp132 at h
 split at h
 ·rename_i b pos little
  obtain ⟨hpre,h2⟩:=chk_inv h;cases h2
  refine Eq.trans (b:=(Zq (chk (decide (Zz b≤140737488355328)&&true&&true) (some (Zd [Zx .i64 (Wh (Xk b pos 2 little)),Zx .i64 (Wf (Xk b pos 2 little)),Zx .i64 (Vz (Xk b pos 2 little))],[]))) fun (r:AV×Blocks)=>onNilB (Zp r) (Vv (Zh r) fun vs=>onCons vs fun x r=>Yj .i64 x fun n=>onCons r fun x r=>Yj .i64 x fun n_1=>onCons r fun x r=>Yj .i64 x fun n_2=>onNil r (some (Zd [Zx .i64 n,Zx .i64 n_1,Zx .i64 n_2],[]))):Option (AV×Blocks))) (by kernel_rfl) ?_
  simp only [A0]
  rw [chk_of (by rw [hpre];rfl)]
 ·cases h
theorem w135:Walked Tryz.prog G 135 3 sp135:=by
 refine ⟨Tryz.f135,Tryz.func135,by decide +kernel,rfl,fun xs bl r h=> ?_⟩
 unfold sp135 at h
 split at h
 ·rename_i b
  obtain ⟨hpre,h2⟩:=chk_inv h;cases h2
  refine Eq.trans (b:=(sel (!(↑(Zz b):Int)==8) (some (Zd [Zx .u64 0,Zu false],[])) (Zq (loopM (fun (st:List AV)=>cBs st fun b r=>cInt .u64 r fun n r=>cInt .i64 r fun n_1 r=>onNil r (sel (decide (n_1<8)) (chk (decide (0≤n_1)&&decide (n_1<(↑(Zz b):Int))) (some (Xn [Zf b,Zx .u64 (Zy .u64 (↑(BitVec.toNat (BitVec.ofInt (Zj .u64) (Zy .u64 (n*2 ^ min (Zw 8) (Zj .u64))) ||| BitVec.ofInt (Zj .u64) (Zy .u64 (↑(Yz (Yw b (Zw n_1) (0:UInt8))):Int)))):Int)),Zx .i64 (Zy .i64 (n_1+1))]))) (some (Xp (Yn 0,[Zf b,Zx .u64 n,Zx .i64 n_1]))))) [Zf b,Zx .u64 0,Zx .i64 0]) fun (r:Ex×List AV)=>cBs (Zp r) fun b r_1=>cInt .u64 r_1 fun n r_2=>cInt .i64 r_2 fun n_1 r_3=>onNil r_3 (exK r.1 none fun (j:Nat)=>sel (Wy j 0) (Zq (chk (decide (0≤n)&&decide (n<18446744073709551616)) (some (Zu (Yd n),[]))) (kL fun b=>sel (!b) (some (Zd [Zx .u64 0,Zu false],[])) (some (Zd [Zx .u64 n,Zu true],[])))) none)):Option (AV×Blocks))) (by kernel_rfl) ?_
  delta kL
  try dsimp only [cStr,cBs,cBool,cU8,cInt,cSl,l63]
  have hb:=of_decide_eq_true hpre
  unfold Kerb.keyRead
  by_cases h8:b.length=8
  case neg =>
   rw [sel_pos (by simp;omega),if_neg (by omega)]
  rw [sel_neg (by simp [h8])]
  refine loop_rounds (fun i:Nat=>[Zf b,Zx Xw (Kerb.valB (b.take i)),Zx Zv (i:Int)]) (fun i=>i≤8) (fun i=>8-i)
   (fun r=>r=(Yn 0,[Zf b,Zx Xw (Kerb.valB b),Zx Zv 8])) 0 (by omega) rfl ?_ ?_
  ·intro i hi
   simp only [A0]
   by_cases hlt:i<8
   ·have hv:=Kerb.valB_take (l:=b) (i:=i) (by omega)
    have hbd:=Kerb.valB_bd7 (l:=b.take i) (by simp;omega)
    rw [sel_pos (by simp;omega),chk_of (by simp;omega),Yf,Kerb.shl8_oru _ hbd.1 hbd.2,wrap_i64 (by omega) (by omega),← hv]
    exact ⟨_,rfl,i+1,rfl,by omega,by dsimp only;omega⟩
   ·rw [sel_neg (by simp;omega)]
    refine ⟨_,rfl,?_⟩
    show _=_
    rw [Xq (by omega),show i=8 from by omega]
    rfl
  rintro r rfl
  have hbd:=Kerb.valB_bd8 (l:=b) (by omega)
  simp only [A0]
  rw [sel_pos (Yu _),chk_of (by simp;omega)]
  cases hv:Yd (Kerb.valB b)
  ·rw [if_neg (by simp)]
   rfl
  ·rw [if_pos ⟨h8,rfl⟩]
   rfl
 ·cases h
theorem w136:Walked Tryz.prog G 136 3 sp136:=by
 refine ⟨Tryz.f136,Tryz.func136,by decide +kernel,rfl,fun xs bl r h=> ?_⟩
 unfold sp136 at h
 split at h
 ·rename_i b pos
  obtain ⟨hpre,h2⟩:=chk_inv h;cases h2
  refine Eq.trans (b:=(Zq (chk (decide (Zz b≤140737488355328)&&true&&true) (some (Zd [Zx .i64 (Wh (Xk b pos 1 false)),Zx .i64 (Wf (Xk b pos 1 false)),Zx .i64 (Vz (Xk b pos 1 false))],[]))) fun (r:AV×Blocks)=>onNilB (Zp r) (Vv (Zh r) fun vs=>onCons vs fun x r=>Yj .i64 x fun n=>onCons r fun x r=>Yj .i64 x fun n_1=>onCons r fun x r=>Yj .i64 x fun n_2=>onNil r (some (Zd [Zx .i64 n,Zx .i64 n_1,Zx .i64 n_2],[]))):Option (AV×Blocks))) (by kernel_rfl) ?_
  simp only [A0]
  rw [chk_of (by rw [hpre];rfl)]
 ·cases h
theorem w137:Walked Tryz.prog G 137 3 sp137:=by
 refine ⟨Tryz.f137,Tryz.func137,by decide +kernel,rfl,fun xs bl r h=> ?_⟩
 unfold sp137 at h
 split at h
 ·rename_i b pos little
  obtain ⟨hpre,h2⟩:=chk_inv h;cases h2
  refine Eq.trans (b:=(Zq (chk (decide (Zz b≤140737488355328)&&true&&true) (some (Zd [Zx .i64 (Wh (Xk b pos 4 little)),Zx .i64 (Wf (Xk b pos 4 little)),Zx .i64 (Vz (Xk b pos 4 little))],[]))) fun (r:AV×Blocks)=>onNilB (Zp r) (Vv (Zh r) fun vs=>onCons vs fun x r=>Yj .i64 x fun n=>onCons r fun x r=>Yj .i64 x fun n_1=>onCons r fun x r=>Yj .i64 x fun n_2=>onNil r (some (Zd [Zx .i64 n,Zx .i64 n_1,Zx .i64 n_2],[]))):Option (AV×Blocks))) (by kernel_rfl) ?_
  simp only [A0]
  rw [chk_of (by rw [hpre];rfl)]
 ·cases h
theorem w144:Walked Tryz.prog G 144 3 sp144:=by
 refine ⟨Tryz.f144,Tryz.func144,by decide +kernel,rfl,fun xs bl r h=> ?_⟩
 unfold sp144 at h
 split at h
 ·rename_i b pos
  obtain ⟨hpre,h2⟩:=chk_inv h;cases h2
  refine Eq.trans (b:=(Zq (chk (decide (Zz b≤4611686018427387904)&&true&&true) (some (Zd [Zx .i64 (Wh (Xk b pos 1 false)),Zx .i64 (Wf (Xk b pos 1 false)),Zx .i64 (Vz (Xk b pos 1 false))],[]))) fun (r:AV×Blocks)=>onNilB (Zp r) (Vv (Zh r) fun vs=>onCons vs fun x r=>Yj .i64 x fun n=>onCons r fun x r=>Yj .i64 x fun n_1=>onCons r fun x r=>Yj .i64 x fun n_2=>onNil r (some (Zd [Zx .i64 n,Zx .i64 n_1,Zx .i64 n_2],[]))):Option (AV×Blocks))) (by kernel_rfl) ?_
  simp only [A0]
  rw [chk_of (by rw [hpre];rfl)]
 ·cases h
theorem w145:Walked Tryz.prog G 145 3 sp145:=by
 refine ⟨Tryz.f145,Tryz.func145,by decide +kernel,rfl,fun xs bl r h=> ?_⟩
 unfold sp145 at h
 split at h
 ·rename_i b pos
  obtain ⟨hpre,h2⟩:=chk_inv h;cases h2
  refine Eq.trans (b:=(let t5:List UInt8:=Xy (Zw pos) (Ym (Zw (↑(Zz b):Int)) b);let t6:Option (AV×Blocks):=some (Zd [Zk [],Zx .i64 0,Zx .i64 105],[]);let t7:Option (AV×Blocks):=some (Zd [Zk [],Zx .i64 0,Zx .i64 101],[]);let t1:Int:=Yv (0:UInt8) t5;let t2:Int:=(↑(Zz t5):Int);let t4:List UInt8:=Xy (Zw (↑(0:Nat):Int)) (Ym (Zw 40) t5);let t0:Int:=Yv (0:UInt8) t4;let t3:Int:=(↑(Zz t4):Int);Zq (chk (decide (Zz b≤4611686018427387904)) (some (Zx .i64 (Xu b pos 0),[]))) (kI .i64 fun n=>sel (!n==0) (some (Zd [Zk [],Zx .i64 0,Zx .i64 n],[])) (chk (decide (0≤pos)&&decide (pos≤(↑(Zz b):Int))&&decide ((↑(Zz b):Int)≤(↑(Zz b):Int))) (sel (decide (t2>40)) (chk (decide (40≤t2)) (sel (decide (t0≥0)) (chk (decide ((↑(0:Nat):Int)≤t0)&&decide (t0≤t3)) (some (Zd [Zk (Xy (Zw (↑(0:Nat):Int)) (Ym (Zw t0) t4)),Zx .i64 (Zy .i64 (Zy .i64 (pos+t0)+1)),Zx .i64 0],[]))) (sel (t3==40) t6 t7))) (sel (decide (t1≥0)) (chk (decide ((↑(0:Nat):Int)≤t1)&&decide (t1≤t2)) (some (Zd [Zk (Xy (Zw (↑(0:Nat):Int)) (Ym (Zw t1) t5)),Zx .i64 (Zy .i64 (Zy .i64 (pos+t1)+1)),Zx .i64 0],[]))) (sel (t2==40) t6 t7))))):Option (AV×Blocks))) (by kernel_rfl) ?_
  delta kI
  try dsimp only [cStr,cBs,cBool,cU8,cInt,cSl,l63]
  simp only [decide_eq_true_eq] at hpre
  simp only [A0]
  rw [chk_of (by simpa using hpre)]
  have ht:(Ym (Zw (b.length:Int)) b)=b:=by simp
  rw [ht]
  unfold Kerb.text
  by_cases hr:Xu b pos 0=0
  case neg =>
   have h104:Xu b pos 0=104:=by
    unfold Xu at hr ⊢
    split at hr
    ·rw [if_pos (by assumption)]
    ·split at hr<;>omega
   rw [sel_pos (by simpa using hr),if_neg hr,h104]
  obtain ⟨q1,q2,_,_⟩:=Kerb.room_zero.1 hr
  rw [sel_neg (by simp [hr]),if_pos hr,chk_of (by simp;omega)]
  obtain ⟨R,hR⟩:∃ R,R=b.drop pos.toNat:=⟨_,rfl⟩
  have hRl:R.length=b.length-pos.toNat:=by rw [hR];simp
  rw [← hR]
  obtain ⟨T,hT⟩:∃ T,T=R.take 40:=⟨_,rfl⟩
  have hix:=Kerb.indexOf_bd 0 T
  have key:(sel (decide (Yv (0:UInt8) T≥(0:Int)))
    (chk (decide (((0:Nat):Int)≤Yv (0:UInt8) T)&&decide (Yv (0:UInt8) T≤(T.length:Int)))
     (some (Zd [Zk (Xy (Zw ((0:Nat):Int)) (Ym (Zw (Yv (0:UInt8) T)) T)),Zx Zv (Zy Zv (Zy Zv (pos+Yv (0:UInt8) T)+(1:Int))),Zx Zv (0:Int)],([]:Blocks))))
    (sel (((T.length:Int))==(40:Int)) (some (Zd [Zk [],Zx Zv (0:Int),Zx Zv (105:Int)],[]))
     (some (Zd [Zk [],Zx Zv (0:Int),Zx Zv (101:Int)],[])))) =
    some (Zd [Zk (if 0≤Yv 0 T then (⟨T.take (Yv 0 T).toNat,pos+Yv 0 T+1,0⟩:Kerb.GotB) else if T.length=40 then ⟨[],0,105⟩ else ⟨[],0,101⟩).val,
     Zx Zv (if 0≤Yv 0 T then (⟨T.take (Yv 0 T).toNat,pos+Yv 0 T+1,0⟩:Kerb.GotB) else if T.length=40 then ⟨[],0,105⟩ else ⟨[],0,101⟩).next,
     Zx Zv (if 0≤Yv 0 T then (⟨T.take (Yv 0 T).toNat,pos+Yv 0 T+1,0⟩:Kerb.GotB) else if T.length=40 then ⟨[],0,105⟩ else ⟨[],0,101⟩).err],[]):=by
   have hTl:T.length≤b.length-pos.toNat:=by rw [hT];simp;omega
   by_cases hi:0≤Yv 0 T
   ·rw [sel_pos (by simpa using hi),chk_of (by simp;omega),if_pos hi,wrap_i64 (n:=pos+Yv 0 T) (by omega) (by omega),wrap_i64 (by omega) (by omega)]
    rfl
   ·rw [sel_neg (by simp;omega),if_neg hi]
    by_cases h40:T.length=40
    ·rw [sel_pos (by simp [h40]),if_pos h40]
    ·rw [sel_neg (by simp;omega),if_neg h40]
  by_cases hlong:40<R.length
  ·rw [sel_pos (by simp;omega),chk_of (by simp;omega)]
   have e1:Xy (Zw ((0:Nat):Int)) (Ym (Zw (40:Int)) R)=T:=by rw [hT];rfl
   rw [e1]
   rw [← hT]
   exact key
  ·rw [sel_neg (by simp;omega)]
   have e1:R=T:=by rw [hT,Xq (by omega)]
   rw [← hT,e1]
   exact key
 ·cases h
theorem w147:Walked Tryz.prog G 147 3 sp147:=by
 refine ⟨Tryz.f147,Tryz.func147,by decide +kernel,rfl,fun xs bl r h=> ?_⟩
 unfold sp147 at h
 split at h
 ·rename_i b s
  obtain ⟨hpre,h2⟩:=chk_inv h;cases h2
  refine Eq.trans (b:=(Zq (chk (decide (Zz (Xj b (Xj s ((0:UInt8)::Xj [] [])))≤140737488355328)&&decide (Zz [Zf b,Zf s,Zf [(0:UInt8)]]≤1000)) (some (Zm (Xj b (Xj s ((0:UInt8)::Xj [] []))),[]))) fun (r:AV×Blocks)=>onNilB (Zp r) (Yh (Zh r) fun l=>some (Zf l,[])):Option (AV×Blocks))) (by kernel_rfl) ?_
  simp only [decide_eq_true_eq] at hpre
  simp only [A0]
  rw [chk_of (by simp;omega)]
  simp [Wv]
 ·cases h
theorem w160:Walked Tryz.prog G 160 3 sp160:=by
 refine ⟨Tryz.f160,Tryz.func160,by decide +kernel,rfl,fun xs bl r h=> ?_⟩
 unfold sp160 at h
 split at h
 ·rename_i b n k little
  obtain ⟨hpre,h2⟩:=chk_inv h;cases h2
  refine Eq.trans (b:=(Zq (loopM (fun (st:List AV)=>cBs st fun b r=>cInt .i64 r fun n r=>cInt .i64 r fun n_1 r=>cBool r fun b_1 r=>cBs r fun c r=>cInt .i64 r fun n_2 r=>cInt .i64 r fun n_3 r=>let t0:Int:=Zy .i64 (Zy .i64 (n_1-1)-n_3);let t1:UInt8:=Yx (Zw (Zy .u8 (Wj n (2 ^ min (Zw (Zy .i64 (8*n_3))) (Zj .i64)))));onNil r (sel (decide (n_3<n_2)) (sel (!b_1) (chk (decide (0≤Zy .i64 (8*n_3))) (chk (decide (0≤t0)&&decide (t0<(↑(Zz c):Int))&&Wy (Zz c) 4&&true) (chk (Vu (Zw t0) (Zz c)&&true&&true&&true&&true) (some (Xn [Zf b,Zx .i64 n,Zx .i64 n_1,Zu b_1,Zf (List.set c (Zw t0) t1),Zx .i64 n_2,Zx .i64 (Zy .i64 (n_3+1))]))))) (chk (decide (0≤Zy .i64 (8*n_3))) (chk (decide (0≤n_3)&&decide (n_3<(↑(Zz c):Int))&&Wy (Zz c) 4&&true) (chk (Vu (Zw n_3) (Zz c)&&true&&true&&true&&true) (some (Xn [Zf b,Zx .i64 n,Zx .i64 n_1,Zu b_1,Zf (List.set c (Zw n_3) t1),Zx .i64 n_2,Zx .i64 (Zy .i64 (n_3+1))])))))) (some (Xp (Yn 0,[Zf b,Zx .i64 n,Zx .i64 n_1,Zu b_1,Zf c,Zx .i64 n_2,Zx .i64 n_3]))))) [Zf b,Zx .i64 n,Zx .i64 k,Zu little,Zf [(0:UInt8),(0:UInt8),(0:UInt8),(0:UInt8)],Zx .i64 k,Zx .i64 0]) fun (r:Ex×List AV)=>cBs (Zp r) fun b r_1=>cInt .i64 r_1 fun n r_2=>cInt .i64 r_2 fun n r_3=>cBool r_3 fun b_1 r_4=>cBs r_4 fun c r_5=>let t2:Nat:=Zz [Zf b,Zf (Xy (Zw (↑(0:Nat):Int)) (Ym (Zw n) c))];let t3:Nat:=Zz (Xj b (Xj (Xy (Zw (↑(0:Nat):Int)) (Ym (Zw n) c)) []));cInt .i64 r_5 fun n_1 r_6=>cInt .i64 r_6 fun n_2 r_7=>onNil r_7 (exK r.1 none fun (j:Nat)=>sel (Wy j 0) (chk (decide ((↑(0:Nat):Int)≤n)&&decide (n≤(↑(Zz c):Int))&&Wy (Zz c) 4) (Zq (chk (decide (t3≤140737488355328)&&decide (t2≤1000)) (some (Zm (Xj b (Xj (Xy (Zw (↑(0:Nat):Int)) (Ym (Zw n) c)) [])),[]))) (kO fun l=>some (Zm l,[])))) none):Option (AV×Blocks))) (by kernel_rfl) ?_
  delta kO
  try dsimp only [cStr,cBs,cBool,cU8,cInt,cSl,l63]
  simp only [Zg,decide_eq_true_eq] at hpre
  obtain ⟨hk,hb⟩:=hpre
  rcases hk with rfl | rfl | rfl<;>cases little
  ·refine loop_unroll 2 (Yn 0,[Zf b,Zx Zv n,Zx Zv 1,Zu false,Zf [Yp n 0,(0:UInt8),(0:UInt8),(0:UInt8)],Zx Zv 1,Zx Zv 1]) (by kernel_rfl) ?_
   simp only [A0]
   rw [sel_pos (Yu _),chk_of (by simp),chk_of (by simp;omega)]
   simp [Wd,Yk,Wp,Xm]
  ·refine loop_unroll 2 (Yn 0,[Zf b,Zx Zv n,Zx Zv 1,Zu true,Zf [Yp n 0,(0:UInt8),(0:UInt8),(0:UInt8)],Zx Zv 1,Zx Zv 1]) (by kernel_rfl) ?_
   simp only [A0]
   rw [sel_pos (Yu _),chk_of (by simp),chk_of (by simp;omega)]
   simp [Wd,Yk,Wp,Xm]
  ·refine loop_unroll 3 (Yn 0,[Zf b,Zx Zv n,Zx Zv 2,Zu false,Zf [Yp n 8,Yp n 0,(0:UInt8),(0:UInt8)],Zx Zv 2,Zx Zv 2]) (by kernel_rfl) ?_
   simp only [A0]
   rw [sel_pos (Yu _),chk_of (by simp),chk_of (by simp;omega)]
   simp [Wd,Yk,Wp,Xm]
  ·refine loop_unroll 3 (Yn 0,[Zf b,Zx Zv n,Zx Zv 2,Zu true,Zf [Yp n 0,Yp n 8,(0:UInt8),(0:UInt8)],Zx Zv 2,Zx Zv 2]) (by kernel_rfl) ?_
   simp only [A0]
   rw [sel_pos (Yu _),chk_of (by simp),chk_of (by simp;omega)]
   simp [Wd,Yk,Wp,Xm]
  ·refine loop_unroll 5 (Yn 0,[Zf b,Zx Zv n,Zx Zv 4,Zu false,Zf [Yp n 24,Yp n 16,Yp n 8,Yp n 0],Zx Zv 4,Zx Zv 4]) (by kernel_rfl) ?_
   simp only [A0]
   rw [sel_pos (Yu _),chk_of (by simp),chk_of (by simp;omega)]
   simp [Wd,Yk,Wp,Xm]
  ·refine loop_unroll 5 (Yn 0,[Zf b,Zx Zv n,Zx Zv 4,Zu true,Zf [Yp n 0,Yp n 8,Yp n 16,Yp n 24],Zx Zv 4,Zx Zv 4]) (by kernel_rfl) ?_
   simp only [A0]
   rw [sel_pos (Yu _),chk_of (by simp),chk_of (by simp;omega)]
   simp [Wd,Yk,Wp,Xm]
 ·cases h
theorem w171:Walked Tryz.prog G 171 3 sp171:=by
 refine ⟨Tryz.f171,Tryz.func171,by decide +kernel,rfl,fun xs bl r h=> ?_⟩
 unfold sp171 at h
 split at h
 ·rename_i k
  obtain ⟨hpre,h2⟩:=chk_inv h;cases h2
  refine Eq.trans (b:=(Zq (chk (decide (0≤k)&&decide (k<18446744073709551616)) (some (Zu (Yd k),[]))) fun (r:AV×Blocks)=>onNilB (Zp r) (Ww (Zh r) fun b=>sel (!b) (some (Zx .i64 0,[])) (some (Zx .i64 (Zy .i64 (Wj k (2 ^ min (Zw 56) (Zj .u64)))),[]))):Option (AV×Blocks))) (by kernel_rfl) ?_
  simp only [hpre,↓A0,A0]
  unfold Kerb.classOf
  cases hk:Yd k
  ·rfl
  simp only [Xv,Bool.not_false,sel_true,sel_false]
  simp only [Zg,decide_eq_true_eq] at hpre
  have h7:(min (Zw 56) (Zj .u64))=56:=rfl
  rw [h7,Int.fdiv_eq_ediv_of_nonneg _ (by decide),wrap_i64 (by omega) (by omega)]
  rfl
 ·cases h
theorem w176:Walked Tryz.prog G 176 3 sp176:=by
 refine ⟨Tryz.f176,Tryz.func176,by decide +kernel,rfl,fun xs bl r h=> ?_⟩
 unfold sp176 at h
 split at h
 ·rename_i b pos little
  obtain ⟨hpre,h2⟩:=chk_inv h;cases h2
  refine Eq.trans (b:=(Zq (chk (decide (Zz b≤4611686018427387904)&&true&&true) (some (Zd [Zx .i64 (Wh (Xk b pos 4 little)),Zx .i64 (Wf (Xk b pos 4 little)),Zx .i64 (Vz (Xk b pos 4 little))],[]))) fun (r:AV×Blocks)=>onNilB (Zp r) (Vv (Zh r) fun vs=>onCons vs fun x r=>Yj .i64 x fun n=>onCons r fun x r=>Yj .i64 x fun n_1=>onCons r fun x r=>Yj .i64 x fun n_2=>onNil r (some (Zd [Zx .i64 n,Zx .i64 n_1,Zx .i64 n_2],[]))):Option (AV×Blocks))) (by kernel_rfl) ?_
  simp only [A0]
  rw [chk_of (by rw [hpre];rfl)]
 ·cases h
theorem w182:Walked Tryz.prog G 182 3 sp182:=by
 refine ⟨Tryz.f182,Tryz.func182,by decide +kernel,rfl,fun xs bl r h=> ?_⟩
 unfold sp182 at h
 split at h
 ·rename_i s c
  cases h
  refine Eq.trans (b:=(some (Zx .i64 (Yv c s),[]):Option (AV×Blocks))) (by kernel_rfl) ?_
  rfl
 ·cases h
theorem w188:Walked Tryz.prog G 188 3 sp188:=by
 refine ⟨Tryz.f188,Tryz.func188,by decide +kernel,rfl,fun xs bl r h=> ?_⟩
 unfold sp188 at h
 split at h
 ·rename_i k
  obtain ⟨hpre,h2⟩:=chk_inv h;cases h2
  refine Eq.trans (b:=(Zq (chk (decide (0≤k)&&decide (k<18446744073709551616)) (some (Zd [Zx .i64 (bif Yd k then Kerb.keyClass k else 0),Zx .i64 (bif Yd k then Kerb.keySerial k else 0),Zu (Yd k)],[]))) fun (r:AV×Blocks)=>onNilB (Zp r) (Vv (Zh r) fun vs=>onCons vs fun x r=>Yj .i64 x fun n=>onCons r fun x r=>Yj .i64 x fun n_1=>onCons r fun x r=>Ww x fun b=>onNil r (some (Zx .i64 n,[]))):Option (AV×Blocks))) (by kernel_rfl) ?_
  simp only [hpre,↓A0,A0]
  rfl
 ·cases h
theorem w32:Walked Tryz.prog G 32 4 sp32:=by
 refine ⟨Tryz.f32,Tryz.func32,by decide +kernel,rfl,fun xs bl r h=> ?_⟩
 unfold sp32 at h
 split at h
 ·rename_i cu co cv cr lt tn mt cad cfr cis ctm ctk clf ccs cky ckv css ctt cau
  cases h
  refine Eq.trans (b:=(Zq (chk (decide (0≤Zn (Zy .i64 (↑(Yz cv):Int)) 6)&&decide (Zn (Zy .i64 (↑(Yz cv):Int)) 6≤4611686018427387904)) (some (Wg [Zk (Kerb.Prin.name (Kerb.service (Zn (Zy .i64 (↑(Yz cv):Int)) 6))),Zk (Kerb.Prin.inst (Kerb.service (Zn (Zy .i64 (↑(Yz cv):Int)) 6))),Zk (Kerb.Prin.realm (Kerb.service (Zn (Zy .i64 (↑(Yz cv):Int)) 6)))],[]))) fun (r:AV×Blocks)=>onNilB (Zp r) (AV.onAgg (Zh r) fun cs=>onCons cs fun x r=>Wx x fun b=>onCons r fun x r=>Wx x fun b_1=>onCons r fun x r=>Wx x fun b_2=>onNil r (some (Wg [Zk b,Zk b_1,Zk b_2],[]))):Option (AV×Blocks))) (by kernel_rfl) ?_
  have b:=Kerb.u8i_bd cv
  have f1:Zn (Kerb.u8i cv) 6=Kerb.u8i cv % 6:=Xz b.1
  simp only [Kerb.wrap_u8i,f1,↓A0,A0]
  rw [chk_of (by simp;omega)]
  rfl
 ·cases h
theorem w46:Walked Tryz.prog G 46 4 sp46:=by
 refine ⟨Tryz.f46,Tryz.func46,by decide +kernel,rfl,fun xs bl r h=> ?_⟩
 unfold sp46 at h
 split at h
 ·rename_i ali b1 b2 b3 aad ak alf ais asv ain x y z ck tc tm src now skw
  cases h
  refine Eq.trans (b:=(sel (!(b1==x&&(b2==y&&b3==z))) (some (Zx .i64 36,[])) (sel (!src==aad) (some (Zx .i64 38,[])) (sel (!Kerb.near tm now skw) (some (Zx .i64 37,[])) (some (Zx .i64 (Kerb.stateErr ais alf now skw),[])))):Option (AV×Blocks))) (by kernel_rfl) ?_
  unfold Kerb.judge
  cases h1:Kerb.Prin.eqb ⟨b1,b2,b3⟩ ⟨x,y,z⟩
  ·have h1':(b1==x&&(b2==y&&b3==z))=false:=h1
   rw [if_pos rfl,h1'];rfl
  have h1':(b1==x&&(b2==y&&b3==z))=true:=h1
  rw [if_neg (by simp),h1',Xv,sel_false]
  by_cases h2:src=aad
  case neg=>rw [sel_pos (by simpa using h2),if_pos h2]
  rw [sel_neg (by simpa using h2),if_neg (by simpa using h2)]
  cases h3:Kerb.near tm now skw
  ·rfl
  ·rw [if_neg (by simp)];rfl
 ·cases h
theorem w56:Walked Tryz.prog G 56 4 sp56:=by
 refine ⟨Tryz.f56,Tryz.func56,by decide +kernel,rfl,fun xs bl r h=> ?_⟩
 unfold sp56 at h
 split at h
 ·rename_i kd k bd
  obtain ⟨hpre,h2⟩:=chk_inv h;cases h2
  refine Eq.trans (b:=(let t0:List UInt8:=[Yx (Zw (Zy .u8 (Wj (↑(Zz bd):Int) (2 ^ min (Zw 8) (Zj .i64))))),Yx (Zw (Zy .u8 (↑(Zz bd):Int)))];let t1:List UInt8:=Xg (Zw 0) (0:UInt8)++[(66:UInt8),Yx (Zw (Zy .u8 kd))];let t2:Int:=Zy .i64 (12+(↑(Zz bd):Int));sel (!Yg kd) (some (Zd [Zf [],Zx .i64 104],[])) (Zq (chk (decide (0≤k)&&decide (k<18446744073709551616)) (some (Zu (Yd k),[]))) (kL fun b=>sel (!b) (some (Zd [Zf [],Zx .i64 10],[])) (sel (decide ((↑(Zz bd):Int)>1000)) (some (Zd [Zf [],Zx .i64 105],[])) (chk (decide (0≤t2)&&decide (t2≤140737488355328)) (chk (room (Zz (Xg (Zw 0) (0:UInt8))+Zz [(66:UInt8),Yx (Zw (Zy .u8 kd))]) 1) (Zq (chk (decide (0≤k)&&decide (k<18446744073709551616)) (some (Zf (Kerb.keyBytes k),[]))) (kB fun b=>chk (room (Zz t1+Zz b) 1) (chk (room (Zz (t1++b)+Zz t0) 1) (chk (room (Zz (t1++b++t0)+Zz bd) 1) (some (Zd [Zf (t1++b++t0++bd),Zx .i64 0],[]))))))))))):Option (AV×Blocks))) (by kernel_rfl) ?_
  delta kB kL
  try dsimp only [cStr,cBs,cBool,cU8,cInt,cSl,l63]
  simp only [A0,Kerb.Client.av,Kerb.Cache.av,Kerb.Cred.av,hpre]
  unfold Kerb.makeBox
  cases h1:Yg kd
  ·rfl
  rw [Xv,sel_false,if_neg (by simp)]
  cases h2:Yd k
  ·rfl
  rw [Xv,sel_false,if_neg (by simp)]
  by_cases h3:1000<bd.length
  ·rw [sel_pos (by simp;omega),if_pos h3]
  have hk:1≤kd∧kd≤10:=by simp [Yg] at h1;omega
  have lk:=Kerb.keyBytes_len k
  rw [sel_neg (by simp;omega),if_neg h3,wrap_i64 (by omega) (by omega),chk_of (by simp;omega),chk_of (Yy (by simp)),chk_of (Yy (by simp;omega)),chk_of (Yy (by simp;omega)),chk_of (Yy (by simp;omega)),Kerb.two_bytes,Kerb.wrap_u8,Int.emod_eq_of_lt (by omega) (by omega)]
  rfl
 ·cases h
theorem w58:Walked Tryz.prog G 58 4 sp58:=by
 refine ⟨Tryz.f58,Tryz.func58,by decide +kernel,rfl,fun xs bl r h=> ?_⟩
 unfold sp58 at h
 split at h
 ·rename_i ck tc tm li
  cases h
  refine Eq.trans (b:=(sel (!Zb ck 4294967295) (some (Zd [Zf [],Zx .i64 104],[])) (sel (!Zb tc 199) (some (Zd [Zf [],Zx .i64 104],[])) (sel (!Zb tm 4294967295) (some (Zd [Zf [],Zx .i64 104],[])) (Zq (chk (decide (Zz ([]++Yk (bif li then 1 else 0) 1 false)≤70368744177664)) (some (Zm ([]++Yk (bif li then 1 else 0) 1 false++Yk ck 4 li),[]))) fun (r:AV×Blocks)=>onNilB (Zp r) (Yh (Zh r) fun l=>Zq (chk (decide (Zz l≤70368744177664)) (some (Zm (l++Yk tc 1 false),[]))) fun (r:AV×Blocks)=>onNilB (Zp r) (Yh (Zh r) fun l=>Zq (chk (decide (Zz l≤70368744177664)) (some (Zm (l++Yk tm 4 li),[]))) fun (r:AV×Blocks)=>onNilB (Zp r) (Yh (Zh r) fun l=>Zq (chk (decide (Zz l≤70368744177664)) (some (Zm (Kerb.pad l),[]))) fun (r:AV×Blocks)=>onNilB (Zp r) (Yh (Zh r) fun l=>some (Zd [Zf l,Zx .i64 0],[])))))))):Option (AV×Blocks))) (by kernel_rfl) ?_
  unfold Kerb.encodeMutual
  cases h1:Zb ck 4294967295
  ·rfl
  cases h2:Zb tc 199
  ·rfl
  cases h3:Zb tm 4294967295
  ·rfl
  rw [if_neg (by simp)]
  simp only [↓A0,Xv]
  rw [chk_of (by simp [Yq]),chk_of (by simp [Yq]),chk_of (by simp [Yq]),chk_of (by simp [Yq])]
  rfl
 ·cases h
theorem w67:Walked Tryz.prog G 67 4 sp67:=by
 refine ⟨Tryz.f67,Tryz.func67,by decide +kernel,rfl,fun xs bl r h=> ?_⟩
 unfold sp67 at h
 split at h
 ·rename_i B at_ li bad
  obtain ⟨hpre,h2⟩:=chk_inv h;cases h2
  show runFnH (G.env 67 4) G.rts (G.own 67) Tryz.f67 _ _ [0]=_
  refine Eq.trans (b:=(Zq (chk (decide (Zz B≤140737488355328)) (some (Zd [Zx .i64 (Wh (Xk B at_ 2 li)),Zx .i64 (Wf (Xk B at_ 2 li)),Zx .i64 (Vz (Xk B at_ 2 li))],[]))) fun (r:AV×Blocks)=>onNilB (Zp r) (Vv (Zh r) fun vs=>onCons vs fun x r=>Yj .i64 x fun n=>onCons r fun x r=>Yj .i64 x fun n_1=>onCons r fun x r=>Yj .i64 x fun n_2=>onNil r (some (Zx .i64 n,[[Zf B,Zx .i64 (bif bad || !n_2==0 then at_ else n_1),Zu li,Zu (bad || !n_2==0)]]))):Option (AV×Blocks))) (by kernel_rfl) ?_
  simp only [A0]
  rw [chk_of hpre]
 ·cases h
theorem w69:Walked Tryz.prog G 69 4 sp69:=by
 refine ⟨Tryz.f69,Tryz.func69,by decide +kernel,rfl,fun xs bl r h=> ?_⟩
 unfold sp69 at h
 split at h
 ·rename_i b
  obtain ⟨hpre,h2⟩:=chk_inv h;cases h2
  refine Eq.trans (b:=(let t1:Option (AV×Blocks):=some (Zd [Wg [Zx .i64 0,Zx .u64 0,Zf []],Zx .i64 0,Zx .i64 100],[]);let t2:Int:=Zy .i64 (↑(BitVec.toNat (BitVec.ofInt (Zj .i64) (Zy .i64 (Zy .i64 (↑(Yz (Yw b (Zw 10) (0:UInt8))):Int)*2 ^ min (Zw 8) (Zj .i64))) ||| BitVec.ofInt (Zj .i64) (Zy .i64 (↑(Yz (Yw b (Zw 11) (0:UInt8))):Int)))):Int);let t3:Int:=Zy .i64 (↑(Yz (Yw b (Zw 1) (0:UInt8))):Int);let t4:Option (AV×Blocks):=some (Zd [Wg [Zx .i64 0,Zx .u64 0,Zf []],Zx .i64 0,Zx .i64 101],[]);let t0:Int:=Zy .i64 (12+t2);sel (decide ((↑(Zz b):Int)<12)) t4 (chk (decide (10≤(↑(Zz b):Int))) (Zq (chk (decide (Zz (Xy (Zw 2) (Ym (Zw 10) b))≤4611686018427387904)) (some (Zd [Zx .u64 (Zh (Kerb.keyRead (Xy (Zw 2) (Ym (Zw 10) b)))),Zu (Zp (Kerb.keyRead (Xy (Zw 2) (Ym (Zw 10) b))))],[]))) (kT fun vs=>cInt .u64 vs fun n r=>cBool r fun b_1 r=>onNil r (chk (decide (10<(↑(Zz b):Int))) (chk (decide (11<(↑(Zz b):Int))) (chk (decide (0<(↑(Zz b):Int))) (sel (!Yw b (Zw 0) (0:UInt8)==(66:UInt8)) t1 (chk (decide (1<(↑(Zz b):Int))) (sel (decide (t3<1)) t1 (chk (decide (1<(↑(Zz b):Int))) (sel (decide (t3>10)) t1 (sel (!b_1) t1 (sel (decide (t2>1000)) t1 (sel (decide ((↑(Zz b):Int)<t0)) t4 (chk (decide (1<(↑(Zz b):Int))) (chk (decide (12≤t0)&&decide (t0≤(↑(Zz b):Int))) (chk (room (Zz (Xy (Zw 12) (Ym (Zw t0) b))) 1) (some (Zd [Wg [Zx .i64 t3,Zx .u64 n,Zf (Xy (Zw 12) (Ym (Zw t0) b))],Zx .i64 t0,Zx .i64 0],[]))))))))))))))))))):Option (AV×Blocks))) (by kernel_rfl) ?_
  delta kT
  try dsimp only [cStr,cBs,cBool,cU8,cInt,cSl,l63]
  simp only [decide_eq_true_eq] at hpre
  unfold Kerb.readBox
  by_cases h0:b.length<12
  ·rw [sel_pos (by simp;omega),if_pos h0];rfl
  rw [sel_neg (by simp;omega),if_neg h0]
  have hc:=Kerb.cut_len b 2 8
  have hs:(b.getD 10 0).toNat*256+(b.getD 11 0).toNat=Kerb.boxSize b:=rfl
  simp only [Kerb.cut_28,Kerb.size_or]
  simp only [show Zw 0=0 from rfl,show Zw 1=1 from rfl,show Zw 10=10 from rfl,show Zw 11=11 from rfl,Kerb.wrap_byte,hs]
  rw [chk_of (by simp;omega),chk_of (by simp;omega)]
  simp only [↓A0]
  rw [chk_of (by simp;omega),chk_of (by simp;omega),chk_of (by simp;omega)]
  by_cases h1:b.getD 0 0=66
  case neg=>rw [sel_pos (by simpa using h1),if_pos (.inl h1)];rfl
  rw [sel_neg (by simpa using h1),chk_of (by simp;omega)]
  cases h2:Yg ((b.getD 1 0).toNat:Int)
  ·rw [if_pos (.inr (.inl rfl))]
   by_cases h2a:((b.getD 1 0).toNat:Int)<1
   ·rw [sel_pos (by simpa using h2a)];rfl
   ·rw [sel_neg (by simpa using h2a),chk_of (by simp;omega),sel_pos (decide_eq_true (by simp only [Yg,Bool.and_eq_false_iff,decide_eq_false_iff_not] at h2;omega))];rfl
  have hk:1≤((b.getD 1 0).toNat:Int)∧((b.getD 1 0).toNat:Int)≤10:=by simp only [Yg,Zg,decide_eq_true_eq] at h2;exact h2
  rw [sel_neg (decide_eq_false (by omega)),chk_of (by simp;omega),sel_neg (decide_eq_false (by omega))]
  cases h3:(Kerb.keyRead (Kerb.cut b 2 8)).2
  ·rw [if_pos (.inr (.inr (.inl rfl)))];rfl
  rw [Xv,sel_false]
  by_cases h4:1000<Kerb.boxSize b
  ·rw [sel_pos (by simp;omega),if_pos (.inr (.inr (.inr h4)))];rfl
  rw [sel_neg (by simp;omega),if_neg (by rintro (h | h | h | h)<;>first | exact h h1 | cases h | omega),wrap_i64 (by omega) (by omega)]
  by_cases h5:b.length<12+Kerb.boxSize b
  ·rw [sel_pos (by simp;omega),if_pos h5];rfl
  have hc2:=Kerb.cut_len b 12 (Kerb.boxSize b)
  rw [sel_neg (by simp;omega),if_neg h5,Kerb.cut_12]
  repeat rw [chk_of (by first | (simp;omega) | exact Yy (by omega))]
  simp
 ·cases h
end Go.Proofs.YtiplnpablmohiaaGreat
