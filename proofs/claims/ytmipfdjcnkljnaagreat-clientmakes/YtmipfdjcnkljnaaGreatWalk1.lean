/- What the functions of this seat compute. -/
import Derived.Test.YtmipfdjcnkljnaaGreatTab
import Derived.Test.YtmipfdjcnkljnaaGreatKerbPlain
import Derived.Test.YtmipfdjcnkljnaaGreatAbsStep
import Derived.Test.YtmipfdjcnkljnaaGreatKerbCli4
import Derived.Test.YtmipfdjcnkljnaaGreatKerbCli5
import Derived.Test.YtmipfdjcnkljnaaGreatKerbCli4
import Derived.Test.YtmipfdjcnkljnaaGreatKerbCli8
open Go.Abs.AV renaming int→Zz,str→Zw,bool→Zq,bs→Zk,tup→Zb,ownB→Zn,onInt→Yb,agg→Yh,sl→Xv,onOwnB→Xk,onStr→Xm,onBool→Vq
open List renaming length→Zy,getD→Yq,take_of_length_le→Ym,append→Xq,replicate→Xn,drop_eq_nil_of_le→Wu,range_succ→Wq,take→Wj,drop→Wk
open Go.IntKind renaming wrap→Zx,i64→Zv,bits→Zp,u64→Yd
open Int renaming toNat→Zu,tmod→Yw,toNat_natCast→Yk,tmod_eq_emod_of_nonneg→Xu,tdiv_eq_ediv_of_nonneg→Vd,fdiv→Vf
open Option renaming bind→Zj
open Prod renaming snd→Zd,fst→Zf
open Bool renaming and_eq_true→Zg,not_true→Wg
open Kerb renaming within→Zm,room_ok→Yz,nextPos→Yu,printable→Yj,dataCred→Yg,putN→Yn,putN_len→Xy,putText→Xx,bfd→Xw,isKind→Xj,text→Xf,putText_len→Xb,keyValid→Wz,next→Ww,credAt→Wv,readHead→Wp,get→Wd,room→Wn,header→Wm,indexOf→Wh,bytes→Vy,isSerial→Vx,okB→Vw,byteAt→Vv,bfd_eq→Vu,isClass→Vj,getCred→Vk,drop_all_cons→Vp,toCred→Vg
open Kerb.Cred renaming av→Zh
open Kerb.Client renaming av→Yy
open Nat renaming beq_refl→Yx,beq→Wx,zero_le→Wf
open Kerb.Cache renaming av→Yv
open UInt8 renaming ofNat→Yp,toNat→Yf
open Go.Abs.Ex renaming exit→Xz
open Sum renaming inr→Xp,inl→Wy
open Kerb.Prin renaming valid→Xd,mk→Xg
open Kerb.GotB renaming err→Xh,next→Wb,val→Vz
namespace Go.Proofs.YtmipfdjcnkljnaaGreat
open Go Go.Abs Go.Proofs
set_option linter.unusedVariables false
set_option linter.unusedSimpArgs false
set_option maxRecDepth 100000
theorem w17:Walked Tryz.prog G 17 1 sp17:=by
 refine ⟨Tryz.f17,Tryz.func17,by decide +kernel,rfl,fun xs bl r h=> ?_⟩
 unfold sp17 at h
 split at h
 ·rename_i e
  cases h
  refine Eq.trans (b:=(some (Zb [Yh [Zw [],Zw [],Zw [],Zz .i64 0,Zz .i64 0,Zq false,Zw [],Zw [],Zw [],Xv 8 [],Zz .i64 0,Zw [],Zw [],Zw [],Zz .u64 0,Zz .i64 0,Zz .i64 0,Zz .i64 0,Zz .i64 0],Zk [],Yh [Zw [],Zw [],Zw [],Zz .u64 0,Zz .i64 0,Zz .i64 0,Zz .i64 0,Zk []],Zk [],Zz .i64 e],[]):Option (AV×Blocks))) (by kernel_rfl) ?_
  rfl
 ·cases h
theorem w20:Walked Tryz.prog G 20 1 sp20:=by
 refine ⟨Tryz.f20,Tryz.func20,by decide +kernel,rfl,fun xs bl r h=> ?_⟩
 unfold sp20 at h
 split at h
 ·rename_i n m
  cases h
  refine Eq.trans (b:=(sel (decide (n≥0)) (some (Zq (decide (n≤m)),[])) (some (Zq false,[])):Option (AV×Blocks))) (by kernel_rfl) ?_
  by_cases h:0≤n<;>simp [sel,Zm,h]
 ·cases h
theorem w24:Walked Tryz.prog G 24 1 sp24:=by
 refine ⟨Tryz.f24,Tryz.func24,by decide +kernel,rfl,fun xs bl r h=> ?_⟩
 unfold sp24 at h
 split at h
 ·rename_i m1 m2 m3 ad sk li o1 o2 o3 els wt w1 w2 w3 se tm lf cs tc aw a1 a2 a3 as2 at2 al2 ac2 ak2
  cases h
  refine Eq.trans (b:=(some (Yh [Zw m1,Zw m2,Zw m3,Zz .i64 ad,Zz .i64 sk,Zq li,Zw o1,Zw o2,Zw o3,Xv 8 els,Zz .i64 aw,Zw a1,Zw a2,Zw a3,Zz .u64 as2,Zz .i64 at2,Zz .i64 al2,Zz .i64 ac2,Zz .i64 ak2],[]):Option (AV×Blocks))) (by kernel_rfl) ?_
  rfl
 ·cases h
theorem w26:Walked Tryz.prog G 26 1 sp26:=by
 refine ⟨Tryz.f26,Tryz.func26,by decide +kernel,rfl,fun xs bl r h=> ?_⟩
 unfold sp26 at h
 split at h
 ·rename_i b
  cases h
  refine Eq.trans (b:=(let t0:Int:=Zx .i64 (↑(Yf (Yp (Zu (Zx .u8 (Int.tdiv (↑(Yf (Yq b (Zu 1) (0:UInt8))):Int) (↑(Yf (2:UInt8)):Int)))))):Int);let t1:Option (AV×Blocks):=some (Zb [Zz .i64 0,Zq false,Zz .i64 40],[]);sel (decide ((↑(Zy b):Int)<2)) (some (Zb [Zz .i64 0,Zq false,Zz .i64 101],[])) (chk (decide (0<(↑(Zy b):Int))) (sel (!Yq b (Zu 0) (0:UInt8)==(4:UInt8)) (some (Zb [Zz .i64 0,Zq false,Zz .i64 39],[])) (chk (decide (1<(↑(Zy b):Int))) (sel (decide (t0<1)) t1 (sel (decide (t0>10)) t1 (chk (decide (1<(↑(Zy b):Int))) (some (Zb [Zz .i64 t0,Zq (Yp (Zu (Yw (↑(Yf (Yq b (Zu 1) (0:UInt8))):Int) (↑(Yf (2:UInt8)):Int)))==(1:UInt8)),Zz .i64 0],[])))))))):Option (AV×Blocks))) (by kernel_rfl) ?_
  try dsimp only [cStr,cBs,cBool,cU8,cInt,cSl,l63]
  unfold Wp
  by_cases h1:b.length<2
  ·rw [sel_pos (by simp;omega)]
   simp [h1]
  rw [sel_neg (by simp;omega),chk_of (by simp;omega),if_neg h1]
  by_cases h2:b.getD 0 0=4
  ·have hb:=(b.getD 1 0).toNat_lt
   have e:Zx Zv ((Yp (Zu (Zx IntKind.u8 (Int.tdiv ((b.getD (Zu 1) 0).toNat:Int) ((2:UInt8).toNat:Int))))).toNat:Int)=(((b.getD 1 0).toNat / 2:Nat):Int):=by
    rw [show Zu 1=1 from rfl,show ((2:UInt8).toNat:Int)=2 from rfl,Vd (by omega),Kerb.wrap_u8]
    have e3:Zu (((b.getD 1 0).toNat:Int) / 2 % 256)=(b.getD 1 0).toNat / 2:=by omega
    rw [e3,UInt8.toNat_ofNat_of_lt' (by show _<256;omega),wrap_i64 (by omega) (by omega)]
   have e2:(Yp (Zu (Yw ((b.getD (Zu 1) 0).toNat:Int) ((2:UInt8).toNat:Int)))==1)=decide ((b.getD 1 0).toNat % 2=1):=by
    rw [show Zu 1=1 from rfl,Xu (by omega)]
    have e3:Zu (((b.getD 1 0).toNat:Int) % ((2:UInt8).toNat:Int))=(b.getD 1 0).toNat % 2:=by
     show Zu (((b.getD 1 0).toNat:Int) % 2)=_
     omega
    rw [e3]
    rcases Nat.mod_two_eq_zero_or_one (b.getD 1 0).toNat with h | h<;>rw [h]<;>rfl
   rw [sel_neg (by simp [h2] at *;exact h2),chk_of (by simp;omega),if_neg (by simpa using h2),e,e2]
   generalize (b.getD 1 0).toNat / 2=m
   unfold Xj
   by_cases h3:1≤m
   case neg =>
    rw [sel_pos (by simp;omega),if_neg (by simp;omega)]
   by_cases h4:m≤10
   case neg =>
    rw [sel_neg (by simp;omega),sel_pos (by simp;omega),if_neg (by simp;omega)]
   rw [sel_neg (by simp;omega),sel_neg (by simp;omega),chk_of (by simp;omega),if_pos (by simp;omega)]
  ·rw [sel_pos (by simpa using h2),if_pos (by simpa using h2)]
 ·cases h
theorem w32:Walked Tryz.prog G 32 1 sp32:=by
 refine ⟨Tryz.f32,Tryz.func32,by decide +kernel,rfl,fun xs bl r h=> ?_⟩
 unfold sp32 at h
 split at h
 ·rename_i r t
  cases h
  refine Eq.trans (b:=(some (Yh [Zw [(107:UInt8),(114:UInt8),(98:UInt8),(116:UInt8),(103:UInt8),(116:UInt8)],Zw t,Zw r],[]):Option (AV×Blocks))) (by kernel_rfl) ?_
  rfl
 ·cases h
theorem w34:Walked Tryz.prog G 34 1 sp34:=by
 refine ⟨Tryz.f34,Tryz.func34,by decide +kernel,rfl,fun xs bl r h=> ?_⟩
 unfold sp34 at h
 split at h
 ·rename_i e
  cases h
  refine Eq.trans (b:=(some (Zb [Yh [Zw [],Zw [],Zw [],Zz .i64 0,Zz .i64 0,Zq false,Zw [],Zw [],Zw [],Xv 8 [],Zz .i64 0,Zw [],Zw [],Zw [],Zz .u64 0,Zz .i64 0,Zz .i64 0,Zz .i64 0,Zz .i64 0],Zk [],Yh [Zw [],Zw [],Zw [],Zz .u64 0,Zz .i64 0,Zz .i64 0,Zz .i64 0,Zk []],Zk [],Zz .i64 e],[]):Option (AV×Blocks))) (by kernel_rfl) ?_
  rfl
 ·cases h
theorem w38:Walked Tryz.prog G 38 1 sp38:=by
 refine ⟨Tryz.f38,Tryz.func38,by decide +kernel,rfl,fun xs bl r h=> ?_⟩
 unfold sp38 at h
 split at h
 ·rename_i n m
  cases h
  refine Eq.trans (b:=(sel (decide (n≥0)) (some (Zq (decide (n≤m)),[])) (some (Zq false,[])):Option (AV×Blocks))) (by kernel_rfl) ?_
  by_cases h:0≤n<;>simp [sel,Zm,h]
 ·cases h
theorem w39:Walked Tryz.prog G 39 1 sp39:=by
 refine ⟨Tryz.f39,Tryz.func39,by decide +kernel,rfl,fun xs bl r h=> ?_⟩
 unfold sp39 at h
 split at h
 ·rename_i l pos
  cases h
  show runFnH (G.env 39 1) G.rts (G.own 39) Tryz.f39 _ _ [0]=_
  refine Eq.trans (b:=(some (Zq (decide (pos<(↑(Zy l):Int))),[[Zk l,Zz .i64 pos]]):Option (AV×Blocks))) (by kernel_rfl) ?_
  rfl
 ·cases h
theorem w41:Walked Tryz.prog G 41 1 sp41:=by
 refine ⟨Tryz.f41,Tryz.func41,by decide +kernel,rfl,fun xs bl r h=> ?_⟩
 unfold sp41 at h
 split at h
 ·cases h
  refine Eq.trans (b:=(some (Xv 1 [Zw [(65:UInt8),(84:UInt8),(72:UInt8)],Zw [(66:UInt8),(79:UInt8),(83:UInt8)],Zw [(67:UInt8),(65:UInt8),(77:UInt8)]],[]):Option (AV×Blocks))) (by kernel_rfl) ?_
  rfl
 ·cases h
theorem w49:Walked Tryz.prog G 49 1 sp49:=by
 refine ⟨Tryz.f49,Tryz.func49,by decide +kernel,rfl,fun xs bl r h=> ?_⟩
 unfold sp49 at h
 split at h
 ·rename_i n m
  cases h
  refine Eq.trans (b:=(sel (decide (n≥0)) (some (Zq (decide (n≤m)),[])) (some (Zq false,[])):Option (AV×Blocks))) (by kernel_rfl) ?_
  by_cases h:0≤n<;>simp [sel,Zm,h]
 ·cases h
theorem w58:Walked Tryz.prog G 58 1 sp58:=by
 refine ⟨Tryz.f58,Tryz.func58,by decide +kernel,rfl,fun xs bl r h=> ?_⟩
 unfold sp58 at h
 split at h
 ·rename_i n m
  cases h
  refine Eq.trans (b:=(sel (decide (n≥0)) (some (Zq (decide (n≤m)),[])) (some (Zq false,[])):Option (AV×Blocks))) (by kernel_rfl) ?_
  by_cases h:0≤n<;>simp [sel,Zm,h]
 ·cases h
theorem w60:Walked Tryz.prog G 60 1 sp60:=by
 refine ⟨Tryz.f60,Tryz.func60,by decide +kernel,rfl,fun xs bl r h=> ?_⟩
 unfold sp60 at h
 split at h
 ·rename_i k little
  cases h
  refine Eq.trans (b:=(sel (decide (k<1)) (some (Zk [],[])) (sel (decide (k>10)) (some (Zk [],[])) (sel little (some (Zk [(4:UInt8),Yp (Zu (Zx .u8 (Zx .i64 (Zx .i64 (2*k)+1))))],[])) (some (Zk [(4:UInt8),Yp (Zu (Zx .u8 (Zx .i64 (2*k))))],[])))):Option (AV×Blocks))) (by kernel_rfl) ?_
  by_cases h:1≤k∧k≤10
  ·have hk:k=1∨k=2∨k=3∨k=4∨k=5∨k=6∨k=7∨k=8∨k=9∨k=10:=by omega
   rcases hk with rfl | rfl | rfl | rfl | rfl | rfl | rfl | rfl | rfl | rfl<;>cases little<;>rfl
  ·have hk:Xj k=false:=by simp [Xj];omega
   by_cases h1:k<1
   ·simp [sel,Wm,hk,h1]
   ·have h2:10<k:=by omega
    simp [sel,Wm,hk,h1,h2]
 ·cases h
theorem w61:Walked Tryz.prog G 61 1 sp61:=by
 refine ⟨Tryz.f61,Tryz.func61,by decide +kernel,rfl,fun xs bl r h=> ?_⟩
 unfold sp61 at h
 split at h
 ·rename_i b s
  obtain ⟨hpre,h2⟩:=chk_inv h;cases h2
  refine Eq.trans (b:=(chk (room (Zy b) 1) (chk (room (Zy b+Zy s) 1) (chk (room (Zy (b++s)+Zy [(0:UInt8)]) 1) (some (Zk (b++s++[(0:UInt8)]),[])))):Option (AV×Blocks))) (by kernel_rfl) ?_
  simp only [decide_eq_true_eq] at hpre
  rw [chk_of (Yz (by omega)),chk_of (Yz (by omega)),chk_of (Yz (by simp;omega))]
  simp [Xx]
 ·cases h
theorem w66:Walked Tryz.prog G 66 1 sp66:=by
 refine ⟨Tryz.f66,Tryz.func66,by decide +kernel,rfl,fun xs bl r h=> ?_⟩
 unfold sp66 at h
 split at h
 ·rename_i n m
  cases h
  refine Eq.trans (b:=(sel (decide (n≥0)) (some (Zq (decide (n≤m)),[])) (some (Zq false,[])):Option (AV×Blocks))) (by kernel_rfl) ?_
  by_cases h:0≤n<;>simp [sel,Zm,h]
 ·cases h
theorem w70:Walked Tryz.prog G 70 1 sp70:=by
 refine ⟨Tryz.f70,Tryz.func70,by decide +kernel,rfl,fun xs bl r h=> ?_⟩
 unfold sp70 at h
 split at h
 ·rename_i n l pos
  obtain ⟨hpre,h2⟩:=chk_inv h;cases h2
  show runFnH (G.env 70 1) G.rts (G.own 70) Tryz.f70 _ _ [0]=_
  refine Eq.trans (b:=(sel (decide (pos≥(↑(Zy l):Int))) (some (Zz .i64 0,[[Zk l,Zz .i64 pos]])) (sel (decide (n≤0)) (some (Zz .i64 0,[[Zk l,Zz .i64 pos]])) (chk (decide (0≤pos)&&decide (pos<(↑(Zy l):Int))) (chk (!n==0) (some (Zz .i64 (Yw (Zx .i64 (↑(Yf (Yq l (Zu pos) (0:UInt8))):Int)) n),[[Zk l,Zz .i64 (Zx .i64 (pos+1))]]))))):Option (AV×Blocks))) (by kernel_rfl) ?_
  simp only [Zg,decide_eq_true_eq] at hpre
  unfold Ww Yu
  by_cases h1:(l.length:Int)≤pos
  ·simp [sel,h1]
   omega
  by_cases h2:n≤0
  ·simp [sel,h1,h2]
   omega
  have h3:¬ n=0:=by omega
  have hb:=(l.getD pos.toNat 0).toNat_lt
  rw [sel_neg (by simp;omega),sel_neg (by simp;omega),chk_of (by simp;omega),chk_of (by simpa using h3),if_neg (by omega),if_neg (by omega),wrap_i64 (by omega) (by omega),wrap_i64 (by omega) (by omega),Xu (by omega),Int.toNat_of_nonneg (by omega)]
 ·cases h
theorem w71:Walked Tryz.prog G 71 1 sp71:=by
 refine ⟨Tryz.f71,Tryz.func71,by decide +kernel,rfl,fun xs bl r h=> ?_⟩
 unfold sp71 at h
 split at h
 ·rename_i n
  obtain ⟨hpre,h2⟩:=chk_inv h;cases h2
  refine Eq.trans (b:=(some (Zz .u64 (Zx .u64 (↑(BitVec.toNat (BitVec.ofInt (Zp .u64) 144115188075855872 ||| BitVec.ofInt (Zp .u64) (Zx .u64 (Zx .i64 (1+n))))):Int)),[]):Option (AV×Blocks))) (by kernel_rfl) ?_
  rfl
 ·cases h
theorem w73:Walked Tryz.prog G 73 1 sp73:=by
 refine ⟨Tryz.f73,Tryz.func73,by decide +kernel,rfl,fun xs bl r h=> ?_⟩
 unfold sp73 at h
 split at h
 ·rename_i n m
  cases h
  refine Eq.trans (b:=(sel (decide (n≥0)) (some (Zq (decide (n≤m)),[])) (some (Zq false,[])):Option (AV×Blocks))) (by kernel_rfl) ?_
  by_cases h:0≤n<;>simp [sel,Zm,h]
 ·cases h
theorem w74:Walked Tryz.prog G 74 1 sp74:=by
 refine ⟨Tryz.f74,Tryz.func74,by decide +kernel,rfl,fun xs bl r h=> ?_⟩
 unfold sp74 at h
 split at h
 ·rename_i els x y z
  obtain ⟨hpre,h2⟩:=chk_inv h;cases h2
  refine Eq.trans (b:=(Zj (loopM (fun (st:List AV)=>cSl 8 st fun b r=>cStr r fun b_1 r=>cStr r fun b_2 r=>cStr r fun b_3 r=>cInt .i64 r fun n r=>cSl 8 r fun b_4 r=>cInt .i64 r fun n_1 r=>cInt .i64 r fun n_2 r=>onNil r (sel (decide (n_2<n_1)) (chk (decide (0≤n_2)&&decide (n_2<(↑(Zy b_4):Int))&&true) (AV.onAgg (Yq b_4 (Zu n_2) AV.undef) fun cs=>cStr cs fun b_5 r=>cStr r fun b_6 r=>cStr r fun b_7 r=>cInt .u64 r fun n_3 r=>cInt .i64 r fun n_4 r=>cInt .i64 r fun n_5 r=>cInt .i64 r fun n_6 r=>cBs r fun b_8 r=>onNil r (sel (b_5==b_1&&(b_6==b_2&&b_7==b_3)) (some (Xp (Ex.ret,[Xv 8 b,Zw b_1,Zw b_2,Zw b_3,Zz .i64 n_2,Xv 8 b_4,Zz .i64 n_1,Zz .i64 n_2]))) (some (Wy [Xv 8 b,Zw b_1,Zw b_2,Zw b_3,Zz .i64 n,Xv 8 b_4,Zz .i64 n_1,Zz .i64 (Zx .i64 (n_2+1))]))))) (some (Xp (Xz 0,[Xv 8 b,Zw b_1,Zw b_2,Zw b_3,Zz .i64 n,Xv 8 b_4,Zz .i64 n_1,Zz .i64 n_2]))))) [Xv 8 els,Zw x,Zw y,Zw z,Zz .i64 0,Xv 8 els,Zz .i64 (↑(Zy els):Int),Zz .i64 0]) fun (r:Ex×List AV)=>cSl 8 (Zd r) fun b r_1=>cStr r_1 fun b_1 r_2=>cStr r_2 fun b_2 r_3=>cStr r_3 fun b_3 r_4=>cInt .i64 r_4 fun n r_5=>cSl 8 r_5 fun b_4 r_6=>cInt .i64 r_6 fun n_1 r_7=>cInt .i64 r_7 fun n_2 r_8=>onNil r_8 (exK r.1 (some (Zz .i64 n,[])) fun (j:Nat)=>sel (Wx j 0) (some (Zz .i64 (↑(Zy b):Int),[])) none):Option (AV×Blocks))) (by kernel_rfl) ?_
  try dsimp only [cStr,cBs,cBool,cU8,cInt,cSl,l63]
  simp only [Zg,decide_eq_true_eq] at hpre
  obtain ⟨hall,hlen⟩:=hpre
  obtain ⟨cs,rfl,hok⟩:=Kerb.creds_of hall
  rw [Kerb.map_toCred]
  simp only [List.length_map] at hlen ⊢
  refine loop_rounds (fun i:Nat=>[Xv 8 (cs.map Zh),Zw x,Zw y,Zw z,Zz Zv 0,Xv 8 (cs.map Zh),Zz Zv (cs.length:Int),Zz Zv (i:Int)]) (fun i=>i≤cs.length∧Wv cs ⟨x,y,z⟩=i+Wv (cs.drop i) ⟨x,y,z⟩) (fun i=>cs.length-i)
   (fun r=>∃ (i:Nat) (n:Int),r.2=[Xv 8 (cs.map Zh),Zw x,Zw y,Zw z,Zz Zv n,Xv 8 (cs.map Zh),Zz Zv (cs.length:Int),Zz Zv (i:Int)]∧((r.1 = .ret∧n=(Wv cs ⟨x,y,z⟩:Nat))∨(r.1 = .exit 0∧Wv cs ⟨x,y,z⟩=cs.length))) 0 ⟨Wf _,by simp⟩ rfl ?_ ?_
  ·rintro i ⟨hi,hp⟩
   simp only [A0,Yy,Yv,Zh]
   by_cases hlt:i<cs.length
   ·rw [sel_pos (by simp;omega),chk_of (by simp;omega),Yk,Kerb.getD_av hlt]
    have hd:=Kerb.drop_cred hlt
    generalize cs.getD i Kerb.noCred=c at hd
    simp only [Zh,A0,Yy,Yv,Zh]
    show ∃ q,sel (Kerb.Prin.eqb c.service ⟨x,y,z⟩) _ _=some q∧_
    cases he:Kerb.Prin.eqb c.service ⟨x,y,z⟩
    ·rw [sel_false,wrap_i64 (by omega) (by omega)]
     refine ⟨_,rfl,i+1,rfl,⟨by omega,?_⟩,by dsimp only;omega⟩
     rw [hp,hd]
     simp only [Wv,List.findIdx_cons,he,cond_false]
     omega
    ·rw [sel_true]
     refine ⟨_,rfl,i,_,rfl,.inl ⟨rfl,?_⟩⟩
     rw [hp,hd]
     simp only [Wv,List.findIdx_cons,he,cond_true]
     omega
   ·rw [sel_neg (by simp;omega)]
    refine ⟨_,rfl,i,_,rfl,.inr ⟨rfl,?_⟩⟩
    rw [hp,Wu (by omega)]
    simp [Wv];omega
  ·rintro ⟨e,l⟩ ⟨i,n,rfl,⟨rfl,h⟩ | ⟨rfl,h⟩⟩
   ·simp only [A0,Yy,Yv,Zh,h]
   ·simp only [A0,Yy,Yv,Zh,h,List.length_map]
    rw [sel_pos (Yx _)]
 ·cases h
theorem w80:Walked Tryz.prog G 80 1 sp80:=by
 refine ⟨Tryz.f80,Tryz.func80,by decide +kernel,rfl,fun xs bl r h=> ?_⟩
 unfold sp80 at h
 split at h
 ·rename_i k
  cases h
  refine Eq.trans (b:=(sel (decide (k≥1)) (some (Zq (decide (k≤10)),[])) (some (Zq false,[])):Option (AV×Blocks))) (by kernel_rfl) ?_
  by_cases h:1≤k<;>simp [sel,Xj,h]
 ·cases h
theorem w84:Walked Tryz.prog G 84 1 sp84:=by
 refine ⟨Tryz.f84,Tryz.func84,by decide +kernel,rfl,fun xs bl r h=> ?_⟩
 unfold sp84 at h
 split at h
 ·rename_i nx e B at_ li bad
  cases h
  show runFnH (G.env 84 1) G.rts (G.own 84) Tryz.f84 _ _ [0]=_
  refine Eq.trans (b:=(sel bad (some (Zb [],[[Zk B,Zz .i64 at_,Zq li,Zq true]])) (sel (!e==0) (some (Zb [],[[Zk B,Zz .i64 at_,Zq li,Zq true]])) (some (Zb [],[[Zk B,Zz .i64 nx,Zq li,Zq bad]]))):Option (AV×Blocks))) (by kernel_rfl) ?_
  cases bad
  ·cases (e==0)<;>rfl
  ·rfl
 ·cases h
theorem w85:Walked Tryz.prog G 85 1 sp85:=by
 refine ⟨Tryz.f85,Tryz.func85,by decide +kernel,rfl,fun xs bl r h=> ?_⟩
 unfold sp85 at h
 split at h
 ·rename_i b pos
  obtain ⟨hpre,h2⟩:=chk_inv h;cases h2
  refine Eq.trans (b:=(let t0:Option (AV×Blocks):=some (Zb [Zw [],Zz .i64 0,Zz .i64 104],[]);sel (decide (pos<0)) t0 (sel (decide (pos>(↑(Zy b):Int))) t0 (Zj (loopM (fun (st:List AV)=>cBs st fun b r=>cInt .i64 r fun n r=>cStr r fun b_1 r=>cInt .i64 r fun n_1 r=>cInt .i64 r fun n_2 r=>cInt .i64 r fun n_3 r=>onNil r (sel (decide (n_3≤39)) (sel (decide (Zx .i64 (n+n_3)≥(↑(Zy b):Int))) (some (Xp (Ex.ret,[Zk b,Zz .i64 n,Zw [],Zz .i64 0,Zz .i64 101,Zz .i64 n_3]))) (chk (decide (0≤Zx .i64 (n+n_3))&&decide (Zx .i64 (n+n_3)<(↑(Zy b):Int))) (sel (Yq b (Zu (Zx .i64 (n+n_3))) (0:UInt8)==(0:UInt8)) (chk (decide (0≤n)&&decide (n≤Zx .i64 (n+n_3))&&decide (Zx .i64 (n+n_3)≤(↑(Zy b):Int))) (some (Xp (Ex.ret,[Zk b,Zz .i64 n,Zw (Wk (Zu n) (Wj (Zu (Zx .i64 (n+n_3))) b)),Zz .i64 (Zx .i64 (Zx .i64 (n+n_3)+1)),Zz .i64 0,Zz .i64 n_3])))) (some (Wy [Zk b,Zz .i64 n,Zw b_1,Zz .i64 n_1,Zz .i64 n_2,Zz .i64 (Zx .i64 (n_3+1))]))))) (some (Xp (Xz 0,[Zk b,Zz .i64 n,Zw b_1,Zz .i64 n_1,Zz .i64 n_2,Zz .i64 n_3]))))) [Zk b,Zz .i64 pos,Zw [],Zz .i64 0,Zz .i64 0,Zz .i64 0]) fun (r:Ex×List AV)=>cBs (Zd r) fun b r_1=>cInt .i64 r_1 fun n r_2=>cStr r_2 fun b r_3=>cInt .i64 r_3 fun n r_4=>cInt .i64 r_4 fun n_1 r_5=>cInt .i64 r_5 fun n_2 r_6=>onNil r_6 (exK r.1 (some (Zb [Zw b,Zz .i64 n,Zz .i64 n_1],[])) fun (j:Nat)=>sel (Wx j 0) (some (Zb [Zw [],Zz .i64 0,Zz .i64 105],[])) none))):Option (AV×Blocks))) (by kernel_rfl) ?_
  try dsimp only [cStr,cBs,cBool,cU8,cInt,cSl,l63]
  have hb:=of_decide_eq_true hpre
  unfold Xf
  by_cases h1:pos<0
  ·rw [sel_pos (by simpa using h1),if_neg (by rw [Kerb.room_zero];omega)]
  rw [sel_neg (by simpa using h1)]
  by_cases h2:(b.length:Int)<pos
  ·rw [sel_pos (by simpa using h2),if_neg (by rw [Kerb.room_zero];omega)]
  rw [sel_neg (by simpa using h2),if_pos (Kerb.room_zero.2 (by omega))]
  obtain ⟨R,hR⟩:∃ R,R=b.drop pos.toNat:=⟨_,rfl⟩
  have hRl:R.length=b.length-pos.toNat:=by rw [hR];simp
  rw [← hR]
  obtain ⟨T,hT⟩:∃ T,T=R.take 40:=⟨_,rfl⟩
  rw [← hT]
  have hix:=Kerb.indexOf_nonneg 0 T
  refine loop_rounds (fun i:Nat=>[Zk b,Zz Zv pos,Zw [],Zz Zv 0,Zz Zv 0,Zz Zv (i:Int)]) (fun i=>i≤40∧i≤R.length∧(0:UInt8) ∉ R.take i) (fun i=>40-i)
   (fun r=>∃ (i:Nat) (v:List UInt8) (nx e:Int),r.2=[Zk b,Zz Zv pos,Zw v,Zz Zv nx,Zz Zv e,Zz Zv (i:Int)] ∧
    ((r.1 = .ret∧v=[]∧nx=0∧e=101∧Wh 0 T<0∧T.length≠40)∨(r.1 = .ret∧Wh 0 T=i∧v=T.take i∧nx=pos+i+1∧e=0)∨(r.1 = .exit 0∧Wh 0 T<0∧T.length=40))) 0 ⟨by omega,by omega,by simp⟩ rfl ?_ ?_
  ·rintro i ⟨hi,hir,h0⟩
   simp only [A0]
   by_cases hlt:i≤39
   case neg =>
    have e40:i=40:=by omega
    subst e40
    rw [sel_neg (by decide)]
    refine ⟨_,rfl,40,[],0,0,rfl,.inr (.inr ⟨rfl,?_,?_⟩)⟩
    ·rw [← hT] at h0;have:=mt hix.1 h0;omega
    ·rw [hT];simp;omega
   rw [sel_pos (by simp;omega),wrap_i64 (n:=pos+(i:Int)) (by omega) (by omega)]
   by_cases hend:(b.length:Int)≤pos+i
   ·rw [sel_pos (by simpa using hend)]
    have hTR:T=R.take i:=by rw [hT,Ym (by omega),Ym (by omega)]
    refine ⟨_,rfl,i,[],0,101,rfl,.inl ⟨rfl,rfl,rfl,rfl,?_,?_⟩⟩
    ·rw [← hTR] at h0;have:=mt hix.1 h0;omega
    ·rw [hTR];simp;omega
   have hiR:i<R.length:=by omega
   have hd:=Vp hiR
   have hbi:b.getD (pos+(i:Int)).toNat 0=R.getD i 0:=by
    rw [show (pos+(i:Int)).toNat=pos.toNat+i by omega,hR]
    simp [List.getD_eq_getElem?_getD]
   rw [sel_neg (by simpa using hend),chk_of (by simp;omega),hbi]
   by_cases hz:R.getD i 0=0
   ·rw [sel_pos (by rw [hz];rfl),chk_of (by simp;omega),wrap_i64 (by omega) (by omega)]
    have hTi:T.take i=R.take i:=by rw [hT,List.take_take,Nat.min_eq_left (by omega)]
    have hTe:T=R.take i++0::(R.drop (i+1)).take (39-i):=by
     rw [hT]
     have:R=R.take i++(0::R.drop (i+1)):=by rw [← hz,← hd,List.take_append_drop]
     have hl:(R.take i).length=i:=by simp;omega
     calc R.take 40=(R.take i++(0::R.drop (i+1))).take 40:=by rw [← this]
      _=_:=by rw [List.take_append,hl,Ym (by omega),show 40-i=(39-i)+1 by omega,List.take_succ_cons]
    have hidx:Wh 0 T=i:=by
     rw [hTe,Kerb.indexOf_append h0];simp;omega
    refine ⟨_,rfl,i,_,_,0,rfl,.inr (.inl ⟨rfl,hidx,?_,rfl,rfl⟩)⟩
    rw [hTi,hR,show (pos+(i:Int)).toNat=pos.toNat+i by omega,List.drop_take,show pos.toNat+i-pos.toNat=i by omega]
   ·rw [sel_neg (beq_eq_false_iff_ne.2 hz),wrap_i64 (by omega) (by omega)]
    refine ⟨_,rfl,i+1,rfl,⟨by omega,by omega,?_⟩,by dsimp only;omega⟩
    rw [Kerb.take_succ_getD hiR]
    simp only [List.mem_append,List.mem_singleton,not_or]
    exact ⟨h0,fun e=>hz e.symm⟩
  ·rintro ⟨e,l⟩ ⟨i,v,nx,er,rfl,⟨rfl,rfl,rfl,rfl,g1,g2⟩ | ⟨rfl,g1,rfl,rfl,rfl⟩ | ⟨rfl,g1,g2⟩⟩
   ·simp only [A0]
    rw [if_neg (by omega),if_neg g2]
   ·simp only [A0]
    rw [if_pos (by omega),g1,Yk]
   ·simp only [A0]
    rw [if_neg (by omega),if_pos g2,sel_pos (Yx _)]
 ·cases h
theorem w86:Walked Tryz.prog G 86 1 sp86:=by
 refine ⟨Tryz.f86,Tryz.func86,by decide +kernel,rfl,fun xs bl r h=> ?_⟩
 unfold sp86 at h
 split at h
 ·rename_i b pos n
  obtain ⟨hpre,h2⟩:=chk_inv h;cases h2
  refine Eq.trans (b:=(sel (decide (pos<0)) (some (Zb [Zk [],Zz .i64 0,Zz .i64 104],[])) (sel (decide (pos>(↑(Zy b):Int))) (some (Zb [Zk [],Zz .i64 0,Zz .i64 104],[])) (sel (decide (n<0)) (some (Zb [Zk [],Zz .i64 0,Zz .i64 104],[])) (sel (decide (n>Zx .i64 ((↑(Zy b):Int)-pos))) (some (Zb [Zk [],Zz .i64 0,Zz .i64 101],[])) (chk (decide (0≤pos)&&decide (pos≤Zx .i64 (pos+n))&&decide (Zx .i64 (pos+n)≤(↑(Zy b):Int))) (chk (room (Zy (Wk (Zu pos) (Wj (Zu (Zx .i64 (pos+n))) b))) 1) (some (Zb [Zk (Wk (Zu pos) (Wj (Zu (Zx .i64 (pos+n))) b)),Zz .i64 (Zx .i64 (pos+n)),Zz .i64 0],[]))))))):Option (AV×Blocks))) (by kernel_rfl) ?_
  have hb:=of_decide_eq_true hpre
  unfold Vy
  by_cases h1:pos<0
  ·have e:Wn b pos n=104:=by unfold Wn;rw [if_pos (by omega)]
   rw [sel_pos (by simpa using h1),e]
   rfl
  rw [sel_neg (by simpa using h1)]
  by_cases h2:(b.length:Int)<pos
  ·have e:Wn b pos n=104:=by unfold Wn;rw [if_pos (by omega)]
   rw [sel_pos (by simpa using h2),e]
   rfl
  rw [sel_neg (by simpa using h2)]
  by_cases h3:n<0
  ·have e:Wn b pos n=104:=by unfold Wn;rw [if_pos (by omega)]
   rw [sel_pos (by simpa using h3),e]
   rfl
  rw [sel_neg (by simpa using h3),wrap_i64 (n:=(b.length:Int)-pos) (by omega) (by omega)]
  by_cases h4:(b.length:Int)-pos<n
  ·have e:Wn b pos n=101:=by unfold Wn;rw [if_neg (by omega),if_pos h4]
   rw [sel_pos (by simpa using h4),e]
   rfl
  have hr:Wn b pos n=0:=Kerb.room_zero.2 (by omega)
  have e:Wk (Zu pos) (Wj (Zu (pos+n)) b)=Kerb.cut b pos n:=by
   rw [show Zu (pos+n)=pos.toNat+n.toNat by omega,List.drop_take,show pos.toNat+n.toNat-pos.toNat=n.toNat by omega]
   rfl
  have hc:=Kerb.cut_length hr
  rw [sel_neg (by simpa using h4),if_pos hr,wrap_i64 (by omega) (by omega),e,chk_of (by simp;omega),chk_of (Yz (by omega))]
 ·cases h
theorem w87:Walked Tryz.prog G 87 1 sp87:=by
 refine ⟨Tryz.f87,Tryz.func87,by decide +kernel,rfl,fun xs bl r h=> ?_⟩
 unfold sp87 at h
 split at h
 ·rename_i s bad
  obtain ⟨hpre,h2⟩:=chk_inv h;cases h2
  refine Eq.trans (b:=(Zj (loopM (fun (st:List AV)=>cStr st fun b r=>cStr r fun b_1 r=>cBool r fun b_2 r=>cInt .i64 r fun n r=>let t0:Int:=(↑(Yf (Yq b (Zu n) (0:UInt8))):Int);let t1:Option (List AV ⊕ Ex×List AV):=some (Xp (Ex.ret,[Zw b,Zw b_1,Zq false,Zz .i64 n]));onNil r (sel (decide (n<(↑(Zy b):Int))) (chk (decide (0≤n)&&decide (n<(↑(Zy b):Int))) (sel (decide (t0<(↑(Yf (33:UInt8)):Int))) t1 (chk (decide (0≤n)&&decide (n<(↑(Zy b):Int))) (sel (decide (t0>(↑(Yf (126:UInt8)):Int))) t1 (Zj (loopM (fun (st:List AV)=>cStr st fun b r=>cStr r fun b_3 r=>cBool r fun b_4 r=>cInt .i64 r fun n r=>cInt .i64 r fun n_1 r=>onNil r (sel (decide (n_1<(↑(Zy b_3):Int))) (chk (decide (0≤n)&&decide (n<(↑(Zy b):Int))) (chk (decide (0≤n_1)&&decide (n_1<(↑(Zy b_3):Int))) (sel (Yq b (Zu n) (0:UInt8)==Yq b_3 (Zu n_1) (0:UInt8)) (some (Xp (Ex.ret,[Zw b,Zw b_3,Zq false,Zz .i64 n,Zz .i64 n_1]))) (some (Wy [Zw b,Zw b_3,Zq b_4,Zz .i64 n,Zz .i64 (Zx .i64 (n_1+1))]))))) (some (Xp (Xz 2,[Zw b,Zw b_3,Zq b_4,Zz .i64 n,Zz .i64 n_1]))))) [Zw b,Zw b_1,Zq b_2,Zz .i64 n,Zz .i64 0]) fun (r:Ex×List AV)=>cStr (Zd r) fun b r_1=>cStr r_1 fun b_3 r_2=>cBool r_2 fun b_4 r_3=>cInt .i64 r_3 fun n r_4=>cInt .i64 r_4 fun n_1 r_5=>onNil r_5 (exK r.1 (some (Xp (Ex.ret,[Zw b,Zw b_3,Zq b_4,Zz .i64 n]))) fun (j:Nat)=>sel (Wx j 2) (some (Wy [Zw b,Zw b_3,Zq b_4,Zz .i64 (Zx .i64 (n+1))])) none)))))) (some (Xp (Xz 0,[Zw b,Zw b_1,Zq b_2,Zz .i64 n]))))) [Zw s,Zw bad,Zq false,Zz .i64 0]) fun (r:Ex×List AV)=>cStr (Zd r) fun b r_1=>cStr r_1 fun b_1 r_2=>cBool r_2 fun b_2 r_3=>cInt .i64 r_3 fun n r_4=>onNil r_4 (exK r.1 (some (Zq b_2,[])) fun (j:Nat)=>sel (Wx j 0) (some (Zq (decide ((↑(Zy b):Int)≤39)),[])) none):Option (AV×Blocks))) (by kernel_rfl) ?_
  try dsimp only [cStr,cBs,cBool,cU8,cInt,cSl,l63]
  simp only [Zg,decide_eq_true_eq] at hpre
  refine loop_rounds (fun i:Nat=>[Zw s,Zw bad,Zq false,Zz Zv (i:Int)]) (fun i=>i≤s.length∧Yj s bad=Yj (s.drop i) bad) (fun i=>s.length-i)
   (fun r=>∃ i:Nat,r.2=[Zw s,Zw bad,Zq false,Zz Zv (i:Int)]∧((r.1 = .ret∧Yj s bad=false)∨(r.1 = .exit 0∧Yj s bad=true))) 0 ⟨Wf _,rfl⟩ rfl ?_ ?_
  ·rintro i ⟨hi,hp⟩
   simp only [A0]
   by_cases hlt:i<s.length
   ·have hc:(decide ((0:Int)≤(i:Int))&&decide ((i:Int)<(s.length:Int)))=true:=by simp;omega
    have hd:=Vp hlt
    rw [sel_pos (by simp;omega),chk_of hc,Yk]
    have hpr:Yj (s.drop i) bad=(Vw bad (s.getD i 0)&&Yj (s.drop (i+1)) bad):=by rw [hd];rfl
    generalize hcc:s.getD i 0=c at *
    by_cases h1:c.toNat<33
    ·rw [sel_pos (by simp;omega)]
     exact ⟨_,rfl,i,rfl,.inl ⟨rfl,by rw [hp,hpr];simp [Vw,h1]⟩⟩
    rw [sel_neg (by simp;omega),chk_of hc]
    by_cases h2:126<c.toNat
    ·rw [sel_pos (by simp;omega)]
     exact ⟨_,rfl,i,rfl,.inl ⟨rfl,by rw [hp,hpr];simp [Vw,h2]⟩⟩
    rw [sel_neg (by simp;omega)]
    refine loop_ex (fun j:Nat=>[Zw s,Zw bad,Zq false,Zz Zv (i:Int),Zz Zv (j:Int)]) (fun j=>j≤bad.length∧(c∈bad↔c∈bad.drop j)) (fun j=>bad.length-j)
     (fun r=>∃ j:Nat,r.2=[Zw s,Zw bad,Zq false,Zz Zv (i:Int),Zz Zv (j:Int)]∧((r.1 = .ret∧c∈bad)∨(r.1 = .exit 2∧c ∉ bad))) 0 ⟨Wf _,by simp⟩ rfl ?_ ?_
    ·rintro j ⟨hj,hm⟩
     simp only [A0]
     by_cases hjl:j<bad.length
     ·have hdj:=Vp hjl
      rw [sel_pos (by simp;omega),chk_of hc,chk_of (by simp;omega),Yk,Yk,hcc]
      rw [hdj,List.mem_cons] at hm
      by_cases h3:c=bad.getD j 0
      ·rw [sel_pos (by simpa using h3)]
       exact ⟨_,rfl,j,rfl,.inl ⟨rfl,hm.2 (.inl h3)⟩⟩
      ·rw [sel_neg (by simpa using h3),wrap_i64 (by omega) (by omega)]
       exact ⟨_,rfl,j+1,rfl,⟨by omega,hm.trans ⟨fun h=>h.resolve_left h3,.inr⟩⟩,by dsimp only;omega⟩
     ·rw [sel_neg (by simp;omega)]
      refine ⟨_,rfl,j,rfl,.inr ⟨rfl,?_⟩⟩
      rw [hm,Wu (by omega)];simp
    ·rintro ⟨e,l⟩ ⟨j,rfl,⟨rfl,h3⟩ | ⟨rfl,h3⟩⟩
     ·simp only [A0]
      exact ⟨_,rfl,i,rfl,.inl ⟨rfl,by rw [hp,hpr];simp [Vw,h3]⟩⟩
     ·simp only [A0]
      rw [sel_pos (Yx _),wrap_i64 (by omega) (by omega)]
      exact ⟨_,rfl,i+1,rfl,⟨by omega,by rw [hp,hpr];simp [Vw,h1,h2,h3]⟩,by dsimp only;omega⟩
   ·rw [sel_neg (by simp;omega)]
    exact ⟨_,rfl,i,rfl,.inr ⟨rfl,by rw [hp,Wu (by omega)];rfl⟩⟩
  ·rintro ⟨e,l⟩ ⟨i,rfl,⟨rfl,hp⟩ | ⟨rfl,hp⟩⟩
   ·simp only [A0,hp]
    rfl
   ·simp only [A0,hp]
    rw [sel_pos (Yx _),decide_eq_decide.2 (show ((s.length:Int)≤39)↔s.length≤39 from by omega)]
    rfl
 ·cases h
theorem w88:Walked Tryz.prog G 88 1 sp88:=by
 refine ⟨Tryz.f88,Tryz.func88,by decide +kernel,rfl,fun xs bl r h=> ?_⟩
 unfold sp88 at h
 split at h
 ·rename_i b n k little
  obtain ⟨hpre,h2⟩:=chk_inv h;cases h2
  refine Eq.trans (b:=(chk (room (Zy b) 1) (Zj (loopM (fun (st:List AV)=>cInt .i64 st fun n r=>cInt .i64 r fun n_1 r=>cBool r fun b r=>onCons r fun x r=>Xk x fun b_1=>cInt .i64 r fun n_2 r=>let t1:Int:=Zx .u64 (Zx .i64 (8*Zx .i64 (Zx .i64 (n_1-1)-n_2)));let t2:List UInt8:=[Yp (Zu (Zx .u8 (Vf (Zx .u64 n) (2 ^ min (Zu (Zx .u64 (Zx .i64 (8*n_2)))) (Zp .u64)))))];let t0:List UInt8:=[Yp (Zu (Zx .u8 (Vf (Zx .u64 n) (2 ^ min (Zu t1) (Zp .u64)))))];onNil r (sel (decide (n_2<n_1)) (sel b (chk (decide (0≤Zx .u64 (Zx .i64 (8*n_2)))) (chk (room (Zy b_1+Zy t2) 1) (some (Wy [Zz .i64 n,Zz .i64 n_1,Zq b,Zn (b_1++t2),Zz .i64 (Zx .i64 (n_2+1))])))) (chk (decide (0≤t1)) (chk (room (Zy b_1+Zy t0) 1) (some (Wy [Zz .i64 n,Zz .i64 n_1,Zq b,Zn (b_1++t0),Zz .i64 (Zx .i64 (n_2+1))]))))) (some (Xp (Xz 0,[Zz .i64 n,Zz .i64 n_1,Zq b,Zn b_1,Zz .i64 n_2]))))) [Zz .i64 n,Zz .i64 k,Zq little,Zn b,Zz .i64 0]) fun (r:Ex×List AV)=>cInt .i64 (Zd r) fun n r_1=>cInt .i64 r_1 fun n r_2=>cBool r_2 fun b r_3=>onCons r_3 fun x r_4=>Xk x fun b=>cInt .i64 r_4 fun n r_5=>onNil r_5 (exK r.1 none fun (j:Nat)=>sel (Wx j 0) (some (Zn b,[])) none)):Option (AV×Blocks))) (by kernel_rfl) ?_
  try dsimp only [cStr,cBs,cBool,cU8,cInt,cSl,l63]
  simp only [Zg,decide_eq_true_eq] at hpre
  obtain ⟨hk,hb⟩:=hpre
  have hk4:k.toNat≤4∧0≤k:=by omega
  rw [chk_of (Yz (by omega))]
  refine loop_rounds (fun i:Nat=>[Zz Zv n,Zz Zv k,Zq little,Zn (b++(Yn n k.toNat little).take i),Zz Zv (i:Int)]) (fun i=>i≤k.toNat) (fun i=>k.toNat-i)
   (fun r=>r=(Xz 0,[Zz Zv n,Zz Zv k,Zq little,Zn (b++Yn n k.toNat little),Zz Zv k])) 0 (Wf _) (by simp) ?_ ?_
  ·intro i hi
   simp only [A0]
   by_cases hlt:i<k.toNat
   ·have hs:=Kerb.take_succ_getD (l:=Yn n k.toNat little) (i:=i) (by rw [Xy];omega)
    have hg:=Kerb.putN_getD n k.toNat little hlt
    have hl:((Yn n k.toNat little).take i).length=i:=by simp [Xy];omega
    rw [sel_pos (by simp;omega)]
    have hw:∀ j:Nat,j<4→Zx Yd (Zx Zv (8*(j:Int)))=((8*j:Nat):Int):=fun j hj=>by
     rw [wrap_i64 (by omega) (by omega),Kerb.wrap_u64];omega
    have hm:∀ j:Nat,j<4→min (Zu ((8*j:Nat):Int)) (Zp Yd)=8*j:=fun j hj=>by
     have:Zp Yd=64:=rfl
     rw [this];omega
    cases little
    ·have e:Zx Zv (Zx Zv (k-1)-(i:Int))=((k.toNat-1-i:Nat):Int):=by
      rw [wrap_i64 (n:=k-1) (by omega) (by omega),wrap_i64 (by omega) (by omega)];omega
     rw [sel_neg rfl,e,hw _ (by omega),hm _ (by omega),Kerb.ubyte n (by omega),chk_of (by simp;omega),chk_of (Yz (by simp [hl];omega)),wrap_i64 (by omega) (by omega)]
     refine ⟨_,rfl,i+1,?_,by omega,by dsimp only;omega⟩
     dsimp only
     rw [hs,hg,← List.append_assoc]
     rfl
    ·rw [sel_pos rfl,hw _ (by omega),hm _ (by omega),Kerb.ubyte n (by omega),chk_of (by simp;omega),chk_of (Yz (by simp [hl];omega)),wrap_i64 (by omega) (by omega)]
     refine ⟨_,rfl,i+1,?_,by omega,by dsimp only;omega⟩
     dsimp only
     rw [hs,hg,← List.append_assoc]
     rfl
   ·rw [sel_neg (by simp;omega)]
    refine ⟨_,rfl,?_⟩
    show _=_
    rw [Ym (by rw [Xy];omega),show (i:Int)=k from by omega]
  ·rintro r rfl
   simp only [A0]
   rw [sel_pos (Yx _)]
 ·cases h
theorem w95:Walked Tryz.prog G 95 1 sp95:=by
 refine ⟨Tryz.f95,Tryz.func95,by decide +kernel,rfl,fun xs bl r h=> ?_⟩
 unfold sp95 at h
 split at h
 ·rename_i b
  obtain ⟨hpre,h2⟩:=chk_inv h;cases h2
  refine Eq.trans (b:=(chk (room (Zy b) 1) (Zj (loopM (fun (st:List AV)=>onCons st fun x r=>Xk x fun b=>onNil r (sel (!Yw (↑(Zy b):Int) 8==0) (chk (room (Zy b+Zy [(0:UInt8)]) 1) (some (Wy [Zn (b++[(0:UInt8)])]))) (some (Xp (Xz 0,[Zn b]))))) [Zn b]) fun (r:Ex×List AV)=>onCons (Zd r) fun x r_1=>Xk x fun b=>onNil r_1 (exK r.1 none fun (j:Nat)=>sel (Wx j 0) (some (Zn b,[])) none)):Option (AV×Blocks))) (by kernel_rfl) ?_
  have hb:=of_decide_eq_true hpre
  rw [chk_of (Yz (by omega))]
  refine loop_rounds (fun i:Nat=>[Zn (b++Xn i 0)]) (fun i=>i≤(8-b.length % 8) % 8) (fun i=>(8-b.length % 8) % 8-i)
   (fun r=>r=(Xz 0,[Zn (Kerb.pad b)])) 0 (by omega) (by simp) ?_ ?_
  ·intro i hi
   simp only [A0]
   have e:Yw ((b++Xn i 0).length:Int) 8=(((b.length+i) % 8:Nat):Int):=by
    rw [Xu (by omega)]
    simp
   rw [e]
   by_cases hlt:i<(8-b.length % 8) % 8
   ·rw [sel_pos (by simp;omega),chk_of (Yz (by simp;omega))]
    refine ⟨_,rfl,i+1,?_,by omega,by dsimp only;omega⟩
    dsimp only
    rw [List.replicate_succ',List.append_assoc]
   ·rw [sel_neg (by simp;omega)]
    refine ⟨_,rfl,?_⟩
    show _=_
    rw [Kerb.pad,show i=(8-b.length % 8) % 8 from by omega]
  rintro r rfl
  simp only [A0]
  rw [sel_pos (Yx _)]
 ·cases h
theorem w101:Walked Tryz.prog G 101 1 sp101:=by
 refine ⟨Tryz.f101,Tryz.func101,by decide +kernel,rfl,fun xs bl r h=> ?_⟩
 unfold sp101 at h
 split at h
 ·rename_i n
  cases h
  refine Eq.trans (b:=(sel (decide (n≥0)) (some (Zq (decide (n≤4294967295)),[])) (some (Zq false,[])):Option (AV×Blocks))) (by kernel_rfl) ?_
  by_cases h:0≤n<;>simp [sel,Zm,h]
 ·cases h
theorem w102:Walked Tryz.prog G 102 1 sp102:=by
 refine ⟨Tryz.f102,Tryz.func102,by decide +kernel,rfl,fun xs bl r h=> ?_⟩
 unfold sp102 at h
 split at h
 ·rename_i n
  cases h
  refine Eq.trans (b:=(sel (decide (n≥0)) (some (Zq (decide (n≤255)),[])) (some (Zq false,[])):Option (AV×Blocks))) (by kernel_rfl) ?_
  by_cases h:0≤n<;>simp [sel,Zm,h]
 ·cases h
theorem w105:Walked Tryz.prog G 105 1 sp105:=by
 refine ⟨Tryz.f105,Tryz.func105,by decide +kernel,rfl,fun xs bl r h=> ?_⟩
 unfold sp105 at h
 split at h
 ·rename_i k
  cases h
  refine Eq.trans (b:=(sel (decide (k≥1)) (some (Zq (decide (k≤10)),[])) (some (Zq false,[])):Option (AV×Blocks))) (by kernel_rfl) ?_
  by_cases h:1≤k<;>simp [sel,Xj,h]
 ·cases h
theorem w106:Walked Tryz.prog G 106 1 sp106:=by
 refine ⟨Tryz.f106,Tryz.func106,by decide +kernel,rfl,fun xs bl r h=> ?_⟩
 unfold sp106 at h
 split at h
 ·rename_i k
  obtain ⟨hpre,h2⟩:=chk_inv h;cases h2
  refine Eq.trans (b:=(Zj (loopM (fun (st:List AV)=>cInt .u64 st fun n r=>onCons r fun x r=>Xk x fun b=>cInt .i64 r fun n_1 r=>cInt .i64 r fun n_2 r=>let t0:Int:=Zx .i64 (8*Zx .i64 (7-n_2));onNil r (sel (decide (n_2<n_1)) (chk (decide (0≤t0)) (chk (decide (0≤n_2)&&decide (n_2<(↑(Zy b):Int))) (chk (Nat.blt (Zu n_2) (Zy b)&&true&&true&&true&&true) (some (Wy [Zz .u64 n,Zn (List.set b (Zu n_2) (Yp (Zu (Zx .u8 (Vf n (2 ^ min (Zu t0) (Zp .u64))))))),Zz .i64 n_1,Zz .i64 (Zx .i64 (n_2+1))]))))) (some (Xp (Xz 0,[Zz .u64 n,Zn b,Zz .i64 n_1,Zz .i64 n_2]))))) [Zz .u64 k,Zn (Xn (Zu 8) (0:UInt8)),Zz .i64 (↑(Zy (Xn (Zu 8) (0:UInt8))):Int),Zz .i64 0]) fun (r:Ex×List AV)=>cInt .u64 (Zd r) fun n r_1=>onCons r_1 fun x r_2=>Xk x fun b=>cInt .i64 r_2 fun n r_3=>cInt .i64 r_3 fun n r_4=>onNil r_4 (exK r.1 none fun (j:Nat)=>sel (Wx j 0) (some (Zk b,[])) none):Option (AV×Blocks))) (by kernel_rfl) ?_
  try dsimp only [cStr,cBs,cBool,cU8,cInt,cSl,l63]
  refine loop_unroll 9 (Xz 0,[Zz Yd k,Zn [Xw k 56,Xw k 48,Xw k 40,Xw k 32,Xw k 24,Xw k 16,Xw k 8,Xw k 0],Zz Zv 8,Zz Zv 8]) (by kernel_rfl) ?_
  simp only [A0]
  rw [sel_pos (Yx _)]
  simp [Vu,Kerb.keyBytes,Vv,Wq]
 ·cases h
theorem w109:Walked Tryz.prog G 109 1 sp109:=by
 refine ⟨Tryz.f109,Tryz.func109,by decide +kernel,rfl,fun xs bl r h=> ?_⟩
 unfold sp109 at h
 split at h
 ·rename_i n m
  cases h
  refine Eq.trans (b:=(sel (decide (n≥0)) (some (Zq (decide (n≤m)),[])) (some (Zq false,[])):Option (AV×Blocks))) (by kernel_rfl) ?_
  by_cases h:0≤n<;>simp [sel,Zm,h]
 ·cases h
theorem w110:Walked Tryz.prog G 110 1 sp110:=by
 refine ⟨Tryz.f110,Tryz.func110,by decide +kernel,rfl,fun xs bl r h=> ?_⟩
 unfold sp110 at h
 split at h
 ·rename_i k
  cases h
  refine Eq.trans (b:=(sel (k==1) (some (Zq true,[])) (some (Zq (k==2),[])):Option (AV×Blocks))) (by kernel_rfl) ?_
  unfold Vj
  cases (k==(1:Int))<;>rfl
 ·cases h
theorem w111:Walked Tryz.prog G 111 1 sp111:=by
 refine ⟨Tryz.f111,Tryz.func111,by decide +kernel,rfl,fun xs bl r h=> ?_⟩
 unfold sp111 at h
 split at h
 ·rename_i k
  cases h
  refine Eq.trans (b:=(sel (decide (k≥1)) (some (Zq (decide (k≤4294967295)),[])) (some (Zq false,[])):Option (AV×Blocks))) (by kernel_rfl) ?_
  by_cases h:1≤k<;>simp [sel,Vx,h]
 ·cases h
theorem w113:Walked Tryz.prog G 113 1 sp113:=by
 refine ⟨Tryz.f113,Tryz.func113,by decide +kernel,rfl,fun xs bl r h=> ?_⟩
 unfold sp113 at h
 split at h
 ·rename_i n m
  cases h
  refine Eq.trans (b:=(sel (decide (n≥0)) (some (Zq (decide (n≤m)),[])) (some (Zq false,[])):Option (AV×Blocks))) (by kernel_rfl) ?_
  by_cases h:0≤n<;>simp [sel,Zm,h]
 ·cases h
theorem w114:Walked Tryz.prog G 114 1 sp114:=by
 refine ⟨Tryz.f114,Tryz.func114,by decide +kernel,rfl,fun xs bl r h=> ?_⟩
 unfold sp114 at h
 split at h
 ·rename_i c n
  cases h
  refine Eq.trans (b:=(sel (!c==1) (sel (!c==2) (some (Zz .u64 0,[])) (sel (decide (n<1)) (some (Zz .u64 0,[])) (sel (decide (n>4294967295)) (some (Zz .u64 0,[])) (some (Zz .u64 (Zx .u64 (↑(BitVec.toNat (BitVec.ofInt (Zp .u64) (Zx .u64 (Zx .u64 c*2 ^ min (Zu 56) (Zp .u64))) ||| BitVec.ofInt (Zp .u64) (Zx .u64 n))):Int)),[]))))) (sel (decide (n<1)) (some (Zz .u64 0,[])) (sel (decide (n>4294967295)) (some (Zz .u64 0,[])) (some (Zz .u64 (Zx .u64 (↑(BitVec.toNat (BitVec.ofInt (Zp .u64) (Zx .u64 (Zx .u64 c*2 ^ min (Zu 56) (Zp .u64))) ||| BitVec.ofInt (Zp .u64) (Zx .u64 n))):Int)),[])))):Option (AV×Blocks))) (by kernel_rfl) ?_
  unfold Vj Vx
  by_cases hc:c=1∨c=2
  case neg =>
   have q1:(c==(1:Int))=false:=by simp;omega
   have q2:(c==(2:Int))=false:=by simp;omega
   rw [q1,q2]
   rfl
  by_cases hn:1≤n∧n≤4294967295
  case neg =>
   have q:(decide (1≤n)&&decide (n≤4294967295))=false:=by
    rw [Bool.eq_false_iff]
    simp
    omega
   rw [q,Bool.and_false]
   have key:(sel (decide (n<(1:Int))) (some (Zz .u64 (0:Int),([]:Blocks))) (sel (decide (n>(4294967295:Int))) (some (Zz .u64 (0:Int),[])) (some (Zz Yd (Zx Yd ((BitVec.toNat (BitVec.ofInt (Zp Yd) (Zx Yd (Zx Yd c*(2:Int) ^ min (Zu (56:Int)) (Zp Yd))) ||| BitVec.ofInt (Zp Yd) (Zx Yd n)):Nat):Int)),[]))))=some (Zz .u64 0,[]):=by
    by_cases hl:n<1
    ·rw [sel_pos (by simpa using hl)]
    ·rw [sel_neg (by simpa using hl),sel_pos (by simp;omega)]
   rcases hc with rfl | rfl
   ·rw [sel_neg (by decide)];exact key
   ·rw [sel_pos (by decide),sel_neg (by decide)];exact key
  have q:(decide (1≤n)&&decide (n≤4294967295))=true:=by simp;omega
  have q2:(c==(1:Int)||c==(2:Int))=true:=by simpa using hc
  rw [q,q2,Kerb.key_make hc hn.1 hn.2]
  rcases hc with rfl | rfl
  ·rw [sel_neg (by decide),sel_neg (by simp;omega),sel_neg (by simp;omega)]
   rfl
  ·rw [sel_pos (by decide),sel_neg (by decide),sel_neg (by simp;omega),sel_neg (by simp;omega)]
   rfl
 ·cases h
theorem w16:Walked Tryz.prog G 16 2 sp16:=by
 refine ⟨Tryz.f16,Tryz.func16,by decide +kernel,rfl,fun xs bl r h=> ?_⟩
 unfold sp16 at h
 split at h
 ·rename_i n
  obtain ⟨hpre,h2⟩:=chk_inv h;cases h2
  refine Eq.trans (b:=(chk (decide (0≤Yw n 3)&&decide (Yw n 3<(↑(Zy [Zw [(65:UInt8),(84:UInt8),(72:UInt8)],Zw [(66:UInt8),(79:UInt8),(83:UInt8)],Zw [(67:UInt8),(65:UInt8),(77:UInt8)]]):Int))&&true) (Xm (Yq [Zw [(65:UInt8),(84:UInt8),(72:UInt8)],Zw [(66:UInt8),(79:UInt8),(83:UInt8)],Zw [(67:UInt8),(65:UInt8),(77:UInt8)]] (Zu (Yw n 3)) AV.undef) fun b=>some (Zw b,[])):Option (AV×Blocks))) (by kernel_rfl) ?_
  have hn:0≤n:=by first | exact of_decide_eq_true hpre | (simp only [Zg,decide_eq_true_eq] at hpre;exact hpre.1)
  have ht:Yw n 3=n % 3:=Xu hn
  have hcase:n % 3=0∨n % 3=1∨n % 3=2:=by omega
  rcases hcase with e | e | e<;>simp [ht,e,chk,Xm,Kerb.realm]
 ·cases h
theorem w25:Walked Tryz.prog G 25 2 sp25:=by
 refine ⟨Tryz.f25,Tryz.func25,by decide +kernel,rfl,fun xs bl r h=> ?_⟩
 unfold sp25 at h
 split at h
 ·rename_i b els
  obtain ⟨hpre,h2⟩:=chk_inv h;cases h2
  refine Eq.trans (b:=(sel (!Kerb.Head.err (Wp b)==0) (some (Zb [Zq false,Zz .i64 (Kerb.Head.err (Wp b))],[])) (Zj (loopM (fun (st:List AV)=>cSl 1 st fun b r=>cBool r fun b_1 r=>cInt .i64 r fun n r=>cInt .i64 r fun n_1 r=>cBool r fun b_2 r=>cInt .i64 r fun n_2 r=>onNil r (sel (decide (n_2<(↑(Zy b):Int))) (chk (decide (0≤n_2)&&decide (n_2<(↑(Zy b):Int))&&true) (Yb .i64 (Yq b (Zu n_2) AV.undef) fun n_3=>sel (n_3==n_1) (some (Xp (Ex.ret,[Xv 1 b,Zq b_2,Zz .i64 0,Zz .i64 n_1,Zq b_2,Zz .i64 n_2]))) (some (Wy [Xv 1 b,Zq b_1,Zz .i64 n,Zz .i64 n_1,Zq b_2,Zz .i64 (Zx .i64 (n_2+1))])))) (some (Xp (Xz 0,[Xv 1 b,Zq b_1,Zz .i64 n,Zz .i64 n_1,Zq b_2,Zz .i64 n_2]))))) [Xv 1 els,Zq false,Zz .i64 0,Zz .i64 (Kerb.Head.kind (Wp b)),Zq (Kerb.Head.little (Wp b)),Zz .i64 0]) fun (r:Ex×List AV)=>cSl 1 (Zd r) fun b r_1=>cBool r_1 fun b r_2=>cInt .i64 r_2 fun n r_3=>cInt .i64 r_3 fun n_1 r_4=>cBool r_4 fun b_1 r_5=>cInt .i64 r_5 fun n_2 r_6=>onNil r_6 (exK r.1 (some (Zb [Zq b,Zz .i64 n],[])) fun (j:Nat)=>sel (Wx j 0) (some (Zb [Zq false,Zz .i64 40],[])) none)):Option (AV×Blocks))) (by kernel_rfl) ?_
  try dsimp only [cStr,cBs,cBool,cU8,cInt,cSl,l63]
  simp only [Zg,decide_eq_true_eq] at hpre
  obtain ⟨ha,hl⟩:=hpre
  have hil:=Kerb.ints_len ha
  unfold Kerb.headIs
  by_cases he:(Wp b).err=0
  case neg =>
   rw [sel_pos (by simpa using he),if_pos he]
  rw [sel_neg (by simp [he]),if_neg (by simpa using he)]
  generalize (Wp b).kind=k
  generalize (Wp b).little=lt
  refine loop_rounds (fun i:Nat=>[Xv 1 els,Zq false,Zz Zv 0,Zz Zv k,Zq lt,Zz Zv (i:Int)]) (fun i=>i≤els.length∧(k∈intsIn els↔k∈(intsIn els).drop i)) (fun i=>els.length-i)
   (fun r=>∃ (i:Nat) (x:Bool),r.2=[Xv 1 els,Zq x,Zz Zv 0,Zz Zv k,Zq lt,Zz Zv (i:Int)]∧((r.1 = .ret∧x=lt∧k∈intsIn els)∨(r.1 = .exit 0∧k ∉ intsIn els))) 0 ⟨Wf _,by simp⟩ rfl ?_ ?_
  ·rintro i ⟨hi,hm⟩
   simp only [A0]
   by_cases hlt:i<els.length
   ·obtain ⟨n,h1,h2⟩:=Kerb.ints_get ha hlt
    rw [sel_pos (by simp;omega),chk_of (by simp;omega),Yk,h1,onInt_int]
    rw [h2,List.mem_cons] at hm
    by_cases h3:n=k
    ·rw [sel_pos (by simpa using h3)]
     exact ⟨_,rfl,i,lt,rfl,.inl ⟨rfl,rfl,hm.2 (.inl h3.symm)⟩⟩
    ·rw [sel_neg (by simpa using h3),wrap_i64 (by omega) (by omega)]
     exact ⟨_,rfl,i+1,rfl,⟨by omega,hm.trans ⟨fun h=>h.resolve_left fun e=>h3 e.symm,.inr⟩⟩,by dsimp only;omega⟩
   ·rw [sel_neg (by simp;omega)]
    refine ⟨_,rfl,i,false,rfl,.inr ⟨rfl,?_⟩⟩
    rw [hm,Wu (by omega)];simp
  ·rintro ⟨e,l⟩ ⟨i,x,rfl,⟨rfl,rfl,h⟩ | ⟨rfl,h⟩⟩
   ·simp only [A0]
    rw [if_pos (by simpa using h)]
   ·simp only [A0]
    rw [if_neg (by simpa using h),sel_pos (Yx _)]
 ·cases h
theorem w35:Walked Tryz.prog G 35 2 sp35:=by
 refine ⟨Tryz.f35,Tryz.func35,by decide +kernel,rfl,fun xs bl r h=> ?_⟩
 unfold sp35 at h
 split at h
 ·rename_i m1 m2 m3 x y z
  cases h
  refine Eq.trans (b:=(sel (z==m3) (some (Yh [Zw [(107:UInt8),(114:UInt8),(98:UInt8),(116:UInt8),(103:UInt8),(116:UInt8)],Zw m3,Zw m3],[])) (some (Yh [Zw [(107:UInt8),(114:UInt8),(98:UInt8),(116:UInt8),(103:UInt8),(116:UInt8)],Zw z,Zw m3],[])):Option (AV×Blocks))) (by kernel_rfl) ?_
  cases h:(z==m3)
  ·rfl
  ·rw [eq_of_beq h];rfl
 ·cases h
theorem w50:Walked Tryz.prog G 50 2 sp50:=by
 refine ⟨Tryz.f50,Tryz.func50,by decide +kernel,rfl,fun xs bl r h=> ?_⟩
 unfold sp50 at h
 split at h
 ·rename_i k little
  cases h
  refine Eq.trans (b:=(sel (!Xj k) (some (Zk [],[])) (sel little (some (Zk [(4:UInt8),Yp (Zu (Zx .u8 (Zx .i64 (Zx .i64 (2*k)+1))))],[])) (some (Zk [(4:UInt8),Yp (Zu (Zx .u8 (Zx .i64 (2*k))))],[]))):Option (AV×Blocks))) (by kernel_rfl) ?_
  by_cases h:1≤k∧k≤10
  ·have hk:k=1∨k=2∨k=3∨k=4∨k=5∨k=6∨k=7∨k=8∨k=9∨k=10:=by omega
   rcases hk with rfl | rfl | rfl | rfl | rfl | rfl | rfl | rfl | rfl | rfl<;>cases little<;>rfl
  ·have hk:Xj k=false:=by simp [Xj];omega
   by_cases h1:k<1
   ·simp [sel,Wm,hk,h1]
   ·have h2:10<k:=by omega
    simp [sel,Wm,hk,h1,h2]
 ·cases h
theorem w53:Walked Tryz.prog G 53 2 sp53:=by
 refine ⟨Tryz.f53,Tryz.func53,by decide +kernel,rfl,fun xs bl r h=> ?_⟩
 unfold sp53 at h
 split at h
 ·rename_i els
  obtain ⟨hpre,h2⟩:=chk_inv h;cases h2
  refine Eq.trans (b:=(Zj (loopM (fun (st:List AV)=>cSl 1 st fun b r=>cInt .i64 r fun n r=>cSl 1 r fun b_1 r=>cInt .i64 r fun n_1 r=>cInt .i64 r fun n_2 r=>onNil r (sel (decide (n_2<n_1)) (chk (decide (0≤n_2)&&decide (n_2<(↑(Zy b_1):Int))&&true) (AV.onBs (Yq b_1 (Zu n_2) AV.undef) fun b_2=>sel (decide (Zx .i64 (n+(↑(Zy b_2):Int))<0)) none (some (Wy [Xv 1 b,Zz .i64 (Zx .i64 (n+(↑(Zy b_2):Int))),Xv 1 b_1,Zz .i64 n_1,Zz .i64 (Zx .i64 (n_2+1))])))) (some (Xp (Xz 0,[Xv 1 b,Zz .i64 n,Xv 1 b_1,Zz .i64 n_1,Zz .i64 n_2]))))) [Xv 1 els,Zz .i64 0,Xv 1 els,Zz .i64 (↑(Zy els):Int),Zz .i64 0]) fun (r:Ex×List AV)=>cSl 1 (Zd r) fun b r_1=>cInt .i64 r_1 fun n r_2=>cSl 1 r_2 fun b_1 r_3=>cInt .i64 r_3 fun n_1 r_4=>cInt .i64 r_4 fun n_2 r_5=>onNil r_5 (exK r.1 none fun (j:Nat)=>sel (Wx j 0) (Zj (chk (decide (0≤n)&&decide (n≤140737488355328)) (some (Zn [],[]))) (kO fun l=>Zj (loopM (fun (st:List AV)=>onCons st fun x r=>Xk x fun b=>cSl 1 r fun b_2 r=>cInt .i64 r fun n r=>cInt .i64 r fun n_3 r=>onNil r (sel (decide (n_3<n)) (chk (decide (0≤n_3)&&decide (n_3<(↑(Zy b_2):Int))&&true) (AV.onBs (Yq b_2 (Zu n_3) AV.undef) fun b_3=>chk (room (Zy b+Zy b_3) 1) (some (Wy [Zn (b++b_3),Xv 1 b_2,Zz .i64 n,Zz .i64 (Zx .i64 (n_3+1))])))) (some (Xp (Xz 2,[Zn b,Xv 1 b_2,Zz .i64 n,Zz .i64 n_3]))))) [Zn l,Xv 1 b,Zz .i64 (↑(Zy b):Int),Zz .i64 0]) fun (r:Ex×List AV)=>onCons (Zd r) fun x r_6=>Xk x fun b=>cSl 1 r_6 fun b_2 r_7=>cInt .i64 r_7 fun n r_8=>cInt .i64 r_8 fun n r_9=>onNil r_9 (exK r.1 none fun (j:Nat)=>sel (Wx j 2) (some (Zn b,[])) none))) none):Option (AV×Blocks))) (by kernel_rfl) ?_
  delta kO
  try dsimp only [cStr,cBs,cBool,cU8,cInt,cSl,l63]
  simp only [Zg,decide_eq_true_eq] at hpre
  obtain ⟨⟨ha,hl⟩,hbig⟩:=hpre
  refine loop_rounds (fun i:Nat=>[Xv 1 els,Zz Zv ((catB (els.take i)).length:Int),Xv 1 els,Zz Zv (els.length:Int),Zz Zv (i:Int)]) (fun i=>i≤els.length) (fun i=>els.length-i)
   (fun r=>r=(Xz 0,[Xv 1 els,Zz Zv ((catB els).length:Int),Xv 1 els,Zz Zv (els.length:Int),Zz Zv (els.length:Int)])) 0 (Wf _) rfl ?_ ?_
  ·intro i hi
   simp only [A0]
   by_cases hlt:i<els.length
   ·obtain ⟨l,h1,h2,h3⟩:=Kerb.cat_step ha hlt
    rw [sel_pos (by simp;omega),chk_of (by simp;omega),Yk,h1,onBs_bs,wrap_i64 (n:=((catB (els.take i)).length:Int)+(l.length:Int)) (by omega) (by omega),sel_neg (by simp;omega),wrap_i64 (by omega) (by omega)]
    refine ⟨_,rfl,i+1,?_,by omega,by dsimp only;omega⟩
    dsimp only
    rw [h2,List.length_append,Int.natCast_add]
    rfl
   ·rw [sel_neg (by simp;omega)]
    refine ⟨_,rfl,?_⟩
    show _=_
    rw [Ym (by omega),show i=els.length from by omega]
  rintro r rfl
  simp only [A0]
  rw [sel_pos (Yx _),chk_of (by simp;omega)]
  refine loop_rounds (fun i:Nat=>[Zn (catB (els.take i)),Xv 1 els,Zz Zv (els.length:Int),Zz Zv (i:Int)]) (fun i=>i≤els.length) (fun i=>els.length-i)
   (fun r=>r=(Xz 2,[Zn (catB els),Xv 1 els,Zz Zv (els.length:Int),Zz Zv (els.length:Int)])) 0 (Wf _) rfl ?_ ?_
  ·intro i hi
   simp only [A0]
   by_cases hlt:i<els.length
   ·obtain ⟨l,h1,h2,h3⟩:=Kerb.cat_step ha hlt
    rw [sel_pos (by simp;omega),chk_of (by simp;omega),Yk,h1,onBs_bs,chk_of (Yz (by omega)),wrap_i64 (by omega) (by omega)]
    refine ⟨_,rfl,i+1,?_,by omega,by dsimp only;omega⟩
    dsimp only
    rw [h2]
    rfl
   ·rw [sel_neg (by simp;omega)]
    refine ⟨_,rfl,?_⟩
    show _=_
    rw [Ym (by omega),show i=els.length from by omega]
  rintro r rfl
  simp only [A0]
  rw [sel_pos (Yx _)]
 ·cases h
theorem w55:Walked Tryz.prog G 55 2 sp55:=by
 refine ⟨Tryz.f55,Tryz.func55,by decide +kernel,rfl,fun xs bl r h=> ?_⟩
 unfold sp55 at h
 split at h
 ·rename_i B at_ li bad
  obtain ⟨hpre,h2⟩:=chk_inv h;cases h2
  show runFnH (G.env 55 2) G.rts (G.own 55) Tryz.f55 _ _ [0]=_
  refine Eq.trans (b:=(Zj (chk (decide (Zy B≤140737488355328)) (some (Zb [Zw (Vz (Xf B at_)),Zz .i64 (Wb (Xf B at_)),Zz .i64 (Xh (Xf B at_))],[]))) fun (r:AV×Blocks)=>onNilB (Zd r) (AV.onTup (Zf r) fun vs=>onCons vs fun x r=>Xm x fun b=>onCons r fun x r=>Yb .i64 x fun n=>onCons r fun x r=>Yb .i64 x fun n_1=>onNil r (some (Zw b,[[Zk B,Zz .i64 (bif bad || !n_1==0 then at_ else n),Zq li,Zq (bad || !n_1==0)]]))):Option (AV×Blocks))) (by kernel_rfl) ?_
  simp only [A0]
  rw [chk_of hpre]
 ·cases h
theorem w56:Walked Tryz.prog G 56 2 sp56:=by
 refine ⟨Tryz.f56,Tryz.func56,by decide +kernel,rfl,fun xs bl r h=> ?_⟩
 unfold sp56 at h
 split at h
 ·rename_i n B at_ li bad
  obtain ⟨hpre,h2⟩:=chk_inv h;cases h2
  show runFnH (G.env 56 2) G.rts (G.own 56) Tryz.f56 _ _ [0]=_
  refine Eq.trans (b:=(Zj (chk (decide (Zy B≤140737488355328)) (some (Zb [Zk (Vz (Vy B at_ n)),Zz .i64 (Wb (Vy B at_ n)),Zz .i64 (Xh (Vy B at_ n))],[]))) fun (r:AV×Blocks)=>onNilB (Zd r) (AV.onTup (Zf r) fun vs=>onCons vs fun x r=>AV.onBs x fun b=>onCons r fun x r=>Yb .i64 x fun n=>onCons r fun x r=>Yb .i64 x fun n_1=>onNil r (some (Zk b,[[Zk B,Zz .i64 (bif bad || !n_1==0 then at_ else n),Zq li,Zq (bad || !n_1==0)]]))):Option (AV×Blocks))) (by kernel_rfl) ?_
  simp only [A0]
  rw [chk_of hpre]
 ·cases h
theorem w57:Walked Tryz.prog G 57 2 sp57:=by
 refine ⟨Tryz.f57,Tryz.func57,by decide +kernel,rfl,fun xs bl r h=> ?_⟩
 unfold sp57 at h
 split at h
 ·rename_i s
  obtain ⟨hpre,h2⟩:=chk_inv h;cases h2
  refine Eq.trans (b:=(sel (decide ((↑(Zy s):Int)>0)) (Zj (chk (decide (Zy s≤9223372036854775807)&&true) (some (Zq (Yj s [(64:UInt8)]&&decide (Zy s≤39)),[]))) fun (r:AV×Blocks)=>onNilB (Zd r) (Vq (Zf r) fun b=>some (Zq b,[]))) (some (Zq false,[])):Option (AV×Blocks))) (by kernel_rfl) ?_
  simp only [A0]
  rw [chk_of (by rw [hpre];rfl)]
  simp only [Kerb.validRealm]
  cases s with
  | nil=>rfl
  | cons x r =>
   rw [sel_pos (by first | (simp;done) | (simp;omega)),Bool.and_comm]
   rfl
 ·cases h
theorem w59:Walked Tryz.prog G 59 2 sp59:=by
 refine ⟨Tryz.f59,Tryz.func59,by decide +kernel,rfl,fun xs bl r h=> ?_⟩
 unfold sp59 at h
 split at h
 ·rename_i b n
  obtain ⟨hpre,h2⟩:=chk_inv h;cases h2
  refine Eq.trans (b:=(Zj (chk (decide (Zy b≤70368744177664)) (some (Zn (b++Yn n (Zu 1) false),[]))) fun (r:AV×Blocks)=>onNilB (Zd r) (Xk (Zf r) fun l=>some (Zn l,[])):Option (AV×Blocks))) (by kernel_rfl) ?_
  simp only [decide_eq_true_eq] at hpre
  simp only [A0]
  rw [chk_of (by simp;omega)]
  rfl
 ·cases h
theorem w76:Walked Tryz.prog G 76 2 sp76:=by
 refine ⟨Tryz.f76,Tryz.func76,by decide +kernel,rfl,fun xs bl r h=> ?_⟩
 unfold sp76 at h
 split at h
 ·rename_i x y z k lf kv iss tk
  obtain ⟨hpre,h2⟩:=chk_inv h;cases h2
  refine Eq.trans (b:=(Zj (chk (decide (Zy tk≤140737488355328)) (some (Zk tk,[]))) fun (r:AV×Blocks)=>onNilB (Zd r) (AV.onBs (Zf r) fun b=>some (Yh [Zw x,Zw y,Zw z,Zz .u64 k,Zz .i64 lf,Zz .i64 kv,Zz .i64 iss,Zk b],[])):Option (AV×Blocks))) (by kernel_rfl) ?_
  simp only [A0,Yy,Yv,Zh,hpre]
 ·cases h
theorem w77:Walked Tryz.prog G 77 2 sp77:=by
 refine ⟨Tryz.f77,Tryz.func77,by decide +kernel,rfl,fun xs bl r h=> ?_⟩
 unfold sp77 at h
 split at h
 ·rename_i i l
  cases h
  refine Eq.trans (b:=(sel (!Zm i 4294967295) (some (Zz .i64 0,[])) (sel (!Zm l 255) (some (Zz .i64 0,[])) (some (Zz .i64 (Zx .i64 (i+Zx .i64 (300*Zx .i64 (l+1)))),[]))):Option (AV×Blocks))) (by kernel_rfl) ?_
  unfold Kerb.tEnd
  cases h1:Zm i 4294967295
  ·rfl
  cases h2:Zm l 255
  ·rfl
  have a1:=Kerb.within_iff.1 h1
  have a2:=Kerb.within_iff.1 h2
  simp only [Wg,sel_false,Bool.and_self,if_true]
  rw [wrap_i64 (n:=l+1) (by omega) (by omega),wrap_i64 (n:=300*(l+1)) (by omega) (by omega),wrap_i64 (by omega) (by omega)]
 ·cases h
theorem w92:Walked Tryz.prog G 92 2 sp92:=by
 refine ⟨Tryz.f92,Tryz.func92,by decide +kernel,rfl,fun xs bl r h=> ?_⟩
 unfold sp92 at h
 split at h
 ·rename_i b x y z
  obtain ⟨hpre,h2⟩:=chk_inv h;cases h2
  refine Eq.trans (b:=(Zj (chk (decide (Zy b+Zy x≤70368744177664)) (some (Zk (Xx b x),[]))) fun (r:AV×Blocks)=>onNilB (Zd r) (AV.onBs (Zf r) fun b=>Zj (chk (decide (Zy b+Zy y≤70368744177664)) (some (Zk (Xx b y),[]))) fun (r:AV×Blocks)=>onNilB (Zd r) (AV.onBs (Zf r) fun b=>Zj (chk (decide (Zy b+Zy z≤70368744177664)) (some (Zk (Xx b z),[]))) fun (r:AV×Blocks)=>onNilB (Zd r) (AV.onBs (Zf r) fun b=>some (Zk b,[])))):Option (AV×Blocks))) (by kernel_rfl) ?_
  simp only [decide_eq_true_eq] at hpre
  simp only [A0]
  rw [chk_of (by simp;omega),chk_of (by simp [Xx];omega),chk_of (by simp [Xx];omega)]
  rfl
 ·cases h
theorem w94:Walked Tryz.prog G 94 2 sp94:=by
 refine ⟨Tryz.f94,Tryz.func94,by decide +kernel,rfl,fun xs bl r h=> ?_⟩
 unfold sp94 at h
 split at h
 ·rename_i b n little
  obtain ⟨hpre,h2⟩:=chk_inv h;cases h2
  refine Eq.trans (b:=(Zj (chk (decide (Zy b≤70368744177664)) (some (Zn (b++Yn n (Zu 4) little),[]))) fun (r:AV×Blocks)=>onNilB (Zd r) (Xk (Zf r) fun l=>some (Zn l,[])):Option (AV×Blocks))) (by kernel_rfl) ?_
  simp only [decide_eq_true_eq] at hpre
  simp only [A0]
  rw [chk_of (by simp;omega)]
  rfl
 ·cases h
theorem w96:Walked Tryz.prog G 96 2 sp96:=by
 refine ⟨Tryz.f96,Tryz.func96,by decide +kernel,rfl,fun xs bl r h=> ?_⟩
 unfold sp96 at h
 split at h
 ·rename_i s
  obtain ⟨hpre,h2⟩:=chk_inv h;cases h2
  refine Eq.trans (b:=(sel (decide ((↑(Zy s):Int)>0)) (Zj (chk (decide (Zy s≤9223372036854775807)&&true) (some (Zq (Yj s [(46:UInt8),(64:UInt8)]&&decide (Zy s≤39)),[]))) fun (r:AV×Blocks)=>onNilB (Zd r) (Vq (Zf r) fun b=>some (Zq b,[]))) (some (Zq false,[])):Option (AV×Blocks))) (by kernel_rfl) ?_
  simp only [A0]
  rw [chk_of (by rw [hpre];rfl)]
  simp only [Kerb.validName]
  cases s with
  | nil=>rfl
  | cons x r =>
   rw [sel_pos (by first | (simp;done) | (simp;omega)),Bool.and_comm]
   rfl
 ·cases h
theorem w97:Walked Tryz.prog G 97 2 sp97:=by
 refine ⟨Tryz.f97,Tryz.func97,by decide +kernel,rfl,fun xs bl r h=> ?_⟩
 unfold sp97 at h
 split at h
 ·rename_i s
  obtain ⟨hpre,h2⟩:=chk_inv h;cases h2
  refine Eq.trans (b:=(Zj (chk (decide (Zy s≤9223372036854775807)&&true) (some (Zq (Yj s [(64:UInt8)]&&decide (Zy s≤39)),[]))) fun (r:AV×Blocks)=>onNilB (Zd r) (Vq (Zf r) fun b=>some (Zq b,[])):Option (AV×Blocks))) (by kernel_rfl) ?_
  simp only [A0]
  rw [chk_of (by rw [hpre];rfl),Bool.and_comm]
  rfl
 ·cases h
theorem w98:Walked Tryz.prog G 98 2 sp98:=by
 refine ⟨Tryz.f98,Tryz.func98,by decide +kernel,rfl,fun xs bl r h=> ?_⟩
 unfold sp98 at h
 split at h
 ·rename_i k
  obtain ⟨hpre,h2⟩:=chk_inv h;cases h2
  refine Eq.trans (b:=(sel (!Vj (Zx .i64 (Vf k (2 ^ min (Zu 56) (Zp .u64))))) (some (Zb [Zz .i64 0,Zz .i64 0,Zq false],[])) (sel (!Vx (Zx .i64 (Zx .u64 (↑(BitVec.toNat (BitVec.ofInt (Zp .u64) k &&& BitVec.ofInt (Zp .u64) 72057594037927935)):Int)))) (some (Zb [Zz .i64 0,Zz .i64 0,Zq false],[])) (some (Zb [Zz .i64 (Zx .i64 (Vf k (2 ^ min (Zu 56) (Zp .u64)))),Zz .i64 (Zx .i64 (Zx .u64 (↑(BitVec.toNat (BitVec.ofInt (Zp .u64) k &&& BitVec.ofInt (Zp .u64) 72057594037927935)):Int))),Zq true],[]))):Option (AV×Blocks))) (by kernel_rfl) ?_
  simp only [Zg,decide_eq_true_eq] at hpre
  obtain ⟨h0,h1⟩:=hpre
  rw [Kerb.key_hi h0 h1,Kerb.key_lo h0 h1]
  unfold Wz
  cases Vj (Kerb.keyClass k)
  ·rfl
  cases Vx (Kerb.keySerial k)<;>rfl
 ·cases h
theorem w107:Walked Tryz.prog G 107 2 sp107:=by
 refine ⟨Tryz.f107,Tryz.func107,by decide +kernel,rfl,fun xs bl r h=> ?_⟩
 unfold sp107 at h
 split at h
 ·rename_i b pos k little
  obtain ⟨hpre,h2⟩:=chk_inv h;cases h2
  refine Eq.trans (b:=(Zj (chk (decide (Zy b≤140737488355328)) (some (Zb [Zk (Vz (Vy b pos k)),Zz .i64 (Wb (Vy b pos k)),Zz .i64 (Xh (Vy b pos k))],[]))) (kT fun vs=>cBs vs fun b r=>cInt .i64 r fun n r=>cInt .i64 r fun n_1 r=>onNil r (sel (!n_1==0) (some (Zb [Zz .i64 0,Zz .i64 0,Zz .i64 n_1],[])) (Zj (loopM (fun (st:List AV)=>cInt .i64 st fun n r=>cBool r fun b r=>cBs r fun b_1 r=>cInt .i64 r fun n_2 r=>cInt .i64 r fun n_3 r=>let t0:BitVec (Zp .i64):=BitVec.ofInt (Zp .i64) (Zx .i64 (n_3*2 ^ min (Zu 8) (Zp .i64)));cInt .i64 r fun n_4 r=>let t1:Int:=Zx .i64 (Zx .i64 (n-1)-n_4);onNil r (sel (decide (n_4<n)) (sel b (chk (decide (0≤t1)&&decide (t1<(↑(Zy b_1):Int))) (some (Wy [Zz .i64 n,Zq b,Zk b_1,Zz .i64 n_2,Zz .i64 (Zx .i64 (↑(BitVec.toNat (t0 ||| BitVec.ofInt (Zp .i64) (Zx .i64 (↑(Yf (Yq b_1 (Zu t1) (0:UInt8))):Int)))):Int)),Zz .i64 (Zx .i64 (n_4+1))]))) (chk (decide (0≤n_4)&&decide (n_4<(↑(Zy b_1):Int))) (some (Wy [Zz .i64 n,Zq b,Zk b_1,Zz .i64 n_2,Zz .i64 (Zx .i64 (↑(BitVec.toNat (t0 ||| BitVec.ofInt (Zp .i64) (Zx .i64 (↑(Yf (Yq b_1 (Zu n_4) (0:UInt8))):Int)))):Int)),Zz .i64 (Zx .i64 (n_4+1))])))) (some (Xp (Xz 0,[Zz .i64 n,Zq b,Zk b_1,Zz .i64 n_2,Zz .i64 n_3,Zz .i64 n_4]))))) [Zz .i64 k,Zq little,Zk b,Zz .i64 n,Zz .i64 0,Zz .i64 0]) fun (r:Ex×List AV)=>cInt .i64 (Zd r) fun n r_1=>cBool r_1 fun b r_2=>cBs r_2 fun b r_3=>cInt .i64 r_3 fun n r_4=>cInt .i64 r_4 fun n_2 r_5=>cInt .i64 r_5 fun n_3 r_6=>onNil r_6 (exK r.1 none fun (j:Nat)=>sel (Wx j 0) (some (Zb [Zz .i64 n_2,Zz .i64 n,Zz .i64 0],[])) none)))):Option (AV×Blocks))) (by kernel_rfl) ?_
  delta kT
  try dsimp only [cStr,cBs,cBool,cU8,cInt,cSl,l63]
  simp only [Zg,decide_eq_true_eq] at hpre
  obtain ⟨⟨hb,hk0⟩,hk4⟩:=hpre
  simp only [A0]
  rw [chk_of (by simpa using hb)]
  unfold Wd Vy
  by_cases hr:Wn b pos k=0
  case neg =>
   rw [if_neg hr,if_neg hr,sel_pos (by simpa using hr)]
  rw [if_pos hr,if_pos hr,sel_neg (by simp)]
  obtain ⟨q1,q2,q3,q4⟩:=Kerb.room_zero.1 hr
  have hcl:=Kerb.cut_length hr
  obtain ⟨C,hC⟩:∃ C,C=Kerb.cut b pos k:=⟨_,rfl⟩
  rw [← hC] at hcl ⊢
  obtain ⟨L,hL⟩:∃ L,L=cond little C.reverse C:=⟨_,rfl⟩
  have hLl:L.length=k.toNat:=by rw [hL];cases little<;>simp [hcl]
  rw [← hL]
  refine loop_rounds (fun i:Nat=>[Zz Zv k,Zq little,Zk C,Zz Zv (pos+k),Zz Zv (Kerb.valB (L.take i)),Zz Zv (i:Int)]) (fun i=>i≤k.toNat) (fun i=>k.toNat-i)
   (fun r=>r=(Xz 0,[Zz Zv k,Zq little,Zk C,Zz Zv (pos+k),Zz Zv (Kerb.valB L),Zz Zv k])) 0 (Wf _) rfl ?_ ?_
  ·intro i hi
   simp only [A0]
   by_cases hlt:i<k.toNat
   ·rw [sel_pos (by simp;omega)]
    have hv:=Kerb.valB_bd (l:=L.take i) (by simp;omega)
    have hs:=Kerb.valB_take (l:=L) (i:=i) (by omega)
    have hgd:L.getD i 0=C.getD (cond little (k.toNat-1-i) i) 0:=by
     rw [hL]
     cases little
     ·rfl
     ·show C.reverse.getD i 0=_
      rw [Kerb.getD_reverse (by omega),hcl];rfl
    cases little
    ·rw [sel_neg rfl,chk_of (by simp;omega),Yk]
     rw [Kerb.shl8_or _ hv.1 (by omega),wrap_i64 (n:=(i:Int)+1) (by omega) (by omega)]
     refine ⟨_,rfl,i+1,?_,by omega,by dsimp only;omega⟩
     dsimp only
     rw [hs,hgd];rfl
    ·rw [sel_pos rfl,wrap_i64 (n:=k-1) (by omega) (by omega),wrap_i64 (n:=k-1-(i:Int)) (by omega) (by omega),chk_of (by simp;omega),show (k-1-(i:Int)).toNat=k.toNat-1-i from by omega]
     rw [Kerb.shl8_or _ hv.1 (by omega),wrap_i64 (n:=(i:Int)+1) (by omega) (by omega)]
     refine ⟨_,rfl,i+1,?_,by omega,by dsimp only;omega⟩
     dsimp only
     rw [hs,hgd];rfl
   ·rw [sel_neg (by simp;omega)]
    refine ⟨_,rfl,?_⟩
    show _=_
    rw [Ym (by omega),show (i:Int)=k from by omega]
  ·rintro r rfl
   simp only [A0]
   rw [sel_pos (Yx _)]
 ·cases h
theorem w108:Walked Tryz.prog G 108 2 sp108:=by
 refine ⟨Tryz.f108,Tryz.func108,by decide +kernel,rfl,fun xs bl r h=> ?_⟩
 unfold sp108 at h
 split at h
 ·rename_i k
  obtain ⟨hpre,h2⟩:=chk_inv h;cases h2
  refine Eq.trans (b:=(sel (!k==0) (some (Zq ((bif Vj (Zx .i64 (Vf k (2 ^ min (Zu 56) (Zp .u64))))&&Vx (Zx .i64 (Zx .u64 (↑(BitVec.toNat (BitVec.ofInt (Zp .u64) k &&& BitVec.ofInt (Zp .u64) 72057594037927935)):Int))) then Zx .i64 (Vf k (2 ^ min (Zu 56) (Zp .u64)))*72057594037927936+Zx .i64 (Zx .u64 (↑(BitVec.toNat (BitVec.ofInt (Zp .u64) k &&& BitVec.ofInt (Zp .u64) 72057594037927935)):Int)) else 0)==k),[])) (some (Zq false,[])):Option (AV×Blocks))) (by kernel_rfl) ?_
  simp only [Zg,decide_eq_true_eq] at hpre
  obtain ⟨h0,h1⟩:=hpre
  rw [Kerb.key_hi h0 h1,Kerb.key_lo h0 h1,Kerb.key_sum]
  by_cases hk:k=0
  ·subst hk;rfl
  rw [sel_pos (by simpa using hk)]
  unfold Wz
  cases Vj (Kerb.keyClass k)&&Vx (Kerb.keySerial k)
  ·have q:((0:Int)==k)=false:=by simp;omega
   simp only [cond_false,q]
  ·simp only [cond_true,BEq.rfl]
 ·cases h
theorem w112:Walked Tryz.prog G 112 2 sp112:=by
 refine ⟨Tryz.f112,Tryz.func112,by decide +kernel,rfl,fun xs bl r h=> ?_⟩
 unfold sp112 at h
 split at h
 ·rename_i s c
  cases h
  refine Eq.trans (b:=(some (Zz .i64 (Wh c s),[]):Option (AV×Blocks))) (by kernel_rfl) ?_
  rfl
 ·cases h
theorem w6:Walked Tryz.prog G 6 3 sp6:=by
 refine ⟨Tryz.f6,Tryz.func6,by decide +kernel,rfl,fun xs bl r h=> ?_⟩
 unfold sp6 at h
 split at h
 ·rename_i n
  obtain ⟨hpre,h2⟩:=chk_inv h;cases h2
  refine Eq.trans (b:=(chk (decide (0≤Yw n 3)&&decide (Yw n 3<(↑(Zy [Yh [Zw [(109:UInt8),(97:UInt8),(105:UInt8),(108:UInt8)],Zw [],Zw []],Yh [Zw [(110:UInt8),(102:UInt8),(115:UInt8)],Zw [(104:UInt8),(111:UInt8),(109:UInt8),(101:UInt8)],Zw []],Yh [Zw [(107:UInt8),(114:UInt8),(98:UInt8),(116:UInt8),(103:UInt8),(116:UInt8)],Zw [(65:UInt8),(84:UInt8),(72:UInt8)],Zw []]]):Int))&&true) (AV.onAgg (Yq [Yh [Zw [(109:UInt8),(97:UInt8),(105:UInt8),(108:UInt8)],Zw [],Zw []],Yh [Zw [(110:UInt8),(102:UInt8),(115:UInt8)],Zw [(104:UInt8),(111:UInt8),(109:UInt8),(101:UInt8)],Zw []],Yh [Zw [(107:UInt8),(114:UInt8),(98:UInt8),(116:UInt8),(103:UInt8),(116:UInt8)],Zw [(65:UInt8),(84:UInt8),(72:UInt8)],Zw []]] (Zu (Yw n 3)) AV.undef) fun cs=>onCons cs fun x r=>Xm x fun b=>onCons r fun x r=>Xm x fun b_1=>onCons r fun x r=>Xm x fun b_2=>onNil r (Zj (chk (decide (0≤Zx .i64 (Int.tdiv n 3))) (some (Zw (Kerb.realm (Zx .i64 (Int.tdiv n 3))),[]))) fun (r:AV×Blocks)=>onNilB (Zd r) (Xm (Zf r) fun b_3=>some (Yh [Zw b,Zw b_1,Zw b_3],[])))):Option (AV×Blocks))) (by kernel_rfl) ?_
  have hn:0≤n:=by first | exact of_decide_eq_true hpre | (simp only [Zg,decide_eq_true_eq] at hpre;exact hpre.1)
  have ht:Yw n 3=n % 3:=Xu hn
  have hcase:n % 3=0∨n % 3=1∨n % 3=2:=by omega
  simp only [Zg,decide_eq_true_eq] at hpre
  have hd:Int.tdiv n 3=n / 3:=Vd hn
  rw [hd,wrap_i64 (by omega) (by omega)]
  have hq:decide ((0:Int)≤n / 3)=true:=by simp;omega
  rcases hcase with e | e | e<;>simp [ht,e,chk,Xm,AV.onAgg,onCons,onNil,Kerb.service,hq,onNilB]<;>omega
 ·cases h
theorem w11:Walked Tryz.prog G 11 3 sp11:=by
 refine ⟨Tryz.f11,Tryz.func11,by decide +kernel,rfl,fun xs bl r h=> ?_⟩
 unfold sp11 at h
 split at h
 ·rename_i n
  obtain ⟨hpre,h2⟩:=chk_inv h;cases h2
  refine Eq.trans (b:=(chk (decide (0≤Yw n 3)&&decide (Yw n 3<(↑(Zy [Zw [(97:UInt8),(110:UInt8),(110:UInt8)],Zw [(98:UInt8),(111:UInt8),(98:UInt8)],Zw [(99:UInt8),(97:UInt8),(116:UInt8)]]):Int))&&true) (Xm (Yq [Zw [(97:UInt8),(110:UInt8),(110:UInt8)],Zw [(98:UInt8),(111:UInt8),(98:UInt8)],Zw [(99:UInt8),(97:UInt8),(116:UInt8)]] (Zu (Yw n 3)) AV.undef) fun b=>Zj (chk (decide (0≤Zx .i64 (Int.tdiv n 3))) (some (Zw (Kerb.realm (Zx .i64 (Int.tdiv n 3))),[]))) fun (r:AV×Blocks)=>onNilB (Zd r) (Xm (Zf r) fun b_1=>some (Yh [Zw b,Zw [],Zw b_1],[]))):Option (AV×Blocks))) (by kernel_rfl) ?_
  have hn:0≤n:=by first | exact of_decide_eq_true hpre | (simp only [Zg,decide_eq_true_eq] at hpre;exact hpre.1)
  have ht:Yw n 3=n % 3:=Xu hn
  have hcase:n % 3=0∨n % 3=1∨n % 3=2:=by omega
  simp only [Zg,decide_eq_true_eq] at hpre
  have hd:Int.tdiv n 3=n / 3:=Vd hn
  rw [hd,wrap_i64 (by omega) (by omega)]
  have hq:decide ((0:Int)≤n / 3)=true:=by simp;omega
  rcases hcase with e | e | e<;>simp [ht,e,chk,Xm,Kerb.user,hq,onNilB]<;>omega
 ·cases h
theorem w28:Walked Tryz.prog G 28 3 sp28:=by
 refine ⟨Tryz.f28,Tryz.func28,by decide +kernel,rfl,fun xs bl r h=> ?_⟩
 unfold sp28 at h
 split at h
 ·rename_i li mu kv rl tk au
  obtain ⟨hpre,h2⟩:=chk_inv h;cases h2
  refine Eq.trans (b:=(Zj (chk (l63 rl) (some (Zq (Kerb.validRealm rl),[]))) (kL fun b=>sel (!b) (some (Zb [Zk [],Zz .i64 103],[])) (sel (!Zm kv 255) (some (Zb [Zk [],Zz .i64 104],[])) (sel (decide ((↑(Zy tk):Int)>255)) (some (Zb [Zk [],Zz .i64 105],[])) (sel (decide ((↑(Zy au):Int)>255)) (some (Zb [Zk [],Zz .i64 105],[])) (sel mu (Zj (chk (decide (Zy (Wm 4 li)≤70368744177664)) (some (Zn (Wm 4 li++Yn kv 1 false),[]))) (kO fun l=>Zj (chk (decide (Zy l+Zy rl≤70368744177664)) (some (Zk (Xx l rl),[]))) (kB fun b=>Zj (chk (decide (Zy b≤70368744177664)) (some (Zn (b++Yn (↑(Zy tk):Int) 1 false),[]))) (kO fun l=>Zj (chk (decide (Zy l≤70368744177664)) (some (Zn (l++Yn (↑(Zy au):Int) 1 false),[]))) (kO fun l=>chk (room (Zy l+Zy tk) 1) (chk (room (Zy (l++tk)+Zy au) 1) (some (Zb [Zk (l++tk++au),Zz .i64 0],[])))))))) (Zj (chk (decide (Zy (Wm 3 li)≤70368744177664)) (some (Zn (Wm 3 li++Yn kv 1 false),[]))) (kO fun l=>Zj (chk (decide (Zy l+Zy rl≤70368744177664)) (some (Zk (Xx l rl),[]))) (kB fun b=>Zj (chk (decide (Zy b≤70368744177664)) (some (Zn (b++Yn (↑(Zy tk):Int) 1 false),[]))) (kO fun l=>Zj (chk (decide (Zy l≤70368744177664)) (some (Zn (l++Yn (↑(Zy au):Int) 1 false),[]))) (kO fun l=>chk (room (Zy l+Zy tk) 1) (chk (room (Zy (l++tk)+Zy au) 1) (some (Zb [Zk (l++tk++au),Zz .i64 0],[]))))))))))))):Option (AV×Blocks))) (by kernel_rfl) ?_
  delta kB kO kL
  try dsimp only [cStr,cBs,cBool,cU8,cInt,cSl,l63]
  simp only [A0,Yy,Yv,Zh,hpre]
  unfold Kerb.encodeAp
  simp only
  cases h1:Kerb.validRealm rl
  ·rfl
  rw [Wg,sel_false,if_neg (by simp)]
  cases h2:Zm kv 255
  ·rfl
  rw [Wg,sel_false,if_neg (by simp)]
  by_cases h3:255<tk.length
  ·rw [sel_pos (by simp;omega),if_pos (.inl h3)]
  rw [sel_neg (by simp;omega)]
  by_cases h4:255<au.length
  ·rw [sel_pos (by simp;omega),if_pos (.inr h4)]
  rw [sel_neg (by simp;omega),if_neg (by omega)]
  have l1:=Kerb.validRealm_len h1
  have g3:=Kerb.header_len 3 li
  have g4:=Kerb.header_len 4 li
  cases mu
  ·rw [sel_false,chk_of (by simp;omega),chk_of (by simp [Xy];omega),chk_of (by simp [Xy,Xb];omega),chk_of (by simp [Xy,Xb];omega),chk_of (Yz (by simp [Xy,Xb];omega)),chk_of (Yz (by simp [Xy,Xb];omega))]
   rfl
  ·rw [sel_true,chk_of (by simp;omega),chk_of (by simp [Xy];omega),chk_of (by simp [Xy,Xb];omega),chk_of (by simp [Xy,Xb];omega),chk_of (Yz (by simp [Xy,Xb];omega)),chk_of (Yz (by simp [Xy,Xb];omega))]
   rfl
 ·cases h
theorem w46:Walked Tryz.prog G 46 3 sp46:=by
 refine ⟨Tryz.f46,Tryz.func46,by decide +kernel,rfl,fun xs bl r h=> ?_⟩
 unfold sp46 at h
 split at h
 ·rename_i o1 o2 o3 els x y z
  obtain ⟨hpre,h2⟩:=chk_inv h;cases h2
  refine Eq.trans (b:=(Zj (chk (List.all els Kerb.isCred&&decide (Zy els≤1000000)) (some (Zz .i64 (↑(Wv (List.map Vg els) (Xg x y z)):Int),[]))) (kI .i64 fun n=>sel (n==(↑(Zy els):Int)) (some (Zb [Yh [Zw [],Zw [],Zw [],Zz .u64 0,Zz .i64 0,Zz .i64 0,Zz .i64 0,Zk []],Zq false],[])) (chk (decide (0≤n)&&decide (n<(↑(Zy els):Int))&&true) (AV.onAgg (Yq els (Zu n) AV.undef) fun cs=>cStr cs fun b r=>cStr r fun b_1 r=>cStr r fun b_2 r=>cInt .u64 r fun n r=>cInt .i64 r fun n_1 r=>cInt .i64 r fun n_2 r=>cInt .i64 r fun n_3 r=>cBs r fun b_3 r=>onNil r (Zj (chk (decide (Zy b_3≤140737488355328)) (some (Yh [Zw b,Zw b_1,Zw b_2,Zz .u64 n,Zz .i64 n_1,Zz .i64 n_2,Zz .i64 n_3,Zk b_3],[]))) (kA fun cs=>cStr cs fun b r=>cStr r fun b_4 r=>cStr r fun b_5 r=>cInt .u64 r fun n r=>cInt .i64 r fun n_4 r=>cInt .i64 r fun n_5 r=>cInt .i64 r fun n_6 r=>cBs r fun b_6 r=>onNil r (some (Zb [Yh [Zw b,Zw b_4,Zw b_5,Zz .u64 n,Zz .i64 n_4,Zz .i64 n_5,Zz .i64 n_6,Zk b_6],Zq true],[]))))))):Option (AV×Blocks))) (by kernel_rfl) ?_
  delta kA kI
  try dsimp only [cStr,cBs,cBool,cU8,cInt,cSl,l63]
  simp only [Zg,decide_eq_true_eq] at hpre
  obtain ⟨⟨hall,hlen⟩,hfit⟩:=hpre
  obtain ⟨cs,rfl,hok⟩:=Kerb.creds_of hall
  have hf:=Kerb.fit_of hfit
  simp only [A0,Yy,Yv,Zh,Kerb.map_toCred,List.length_map] at hlen ⊢
  rw [chk_of (by rw [hall];simp;omega)]
  have hle:=Kerb.credAt_le cs ⟨x,y,z⟩
  unfold Vk
  by_cases h:Wv cs ⟨x,y,z⟩<cs.length
  ·rw [sel_neg (by simp;omega),chk_of (by simp;omega),Yk,Kerb.getD_av h,if_pos h]
   obtain ⟨c,hcc⟩:∃ c,cs.getD (Wv cs ⟨x,y,z⟩) Kerb.noCred=c:=⟨_,rfl⟩
   have hm:c∈cs:=by rw [← hcc];simp [List.getD_eq_getElem?_getD,h]
   have ht:=hf c hm
   rw [hcc]
   simp only [Zh,A0,Yy,Yv,Zh]
   rw [chk_of (by simpa using ht)]
  ·rw [sel_pos (by simp;omega),if_neg h]
   rfl
 ·cases h
theorem w47:Walked Tryz.prog G 47 3 sp47:=by
 refine ⟨Tryz.f47,Tryz.func47,by decide +kernel,rfl,fun xs bl r h=> ?_⟩
 unfold sp47 at h
 split at h
 ·rename_i x y z k lf kv iss tk now
  cases h
  refine Eq.trans (b:=(some (Zq (decide (now>Kerb.tEnd iss lf)),[]):Option (AV×Blocks))) (by kernel_rfl) ?_
  rfl
 ·cases h
theorem w52:Walked Tryz.prog G 52 3 sp52:=by
 refine ⟨Tryz.f52,Tryz.func52,by decide +kernel,rfl,fun xs bl r h=> ?_⟩
 unfold sp52 at h
 split at h
 ·rename_i b s
  obtain ⟨hpre,h2⟩:=chk_inv h;cases h2
  refine Eq.trans (b:=(Zj (chk (decide (Zy (Xq b (Xq s ((0:UInt8)::Xq [] [])))≤140737488355328)&&decide (Zy [Zk b,Zk s,Zk [(0:UInt8)]]≤1000)) (some (Zn (Xq b (Xq s ((0:UInt8)::Xq [] []))),[]))) fun (r:AV×Blocks)=>onNilB (Zd r) (Xk (Zf r) fun l=>some (Zk l,[])):Option (AV×Blocks))) (by kernel_rfl) ?_
  simp only [decide_eq_true_eq] at hpre
  simp only [A0]
  rw [chk_of (by simp;omega)]
  simp [Xx]
 ·cases h
theorem w63:Walked Tryz.prog G 63 3 sp63:=by
 refine ⟨Tryz.f63,Tryz.func63,by decide +kernel,rfl,fun xs bl r h=> ?_⟩
 unfold sp63 at h
 split at h
 ·rename_i B at_ li bad
  obtain ⟨hpre,h2⟩:=chk_inv h;cases h2
  show runFnH (G.env 63 3) G.rts (G.own 63) Tryz.f63 _ _ [0]=_
  refine Eq.trans (b:=(Zj (chk (decide (Zy B≤140737488355328)) (some (Zw (Vz (Xf B at_)),[[Zk B,Zz .i64 (bif bad || !Xh (Xf B at_)==0 then at_ else Wb (Xf B at_)),Zq li,Zq (bad || !Xh (Xf B at_)==0)]]))) fun (r:AV×Blocks)=>onConsB (Zd r) fun (x:List AV) (r_1:List (List AV))=>cBs x fun b r_2=>cInt .i64 r_2 fun n r_3=>cBool r_3 fun b_1 r_4=>cBool r_4 fun b_2 r_5=>onNil r_5 (onNilB r_1 (Xm (Zf r) fun b_3=>Zj (chk (decide (Zy b≤140737488355328)) (some (Zw (Vz (Xf b n)),[[Zk b,Zz .i64 (bif b_2 || !Xh (Xf b n)==0 then n else Wb (Xf b n)),Zq b_1,Zq (b_2 || !Xh (Xf b n)==0)]]))) fun (r:AV×Blocks)=>onConsB (Zd r) fun (x:List AV) (r_6:List (List AV))=>cBs x fun b r_7=>cInt .i64 r_7 fun n r_8=>cBool r_8 fun b_4 r_9=>cBool r_9 fun b_5 r_10=>onNil r_10 (onNilB r_6 (Xm (Zf r) fun b_6=>Zj (chk (decide (Zy b≤140737488355328)) (some (Zw (Vz (Xf b n)),[[Zk b,Zz .i64 (bif b_5 || !Xh (Xf b n)==0 then n else Wb (Xf b n)),Zq b_4,Zq (b_5 || !Xh (Xf b n)==0)]]))) fun (r:AV×Blocks)=>onConsB (Zd r) fun (x:List AV) (r_11:List (List AV))=>cBs x fun b r_12=>cInt .i64 r_12 fun n r_13=>cBool r_13 fun b_7 r_14=>cBool r_14 fun b_8 r_15=>onNil r_15 (onNilB r_11 (Xm (Zf r) fun b_9=>some (Yh [Zw b_3,Zw b_6,Zw b_9],[[Zk b,Zz .i64 n,Zq b_7,Zq b_8]]))))))):Option (AV×Blocks))) (by kernel_rfl) ?_
  try dsimp only [cStr,cBs,cBool,cU8,cInt,cSl,l63]
  simp only [A0]
  rw [chk_of hpre,chk_of hpre,chk_of hpre]
  rfl
 ·cases h
theorem w69:Walked Tryz.prog G 69 3 sp69:=by
 refine ⟨Tryz.f69,Tryz.func69,by decide +kernel,rfl,fun xs bl r h=> ?_⟩
 unfold sp69 at h
 split at h
 ·rename_i a b c
  obtain ⟨hpre,h2⟩:=chk_inv h;cases h2
  refine Eq.trans (b:=(Zj (chk (decide (Zy a≤9223372036854775807)) (some (Zq (Kerb.validName a),[]))) fun (r:AV×Blocks)=>onNilB (Zd r) (Vq (Zf r) fun b_1=>sel b_1 (Zj (chk (decide (Zy b≤9223372036854775807)) (some (Zq (Kerb.validInst b),[]))) fun (r:AV×Blocks)=>onNilB (Zd r) (Vq (Zf r) fun b=>sel b (Zj (chk (decide (Zy c≤9223372036854775807)) (some (Zq (Kerb.validRealm c),[]))) fun (r:AV×Blocks)=>onNilB (Zd r) (Vq (Zf r) fun b=>some (Zq b,[]))) (some (Zq false,[])))) (some (Zq false,[]))):Option (AV×Blocks))) (by kernel_rfl) ?_
  simp only [Zg,decide_eq_true_eq] at hpre
  simp only [A0]
  rw [chk_of (by simp;omega),chk_of (by simp;omega),chk_of (by simp;omega)]
  simp only [Xd]
  cases Kerb.validName a<;>cases Kerb.validInst b<;>rfl
 ·cases h
theorem w72:Walked Tryz.prog G 72 3 sp72:=by
 refine ⟨Tryz.f72,Tryz.func72,by decide +kernel,rfl,fun xs bl r h=> ?_⟩
 unfold sp72 at h
 split at h
 ·rename_i k
  obtain ⟨hpre,h2⟩:=chk_inv h;cases h2
  refine Eq.trans (b:=(Zj (chk (decide (0≤k)&&decide (k<18446744073709551616)) (some (Zb [Zz .i64 (bif Wz k then Kerb.keyClass k else 0),Zz .i64 (bif Wz k then Kerb.keySerial k else 0),Zq (Wz k)],[]))) fun (r:AV×Blocks)=>onNilB (Zd r) (AV.onTup (Zf r) fun vs=>onCons vs fun x r=>Yb .i64 x fun n=>onCons r fun x r=>Yb .i64 x fun n=>onCons r fun x r=>Vq x fun b=>onNil r (some (Zq b,[]))):Option (AV×Blocks))) (by kernel_rfl) ?_
  simp only [A0]
  rw [chk_of hpre]
 ·cases h
theorem w81:Walked Tryz.prog G 81 3 sp81:=by
 refine ⟨Tryz.f81,Tryz.func81,by decide +kernel,rfl,fun xs bl r h=> ?_⟩
 unfold sp81 at h
 split at h
 ·rename_i b n k little
  obtain ⟨hpre,h2⟩:=chk_inv h;cases h2
  refine Eq.trans (b:=(Zj (loopM (fun (st:List AV)=>cBs st fun b r=>cInt .i64 r fun n r=>cInt .i64 r fun n_1 r=>cBool r fun b_1 r=>cBs r fun c r=>cInt .i64 r fun n_2 r=>cInt .i64 r fun n_3 r=>let t0:Int:=Zx .i64 (Zx .i64 (n_1-1)-n_3);let t1:UInt8:=Yp (Zu (Zx .u8 (Vf n (2 ^ min (Zu (Zx .i64 (8*n_3))) (Zp .i64)))));onNil r (sel (decide (n_3<n_2)) (sel (!b_1) (chk (decide (0≤Zx .i64 (8*n_3))) (chk (decide (0≤t0)&&decide (t0<(↑(Zy c):Int))&&Wx (Zy c) 4&&true) (chk (Nat.blt (Zu t0) (Zy c)&&true&&true&&true&&true) (some (Wy [Zk b,Zz .i64 n,Zz .i64 n_1,Zq b_1,Zk (List.set c (Zu t0) t1),Zz .i64 n_2,Zz .i64 (Zx .i64 (n_3+1))]))))) (chk (decide (0≤Zx .i64 (8*n_3))) (chk (decide (0≤n_3)&&decide (n_3<(↑(Zy c):Int))&&Wx (Zy c) 4&&true) (chk (Nat.blt (Zu n_3) (Zy c)&&true&&true&&true&&true) (some (Wy [Zk b,Zz .i64 n,Zz .i64 n_1,Zq b_1,Zk (List.set c (Zu n_3) t1),Zz .i64 n_2,Zz .i64 (Zx .i64 (n_3+1))])))))) (some (Xp (Xz 0,[Zk b,Zz .i64 n,Zz .i64 n_1,Zq b_1,Zk c,Zz .i64 n_2,Zz .i64 n_3]))))) [Zk b,Zz .i64 n,Zz .i64 k,Zq little,Zk [(0:UInt8),(0:UInt8),(0:UInt8),(0:UInt8)],Zz .i64 k,Zz .i64 0]) fun (r:Ex×List AV)=>cBs (Zd r) fun b r_1=>cInt .i64 r_1 fun n r_2=>cInt .i64 r_2 fun n r_3=>cBool r_3 fun b_1 r_4=>cBs r_4 fun c r_5=>let t2:Nat:=Zy [Zk b,Zk (Wk (Zu (↑(0:Nat):Int)) (Wj (Zu n) c))];let t3:Nat:=Zy (Xq b (Xq (Wk (Zu (↑(0:Nat):Int)) (Wj (Zu n) c)) []));cInt .i64 r_5 fun n_1 r_6=>cInt .i64 r_6 fun n_2 r_7=>onNil r_7 (exK r.1 none fun (j:Nat)=>sel (Wx j 0) (chk (decide ((↑(0:Nat):Int)≤n)&&decide (n≤(↑(Zy c):Int))&&Wx (Zy c) 4) (Zj (chk (decide (t3≤140737488355328)&&decide (t2≤1000)) (some (Zn (Xq b (Xq (Wk (Zu (↑(0:Nat):Int)) (Wj (Zu n) c)) [])),[]))) (kO fun l=>some (Zn l,[])))) none):Option (AV×Blocks))) (by kernel_rfl) ?_
  delta kO
  try dsimp only [cStr,cBs,cBool,cU8,cInt,cSl,l63]
  simp only [Zg,decide_eq_true_eq] at hpre
  obtain ⟨hk,hb⟩:=hpre
  rcases hk with rfl | rfl | rfl<;>cases little
  ·refine loop_unroll 2 (Xz 0,[Zk b,Zz Zv n,Zz Zv 1,Zq false,Zk [Xw n 0,(0:UInt8),(0:UInt8),(0:UInt8)],Zz Zv 1,Zz Zv 1]) (by kernel_rfl) ?_
   simp only [A0]
   rw [sel_pos (Yx _),chk_of (by simp),chk_of (by simp;omega)]
   simp [Vu,Yn,Vv,Wq]
  ·refine loop_unroll 2 (Xz 0,[Zk b,Zz Zv n,Zz Zv 1,Zq true,Zk [Xw n 0,(0:UInt8),(0:UInt8),(0:UInt8)],Zz Zv 1,Zz Zv 1]) (by kernel_rfl) ?_
   simp only [A0]
   rw [sel_pos (Yx _),chk_of (by simp),chk_of (by simp;omega)]
   simp [Vu,Yn,Vv,Wq]
  ·refine loop_unroll 3 (Xz 0,[Zk b,Zz Zv n,Zz Zv 2,Zq false,Zk [Xw n 8,Xw n 0,(0:UInt8),(0:UInt8)],Zz Zv 2,Zz Zv 2]) (by kernel_rfl) ?_
   simp only [A0]
   rw [sel_pos (Yx _),chk_of (by simp),chk_of (by simp;omega)]
   simp [Vu,Yn,Vv,Wq]
  ·refine loop_unroll 3 (Xz 0,[Zk b,Zz Zv n,Zz Zv 2,Zq true,Zk [Xw n 0,Xw n 8,(0:UInt8),(0:UInt8)],Zz Zv 2,Zz Zv 2]) (by kernel_rfl) ?_
   simp only [A0]
   rw [sel_pos (Yx _),chk_of (by simp),chk_of (by simp;omega)]
   simp [Vu,Yn,Vv,Wq]
  ·refine loop_unroll 5 (Xz 0,[Zk b,Zz Zv n,Zz Zv 4,Zq false,Zk [Xw n 24,Xw n 16,Xw n 8,Xw n 0],Zz Zv 4,Zz Zv 4]) (by kernel_rfl) ?_
   simp only [A0]
   rw [sel_pos (Yx _),chk_of (by simp),chk_of (by simp;omega)]
   simp [Vu,Yn,Vv,Wq]
  ·refine loop_unroll 5 (Xz 0,[Zk b,Zz Zv n,Zz Zv 4,Zq true,Zk [Xw n 0,Xw n 8,Xw n 16,Xw n 24],Zz Zv 4,Zz Zv 4]) (by kernel_rfl) ?_
   simp only [A0]
   rw [sel_pos (Yx _),chk_of (by simp),chk_of (by simp;omega)]
   simp [Vu,Yn,Vv,Wq]
 ·cases h
theorem w83:Walked Tryz.prog G 83 3 sp83:=by
 refine ⟨Tryz.f83,Tryz.func83,by decide +kernel,rfl,fun xs bl r h=> ?_⟩
 unfold sp83 at h
 split at h
 ·rename_i b pos
  obtain ⟨hpre,h2⟩:=chk_inv h;cases h2
  refine Eq.trans (b:=(Zj (chk (decide (Zy b≤140737488355328)&&true&&true) (some (Zb [Zz .i64 (Kerb.Got.val (Wd b pos 1 false)),Zz .i64 (Kerb.Got.next (Wd b pos 1 false)),Zz .i64 (Kerb.Got.err (Wd b pos 1 false))],[]))) fun (r:AV×Blocks)=>onNilB (Zd r) (AV.onTup (Zf r) fun vs=>onCons vs fun x r=>Yb .i64 x fun n=>onCons r fun x r=>Yb .i64 x fun n_1=>onCons r fun x r=>Yb .i64 x fun n_2=>onNil r (some (Zb [Zz .i64 n,Zz .i64 n_1,Zz .i64 n_2],[]))):Option (AV×Blocks))) (by kernel_rfl) ?_
  simp only [A0]
  rw [chk_of (by rw [hpre];rfl)]
 ·cases h
theorem w89:Walked Tryz.prog G 89 3 sp89:=by
 refine ⟨Tryz.f89,Tryz.func89,by decide +kernel,rfl,fun xs bl r h=> ?_⟩
 unfold sp89 at h
 split at h
 ·rename_i b
  obtain ⟨hpre,h2⟩:=chk_inv h;cases h2
  refine Eq.trans (b:=(sel (!(↑(Zy b):Int)==8) (some (Zb [Zz .u64 0,Zq false],[])) (Zj (loopM (fun (st:List AV)=>cBs st fun b r=>cInt .u64 r fun n r=>cInt .i64 r fun n_1 r=>onNil r (sel (decide (n_1<8)) (chk (decide (0≤n_1)&&decide (n_1<(↑(Zy b):Int))) (some (Wy [Zk b,Zz .u64 (Zx .u64 (↑(BitVec.toNat (BitVec.ofInt (Zp .u64) (Zx .u64 (n*2 ^ min (Zu 8) (Zp .u64))) ||| BitVec.ofInt (Zp .u64) (Zx .u64 (↑(Yf (Yq b (Zu n_1) (0:UInt8))):Int)))):Int)),Zz .i64 (Zx .i64 (n_1+1))]))) (some (Xp (Xz 0,[Zk b,Zz .u64 n,Zz .i64 n_1]))))) [Zk b,Zz .u64 0,Zz .i64 0]) fun (r:Ex×List AV)=>cBs (Zd r) fun b r_1=>cInt .u64 r_1 fun n r_2=>cInt .i64 r_2 fun n_1 r_3=>onNil r_3 (exK r.1 none fun (j:Nat)=>sel (Wx j 0) (Zj (chk (decide (0≤n)&&decide (n<18446744073709551616)) (some (Zq (Wz n),[]))) (kL fun b=>sel (!b) (some (Zb [Zz .u64 0,Zq false],[])) (some (Zb [Zz .u64 n,Zq true],[])))) none)):Option (AV×Blocks))) (by kernel_rfl) ?_
  delta kL
  try dsimp only [cStr,cBs,cBool,cU8,cInt,cSl,l63]
  have hb:=of_decide_eq_true hpre
  unfold Kerb.keyRead
  by_cases h8:b.length=8
  case neg =>
   rw [sel_pos (by simp;omega),if_neg (by omega)]
  rw [sel_neg (by simp [h8])]
  refine loop_rounds (fun i:Nat=>[Zk b,Zz Yd (Kerb.valB (b.take i)),Zz Zv (i:Int)]) (fun i=>i≤8) (fun i=>8-i)
   (fun r=>r=(Xz 0,[Zk b,Zz Yd (Kerb.valB b),Zz Zv 8])) 0 (by omega) rfl ?_ ?_
  ·intro i hi
   simp only [A0]
   by_cases hlt:i<8
   ·have hv:=Kerb.valB_take (l:=b) (i:=i) (by omega)
    have hbd:=Kerb.valB_bd7 (l:=b.take i) (by simp;omega)
    rw [sel_pos (by simp;omega),chk_of (by simp;omega),Yk,Kerb.shl8_oru _ hbd.1 hbd.2,wrap_i64 (by omega) (by omega),← hv]
    exact ⟨_,rfl,i+1,rfl,by omega,by dsimp only;omega⟩
   ·rw [sel_neg (by simp;omega)]
    refine ⟨_,rfl,?_⟩
    show _=_
    rw [Ym (by omega),show i=8 from by omega]
    rfl
  rintro r rfl
  have hbd:=Kerb.valB_bd8 (l:=b) (by omega)
  simp only [A0]
  rw [sel_pos (Yx _),chk_of (by simp;omega)]
  cases hv:Wz (Kerb.valB b)
  ·rw [if_neg (by simp)]
   rfl
  ·rw [if_pos ⟨h8,rfl⟩]
   rfl
 ·cases h
theorem w90:Walked Tryz.prog G 90 3 sp90:=by
 refine ⟨Tryz.f90,Tryz.func90,by decide +kernel,rfl,fun xs bl r h=> ?_⟩
 unfold sp90 at h
 split at h
 ·rename_i b pos little
  obtain ⟨hpre,h2⟩:=chk_inv h;cases h2
  refine Eq.trans (b:=(Zj (chk (decide (Zy b≤140737488355328)&&true&&true) (some (Zb [Zz .i64 (Kerb.Got.val (Wd b pos 4 little)),Zz .i64 (Kerb.Got.next (Wd b pos 4 little)),Zz .i64 (Kerb.Got.err (Wd b pos 4 little))],[]))) fun (r:AV×Blocks)=>onNilB (Zd r) (AV.onTup (Zf r) fun vs=>onCons vs fun x r=>Yb .i64 x fun n=>onCons r fun x r=>Yb .i64 x fun n_1=>onCons r fun x r=>Yb .i64 x fun n_2=>onNil r (some (Zb [Zz .i64 n,Zz .i64 n_1,Zz .i64 n_2],[]))):Option (AV×Blocks))) (by kernel_rfl) ?_
  simp only [A0]
  rw [chk_of (by rw [hpre];rfl)]
 ·cases h
theorem w93:Walked Tryz.prog G 93 3 sp93:=by
 refine ⟨Tryz.f93,Tryz.func93,by decide +kernel,rfl,fun xs bl r h=> ?_⟩
 unfold sp93 at h
 split at h
 ·rename_i b little
  obtain ⟨hpre,h2⟩:=chk_inv h;cases h2
  refine Eq.trans (b:=(sel little (Zj (chk (decide (Zy b≤70368744177664)) (some (Zn (b++Yn 1 1 false),[]))) fun (r:AV×Blocks)=>onNilB (Zd r) (Xk (Zf r) fun l=>some (Zn l,[]))) (Zj (chk (decide (Zy b≤70368744177664)) (some (Zn (b++Yn 0 1 false),[]))) fun (r:AV×Blocks)=>onNilB (Zd r) (Xk (Zf r) fun l=>some (Zn l,[]))):Option (AV×Blocks))) (by kernel_rfl) ?_
  simp only [A0]
  rw [chk_of hpre,chk_of hpre]
  cases little<;>rfl
 ·cases h
theorem w99:Walked Tryz.prog G 99 3 sp99:=by
 refine ⟨Tryz.f99,Tryz.func99,by decide +kernel,rfl,fun xs bl r h=> ?_⟩
 unfold sp99 at h
 split at h
 ·rename_i s c
  cases h
  refine Eq.trans (b:=(some (Zz .i64 (Wh c s),[]):Option (AV×Blocks))) (by kernel_rfl) ?_
  rfl
 ·cases h
theorem w104:Walked Tryz.prog G 104 3 sp104:=by
 refine ⟨Tryz.f104,Tryz.func104,by decide +kernel,rfl,fun xs bl r h=> ?_⟩
 unfold sp104 at h
 split at h
 ·rename_i b
  obtain ⟨hpre,h2⟩:=chk_inv h;cases h2
  refine Eq.trans (b:=(chk (decide (0≤Yw (Zx .i64 (8-Yw (↑(Zy b):Int) 8)) 8)&&decide (Yw (Zx .i64 (8-Yw (↑(Zy b):Int) 8)) 8≤Yw (Zx .i64 (8-Yw (↑(Zy b):Int) 8)) 8)&&decide (Yw (Zx .i64 (8-Yw (↑(Zy b):Int) 8)) 8≤140737488355328)) (Zj (chk (decide (Zy (Xq b (Xq (Xn (Zu (Yw (Zx .i64 (8-Yw (↑(Zy b):Int) 8)) 8)) (0:UInt8)) []))≤140737488355328)&&decide (Zy [Zk b,Zk (Xn (Zu (Yw (Zx .i64 (8-Yw (↑(Zy b):Int) 8)) 8)) (0:UInt8))]≤1000)) (some (Zn (Xq b (Xq (Xn (Zu (Yw (Zx .i64 (8-Yw (↑(Zy b):Int) 8)) 8)) (0:UInt8)) [])),[]))) fun (r:AV×Blocks)=>onNilB (Zd r) (Xk (Zf r) fun l=>some (Zk l,[]))):Option (AV×Blocks))) (by kernel_rfl) ?_
  have hb:=of_decide_eq_true hpre
  rw [Kerb.pad_eq hb]
  simp only [A0]
  rw [chk_of (by simp;omega),chk_of (by simp;omega)]
  simp [Kerb.pad]
  omega
 ·cases h
theorem w21:Walked Tryz.prog G 21 4 sp21:=by
 refine ⟨Tryz.f21,Tryz.func21,by decide +kernel,rfl,fun xs bl r h=> ?_⟩
 unfold sp21 at h
 split at h
 ·rename_i o1 o2 o3 els x y z now
  obtain ⟨hpre,h2⟩:=chk_inv h;cases h2
  refine Eq.trans (b:=(let t0:Kerb.Cred:=Zf (Vk (List.map Vg els) (Xg x y z));let t1:AV:=Yh [Zw [],Zw [],Zw [],Zz .u64 0,Zz .i64 0,Zz .i64 0,Zz .i64 0,Zk []];Zj (chk (List.all els Kerb.isCred&&decide (Zy els≤1000000)&&List.all els Kerb.fitCred) (some (Zb [Yh [Zw (Kerb.Prin.name (Kerb.Cred.service t0)),Zw (Kerb.Prin.inst (Kerb.Cred.service t0)),Zw (Kerb.Prin.realm (Kerb.Cred.service t0)),Zz .u64 (Kerb.Cred.session t0),Zz .i64 (Kerb.Cred.life t0),Zz .i64 (Kerb.Cred.kvno t0),Zz .i64 (Kerb.Cred.issued t0),Zk (Kerb.Cred.ticket t0)],Zq (Zd (Vk (List.map Vg els) (Xg x y z)))],[]))) (kT fun vs=>onCons vs fun x r=>AV.onAgg x fun cs=>cStr cs fun b r_1=>cStr r_1 fun b_1 r_2=>cStr r_2 fun b_2 r_3=>cInt .u64 r_3 fun n r_4=>cInt .i64 r_4 fun n_1 r_5=>cInt .i64 r_5 fun n_2 r_6=>cInt .i64 r_6 fun n_3 r_7=>cBs r_7 fun b_3 r_8=>onNil r_8 (cBool r fun b_4 r=>onNil r (sel (!b_4) (some (Zb [t1,Zz .i64 76],[])) (sel (Kerb.Cred.expired (Kerb.Cred.mk (Xg b b_1 b_2) n n_1 n_2 n_3 b_3) now) (some (Zb [t1,Zz .i64 26],[])) (some (Zb [Yh [Zw b,Zw b_1,Zw b_2,Zz .u64 n,Zz .i64 n_1,Zz .i64 n_2,Zz .i64 n_3,Zk b_3],Zz .i64 0],[])))))):Option (AV×Blocks))) (by kernel_rfl) ?_
  delta kT
  try dsimp only [cStr,cBs,cBool,cU8,cInt,cSl,l63]
  simp only [A0,Yy,Yv,Zh,hpre]
  unfold Kerb.liveCred
  cases h:(Vk (els.map Vg) ⟨x,y,z⟩).2
  ·rfl
  rw [Wg,sel_false,if_neg (by simp)]
  show sel ((Vk (els.map Vg) ⟨x,y,z⟩).1.expired now) _ _=_
  cases (Vk (els.map Vg) ⟨x,y,z⟩).1.expired now<;>rfl
 ·cases h
theorem w37:Walked Tryz.prog G 37 4 sp37:=by
 refine ⟨Tryz.f37,Tryz.func37,by decide +kernel,rfl,fun xs bl r h=> ?_⟩
 unfold sp37 at h
 split at h
 ·rename_i x y z
  obtain ⟨hpre,h2⟩:=chk_inv h;cases h2
  refine Eq.trans (b:=(Zj (chk (decide (Zy x≤9223372036854775807)&&decide (Zy y≤9223372036854775807)&&decide (Zy z≤9223372036854775807)) (some (Zq (Xd (Xg x y z)),[]))) fun (r:AV×Blocks)=>onNilB (Zd r) (Vq (Zf r) fun b=>sel (!b) (some (Zb [Yh [Zw [],Zw [],Zw [],Xv 8 []],Zz .i64 103],[])) (some (Zb [Yh [Zw x,Zw y,Zw z,Xv 8 []],Zz .i64 0],[]))):Option (AV×Blocks))) (by kernel_rfl) ?_
  simp only [A0,Yy,Yv,Zh,hpre]
  cases Xd ⟨x,y,z⟩<;>rfl
 ·cases h
theorem w40:Walked Tryz.prog G 40 4 sp40:=by
 refine ⟨Tryz.f40,Tryz.func40,by decide +kernel,rfl,fun xs bl r h=> ?_⟩
 unfold sp40 at h
 split at h
 ·rename_i l pos
  obtain ⟨hpre,h2⟩:=chk_inv h;cases h2
  show runFnH (G.env 40 4) G.rts (G.own 40) Tryz.f40 _ _ [0]=_
  refine Eq.trans (b:=(Zj (chk (decide (Zy l≤4611686018427387904)&&decide (0≤pos)) (some (Zz .i64 (Ww l pos 9),[[Zk l,Zz .i64 (Yu l pos 9)]]))) fun (r:AV×Blocks)=>onConsB (Zd r) fun (x:List AV) (r_1:List (List AV))=>cBs x fun b r_2=>cInt .i64 r_2 fun n r_3=>onNil r_3 (onNilB r_1 (Yb .i64 (Zf r) fun n_1=>Zj (chk (decide (0≤n_1)&&decide (n_1≤4611686018427387904)) (some (Yh [Zw (Kerb.Prin.name (Kerb.service n_1)),Zw (Kerb.Prin.inst (Kerb.service n_1)),Zw (Kerb.Prin.realm (Kerb.service n_1))],[]))) (kA fun cs=>cStr cs fun b_1 r=>cStr r fun b_2 r=>cStr r fun b_3 r=>onNil r (Zj (chk (decide (Zy b≤4611686018427387904)&&decide (0≤n)) (some (Zz .i64 (Ww b n 9),[[Zk b,Zz .i64 (Yu b n 9)]]))) fun (r:AV×Blocks)=>onConsB (Zd r) fun (x:List AV) (r_4:List (List AV))=>cBs x fun b r_5=>cInt .i64 r_5 fun n r_6=>onNil r_6 (onNilB r_4 (Yb .i64 (Zf r) fun n_2=>Zj (chk (decide (0≤n_2)&&decide (n_2≤1000)) (some (Zz .u64 (Kerb.session n_2),[]))) (kI .u64 fun n_3=>Zj (chk (decide (Zy b≤4611686018427387904)&&decide (0≤n)) (some (Zz .i64 (Ww b n 256),[[Zk b,Zz .i64 (Yu b n 256)]]))) fun (r:AV×Blocks)=>onConsB (Zd r) fun (x:List AV) (r_7:List (List AV))=>cBs x fun b r_8=>cInt .i64 r_8 fun n r_9=>onNil r_9 (onNilB r_7 (Yb .i64 (Zf r) fun n_4=>Zj (chk (decide (Zy b≤4611686018427387904)&&decide (0≤n)) (some (Zz .i64 (Ww b n 256),[[Zk b,Zz .i64 (Yu b n 256)]]))) fun (r:AV×Blocks)=>onConsB (Zd r) fun (x:List AV) (r_10:List (List AV))=>cBs x fun b r_11=>cInt .i64 r_11 fun n r_12=>onNil r_12 (onNilB r_10 (Yb .i64 (Zf r) fun n_5=>Zj (chk (decide (Zy b≤4611686018427387904)&&decide (0≤n)) (some (Zz .i64 (Ww b n 256),[[Zk b,Zz .i64 (Yu b n 256)]]))) fun (r:AV×Blocks)=>onConsB (Zd r) fun (x:List AV) (r_13:List (List AV))=>cBs x fun b r_14=>cInt .i64 r_14 fun n r_15=>onNil r_15 (onNilB r_13 (Yb .i64 (Zf r) fun n_6=>Zj (loopM (fun (st:List AV)=>cBs st fun b r=>cInt .i64 r fun n r=>cStr r fun b_4 r=>cStr r fun b_5 r=>cStr r fun b_6 r=>cInt .u64 r fun n_7 r=>cInt .i64 r fun n_8 r=>cInt .i64 r fun n_9 r=>cInt .i64 r fun n_10 r=>cBs r fun b_7 r=>cStr r fun b_8 r=>cStr r fun b_9 r=>cStr r fun b_10 r=>cInt .u64 r fun n_11 r=>cInt .i64 r fun n_12 r=>cInt .i64 r fun n_13 r=>cInt .i64 r fun n_14 r=>onCons r fun x r=>Xk x fun y=>cInt .i64 r fun n_15 r=>onNil r (Zj (chk (decide (Zy b≤4611686018427387904)&&decide (0≤n)) (some (Zz .i64 (Ww b n 30),[[Zk b,Zz .i64 (Yu b n 30)]]))) fun (r:AV×Blocks)=>onConsB (Zd r) fun (x:List AV) (r_16:List (List AV))=>cBs x fun b r_17=>cInt .i64 r_17 fun n r_18=>onNil r_18 (onNilB r_16 (Yb .i64 (Zf r) fun n_16=>sel (decide (n_15<n_16)) (Zj (chk (decide (Zy b≤4611686018427387904)&&decide (0≤n)) (some (Zz .i64 (Ww b n 256),[[Zk b,Zz .i64 (Yu b n 256)]]))) fun (r:AV×Blocks)=>onConsB (Zd r) fun (x:List AV) (r_19:List (List AV))=>cBs x fun b r_20=>cInt .i64 r_20 fun n r_21=>onNil r_21 (onNilB r_19 (Yb .i64 (Zf r) fun n_17=>chk (room (Zy y+Zy [Yp (Zu (Zx .u8 n_17))]) 1) (some (Wy [Zk b,Zz .i64 n,Zw b_4,Zw b_5,Zw b_6,Zz .u64 n_7,Zz .i64 n_8,Zz .i64 n_9,Zz .i64 n_10,Zk b_7,Zw b_8,Zw b_9,Zw b_10,Zz .u64 n_11,Zz .i64 n_12,Zz .i64 n_13,Zz .i64 n_14,Zn (y++[Yp (Zu (Zx .u8 n_17))]),Zz .i64 (Zx .i64 (n_15+1))]))))) (some (Xp (Xz 0,[Zk b,Zz .i64 n,Zw b_4,Zw b_5,Zw b_6,Zz .u64 n_7,Zz .i64 n_8,Zz .i64 n_9,Zz .i64 n_10,Zk b_7,Zw b_8,Zw b_9,Zw b_10,Zz .u64 n_11,Zz .i64 n_12,Zz .i64 n_13,Zz .i64 n_14,Zn y,Zz .i64 n_15]))))))) [Zk b,Zz .i64 n,Zw [],Zw [],Zw [],Zz .u64 0,Zz .i64 0,Zz .i64 0,Zz .i64 0,Zk [],Zw b_1,Zw b_2,Zw b_3,Zz .u64 n_3,Zz .i64 n_4,Zz .i64 n_5,Zz .i64 (Zx .i64 (n_6*100)),Zn [],Zz .i64 0]) fun (r:Ex×List AV)=>cBs (Zd r) fun b r_16=>cInt .i64 r_16 fun n r_17=>cStr r_17 fun b_4 r_18=>cStr r_18 fun b_5 r_19=>cStr r_19 fun b_6 r_20=>cInt .u64 r_20 fun n_7 r_21=>cInt .i64 r_21 fun n_8 r_22=>cInt .i64 r_22 fun n_9 r_23=>cInt .i64 r_23 fun n_10 r_24=>cBs r_24 fun b_7 r_25=>cStr r_25 fun b_8 r_26=>cStr r_26 fun b_9 r_27=>cStr r_27 fun b_10 r_28=>cInt .u64 r_28 fun n_11 r_29=>cInt .i64 r_29 fun n_12 r_30=>cInt .i64 r_30 fun n_13 r_31=>cInt .i64 r_31 fun n_14 r_32=>onCons r_32 fun x r_33=>Xk x fun y=>cInt .i64 r_33 fun n_15 r_34=>onNil r_34 (exK r.1 (some (Yh [Zw b_4,Zw b_5,Zw b_6,Zz .u64 n_7,Zz .i64 n_8,Zz .i64 n_9,Zz .i64 n_10,Zk b_7],[[Zk b,Zz .i64 n]])) fun (j:Nat)=>sel (Wx j 0) (some (Yh [Zw b_8,Zw b_9,Zw b_10,Zz .u64 n_11,Zz .i64 n_12,Zz .i64 n_13,Zz .i64 n_14,Zk y],[[Zk b,Zz .i64 n]])) none)))))))))))))):Option (AV×Blocks))) (by kernel_rfl) ?_
  delta kA kI
  try dsimp only [cStr,cBs,cBool,cU8,cInt,cSl,l63]
  simp only [Zg,decide_eq_true_eq] at hpre
  obtain ⟨hl,hp0⟩:=hpre
  have c:decide (l.length≤4611686018427387904)=true:=by simp;omega
  have c0:decide (0≤pos)=true:=by simpa using hp0
  simp only [A0,Yy,Yv,Zh,c,c0,Kerb.nextPos_dec,Kerb.next_dec,Kerb.next_dec62,Kerb.next_dec1000,Bool.and_self]
  have hn:=Kerb.next_bd l (Kerb.cp4 l pos) 256
  have hw:Zx .i64 (Ww l (Kerb.cp4 l pos) 256*100)=Ww l (Kerb.cp4 l pos) 256*100:=wrap_i64 (by omega) (by omega)
  refine loop_rounds (fun s:Nat×Int×Int×List UInt8=>[Zk l,Zz Zv s.2.2.1,Zw [],Zw [],Zw [],Zz Yd 0,Zz Zv 0,Zz Zv 0,Zz Zv 0,Zk [],Zw (Yg l pos).service.name,Zw (Yg l pos).service.inst,Zw (Yg l pos).service.realm,Zz Yd (Yg l pos).session,Zz Zv (Yg l pos).life,Zz Zv (Yg l pos).kvno,Zz Zv (Yg l pos).issued,Zn s.2.2.2,Zz Zv s.2.1])
   (fun s=>0≤s.2.1∧s.2.1≤255∧0≤s.2.2.1∧(l.length:Int)-s.2.2.1<s.1∧(s.2.2.2.length:Int)=s.2.1∧Kerb.tickLoop l s.1 s.2.1 s.2.2.1 s.2.2.2=Kerb.dataTick l pos) (fun s=>s.1)
   (fun r=>∃ i:Int,r=(.exit 0,[Zk l,Zz Zv (Kerb.dataPos l pos),Zw [],Zw [],Zw [],Zz Yd 0,Zz Zv 0,Zz Zv 0,Zz Zv 0,Zk [],Zw (Yg l pos).service.name,Zw (Yg l pos).service.inst,Zw (Yg l pos).service.realm,Zz Yd (Yg l pos).session,Zz Zv (Yg l pos).life,Zz Zv (Yg l pos).kvno,Zz Zv (Yg l pos).issued,Zn (Kerb.dataTick l pos).1,Zz Zv i])) (l.length+1,0,Kerb.cp5 l pos,[]) ⟨by simp,by simp,Int.natCast_nonneg _,by have:(0:Int)≤Kerb.cp5 l pos:=Int.natCast_nonneg _;simp only;omega,rfl,rfl⟩ ?_ ?_ ?_
  ·have hw':Zx .i64 (Ww l (Yu l (Yu l (Yu l (Yu l pos 9) 9) 256) 256) 256*100)=(Yg l pos).issued:=hw
   rw [hw'];rfl
  ·rintro ⟨f,i,q,t⟩ ⟨hi0,hi,hq,hf,ht,he⟩
   simp only at hi0 hi hq hf ht he
   have cq:decide (0≤q)=true:=by simpa using hq
   simp only [A0,Yy,Yv,Zh,c,cq,Kerb.nextPos_dec,Bool.and_self]
   have b:=Kerb.next_bd l q 30
   by_cases hlt:i<Ww l q 30
   ·have hql:q<l.length:=Kerb.next_in (n:=30) (by omega)
    cases f with
    | zero=>simp at hf;omega
    | succ f =>
     rw [Kerb.tickLoop,if_pos hlt] at he
     have b2:=Kerb.next_bd l (Yu l q 30) 256
     rw [sel_pos (by simpa using hlt),chk_of (Yz (by simp;omega)),wrap_i64 (by omega) (by omega),Kerb.wrap_u8,Int.emod_eq_of_lt (by omega) (by omega)]
     have hs:=Kerb.nextPos_step (l:=l) (p:=q) (n:=30) hq hql (by decide)
     have hs2:=Kerb.nextPos_ge l (Yu l q 30) 256
     exact ⟨_,rfl,(f,i+1,Yu l (Yu l q 30) 256,t++[Yp (Ww l (Yu l q 30) 256).toNat]),rfl,⟨by simp only;omega,by simp only;omega,by simp only;omega,by simp only;omega,by simp;omega,he⟩,by simp⟩
   ·rw [sel_neg (by simpa using hlt)]
    have ht2:Kerb.dataTick l pos=(t,Yu l q 30):=by
     rw [← he]
     cases f with
     | zero=>rfl
     | succ f=>rw [Kerb.tickLoop,if_neg hlt]
    refine ⟨_,rfl,i,?_⟩
    unfold Kerb.dataPos
    rw [ht2]
  ·rintro _ ⟨i,rfl⟩
   simp only [A0,Yy,Yv,Zh]
   rw [sel_pos (Yx _)]
   rfl
 ·cases h
theorem w51:Walked Tryz.prog G 51 4 sp51:=by
 refine ⟨Tryz.f51,Tryz.func51,by decide +kernel,rfl,fun xs bl r h=> ?_⟩
 unfold sp51 at h
 split at h
 ·rename_i b n
  obtain ⟨hpre,h2⟩:=chk_inv h;cases h2
  refine Eq.trans (b:=(Zj (chk (decide (Zy b≤70368744177664)) (some (Zn (b++Yn n (Zu 1) false),[]))) fun (r:AV×Blocks)=>onNilB (Zd r) (Xk (Zf r) fun l=>some (Zn l,[])):Option (AV×Blocks))) (by kernel_rfl) ?_
  simp only [decide_eq_true_eq] at hpre
  simp only [A0]
  rw [chk_of (by simp;omega)]
  rfl
 ·cases h
theorem w54:Walked Tryz.prog G 54 4 sp54:=by
 refine ⟨Tryz.f54,Tryz.func54,by decide +kernel,rfl,fun xs bl r h=> ?_⟩
 unfold sp54 at h
 split at h
 ·rename_i B at_ li bad
  obtain ⟨hpre,h2⟩:=chk_inv h;cases h2
  show runFnH (G.env 54 4) G.rts (G.own 54) Tryz.f54 _ _ [0]=_
  refine Eq.trans (b:=(Zj (chk (decide (Zy B≤140737488355328)) (some (Zb [Zz .i64 (Kerb.Got.val (Wd B at_ 1 false)),Zz .i64 (Kerb.Got.next (Wd B at_ 1 false)),Zz .i64 (Kerb.Got.err (Wd B at_ 1 false))],[]))) fun (r:AV×Blocks)=>onNilB (Zd r) (AV.onTup (Zf r) fun vs=>onCons vs fun x r=>Yb .i64 x fun n=>onCons r fun x r=>Yb .i64 x fun n_1=>onCons r fun x r=>Yb .i64 x fun n_2=>onNil r (some (Zz .i64 n,[[Zk B,Zz .i64 (bif bad || !n_2==0 then at_ else n_1),Zq li,Zq (bad || !n_2==0)]]))):Option (AV×Blocks))) (by kernel_rfl) ?_
  simp only [A0]
  rw [chk_of hpre]
 ·cases h
theorem w62:Walked Tryz.prog G 62 4 sp62:=by
 refine ⟨Tryz.f62,Tryz.func62,by decide +kernel,rfl,fun xs bl r h=> ?_⟩
 unfold sp62 at h
 split at h
 ·rename_i b
  obtain ⟨hpre,h2⟩:=chk_inv h;cases h2
  refine Eq.trans (b:=(let t1:Option (AV×Blocks):=some (Zb [Yh [Zz .i64 0,Zz .u64 0,Zk []],Zz .i64 0,Zz .i64 100],[]);let t2:Int:=Zx .i64 (↑(BitVec.toNat (BitVec.ofInt (Zp .i64) (Zx .i64 (Zx .i64 (↑(Yf (Yq b (Zu 10) (0:UInt8))):Int)*2 ^ min (Zu 8) (Zp .i64))) ||| BitVec.ofInt (Zp .i64) (Zx .i64 (↑(Yf (Yq b (Zu 11) (0:UInt8))):Int)))):Int);let t3:Int:=Zx .i64 (↑(Yf (Yq b (Zu 1) (0:UInt8))):Int);let t4:Option (AV×Blocks):=some (Zb [Yh [Zz .i64 0,Zz .u64 0,Zk []],Zz .i64 0,Zz .i64 101],[]);let t0:Int:=Zx .i64 (12+t2);sel (decide ((↑(Zy b):Int)<12)) t4 (chk (decide (10≤(↑(Zy b):Int))) (Zj (chk (decide (Zy (Wk (Zu 2) (Wj (Zu 10) b))≤4611686018427387904)) (some (Zb [Zz .u64 (Zf (Kerb.keyRead (Wk (Zu 2) (Wj (Zu 10) b)))),Zq (Zd (Kerb.keyRead (Wk (Zu 2) (Wj (Zu 10) b))))],[]))) (kT fun vs=>cInt .u64 vs fun n r=>cBool r fun b_1 r=>onNil r (chk (decide (10<(↑(Zy b):Int))) (chk (decide (11<(↑(Zy b):Int))) (chk (decide (0<(↑(Zy b):Int))) (sel (!Yq b (Zu 0) (0:UInt8)==(66:UInt8)) t1 (chk (decide (1<(↑(Zy b):Int))) (sel (decide (t3<1)) t1 (chk (decide (1<(↑(Zy b):Int))) (sel (decide (t3>10)) t1 (sel (!b_1) t1 (sel (decide (t2>1000)) t1 (sel (decide ((↑(Zy b):Int)<t0)) t4 (chk (decide (1<(↑(Zy b):Int))) (chk (decide (12≤t0)&&decide (t0≤(↑(Zy b):Int))) (chk (room (Zy (Wk (Zu 12) (Wj (Zu t0) b))) 1) (some (Zb [Yh [Zz .i64 t3,Zz .u64 n,Zk (Wk (Zu 12) (Wj (Zu t0) b))],Zz .i64 t0,Zz .i64 0],[]))))))))))))))))))):Option (AV×Blocks))) (by kernel_rfl) ?_
  delta kT
  try dsimp only [cStr,cBs,cBool,cU8,cInt,cSl,l63]
  simp only [decide_eq_true_eq] at hpre
  unfold Kerb.readBox
  by_cases h0:b.length<12
  ·rw [sel_pos (by simp;omega),if_pos h0];rfl
  rw [sel_neg (by simp;omega),if_neg h0]
  have hc:=Kerb.cut_len b 2 8
  have hs:(b.getD 10 0).toNat*256+(b.getD 11 0).toNat=Kerb.boxSize b:=rfl
  simp only [Kerb.cut_28,Kerb.size_or]
  simp only [show Zu 0=0 from rfl,show Zu 1=1 from rfl,show Zu 10=10 from rfl,show Zu 11=11 from rfl,Kerb.wrap_byte,hs]
  rw [chk_of (by simp;omega),chk_of (by simp;omega)]
  simp only [↓A0]
  rw [chk_of (by simp;omega),chk_of (by simp;omega),chk_of (by simp;omega)]
  by_cases h1:b.getD 0 0=66
  case neg=>rw [sel_pos (by simpa using h1),if_pos (.inl h1)];rfl
  rw [sel_neg (by simpa using h1),chk_of (by simp;omega)]
  cases h2:Xj ((b.getD 1 0).toNat:Int)
  ·rw [if_pos (.inr (.inl rfl))]
   by_cases h2a:((b.getD 1 0).toNat:Int)<1
   ·rw [sel_pos (by simpa using h2a)];rfl
   ·rw [sel_neg (by simpa using h2a),chk_of (by simp;omega),sel_pos (decide_eq_true (by simp only [Xj,Bool.and_eq_false_iff,decide_eq_false_iff_not] at h2;omega))];rfl
  have hk:1≤((b.getD 1 0).toNat:Int)∧((b.getD 1 0).toNat:Int)≤10:=by simp only [Xj,Zg,decide_eq_true_eq] at h2;exact h2
  rw [sel_neg (decide_eq_false (by omega)),chk_of (by simp;omega),sel_neg (decide_eq_false (by omega))]
  cases h3:(Kerb.keyRead (Kerb.cut b 2 8)).2
  ·rw [if_pos (.inr (.inr (.inl rfl)))];rfl
  rw [Wg,sel_false]
  by_cases h4:1000<Kerb.boxSize b
  ·rw [sel_pos (by simp;omega),if_pos (.inr (.inr (.inr h4)))];rfl
  rw [sel_neg (by simp;omega),if_neg (by rintro (h | h | h | h)<;>first | exact h h1 | cases h | omega),wrap_i64 (by omega) (by omega)]
  by_cases h5:b.length<12+Kerb.boxSize b
  ·rw [sel_pos (by simp;omega),if_pos h5];rfl
  have hc2:=Kerb.cut_len b 12 (Kerb.boxSize b)
  rw [sel_neg (by simp;omega),if_neg h5,Kerb.cut_12]
  repeat rw [chk_of (by first | (simp;omega) | exact Yz (by omega))]
  simp
 ·cases h
theorem w64:Walked Tryz.prog G 64 4 sp64:=by
 refine ⟨Tryz.f64,Tryz.func64,by decide +kernel,rfl,fun xs bl r h=> ?_⟩
 unfold sp64 at h
 split at h
 ·rename_i B at_ li bad
  obtain ⟨hpre,h2⟩:=chk_inv h;cases h2
  show runFnH (G.env 64 4) G.rts (G.own 64) Tryz.f64 _ _ [0]=_
  refine Eq.trans (b:=(Zj (chk (decide (Zy B≤140737488355328)) (some (Zb [Zz .i64 (Kerb.Got.val (Wd B at_ 4 li)),Zz .i64 (Kerb.Got.next (Wd B at_ 4 li)),Zz .i64 (Kerb.Got.err (Wd B at_ 4 li))],[]))) fun (r:AV×Blocks)=>onNilB (Zd r) (AV.onTup (Zf r) fun vs=>onCons vs fun x r=>Yb .i64 x fun n=>onCons r fun x r=>Yb .i64 x fun n_1=>onCons r fun x r=>Yb .i64 x fun n_2=>onNil r (some (Zz .i64 n,[[Zk B,Zz .i64 (bif bad || !n_2==0 then at_ else n_1),Zq li,Zq (bad || !n_2==0)]]))):Option (AV×Blocks))) (by kernel_rfl) ?_
  simp only [A0]
  rw [chk_of hpre]
 ·cases h
theorem w67:Walked Tryz.prog G 67 4 sp67:=by
 refine ⟨Tryz.f67,Tryz.func67,by decide +kernel,rfl,fun xs bl r h=> ?_⟩
 unfold sp67 at h
 split at h
 ·rename_i b x y z
  obtain ⟨hpre,h2⟩:=chk_inv h;cases h2
  refine Eq.trans (b:=(Zj (chk (decide (Zy b+Zy x≤70368744177664)) (some (Zk (Xx b x),[]))) fun (r:AV×Blocks)=>onNilB (Zd r) (AV.onBs (Zf r) fun b=>Zj (chk (decide (Zy b+Zy y≤70368744177664)) (some (Zk (Xx b y),[]))) fun (r:AV×Blocks)=>onNilB (Zd r) (AV.onBs (Zf r) fun b=>Zj (chk (decide (Zy b+Zy z≤70368744177664)) (some (Zk (Xx b z),[]))) fun (r:AV×Blocks)=>onNilB (Zd r) (AV.onBs (Zf r) fun b=>some (Zk b,[])))):Option (AV×Blocks))) (by kernel_rfl) ?_
  simp only [decide_eq_true_eq] at hpre
  simp only [A0]
  rw [chk_of (by simp;omega),chk_of (by simp [Xx];omega),chk_of (by simp [Xx];omega)]
  rfl
 ·cases h
theorem w68:Walked Tryz.prog G 68 4 sp68:=by
 refine ⟨Tryz.f68,Tryz.func68,by decide +kernel,rfl,fun xs bl r h=> ?_⟩
 unfold sp68 at h
 split at h
 ·rename_i b n little
  obtain ⟨hpre,h2⟩:=chk_inv h;cases h2
  refine Eq.trans (b:=(Zj (chk (decide (Zy b≤70368744177664)) (some (Zn (b++Yn n (Zu 4) little),[]))) fun (r:AV×Blocks)=>onNilB (Zd r) (Xk (Zf r) fun l=>some (Zn l,[])):Option (AV×Blocks))) (by kernel_rfl) ?_
  simp only [decide_eq_true_eq] at hpre
  simp only [A0]
  rw [chk_of (by simp;omega)]
  rfl
 ·cases h
theorem w75:Walked Tryz.prog G 75 4 sp75:=by
 refine ⟨Tryz.f75,Tryz.func75,by decide +kernel,rfl,fun xs bl r h=> ?_⟩
 unfold sp75 at h
 split at h
 ·rename_i s bad
  obtain ⟨hpre,h2⟩:=chk_inv h;cases h2
  refine Eq.trans (b:=(Zj (loopM (fun (st:List AV)=>cStr st fun b r=>cStr r fun b_1 r=>cBool r fun b_2 r=>cInt .i64 r fun n r=>cInt .i64 r fun n_1 r=>let t0:Option (List AV ⊕ Ex×List AV):=some (Xp (Ex.ret,[Zw b,Zw b_1,Zq false,Zz .i64 n,Zz .i64 n_1]));let t1:Bool:=decide (0≤n_1)&&decide (n_1<(↑(Zy b):Int));let t2:Int:=(↑(Yf (Yq b (Zu n_1) (0:UInt8))):Int);onNil r (sel (decide (n_1<n)) (chk t1 (sel (decide (t2<(↑(Yf (33:UInt8)):Int))) t0 (chk t1 (sel (decide (t2>(↑(Yf (126:UInt8)):Int))) t0 (chk t1 (sel (decide (Wh (Yq b (Zu n_1) (0:UInt8)) b_1≥0)) t0 (some (Wy [Zw b,Zw b_1,Zq b_2,Zz .i64 n,Zz .i64 (Zx .i64 (n_1+1))])))))))) (some (Xp (Xz 0,[Zw b,Zw b_1,Zq b_2,Zz .i64 n,Zz .i64 n_1]))))) [Zw s,Zw bad,Zq false,Zz .i64 (↑(Zy s):Int),Zz .i64 0]) fun (r:Ex×List AV)=>cStr (Zd r) fun b r_1=>cStr r_1 fun b r_2=>cBool r_2 fun b r_3=>cInt .i64 r_3 fun n r_4=>cInt .i64 r_4 fun n r_5=>onNil r_5 (exK r.1 (some (Zq b,[])) fun (j:Nat)=>sel (Wx j 0) (some (Zq true,[])) none):Option (AV×Blocks))) (by kernel_rfl) ?_
  try dsimp only [cStr,cBs,cBool,cU8,cInt,cSl,l63]
  simp only [decide_eq_true_eq] at hpre
  refine loop_rounds (fun i:Nat=>[Zw s,Zw bad,Zq false,Zz Zv (s.length:Int),Zz Zv (i:Int)]) (fun i=>i≤s.length∧Yj s bad=Yj (s.drop i) bad) (fun i=>s.length-i)
   (fun r=>∃ i:Nat,r.2=[Zw s,Zw bad,Zq false,Zz Zv (s.length:Int),Zz Zv (i:Int)]∧((r.1 = .ret∧Yj s bad=false)∨(r.1 = .exit 0∧Yj s bad=true))) 0 ⟨Wf _,rfl⟩ rfl ?_ ?_
  ·rintro i ⟨hi,hp⟩
   simp only [A0]
   by_cases hlt:i<s.length
   ·have hc:(decide ((0:Int)≤(i:Int))&&decide ((i:Int)<(s.length:Int)))=true:=by simp;omega
    have hd:=Vp hlt
    rw [sel_pos (by simp;omega),chk_of hc,Yk]
    have hpr:Yj (s.drop i) bad=(Vw bad (s.getD i 0)&&Yj (s.drop (i+1)) bad):=by rw [hd];rfl
    generalize s.getD i 0=c at *
    by_cases h1:c.toNat<33
    ·rw [sel_pos (by simp;omega)]
     exact ⟨_,rfl,i,rfl,.inl ⟨rfl,by rw [hp,hpr];simp [Vw,h1]⟩⟩
    rw [sel_neg (by simp;omega),chk_of hc]
    by_cases h2:126<c.toNat
    ·rw [sel_pos (by simp;omega)]
     exact ⟨_,rfl,i,rfl,.inl ⟨rfl,by rw [hp,hpr];simp [Vw,h2]⟩⟩
    rw [sel_neg (by simp;omega),chk_of hc]
    have h4:=Kerb.indexOf_nonneg c bad
    by_cases h3:c∈bad
    ·rw [sel_pos (by simpa using h4.2 h3)]
     exact ⟨_,rfl,i,rfl,.inl ⟨rfl,by rw [hp,hpr];simp [Vw,h3]⟩⟩
    rw [sel_neg (by have:=mt h4.1 h3;simp;omega),wrap_i64 (by omega) (by omega)]
    exact ⟨_,rfl,i+1,rfl,⟨by omega,by rw [hp,hpr];simp [Vw,h1,h2,h3]⟩,by dsimp only;omega⟩
   ·rw [sel_neg (by simp;omega)]
    exact ⟨_,rfl,i,rfl,.inr ⟨rfl,by rw [hp,Wu (by omega)];rfl⟩⟩
  ·rintro ⟨e,l⟩ ⟨i,rfl,⟨rfl,hp⟩ | ⟨rfl,hp⟩⟩
   ·simp only [A0,hp]
   ·simp only [A0,hp]
    rfl
 ·cases h
theorem w79:Walked Tryz.prog G 79 4 sp79:=by
 refine ⟨Tryz.f79,Tryz.func79,by decide +kernel,rfl,fun xs bl r h=> ?_⟩
 unfold sp79 at h
 split at h
 ·rename_i kd k bd
  obtain ⟨hpre,h2⟩:=chk_inv h;cases h2
  refine Eq.trans (b:=(let t0:List UInt8:=[Yp (Zu (Zx .u8 (Vf (↑(Zy bd):Int) (2 ^ min (Zu 8) (Zp .i64))))),Yp (Zu (Zx .u8 (↑(Zy bd):Int)))];let t1:List UInt8:=Xn (Zu 0) (0:UInt8)++[(66:UInt8),Yp (Zu (Zx .u8 kd))];let t2:Int:=Zx .i64 (12+(↑(Zy bd):Int));sel (!Xj kd) (some (Zb [Zk [],Zz .i64 104],[])) (Zj (chk (decide (0≤k)&&decide (k<18446744073709551616)) (some (Zq (Wz k),[]))) (kL fun b=>sel (!b) (some (Zb [Zk [],Zz .i64 10],[])) (sel (decide ((↑(Zy bd):Int)>1000)) (some (Zb [Zk [],Zz .i64 105],[])) (chk (decide (0≤t2)&&decide (t2≤140737488355328)) (chk (room (Zy (Xn (Zu 0) (0:UInt8))+Zy [(66:UInt8),Yp (Zu (Zx .u8 kd))]) 1) (Zj (chk (decide (0≤k)&&decide (k<18446744073709551616)) (some (Zk (Kerb.keyBytes k),[]))) (kB fun b=>chk (room (Zy t1+Zy b) 1) (chk (room (Zy (t1++b)+Zy t0) 1) (chk (room (Zy (t1++b++t0)+Zy bd) 1) (some (Zb [Zk (t1++b++t0++bd),Zz .i64 0],[]))))))))))):Option (AV×Blocks))) (by kernel_rfl) ?_
  delta kB kL
  try dsimp only [cStr,cBs,cBool,cU8,cInt,cSl,l63]
  simp only [A0,Yy,Yv,Zh,hpre]
  unfold Kerb.makeBox
  cases h1:Xj kd
  ·rfl
  rw [Wg,sel_false,if_neg (by simp)]
  cases h2:Wz k
  ·rfl
  rw [Wg,sel_false,if_neg (by simp)]
  by_cases h3:1000<bd.length
  ·rw [sel_pos (by simp;omega),if_pos h3]
  have hk:1≤kd∧kd≤10:=by simp [Xj] at h1;omega
  have lk:=Kerb.keyBytes_len k
  rw [sel_neg (by simp;omega),if_neg h3,wrap_i64 (by omega) (by omega),chk_of (by simp;omega),chk_of (Yz (by simp)),chk_of (Yz (by simp;omega)),chk_of (Yz (by simp;omega)),chk_of (Yz (by simp;omega)),Kerb.two_bytes,Kerb.wrap_u8,Int.emod_eq_of_lt (by omega) (by omega)]
  rfl
 ·cases h
theorem w91:Walked Tryz.prog G 91 4 sp91:=by
 refine ⟨Tryz.f91,Tryz.func91,by decide +kernel,rfl,fun xs bl r h=> ?_⟩
 unfold sp91 at h
 split at h
 ·rename_i x y z ck tc tm
  obtain ⟨hpre,h2⟩:=chk_inv h;cases h2
  refine Eq.trans (b:=(Zj (chk (decide (Zy x≤9223372036854775807)&&decide (Zy y≤9223372036854775807)&&decide (Zy z≤9223372036854775807)) (some (Zq (Xd (Xg x y z)),[]))) fun (r:AV×Blocks)=>onNilB (Zd r) (Vq (Zf r) fun b=>sel (!b) (some (Zz .i64 103,[])) (sel (!Zm ck 4294967295) (some (Zz .i64 104,[])) (sel (!Zm tc 199) (some (Zz .i64 104,[])) (sel (!Zm tm 4294967295) (some (Zz .i64 104,[])) (some (Zz .i64 0,[])))))):Option (AV×Blocks))) (by kernel_rfl) ?_
  simp only [A0,Yy,Yv,Zh,hpre]
  unfold Kerb.Auth.check
  simp only
  cases Xd ⟨x,y,z⟩
  ·rfl
  cases Zm ck 4294967295
  ·rfl
  cases Zm tc 199
  ·rfl
  cases Zm tm 4294967295<;>rfl
 ·cases h
theorem w14:Walked Tryz.prog G 14 5 sp14:=by
 refine ⟨Tryz.f14,Tryz.func14,by decide +kernel,rfl,fun xs bl r h=> ?_⟩
 unfold sp14 at h
 split at h
 ·rename_i x y z ad sk li
  obtain ⟨hpre,h2⟩:=chk_inv h;cases h2
  refine Eq.trans (b:=(let t2:List AV:=[Zz .i64 0,Zw [],Zw [],Zw [],Zz .u64 0,Zz .i64 0,Zz .i64 0,Zz .i64 0,Zz .i64 0];let t3:Kerb.Prin:=Kerb.Cache.owner (bif Xd (Xg x y z) then Kerb.Cache.mk (Xg x y z) [] else Kerb.noCache);let t1:AV:=Yh (Zw []::Zw []::Zw []::Zz .i64 0::Zz .i64 0::Zq false::Zw []::Zw []::Zw []::Xv 8 []::t2);let t0:Option (AV×Blocks):=some (Zb [t1,Zz .i64 104],[]);Zj (chk (l63 x&&l63 y&&l63 z) (some (Zb [Yh [Zw (Kerb.Prin.name t3),Zw (Kerb.Prin.inst t3),Zw (Kerb.Prin.realm t3),Xv 8 (List.map Zh (Kerb.Cache.creds (bif Xd (Xg x y z) then Kerb.Cache.mk (Xg x y z) [] else Kerb.noCache)))],Zz .i64 (bif Xd (Xg x y z) then 0 else 103)],[]))) (kT fun vs=>onCons vs fun x_1 r=>AV.onAgg x_1 fun cs=>onCons cs fun x_2 r_1=>Xm x_2 fun b=>onCons r_1 fun x_3 r_2=>Xm x_3 fun b_1=>onCons r_2 fun x_4 r_3=>Xm x_4 fun b_2=>onCons r_3 fun x_5 r_4=>AV.onSl 8 x_5 fun b_3=>onNil r_4 (onCons r fun x_6 r=>Yb .i64 x_6 fun n=>onNil r (sel (!n==0) (some (Zb [t1,Zz .i64 n],[])) (sel (!Zm ad 4294967295) t0 (sel (!Zm sk 4294967295) t0 (some (Zb [Yh (Zw x::Zw y::Zw z::Zz .i64 ad::Zz .i64 sk::Zq li::Zw b::Zw b_1::Zw b_2::Xv 8 b_3::t2),Zz .i64 0],[]))))))):Option (AV×Blocks))) (by kernel_rfl) ?_
  delta kT
  try dsimp only [cStr,cBs,cBool,cU8,cInt,cSl,l63]
  simp only [A0,Yy,Yv,Zh,hpre]
  unfold Kerb.newClient
  cases h:Xd ⟨x,y,z⟩
  ·rfl
  cases Zm ad 4294967295
  ·rfl
  cases Zm sk 4294967295<;>rfl
 ·cases h
end Go.Proofs.YtmipfdjcnkljnaaGreat
