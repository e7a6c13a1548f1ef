/- What the functions of this seat compute. -/
import Derived.Test.YtnhnkpiiacggoaaGreatTab
import Derived.Test.YtnhnkpiiacggoaaGreatKerbPlain
import Derived.Test.YtnhnkpiiacggoaaGreatAbsStep
open Go.Abs.AV renaming int→Zz,str→Zv,bool→Zj,bs→Zp,tup→Zn,sl→Yw,agg→Xy,onInt→Xk,onAgg→Xb
open Go.IntKind renaming wrap→Zy,bits→Zu,u64→Yz,i64→Yy
open List renaming length→Zx,getD→Zm,take→Yq,drop→Yj
open Int renaming toNat→Zw,tmod→Yk
open Kerb renaming readBox→Zq,fit_int→Zd,fit_str→Zf,keyValid→Zh,makeBox→Yx,tktBox→Yv,isKind→Yd,keyRead→Yf,boxSize→Yg,isBox→Yh,room_ok→Xw,isSerial→Xu,isClass→Xd,u8i→Xf
open Option renaming bind→Zk
open Kerb.GotBox renaming box→Zg,err→Xv,n→Xp
open UInt8 renaming toNat→Zb,ofNat→Ym
open Bool renaming and_eq_true→Yu,not_true→Xq
open Prod renaming snd→Yp,fst→Xx
open Kerb.Box renaming kind→Yb,body→Yn,key→Xz
open Sum renaming inr→Xj
open Go.Abs.Ex renaming exit→Xg
namespace Go.Proofs.YtnhnkpiiacggoaaGreat
open Go Go.Abs Go.Proofs
set_option linter.unusedVariables false
set_option linter.unusedSimpArgs false
set_option maxRecDepth 100000
theorem w6:Walked Tryz.prog G 6 1 sp6:=by
 refine ⟨Tryz.f6,Tryz.func6,by decide +kernel,rfl,fun xs bl r h=> ?_⟩
 unfold sp6 at h
 split at h
 ·rename_i n
  obtain ⟨hpre,h2⟩:=chk_inv h;cases h2
  refine Eq.trans (b:=(some (Zz .u64 (Zy .u64 (↑(BitVec.toNat (BitVec.ofInt (Zu .u64) 72057594037927936 ||| BitVec.ofInt (Zu .u64) (Zy .u64 (Zy .i64 (1+n))))):Int)),[]):Option (AV×Blocks))) (by kernel_rfl) ?_
  rfl
 ·cases h
theorem w7:Walked Tryz.prog G 7 1 sp7:=by
 refine ⟨Tryz.f7,Tryz.func7,by decide +kernel,rfl,fun xs bl r h=> ?_⟩
 unfold sp7 at h
 split at h
 ·rename_i b how
  obtain ⟨hpre,h2⟩:=chk_inv h;cases h2
  refine Eq.trans (b:=(let t0:Int:=Yk (Zy .i64 (Zy .u16 (Int.tdiv how 8))) (↑(Zx b):Int);chk (room (Zx b) 1) (sel ((↑(Zx b):Int)==0) (some (Zp b,[])) (chk (!(↑(Zx b):Int)==0) (sel (Yk how 4==0) (chk (decide (0≤t0)&&decide (t0<(↑(Zx b):Int))) (chk (Nat.blt (Zw t0) (Zx b)&&true&&true&&true) (chk (decide (0≤Zy .u64 (Yk how 7))) (chk (decide (0≤t0)&&decide (t0<(↑(Zx b):Int))) (chk (Nat.blt (Zw t0) (Zx b)&&true&&true&&true&&true) (some (Zp (List.set b (Zw t0) (Ym (Zw (Zy .u8 (↑(BitVec.toNat (BitVec.ofInt (Zu .u8) (↑(Zb (Zm b (Zw t0) (0:UInt8))):Int) ^^^ BitVec.ofInt (Zu .u8) (↑(Zb (Ym (Zw (Zy .u8 ((↑(Zb (1:UInt8)):Int)*2 ^ min (Zw (Zy .u64 (Yk how 7))) 8))))):Int))):Int))))),[]))))))) (sel (Yk how 4==1) (chk (decide (0≤t0)&&decide (t0≤(↑(Zx b):Int))&&Nat.blt 0 (Zx b)&&true) (chk (decide (0≤Zy .i64 (t0+1))&&decide (Zy .i64 (t0+1)≤(↑(Zx b):Int))&&Nat.blt 0 (Zx b)&&true) (chk (Nat.blt 0 (Zx b)&&true&&true&&true&&room (Zw t0+(Zx b-Zw (Zy .i64 (t0+1)))) 1) (some (Zp (Yq (Zw t0) b++Yj (Zw (Zy .i64 (t0+1))) b),[]))))) (sel (Yk how 4==2) (chk (room (Zx b+Zx [Ym (Zw (Zy .u8 how))]) 1) (some (Zp (b++[Ym (Zw (Zy .u8 how))]),[]))) (some (Zp b,[]))))))):Option (AV×Blocks))) (by kernel_rfl) ?_
  try dsimp only [cStr,cBs,cBool,cU8,cInt,cSl,l63]
  simp only [Yu,decide_eq_true_eq] at hpre
  obtain ⟨⟨hb,h0⟩,h1⟩:=hpre
  rw [chk_of (Xw (by omega))]
  unfold Kerb.spoil
  by_cases hn:b=[]
  ·subst hn;rfl
  have hpos:0<b.length:=List.length_pos_iff.2 hn
  rw [if_neg hn,sel_neg (by simp;omega),chk_of (by simp;omega)]
  have e:Yk (Zy Yy (Zy IntKind.u16 (Int.tdiv how (8:Int)))) (b.length:Int)=Kerb.spoilAt b how:=rfl
  rw [e]
  obtain ⟨ha,hc⟩:=Kerb.spoilAt_bd h0 h1 hpos
  generalize Kerb.spoilAt b how=a at ha hc ⊢
  have hd:(decide ((0:Int)≤a)&&decide (a<(b.length:Int)))=true:=by simp;omega
  have hbl:Nat.blt a.toNat b.length=true:=Nat.ble_eq_true_of_le (by omega)
  have hbl0:Nat.blt 0 b.length=true:=Nat.ble_eq_true_of_le (by omega)
  have h7:decide ((0:Int)≤Zy Yz (Yk how (7:Int)))=true:=by rw [Kerb.wrap_u64];simp;omega
  by_cases c0:Yk how 4=0
  ·rw [if_pos c0,sel_pos (by simpa using c0),chk_of hd,chk_of (by rw [hbl];rfl),chk_of h7,chk_of hd,chk_of (by rw [hbl];rfl)]
  rw [if_neg c0,sel_neg (by simpa using c0)]
  by_cases c1:Yk how 4=1
  ·rw [if_pos c1,sel_pos (by simpa using c1),wrap_i64 (n:=a+1) (by omega) (by omega),chk_of (by rw [hbl0];simp;omega),chk_of (by rw [hbl0];simp;omega),chk_of (by rw [hbl0,Xw (by omega)];rfl)]
  rw [if_neg c1,sel_neg (by simpa using c1)]
  by_cases c2:Yk how 4=2
  ·rw [if_pos c2,sel_pos (by simpa using c2),chk_of (Xw (by simp;omega))]
  ·rw [if_neg c2,sel_neg (by simpa using c2)]
 ·cases h
theorem w12:Walked Tryz.prog G 12 1 sp12:=by
 refine ⟨Tryz.f12,Tryz.func12,by decide +kernel,rfl,fun xs bl r h=> ?_⟩
 unfold sp12 at h
 split at h
 ·rename_i k
  obtain ⟨hpre,h2⟩:=chk_inv h;cases h2
  refine Eq.trans (b:=(Zk (loopM (fun (st:List AV)=>cInt .u64 st fun n r=>onCons r fun x r=>AV.onOwnB x fun b=>cInt .i64 r fun n_1 r=>let t0:List UInt8:=[Ym (Zw (Zy .u8 (Int.fdiv n (2 ^ min (Zw (Zy .u64 (Zy .i64 (8*n_1)))) (Zu .u64)))))];onNil r (sel (decide (n_1≥0)) (chk (decide (0≤Zy .u64 (Zy .i64 (8*n_1)))) (chk (room (Zx b+Zx t0) 1) (some (Sum.inl [Zz .u64 n,AV.ownB (b++t0),Zz .i64 (Zy .i64 (n_1-1))])))) (some (Xj (Xg 0,[Zz .u64 n,AV.ownB b,Zz .i64 n_1]))))) [Zz .u64 k,AV.ownB [],Zz .i64 7]) fun (r:Ex×List AV)=>cInt .u64 (Yp r) fun n r_1=>onCons r_1 fun x r_2=>AV.onOwnB x fun b=>cInt .i64 r_2 fun n r_3=>onNil r_3 (exK r.1 none fun (j:Nat)=>sel (Nat.beq j 0) (some (Zp b,[])) none):Option (AV×Blocks))) (by kernel_rfl) ?_
  try dsimp only [cStr,cBs,cBool,cU8,cInt,cSl,l63]
  refine loop_unroll 9 (Xg 0,[Zz Yz k,AV.ownB [Kerb.bfd k 56,Kerb.bfd k 48,Kerb.bfd k 40,Kerb.bfd k 32,Kerb.bfd k 24,Kerb.bfd k 16,Kerb.bfd k 8,Kerb.bfd k 0],Zz Yy (-1)]) (by kernel_rfl) ?_
  simp only [A0]
  rw [sel_pos (Nat.beq_refl _)]
  simp [Kerb.bfd_eq,Kerb.keyBytes,Kerb.byteAt,List.range_succ]
 ·cases h
theorem w13:Walked Tryz.prog G 13 1 sp13:=by
 refine ⟨Tryz.f13,Tryz.func13,by decide +kernel,rfl,fun xs bl r h=> ?_⟩
 unfold sp13 at h
 split at h
 ·rename_i a b
  cases h
  refine Eq.trans (b:=(some (Zj (a==b),[]):Option (AV×Blocks))) (by kernel_rfl) ?_
  rfl
 ·cases h
theorem w19:Walked Tryz.prog G 19 1 sp19:=by
 refine ⟨Tryz.f19,Tryz.func19,by decide +kernel,rfl,fun xs bl r h=> ?_⟩
 unfold sp19 at h
 split at h
 ·rename_i c n
  cases h
  refine Eq.trans (b:=(sel (!c==1) (sel (!c==2) (some (Zz .u64 0,[])) (sel (decide (n<1)) (some (Zz .u64 0,[])) (sel (decide (n>4294967295)) (some (Zz .u64 0,[])) (some (Zz .u64 (Zy .u64 (↑(BitVec.toNat (BitVec.ofInt (Zu .u64) (Zy .u64 (Zy .u64 c*2 ^ min (Zw 56) (Zu .u64))) ||| BitVec.ofInt (Zu .u64) (Zy .u64 n))):Int)),[]))))) (sel (decide (n<1)) (some (Zz .u64 0,[])) (sel (decide (n>4294967295)) (some (Zz .u64 0,[])) (some (Zz .u64 (Zy .u64 (↑(BitVec.toNat (BitVec.ofInt (Zu .u64) (Zy .u64 (Zy .u64 c*2 ^ min (Zw 56) (Zu .u64))) ||| BitVec.ofInt (Zu .u64) (Zy .u64 n))):Int)),[])))):Option (AV×Blocks))) (by kernel_rfl) ?_
  unfold Xd Xu
  by_cases hc:c=1∨c=2
  case neg =>
   have q1:(c==(1:Int))=false:=by simp;omega
   have q2:(c==(2:Int))=false:=by simp;omega
   rw [q1,q2]
   rfl
  by_cases hn:1≤n∧n≤4294967295
  case neg =>
   have q:(decide (1≤n)&&decide (n≤4294967295))=false:=by
    rw [Bool.eq_false_iff]
    simp
    omega
   rw [q,Bool.and_false]
   have key:(sel (decide (n<(1:Int))) (some (Zz .u64 (0:Int),([]:Blocks))) (sel (decide (n>(4294967295:Int))) (some (Zz .u64 (0:Int),[])) (some (Zz Yz (Zy Yz ((BitVec.toNat (BitVec.ofInt (Zu Yz) (Zy Yz (Zy Yz c*(2:Int) ^ min (Zw (56:Int)) (Zu Yz))) ||| BitVec.ofInt (Zu Yz) (Zy Yz n)):Nat):Int)),[]))))=some (Zz .u64 0,[]):=by
    by_cases hl:n<1
    ·rw [sel_pos (by simpa using hl)]
    ·rw [sel_neg (by simpa using hl),sel_pos (by simp;omega)]
   rcases hc with rfl | rfl
   ·rw [sel_neg (by decide)];exact key
   ·rw [sel_pos (by decide),sel_neg (by decide)];exact key
  have q:(decide (1≤n)&&decide (n≤4294967295))=true:=by simp;omega
  have q2:(c==(1:Int)||c==(2:Int))=true:=by simpa using hc
  rw [q,q2,Kerb.key_make hc hn.1 hn.2]
  rcases hc with rfl | rfl
  ·rw [sel_neg (by decide),sel_neg (by simp;omega),sel_neg (by simp;omega)]
   rfl
  ·rw [sel_pos (by decide),sel_neg (by decide),sel_neg (by simp;omega),sel_neg (by simp;omega)]
   rfl
 ·cases h
theorem w34:Walked Tryz.prog G 34 1 sp34:=by
 refine ⟨Tryz.f34,Tryz.func34,by decide +kernel,rfl,fun xs bl r h=> ?_⟩
 unfold sp34 at h
 split at h
 ·rename_i k
  cases h
  refine Eq.trans (b:=(sel (decide (k≥1)) (some (Zj (decide (k≤10)),[])) (some (Zj false,[])):Option (AV×Blocks))) (by kernel_rfl) ?_
  by_cases h:1≤k<;>simp [sel,Yd,h]
 ·cases h
theorem w75:Walked Tryz.prog G 75 1 sp75:=by
 refine ⟨Tryz.f75,Tryz.func75,by decide +kernel,rfl,fun xs bl r h=> ?_⟩
 unfold sp75 at h
 split at h
 ·rename_i k
  cases h
  refine Eq.trans (b:=(sel (k==1) (some (Zj true,[])) (some (Zj (k==2),[])):Option (AV×Blocks))) (by kernel_rfl) ?_
  unfold Xd
  cases (k==(1:Int))<;>rfl
 ·cases h
theorem w76:Walked Tryz.prog G 76 1 sp76:=by
 refine ⟨Tryz.f76,Tryz.func76,by decide +kernel,rfl,fun xs bl r h=> ?_⟩
 unfold sp76 at h
 split at h
 ·rename_i k
  cases h
  refine Eq.trans (b:=(sel (decide (k≥1)) (some (Zj (decide (k≤4294967295)),[])) (some (Zj false,[])):Option (AV×Blocks))) (by kernel_rfl) ?_
  by_cases h:1≤k<;>simp [sel,Xu,h]
 ·cases h
theorem w11:Walked Tryz.prog G 11 2 sp11:=by
 refine ⟨Tryz.f11,Tryz.func11,by decide +kernel,rfl,fun xs bl r h=> ?_⟩
 unfold sp11 at h
 split at h
 ·rename_i k
  obtain ⟨hpre,h2⟩:=chk_inv h;cases h2
  refine Eq.trans (b:=(sel (!k==0) (some (Zj ((bif Xd (Zy .i64 (Int.fdiv k (2 ^ min (Zw 56) (Zu .u64))))&&Xu (Zy .i64 (Zy .u64 (↑(BitVec.toNat (BitVec.ofInt (Zu .u64) k &&& BitVec.ofInt (Zu .u64) 72057594037927935)):Int))) then Zy .i64 (Int.fdiv k (2 ^ min (Zw 56) (Zu .u64)))*72057594037927936+Zy .i64 (Zy .u64 (↑(BitVec.toNat (BitVec.ofInt (Zu .u64) k &&& BitVec.ofInt (Zu .u64) 72057594037927935)):Int)) else 0)==k),[])) (some (Zj false,[])):Option (AV×Blocks))) (by kernel_rfl) ?_
  simp only [Yu,decide_eq_true_eq] at hpre
  obtain ⟨h0,h1⟩:=hpre
  rw [Kerb.key_hi h0 h1,Kerb.key_lo h0 h1,Kerb.key_sum]
  by_cases hk:k=0
  ·subst hk;rfl
  rw [sel_pos (by simpa using hk)]
  unfold Zh
  cases Xd (Kerb.keyClass k)&&Xu (Kerb.keySerial k)
  ·have q:((0:Int)==k)=false:=by simp;omega
   simp only [cond_false,q]
  ·simp only [cond_true,BEq.rfl]
 ·cases h
theorem w56:Walked Tryz.prog G 56 2 sp56:=by
 refine ⟨Tryz.f56,Tryz.func56,by decide +kernel,rfl,fun xs bl r h=> ?_⟩
 unfold sp56 at h
 split at h
 ·rename_i k
  obtain ⟨hpre,h2⟩:=chk_inv h;cases h2
  refine Eq.trans (b:=(sel (!Xd (Zy .i64 (Int.fdiv k (2 ^ min (Zw 56) (Zu .u64))))) (some (Zn [Zz .i64 0,Zz .i64 0,Zj false],[])) (sel (!Xu (Zy .i64 (Zy .u64 (↑(BitVec.toNat (BitVec.ofInt (Zu .u64) k &&& BitVec.ofInt (Zu .u64) 72057594037927935)):Int)))) (some (Zn [Zz .i64 0,Zz .i64 0,Zj false],[])) (some (Zn [Zz .i64 (Zy .i64 (Int.fdiv k (2 ^ min (Zw 56) (Zu .u64)))),Zz .i64 (Zy .i64 (Zy .u64 (↑(BitVec.toNat (BitVec.ofInt (Zu .u64) k &&& BitVec.ofInt (Zu .u64) 72057594037927935)):Int))),Zj true],[]))):Option (AV×Blocks))) (by kernel_rfl) ?_
  simp only [Yu,decide_eq_true_eq] at hpre
  obtain ⟨h0,h1⟩:=hpre
  rw [Kerb.key_hi h0 h1,Kerb.key_lo h0 h1]
  unfold Zh
  cases Xd (Kerb.keyClass k)
  ·rfl
  cases Xu (Kerb.keySerial k)<;>rfl
 ·cases h
theorem w5:Walked Tryz.prog G 5 3 sp5:=by
 refine ⟨Tryz.f5,Tryz.func5,by decide +kernel,rfl,fun xs bl r h=> ?_⟩
 unfold sp5 at h
 split at h
 ·rename_i kd k bd
  obtain ⟨hpre,h2⟩:=chk_inv h;cases h2
  refine Eq.trans (b:=(let t0:List UInt8:=[Ym (Zw (Zy .u8 (Int.fdiv (↑(Zx bd):Int) (2 ^ min (Zw 8) (Zu .i64))))),Ym (Zw (Zy .u8 (↑(Zx bd):Int)))];let t1:List UInt8:=[(66:UInt8),Ym (Zw (Zy .u8 kd))];sel (decide (kd<1)) (some (Zn [Zp [],Zz .i64 104],[])) (sel (decide (kd>10)) (some (Zn [Zp [],Zz .i64 104],[])) (Zk (chk (decide (0≤k)&&decide (k<18446744073709551616)) (some (Zj (Zh k),[]))) (kL fun b=>sel (!b) (some (Zn [Zp [],Zz .i64 10],[])) (sel (decide ((↑(Zx bd):Int)>1000)) (some (Zn [Zp [],Zz .i64 105],[])) (Zk (chk (decide (0≤k)&&decide (k<18446744073709551616)) (some (Zp (Kerb.keyBytes k),[]))) (kB fun b=>chk (room (Zx t1+Zx b) 1) (chk (room (Zx (t1++b)+Zx t0) 1) (chk (room (Zx (t1++b++t0)+Zx bd) 1) (some (Zn [Zp (t1++b++t0++bd),Zz .i64 0],[])))))))))):Option (AV×Blocks))) (by kernel_rfl) ?_
  delta kB kL
  try dsimp only [cStr,cBs,cBool,cU8,cInt,cSl,l63]
  simp only [A0,Kerb.Client.av,Kerb.Cache.av,Kerb.Cred.av,hpre]
  unfold Yx
  by_cases k1:1≤kd
  case neg =>
   rw [sel_pos (by simp;omega),if_pos (by simp [Yd];omega)]
  by_cases k2:kd≤10
  case neg =>
   rw [sel_neg (by simp;omega),sel_pos (by simp;omega),if_pos (by simp [Yd];omega)]
  rw [sel_neg (by simp;omega),sel_neg (by simp;omega),if_neg (by simp [Yd];omega)]
  cases h2:Zh k
  ·rfl
  rw [Xq,sel_false,if_neg (by simp)]
  by_cases h3:1000<bd.length
  ·rw [sel_pos (by simp;omega),if_pos h3]
  have lk:=Kerb.keyBytes_len k
  rw [sel_neg (by simp;omega),if_neg h3,chk_of (Xw (by simp;omega)),chk_of (Xw (by simp;omega)),chk_of (Xw (by simp;omega)),Kerb.two_bytes,Kerb.wrap_u8,Int.emod_eq_of_lt (by omega) (by omega)]
 ·cases h
theorem w22:Walked Tryz.prog G 22 3 sp22:=by
 refine ⟨Tryz.f22,Tryz.func22,by decide +kernel,rfl,fun xs bl r h=> ?_⟩
 unfold sp22 at h
 split at h
 ·rename_i b
  obtain ⟨hpre,h2⟩:=chk_inv h;cases h2
  refine Eq.trans (b:=(sel (!(↑(Zx b):Int)==8) (some (Zn [Zz .u64 0,Zj false],[])) (Zk (loopM (fun (st:List AV)=>cBs st fun b r=>cInt .u64 r fun n r=>cInt .i64 r fun n_1 r=>onNil r (sel (decide (n_1<8)) (chk (decide (0≤n_1)&&decide (n_1<(↑(Zx b):Int))) (some (Sum.inl [Zp b,Zz .u64 (Zy .u64 (↑(BitVec.toNat (BitVec.ofInt (Zu .u64) (Zy .u64 (n*2 ^ min (Zw 8) (Zu .u64))) ||| BitVec.ofInt (Zu .u64) (Zy .u64 (↑(Zb (Zm b (Zw n_1) (0:UInt8))):Int)))):Int)),Zz .i64 (Zy .i64 (n_1+1))]))) (some (Xj (Xg 0,[Zp b,Zz .u64 n,Zz .i64 n_1]))))) [Zp b,Zz .u64 0,Zz .i64 0]) fun (r:Ex×List AV)=>cBs (Yp r) fun b r_1=>cInt .u64 r_1 fun n r_2=>cInt .i64 r_2 fun n_1 r_3=>onNil r_3 (exK r.1 none fun (j:Nat)=>sel (Nat.beq j 0) (Zk (chk (decide (0≤n)&&decide (n<18446744073709551616)) (some (Zj (Zh n),[]))) (kL fun b=>sel (!b) (some (Zn [Zz .u64 0,Zj false],[])) (some (Zn [Zz .u64 n,Zj true],[])))) none)):Option (AV×Blocks))) (by kernel_rfl) ?_
  delta kL
  try dsimp only [cStr,cBs,cBool,cU8,cInt,cSl,l63]
  have hb:=of_decide_eq_true hpre
  unfold Yf
  by_cases h8:b.length=8
  case neg =>
   rw [sel_pos (by simp;omega),if_neg (by omega)]
  rw [sel_neg (by simp [h8])]
  refine loop_rounds (fun i:Nat=>[Zp b,Zz Yz (Kerb.valB (b.take i)),Zz Yy (i:Int)]) (fun i=>i≤8) (fun i=>8-i)
   (fun r=>r=(Xg 0,[Zp b,Zz Yz (Kerb.valB b),Zz Yy 8])) 0 (by omega) rfl ?_ ?_
  ·intro i hi
   simp only [A0]
   by_cases hlt:i<8
   ·have hv:=Kerb.valB_take (l:=b) (i:=i) (by omega)
    have hbd:=Kerb.valB_bd7 (l:=b.take i) (by simp;omega)
    rw [sel_pos (by simp;omega),chk_of (by simp;omega),Int.toNat_natCast,Kerb.shl8_oru _ hbd.1 hbd.2,wrap_i64 (by omega) (by omega),← hv]
    exact ⟨_,rfl,i+1,rfl,by omega,by dsimp only;omega⟩
   ·rw [sel_neg (by simp;omega)]
    refine ⟨_,rfl,?_⟩
    show _=_
    rw [List.take_of_length_le (by omega),show i=8 from by omega]
    rfl
  rintro r rfl
  have hbd:=Kerb.valB_bd8 (l:=b) (by omega)
  simp only [A0]
  rw [sel_pos (Nat.beq_refl _),chk_of (by simp;omega)]
  cases hv:Zh (Kerb.valB b)
  ·rw [if_neg (by simp)]
   rfl
  ·rw [if_pos ⟨h8,rfl⟩]
   rfl
 ·cases h
theorem w29:Walked Tryz.prog G 29 3 sp29:=by
 refine ⟨Tryz.f29,Tryz.func29,by decide +kernel,rfl,fun xs bl r h=> ?_⟩
 unfold sp29 at h
 split at h
 ·rename_i k
  obtain ⟨hpre,h2⟩:=chk_inv h;cases h2
  refine Eq.trans (b:=(Zk (chk (decide (0≤k)&&decide (k<18446744073709551616)) (some (Zn [Zz .i64 (bif Zh k then Kerb.keyClass k else 0),Zz .i64 (bif Zh k then Kerb.keySerial k else 0),Zj (Zh k)],[]))) fun (r:AV×Blocks)=>onNilB (Yp r) (AV.onTup (Xx r) fun vs=>onCons vs fun x r=>Xk .i64 x fun n=>onCons r fun x r=>Xk .i64 x fun n=>onCons r fun x r=>AV.onBool x fun b=>onNil r (some (Zj b,[]))):Option (AV×Blocks))) (by kernel_rfl) ?_
  simp only [A0]
  rw [chk_of hpre]
 ·cases h
theorem w16:Walked Tryz.prog G 16 4 sp16:=by
 refine ⟨Tryz.f16,Tryz.func16,by decide +kernel,rfl,fun xs bl r h=> ?_⟩
 unfold sp16 at h
 split at h
 ·rename_i b
  obtain ⟨hpre,h2⟩:=chk_inv h;cases h2
  refine Eq.trans (b:=(let t1:Option (AV×Blocks):=some (Zn [Xy [Zz .i64 0,Zz .u64 0,Zp []],Zz .i64 0,Zz .i64 100],[]);let t2:Int:=Zy .i64 (↑(BitVec.toNat (BitVec.ofInt (Zu .i64) (Zy .i64 (Zy .i64 (↑(Zb (Zm b (Zw 10) (0:UInt8))):Int)*2 ^ min (Zw 8) (Zu .i64))) ||| BitVec.ofInt (Zu .i64) (Zy .i64 (↑(Zb (Zm b (Zw 11) (0:UInt8))):Int)))):Int);let t3:Int:=Zy .i64 (↑(Zb (Zm b (Zw 1) (0:UInt8))):Int);let t4:Option (AV×Blocks):=some (Zn [Xy [Zz .i64 0,Zz .u64 0,Zp []],Zz .i64 0,Zz .i64 101],[]);let t0:Int:=Zy .i64 (12+t2);sel (decide ((↑(Zx b):Int)<12)) t4 (chk (decide (10≤(↑(Zx b):Int))) (Zk (chk (decide (Zx (Yj (Zw 2) (Yq (Zw 10) b))≤4611686018427387904)) (some (Zn [Zz .u64 (Xx (Yf (Yj (Zw 2) (Yq (Zw 10) b)))),Zj (Yp (Yf (Yj (Zw 2) (Yq (Zw 10) b))))],[]))) (kT fun vs=>cInt .u64 vs fun n r=>cBool r fun b_1 r=>onNil r (chk (decide (10<(↑(Zx b):Int))) (chk (decide (11<(↑(Zx b):Int))) (chk (decide (0<(↑(Zx b):Int))) (sel (!Zm b (Zw 0) (0:UInt8)==(66:UInt8)) t1 (chk (decide (1<(↑(Zx b):Int))) (sel (decide (t3<1)) t1 (chk (decide (1<(↑(Zx b):Int))) (sel (decide (t3>10)) t1 (sel (!b_1) t1 (sel (decide (t2>1000)) t1 (sel (decide ((↑(Zx b):Int)<t0)) t4 (chk (decide (1<(↑(Zx b):Int))) (chk (decide (12≤t0)&&decide (t0≤(↑(Zx b):Int))) (chk (room (Zx (Yj (Zw 12) (Yq (Zw t0) b))) 1) (some (Zn [Xy [Zz .i64 t3,Zz .u64 n,Zp (Yj (Zw 12) (Yq (Zw t0) b))],Zz .i64 t0,Zz .i64 0],[]))))))))))))))))))):Option (AV×Blocks))) (by kernel_rfl) ?_
  delta kT
  try dsimp only [cStr,cBs,cBool,cU8,cInt,cSl,l63]
  simp only [decide_eq_true_eq] at hpre
  unfold Zq
  by_cases h0:b.length<12
  ·rw [sel_pos (by simp;omega),if_pos h0];rfl
  rw [sel_neg (by simp;omega),if_neg h0]
  have hc:=Kerb.cut_len b 2 8
  have hs:(b.getD 10 0).toNat*256+(b.getD 11 0).toNat=Yg b:=rfl
  simp only [Kerb.cut_28,Kerb.size_or]
  simp only [show Zw 0=0 from rfl,show Zw 1=1 from rfl,show Zw 10=10 from rfl,show Zw 11=11 from rfl,Kerb.wrap_byte,hs]
  rw [chk_of (by simp;omega),chk_of (by simp;omega)]
  simp only [↓A0]
  rw [chk_of (by simp;omega),chk_of (by simp;omega),chk_of (by simp;omega)]
  by_cases h1:b.getD 0 0=66
  case neg=>rw [sel_pos (by simpa using h1),if_pos (.inl h1)];rfl
  rw [sel_neg (by simpa using h1),chk_of (by simp;omega)]
  cases h2:Yd ((b.getD 1 0).toNat:Int)
  ·rw [if_pos (.inr (.inl rfl))]
   by_cases h2a:((b.getD 1 0).toNat:Int)<1
   ·rw [sel_pos (by simpa using h2a)];rfl
   ·rw [sel_neg (by simpa using h2a),chk_of (by simp;omega),sel_pos (decide_eq_true (by simp only [Yd,Bool.and_eq_false_iff,decide_eq_false_iff_not] at h2;omega))];rfl
  have hk:1≤((b.getD 1 0).toNat:Int)∧((b.getD 1 0).toNat:Int)≤10:=by simp only [Yd,Yu,decide_eq_true_eq] at h2;exact h2
  rw [sel_neg (decide_eq_false (by omega)),chk_of (by simp;omega),sel_neg (decide_eq_false (by omega))]
  cases h3:(Yf (Kerb.cut b 2 8)).2
  ·rw [if_pos (.inr (.inr (.inl rfl)))];rfl
  rw [Xq,sel_false]
  by_cases h4:1000<Yg b
  ·rw [sel_pos (by simp;omega),if_pos (.inr (.inr (.inr h4)))];rfl
  rw [sel_neg (by simp;omega),if_neg (by rintro (h | h | h | h)<;>first | exact h h1 | cases h | omega),wrap_i64 (by omega) (by omega)]
  by_cases h5:b.length<12+Yg b
  ·rw [sel_pos (by simp;omega),if_pos h5];rfl
  have hc2:=Kerb.cut_len b 12 (Yg b)
  rw [sel_neg (by simp;omega),if_neg h5,Kerb.cut_12]
  repeat rw [chk_of (by first | (simp;omega) | exact Xw (by omega))]
  simp
 ·cases h
theorem w33:Walked Tryz.prog G 33 4 sp33:=by
 refine ⟨Tryz.f33,Tryz.func33,by decide +kernel,rfl,fun xs bl r h=> ?_⟩
 unfold sp33 at h
 split at h
 ·rename_i b
  obtain ⟨hpre,h2⟩:=chk_inv h;cases h2
  refine Eq.trans (b:=(sel (!(↑(Zx b):Int)==8) (some (Zn [Zz .u64 0,Zj false],[])) (Zk (loopM (fun (st:List AV)=>cInt .u64 st fun n r=>cBs r fun b r=>cInt .i64 r fun n_1 r=>cInt .i64 r fun n_2 r=>onNil r (sel (decide (n_2<n_1)) (chk (decide (0≤n_2)&&decide (n_2<(↑(Zx b):Int))) (some (Sum.inl [Zz .u64 (Zy .u64 (↑(BitVec.toNat (BitVec.ofInt (Zu .u64) (Zy .u64 (n*2 ^ min (Zw 8) (Zu .u64))) ||| BitVec.ofInt (Zu .u64) (Zy .u64 (↑(Zb (Zm b (Zw n_2) (0:UInt8))):Int)))):Int)),Zp b,Zz .i64 n_1,Zz .i64 (Zy .i64 (n_2+1))]))) (some (Xj (Xg 0,[Zz .u64 n,Zp b,Zz .i64 n_1,Zz .i64 n_2]))))) [Zz .u64 0,Zp b,Zz .i64 (↑(Zx b):Int),Zz .i64 0]) fun (r:Ex×List AV)=>cInt .u64 (Yp r) fun n r_1=>cBs r_1 fun b r_2=>cInt .i64 r_2 fun n_1 r_3=>cInt .i64 r_3 fun n_2 r_4=>onNil r_4 (exK r.1 none fun (j:Nat)=>sel (Nat.beq j 0) (Zk (chk (decide (0≤n)&&decide (n<18446744073709551616)) (some (Zj (Zh n),[]))) (kL fun b=>sel (!b) (some (Zn [Zz .u64 0,Zj false],[])) (some (Zn [Zz .u64 n,Zj true],[])))) none)):Option (AV×Blocks))) (by kernel_rfl) ?_
  delta kL
  try dsimp only [cStr,cBs,cBool,cU8,cInt,cSl,l63]
  have hb:=of_decide_eq_true hpre
  unfold Yf
  by_cases h8:b.length=8
  case neg =>
   rw [sel_pos (by simp;omega),if_neg (by omega)]
  rw [sel_neg (by simp [h8])]
  refine loop_rounds (fun i:Nat=>[Zz Yz (Kerb.valB (b.take i)),Zp b,Zz Yy (b.length:Int),Zz Yy (i:Int)]) (fun i=>i≤8) (fun i=>8-i)
   (fun r=>r=(Xg 0,[Zz Yz (Kerb.valB b),Zp b,Zz Yy (b.length:Int),Zz Yy 8])) 0 (by omega) rfl ?_ ?_
  ·intro i hi
   simp only [A0]
   by_cases hlt:i<8
   ·have hv:=Kerb.valB_take (l:=b) (i:=i) (by omega)
    have hbd:=Kerb.valB_bd7 (l:=b.take i) (by simp;omega)
    rw [sel_pos (by simp;omega),chk_of (by simp;omega),Int.toNat_natCast,Kerb.shl8_oru _ hbd.1 hbd.2,wrap_i64 (by omega) (by omega),← hv]
    exact ⟨_,rfl,i+1,rfl,by omega,by dsimp only;omega⟩
   ·rw [sel_neg (by simp;omega)]
    refine ⟨_,rfl,?_⟩
    show _=_
    rw [List.take_of_length_le (by omega),show i=8 from by omega]
    rfl
  rintro r rfl
  have hbd:=Kerb.valB_bd8 (l:=b) (by omega)
  simp only [A0]
  rw [sel_pos (Nat.beq_refl _),chk_of (by simp;omega)]
  cases hv:Zh (Kerb.valB b)
  ·rw [if_neg (by simp)]
   rfl
  ·rw [if_pos ⟨h8,rfl⟩]
   rfl
 ·cases h
theorem w15:Walked Tryz.prog G 15 5 sp15:=by
 refine ⟨Tryz.f15,Tryz.func15,by decide +kernel,rfl,fun xs bl r h=> ?_⟩
 unfold sp15 at h
 split at h
 ·rename_i b
  obtain ⟨hpre,h2⟩:=chk_inv h;cases h2
  refine Eq.trans (b:=(Zk (chk (decide (Zx b≤140737488355328)) (some (Zn [Xy [Zz .i64 (Yb (Zg (Zq b))),Zz .u64 (Xz (Zg (Zq b))),Zp (Yn (Zg (Zq b)))],Zz .i64 (Xp (Zq b)),Zz .i64 (Xv (Zq b))],[]))) fun (r:AV×Blocks)=>onNilB (Yp r) (AV.onTup (Xx r) fun vs=>onCons vs fun x r=>Xb x fun cs=>onCons cs fun x r_1=>Xk .i64 x fun n=>onCons r_1 fun x r_2=>Xk .u64 x fun n=>onCons r_2 fun x r_3=>AV.onBs x fun b_1=>onNil r_3 (onCons r fun x r=>Xk .i64 x fun n=>onCons r fun x r=>Xk .i64 x fun n_1=>onNil r (sel (n_1==0) (some (Zj (n==(↑(Zx b):Int)),[])) (some (Zj false,[]))))):Option (AV×Blocks))) (by kernel_rfl) ?_
  have lb:=of_decide_eq_true hpre
  simp (config:={maxSteps:=10000000}) only [lb,decide_true,↓sInt,↓sU8,↓sBool,↓sStr,↓sBs,↓sSl,↓sAgg,↓sTup,↓sCons,↓sNil,↓sNilB,↓sChk,↓sChkBind,↓sSome,↓sOwnL,↓sConsB,↓sOwnB]
  unfold Yh
  cases ((Zq b).err==0)<;>rfl
 ·cases h
theorem w21:Walked Tryz.prog G 21 5 sp21:=by
 refine ⟨Tryz.f21,Tryz.func21,by decide +kernel,rfl,fun xs bl r h=> ?_⟩
 unfold sp21 at h
 split at h
 ·rename_i b
  obtain ⟨hpre,h2⟩:=chk_inv h;cases h2
  refine Eq.trans (b:=(let t1:Int:=Zy .i64 (↑(BitVec.toNat (BitVec.ofInt (Zu .i64) (Zy .i64 (Zy .i64 (↑(Zb (Zm b (Zw 10) (0:UInt8))):Int)*2 ^ min (Zw 8) (Zu .i64))) ||| BitVec.ofInt (Zu .i64) (Zy .i64 (↑(Zb (Zm b (Zw 11) (0:UInt8))):Int)))):Int);let t2:Option (AV×Blocks):=some (Zn [Xy [Zz .i64 0,Zz .u64 0,Zp []],Zz .i64 0,Zz .i64 100],[]);let t3:Option (AV×Blocks):=some (Zn [Xy [Zz .i64 0,Zz .u64 0,Zp []],Zz .i64 0,Zz .i64 101],[]);let t0:Int:=Zy .i64 (12+t1);sel (decide ((↑(Zx b):Int)<12)) t3 (chk (decide (1<(↑(Zx b):Int))) (chk (decide (10≤(↑(Zx b):Int))) (Zk (chk (decide (Zx (Yj (Zw 2) (Yq (Zw 10) b))≤4611686018427387904)) (some (Zn [Zz .u64 (Xx (Yf (Yj (Zw 2) (Yq (Zw 10) b)))),Zj (Yp (Yf (Yj (Zw 2) (Yq (Zw 10) b))))],[]))) (kT fun vs=>cInt .u64 vs fun n r=>cBool r fun b_1 r=>onNil r (chk (decide (10<(↑(Zx b):Int))) (chk (decide (11<(↑(Zx b):Int))) (chk (decide (0<(↑(Zx b):Int))) (sel (!Zm b (Zw 0) (0:UInt8)==(66:UInt8)) t2 (sel (!Yd (Zy .i64 (↑(Zb (Zm b (Zw 1) (0:UInt8))):Int))) t2 (sel (!b_1) t2 (sel (decide (t1>1000)) t2 (sel (decide ((↑(Zx b):Int)<t0)) t3 (chk (decide (12≤t0)&&decide (t0≤t0)&&decide (t0≤(↑(Zx b):Int))) (Zk (chk (decide (Zx (Yj (Zw 12) (Yq (Zw t0) b))≤140737488355328)) (some (Zp (Yj (Zw 12) (Yq (Zw t0) b)),[]))) (kB fun b_2=>some (Zn [Xy [Zz .i64 (Zy .i64 (↑(Zb (Zm b (Zw 1) (0:UInt8))):Int)),Zz .u64 n,Zp b_2],Zz .i64 t0,Zz .i64 0],[])))))))))))))))):Option (AV×Blocks))) (by kernel_rfl) ?_
  delta kT kB
  try dsimp only [cStr,cBs,cBool,cU8,cInt,cSl,l63]
  simp only [decide_eq_true_eq] at hpre
  unfold Zq
  by_cases h0:b.length<12
  ·rw [sel_pos (by simp;omega),if_pos h0];rfl
  rw [sel_neg (by simp;omega),if_neg h0]
  have hc:=Kerb.cut_len b 2 8
  have hs:(b.getD 10 0).toNat*256+(b.getD 11 0).toNat=Yg b:=rfl
  simp only [Kerb.cut_28,Kerb.size_or]
  simp only [show Zw 0=0 from rfl,show Zw 1=1 from rfl,show Zw 10=10 from rfl,show Zw 11=11 from rfl,Kerb.wrap_byte,hs]
  rw [chk_of (by simp;omega),chk_of (by simp;omega),chk_of (by simp;omega)]
  simp only [↓A0]
  rw [chk_of (by simp;omega),chk_of (by simp;omega),chk_of (by simp;omega)]
  by_cases h1:b.getD 0 0=66
  case neg=>rw [sel_pos (by simpa using h1),if_pos (.inl h1)];rfl
  rw [sel_neg (by simpa using h1)]
  cases h2:Yd ((b.getD 1 0).toNat:Int)
  ·rw [if_pos (.inr (.inl rfl))];rfl
  rw [Xq,sel_false]
  cases h3:(Yf (Kerb.cut b 2 8)).2
  ·rw [if_pos (.inr (.inr (.inl rfl)))];rfl
  rw [Xq,sel_false]
  by_cases h4:1000<Yg b
  ·rw [sel_pos (by simp;omega),if_pos (.inr (.inr (.inr h4)))];rfl
  rw [sel_neg (by simp;omega),if_neg (by rintro (h | h | h | h)<;>first | exact h h1 | cases h | omega),wrap_i64 (by omega) (by omega)]
  by_cases h5:b.length<12+Yg b
  ·rw [sel_pos (by simp;omega),if_pos h5];rfl
  have hc2:=Kerb.cut_len b 12 (Yg b)
  rw [sel_neg (by simp;omega),if_neg h5,Kerb.cut_12,chk_of (by simp;omega)]
  simp only [↓A0]
  rw [chk_of (by simp;omega)]
  simp
 ·cases h
theorem w9:Walked Tryz.prog G 9 6 sp9:=by
 refine ⟨Tryz.f9,Tryz.func9,by decide +kernel,rfl,fun xs bl r h=> ?_⟩
 unfold sp9 at h
 split at h
 ·rename_i a b
  obtain ⟨hpre,h2⟩:=chk_inv h;cases h2
  refine Eq.trans (b:=(sel (a==b) (some (Zj true,[])) (Zk (chk (decide (Zx a≤140737488355328)) (some (Zj (Yh a),[]))) (kL fun b_1=>sel (!b_1) (some (Zj false,[])) (Zk (chk (decide (Zx b≤140737488355328)) (some (Zj (Yh b),[]))) (kL fun b_2=>sel (!b_2) (some (Zj false,[])) (Zk (chk (decide (Zx a≤140737488355328)) (some (Zn [Xy [Zz .i64 (Yb (Zg (Zq a))),Zz .u64 (Xz (Zg (Zq a))),Zp (Yn (Zg (Zq a)))],Zz .i64 (Xp (Zq a)),Zz .i64 (Xv (Zq a))],[]))) (kT fun vs=>onCons vs fun x r=>Xb x fun cs=>cInt .i64 cs fun n r_1=>cInt .u64 r_1 fun n_1 r_2=>cBs r_2 fun b_3 r_3=>onNil r_3 (cInt .i64 r fun n_2 r=>cInt .i64 r fun n_3 r=>onNil r (Zk (chk (decide (Zx b≤140737488355328)) (some (Zn [Xy [Zz .i64 (Yb (Zg (Zq b))),Zz .u64 (Xz (Zg (Zq b))),Zp (Yn (Zg (Zq b)))],Zz .i64 (Xp (Zq b)),Zz .i64 (Xv (Zq b))],[]))) (kT fun vs=>onCons vs fun x r=>Xb x fun cs=>cInt .i64 cs fun n_4 r_4=>cInt .u64 r_4 fun n_5 r_5=>cBs r_5 fun b r_6=>onNil r_6 (cInt .i64 r fun n_6 r=>cInt .i64 r fun n_7 r=>onNil r (sel (n==1) (sel (n_4==1) (some (Zj (b_3==b),[])) (some (Zj false,[]))) (some (Zj false,[]))))))))))))):Option (AV×Blocks))) (by kernel_rfl) ?_
  delta kT kL
  try dsimp only [cStr,cBs,cBool,cU8,cInt,cSl,l63]
  simp only [Yu,decide_eq_true_eq] at hpre
  obtain ⟨la,lb⟩:=hpre
  simp (config:={maxSteps:=10000000}) only [la,lb,decide_true,↓sInt,↓sU8,↓sBool,↓sStr,↓sBs,↓sSl,↓sAgg,↓sTup,↓sCons,↓sNil,↓sNilB,↓sChk,↓sChkBind,↓sSome,↓sOwnL,↓sConsB,↓sOwnB]
  unfold Kerb.sameTkt Yv
  cases a==b
  case true=>rfl
  cases Yh a
  ·rfl
  cases Yh b
  ·cases ((Zq a).box.kind==1)<;>rfl
  cases ((Zq a).box.kind==1)
  ·rfl
  cases ((Zq b).box.kind==1)<;>rfl
 ·cases h
theorem w20:Walked Tryz.prog G 20 6 sp20:=by
 refine ⟨Tryz.f20,Tryz.func20,by decide +kernel,rfl,fun xs bl r h=> ?_⟩
 unfold sp20 at h
 split at h
 ·rename_i b
  obtain ⟨hpre,h2⟩:=chk_inv h;cases h2
  refine Eq.trans (b:=(Zk (chk (decide (Zx b≤140737488355328)) (some (Zn [Xy [Zz .i64 (Yb (Zg (Zq b))),Zz .u64 (Xz (Zg (Zq b))),Zp (Yn (Zg (Zq b)))],Zz .i64 (Xp (Zq b)),Zz .i64 (Xv (Zq b))],[]))) fun (r:AV×Blocks)=>onNilB (Yp r) (AV.onTup (Xx r) fun vs=>onCons vs fun x r=>Xb x fun cs=>onCons cs fun x r_1=>Xk .i64 x fun n=>onCons r_1 fun x r_2=>Xk .u64 x fun n=>onCons r_2 fun x r_3=>AV.onBs x fun b_1=>onNil r_3 (onCons r fun x r=>Xk .i64 x fun n=>onCons r fun x r=>Xk .i64 x fun n_1=>onNil r (sel (n_1==0) (some (Zj (n==(↑(Zx b):Int)),[])) (some (Zj false,[]))))):Option (AV×Blocks))) (by kernel_rfl) ?_
  have lb:=of_decide_eq_true hpre
  simp (config:={maxSteps:=10000000}) only [lb,decide_true,↓sInt,↓sU8,↓sBool,↓sStr,↓sBs,↓sSl,↓sAgg,↓sTup,↓sCons,↓sNil,↓sNilB,↓sChk,↓sChkBind,↓sSome,↓sOwnL,↓sConsB,↓sOwnB]
  unfold Yh
  cases ((Zq b).err==0)<;>rfl
 ·cases h
theorem w14:Walked Tryz.prog G 14 7 sp14:=by
 refine ⟨Tryz.f14,Tryz.func14,by decide +kernel,rfl,fun xs bl r h=> ?_⟩
 unfold sp14 at h
 split at h
 ·rename_i b
  obtain ⟨hpre,h2⟩:=chk_inv h;cases h2
  refine Eq.trans (b:=(let t0:Option (AV×Blocks):=some (Zn [Xy [Zz .i64 0,Zz .u64 0,Zp []],Zj false],[]);Zk (chk (decide (Zx b≤140737488355328)) (some (Zj (Yh b),[]))) (kL fun b_1=>sel (!b_1) t0 (Zk (chk (decide (Zx b≤140737488355328)) (some (Zn [Xy [Zz .i64 (Yb (Zg (Zq b))),Zz .u64 (Xz (Zg (Zq b))),Zp (Yn (Zg (Zq b)))],Zz .i64 (Xp (Zq b)),Zz .i64 (Xv (Zq b))],[]))) (kT fun vs=>onCons vs fun x r=>Xb x fun cs=>cInt .i64 cs fun n r_1=>cInt .u64 r_1 fun n_1 r_2=>cBs r_2 fun b r_3=>onNil r_3 (cInt .i64 r fun n_2 r=>cInt .i64 r fun n_3 r=>onNil r (sel (!n_3==0) t0 (sel (!n==1) t0 (some (Zn [Xy [Zz .i64 n,Zz .u64 n_1,Zp b],Zj true],[])))))))):Option (AV×Blocks))) (by kernel_rfl) ?_
  delta kT kL
  try dsimp only [cStr,cBs,cBool,cU8,cInt,cSl,l63]
  have lb:=of_decide_eq_true hpre
  simp (config:={maxSteps:=10000000}) only [lb,decide_true,↓sInt,↓sU8,↓sBool,↓sStr,↓sBs,↓sSl,↓sAgg,↓sTup,↓sCons,↓sNil,↓sNilB,↓sChk,↓sChkBind,↓sSome,↓sOwnL,↓sConsB,↓sOwnB]
  unfold Yv
  cases h1:Yh b
  ·rfl
  have h2:((Zq b).err==0)=true:=by unfold Yh at h1;rw [Yu] at h1;exact h1.1
  simp (config:={maxSteps:=10000000}) only [h2,Xq,↓sFalse,Bool.true_and,↓sInt,↓sU8,↓sBool,↓sStr,↓sBs,↓sSl,↓sAgg,↓sTup,↓sCons,↓sNil,↓sNilB,↓sChk,↓sChkBind,↓sSome,↓sOwnL,↓sConsB,↓sOwnB]
  cases h3:((Zq b).box.kind==1)<;>rfl
 ·cases h
theorem w8:Walked Tryz.prog G 8 8 sp8:=by
 refine ⟨Tryz.f8,Tryz.func8,by decide +kernel,rfl,fun xs bl r h=> ?_⟩
 unfold sp8 at h
 split at h
 ·rename_i a b
  obtain ⟨hpre,h2⟩:=chk_inv h;cases h2
  refine Eq.trans (b:=(sel (a==b) (some (Zj true,[])) (Zk (chk (decide (Zx a≤140737488355328)) (some (Zn [Xy [Zz .i64 (Yb (Xx (Yv a))),Zz .u64 (Xz (Xx (Yv a))),Zp (Yn (Xx (Yv a)))],Zj (Yp (Yv a))],[]))) (kT fun vs=>onCons vs fun x r=>Xb x fun cs=>cInt .i64 cs fun n r_1=>cInt .u64 r_1 fun n r_2=>cBs r_2 fun b_1 r_3=>onNil r_3 (cBool r fun b_2 r=>onNil r (sel (!b_2) (some (Zj false,[])) (Zk (chk (decide (Zx b≤140737488355328)) (some (Zn [Xy [Zz .i64 (Yb (Xx (Yv b))),Zz .u64 (Xz (Xx (Yv b))),Zp (Yn (Xx (Yv b)))],Zj (Yp (Yv b))],[]))) (kT fun vs=>onCons vs fun x r=>Xb x fun cs=>cInt .i64 cs fun n r_4=>cInt .u64 r_4 fun n r_5=>cBs r_5 fun b r_6=>onNil r_6 (cBool r fun b_3 r=>onNil r (sel b_3 (some (Zj (b_1==b),[])) (some (Zj false,[])))))))))):Option (AV×Blocks))) (by kernel_rfl) ?_
  delta kT
  try dsimp only [cStr,cBs,cBool,cU8,cInt,cSl,l63]
  simp only [Yu,decide_eq_true_eq] at hpre
  obtain ⟨la,lb⟩:=hpre
  simp (config:={maxSteps:=10000000}) only [la,lb,decide_true,↓sInt,↓sU8,↓sBool,↓sStr,↓sBs,↓sSl,↓sAgg,↓sTup,↓sCons,↓sNil,↓sNilB,↓sChk,↓sChkBind,↓sSome,↓sOwnL,↓sConsB,↓sOwnB]
  unfold Kerb.sameTkt
  cases a==b
  ·cases (Yv a).2
   ·rfl
   ·cases (Yv b).2<;>rfl
  ·rfl
 ·cases h
set_option maxHeartbeats 8000000 in
theorem w10:Walked Tryz.prog G 10 17 sp10:=by
 refine ⟨Tryz.f10,Tryz.func10,by decide +kernel,rfl,fun xs bl r h=> ?_⟩
 unfold sp10 at h
 split at h
 ·rename_i evs mls skw
  obtain ⟨hpre,h2⟩:=chk_inv h;cases h2
  refine Eq.trans (b:=(Zk (loopM (fun (st:List AV)=>cSl 51 st fun b r=>cSl 4 r fun b_1 r=>cInt .i64 r fun n r=>cInt .i64 r fun n_1 r=>cSl 4 r fun b_2 r=>cInt .i64 r fun n_2 r=>cSl 51 r fun b_3 r=>cInt .i64 r fun n_3 r=>cInt .i64 r fun n_4 r=>cStr r fun b_4 r=>cStr r fun b_5 r=>cStr r fun b_6 r=>cInt .i64 r fun n_5 r=>cInt .i64 r fun n_6 r=>cInt .i64 r fun n_7 r=>cStr r fun b_7 r=>cStr r fun b_8 r=>cStr r fun b_9 r=>cStr r fun b_10 r=>cStr r fun b_11 r=>cStr r fun b_12 r=>cStr r fun b_13 r=>cStr r fun b_14 r=>cStr r fun b_15 r=>cInt .u64 r fun n_8 r=>cInt .u64 r fun n_9 r=>cInt .u64 r fun n_10 r=>cBs r fun b_16 r=>cInt .i64 r fun n_11 r=>cInt .i64 r fun n_12 r=>cStr r fun b_17 r=>cStr r fun b_18 r=>cStr r fun b_19 r=>cInt .u64 r fun n_13 r=>cInt .i64 r fun n_14 r=>cInt .i64 r fun n_15 r=>cInt .i64 r fun n_16 r=>cBs r fun b_20 r=>cStr r fun b_21 r=>cStr r fun b_22 r=>cStr r fun b_23 r=>cInt .i64 r fun n_17 r=>cInt .i64 r fun n_18 r=>cInt .i64 r fun n_19 r=>cBs r fun b_24 r=>cStr r fun b_25 r=>cStr r fun b_26 r=>cStr r fun b_27 r=>cInt .u64 r fun n_20 r=>cInt .i64 r fun n_21 r=>cInt .i64 r fun n_22 r=>cInt .i64 r fun n_23 r=>cInt .i64 r fun n_24 r=>cInt .i64 r fun n_25 r=>cInt .i64 r fun n_26 r=>cBs r fun b_28 r=>cBs r fun b_29 r=>cInt .u64 r fun n_27 r=>cInt .i64 r fun n_28 r=>cSl 1 r fun b_30 r=>cSl 1 r fun b_31 r=>cSl 51 r fun b_32 r=>cInt .i64 r fun n_29 r=>cInt .i64 r fun n_30 r=>let t0:List AV:=[Zz .i64 n_28,Yw 1 b_30,Yw 1 b_31,Yw 51 b_32,Zz .i64 n_29,Zz .i64 n_30];let t4:List AV:=Yj (Zw (↑(0:Nat):Int)) (Yq (Zw n_30) b);let t1:AV:=Yw 51 t4;let t3:Int:=(↑(Zx t4):Int);let t2:Int:=Zy .i64 (t3-1);onNil r (sel (decide (n_30<n_29)) (chk (decide (0≤n_30)&&decide (n_30<(↑(Zx b_32):Int))&&true) (Xb (Zm b_32 (Zw n_30) AV.undef) fun cs=>cInt .i64 cs fun n r=>cInt .i64 r fun n_31 r=>let t5:Option (List AV ⊕ Ex×List AV):=sel (n_31==1) none (sel (n_31==2) none none);cStr r fun b_33 r=>cStr r fun b_34 r=>cStr r fun b_35 r=>cInt .i64 r fun n_32 r=>cInt .i64 r fun n_33 r=>cInt .i64 r fun n_34 r=>cStr r fun b_36 r=>cStr r fun b_37 r=>cStr r fun b_38 r=>cStr r fun b_39 r=>cStr r fun b_40 r=>cStr r fun b_41 r=>cStr r fun b_42 r=>cStr r fun b_43 r=>cStr r fun b_44 r=>cInt .u64 r fun n_35 r=>cInt .u64 r fun n_36 r=>cInt .u64 r fun n_37 r=>cBs r fun b_45 r=>cInt .i64 r fun n_38 r=>cInt .i64 r fun n_39 r=>cStr r fun b_46 r=>cStr r fun b_47 r=>cStr r fun b_48 r=>cInt .u64 r fun n_40 r=>cInt .i64 r fun n_41 r=>cInt .i64 r fun n_42 r=>cInt .i64 r fun n_43 r=>cBs r fun b_49 r=>cStr r fun b_50 r=>cStr r fun b_51 r=>cStr r fun b_52 r=>cInt .i64 r fun n_44 r=>cInt .i64 r fun n_45 r=>cInt .i64 r fun n_46 r=>cBs r fun b_53 r=>cStr r fun b_54 r=>cStr r fun b_55 r=>cStr r fun b_56 r=>cInt .u64 r fun n_47 r=>cInt .i64 r fun n_48 r=>cInt .i64 r fun n_49 r=>cInt .i64 r fun n_50 r=>cInt .i64 r fun n_51 r=>cInt .i64 r fun n_52 r=>cInt .i64 r fun n_53 r=>cBs r fun b_57 r=>cBs r fun b_58 r=>cInt .u64 r fun n_54 r=>let t8:List AV:=Yw 4 b_2::Zz .i64 n_2::t1::Zz .i64 n::Zz .i64 n_31::Zv b_33::Zv b_34::Zv b_35::Zz .i64 n_32::Zz .i64 n_33::Zz .i64 n_34::Zv b_36::Zv b_37::Zv b_38::Zv b_39::Zv b_40::Zv b_41::Zv b_42::Zv b_43::Zv b_44::Zz .u64 n_35::Zz .u64 n_36::Zz .u64 n_37::Zp b_45::Zz .i64 n_38::Zz .i64 n_39::Zv b_46::Zv b_47::Zv b_48::Zz .u64 n_40::Zz .i64 n_41::Zz .i64 n_42::Zz .i64 n_43::Zp b_49::Zv b_50::Zv b_51::Zv b_52::Zz .i64 n_44::Zz .i64 n_45::Zz .i64 n_46::Zp b_53::Zv b_54::Zv b_55::Zv b_56::Zz .u64 n_47::Zz .i64 n_48::Zz .i64 n_49::Zz .i64 n_50::Zz .i64 n_51::Zz .i64 n_52::Zz .i64 n_53::Zp b_57::Zp b_58::Zz .u64 n_54::t0;let t9:Option (List AV ⊕ Ex×List AV):=some (Xj (Ex.ret,Yw 51 b::Yw 4 b_1::Zz .i64 n_30::Zz .i64 109::t8));let t7:Option (List AV ⊕ Ex×List AV):=sel (n_31==3) (sel (decide (n_33<0)) t9 (sel (decide (n_33≥n_28)) t9 t5)) (sel (n_31==4) none (sel (n_31==5) none (sel (n_31==6) none (sel (n_31==7) none (sel (n_31==8) none (sel (n_31==9) (Zk (chk (decide (0≤n_54)&&decide (n_54<18446744073709551616)) (some (Zj (Zh n_54),[]))) (kL fun b_59=>sel (!b_59) (some (Xj (Ex.ret,Yw 51 b::Yw 4 b_1::Zz .i64 n_30::Zz .i64 10::t8))) t5)) (some (Xj (Ex.ret,Yw 51 b::Yw 4 b_1::Zz .i64 n_30::Zz .i64 40::t8)))))))));let t6:Option (List AV ⊕ Ex×List AV):=sel (n_31==1) (sel (n_31==1) none t7) (sel (n_31==2) none t7);onNil r (chk (decide ((↑(0:Nat):Int)≤n_30)&&decide (n_30≤(↑(Zx b):Int))) (sel (decide (t3>0)) (chk (decide (0≤t2)&&decide (t2<t3)&&true) (Xb (Zm t4 (Zw t2) AV.undef) fun cs=>cInt .i64 cs fun n_55 r=>cInt .i64 r fun n_56 r=>cStr r fun b_59 r=>cStr r fun b_60 r=>cStr r fun b_61 r=>cInt .i64 r fun n_57 r=>cInt .i64 r fun n_58 r=>cInt .i64 r fun n_59 r=>cStr r fun b_62 r=>cStr r fun b_63 r=>cStr r fun b_64 r=>cStr r fun b_65 r=>cStr r fun b_66 r=>cStr r fun b_67 r=>cStr r fun b_68 r=>cStr r fun b_69 r=>cStr r fun b_70 r=>cInt .u64 r fun n_60 r=>cInt .u64 r fun n_61 r=>cInt .u64 r fun n_62 r=>cBs r fun b_71 r=>cInt .i64 r fun n_63 r=>cInt .i64 r fun n_64 r=>cStr r fun b_72 r=>cStr r fun b_73 r=>cStr r fun b_74 r=>cInt .u64 r fun n_65 r=>cInt .i64 r fun n_66 r=>cInt .i64 r fun n_67 r=>cInt .i64 r fun n_68 r=>cBs r fun b_75 r=>cStr r fun b_76 r=>cStr r fun b_77 r=>cStr r fun b_78 r=>cInt .i64 r fun n_69 r=>cInt .i64 r fun n_70 r=>cInt .i64 r fun n_71 r=>cBs r fun b_79 r=>cStr r fun b_80 r=>cStr r fun b_81 r=>cStr r fun b_82 r=>cInt .u64 r fun n_72 r=>cInt .i64 r fun n_73 r=>cInt .i64 r fun n_74 r=>cInt .i64 r fun n_75 r=>cInt .i64 r fun n_76 r=>cInt .i64 r fun n_77 r=>cInt .i64 r fun n_78 r=>cBs r fun b_83 r=>cBs r fun b_84 r=>cInt .u64 r fun n_79 r=>onNil r (sel (decide (n<n_55)) (some (Xj (Ex.ret,Yw 51 b::Yw 4 b_1::Zz .i64 n_30::Zz .i64 110::t8))) t6))) t6)))) (some (Xj (Xg 0,Yw 51 b::Yw 4 b_1::Zz .i64 n::Zz .i64 n_1::Yw 4 b_2::Zz .i64 n_2::Yw 51 b_3::Zz .i64 n_3::Zz .i64 n_4::Zv b_4::Zv b_5::Zv b_6::Zz .i64 n_5::Zz .i64 n_6::Zz .i64 n_7::Zv b_7::Zv b_8::Zv b_9::Zv b_10::Zv b_11::Zv b_12::Zv b_13::Zv b_14::Zv b_15::Zz .u64 n_8::Zz .u64 n_9::Zz .u64 n_10::Zp b_16::Zz .i64 n_11::Zz .i64 n_12::Zv b_17::Zv b_18::Zv b_19::Zz .u64 n_13::Zz .i64 n_14::Zz .i64 n_15::Zz .i64 n_16::Zp b_20::Zv b_21::Zv b_22::Zv b_23::Zz .i64 n_17::Zz .i64 n_18::Zz .i64 n_19::Zp b_24::Zv b_25::Zv b_26::Zv b_27::Zz .u64 n_20::Zz .i64 n_21::Zz .i64 n_22::Zz .i64 n_23::Zz .i64 n_24::Zz .i64 n_25::Zz .i64 n_26::Zp b_28::Zp b_29::Zz .u64 n_27::t0))))) [Yw 51 evs,Yw 4 mls,Zz .i64 0,Zz .i64 0,Yw 4 mls,Zz .i64 skw,Yw 51 [],Zz .i64 0,Zz .i64 0,Zv [],Zv [],Zv [],Zz .i64 0,Zz .i64 0,Zz .i64 0,Zv [],Zv [],Zv [],Zv [],Zv [],Zv [],Zv [],Zv [],Zv [],Zz .u64 0,Zz .u64 0,Zz .u64 0,Zp [],Zz .i64 0,Zz .i64 0,Zv [],Zv [],Zv [],Zz .u64 0,Zz .i64 0,Zz .i64 0,Zz .i64 0,Zp [],Zv [],Zv [],Zv [],Zz .i64 0,Zz .i64 0,Zz .i64 0,Zp [],Zv [],Zv [],Zv [],Zz .u64 0,Zz .i64 0,Zz .i64 0,Zz .i64 0,Zz .i64 0,Zz .i64 0,Zz .i64 0,Zp [],Zp [],Zz .u64 0,Zz .i64 0,Yw 1 [],Yw 1 [],Yw 51 evs,Zz .i64 (↑(Zx evs):Int),Zz .i64 0]) fun (r:Ex×List AV)=>cSl 51 (Yp r) fun b r_1=>cSl 4 r_1 fun b_1 r_2=>cInt .i64 r_2 fun n r_3=>cInt .i64 r_3 fun n_1 r_4=>cSl 4 r_4 fun b_2 r_5=>cInt .i64 r_5 fun n_2 r_6=>cSl 51 r_6 fun b_3 r_7=>cInt .i64 r_7 fun n_3 r_8=>cInt .i64 r_8 fun n_4 r_9=>cStr r_9 fun b_4 r_10=>cStr r_10 fun b_5 r_11=>cStr r_11 fun b_6 r_12=>cInt .i64 r_12 fun n_5 r_13=>cInt .i64 r_13 fun n_6 r_14=>cInt .i64 r_14 fun n_7 r_15=>cStr r_15 fun b_7 r_16=>cStr r_16 fun b_8 r_17=>cStr r_17 fun b_9 r_18=>cStr r_18 fun b_10 r_19=>cStr r_19 fun b_11 r_20=>cStr r_20 fun b_12 r_21=>cStr r_21 fun b_13 r_22=>cStr r_22 fun b_14 r_23=>cStr r_23 fun b_15 r_24=>cInt .u64 r_24 fun n_8 r_25=>cInt .u64 r_25 fun n_9 r_26=>cInt .u64 r_26 fun n_10 r_27=>cBs r_27 fun b_16 r_28=>cInt .i64 r_28 fun n_11 r_29=>cInt .i64 r_29 fun n_12 r_30=>cStr r_30 fun b_17 r_31=>cStr r_31 fun b_18 r_32=>cStr r_32 fun b_19 r_33=>cInt .u64 r_33 fun n_13 r_34=>cInt .i64 r_34 fun n_14 r_35=>cInt .i64 r_35 fun n_15 r_36=>cInt .i64 r_36 fun n_16 r_37=>cBs r_37 fun b_20 r_38=>cStr r_38 fun b_21 r_39=>cStr r_39 fun b_22 r_40=>cStr r_40 fun b_23 r_41=>cInt .i64 r_41 fun n_17 r_42=>cInt .i64 r_42 fun n_18 r_43=>cInt .i64 r_43 fun n_19 r_44=>cBs r_44 fun b_24 r_45=>cStr r_45 fun b_25 r_46=>cStr r_46 fun b_26 r_47=>cStr r_47 fun b_27 r_48=>cInt .u64 r_48 fun n_20 r_49=>cInt .i64 r_49 fun n_21 r_50=>cInt .i64 r_50 fun n_22 r_51=>cInt .i64 r_51 fun n_23 r_52=>cInt .i64 r_52 fun n_24 r_53=>cInt .i64 r_53 fun n_25 r_54=>cInt .i64 r_54 fun n_26 r_55=>cBs r_55 fun b_28 r_56=>cBs r_56 fun b_29 r_57=>cInt .u64 r_57 fun n_27 r_58=>cInt .i64 r_58 fun n_28 r_59=>cSl 1 r_59 fun b_30 r_60=>cSl 1 r_60 fun b_31 r_61=>cSl 51 r_61 fun b_32 r_62=>cInt .i64 r_62 fun n_29 r_63=>cInt .i64 r_63 fun n_30 r_64=>onNil r_64 (exK r.1 (some (Zn [Zz .i64 n,Zz .i64 n_1],[])) fun (j:Nat)=>sel (Nat.beq j 0) (some (Zn [Zz .i64 (↑(Zx b):Int),Zz .i64 0],[])) none):Option (AV×Blocks))) (by kernel_rfl) ?_
  delta kL
  try dsimp only [cStr,cBs,cBool,cU8,cInt,cSl,l63]
  rcases Kerb.oneEv_inv hpre with rfl | ⟨cs,rfl,hf,hk,hm⟩
  ·exact loop_unroll 1 _ rfl rfl
  unfold Kerb.evTags at hf
  obtain ⟨est,cs1,rfl,hf1⟩:=Zd hf
  obtain ⟨ekd,cs2,rfl,hf2⟩:=Zd hf1
  obtain ⟨ea1,cs3,rfl,hf3⟩:=Zf hf2
  obtain ⟨ea2,cs4,rfl,hf4⟩:=Zf hf3
  obtain ⟨ea3,cs5,rfl,hf5⟩:=Zf hf4
  obtain ⟨etm,cs6,rfl,hf6⟩:=Zd hf5
  obtain ⟨eml,cs7,rfl,hf7⟩:=Zd hf6
  obtain ⟨iki,cs8,rfl,hf8⟩:=Zd hf7
  obtain ⟨i1,cs9,rfl,hf9⟩:=Zf hf8
  obtain ⟨i2,cs10,rfl,hf10⟩:=Zf hf9
  obtain ⟨i3,cs11,rfl,hf11⟩:=Zf hf10
  obtain ⟨i4,cs12,rfl,hf12⟩:=Zf hf11
  obtain ⟨i5,cs13,rfl,hf13⟩:=Zf hf12
  obtain ⟨i6,cs14,rfl,hf14⟩:=Zf hf13
  obtain ⟨i7,cs15,rfl,hf15⟩:=Zf hf14
  obtain ⟨i8,cs16,rfl,hf16⟩:=Zf hf15
  obtain ⟨i9,cs17,rfl,hf17⟩:=Zf hf16
  obtain ⟨ise,cs18,rfl,hf18⟩:=Zd hf17
  obtain ⟨isl,cs19,rfl,hf19⟩:=Zd hf18
  obtain ⟨igr,cs20,rfl,hf20⟩:=Zd hf19
  obtain ⟨itx,cs21,rfl,hf21⟩:=Kerb.fit_bs hf20
  obtain ⟨iis,cs22,rfl,hf22⟩:=Zd hf21
  obtain ⟨ien,cs23,rfl,hf23⟩:=Zd hf22
  obtain ⟨c1,cs24,rfl,hf24⟩:=Zf hf23
  obtain ⟨c2,cs25,rfl,hf25⟩:=Zf hf24
  obtain ⟨c3,cs26,rfl,hf26⟩:=Zf hf25
  obtain ⟨cse,cs27,rfl,hf27⟩:=Zd hf26
  obtain ⟨clf,cs28,rfl,hf28⟩:=Zd hf27
  obtain ⟨ckv,cs29,rfl,hf29⟩:=Zd hf28
  obtain ⟨cis,cs30,rfl,hf30⟩:=Zd hf29
  obtain ⟨ctk,cs31,rfl,hf31⟩:=Kerb.fit_bs hf30
  obtain ⟨u1,cs32,rfl,hf32⟩:=Zf hf31
  obtain ⟨u2,cs33,rfl,hf33⟩:=Zf hf32
  obtain ⟨u3,cs34,rfl,hf34⟩:=Zf hf33
  obtain ⟨uck,cs35,rfl,hf35⟩:=Zd hf34
  obtain ⟨utc,cs36,rfl,hf36⟩:=Zd hf35
  obtain ⟨utm,cs37,rfl,hf37⟩:=Zd hf36
  obtain ⟨esl,cs38,rfl,hf38⟩:=Kerb.fit_bs hf37
  obtain ⟨v1,cs39,rfl,hf39⟩:=Zf hf38
  obtain ⟨v2,cs40,rfl,hf40⟩:=Zf hf39
  obtain ⟨v3,cs41,rfl,hf41⟩:=Zf hf40
  obtain ⟨vse,cs42,rfl,hf42⟩:=Zd hf41
  obtain ⟨vad,cs43,rfl,hf43⟩:=Zd hf42
  obtain ⟨vck,cs44,rfl,hf44⟩:=Zd hf43
  obtain ⟨vtm,cs45,rfl,hf45⟩:=Zd hf44
  obtain ⟨vtc,cs46,rfl,hf46⟩:=Zd hf45
  obtain ⟨vis,cs47,rfl,hf47⟩:=Zd hf46
  obtain ⟨vlf,cs48,rfl,hf48⟩:=Zd hf47
  obtain ⟨vtk,cs49,rfl,hf49⟩:=Kerb.fit_bs hf48
  obtain ⟨vau,cs50,rfl,hf50⟩:=Kerb.fit_bs hf49
  obtain ⟨eky,cs51,rfl,hf51⟩:=Zd hf50
  have:=Kerb.fit_nil hf51
  subst this
  have hk2:ekd=3:=Option.some.inj hk
  subst hk2
  have hm2:=hm eml rfl
  have hd:decide (eml<0∨(0:Int)≤eml)=true:=decide_eq_true (.inr hm2)
  obtain ⟨EV,hEV⟩:∃ EV,Xy (Zz .i64 est::Zz .i64 3::Zv ea1::Zv ea2::Zv ea3::Zz .i64 etm::Zz .i64 eml::Zz .i64 iki::Zv i1::Zv i2::Zv i3::Zv i4::Zv i5::Zv i6::Zv i7::Zv i8::Zv i9::Zz .u64 ise::Zz .u64 isl::Zz .u64 igr::Zp itx::Zz .i64 iis::Zz .i64 ien::Zv c1::Zv c2::Zv c3::Zz .u64 cse::Zz .i64 clf::Zz .i64 ckv::Zz .i64 cis::Zp ctk::Zv u1::Zv u2::Zv u3::Zz .i64 uck::Zz .i64 utc::Zz .i64 utm::Zp esl::Zv v1::Zv v2::Zv v3::Zz .u64 vse::Zz .i64 vad::Zz .i64 vck::Zz .i64 vtm::Zz .i64 vtc::Zz .i64 vis::Zz .i64 vlf::Zp vtk::Zp vau::Zz .u64 eky::[])=EV:=⟨_,rfl⟩
  rw [hEV]
  have l1:decide ((0:Int)<((Zx [EV]:Nat):Int))=true:=rfl
  have l2:(decide ((0:Int)≤0)&&decide ((0:Int)<((Zx [EV]:Nat):Int))&&true)=true:=rfl
  have l3:Zm [EV] (Zw 0) AV.undef=Xy (Zz .i64 est::Zz .i64 3::Zv ea1::Zv ea2::Zv ea3::Zz .i64 etm::Zz .i64 eml::Zz .i64 iki::Zv i1::Zv i2::Zv i3::Zv i4::Zv i5::Zv i6::Zv i7::Zv i8::Zv i9::Zz .u64 ise::Zz .u64 isl::Zz .u64 igr::Zp itx::Zz .i64 iis::Zz .i64 ien::Zv c1::Zv c2::Zv c3::Zz .u64 cse::Zz .i64 clf::Zz .i64 ckv::Zz .i64 cis::Zp ctk::Zv u1::Zv u2::Zv u3::Zz .i64 uck::Zz .i64 utc::Zz .i64 utm::Zp esl::Zv v1::Zv v2::Zv v3::Zz .u64 vse::Zz .i64 vad::Zz .i64 vck::Zz .i64 vtm::Zz .i64 vtc::Zz .i64 vis::Zz .i64 vlf::Zp vtk::Zp vau::Zz .u64 eky::[]):=hEV.symm
  have l4:(decide (((0:Nat):Int)≤0)&&decide ((0:Int)≤((Zx [EV]:Nat):Int)))=true:=rfl
  have l5:decide (Zx (Yj (Zw ((0:Nat):Int)) (Yq (Zw 0) [EV]))=0)=true:=rfl
  have l6:decide ((3:Int)=3)=true:=rfl
  have l7:(!(109:Int)==0)=true:=rfl
  have l8:decide ((0:Int)≤0)=true:=rfl
  have l9:decide (((Zx (Yj (Zw ((0:Nat):Int)) (Yq (Zw 0) [EV])):Nat):Int)>0)=false:=rfl
  have n1:((3:Int)==1)=false:=rfl
  have n2:((3:Int)==2)=false:=rfl
  have n3:((3:Int)==3)=true:=rfl
  have n4:decide (eml<0)=false:=by simp;omega
  have n5:decide (eml≥0)=true:=by simp;omega
  refine loop_unroll 1 ?r ?h ?k
  case h =>
   simp (config:={maxSteps:=10000000}) only [loopN,l1,l2,l3,l4,l5,l6,l7,l8,l9,n1,n2,n3,n4,n5,Bool.and_self,Bool.true_and,Bool.and_true,↓sTrue,↓sFalse,↓sInt,↓sU8,↓sBool,↓sStr,↓sBs,↓sSl,↓sAgg,↓sTup,↓sCons,↓sNil,↓sNilB,↓sChk,↓sChkBind,↓sSome,↓sOwnL,↓sConsB,↓sOwnB]
   rfl
  case k=>rfl
 ·cases h
theorem p4  : runFn (G.env 4 18) G.rts (G.own 4) Tryz.f4 [] []=some (.bool true,[]):=by kernel_rfl
theorem w4:Walked Tryz.prog G 4 18 sp4:=by
 refine ⟨Tryz.f4,Tryz.func4,by decide +kernel,rfl,fun xs bl r h=> ?_⟩
 unfold sp4 at h
 split at h
 ·cases h;exact p4
 ·cases h
theorem w3:Walked Tryz.prog G 3 19 sp3:=by
 refine ⟨Tryz.f3,Tryz.func3,by decide +kernel,rfl,fun xs bl r h=> ?_⟩
 unfold sp3 at h
 split at h
 ·rename_i a b l m j k kd how
  obtain ⟨hpre,h2⟩:=chk_inv h;cases h2
  refine Eq.trans (b:=(let t0:Option (AV×Blocks):=chk (decide (0≤Zy .i64 (↑(Zb k):Int))&&decide (Zy .i64 (↑(Zb k):Int)≤1000)) (some (Zz .u64 (Kerb.long (Zy .i64 (↑(Zb k):Int))),[]));let t1:Int:=Zy .i64 (1+Zy .i64 (Int.tdiv (Yk (Zy .i64 (↑(Zb kd):Int)) 3) 2));let t2:Int:=Zy .i64 (1+Zy .i64 (Int.tdiv (Yk (Zy .i64 (↑(Zb kd):Int)) 5) 4));sel (decide ((↑(Zx a):Int)>400)) (some (Zj true,[])) (sel (decide ((↑(Zx b):Int)>400)) (some (Zj true,[])) (Zk (chk (decide (0≤Zy .i64 (↑(Zb j):Int))&&decide (Zy .i64 (↑(Zb j):Int)≤1000)) (some (Zz .u64 (Kerb.long (Zy .i64 (↑(Zb j):Int))),[]))) (kI .u64 fun n=>Zk (chk (decide (0≤n)&&decide (n<18446744073709551616)) (some (Zn [Zp (Kerb.Enc.val (Yx t1 n l)),Zz .i64 (Kerb.Enc.err (Yx t1 n l))],[]))) (kT fun vs=>cBs vs fun b_1 r=>cInt .i64 r fun n r=>onNil r (Zk t0 (kI .u64 fun n=>Zk (chk (decide (0≤n)&&decide (n<18446744073709551616)) (some (Zn [Zp (Kerb.Enc.val (Yx t2 n m)),Zz .i64 (Kerb.Enc.err (Yx t2 n m))],[]))) (kT fun vs=>cBs vs fun b_2 r=>cInt .i64 r fun n r=>onNil r (Zk t0 (kI .u64 fun n=>Zk (chk (decide (0≤n)&&decide (n<18446744073709551616)) (some (Zn [Zp (Kerb.Enc.val (Yx 1 n l)),Zz .i64 (Kerb.Enc.err (Yx 1 n l))],[]))) (kT fun vs=>cBs vs fun b_3 r=>cInt .i64 r fun n r=>onNil r (Zk (chk (decide (Zx b_1≤1000000)&&decide (0≤how)&&decide (how≤65535)) (some (Zp (Kerb.spoil b_1 how),[]))) (kB fun b_4=>Zk (loopM (fun (st:List AV)=>cBool st fun b r=>cSl 1 r fun b_5 r=>cInt .i64 r fun n r=>onNil r (sel (decide (n<(↑(Zx b_5):Int))) (Zk (loopM (fun (st:List AV)=>cBool st fun b r=>cSl 1 r fun b_6 r=>cInt .i64 r fun n r=>cInt .i64 r fun n_1 r=>onNil r (sel (decide (n_1<(↑(Zx b_6):Int))) (chk (decide (0≤n)&&decide (n<(↑(Zx b_6):Int))&&true) (AV.onBs (Zm b_6 (Zw n) AV.undef) fun b_7=>chk (decide (0≤n_1)&&decide (n_1<(↑(Zx b_6):Int))&&true) (AV.onBs (Zm b_6 (Zw n_1) AV.undef) fun b_8=>Zk (chk (decide (Zx b_7≤140737488355328)&&decide (Zx b_8≤140737488355328)) (some (Zj (Kerb.sameTkt b_7 b_8),[]))) (kL fun b_9=>chk (decide (0≤n)&&decide (n<(↑(Zx b_6):Int))&&true) (AV.onBs (Zm b_6 (Zw n) AV.undef) fun b_10=>chk (decide (0≤n_1)&&decide (n_1<(↑(Zx b_6):Int))&&true) (AV.onBs (Zm b_6 (Zw n_1) AV.undef) fun b_11=>Zk (chk (decide (Zx b_10≤140737488355328)&&decide (Zx b_11≤140737488355328)) (some (Zj (Kerb.sameTkt b_10 b_11),[]))) (kL fun b_12=>sel (!b_9==b_12) (some (Xj (Ex.ret,[Zj false,Yw 1 b_6,Zz .i64 n,Zz .i64 n_1]))) (some (Sum.inl [Zj b,Yw 1 b_6,Zz .i64 n,Zz .i64 (Zy .i64 (n_1+1))]))))))))) (some (Xj (Xg 2,[Zj b,Yw 1 b_6,Zz .i64 n,Zz .i64 n_1]))))) [Zj b,Yw 1 b_5,Zz .i64 n,Zz .i64 0]) fun (r:Ex×List AV)=>cBool (Yp r) fun b r_1=>cSl 1 r_1 fun b_6 r_2=>cInt .i64 r_2 fun n r_3=>cInt .i64 r_3 fun n_1 r_4=>onNil r_4 (exK r.1 (some (Xj (Ex.ret,[Zj b,Yw 1 b_6,Zz .i64 n]))) fun (j:Nat)=>sel (Nat.beq j 2) (some (Sum.inl [Zj b,Yw 1 b_6,Zz .i64 (Zy .i64 (n+1))])) none)) (some (Xj (Xg 0,[Zj b,Yw 1 b_5,Zz .i64 n]))))) [Zj false,Yw 1 [Zp a,Zp b,Zp b_1,Zp b_2,Zp b_3,Zp b_4],Zz .i64 0]) fun (r:Ex×List AV)=>cBool (Yp r) fun b r_1=>cSl 1 r_1 fun b_5 r_2=>cInt .i64 r_2 fun n r_3=>onNil r_3 (exK r.1 (some (Zj b,[])) fun (j:Nat)=>sel (Nat.beq j 0) (some (Zj true,[])) none))))))))))))):Option (AV×Blocks))) (by kernel_rfl) ?_
  delta kT kB kL kI
  try dsimp only [cStr,cBs,cBool,cU8,cInt,cSl,l63]
  simp only [Yu,decide_eq_true_eq] at hpre
  by_cases q2:((a.length:Nat):Int)>400
  ·rw [sel_pos (by simpa using q2)]
  rw [sel_neg (by simpa using q2)]
  by_cases q3:((b.length:Nat):Int)>400
  ·rw [sel_pos (by simpa using q3)]
  rw [sel_neg (by simpa using q3)]
  obtain ⟨h0,h1⟩:=hpre
  have bj:=Kerb.u8i_bd j
  have bk:=Kerb.u8i_bd k
  have z1:(decide ((0:Int)≤Xf j)&&decide (Xf j≤1000))=true:=by simp;omega
  have z2:(decide ((0:Int)≤Xf k)&&decide (Xf k≤1000))=true:=by simp;omega
  have z3:∀ n,(decide ((0:Int)≤Kerb.long n)&&decide (Kerb.long n<18446744073709551616))=true:=fun n=>by have:=Kerb.long_bd n;simp;omega
  have ml:∀ kk n B,(Yx kk n B).val.length≤1012:=by
   intro kk n B
   unfold Yx
   split
   ·simp
   split
   ·simp
   split
   ·simp
   ·rename_i h
    have hk:=Kerb.keyBytes_len n
    have hp:=Kerb.putN_len B.length 2 false
    simp only [List.length_append,List.length_cons,List.length_nil,hk,hp]
    omega
  obtain ⟨X,hX⟩:∃ X,(Yx (Zy .i64 (1+Zy .i64 (Int.tdiv (Yk (Xf kd) 3) 2))) (Kerb.long (Xf j)) l).val=X:=⟨_,rfl⟩
  obtain ⟨Y,hY⟩:∃ Y,(Yx (Zy .i64 (1+Zy .i64 (Int.tdiv (Yk (Xf kd) 5) 4))) (Kerb.long (Xf k)) m).val=Y:=⟨_,rfl⟩
  obtain ⟨W,hW⟩:∃ W,(Yx 1 (Kerb.long (Xf k)) l).val=W:=⟨_,rfl⟩
  have lX:X.length≤1012:=hX ▸ ml _ _ _
  have lY:Y.length≤1012:=hY ▸ ml _ _ _
  have lW:W.length≤1012:=hW ▸ ml _ _ _
  have lX2:X.length≤1000000:=by omega
  have hsl:=Kerb.spoil_len X how
  obtain ⟨Q,hQ⟩:∃ Q,Kerb.spoil X how=Q:=⟨_,rfl⟩
  rw [hQ] at hsl
  simp (config:={maxSteps:=10000000}) only [Kerb.wrap_u8i,z1,z2,z3,hX,hY,hW,hQ,lX2,h0,h1,decide_true,Bool.and_self,↓sInt,↓sU8,↓sBool,↓sStr,↓sBs,↓sSl,↓sAgg,↓sTup,↓sCons,↓sNil,↓sNilB,↓sChk,↓sChkBind,↓sSome,↓sOwnL,↓sConsB,↓sOwnB]
  obtain ⟨L,hL,hlen⟩:∃ L:List Kerb.Bytes,[Zp a,Zp b,Zp X,Zp Y,Zp W,Zp Q]=L.map Zp∧∀ x∈L,x.length≤140737488355328:=by
   refine ⟨[a,b,X,Y,W,Q],rfl,fun x hx=> ?_⟩
   simp only [List.mem_cons,List.not_mem_nil,or_false] at hx
   rcases hx with rfl | rfl | rfl | rfl | rfl | rfl<;>omega
  have hll:L.length=6:=by have:=congrArg Zx hL;simpa using this.symm
  rw [hL]
  clear hL
  have get:∀ i,i<L.length→∃ x:Kerb.Bytes,(L.map Zp).getD i AV.undef=Zp x∧x.length≤140737488355328:=fun i hi=>⟨L.getD i [],Kerb.getD_row (d:=[]) hi,hlen _ (Kerb.mem_row (d:=[]) hi)⟩
  have inn:∀ i:Nat,i<L.length→(decide ((0:Int)≤(i:Int))&&decide ((i:Int)<(L.length:Int))&&true)=true:=fun i hi=>by simp;omega
  refine loop_rounds (fun i:Nat=>[Zj false,Yw 1 (L.map Zp),Zz Yy (i:Int)]) (fun i=>i≤L.length) (fun i=>L.length-i) (fun r=>r=(Xg 0,[Zj false,Yw 1 (L.map Zp),Zz Yy (L.length:Int)])) 0 (Nat.zero_le _) rfl ?_ ?_
  ·intro i hi
   simp (config:={maxSteps:=10000000}) only [List.length_map,↓sInt,↓sU8,↓sBool,↓sStr,↓sBs,↓sSl,↓sAgg,↓sTup,↓sCons,↓sNil,↓sNilB,↓sChk,↓sChkBind,↓sSome,↓sOwnL,↓sConsB,↓sOwnB]
   rcases Nat.lt_or_ge i L.length with g1 | g1
   case inr =>
    have:i=L.length:=by omega
    subst this
    rw [sel_neg (by simp)]
    exact ⟨_,rfl,rfl⟩
   rw [sel_pos (by simp;omega)]
   obtain ⟨x,hx,hxl⟩:=get i g1
   refine loop_ex (fun n:Nat=>[Zj false,Yw 1 (L.map Zp),Zz Yy (i:Int),Zz Yy (n:Int)]) (fun n=>n≤L.length) (fun n=>L.length-n) (fun r=>r=(Xg 2,[Zj false,Yw 1 (L.map Zp),Zz Yy (i:Int),Zz Yy (L.length:Int)])) 0 (Nat.zero_le _) rfl ?_ ?_
   ·intro n hn
    simp (config:={maxSteps:=10000000}) only [List.length_map,↓sInt,↓sU8,↓sBool,↓sStr,↓sBs,↓sSl,↓sAgg,↓sTup,↓sCons,↓sNil,↓sNilB,↓sChk,↓sChkBind,↓sSome,↓sOwnL,↓sConsB,↓sOwnB]
    rcases Nat.lt_or_ge n L.length with g2 | g2
    case inr =>
     have:n=L.length:=by omega
     subst this
     rw [sel_neg (by simp)]
     exact ⟨_,rfl,rfl⟩
    rw [sel_pos (by simp;omega)]
    obtain ⟨y,hy,hyl⟩:=get n g2
    have i1:=inn i g1
    have i2:=inn n g2
    simp (config:={maxSteps:=10000000}) only [i1,i2,hx,hy,hxl,hyl,Int.toNat_natCast,BEq.rfl,Xq,decide_true,Bool.and_self,↓sFalse,↓sInt,↓sU8,↓sBool,↓sStr,↓sBs,↓sSl,↓sAgg,↓sTup,↓sCons,↓sNil,↓sNilB,↓sChk,↓sChkBind,↓sSome,↓sOwnL,↓sConsB,↓sOwnB]
    rw [wrap_i64 (by omega) (by omega)]
    exact ⟨_,rfl,n+1,rfl,by omega,by dsimp only;omega⟩
   ·rintro _ rfl
    simp (config:={maxSteps:=10000000}) only [↓sInt,↓sU8,↓sBool,↓sStr,↓sBs,↓sSl,↓sAgg,↓sTup,↓sCons,↓sNil,↓sNilB,↓sChk,↓sChkBind,↓sSome,↓sOwnL,↓sConsB,↓sOwnB]
    rw [wrap_i64 (by omega) (by omega)]
    exact ⟨_,rfl,i+1,rfl,by omega,by dsimp only;omega⟩
  ·rintro _ rfl
   simp (config:={maxSteps:=10000000}) only [↓sInt,↓sU8,↓sBool,↓sStr,↓sBs,↓sSl,↓sAgg,↓sTup,↓sCons,↓sNil,↓sNilB,↓sChk,↓sChkBind,↓sSome,↓sOwnL,↓sConsB,↓sOwnB]
   rfl
 ·cases h
end Go.Proofs.YtnhnkpiiacggoaaGreat
