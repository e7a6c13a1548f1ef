/- What the functions of this seat compute. -/
import Derived.Test.YtiplnpablmohiaaGreatTab
import Derived.Test.YtiplnpablmohiaaGreatKerbPlain
import Derived.Test.YtiplnpablmohiaaGreatAbsStep
import Derived.Test.YtiplnpablmohiaaGreatKerbCli7
import Derived.Test.YtiplnpablmohiaaGreatKerbCli3
import Derived.Test.YtiplnpablmohiaaGreatKerbCli4
import Derived.Test.YtiplnpablmohiaaGreatKerbKac4
import Derived.Test.YtiplnpablmohiaaGreatKerbVerL
open List renaming length→Zz,drop_eq_nil_of_le→Yq,getD→Yk,append→Xj,length_map→Xk,take_of_length_le→Xp,replicate→Xb,take→Wy,range_succ→Wx,drop→Wk
open Go.Abs.AV renaming int→Zy,bool→Zu,str→Zj,bs→Zb,ownB→Zn,tup→Yz,sl→Yw,onOwnB→Xu,onBool→Xq,onInt→Xd,undef→Wz,onStr→Wu,agg→Wd,onAgg→Vd
open Go.IntKind renaming wrap→Zx,i64→Zw,bits→Zk,u64→Ym
open Int renaming toNat→Zv,tmod→Zg,toNat_natCast→Yj,tmod_eq_emod_of_nonneg→Yn,fdiv→Wf,tdiv→Vz,tdiv_eq_ediv_of_nonneg→Vm
open Option renaming bind→Zq
open Kerb renaming within→Zp,room_ok→Zh,indexOf→Yy,bfd→Yp,printable→Yd,keyValid→Yf,putN→Yg,putN_len→Yh,putText→Xy,isKind→Xx,putText_len→Xg,get→Ww,readHead→Wv,getD_row→Wp,noSKey→Wg,header→Wb,byteAt→Wn,bfd_eq→Wm,sameSKeys→Wh,skAt→Vw,room→Vv,isSerial→Vu,okB→Vj,isClass→Vf,validName→Vg,bytes→Vb,noMark→Vh
open Prod renaming snd→Zd,fst→Zm
open Bool renaming and_eq_true→Zf,not_true→Xz,and_self→Vq,true_and→Uw
open UInt8 renaming toNat→Yx,ofNat→Yv
open Nat renaming beq_refl→Yu,zero_le→Xf,beq→Xh,blt→Uz
open Go.Abs.Ex renaming exit→Yb
open Kerb.SKey renaming av→Xw
open Sum renaming inr→Xv,inl→Xm
open Kerb.Mark renaming av→Xn
open Kerb.Case renaming mk→Wq,me→Wj
open Kerb.Prin renaming valid→Vy,realm→Vx,name→Vk,inst→Vp
open Kerb.Got renaming next→Vn,val→Uy,err→Ux
namespace Go.Proofs.YtiplnpablmohiaaGreat
open Go Go.Abs Go.Proofs
set_option linter.unusedVariables false
set_option linter.unusedSimpArgs false
set_option maxRecDepth 100000
theorem w12:Walked Tryz.prog G 12 1 sp12:=by
 refine ⟨Tryz.f12,Tryz.func12,by decide +kernel,rfl,fun xs bl r h=> ?_⟩
 unfold sp12 at h
 split at h
 ·rename_i n
  obtain ⟨hpre,h2⟩:=chk_inv h;cases h2
  refine Eq.trans (b:=(some (Zy .u64 (Zx .u64 (↑(BitVec.toNat (BitVec.ofInt (Zk .u64) 72057594037927936 ||| BitVec.ofInt (Zk .u64) (Zx .u64 (Zx .i64 (1+n))))):Int)),[]):Option (AV×Blocks))) (by kernel_rfl) ?_
  rfl
 ·cases h
theorem w13:Walked Tryz.prog G 13 1 sp13:=by
 refine ⟨Tryz.f13,Tryz.func13,by decide +kernel,rfl,fun xs bl r h=> ?_⟩
 unfold sp13 at h
 split at h
 ·rename_i b how
  obtain ⟨hpre,h2⟩:=chk_inv h;cases h2
  refine Eq.trans (b:=(let t0:Int:=Zg (Zx .i64 (Zx .u16 (Vz how 8))) (↑(Zz b):Int);chk (room (Zz b) 1) (sel ((↑(Zz b):Int)==0) (some (Zb b,[])) (chk (!(↑(Zz b):Int)==0) (sel (Zg how 4==0) (chk (decide (0≤t0)&&decide (t0<(↑(Zz b):Int))) (chk (Uz (Zv t0) (Zz b)&&true&&true&&true) (chk (decide (0≤Zx .u64 (Zg how 7))) (chk (decide (0≤t0)&&decide (t0<(↑(Zz b):Int))) (chk (Uz (Zv t0) (Zz b)&&true&&true&&true&&true) (some (Zb (List.set b (Zv t0) (Yv (Zv (Zx .u8 (↑(BitVec.toNat (BitVec.ofInt (Zk .u8) (↑(Yx (Yk b (Zv t0) (0:UInt8))):Int) ^^^ BitVec.ofInt (Zk .u8) (↑(Yx (Yv (Zv (Zx .u8 ((↑(Yx (1:UInt8)):Int)*2 ^ min (Zv (Zx .u64 (Zg how 7))) 8))))):Int))):Int))))),[]))))))) (sel (Zg how 4==1) (chk (decide (0≤t0)&&decide (t0≤(↑(Zz b):Int))&&Uz 0 (Zz b)&&true) (chk (decide (0≤Zx .i64 (t0+1))&&decide (Zx .i64 (t0+1)≤(↑(Zz b):Int))&&Uz 0 (Zz b)&&true) (chk (Uz 0 (Zz b)&&true&&true&&true&&room (Zv t0+(Zz b-Zv (Zx .i64 (t0+1)))) 1) (some (Zb (Wy (Zv t0) b++Wk (Zv (Zx .i64 (t0+1))) b),[]))))) (sel (Zg how 4==2) (chk (room (Zz b+Zz [Yv (Zv (Zx .u8 how))]) 1) (some (Zb (b++[Yv (Zv (Zx .u8 how))]),[]))) (some (Zb b,[]))))))):Option (AV×Blocks))) (by kernel_rfl) ?_
  try dsimp only [cStr,cBs,cBool,cU8,cInt,cSl,l63]
  simp only [Zf,decide_eq_true_eq] at hpre
  obtain ⟨⟨hb,h0⟩,h1⟩:=hpre
  rw [chk_of (Zh (by omega))]
  unfold Kerb.spoil
  by_cases hn:b=[]
  ·subst hn;rfl
  have hpos:0<b.length:=List.length_pos_iff.2 hn
  rw [if_neg hn,sel_neg (by simp;omega),chk_of (by simp;omega)]
  have e:Zg (Zx Zw (Zx IntKind.u16 (Vz how (8:Int)))) (b.length:Int)=Kerb.spoilAt b how:=rfl
  rw [e]
  obtain ⟨ha,hc⟩:=Kerb.spoilAt_bd h0 h1 hpos
  generalize Kerb.spoilAt b how=a at ha hc ⊢
  have hd:(decide ((0:Int)≤a)&&decide (a<(b.length:Int)))=true:=by simp;omega
  have hbl:Uz a.toNat b.length=true:=Nat.ble_eq_true_of_le (by omega)
  have hbl0:Uz 0 b.length=true:=Nat.ble_eq_true_of_le (by omega)
  have h7:decide ((0:Int)≤Zx Ym (Zg how (7:Int)))=true:=by rw [Kerb.wrap_u64];simp;omega
  by_cases c0:Zg how 4=0
  ·rw [if_pos c0,sel_pos (by simpa using c0),chk_of hd,chk_of (by rw [hbl];rfl),chk_of h7,chk_of hd,chk_of (by rw [hbl];rfl)]
  rw [if_neg c0,sel_neg (by simpa using c0)]
  by_cases c1:Zg how 4=1
  ·rw [if_pos c1,sel_pos (by simpa using c1),wrap_i64 (n:=a+1) (by omega) (by omega),chk_of (by rw [hbl0];simp;omega),chk_of (by rw [hbl0];simp;omega),chk_of (by rw [hbl0,Zh (by omega)];rfl)]
  rw [if_neg c1,sel_neg (by simpa using c1)]
  by_cases c2:Zg how 4=2
  ·rw [if_pos c2,sel_pos (by simpa using c2),chk_of (Zh (by simp;omega))]
  ·rw [if_neg c2,sel_neg (by simpa using c2)]
 ·cases h
theorem w22:Walked Tryz.prog G 22 1 sp22:=by
 refine ⟨Tryz.f22,Tryz.func22,by decide +kernel,rfl,fun xs bl r h=> ?_⟩
 unfold sp22 at h
 split at h
 ·rename_i n
  obtain ⟨hpre,h2⟩:=chk_inv h;cases h2
  refine Eq.trans (b:=(some (Zy .u64 (Zx .u64 (↑(BitVec.toNat (BitVec.ofInt (Zk .u64) 144115188075855872 ||| BitVec.ofInt (Zk .u64) (Zx .u64 (Zx .i64 (1+n))))):Int)),[]):Option (AV×Blocks))) (by kernel_rfl) ?_
  rfl
 ·cases h
theorem w41:Walked Tryz.prog G 41 1 sp41:=by
 refine ⟨Tryz.f41,Tryz.func41,by decide +kernel,rfl,fun xs bl r h=> ?_⟩
 unfold sp41 at h
 split at h
 ·rename_i kls jls
  obtain ⟨hpre,h2⟩:=chk_inv h;cases h2
  refine Eq.trans (b:=(sel (!(↑(Zz kls):Int)==(↑(Zz jls):Int)) (some (Zu false,[])) (Zq (loopM (fun (st:List AV)=>cSl 5 st fun b r=>cSl 5 r fun b_1 r=>cBool r fun b_2 r=>cInt .i64 r fun n r=>onNil r (sel (decide (n<(↑(Zz b):Int))) (chk (decide (0≤n)&&decide (n<(↑(Zz b):Int))&&true) (Vd (Yk b (Zv n) Wz) fun cs=>cStr cs fun b_3 r=>cStr r fun b_4 r=>cStr r fun b_5 r=>cInt .i64 r fun n_1 r=>cInt .u64 r fun n_2 r=>onNil r (chk (decide (0≤n)&&decide (n<(↑(Zz b_1):Int))&&true) (Vd (Yk b_1 (Zv n) Wz) fun cs=>cStr cs fun b_6 r=>cStr r fun b_7 r=>cStr r fun b_8 r=>cInt .i64 r fun n_3 r=>cInt .u64 r fun n_4 r=>onNil r (sel (!(b_3==b_6&&(b_4==b_7&&(b_5==b_8&&(n_1==n_3&&n_2==n_4))))) (some (Xv (Ex.ret,[Yw 5 b,Yw 5 b_1,Zu false,Zy .i64 n]))) (some (Xm [Yw 5 b,Yw 5 b_1,Zu b_2,Zy .i64 (Zx .i64 (n+1))]))))))) (some (Xv (Yb 0,[Yw 5 b,Yw 5 b_1,Zu b_2,Zy .i64 n]))))) [Yw 5 kls,Yw 5 jls,Zu false,Zy .i64 0]) fun (r:Ex×List AV)=>cSl 5 (Zd r) fun b r_1=>cSl 5 r_1 fun b r_2=>cBool r_2 fun b r_3=>cInt .i64 r_3 fun n r_4=>onNil r_4 (exK r.1 (some (Zu b,[])) fun (j:Nat)=>sel (Xh j 0) (some (Zu true,[])) none)):Option (AV×Blocks))) (by kernel_rfl) ?_
  try dsimp only [cStr,cBs,cBool,cU8,cInt,cSl,l63]
  simp only [Zf,decide_eq_true_eq] at hpre
  obtain ⟨⟨h1a,hlen⟩,h1b⟩:=hpre
  obtain ⟨cs,rfl,hok⟩:=Kerb.skeys_of h1a
  obtain ⟨ds,rfl,hokd⟩:=Kerb.skeys_of h1b
  simp only [Kerb.map_toSKey,Xk] at hlen ⊢
  by_cases hl:cs.length=ds.length
  case neg =>
   rw [sel_pos (by simp;omega),Kerb.sameSKeys_len hl]
   try rfl
  rw [sel_neg (by simp;omega)]
  refine loop_rounds (fun i:Nat=>[Yw 5 (cs.map Xw),Yw 5 (ds.map Xw),Zu false,Zy Zw (i:Int)]) (fun i=>i≤cs.length∧Wh cs ds=Wh (cs.drop i) (ds.drop i)) (fun i=>cs.length-i)
   (fun r=>∃ (i:Nat) (q:Bool),r.2=[Yw 5 (cs.map Xw),Yw 5 (ds.map Xw),Zu q,Zy Zw (i:Int)]∧((r.1 = .ret∧q=false∧Wh cs ds=false)∨(r.1 = .exit 0∧Wh cs ds=true))) 0 ⟨Xf _,by simp⟩ rfl ?_ ?_
  ·rintro i ⟨hi,hp⟩
   simp only [↓A0,A0,Xk]
   by_cases hlt:i<cs.length
   ·have hlt2:i<ds.length:=by omega
    have hs:=Kerb.sameSKeys_step hlt hlt2
    have hg:(cs.map Xw).getD i Wz=(cs.getD i Wg).av:=Wp hlt
    have hg2:(ds.map Xw).getD i Wz=(ds.getD i Wg).av:=Wp hlt2
    have hk1:(decide ((0:Int)≤(i:Int))&&decide ((i:Int)<(cs.length:Int))&&true)=true:=by simp;omega
    have hk2:(decide ((0:Int)≤(i:Int))&&decide ((i:Int)<(ds.length:Int))&&true)=true:=by simp;omega
    obtain ⟨c,hc⟩:∃ c,cs.getD i Wg=c:=⟨_,rfl⟩
    obtain ⟨d,hd⟩:∃ d,ds.getD i Wg=d:=⟨_,rfl⟩
    rw [hc] at hg hs
    rw [hd] at hg2 hs
    rw [sel_pos (by simp;omega)]
    simp only [hk1,hk2,Yj,hg,hg2,Xw,↓A0,A0]
    rw [wrap_i64 (by omega) (by omega)]
    show ∃ y,sel (!(c.eqb d)) _ _=some y∧_
    cases he:c.eqb d
    ·rw [he,Bool.false_and] at hs
     exact ⟨_,rfl,i,_,rfl,.inl ⟨rfl,rfl,hp.trans hs⟩⟩
    ·rw [he,Uw] at hs
     exact ⟨_,rfl,i+1,rfl,⟨by omega,hp.trans hs⟩,by dsimp only;omega⟩
   ·rw [sel_neg (by simp;omega)]
    refine ⟨_,rfl,i,_,rfl,.inr ⟨rfl,?_⟩⟩
    rw [hp,Yq (by omega),Yq (by omega)]
    rfl
  ·rintro ⟨e,l⟩ ⟨i,q,rfl,⟨rfl,rfl,h⟩ | ⟨rfl,h⟩⟩
   ·simp only [↓A0,A0,h]
    try rfl
   ·simp only [↓A0,A0,h]
    rw [sel_pos (Yu _)]
    try rfl
 ·cases h
theorem w42:Walked Tryz.prog G 42 1 sp42:=by
 refine ⟨Tryz.f42,Tryz.func42,by decide +kernel,rfl,fun xs bl r h=> ?_⟩
 unfold sp42 at h
 split at h
 ·rename_i sz fl mls sy fm nls
  obtain ⟨hpre,h2⟩:=chk_inv h;cases h2
  refine Eq.trans (b:=(sel (!sz==sy) (some (Zu false,[])) (sel (!fl==fm) (some (Zu false,[])) (sel (!(↑(Zz mls):Int)==(↑(Zz nls):Int)) (some (Zu false,[])) (Zq (loopM (fun (st:List AV)=>cInt .i64 st fun n r=>cInt .i64 r fun n_1 r=>cSl 5 r fun b r=>cInt .i64 r fun n_2 r=>cInt .i64 r fun n_3 r=>cSl 5 r fun b_1 r=>cBool r fun b_2 r=>cInt .i64 r fun n_4 r=>onNil r (sel (decide (n_4<(↑(Zz b):Int))) (chk (decide (0≤n_4)&&decide (n_4<(↑(Zz b):Int))&&true) (Vd (Yk b (Zv n_4) Wz) fun cs=>cStr cs fun b_3 r=>cStr r fun b_4 r=>cStr r fun b_5 r=>cInt .i64 r fun n_5 r=>cInt .i64 r fun n_6 r=>onNil r (chk (decide (0≤n_4)&&decide (n_4<(↑(Zz b_1):Int))&&true) (Vd (Yk b_1 (Zv n_4) Wz) fun cs=>cStr cs fun b_6 r=>cStr r fun b_7 r=>cStr r fun b_8 r=>cInt .i64 r fun n_7 r=>cInt .i64 r fun n_8 r=>onNil r (sel (!(b_3==b_6&&(b_4==b_7&&(b_5==b_8&&(n_5==n_7&&n_6==n_8))))) (some (Xv (Ex.ret,[Zy .i64 n,Zy .i64 n_1,Yw 5 b,Zy .i64 n_2,Zy .i64 n_3,Yw 5 b_1,Zu false,Zy .i64 n_4]))) (some (Xm [Zy .i64 n,Zy .i64 n_1,Yw 5 b,Zy .i64 n_2,Zy .i64 n_3,Yw 5 b_1,Zu b_2,Zy .i64 (Zx .i64 (n_4+1))]))))))) (some (Xv (Yb 0,[Zy .i64 n,Zy .i64 n_1,Yw 5 b,Zy .i64 n_2,Zy .i64 n_3,Yw 5 b_1,Zu b_2,Zy .i64 n_4]))))) [Zy .i64 sz,Zy .i64 fl,Yw 5 mls,Zy .i64 sy,Zy .i64 fm,Yw 5 nls,Zu false,Zy .i64 0]) fun (r:Ex×List AV)=>cInt .i64 (Zd r) fun n r_1=>cInt .i64 r_1 fun n r_2=>cSl 5 r_2 fun b r_3=>cInt .i64 r_3 fun n r_4=>cInt .i64 r_4 fun n r_5=>cSl 5 r_5 fun b r_6=>cBool r_6 fun b r_7=>cInt .i64 r_7 fun n r_8=>onNil r_8 (exK r.1 (some (Zu b,[])) fun (j:Nat)=>sel (Xh j 0) (some (Zu true,[])) none)))):Option (AV×Blocks))) (by kernel_rfl) ?_
  try dsimp only [cStr,cBs,cBool,cU8,cInt,cSl,l63]
  simp only [Zf,decide_eq_true_eq] at hpre
  obtain ⟨⟨h1a,hlen⟩,h1b⟩:=hpre
  obtain ⟨cs,rfl,hok⟩:=Kerb.marks_of h1a
  obtain ⟨ds,rfl,hokd⟩:=Kerb.marks_of h1b
  simp only [Kerb.map_toMark,Xk] at hlen ⊢
  unfold Kerb.RCache.same
  dsimp only
  cases g1:(sz==sy)
  ·rfl
  cases g2:(fl==fm)
  ·rfl
  rw [Xz,sel_false,sel_false,Uw,Uw]
  by_cases hl:cs.length=ds.length
  case neg =>
   rw [sel_pos (by simp;omega),Kerb.sameMarks_len hl]
   try rfl
  rw [sel_neg (by simp;omega)]
  refine loop_rounds (fun i:Nat=>[Zy Zw sz,Zy Zw fl,Yw 5 (cs.map Xn),Zy Zw sy,Zy Zw fm,Yw 5 (ds.map Xn),Zu false,Zy Zw (i:Int)]) (fun i=>i≤cs.length∧Kerb.sameMarks cs ds=Kerb.sameMarks (cs.drop i) (ds.drop i)) (fun i=>cs.length-i)
   (fun r=>∃ (i:Nat) (q:Bool),r.2=[Zy Zw sz,Zy Zw fl,Yw 5 (cs.map Xn),Zy Zw sy,Zy Zw fm,Yw 5 (ds.map Xn),Zu q,Zy Zw (i:Int)]∧((r.1 = .ret∧q=false∧Kerb.sameMarks cs ds=false)∨(r.1 = .exit 0∧Kerb.sameMarks cs ds=true))) 0 ⟨Xf _,by simp⟩ rfl ?_ ?_
  ·rintro i ⟨hi,hp⟩
   simp only [↓A0,A0,Xk]
   by_cases hlt:i<cs.length
   ·have hlt2:i<ds.length:=by omega
    have hs:=Kerb.sameMarks_step hlt hlt2
    have hg:(cs.map Xn).getD i Wz=(cs.getD i Vh).av:=Wp hlt
    have hg2:(ds.map Xn).getD i Wz=(ds.getD i Vh).av:=Wp hlt2
    have hk1:(decide ((0:Int)≤(i:Int))&&decide ((i:Int)<(cs.length:Int))&&true)=true:=by simp;omega
    have hk2:(decide ((0:Int)≤(i:Int))&&decide ((i:Int)<(ds.length:Int))&&true)=true:=by simp;omega
    obtain ⟨c,hc⟩:∃ c,cs.getD i Vh=c:=⟨_,rfl⟩
    obtain ⟨d,hd⟩:∃ d,ds.getD i Vh=d:=⟨_,rfl⟩
    rw [hc] at hg hs
    rw [hd] at hg2 hs
    rw [sel_pos (by simp;omega)]
    simp only [hk1,hk2,Yj,hg,hg2,Xn,↓A0,A0]
    rw [wrap_i64 (by omega) (by omega)]
    show ∃ y,sel (!(c.eqb d)) _ _=some y∧_
    cases he:c.eqb d
    ·rw [he,Bool.false_and] at hs
     exact ⟨_,rfl,i,_,rfl,.inl ⟨rfl,rfl,hp.trans hs⟩⟩
    ·rw [he,Uw] at hs
     exact ⟨_,rfl,i+1,rfl,⟨by omega,hp.trans hs⟩,by dsimp only;omega⟩
   ·rw [sel_neg (by simp;omega)]
    refine ⟨_,rfl,i,_,rfl,.inr ⟨rfl,?_⟩⟩
    rw [hp,Yq (by omega),Yq (by omega)]
    rfl
  ·rintro ⟨e,l⟩ ⟨i,q,rfl,⟨rfl,rfl,h⟩ | ⟨rfl,h⟩⟩
   ·simp only [↓A0,A0,h]
    try rfl
   ·simp only [↓A0,A0,h]
    rw [sel_pos (Yu _)]
    try rfl
 ·cases h
theorem w65:Walked Tryz.prog G 65 1 sp65:=by
 refine ⟨Tryz.f65,Tryz.func65,by decide +kernel,rfl,fun xs bl r h=> ?_⟩
 unfold sp65 at h
 split at h
 ·rename_i n
  cases h
  refine Eq.trans (b:=(sel (decide (n≥0)) (some (Zu (decide (n≤4294967295)),[])) (some (Zu false,[])):Option (AV×Blocks))) (by kernel_rfl) ?_
  by_cases h:0≤n<;>simp [sel,Zp,h]
 ·cases h
theorem w82:Walked Tryz.prog G 82 1 sp82:=by
 refine ⟨Tryz.f82,Tryz.func82,by decide +kernel,rfl,fun xs bl r h=> ?_⟩
 unfold sp82 at h
 split at h
 ·rename_i n m
  cases h
  refine Eq.trans (b:=(sel (decide (n≥0)) (some (Zu (decide (n≤m)),[])) (some (Zu false,[])):Option (AV×Blocks))) (by kernel_rfl) ?_
  by_cases h:0≤n<;>simp [sel,Zp,h]
 ·cases h
theorem w84:Walked Tryz.prog G 84 1 sp84:=by
 refine ⟨Tryz.f84,Tryz.func84,by decide +kernel,rfl,fun xs bl r h=> ?_⟩
 unfold sp84 at h
 split at h
 ·rename_i k little
  cases h
  refine Eq.trans (b:=(sel (decide (k<1)) (some (Zb [],[])) (sel (decide (k>10)) (some (Zb [],[])) (sel little (some (Zb [(4:UInt8),Yv (Zv (Zx .u8 (Zx .i64 (Zx .i64 (2*k)+1))))],[])) (some (Zb [(4:UInt8),Yv (Zv (Zx .u8 (Zx .i64 (2*k))))],[])))):Option (AV×Blocks))) (by kernel_rfl) ?_
  by_cases h:1≤k∧k≤10
  ·have hk:k=1∨k=2∨k=3∨k=4∨k=5∨k=6∨k=7∨k=8∨k=9∨k=10:=by omega
   rcases hk with rfl | rfl | rfl | rfl | rfl | rfl | rfl | rfl | rfl | rfl<;>cases little<;>rfl
  ·have hk:Xx k=false:=by simp [Xx];omega
   by_cases h1:k<1
   ·simp [sel,Wb,hk,h1]
   ·have h2:10<k:=by omega
    simp [sel,Wb,hk,h1,h2]
 ·cases h
theorem w85:Walked Tryz.prog G 85 1 sp85:=by
 refine ⟨Tryz.f85,Tryz.func85,by decide +kernel,rfl,fun xs bl r h=> ?_⟩
 unfold sp85 at h
 split at h
 ·rename_i b s
  obtain ⟨hpre,h2⟩:=chk_inv h;cases h2
  refine Eq.trans (b:=(chk (room (Zz b) 1) (chk (room (Zz b+Zz s) 1) (chk (room (Zz (b++s)+Zz [(0:UInt8)]) 1) (some (Zb (b++s++[(0:UInt8)]),[])))):Option (AV×Blocks))) (by kernel_rfl) ?_
  simp only [decide_eq_true_eq] at hpre
  rw [chk_of (Zh (by omega)),chk_of (Zh (by omega)),chk_of (Zh (by simp;omega))]
  simp [Xy]
 ·cases h
theorem w89:Walked Tryz.prog G 89 1 sp89:=by
 refine ⟨Tryz.f89,Tryz.func89,by decide +kernel,rfl,fun xs bl r h=> ?_⟩
 unfold sp89 at h
 split at h
 ·rename_i a b
  cases h
  refine Eq.trans (b:=(some (Zu (a==b),[]):Option (AV×Blocks))) (by kernel_rfl) ?_
  rfl
 ·cases h
theorem w98:Walked Tryz.prog G 98 1 sp98:=by
 refine ⟨Tryz.f98,Tryz.func98,by decide +kernel,rfl,fun xs bl r h=> ?_⟩
 unfold sp98 at h
 split at h
 ·rename_i ali b1 b2 b3 aad ak alf ais asv ain rl
  cases h
  refine Eq.trans (b:=(some (Wd [Zj asv,Zj ain,Zj rl],[]):Option (AV×Blocks))) (by kernel_rfl) ?_
  rfl
 ·cases h
theorem w102:Walked Tryz.prog G 102 1 sp102:=by
 refine ⟨Tryz.f102,Tryz.func102,by decide +kernel,rfl,fun xs bl r h=> ?_⟩
 unfold sp102 at h
 split at h
 ·rename_i n l m
  cases h
  refine Eq.trans (b:=(sel (decide (n≥l)) (some (Zu (decide (n≤m)),[])) (some (Zu false,[])):Option (AV×Blocks))) (by kernel_rfl) ?_
  by_cases h:l≤n
  ·rw [sel_pos (by simpa using h)];simp [h]
  ·rw [sel_neg (by simpa using h)];simp [h]
 ·cases h
theorem w109:Walked Tryz.prog G 109 1 sp109:=by
 refine ⟨Tryz.f109,Tryz.func109,by decide +kernel,rfl,fun xs bl r h=> ?_⟩
 unfold sp109 at h
 split at h
 ·rename_i n m
  cases h
  refine Eq.trans (b:=(sel (decide (n≥0)) (some (Zu (decide (n≤m)),[])) (some (Zu false,[])):Option (AV×Blocks))) (by kernel_rfl) ?_
  by_cases h:0≤n<;>simp [sel,Zp,h]
 ·cases h
theorem w113:Walked Tryz.prog G 113 1 sp113:=by
 refine ⟨Tryz.f113,Tryz.func113,by decide +kernel,rfl,fun xs bl r h=> ?_⟩
 unfold sp113 at h
 split at h
 ·rename_i k
  cases h
  refine Eq.trans (b:=(sel (decide (k≥1)) (some (Zu (decide (k≤10)),[])) (some (Zu false,[])):Option (AV×Blocks))) (by kernel_rfl) ?_
  by_cases h:1≤k<;>simp [sel,Xx,h]
 ·cases h
theorem w115:Walked Tryz.prog G 115 1 sp115:=by
 refine ⟨Tryz.f115,Tryz.func115,by decide +kernel,rfl,fun xs bl r h=> ?_⟩
 unfold sp115 at h
 split at h
 ·rename_i k
  obtain ⟨hpre,h2⟩:=chk_inv h;cases h2
  refine Eq.trans (b:=(Zq (loopM (fun (st:List AV)=>cInt .u64 st fun n r=>onCons r fun x r=>Xu x fun b=>cInt .i64 r fun n_1 r=>cInt .i64 r fun n_2 r=>let t0:Int:=Zx .i64 (8*Zx .i64 (7-n_2));onNil r (sel (decide (n_2<n_1)) (chk (decide (0≤t0)) (chk (decide (0≤n_2)&&decide (n_2<(↑(Zz b):Int))) (chk (Uz (Zv n_2) (Zz b)&&true&&true&&true&&true) (some (Xm [Zy .u64 n,Zn (List.set b (Zv n_2) (Yv (Zv (Zx .u8 (Wf n (2 ^ min (Zv t0) (Zk .u64))))))),Zy .i64 n_1,Zy .i64 (Zx .i64 (n_2+1))]))))) (some (Xv (Yb 0,[Zy .u64 n,Zn b,Zy .i64 n_1,Zy .i64 n_2]))))) [Zy .u64 k,Zn (Xb (Zv 8) (0:UInt8)),Zy .i64 (↑(Zz (Xb (Zv 8) (0:UInt8))):Int),Zy .i64 0]) fun (r:Ex×List AV)=>cInt .u64 (Zd r) fun n r_1=>onCons r_1 fun x r_2=>Xu x fun b=>cInt .i64 r_2 fun n r_3=>cInt .i64 r_3 fun n r_4=>onNil r_4 (exK r.1 none fun (j:Nat)=>sel (Xh j 0) (some (Zb b,[])) none):Option (AV×Blocks))) (by kernel_rfl) ?_
  try dsimp only [cStr,cBs,cBool,cU8,cInt,cSl,l63]
  refine loop_unroll 9 (Yb 0,[Zy Ym k,Zn [Yp k 56,Yp k 48,Yp k 40,Yp k 32,Yp k 24,Yp k 16,Yp k 8,Yp k 0],Zy Zw 8,Zy Zw 8]) (by kernel_rfl) ?_
  simp only [A0]
  rw [sel_pos (Yu _)]
  simp [Wm,Kerb.keyBytes,Wn,Wx]
 ·cases h
theorem w121:Walked Tryz.prog G 121 1 sp121:=by
 refine ⟨Tryz.f121,Tryz.func121,by decide +kernel,rfl,fun xs bl r h=> ?_⟩
 unfold sp121 at h
 split at h
 ·rename_i b
  obtain ⟨hpre,h2⟩:=chk_inv h;cases h2
  refine Eq.trans (b:=(chk (room (Zz b) 1) (Zq (loopM (fun (st:List AV)=>onCons st fun x r=>Xu x fun b=>onNil r (sel (!Zg (↑(Zz b):Int) 8==0) (chk (room (Zz b+Zz [(0:UInt8)]) 1) (some (Xm [Zn (b++[(0:UInt8)])]))) (some (Xv (Yb 0,[Zn b]))))) [Zn b]) fun (r:Ex×List AV)=>onCons (Zd r) fun x r_1=>Xu x fun b=>onNil r_1 (exK r.1 none fun (j:Nat)=>sel (Xh j 0) (some (Zn b,[])) none)):Option (AV×Blocks))) (by kernel_rfl) ?_
  have hb:=of_decide_eq_true hpre
  rw [chk_of (Zh (by omega))]
  refine loop_rounds (fun i:Nat=>[Zn (b++Xb i 0)]) (fun i=>i≤(8-b.length % 8) % 8) (fun i=>(8-b.length % 8) % 8-i)
   (fun r=>r=(Yb 0,[Zn (Kerb.pad b)])) 0 (by omega) (by simp) ?_ ?_
  ·intro i hi
   simp only [A0]
   have e:Zg ((b++Xb i 0).length:Int) 8=(((b.length+i) % 8:Nat):Int):=by
    rw [Yn (by omega)]
    simp
   rw [e]
   by_cases hlt:i<(8-b.length % 8) % 8
   ·rw [sel_pos (by simp;omega),chk_of (Zh (by simp;omega))]
    refine ⟨_,rfl,i+1,?_,by omega,by dsimp only;omega⟩
    dsimp only
    rw [List.replicate_succ',List.append_assoc]
   ·rw [sel_neg (by simp;omega)]
    refine ⟨_,rfl,?_⟩
    show _=_
    rw [Kerb.pad,show i=(8-b.length % 8) % 8 from by omega]
  rintro r rfl
  simp only [A0]
  rw [sel_pos (Yu _)]
 ·cases h
theorem w123:Walked Tryz.prog G 123 1 sp123:=by
 refine ⟨Tryz.f123,Tryz.func123,by decide +kernel,rfl,fun xs bl r h=> ?_⟩
 unfold sp123 at h
 split at h
 ·rename_i k
  obtain ⟨hpre,h2⟩:=chk_inv h;cases h2
  refine Eq.trans (b:=(Zq (loopM (fun (st:List AV)=>cInt .u64 st fun n r=>onCons r fun x r=>Xu x fun b=>cInt .i64 r fun n_1 r=>let t0:List UInt8:=[Yv (Zv (Zx .u8 (Wf n (2 ^ min (Zv (Zx .u64 (Zx .i64 (8*n_1)))) (Zk .u64)))))];onNil r (sel (decide (n_1≥0)) (chk (decide (0≤Zx .u64 (Zx .i64 (8*n_1)))) (chk (room (Zz b+Zz t0) 1) (some (Xm [Zy .u64 n,Zn (b++t0),Zy .i64 (Zx .i64 (n_1-1))])))) (some (Xv (Yb 0,[Zy .u64 n,Zn b,Zy .i64 n_1]))))) [Zy .u64 k,Zn [],Zy .i64 7]) fun (r:Ex×List AV)=>cInt .u64 (Zd r) fun n r_1=>onCons r_1 fun x r_2=>Xu x fun b=>cInt .i64 r_2 fun n r_3=>onNil r_3 (exK r.1 none fun (j:Nat)=>sel (Xh j 0) (some (Zb b,[])) none):Option (AV×Blocks))) (by kernel_rfl) ?_
  try dsimp only [cStr,cBs,cBool,cU8,cInt,cSl,l63]
  refine loop_unroll 9 (Yb 0,[Zy Ym k,Zn [Yp k 56,Yp k 48,Yp k 40,Yp k 32,Yp k 24,Yp k 16,Yp k 8,Yp k 0],Zy Zw (-1)]) (by kernel_rfl) ?_
  simp only [A0]
  rw [sel_pos (Yu _)]
  simp [Wm,Kerb.keyBytes,Wn,Wx]
 ·cases h
theorem w125:Walked Tryz.prog G 125 1 sp125:=by
 refine ⟨Tryz.f125,Tryz.func125,by decide +kernel,rfl,fun xs bl r h=> ?_⟩
 unfold sp125 at h
 split at h
 ·cases h
  refine Eq.trans (b:=(some (Yw 1 [Zj [(65:UInt8),(84:UInt8),(72:UInt8)],Zj [(66:UInt8),(79:UInt8),(83:UInt8)],Zj [(67:UInt8),(65:UInt8),(77:UInt8)]],[]):Option (AV×Blocks))) (by kernel_rfl) ?_
  rfl
 ·cases h
theorem w130:Walked Tryz.prog G 130 1 sp130:=by
 refine ⟨Tryz.f130,Tryz.func130,by decide +kernel,rfl,fun xs bl r h=> ?_⟩
 unfold sp130 at h
 split at h
 ·rename_i x y z v k
  cases h
  refine Eq.trans (b:=(some (Wd [Zj x,Zj y,Zj z,Zy .i64 v],[]):Option (AV×Blocks))) (by kernel_rfl) ?_
  rfl
 ·cases h
theorem w131:Walked Tryz.prog G 131 1 sp131:=by
 refine ⟨Tryz.f131,Tryz.func131,by decide +kernel,rfl,fun xs bl r h=> ?_⟩
 unfold sp131 at h
 split at h
 ·rename_i mls a1 a2 a3 at_ atk
  obtain ⟨hpre,h2⟩:=chk_inv h;cases h2
  refine Eq.trans (b:=(Zq (loopM (fun (st:List AV)=>cStr st fun b r=>cStr r fun b_1 r=>cStr r fun b_2 r=>cInt .i64 r fun n r=>cInt .i64 r fun n_1 r=>cBool r fun b_3 r=>cSl 5 r fun b_4 r=>cInt .i64 r fun n_2 r=>cInt .i64 r fun n_3 r=>onNil r (sel (decide (n_3<n_2)) (chk (decide (0≤n_3)&&decide (n_3<(↑(Zz b_4):Int))&&true) (Vd (Yk b_4 (Zv n_3) Wz) fun cs=>cStr cs fun b_5 r=>cStr r fun b_6 r=>cStr r fun b_7 r=>cInt .i64 r fun n_4 r=>cInt .i64 r fun n_5 r=>onNil r (sel (b_5==b&&(b_6==b_1&&(b_7==b_2&&(n_4==n&&n_5==n_1)))) (some (Xv (Ex.ret,[Zj b,Zj b_1,Zj b_2,Zy .i64 n,Zy .i64 n_1,Zu true,Yw 5 b_4,Zy .i64 n_2,Zy .i64 n_3]))) (some (Xm [Zj b,Zj b_1,Zj b_2,Zy .i64 n,Zy .i64 n_1,Zu b_3,Yw 5 b_4,Zy .i64 n_2,Zy .i64 (Zx .i64 (n_3+1))]))))) (some (Xv (Yb 0,[Zj b,Zj b_1,Zj b_2,Zy .i64 n,Zy .i64 n_1,Zu b_3,Yw 5 b_4,Zy .i64 n_2,Zy .i64 n_3]))))) [Zj a1,Zj a2,Zj a3,Zy .i64 at_,Zy .i64 atk,Zu false,Yw 5 mls,Zy .i64 (↑(Zz mls):Int),Zy .i64 0]) fun (r:Ex×List AV)=>cStr (Zd r) fun b r_1=>cStr r_1 fun b r_2=>cStr r_2 fun b r_3=>cInt .i64 r_3 fun n r_4=>cInt .i64 r_4 fun n r_5=>cBool r_5 fun b r_6=>cSl 5 r_6 fun b_1 r_7=>cInt .i64 r_7 fun n r_8=>cInt .i64 r_8 fun n r_9=>onNil r_9 (exK r.1 (some (Zu b,[])) fun (j:Nat)=>sel (Xh j 0) (some (Zu false,[])) none):Option (AV×Blocks))) (by kernel_rfl) ?_
  try dsimp only [cStr,cBs,cBool,cU8,cInt,cSl,l63]
  simp only [Zf,decide_eq_true_eq] at hpre
  obtain ⟨hall,hlen⟩:=hpre
  obtain ⟨cs,rfl,hok⟩:=Kerb.marks_of hall
  rw [Kerb.map_toMark]
  simp only [Xk] at hlen ⊢
  refine loop_rounds (fun i:Nat=>[Zj a1,Zj a2,Zj a3,Zy Zw at_,Zy Zw atk,Zu false,Yw 5 (cs.map Xn),Zy Zw (cs.length:Int),Zy Zw (i:Int)]) (fun i=>i≤cs.length∧Kerb.hasMark cs ⟨⟨a1,a2,a3⟩,at_,atk⟩=Kerb.hasMark (cs.drop i) ⟨⟨a1,a2,a3⟩,at_,atk⟩) (fun i=>cs.length-i)
   (fun r=>∃ (i:Nat) (q:Bool),r.2=[Zj a1,Zj a2,Zj a3,Zy Zw at_,Zy Zw atk,Zu q,Yw 5 (cs.map Xn),Zy Zw (cs.length:Int),Zy Zw (i:Int)]∧((r.1 = .ret∧q=true∧Kerb.hasMark cs ⟨⟨a1,a2,a3⟩,at_,atk⟩=true)∨(r.1 = .exit 0∧Kerb.hasMark cs ⟨⟨a1,a2,a3⟩,at_,atk⟩=false))) 0 ⟨Xf _,by simp⟩ rfl ?_ ?_
  ·rintro i ⟨hi,hp⟩
   simp only [↓A0,A0,Xk]
   by_cases hlt:i<cs.length
   ·rw [sel_pos (by simp;omega),chk_of (by simp;omega),Yj,Wp (d:=Vh) hlt]
    obtain ⟨c,hc⟩:∃ c,cs.getD i Vh=c:=⟨_,rfl⟩
    have hd:=Kerb.hasMark_step (m:=⟨⟨a1,a2,a3⟩,at_,atk⟩) hlt hc
    rw [hc]
    simp only [Xn,↓A0,A0]
    rw [wrap_i64 (by omega) (by omega)]
    show ∃ y,sel (Kerb.Mark.eqb c ⟨⟨a1,a2,a3⟩,at_,atk⟩) _ _=some y∧_
    cases he:Kerb.Mark.eqb c ⟨⟨a1,a2,a3⟩,at_,atk⟩
    ·rw [he,Bool.false_or] at hd
     exact ⟨_,rfl,i+1,rfl,⟨by omega,hp.trans hd⟩,by dsimp only;omega⟩
    ·rw [he,Bool.true_or] at hd
     exact ⟨_,rfl,i,_,rfl,.inl ⟨rfl,rfl,hp.trans hd⟩⟩
   ·rw [sel_neg (by simp;omega)]
    refine ⟨_,rfl,i,_,rfl,.inr ⟨rfl,?_⟩⟩
    rw [hp,Yq (by omega)]
    rfl
  ·rintro ⟨e,l⟩ ⟨i,q,rfl,⟨rfl,rfl,h⟩ | ⟨rfl,h⟩⟩
   ·simp only [↓A0,A0,h]
   ·simp only [↓A0,A0,h]
    rw [sel_pos (Yu _)]
 ·cases h
theorem w140:Walked Tryz.prog G 140 1 sp140:=by
 refine ⟨Tryz.f140,Tryz.func140,by decide +kernel,rfl,fun xs bl r h=> ?_⟩
 unfold sp140 at h
 split at h
 ·rename_i s bad
  obtain ⟨hpre,h2⟩:=chk_inv h;cases h2
  refine Eq.trans (b:=(Zq (loopM (fun (st:List AV)=>cStr st fun b r=>cStr r fun b_1 r=>cBool r fun b_2 r=>cInt .i64 r fun n r=>let t0:Int:=(↑(Yx (Yk b (Zv n) (0:UInt8))):Int);let t1:Option (List AV ⊕ Ex×List AV):=some (Xv (Ex.ret,[Zj b,Zj b_1,Zu false,Zy .i64 n]));onNil r (sel (decide (n<(↑(Zz b):Int))) (chk (decide (0≤n)&&decide (n<(↑(Zz b):Int))) (sel (decide (t0<(↑(Yx (33:UInt8)):Int))) t1 (chk (decide (0≤n)&&decide (n<(↑(Zz b):Int))) (sel (decide (t0>(↑(Yx (126:UInt8)):Int))) t1 (Zq (loopM (fun (st:List AV)=>cStr st fun b r=>cStr r fun b_3 r=>cBool r fun b_4 r=>cInt .i64 r fun n r=>cInt .i64 r fun n_1 r=>onNil r (sel (decide (n_1<(↑(Zz b_3):Int))) (chk (decide (0≤n)&&decide (n<(↑(Zz b):Int))) (chk (decide (0≤n_1)&&decide (n_1<(↑(Zz b_3):Int))) (sel (Yk b (Zv n) (0:UInt8)==Yk b_3 (Zv n_1) (0:UInt8)) (some (Xv (Ex.ret,[Zj b,Zj b_3,Zu false,Zy .i64 n,Zy .i64 n_1]))) (some (Xm [Zj b,Zj b_3,Zu b_4,Zy .i64 n,Zy .i64 (Zx .i64 (n_1+1))]))))) (some (Xv (Yb 2,[Zj b,Zj b_3,Zu b_4,Zy .i64 n,Zy .i64 n_1]))))) [Zj b,Zj b_1,Zu b_2,Zy .i64 n,Zy .i64 0]) fun (r:Ex×List AV)=>cStr (Zd r) fun b r_1=>cStr r_1 fun b_3 r_2=>cBool r_2 fun b_4 r_3=>cInt .i64 r_3 fun n r_4=>cInt .i64 r_4 fun n_1 r_5=>onNil r_5 (exK r.1 (some (Xv (Ex.ret,[Zj b,Zj b_3,Zu b_4,Zy .i64 n]))) fun (j:Nat)=>sel (Xh j 2) (some (Xm [Zj b,Zj b_3,Zu b_4,Zy .i64 (Zx .i64 (n+1))])) none)))))) (some (Xv (Yb 0,[Zj b,Zj b_1,Zu b_2,Zy .i64 n]))))) [Zj s,Zj bad,Zu false,Zy .i64 0]) fun (r:Ex×List AV)=>cStr (Zd r) fun b r_1=>cStr r_1 fun b_1 r_2=>cBool r_2 fun b_2 r_3=>cInt .i64 r_3 fun n r_4=>onNil r_4 (exK r.1 (some (Zu b_2,[])) fun (j:Nat)=>sel (Xh j 0) (some (Zu (decide ((↑(Zz b):Int)≤39)),[])) none):Option (AV×Blocks))) (by kernel_rfl) ?_
  try dsimp only [cStr,cBs,cBool,cU8,cInt,cSl,l63]
  simp only [Zf,decide_eq_true_eq] at hpre
  refine loop_rounds (fun i:Nat=>[Zj s,Zj bad,Zu false,Zy Zw (i:Int)]) (fun i=>i≤s.length∧Yd s bad=Yd (s.drop i) bad) (fun i=>s.length-i)
   (fun r=>∃ i:Nat,r.2=[Zj s,Zj bad,Zu false,Zy Zw (i:Int)]∧((r.1 = .ret∧Yd s bad=false)∨(r.1 = .exit 0∧Yd s bad=true))) 0 ⟨Xf _,rfl⟩ rfl ?_ ?_
  ·rintro i ⟨hi,hp⟩
   simp only [A0]
   by_cases hlt:i<s.length
   ·have hc:(decide ((0:Int)≤(i:Int))&&decide ((i:Int)<(s.length:Int)))=true:=by simp;omega
    have hd:=Kerb.drop_all_cons hlt
    rw [sel_pos (by simp;omega),chk_of hc,Yj]
    have hpr:Yd (s.drop i) bad=(Vj bad (s.getD i 0)&&Yd (s.drop (i+1)) bad):=by rw [hd];rfl
    generalize hcc:s.getD i 0=c at *
    by_cases h1:c.toNat<33
    ·rw [sel_pos (by simp;omega)]
     exact ⟨_,rfl,i,rfl,.inl ⟨rfl,by rw [hp,hpr];simp [Vj,h1]⟩⟩
    rw [sel_neg (by simp;omega),chk_of hc]
    by_cases h2:126<c.toNat
    ·rw [sel_pos (by simp;omega)]
     exact ⟨_,rfl,i,rfl,.inl ⟨rfl,by rw [hp,hpr];simp [Vj,h2]⟩⟩
    rw [sel_neg (by simp;omega)]
    refine loop_ex (fun j:Nat=>[Zj s,Zj bad,Zu false,Zy Zw (i:Int),Zy Zw (j:Int)]) (fun j=>j≤bad.length∧(c∈bad↔c∈bad.drop j)) (fun j=>bad.length-j)
     (fun r=>∃ j:Nat,r.2=[Zj s,Zj bad,Zu false,Zy Zw (i:Int),Zy Zw (j:Int)]∧((r.1 = .ret∧c∈bad)∨(r.1 = .exit 2∧c ∉ bad))) 0 ⟨Xf _,by simp⟩ rfl ?_ ?_
    ·rintro j ⟨hj,hm⟩
     simp only [A0]
     by_cases hjl:j<bad.length
     ·have hdj:=Kerb.drop_all_cons hjl
      rw [sel_pos (by simp;omega),chk_of hc,chk_of (by simp;omega),Yj,Yj,hcc]
      rw [hdj,List.mem_cons] at hm
      by_cases h3:c=bad.getD j 0
      ·rw [sel_pos (by simpa using h3)]
       exact ⟨_,rfl,j,rfl,.inl ⟨rfl,hm.2 (.inl h3)⟩⟩
      ·rw [sel_neg (by simpa using h3),wrap_i64 (by omega) (by omega)]
       exact ⟨_,rfl,j+1,rfl,⟨by omega,hm.trans ⟨fun h=>h.resolve_left h3,.inr⟩⟩,by dsimp only;omega⟩
     ·rw [sel_neg (by simp;omega)]
      refine ⟨_,rfl,j,rfl,.inr ⟨rfl,?_⟩⟩
      rw [hm,Yq (by omega)];simp
    ·rintro ⟨e,l⟩ ⟨j,rfl,⟨rfl,h3⟩ | ⟨rfl,h3⟩⟩
     ·simp only [A0]
      exact ⟨_,rfl,i,rfl,.inl ⟨rfl,by rw [hp,hpr];simp [Vj,h3]⟩⟩
     ·simp only [A0]
      rw [sel_pos (Yu _),wrap_i64 (by omega) (by omega)]
      exact ⟨_,rfl,i+1,rfl,⟨by omega,by rw [hp,hpr];simp [Vj,h1,h2,h3]⟩,by dsimp only;omega⟩
   ·rw [sel_neg (by simp;omega)]
    exact ⟨_,rfl,i,rfl,.inr ⟨rfl,by rw [hp,Yq (by omega)];rfl⟩⟩
  ·rintro ⟨e,l⟩ ⟨i,rfl,⟨rfl,hp⟩ | ⟨rfl,hp⟩⟩
   ·simp only [A0,hp]
    rfl
   ·simp only [A0,hp]
    rw [sel_pos (Yu _),decide_eq_decide.2 (show ((s.length:Int)≤39)↔s.length≤39 from by omega)]
    rfl
 ·cases h
theorem w141:Walked Tryz.prog G 141 1 sp141:=by
 refine ⟨Tryz.f141,Tryz.func141,by decide +kernel,rfl,fun xs bl r h=> ?_⟩
 unfold sp141 at h
 split at h
 ·rename_i b n k little
  obtain ⟨hpre,h2⟩:=chk_inv h;cases h2
  refine Eq.trans (b:=(chk (room (Zz b) 1) (Zq (loopM (fun (st:List AV)=>cInt .i64 st fun n r=>cInt .i64 r fun n_1 r=>cBool r fun b r=>onCons r fun x r=>Xu x fun b_1=>cInt .i64 r fun n_2 r=>let t1:Int:=Zx .u64 (Zx .i64 (8*Zx .i64 (Zx .i64 (n_1-1)-n_2)));let t2:List UInt8:=[Yv (Zv (Zx .u8 (Wf (Zx .u64 n) (2 ^ min (Zv (Zx .u64 (Zx .i64 (8*n_2)))) (Zk .u64)))))];let t0:List UInt8:=[Yv (Zv (Zx .u8 (Wf (Zx .u64 n) (2 ^ min (Zv t1) (Zk .u64)))))];onNil r (sel (decide (n_2<n_1)) (sel b (chk (decide (0≤Zx .u64 (Zx .i64 (8*n_2)))) (chk (room (Zz b_1+Zz t2) 1) (some (Xm [Zy .i64 n,Zy .i64 n_1,Zu b,Zn (b_1++t2),Zy .i64 (Zx .i64 (n_2+1))])))) (chk (decide (0≤t1)) (chk (room (Zz b_1+Zz t0) 1) (some (Xm [Zy .i64 n,Zy .i64 n_1,Zu b,Zn (b_1++t0),Zy .i64 (Zx .i64 (n_2+1))]))))) (some (Xv (Yb 0,[Zy .i64 n,Zy .i64 n_1,Zu b,Zn b_1,Zy .i64 n_2]))))) [Zy .i64 n,Zy .i64 k,Zu little,Zn b,Zy .i64 0]) fun (r:Ex×List AV)=>cInt .i64 (Zd r) fun n r_1=>cInt .i64 r_1 fun n r_2=>cBool r_2 fun b r_3=>onCons r_3 fun x r_4=>Xu x fun b=>cInt .i64 r_4 fun n r_5=>onNil r_5 (exK r.1 none fun (j:Nat)=>sel (Xh j 0) (some (Zn b,[])) none)):Option (AV×Blocks))) (by kernel_rfl) ?_
  try dsimp only [cStr,cBs,cBool,cU8,cInt,cSl,l63]
  simp only [Zf,decide_eq_true_eq] at hpre
  obtain ⟨hk,hb⟩:=hpre
  have hk4:k.toNat≤4∧0≤k:=by omega
  rw [chk_of (Zh (by omega))]
  refine loop_rounds (fun i:Nat=>[Zy Zw n,Zy Zw k,Zu little,Zn (b++(Yg n k.toNat little).take i),Zy Zw (i:Int)]) (fun i=>i≤k.toNat) (fun i=>k.toNat-i)
   (fun r=>r=(Yb 0,[Zy Zw n,Zy Zw k,Zu little,Zn (b++Yg n k.toNat little),Zy Zw k])) 0 (Xf _) (by simp) ?_ ?_
  ·intro i hi
   simp only [A0]
   by_cases hlt:i<k.toNat
   ·have hs:=Kerb.take_succ_getD (l:=Yg n k.toNat little) (i:=i) (by rw [Yh];omega)
    have hg:=Kerb.putN_getD n k.toNat little hlt
    have hl:((Yg n k.toNat little).take i).length=i:=by simp [Yh];omega
    rw [sel_pos (by simp;omega)]
    have hw:∀ j:Nat,j<4→Zx Ym (Zx Zw (8*(j:Int)))=((8*j:Nat):Int):=fun j hj=>by
     rw [wrap_i64 (by omega) (by omega),Kerb.wrap_u64];omega
    have hm:∀ j:Nat,j<4→min (Zv ((8*j:Nat):Int)) (Zk Ym)=8*j:=fun j hj=>by
     have:Zk Ym=64:=rfl
     rw [this];omega
    cases little
    ·have e:Zx Zw (Zx Zw (k-1)-(i:Int))=((k.toNat-1-i:Nat):Int):=by
      rw [wrap_i64 (n:=k-1) (by omega) (by omega),wrap_i64 (by omega) (by omega)];omega
     rw [sel_neg rfl,e,hw _ (by omega),hm _ (by omega),Kerb.ubyte n (by omega),chk_of (by simp;omega),chk_of (Zh (by simp [hl];omega)),wrap_i64 (by omega) (by omega)]
     refine ⟨_,rfl,i+1,?_,by omega,by dsimp only;omega⟩
     dsimp only
     rw [hs,hg,← List.append_assoc]
     rfl
    ·rw [sel_pos rfl,hw _ (by omega),hm _ (by omega),Kerb.ubyte n (by omega),chk_of (by simp;omega),chk_of (Zh (by simp [hl];omega)),wrap_i64 (by omega) (by omega)]
     refine ⟨_,rfl,i+1,?_,by omega,by dsimp only;omega⟩
     dsimp only
     rw [hs,hg,← List.append_assoc]
     rfl
   ·rw [sel_neg (by simp;omega)]
    refine ⟨_,rfl,?_⟩
    show _=_
    rw [Xp (by rw [Yh];omega),show (i:Int)=k from by omega]
  ·rintro r rfl
   simp only [A0]
   rw [sel_pos (Yu _)]
 ·cases h
theorem w143:Walked Tryz.prog G 143 1 sp143:=by
 refine ⟨Tryz.f143,Tryz.func143,by decide +kernel,rfl,fun xs bl r h=> ?_⟩
 unfold sp143 at h
 split at h
 ·rename_i k els
  obtain ⟨hpre,h2⟩:=chk_inv h;cases h2
  refine Eq.trans (b:=(Zq (loopM (fun (st:List AV)=>cInt .i64 st fun n r=>cBool r fun b r=>cSl 1 r fun b_1 r=>cInt .i64 r fun n_1 r=>cInt .i64 r fun n_2 r=>onNil r (sel (decide (n_2<n_1)) (chk (decide (0≤n_2)&&decide (n_2<(↑(Zz b_1):Int))&&true) (Xd .i64 (Yk b_1 (Zv n_2) Wz) fun n_3=>sel (n_3==n) (some (Xv (Ex.ret,[Zy .i64 n,Zu true,Yw 1 b_1,Zy .i64 n_1,Zy .i64 n_2]))) (some (Xm [Zy .i64 n,Zu b,Yw 1 b_1,Zy .i64 n_1,Zy .i64 (Zx .i64 (n_2+1))])))) (some (Xv (Yb 0,[Zy .i64 n,Zu b,Yw 1 b_1,Zy .i64 n_1,Zy .i64 n_2]))))) [Zy .i64 k,Zu false,Yw 1 els,Zy .i64 (↑(Zz els):Int),Zy .i64 0]) fun (r:Ex×List AV)=>cInt .i64 (Zd r) fun n r_1=>cBool r_1 fun b r_2=>cSl 1 r_2 fun b_1 r_3=>cInt .i64 r_3 fun n r_4=>cInt .i64 r_4 fun n r_5=>onNil r_5 (exK r.1 (some (Zu b,[])) fun (j:Nat)=>sel (Xh j 0) (some (Zu false,[])) none):Option (AV×Blocks))) (by kernel_rfl) ?_
  try dsimp only [cStr,cBs,cBool,cU8,cInt,cSl,l63]
  simp only [Zf,decide_eq_true_eq] at hpre
  obtain ⟨ha,hl⟩:=hpre
  have hil:=Kerb.ints_len ha
  refine loop_rounds (fun i:Nat=>[Zy Zw k,Zu false,Yw 1 els,Zy Zw (els.length:Int),Zy Zw (i:Int)]) (fun i=>i≤els.length∧(k∈intsIn els↔k∈(intsIn els).drop i)) (fun i=>els.length-i)
   (fun r=>∃ (i:Nat) (x:Bool),r.2=[Zy Zw k,Zu x,Yw 1 els,Zy Zw (els.length:Int),Zy Zw (i:Int)]∧((r.1 = .ret∧x=true∧k∈intsIn els)∨(r.1 = .exit 0∧k ∉ intsIn els))) 0 ⟨Xf _,by simp⟩ rfl ?_ ?_
  ·rintro i ⟨hi,hm⟩
   simp only [A0]
   by_cases hlt:i<els.length
   ·obtain ⟨n,h1,h2⟩:=Kerb.ints_get ha hlt
    rw [sel_pos (by simp;omega),chk_of (by simp;omega),Yj,h1,onInt_int]
    rw [h2,List.mem_cons] at hm
    by_cases h3:n=k
    ·rw [sel_pos (by simpa using h3)]
     exact ⟨_,rfl,i,true,rfl,.inl ⟨rfl,rfl,hm.2 (.inl h3.symm)⟩⟩
    ·rw [sel_neg (by simpa using h3),wrap_i64 (by omega) (by omega)]
     exact ⟨_,rfl,i+1,rfl,⟨by omega,hm.trans ⟨fun h=>h.resolve_left fun e=>h3 e.symm,.inr⟩⟩,by dsimp only;omega⟩
   ·rw [sel_neg (by simp;omega)]
    refine ⟨_,rfl,i,false,rfl,.inr ⟨rfl,?_⟩⟩
    rw [hm,Yq (by omega)];simp
  ·rintro ⟨e,l⟩ ⟨i,x,rfl,⟨rfl,rfl,h⟩ | ⟨rfl,h⟩⟩
   ·simp [onCons,Xd,Xq,AV.onSl,onNil,exK,h]
   ·simp [onCons,Xd,Xq,AV.onSl,onNil,exK,h,sel]
 ·cases h
theorem w156:Walked Tryz.prog G 156 1 sp156:=by
 refine ⟨Tryz.f156,Tryz.func156,by decide +kernel,rfl,fun xs bl r h=> ?_⟩
 unfold sp156 at h
 split at h
 ·rename_i n
  cases h
  refine Eq.trans (b:=(sel (decide (n≥0)) (some (Zu (decide (n≤4294967295)),[])) (some (Zu false,[])):Option (AV×Blocks))) (by kernel_rfl) ?_
  by_cases h:0≤n<;>simp [sel,Zp,h]
 ·cases h
theorem w157:Walked Tryz.prog G 157 1 sp157:=by
 refine ⟨Tryz.f157,Tryz.func157,by decide +kernel,rfl,fun xs bl r h=> ?_⟩
 unfold sp157 at h
 split at h
 ·rename_i n
  cases h
  refine Eq.trans (b:=(sel (decide (n≥0)) (some (Zu (decide (n≤255)),[])) (some (Zu false,[])):Option (AV×Blocks))) (by kernel_rfl) ?_
  by_cases h:0≤n<;>simp [sel,Zp,h]
 ·cases h
theorem w162:Walked Tryz.prog G 162 1 sp162:=by
 refine ⟨Tryz.f162,Tryz.func162,by decide +kernel,rfl,fun xs bl r h=> ?_⟩
 unfold sp162 at h
 split at h
 ·rename_i k
  cases h
  refine Eq.trans (b:=(sel (decide (k≥1)) (some (Zu (decide (k≤10)),[])) (some (Zu false,[])):Option (AV×Blocks))) (by kernel_rfl) ?_
  by_cases h:1≤k<;>simp [sel,Xx,h]
 ·cases h
theorem w164:Walked Tryz.prog G 164 1 sp164:=by
 refine ⟨Tryz.f164,Tryz.func164,by decide +kernel,rfl,fun xs bl r h=> ?_⟩
 unfold sp164 at h
 split at h
 ·rename_i c n
  cases h
  refine Eq.trans (b:=(sel (!c==1) (sel (!c==2) (some (Zy .u64 0,[])) (sel (decide (n<1)) (some (Zy .u64 0,[])) (sel (decide (n>4294967295)) (some (Zy .u64 0,[])) (some (Zy .u64 (Zx .u64 (↑(BitVec.toNat (BitVec.ofInt (Zk .u64) (Zx .u64 (Zx .u64 c*2 ^ min (Zv 56) (Zk .u64))) ||| BitVec.ofInt (Zk .u64) (Zx .u64 n))):Int)),[]))))) (sel (decide (n<1)) (some (Zy .u64 0,[])) (sel (decide (n>4294967295)) (some (Zy .u64 0,[])) (some (Zy .u64 (Zx .u64 (↑(BitVec.toNat (BitVec.ofInt (Zk .u64) (Zx .u64 (Zx .u64 c*2 ^ min (Zv 56) (Zk .u64))) ||| BitVec.ofInt (Zk .u64) (Zx .u64 n))):Int)),[])))):Option (AV×Blocks))) (by kernel_rfl) ?_
  unfold Vf Vu
  by_cases hc:c=1∨c=2
  case neg =>
   have q1:(c==(1:Int))=false:=by simp;omega
   have q2:(c==(2:Int))=false:=by simp;omega
   rw [q1,q2]
   rfl
  by_cases hn:1≤n∧n≤4294967295
  case neg =>
   have q:(decide (1≤n)&&decide (n≤4294967295))=false:=by
    rw [Bool.eq_false_iff]
    simp
    omega
   rw [q,Bool.and_false]
   have key:(sel (decide (n<(1:Int))) (some (Zy .u64 (0:Int),([]:Blocks))) (sel (decide (n>(4294967295:Int))) (some (Zy .u64 (0:Int),[])) (some (Zy Ym (Zx Ym ((BitVec.toNat (BitVec.ofInt (Zk Ym) (Zx Ym (Zx Ym c*(2:Int) ^ min (Zv (56:Int)) (Zk Ym))) ||| BitVec.ofInt (Zk Ym) (Zx Ym n)):Nat):Int)),[]))))=some (Zy .u64 0,[]):=by
    by_cases hl:n<1
    ·rw [sel_pos (by simpa using hl)]
    ·rw [sel_neg (by simpa using hl),sel_pos (by simp;omega)]
   rcases hc with rfl | rfl
   ·rw [sel_neg (by decide)];exact key
   ·rw [sel_pos (by decide),sel_neg (by decide)];exact key
  have q:(decide (1≤n)&&decide (n≤4294967295))=true:=by simp;omega
  have q2:(c==(1:Int)||c==(2:Int))=true:=by simpa using hc
  rw [q,q2,Kerb.key_make hc hn.1 hn.2]
  rcases hc with rfl | rfl
  ·rw [sel_neg (by decide),sel_neg (by simp;omega),sel_neg (by simp;omega)]
   rfl
  ·rw [sel_pos (by decide),sel_neg (by decide),sel_neg (by simp;omega),sel_neg (by simp;omega)]
   rfl
 ·cases h
theorem w168:Walked Tryz.prog G 168 1 sp168:=by
 refine ⟨Tryz.f168,Tryz.func168,by decide +kernel,rfl,fun xs bl r h=> ?_⟩
 unfold sp168 at h
 split at h
 ·rename_i b pos n
  obtain ⟨hpre,h2⟩:=chk_inv h;cases h2
  refine Eq.trans (b:=(sel (decide (pos<0)) (some (Zy .i64 104,[])) (sel (decide (pos>(↑(Zz b):Int))) (some (Zy .i64 104,[])) (sel (decide (n<0)) (some (Zy .i64 104,[])) (sel (decide (n>Zx .i64 ((↑(Zz b):Int)-pos))) (some (Zy .i64 101,[])) (some (Zy .i64 0,[]))))):Option (AV×Blocks))) (by kernel_rfl) ?_
  simp only [decide_eq_true_eq] at hpre
  unfold Vv
  by_cases h1:pos<0
  ·simp [sel,h1]
  by_cases h2:(b.length:Int)<pos
  ·simp [sel,h1,h2]
  by_cases h3:n<0
  ·simp [sel,h1,h2,h3]
  rw [sel_neg (by simp;omega),sel_neg (by simp;omega),sel_neg (by simp;omega),wrap_i64 (by omega) (by omega),if_neg (by omega)]
  by_cases h4:(b.length:Int)-pos<n
  ·rw [sel_pos (by simp;omega),if_pos h4]
  ·rw [sel_neg (by simp;omega),if_neg h4]
 ·cases h
theorem w172:Walked Tryz.prog G 172 1 sp172:=by
 refine ⟨Tryz.f172,Tryz.func172,by decide +kernel,rfl,fun xs bl r h=> ?_⟩
 unfold sp172 at h
 split at h
 ·rename_i n m
  cases h
  refine Eq.trans (b:=(sel (decide (n≥0)) (some (Zu (decide (n≤m)),[])) (some (Zu false,[])):Option (AV×Blocks))) (by kernel_rfl) ?_
  by_cases h:0≤n<;>simp [sel,Zp,h]
 ·cases h
theorem w173:Walked Tryz.prog G 173 1 sp173:=by
 refine ⟨Tryz.f173,Tryz.func173,by decide +kernel,rfl,fun xs bl r h=> ?_⟩
 unfold sp173 at h
 split at h
 ·rename_i n m
  cases h
  refine Eq.trans (b:=(sel (decide (n≥0)) (some (Zu (decide (n≤m)),[])) (some (Zu false,[])):Option (AV×Blocks))) (by kernel_rfl) ?_
  by_cases h:0≤n<;>simp [sel,Zp,h]
 ·cases h
theorem w180:Walked Tryz.prog G 180 1 sp180:=by
 refine ⟨Tryz.f180,Tryz.func180,by decide +kernel,rfl,fun xs bl r h=> ?_⟩
 unfold sp180 at h
 split at h
 ·rename_i k
  cases h
  refine Eq.trans (b:=(sel (k==1) (some (Zu true,[])) (some (Zu (k==2),[])):Option (AV×Blocks))) (by kernel_rfl) ?_
  unfold Vf
  cases (k==(1:Int))<;>rfl
 ·cases h
theorem w181:Walked Tryz.prog G 181 1 sp181:=by
 refine ⟨Tryz.f181,Tryz.func181,by decide +kernel,rfl,fun xs bl r h=> ?_⟩
 unfold sp181 at h
 split at h
 ·rename_i k
  cases h
  refine Eq.trans (b:=(sel (decide (k≥1)) (some (Zu (decide (k≤4294967295)),[])) (some (Zu false,[])):Option (AV×Blocks))) (by kernel_rfl) ?_
  by_cases h:1≤k<;>simp [sel,Vu,h]
 ·cases h
theorem w189:Walked Tryz.prog G 189 1 sp189:=by
 refine ⟨Tryz.f189,Tryz.func189,by decide +kernel,rfl,fun xs bl r h=> ?_⟩
 unfold sp189 at h
 split at h
 ·rename_i n m
  cases h
  refine Eq.trans (b:=(sel (decide (n≥0)) (some (Zu (decide (n≤m)),[])) (some (Zu false,[])):Option (AV×Blocks))) (by kernel_rfl) ?_
  by_cases h:0≤n<;>simp [sel,Zp,h]
 ·cases h
theorem w190:Walked Tryz.prog G 190 1 sp190:=by
 refine ⟨Tryz.f190,Tryz.func190,by decide +kernel,rfl,fun xs bl r h=> ?_⟩
 unfold sp190 at h
 split at h
 ·rename_i n m
  cases h
  refine Eq.trans (b:=(sel (decide (n≥0)) (some (Zu (decide (n≤m)),[])) (some (Zu false,[])):Option (AV×Blocks))) (by kernel_rfl) ?_
  by_cases h:0≤n<;>simp [sel,Zp,h]
 ·cases h
theorem w16:Walked Tryz.prog G 16 2 sp16:=by
 refine ⟨Tryz.f16,Tryz.func16,by decide +kernel,rfl,fun xs bl r h=> ?_⟩
 unfold sp16 at h
 split at h
 ·rename_i m1 m2 m3 kls sz fl mls sk n1 n2 n3 jls sy fm nls sl
  obtain ⟨hpre,h2⟩:=chk_inv h;cases h2
  refine Eq.trans (b:=(sel (m1==n1&&(m2==n2&&m3==n3)) (sel (sk==sl) (Zq (chk (List.all kls Kerb.isSKey&&decide (Zz kls≤1000000)&&List.all jls Kerb.isSKey) (some (Zu (Wh (List.map Kerb.toSKey kls) (List.map Kerb.toSKey jls)),[]))) fun (r:AV×Blocks)=>onNilB (Zd r) (Xq (Zm r) fun b=>sel b (Zq (chk (List.all mls Kerb.isMark&&decide (Zz mls≤1000000)&&List.all nls Kerb.isMark) (some (Zu (Kerb.RCache.same (Kerb.RCache.mk sz fl (List.map Kerb.toMark mls)) (Kerb.RCache.mk sy fm (List.map Kerb.toMark nls))),[]))) fun (r:AV×Blocks)=>onNilB (Zd r) (Xq (Zm r) fun b=>some (Zu b,[]))) (some (Zu false,[])))) (some (Zu false,[]))) (some (Zu false,[])):Option (AV×Blocks))) (by kernel_rfl) ?_
  simp only [Zf,decide_eq_true_eq] at hpre
  obtain ⟨⟨⟨⟨⟨ka,kl⟩,ma⟩,ml⟩,ja⟩,na⟩:=hpre
  simp only [ka,kl,ma,ml,ja,na,decide_true,Vq,↓A0,A0]
  unfold Kerb.Server.same
  dsimp only
  have g0:(m1==n1&&(m2==n2&&m3==n3))=Kerb.Prin.eqb ⟨m1,m2,m3⟩ ⟨n1,n2,n3⟩:=rfl
  rw [g0]
  cases Kerb.Prin.eqb ⟨m1,m2,m3⟩ ⟨n1,n2,n3⟩
  ·rfl
  cases (sk==sl)
  ·rfl
  cases Wh (kls.map Kerb.toSKey) (jls.map Kerb.toSKey)<;>rfl
 ·cases h
theorem w39:Walked Tryz.prog G 39 2 sp39:=by
 refine ⟨Tryz.f39,Tryz.func39,by decide +kernel,rfl,fun xs bl r h=> ?_⟩
 unfold sp39 at h
 split at h
 ·rename_i m1 m2 m3 kls sz fl mls sk
  obtain ⟨hpre,h2⟩:=chk_inv h;cases h2
  refine Eq.trans (b:=(Zq (chk (decide (Zz kls≤1000000)) (some (AV.ownL kls,[]))) fun (r:AV×Blocks)=>onNilB (Zd r) (AV.onOwnL (Zm r) fun l=>Zq (chk (decide (Zz mls≤1000000)) (some (AV.ownL mls,[]))) fun (r:AV×Blocks)=>onNilB (Zd r) (AV.onOwnL (Zm r) fun l_1=>some (Wd [Zj m1,Zj m2,Zj m3,Yw 5 l,Zy .i64 sz,Zy .i64 fl,Yw 5 l_1,Zy .i64 sk],[]))):Option (AV×Blocks))) (by kernel_rfl) ?_
  simp only [Zf,decide_eq_true_eq] at hpre
  simp only [hpre,decide_true,↓A0,A0]
 ·cases h
theorem w61:Walked Tryz.prog G 61 2 sp61:=by
 refine ⟨Tryz.f61,Tryz.func61,by decide +kernel,rfl,fun xs bl r h=> ?_⟩
 unfold sp61 at h
 split at h
 ·rename_i n
  obtain ⟨hpre,h2⟩:=chk_inv h;cases h2
  refine Eq.trans (b:=(chk (decide (0≤Zg n 3)&&decide (Zg n 3<(↑(Zz [Zj [(65:UInt8),(84:UInt8),(72:UInt8)],Zj [(66:UInt8),(79:UInt8),(83:UInt8)],Zj [(67:UInt8),(65:UInt8),(77:UInt8)]]):Int))&&true) (Wu (Yk [Zj [(65:UInt8),(84:UInt8),(72:UInt8)],Zj [(66:UInt8),(79:UInt8),(83:UInt8)],Zj [(67:UInt8),(65:UInt8),(77:UInt8)]] (Zv (Zg n 3)) Wz) fun b=>some (Zj b,[])):Option (AV×Blocks))) (by kernel_rfl) ?_
  have hn:0≤n:=by first | exact of_decide_eq_true hpre | (simp only [Zf,decide_eq_true_eq] at hpre;exact hpre.1)
  have ht:Zg n 3=n % 3:=Yn hn
  have hcase:n % 3=0∨n % 3=1∨n % 3=2:=by omega
  rcases hcase with e | e | e<;>simp [ht,e,chk,Wu,Kerb.realm]
 ·cases h
theorem w81:Walked Tryz.prog G 81 2 sp81:=by
 refine ⟨Tryz.f81,Tryz.func81,by decide +kernel,rfl,fun xs bl r h=> ?_⟩
 unfold sp81 at h
 split at h
 ·rename_i s
  obtain ⟨hpre,h2⟩:=chk_inv h;cases h2
  refine Eq.trans (b:=(sel (decide ((↑(Zz s):Int)>0)) (Zq (chk (decide (Zz s≤9223372036854775807)&&true) (some (Zu (Yd s [(64:UInt8)]&&decide (Zz s≤39)),[]))) fun (r:AV×Blocks)=>onNilB (Zd r) (Xq (Zm r) fun b=>some (Zu b,[]))) (some (Zu false,[])):Option (AV×Blocks))) (by kernel_rfl) ?_
  simp only [A0]
  rw [chk_of (by rw [hpre];rfl)]
  simp only [Kerb.validRealm]
  cases s with
  | nil=>rfl
  | cons x r =>
   rw [sel_pos (by first | (simp;done) | (simp;omega)),Bool.and_comm]
   rfl
 ·cases h
theorem w83:Walked Tryz.prog G 83 2 sp83:=by
 refine ⟨Tryz.f83,Tryz.func83,by decide +kernel,rfl,fun xs bl r h=> ?_⟩
 unfold sp83 at h
 split at h
 ·rename_i b n
  obtain ⟨hpre,h2⟩:=chk_inv h;cases h2
  refine Eq.trans (b:=(Zq (chk (decide (Zz b≤70368744177664)) (some (Zn (b++Yg n (Zv 1) false),[]))) fun (r:AV×Blocks)=>onNilB (Zd r) (Xu (Zm r) fun l=>some (Zn l,[])):Option (AV×Blocks))) (by kernel_rfl) ?_
  simp only [decide_eq_true_eq] at hpre
  simp only [A0]
  rw [chk_of (by simp;omega)]
  rfl
 ·cases h
theorem w100:Walked Tryz.prog G 100 2 sp100:=by
 refine ⟨Tryz.f100,Tryz.func100,by decide +kernel,rfl,fun xs bl r h=> ?_⟩
 unfold sp100 at h
 split at h
 ·rename_i a b s
  cases h
  refine Eq.trans (b:=(sel (!Zp a 4294967295) (some (Zu false,[])) (sel (!Zp b 4294967295) (some (Zu false,[])) (sel (!Zp s 4294967295) (some (Zu false,[])) (sel (decide (Zx .i64 (a-b)≤s)) (some (Zu (decide (Zx .i64 (b-a)≤s)),[])) (some (Zu false,[]))))):Option (AV×Blocks))) (by kernel_rfl) ?_
  unfold Kerb.near
  cases h1:Zp a 4294967295
  ·rfl
  cases h2:Zp b 4294967295
  ·rfl
  have a1:=Kerb.within_iff.1 h1
  have a2:=Kerb.within_iff.1 h2
  simp only [Xz,sel_false,Vq,Uw]
  rw [wrap_i64 (n:=a-b) (by omega) (by omega),wrap_i64 (n:=b-a) (by omega) (by omega)]
  cases h3:Zp s 4294967295
  ·rfl
  cases decide (a-b≤s)<;>rfl
 ·cases h
theorem w103:Walked Tryz.prog G 103 2 sp103:=by
 refine ⟨Tryz.f103,Tryz.func103,by decide +kernel,rfl,fun xs bl r h=> ?_⟩
 unfold sp103 at h
 split at h
 ·rename_i sz fl mls a1 a2 a3 at_ atk
  obtain ⟨hpre,h2⟩:=chk_inv h;cases h2
  refine Eq.trans (b:=(Zq (chk (List.all mls Kerb.isMark&&decide (Zz mls≤1000000)) (some (Zu (Kerb.hasMark (List.map Kerb.toMark mls) (Kerb.Mark.mk (Kerb.Prin.mk a1 a2 a3) at_ atk)),[]))) fun (r:AV×Blocks)=>onNilB (Zd r) (Xq (Zm r) fun b=>some (Zu b,[])):Option (AV×Blocks))) (by kernel_rfl) ?_
  simp only [hpre,↓A0,A0]
 ·cases h
theorem w116:Walked Tryz.prog G 116 2 sp116:=by
 refine ⟨Tryz.f116,Tryz.func116,by decide +kernel,rfl,fun xs bl r h=> ?_⟩
 unfold sp116 at h
 split at h
 ·rename_i k little
  cases h
  refine Eq.trans (b:=(sel (!Xx k) (some (Zb [],[])) (sel little (some (Zb [(4:UInt8),Yv (Zv (Zx .u8 (Zx .i64 (Zx .i64 (2*k)+1))))],[])) (some (Zb [(4:UInt8),Yv (Zv (Zx .u8 (Zx .i64 (2*k))))],[]))):Option (AV×Blocks))) (by kernel_rfl) ?_
  by_cases h:1≤k∧k≤10
  ·have hk:k=1∨k=2∨k=3∨k=4∨k=5∨k=6∨k=7∨k=8∨k=9∨k=10:=by omega
   rcases hk with rfl | rfl | rfl | rfl | rfl | rfl | rfl | rfl | rfl | rfl<;>cases little<;>rfl
  ·have hk:Xx k=false:=by simp [Xx];omega
   by_cases h1:k<1
   ·simp [sel,Wb,hk,h1]
   ·have h2:10<k:=by omega
    simp [sel,Wb,hk,h1,h2]
 ·cases h
theorem w118:Walked Tryz.prog G 118 2 sp118:=by
 refine ⟨Tryz.f118,Tryz.func118,by decide +kernel,rfl,fun xs bl r h=> ?_⟩
 unfold sp118 at h
 split at h
 ·rename_i els
  obtain ⟨hpre,h2⟩:=chk_inv h;cases h2
  refine Eq.trans (b:=(Zq (loopM (fun (st:List AV)=>cSl 1 st fun b r=>cInt .i64 r fun n r=>cSl 1 r fun b_1 r=>cInt .i64 r fun n_1 r=>cInt .i64 r fun n_2 r=>onNil r (sel (decide (n_2<n_1)) (chk (decide (0≤n_2)&&decide (n_2<(↑(Zz b_1):Int))&&true) (AV.onBs (Yk b_1 (Zv n_2) Wz) fun b_2=>sel (decide (Zx .i64 (n+(↑(Zz b_2):Int))<0)) none (some (Xm [Yw 1 b,Zy .i64 (Zx .i64 (n+(↑(Zz b_2):Int))),Yw 1 b_1,Zy .i64 n_1,Zy .i64 (Zx .i64 (n_2+1))])))) (some (Xv (Yb 0,[Yw 1 b,Zy .i64 n,Yw 1 b_1,Zy .i64 n_1,Zy .i64 n_2]))))) [Yw 1 els,Zy .i64 0,Yw 1 els,Zy .i64 (↑(Zz els):Int),Zy .i64 0]) fun (r:Ex×List AV)=>cSl 1 (Zd r) fun b r_1=>cInt .i64 r_1 fun n r_2=>cSl 1 r_2 fun b_1 r_3=>cInt .i64 r_3 fun n_1 r_4=>cInt .i64 r_4 fun n_2 r_5=>onNil r_5 (exK r.1 none fun (j:Nat)=>sel (Xh j 0) (Zq (chk (decide (0≤n)&&decide (n≤140737488355328)) (some (Zn [],[]))) (kO fun l=>Zq (loopM (fun (st:List AV)=>onCons st fun x r=>Xu x fun b=>cSl 1 r fun b_2 r=>cInt .i64 r fun n r=>cInt .i64 r fun n_3 r=>onNil r (sel (decide (n_3<n)) (chk (decide (0≤n_3)&&decide (n_3<(↑(Zz b_2):Int))&&true) (AV.onBs (Yk b_2 (Zv n_3) Wz) fun b_3=>chk (room (Zz b+Zz b_3) 1) (some (Xm [Zn (b++b_3),Yw 1 b_2,Zy .i64 n,Zy .i64 (Zx .i64 (n_3+1))])))) (some (Xv (Yb 2,[Zn b,Yw 1 b_2,Zy .i64 n,Zy .i64 n_3]))))) [Zn l,Yw 1 b,Zy .i64 (↑(Zz b):Int),Zy .i64 0]) fun (r:Ex×List AV)=>onCons (Zd r) fun x r_6=>Xu x fun b=>cSl 1 r_6 fun b_2 r_7=>cInt .i64 r_7 fun n r_8=>cInt .i64 r_8 fun n r_9=>onNil r_9 (exK r.1 none fun (j:Nat)=>sel (Xh j 2) (some (Zn b,[])) none))) none):Option (AV×Blocks))) (by kernel_rfl) ?_
  delta kO
  try dsimp only [cStr,cBs,cBool,cU8,cInt,cSl,l63]
  simp only [Zf,decide_eq_true_eq] at hpre
  obtain ⟨⟨ha,hl⟩,hbig⟩:=hpre
  refine loop_rounds (fun i:Nat=>[Yw 1 els,Zy Zw ((catB (els.take i)).length:Int),Yw 1 els,Zy Zw (els.length:Int),Zy Zw (i:Int)]) (fun i=>i≤els.length) (fun i=>els.length-i)
   (fun r=>r=(Yb 0,[Yw 1 els,Zy Zw ((catB els).length:Int),Yw 1 els,Zy Zw (els.length:Int),Zy Zw (els.length:Int)])) 0 (Xf _) rfl ?_ ?_
  ·intro i hi
   simp only [A0]
   by_cases hlt:i<els.length
   ·obtain ⟨l,h1,h2,h3⟩:=Kerb.cat_step ha hlt
    rw [sel_pos (by simp;omega),chk_of (by simp;omega),Yj,h1,onBs_bs,wrap_i64 (n:=((catB (els.take i)).length:Int)+(l.length:Int)) (by omega) (by omega),sel_neg (by simp;omega),wrap_i64 (by omega) (by omega)]
    refine ⟨_,rfl,i+1,?_,by omega,by dsimp only;omega⟩
    dsimp only
    rw [h2,List.length_append,Int.natCast_add]
    rfl
   ·rw [sel_neg (by simp;omega)]
    refine ⟨_,rfl,?_⟩
    show _=_
    rw [Xp (by omega),show i=els.length from by omega]
  rintro r rfl
  simp only [A0]
  rw [sel_pos (Yu _),chk_of (by simp;omega)]
  refine loop_rounds (fun i:Nat=>[Zn (catB (els.take i)),Yw 1 els,Zy Zw (els.length:Int),Zy Zw (i:Int)]) (fun i=>i≤els.length) (fun i=>els.length-i)
   (fun r=>r=(Yb 2,[Zn (catB els),Yw 1 els,Zy Zw (els.length:Int),Zy Zw (els.length:Int)])) 0 (Xf _) rfl ?_ ?_
  ·intro i hi
   simp only [A0]
   by_cases hlt:i<els.length
   ·obtain ⟨l,h1,h2,h3⟩:=Kerb.cat_step ha hlt
    rw [sel_pos (by simp;omega),chk_of (by simp;omega),Yj,h1,onBs_bs,chk_of (Zh (by omega)),wrap_i64 (by omega) (by omega)]
    refine ⟨_,rfl,i+1,?_,by omega,by dsimp only;omega⟩
    dsimp only
    rw [h2]
    rfl
   ·rw [sel_neg (by simp;omega)]
    refine ⟨_,rfl,?_⟩
    show _=_
    rw [Xp (by omega),show i=els.length from by omega]
  rintro r rfl
  simp only [A0]
  rw [sel_pos (Yu _)]
 ·cases h
theorem w119:Walked Tryz.prog G 119 2 sp119:=by
 refine ⟨Tryz.f119,Tryz.func119,by decide +kernel,rfl,fun xs bl r h=> ?_⟩
 unfold sp119 at h
 split at h
 ·rename_i b n little
  obtain ⟨hpre,h2⟩:=chk_inv h;cases h2
  refine Eq.trans (b:=(Zq (chk (decide (Zz b≤70368744177664)) (some (Zn (b++Yg n (Zv 4) little),[]))) fun (r:AV×Blocks)=>onNilB (Zd r) (Xu (Zm r) fun l=>some (Zn l,[])):Option (AV×Blocks))) (by kernel_rfl) ?_
  simp only [decide_eq_true_eq] at hpre
  simp only [A0]
  rw [chk_of (by simp;omega)]
  rfl
 ·cases h
theorem w122:Walked Tryz.prog G 122 2 sp122:=by
 refine ⟨Tryz.f122,Tryz.func122,by decide +kernel,rfl,fun xs bl r h=> ?_⟩
 unfold sp122 at h
 split at h
 ·rename_i k
  obtain ⟨hpre,h2⟩:=chk_inv h;cases h2
  refine Eq.trans (b:=(sel (!k==0) (some (Zu ((bif Vf (Zx .i64 (Wf k (2 ^ min (Zv 56) (Zk .u64))))&&Vu (Zx .i64 (Zx .u64 (↑(BitVec.toNat (BitVec.ofInt (Zk .u64) k &&& BitVec.ofInt (Zk .u64) 72057594037927935)):Int))) then Zx .i64 (Wf k (2 ^ min (Zv 56) (Zk .u64)))*72057594037927936+Zx .i64 (Zx .u64 (↑(BitVec.toNat (BitVec.ofInt (Zk .u64) k &&& BitVec.ofInt (Zk .u64) 72057594037927935)):Int)) else 0)==k),[])) (some (Zu false,[])):Option (AV×Blocks))) (by kernel_rfl) ?_
  simp only [Zf,decide_eq_true_eq] at hpre
  obtain ⟨h0,h1⟩:=hpre
  rw [Kerb.key_hi h0 h1,Kerb.key_lo h0 h1,Kerb.key_sum]
  by_cases hk:k=0
  ·subst hk;rfl
  rw [sel_pos (by simpa using hk)]
  unfold Yf
  cases Vf (Kerb.keyClass k)&&Vu (Kerb.keySerial k)
  ·have q:((0:Int)==k)=false:=by simp;omega
   simp only [cond_false,q]
  ·simp only [cond_true,BEq.rfl]
 ·cases h
theorem w129:Walked Tryz.prog G 129 2 sp129:=by
 refine ⟨Tryz.f129,Tryz.func129,by decide +kernel,rfl,fun xs bl r h=> ?_⟩
 unfold sp129 at h
 split at h
 ·rename_i kls x y z v
  obtain ⟨hpre,h2⟩:=chk_inv h;cases h2
  refine Eq.trans (b:=(Zq (loopM (fun (st:List AV)=>cSl 5 st fun b r=>cStr r fun b_1 r=>cStr r fun b_2 r=>cStr r fun b_3 r=>cInt .i64 r fun n r=>cInt .i64 r fun n_1 r=>cSl 5 r fun b_4 r=>cInt .i64 r fun n_2 r=>cInt .i64 r fun n_3 r=>onNil r (sel (decide (n_3<n_2)) (chk (decide (0≤n_3)&&decide (n_3<(↑(Zz b_4):Int))&&true) (Vd (Yk b_4 (Zv n_3) Wz) fun cs=>cStr cs fun b_5 r=>cStr r fun b_6 r=>cStr r fun b_7 r=>cInt .i64 r fun n_4 r=>cInt .u64 r fun n_5 r=>onNil r (sel (b_5==b_1&&(b_6==b_2&&(b_7==b_3&&n_4==n))) (some (Xv (Ex.ret,[Yw 5 b,Zj b_1,Zj b_2,Zj b_3,Zy .i64 n,Zy .i64 n_3,Yw 5 b_4,Zy .i64 n_2,Zy .i64 n_3]))) (some (Xm [Yw 5 b,Zj b_1,Zj b_2,Zj b_3,Zy .i64 n,Zy .i64 n_1,Yw 5 b_4,Zy .i64 n_2,Zy .i64 (Zx .i64 (n_3+1))]))))) (some (Xv (Yb 0,[Yw 5 b,Zj b_1,Zj b_2,Zj b_3,Zy .i64 n,Zy .i64 n_1,Yw 5 b_4,Zy .i64 n_2,Zy .i64 n_3]))))) [Yw 5 kls,Zj x,Zj y,Zj z,Zy .i64 v,Zy .i64 0,Yw 5 kls,Zy .i64 (↑(Zz kls):Int),Zy .i64 0]) fun (r:Ex×List AV)=>cSl 5 (Zd r) fun b r_1=>cStr r_1 fun b_1 r_2=>cStr r_2 fun b_2 r_3=>cStr r_3 fun b_3 r_4=>cInt .i64 r_4 fun n r_5=>cInt .i64 r_5 fun n r_6=>cSl 5 r_6 fun b_4 r_7=>cInt .i64 r_7 fun n_1 r_8=>cInt .i64 r_8 fun n_2 r_9=>onNil r_9 (exK r.1 (some (Zy .i64 n,[])) fun (j:Nat)=>sel (Xh j 0) (some (Zy .i64 (↑(Zz b):Int),[])) none):Option (AV×Blocks))) (by kernel_rfl) ?_
  try dsimp only [cStr,cBs,cBool,cU8,cInt,cSl,l63]
  simp only [Zf,decide_eq_true_eq] at hpre
  obtain ⟨hall,hlen⟩:=hpre
  obtain ⟨cs,rfl,hok⟩:=Kerb.skeys_of hall
  rw [Kerb.map_toSKey]
  simp only [Xk] at hlen ⊢
  refine loop_rounds (fun i:Nat=>[Yw 5 (cs.map Xw),Zj x,Zj y,Zj z,Zy Zw v,Zy Zw 0,Yw 5 (cs.map Xw),Zy Zw (cs.length:Int),Zy Zw (i:Int)]) (fun i=>i≤cs.length∧Vw cs ⟨x,y,z⟩ v=i+Vw (cs.drop i) ⟨x,y,z⟩ v) (fun i=>cs.length-i)
   (fun r=>∃ (i:Nat) (n:Int),r.2=[Yw 5 (cs.map Xw),Zj x,Zj y,Zj z,Zy Zw v,Zy Zw n,Yw 5 (cs.map Xw),Zy Zw (cs.length:Int),Zy Zw (i:Int)]∧((r.1 = .ret∧n=(Vw cs ⟨x,y,z⟩ v:Nat))∨(r.1 = .exit 0∧Vw cs ⟨x,y,z⟩ v=cs.length))) 0 ⟨Xf _,by simp⟩ rfl ?_ ?_
  ·rintro i ⟨hi,hp⟩
   simp only [↓A0,A0]
   by_cases hlt:i<cs.length
   ·rw [sel_pos (by simp;omega),chk_of (by simp;omega),Yj,Wp (d:=Wg) hlt]
    have hd:=Kerb.drop_row (d:=Wg) hlt
    generalize cs.getD i Wg=c at hd
    simp only [Xw,↓A0,A0]
    have he0:(c.service.name==x&&(c.service.inst==y&&(c.service.realm==z&&c.kvno==v)))=Kerb.SKey.is ⟨x,y,z⟩ v c:=by
     simp only [Kerb.SKey.is,Kerb.Prin.eqb,Bool.and_assoc]
    rw [he0]
    cases he:Kerb.SKey.is ⟨x,y,z⟩ v c
    ·rw [sel_false,wrap_i64 (by omega) (by omega)]
     refine ⟨_,rfl,i+1,rfl,⟨by omega,?_⟩,by dsimp only;omega⟩
     rw [hp,hd]
     simp only [Vw,List.findIdx_cons,he,cond_false]
     omega
    ·rw [sel_true]
     refine ⟨_,rfl,i,_,rfl,.inl ⟨rfl,?_⟩⟩
     rw [hp,hd]
     simp only [Vw,List.findIdx_cons,he,cond_true]
     omega
   ·rw [sel_neg (by simp;omega)]
    refine ⟨_,rfl,i,_,rfl,.inr ⟨rfl,?_⟩⟩
    rw [hp,Yq (by omega)]
    simp [Vw];omega
  ·rintro ⟨e,l⟩ ⟨i,n,rfl,⟨rfl,h⟩ | ⟨rfl,h⟩⟩
   ·simp only [↓A0,A0,h]
   ·simp only [↓A0,A0,h,Xk]
    rw [sel_pos (Yu _)]
 ·cases h
theorem w138:Walked Tryz.prog G 138 2 sp138:=by
 refine ⟨Tryz.f138,Tryz.func138,by decide +kernel,rfl,fun xs bl r h=> ?_⟩
 unfold sp138 at h
 split at h
 ·rename_i s
  obtain ⟨hpre,h2⟩:=chk_inv h;cases h2
  refine Eq.trans (b:=(sel (decide ((↑(Zz s):Int)>0)) (Zq (chk (decide (Zz s≤9223372036854775807)&&true) (some (Zu (Yd s [(46:UInt8),(64:UInt8)]&&decide (Zz s≤39)),[]))) fun (r:AV×Blocks)=>onNilB (Zd r) (Xq (Zm r) fun b=>some (Zu b,[]))) (some (Zu false,[])):Option (AV×Blocks))) (by kernel_rfl) ?_
  simp only [A0]
  rw [chk_of (by rw [hpre];rfl)]
  simp only [Vg]
  cases s with
  | nil=>rfl
  | cons x r =>
   rw [sel_pos (by first | (simp;done) | (simp;omega)),Bool.and_comm]
   rfl
 ·cases h
theorem w139:Walked Tryz.prog G 139 2 sp139:=by
 refine ⟨Tryz.f139,Tryz.func139,by decide +kernel,rfl,fun xs bl r h=> ?_⟩
 unfold sp139 at h
 split at h
 ·rename_i s
  obtain ⟨hpre,h2⟩:=chk_inv h;cases h2
  refine Eq.trans (b:=(Zq (chk (decide (Zz s≤9223372036854775807)&&true) (some (Zu (Yd s [(64:UInt8)]&&decide (Zz s≤39)),[]))) fun (r:AV×Blocks)=>onNilB (Zd r) (Xq (Zm r) fun b=>some (Zu b,[])):Option (AV×Blocks))) (by kernel_rfl) ?_
  simp only [A0]
  rw [chk_of (by rw [hpre];rfl),Bool.and_comm]
  rfl
 ·cases h
theorem w142:Walked Tryz.prog G 142 2 sp142:=by
 refine ⟨Tryz.f142,Tryz.func142,by decide +kernel,rfl,fun xs bl r h=> ?_⟩
 unfold sp142 at h
 split at h
 ·rename_i b
  cases h
  refine Eq.trans (b:=(sel (decide ((↑(Zz b):Int)<2)) (some (Yz [Zy .i64 0,Zu false,Zy .i64 101],[])) (chk (decide (0<(↑(Zz b):Int))) (sel (!Yk b (Zv 0) (0:UInt8)==(4:UInt8)) (some (Yz [Zy .i64 0,Zu false,Zy .i64 39],[])) (chk (decide (1<(↑(Zz b):Int))) (sel (!Xx (Zx .i64 (Vz (Zx .i64 (↑(Yx (Yk b (Zv 1) (0:UInt8))):Int)) 2))) (some (Yz [Zy .i64 0,Zu false,Zy .i64 40],[])) (chk (decide (1<(↑(Zz b):Int))) (some (Yz [Zy .i64 (Zx .i64 (Vz (Zx .i64 (↑(Yx (Yk b (Zv 1) (0:UInt8))):Int)) 2)),Zu (Yv (Zv (Zg (↑(Yx (Yk b (Zv 1) (0:UInt8))):Int) (↑(Yx (2:UInt8)):Int)))==(1:UInt8)),Zy .i64 0],[]))))))):Option (AV×Blocks))) (by kernel_rfl) ?_
  unfold Wv
  by_cases h1:b.length<2
  ·rw [sel_pos (by simp;omega)]
   simp [h1]
  rw [sel_neg (by simp;omega),chk_of (by simp;omega),if_neg h1]
  by_cases h2:b.getD 0 0=4
  ·have hb:=(b.getD 1 0).toNat_lt
   have e:Zx Zw (Vz (Zx Zw ((b.getD (Zv 1) 0).toNat:Int)) 2)=(((b.getD 1 0).toNat / 2:Nat):Int):=by
    rw [show Zv 1=1 from rfl,wrap_i64 (n:=((b.getD 1 0).toNat:Int)) (by omega) (by omega),Vm (by omega),wrap_i64 (by omega) (by omega)];omega
   have e2:(Yv (Zv (Zg ((b.getD (Zv 1) 0).toNat:Int) ((2:UInt8).toNat:Int)))==1)=decide ((b.getD 1 0).toNat % 2=1):=by
    rw [show Zv 1=1 from rfl,Yn (by omega)]
    have e3:Zv (((b.getD 1 0).toNat:Int) % ((2:UInt8).toNat:Int))=(b.getD 1 0).toNat % 2:=by
     show Zv (((b.getD 1 0).toNat:Int) % 2)=_
     omega
    rw [e3]
    rcases Nat.mod_two_eq_zero_or_one (b.getD 1 0).toNat with h | h<;>rw [h]<;>rfl
   rw [sel_neg (by simp [h2] at *;exact h2),chk_of (by simp;omega),if_neg (by simpa using h2),e,e2]
   cases hk:Xx (((b.getD 1 0).toNat / 2:Nat):Int)
   ·rfl
   ·rw [Xz,sel_false,chk_of (by simp;omega)]
    rfl
  ·rw [sel_pos (by simpa using h2),if_pos (by simpa using h2)]
 ·cases h
theorem w146:Walked Tryz.prog G 146 2 sp146:=by
 refine ⟨Tryz.f146,Tryz.func146,by decide +kernel,rfl,fun xs bl r h=> ?_⟩
 unfold sp146 at h
 split at h
 ·rename_i b pos n
  obtain ⟨hpre,h2⟩:=chk_inv h;cases h2
  refine Eq.trans (b:=(Zq (chk (decide (Zz b≤4611686018427387904)) (some (Zy .i64 (Vv b pos n),[]))) fun (r:AV×Blocks)=>onNilB (Zd r) (Xd .i64 (Zm r) fun n_1=>sel (!n_1==0) (some (Yz [Zb [],Zy .i64 0,Zy .i64 n_1],[])) (chk (decide (0≤pos)&&decide (pos≤Zx .i64 (pos+n))&&decide (Zx .i64 (pos+n)≤(↑(Zz b):Int))) (Zq (chk (decide (Zz (Wk (Zv pos) (Wy (Zv (Zx .i64 (pos+n))) b))≤140737488355328)) (some (Zb (Wk (Zv pos) (Wy (Zv (Zx .i64 (pos+n))) b)),[]))) fun (r:AV×Blocks)=>onNilB (Zd r) (AV.onBs (Zm r) fun b=>some (Yz [Zb b,Zy .i64 (Zx .i64 (pos+n)),Zy .i64 0],[]))))):Option (AV×Blocks))) (by kernel_rfl) ?_
  have hb:=of_decide_eq_true hpre
  simp only [A0]
  rw [chk_of (by simp;omega)]
  unfold Vb
  by_cases hr:Vv b pos n=0
  ·obtain ⟨q1,q2,q3,q4⟩:=Kerb.room_zero.1 hr
   have e:Wk (Zv pos) (Wy (Zv (pos+n)) b)=Kerb.cut b pos n:=by
    rw [show Zv (pos+n)=pos.toNat+n.toNat by omega,List.drop_take,show pos.toNat+n.toNat-pos.toNat=n.toNat by omega]
    rfl
   have hc:=Kerb.cut_length hr
   rw [sel_neg (by simp [hr]),if_pos hr,wrap_i64 (by omega) (by omega),e,chk_of (by simp;omega),chk_of (by simp;omega)]
  ·rw [sel_pos (by simpa using hr),if_neg hr]
 ·cases h
theorem w151:Walked Tryz.prog G 151 2 sp151:=by
 refine ⟨Tryz.f151,Tryz.func151,by decide +kernel,rfl,fun xs bl r h=> ?_⟩
 unfold sp151 at h
 split at h
 ·rename_i b x y z
  obtain ⟨hpre,h2⟩:=chk_inv h;cases h2
  refine Eq.trans (b:=(Zq (chk (decide (Zz b+Zz x≤70368744177664)) (some (Zb (Xy b x),[]))) fun (r:AV×Blocks)=>onNilB (Zd r) (AV.onBs (Zm r) fun b=>Zq (chk (decide (Zz b+Zz y≤70368744177664)) (some (Zb (Xy b y),[]))) fun (r:AV×Blocks)=>onNilB (Zd r) (AV.onBs (Zm r) fun b=>Zq (chk (decide (Zz b+Zz z≤70368744177664)) (some (Zb (Xy b z),[]))) fun (r:AV×Blocks)=>onNilB (Zd r) (AV.onBs (Zm r) fun b=>some (Zb b,[])))):Option (AV×Blocks))) (by kernel_rfl) ?_
  simp only [decide_eq_true_eq] at hpre
  simp only [A0]
  rw [chk_of (by simp;omega),chk_of (by simp [Xy];omega),chk_of (by simp [Xy];omega)]
  rfl
 ·cases h
theorem w158:Walked Tryz.prog G 158 2 sp158:=by
 refine ⟨Tryz.f158,Tryz.func158,by decide +kernel,rfl,fun xs bl r h=> ?_⟩
 unfold sp158 at h
 split at h
 ·rename_i i l
  cases h
  refine Eq.trans (b:=(sel (!Zp i 4294967295) (some (Zy .i64 0,[])) (sel (!Zp l 255) (some (Zy .i64 0,[])) (some (Zy .i64 (Zx .i64 (i+Zx .i64 (300*Zx .i64 (l+1)))),[]))):Option (AV×Blocks))) (by kernel_rfl) ?_
  unfold Kerb.tEnd
  cases h1:Zp i 4294967295
  ·rfl
  cases h2:Zp l 255
  ·rfl
  have a1:=Kerb.within_iff.1 h1
  have a2:=Kerb.within_iff.1 h2
  simp only [Xz,sel_false,Vq,if_true]
  rw [wrap_i64 (n:=l+1) (by omega) (by omega),wrap_i64 (n:=300*(l+1)) (by omega) (by omega),wrap_i64 (by omega) (by omega)]
 ·cases h
theorem w161:Walked Tryz.prog G 161 2 sp161:=by
 refine ⟨Tryz.f161,Tryz.func161,by decide +kernel,rfl,fun xs bl r h=> ?_⟩
 unfold sp161 at h
 split at h
 ·rename_i k
  obtain ⟨hpre,h2⟩:=chk_inv h;cases h2
  refine Eq.trans (b:=(sel (!Vf (Zx .i64 (Wf k (2 ^ min (Zv 56) (Zk .u64))))) (some (Yz [Zy .i64 0,Zy .i64 0,Zu false],[])) (sel (!Vu (Zx .i64 (Zx .u64 (↑(BitVec.toNat (BitVec.ofInt (Zk .u64) k &&& BitVec.ofInt (Zk .u64) 72057594037927935)):Int)))) (some (Yz [Zy .i64 0,Zy .i64 0,Zu false],[])) (some (Yz [Zy .i64 (Zx .i64 (Wf k (2 ^ min (Zv 56) (Zk .u64)))),Zy .i64 (Zx .i64 (Zx .u64 (↑(BitVec.toNat (BitVec.ofInt (Zk .u64) k &&& BitVec.ofInt (Zk .u64) 72057594037927935)):Int))),Zu true],[]))):Option (AV×Blocks))) (by kernel_rfl) ?_
  simp only [Zf,decide_eq_true_eq] at hpre
  obtain ⟨h0,h1⟩:=hpre
  rw [Kerb.key_hi h0 h1,Kerb.key_lo h0 h1]
  unfold Yf
  cases Vf (Kerb.keyClass k)
  ·rfl
  cases Vu (Kerb.keySerial k)<;>rfl
 ·cases h
theorem w167:Walked Tryz.prog G 167 2 sp167:=by
 refine ⟨Tryz.f167,Tryz.func167,by decide +kernel,rfl,fun xs bl r h=> ?_⟩
 unfold sp167 at h
 split at h
 ·rename_i b pos k little
  obtain ⟨hpre,h2⟩:=chk_inv h;cases h2
  refine Eq.trans (b:=(Zq (chk (decide (Zz b≤4611686018427387904)) (some (Zy .i64 (Vv b pos k),[]))) (kI .i64 fun n=>sel (!n==0) (some (Yz [Zy .i64 0,Zy .i64 0,Zy .i64 n],[])) (Zq (loopM (fun (st:List AV)=>cBs st fun b r=>cInt .i64 r fun n r=>cInt .i64 r fun n_1 r=>cBool r fun b_1 r=>cInt .i64 r fun n_2 r=>let t0:BitVec (Zk .i64):=BitVec.ofInt (Zk .i64) (Zx .i64 (n_2*2 ^ min (Zv 8) (Zk .i64)));cInt .i64 r fun n_3 r=>cInt .i64 r fun n_4 r=>let t1:Int:=Zx .i64 (n+Zx .i64 (Zx .i64 (n_1-1)-n_4));onNil r (sel (decide (n_4<n_3)) (sel b_1 (chk (decide (0≤t1)&&decide (t1<(↑(Zz b):Int))) (some (Xm [Zb b,Zy .i64 n,Zy .i64 n_1,Zu b_1,Zy .i64 (Zx .i64 (↑(BitVec.toNat (t0 ||| BitVec.ofInt (Zk .i64) (Zx .i64 (↑(Yx (Yk b (Zv t1) (0:UInt8))):Int)))):Int)),Zy .i64 n_3,Zy .i64 (Zx .i64 (n_4+1))]))) (chk (decide (0≤Zx .i64 (n+n_4))&&decide (Zx .i64 (n+n_4)<(↑(Zz b):Int))) (some (Xm [Zb b,Zy .i64 n,Zy .i64 n_1,Zu b_1,Zy .i64 (Zx .i64 (↑(BitVec.toNat (t0 ||| BitVec.ofInt (Zk .i64) (Zx .i64 (↑(Yx (Yk b (Zv (Zx .i64 (n+n_4))) (0:UInt8))):Int)))):Int)),Zy .i64 n_3,Zy .i64 (Zx .i64 (n_4+1))])))) (some (Xv (Yb 0,[Zb b,Zy .i64 n,Zy .i64 n_1,Zu b_1,Zy .i64 n_2,Zy .i64 n_3,Zy .i64 n_4]))))) [Zb b,Zy .i64 pos,Zy .i64 k,Zu little,Zy .i64 0,Zy .i64 k,Zy .i64 0]) fun (r:Ex×List AV)=>cBs (Zd r) fun b r_1=>cInt .i64 r_1 fun n r_2=>cInt .i64 r_2 fun n_1 r_3=>cBool r_3 fun b r_4=>cInt .i64 r_4 fun n_2 r_5=>cInt .i64 r_5 fun n_3 r_6=>cInt .i64 r_6 fun n_4 r_7=>onNil r_7 (exK r.1 none fun (j:Nat)=>sel (Xh j 0) (some (Yz [Zy .i64 n_2,Zy .i64 (Zx .i64 (n+n_1)),Zy .i64 0],[])) none))):Option (AV×Blocks))) (by kernel_rfl) ?_
  delta kI
  try dsimp only [cStr,cBs,cBool,cU8,cInt,cSl,l63]
  simp only [Zf,decide_eq_true_eq] at hpre
  obtain ⟨⟨hb,hk0⟩,hk4⟩:=hpre
  simp only [A0]
  rw [chk_of (by simpa using hb)]
  unfold Ww
  by_cases hr:Vv b pos k=0
  ·rw [sel_neg (by simp [hr]),if_pos hr]
   obtain ⟨q1,q2,q3,q4⟩:=Kerb.room_zero.1 hr
   have hcl:=Kerb.cut_length hr
   obtain ⟨L,hL⟩:∃ L,L=cond little (Kerb.cut b pos k).reverse (Kerb.cut b pos k):=⟨_,rfl⟩
   have hLl:L.length=k.toNat:=by rw [hL];cases little<;>simp [hcl]
   rw [← hL]
   refine loop_rounds (fun i:Nat=>[Zb b,Zy Zw pos,Zy Zw k,Zu little,Zy Zw (Kerb.valB (L.take i)),Zy Zw k,Zy Zw (i:Int)]) (fun i=>i≤k.toNat) (fun i=>k.toNat-i)
    (fun r=>r=(Yb 0,[Zb b,Zy Zw pos,Zy Zw k,Zu little,Zy Zw (Kerb.valB L),Zy Zw k,Zy Zw k])) 0 (Xf _) rfl ?_ ?_
   ·intro i hi
    simp only [A0]
    by_cases hlt:i<k.toNat
    ·rw [sel_pos (by simp;omega)]
     have hv:=Kerb.valB_bd (l:=L.take i) (by simp;omega)
     have hs:=Kerb.valB_take (l:=L) (i:=i) (by omega)
     have hgd:L.getD i 0=b.getD (cond little (pos.toNat+(k.toNat-1-i)) (pos.toNat+i)) 0:=by
      rw [hL]
      cases little
      ·exact Kerb.cut_getD hlt
      ·show (Kerb.cut b pos k).reverse.getD i 0=_
       rw [Kerb.getD_reverse (by omega),hcl,Kerb.cut_getD (by omega)];rfl
     cases little
     ·rw [sel_neg rfl,wrap_i64 (n:=pos+(i:Int)) (by omega) (by omega),chk_of (by simp;omega),show (pos+(i:Int)).toNat=pos.toNat+i from by omega]
      rw [Kerb.shl8_or _ hv.1 (by omega),wrap_i64 (n:=(i:Int)+1) (by omega) (by omega)]
      refine ⟨_,rfl,i+1,?_,by omega,by dsimp only;omega⟩
      dsimp only
      rw [hs,hgd];rfl
     ·rw [sel_pos rfl,wrap_i64 (n:=k-1) (by omega) (by omega),wrap_i64 (n:=k-1-(i:Int)) (by omega) (by omega),wrap_i64 (n:=pos+(k-1-(i:Int))) (by omega) (by omega),chk_of (by simp;omega),show (pos+(k-1-(i:Int))).toNat=pos.toNat+(k.toNat-1-i) from by omega]
      rw [Kerb.shl8_or _ hv.1 (by omega),wrap_i64 (n:=(i:Int)+1) (by omega) (by omega)]
      refine ⟨_,rfl,i+1,?_,by omega,by dsimp only;omega⟩
      dsimp only
      rw [hs,hgd];rfl
    ·rw [sel_neg (by simp;omega)]
     refine ⟨_,rfl,?_⟩
     show _=_
     rw [Xp (by omega),show (i:Int)=k from by omega]
   ·rintro r rfl
    simp only [A0]
    rw [sel_pos (Yu _),wrap_i64 (by omega) (by omega)]
  ·rw [sel_pos (by simpa using hr),if_neg hr]
 ·cases h
theorem w169:Walked Tryz.prog G 169 2 sp169:=by
 refine ⟨Tryz.f169,Tryz.func169,by decide +kernel,rfl,fun xs bl r h=> ?_⟩
 unfold sp169 at h
 split at h
 ·rename_i s c
  cases h
  refine Eq.trans (b:=(some (Zy .i64 (Yy c s),[]):Option (AV×Blocks))) (by kernel_rfl) ?_
  rfl
 ·cases h
theorem w187:Walked Tryz.prog G 187 2 sp187:=by
 refine ⟨Tryz.f187,Tryz.func187,by decide +kernel,rfl,fun xs bl r h=> ?_⟩
 unfold sp187 at h
 split at h
 ·rename_i s c
  cases h
  refine Eq.trans (b:=(some (Zy .i64 (Yy c s),[]):Option (AV×Blocks))) (by kernel_rfl) ?_
  rfl
 ·cases h
theorem w25:Walked Tryz.prog G 25 3 sp25:=by
 refine ⟨Tryz.f25,Tryz.func25,by decide +kernel,rfl,fun xs bl r h=> ?_⟩
 unfold sp25 at h
 split at h
 ·rename_i n
  obtain ⟨hpre,h2⟩:=chk_inv h;cases h2
  refine Eq.trans (b:=(chk (decide (0≤Zg n 3)&&decide (Zg n 3<(↑(Zz [Zj [(97:UInt8),(110:UInt8),(110:UInt8)],Zj [(98:UInt8),(111:UInt8),(98:UInt8)],Zj [(99:UInt8),(97:UInt8),(116:UInt8)]]):Int))&&true) (Wu (Yk [Zj [(97:UInt8),(110:UInt8),(110:UInt8)],Zj [(98:UInt8),(111:UInt8),(98:UInt8)],Zj [(99:UInt8),(97:UInt8),(116:UInt8)]] (Zv (Zg n 3)) Wz) fun b=>Zq (chk (decide (0≤Zx .i64 (Vz n 3))) (some (Zj (Kerb.realm (Zx .i64 (Vz n 3))),[]))) fun (r:AV×Blocks)=>onNilB (Zd r) (Wu (Zm r) fun b_1=>some (Wd [Zj b,Zj [],Zj b_1],[]))):Option (AV×Blocks))) (by kernel_rfl) ?_
  have hn:0≤n:=by first | exact of_decide_eq_true hpre | (simp only [Zf,decide_eq_true_eq] at hpre;exact hpre.1)
  have ht:Zg n 3=n % 3:=Yn hn
  have hcase:n % 3=0∨n % 3=1∨n % 3=2:=by omega
  simp only [Zf,decide_eq_true_eq] at hpre
  have hd:Vz n 3=n / 3:=Vm hn
  rw [hd,wrap_i64 (by omega) (by omega)]
  have hq:decide ((0:Int)≤n / 3)=true:=by simp;omega
  rcases hcase with e | e | e<;>simp [ht,e,chk,Wu,Kerb.user,hq,onNilB]<;>omega
 ·cases h
theorem w36:Walked Tryz.prog G 36 3 sp36:=by
 refine ⟨Tryz.f36,Tryz.func36,by decide +kernel,rfl,fun xs bl r h=> ?_⟩
 unfold sp36 at h
 split at h
 ·rename_i li mu kv rl tk au
  obtain ⟨hpre,h2⟩:=chk_inv h;cases h2
  refine Eq.trans (b:=(Zq (chk (l63 rl) (some (Zu (Kerb.validRealm rl),[]))) (kL fun b=>sel (!b) (some (Yz [Zb [],Zy .i64 103],[])) (sel (!Zp kv 255) (some (Yz [Zb [],Zy .i64 104],[])) (sel (decide ((↑(Zz tk):Int)>255)) (some (Yz [Zb [],Zy .i64 105],[])) (sel (decide ((↑(Zz au):Int)>255)) (some (Yz [Zb [],Zy .i64 105],[])) (sel mu (Zq (chk (decide (Zz (Wb 4 li)≤70368744177664)) (some (Zn (Wb 4 li++Yg kv 1 false),[]))) (kO fun l=>Zq (chk (decide (Zz l+Zz rl≤70368744177664)) (some (Zb (Xy l rl),[]))) (kB fun b=>Zq (chk (decide (Zz b≤70368744177664)) (some (Zn (b++Yg (↑(Zz tk):Int) 1 false),[]))) (kO fun l=>Zq (chk (decide (Zz l≤70368744177664)) (some (Zn (l++Yg (↑(Zz au):Int) 1 false),[]))) (kO fun l=>chk (room (Zz l+Zz tk) 1) (chk (room (Zz (l++tk)+Zz au) 1) (some (Yz [Zb (l++tk++au),Zy .i64 0],[])))))))) (Zq (chk (decide (Zz (Wb 3 li)≤70368744177664)) (some (Zn (Wb 3 li++Yg kv 1 false),[]))) (kO fun l=>Zq (chk (decide (Zz l+Zz rl≤70368744177664)) (some (Zb (Xy l rl),[]))) (kB fun b=>Zq (chk (decide (Zz b≤70368744177664)) (some (Zn (b++Yg (↑(Zz tk):Int) 1 false),[]))) (kO fun l=>Zq (chk (decide (Zz l≤70368744177664)) (some (Zn (l++Yg (↑(Zz au):Int) 1 false),[]))) (kO fun l=>chk (room (Zz l+Zz tk) 1) (chk (room (Zz (l++tk)+Zz au) 1) (some (Yz [Zb (l++tk++au),Zy .i64 0],[]))))))))))))):Option (AV×Blocks))) (by kernel_rfl) ?_
  delta kB kO kL
  try dsimp only [cStr,cBs,cBool,cU8,cInt,cSl,l63]
  simp only [A0,Kerb.Client.av,Kerb.Cache.av,Kerb.Cred.av,hpre]
  unfold Kerb.encodeAp
  simp only
  cases h1:Kerb.validRealm rl
  ·rfl
  rw [Xz,sel_false,if_neg (by simp)]
  cases h2:Zp kv 255
  ·rfl
  rw [Xz,sel_false,if_neg (by simp)]
  by_cases h3:255<tk.length
  ·rw [sel_pos (by simp;omega),if_pos (.inl h3)]
  rw [sel_neg (by simp;omega)]
  by_cases h4:255<au.length
  ·rw [sel_pos (by simp;omega),if_pos (.inr h4)]
  rw [sel_neg (by simp;omega),if_neg (by omega)]
  have l1:=Kerb.validRealm_len h1
  have g3:=Kerb.header_len 3 li
  have g4:=Kerb.header_len 4 li
  cases mu
  ·rw [sel_false,chk_of (by simp;omega),chk_of (by simp [Yh];omega),chk_of (by simp [Yh,Xg];omega),chk_of (by simp [Yh,Xg];omega),chk_of (Zh (by simp [Yh,Xg];omega)),chk_of (Zh (by simp [Yh,Xg];omega))]
   rfl
  ·rw [sel_true,chk_of (by simp;omega),chk_of (by simp [Yh];omega),chk_of (by simp [Yh,Xg];omega),chk_of (by simp [Yh,Xg];omega),chk_of (Zh (by simp [Yh,Xg];omega)),chk_of (Zh (by simp [Yh,Xg];omega))]
   rfl
 ·cases h
theorem w59:Walked Tryz.prog G 59 3 sp59:=by
 refine ⟨Tryz.f59,Tryz.func59,by decide +kernel,rfl,fun xs bl r h=> ?_⟩
 unfold sp59 at h
 split at h
 ·rename_i kd k bd
  obtain ⟨hpre,h2⟩:=chk_inv h;cases h2
  refine Eq.trans (b:=(let t0:List UInt8:=[Yv (Zv (Zx .u8 (Wf (↑(Zz bd):Int) (2 ^ min (Zv 8) (Zk .i64))))),Yv (Zv (Zx .u8 (↑(Zz bd):Int)))];let t1:List UInt8:=[(66:UInt8),Yv (Zv (Zx .u8 kd))];sel (decide (kd<1)) (some (Yz [Zb [],Zy .i64 104],[])) (sel (decide (kd>10)) (some (Yz [Zb [],Zy .i64 104],[])) (Zq (chk (decide (0≤k)&&decide (k<18446744073709551616)) (some (Zu (Yf k),[]))) (kL fun b=>sel (!b) (some (Yz [Zb [],Zy .i64 10],[])) (sel (decide ((↑(Zz bd):Int)>1000)) (some (Yz [Zb [],Zy .i64 105],[])) (Zq (chk (decide (0≤k)&&decide (k<18446744073709551616)) (some (Zb (Kerb.keyBytes k),[]))) (kB fun b=>chk (room (Zz t1+Zz b) 1) (chk (room (Zz (t1++b)+Zz t0) 1) (chk (room (Zz (t1++b++t0)+Zz bd) 1) (some (Yz [Zb (t1++b++t0++bd),Zy .i64 0],[])))))))))):Option (AV×Blocks))) (by kernel_rfl) ?_
  delta kB kL
  try dsimp only [cStr,cBs,cBool,cU8,cInt,cSl,l63]
  simp only [A0,Kerb.Client.av,Kerb.Cache.av,Kerb.Cred.av,hpre]
  unfold Kerb.makeBox
  by_cases k1:1≤kd
  case neg =>
   rw [sel_pos (by simp;omega),if_pos (by simp [Xx];omega)]
  by_cases k2:kd≤10
  case neg =>
   rw [sel_neg (by simp;omega),sel_pos (by simp;omega),if_pos (by simp [Xx];omega)]
  rw [sel_neg (by simp;omega),sel_neg (by simp;omega),if_neg (by simp [Xx];omega)]
  cases h2:Yf k
  ·rfl
  rw [Xz,sel_false,if_neg (by simp)]
  by_cases h3:1000<bd.length
  ·rw [sel_pos (by simp;omega),if_pos h3]
  have lk:=Kerb.keyBytes_len k
  rw [sel_neg (by simp;omega),if_neg h3,chk_of (Zh (by simp;omega)),chk_of (Zh (by simp;omega)),chk_of (Zh (by simp;omega)),Kerb.two_bytes,Kerb.wrap_u8,Int.emod_eq_of_lt (by omega) (by omega)]
 ·cases h
theorem w73:Walked Tryz.prog G 73 3 sp73:=by
 refine ⟨Tryz.f73,Tryz.func73,by decide +kernel,rfl,fun xs bl r h=> ?_⟩
 unfold sp73 at h
 split at h
 ·rename_i n
  obtain ⟨hpre,h2⟩:=chk_inv h;cases h2
  refine Eq.trans (b:=(chk (decide (0≤Zg n 3)&&decide (Zg n 3<(↑(Zz [Wd [Zj [(109:UInt8),(97:UInt8),(105:UInt8),(108:UInt8)],Zj [],Zj []],Wd [Zj [(110:UInt8),(102:UInt8),(115:UInt8)],Zj [(104:UInt8),(111:UInt8),(109:UInt8),(101:UInt8)],Zj []],Wd [Zj [(107:UInt8),(114:UInt8),(98:UInt8),(116:UInt8),(103:UInt8),(116:UInt8)],Zj [(65:UInt8),(84:UInt8),(72:UInt8)],Zj []]]):Int))&&true) (Vd (Yk [Wd [Zj [(109:UInt8),(97:UInt8),(105:UInt8),(108:UInt8)],Zj [],Zj []],Wd [Zj [(110:UInt8),(102:UInt8),(115:UInt8)],Zj [(104:UInt8),(111:UInt8),(109:UInt8),(101:UInt8)],Zj []],Wd [Zj [(107:UInt8),(114:UInt8),(98:UInt8),(116:UInt8),(103:UInt8),(116:UInt8)],Zj [(65:UInt8),(84:UInt8),(72:UInt8)],Zj []]] (Zv (Zg n 3)) Wz) fun cs=>onCons cs fun x r=>Wu x fun b=>onCons r fun x r=>Wu x fun b_1=>onCons r fun x r=>Wu x fun b_2=>onNil r (Zq (chk (decide (0≤Zx .i64 (Vz n 3))) (some (Zj (Kerb.realm (Zx .i64 (Vz n 3))),[]))) fun (r:AV×Blocks)=>onNilB (Zd r) (Wu (Zm r) fun b_3=>some (Wd [Zj b,Zj b_1,Zj b_3],[])))):Option (AV×Blocks))) (by kernel_rfl) ?_
  have hn:0≤n:=by first | exact of_decide_eq_true hpre | (simp only [Zf,decide_eq_true_eq] at hpre;exact hpre.1)
  have ht:Zg n 3=n % 3:=Yn hn
  have hcase:n % 3=0∨n % 3=1∨n % 3=2:=by omega
  simp only [Zf,decide_eq_true_eq] at hpre
  have hd:Vz n 3=n / 3:=Vm hn
  rw [hd,wrap_i64 (by omega) (by omega)]
  have hq:decide ((0:Int)≤n / 3)=true:=by simp;omega
  rcases hcase with e | e | e<;>simp [ht,e,chk,Wu,Vd,onCons,onNil,Kerb.service,hq,onNilB]<;>omega
 ·cases h
theorem w77:Walked Tryz.prog G 77 3 sp77:=by
 refine ⟨Tryz.f77,Tryz.func77,by decide +kernel,rfl,fun xs bl r h=> ?_⟩
 unfold sp77 at h
 split at h
 ·rename_i a b c
  obtain ⟨hpre,h2⟩:=chk_inv h;cases h2
  refine Eq.trans (b:=(Zq (chk (decide (Zz a≤9223372036854775807)) (some (Zu (Vg a),[]))) fun (r:AV×Blocks)=>onNilB (Zd r) (Xq (Zm r) fun b_1=>sel b_1 (Zq (chk (decide (Zz b≤9223372036854775807)) (some (Zu (Kerb.validInst b),[]))) fun (r:AV×Blocks)=>onNilB (Zd r) (Xq (Zm r) fun b=>sel b (Zq (chk (decide (Zz c≤9223372036854775807)) (some (Zu (Kerb.validRealm c),[]))) fun (r:AV×Blocks)=>onNilB (Zd r) (Xq (Zm r) fun b=>some (Zu b,[]))) (some (Zu false,[])))) (some (Zu false,[]))):Option (AV×Blocks))) (by kernel_rfl) ?_
  simp only [Zf,decide_eq_true_eq] at hpre
  simp only [A0]
  rw [chk_of (by simp;omega),chk_of (by simp;omega),chk_of (by simp;omega)]
  simp only [Vy]
  cases Vg a<;>cases Kerb.validInst b<;>rfl
 ·cases h
theorem w86:Walked Tryz.prog G 86 3 sp86:=by
 refine ⟨Tryz.f86,Tryz.func86,by decide +kernel,rfl,fun xs bl r h=> ?_⟩
 unfold sp86 at h
 split at h
 ·rename_i b els
  obtain ⟨hpre,h2⟩:=chk_inv h;cases h2
  refine Eq.trans (b:=(sel (!Kerb.Head.err (Wv b)==0) (some (Yz [Zu false,Zy .i64 (Kerb.Head.err (Wv b))],[])) (Zq (chk (allInts els&&decide (Zz els≤1000)) (some (Zu (List.contains (intsIn els) (Kerb.Head.kind (Wv b))),[]))) fun (r:AV×Blocks)=>onNilB (Zd r) (Xq (Zm r) fun b_1=>sel (!b_1) (some (Yz [Zu false,Zy .i64 40],[])) (some (Yz [Zu (Kerb.Head.little (Wv b)),Zy .i64 0],[])))):Option (AV×Blocks))) (by kernel_rfl) ?_
  simp only [A0]
  unfold Kerb.headIs
  by_cases h:(Wv b).err=0
  ·rw [sel_neg (by simp [h]),chk_of hpre]
   cases hc:(intsIn els).contains (Wv b).kind<;>simp [sel,h,hc]
  ·rw [sel_pos (by simpa using h)]
   simp [h]
 ·cases h
theorem w96:Walked Tryz.prog G 96 3 sp96:=by
 refine ⟨Tryz.f96,Tryz.func96,by decide +kernel,rfl,fun xs bl r h=> ?_⟩
 unfold sp96 at h
 split at h
 ·rename_i kls x y z v
  obtain ⟨hpre,h2⟩:=chk_inv h;cases h2
  refine Eq.trans (b:=(Zq (chk (List.all kls Kerb.isSKey&&decide (Zz kls≤1000000)) (some (Zy .i64 (↑(Vw (List.map Kerb.toSKey kls) (Kerb.Prin.mk x y z) v):Int),[]))) fun (r:AV×Blocks)=>onNilB (Zd r) (Xd .i64 (Zm r) fun n=>sel (n==(↑(Zz kls):Int)) (some (Yz [Zy .u64 0,Zu false],[])) (chk (decide (0≤n)&&decide (n<(↑(Zz kls):Int))&&true) (Vd (Yk kls (Zv n) Wz) fun cs=>onCons cs fun x r=>Wu x fun b=>onCons r fun x r=>Wu x fun b=>onCons r fun x r=>Wu x fun b=>onCons r fun x r=>Xd .i64 x fun n=>onCons r fun x r=>Xd .u64 x fun n=>onNil r (some (Yz [Zy .u64 n,Zu true],[]))))):Option (AV×Blocks))) (by kernel_rfl) ?_
  simp only [Zf,decide_eq_true_eq] at hpre
  obtain ⟨hall,hlen⟩:=hpre
  obtain ⟨cs,rfl,hok⟩:=Kerb.skeys_of hall
  simp only [Kerb.map_toSKey,Xk,↓A0,A0] at hlen ⊢
  rw [chk_of (by rw [hall];simp;omega)]
  have hle:=Kerb.skAt_le cs ⟨x,y,z⟩ v
  unfold Kerb.skFind
  by_cases h:Vw cs ⟨x,y,z⟩ v<cs.length
  ·rw [sel_neg (by simp;omega),chk_of (by simp;omega),Yj,Wp (d:=Wg) h,if_pos h]
   simp only [Xw,↓A0,A0]
  ·rw [sel_pos (by simp;omega),if_neg h]
 ·cases h
theorem w101:Walked Tryz.prog G 101 3 sp101:=by
 refine ⟨Tryz.f101,Tryz.func101,by decide +kernel,rfl,fun xs bl r h=> ?_⟩
 unfold sp101 at h
 split at h
 ·rename_i i l n s
  cases h
  refine Eq.trans (b:=(sel (!Zp i 4294967295) (some (Zy .i64 104,[])) (sel (!Zp n 4294967295) (some (Zy .i64 104,[])) (sel (!Zp l 255) (some (Zy .i64 104,[])) (sel (!Zp s 4294967295) (some (Zy .i64 104,[])) (sel (decide (i>Zx .i64 (n+s))) (some (Zy .i64 33,[])) (sel (decide (n>Zx .i64 (Kerb.tEnd i l+s))) (some (Zy .i64 32,[])) (some (Zy .i64 0,[]))))))):Option (AV×Blocks))) (by kernel_rfl) ?_
  unfold Kerb.stateErr
  cases h1:Zp i 4294967295
  ·rfl
  cases h2:Zp n 4294967295
  ·rfl
  cases h3:Zp l 255
  ·rfl
  cases h4:Zp s 4294967295
  ·rfl
  have b1:=Kerb.within_iff.1 h1
  have b2:=Kerb.within_iff.1 h2
  have b3:=Kerb.within_iff.1 h3
  have b4:=Kerb.within_iff.1 h4
  have he:Kerb.tEnd i l=i+300*(l+1):=by simp [Kerb.tEnd,h1,h3]
  simp only [Xz,sel_false,Vq,Bool.false_eq_true,if_false,he]
  rw [wrap_i64 (by omega) (by omega),wrap_i64 (by omega) (by omega)]
  by_cases h5:n+s<i
  ·rw [sel_pos (by simpa using h5),if_pos h5]
  rw [sel_neg (by simpa using h5),if_neg h5]
  by_cases h6:i+300*(l+1)+s<n
  ·rw [sel_pos (by simpa using h6),if_pos h6]
  rw [sel_neg (by simpa using h6),if_neg h6]
 ·cases h
theorem w112:Walked Tryz.prog G 112 3 sp112:=by
 refine ⟨Tryz.f112,Tryz.func112,by decide +kernel,rfl,fun xs bl r h=> ?_⟩
 unfold sp112 at h
 split at h
 ·rename_i b
  obtain ⟨hpre,h2⟩:=chk_inv h;cases h2
  refine Eq.trans (b:=(chk (decide (0≤Zg (Zx .i64 (8-Zg (↑(Zz b):Int) 8)) 8)&&decide (Zg (Zx .i64 (8-Zg (↑(Zz b):Int) 8)) 8≤Zg (Zx .i64 (8-Zg (↑(Zz b):Int) 8)) 8)&&decide (Zg (Zx .i64 (8-Zg (↑(Zz b):Int) 8)) 8≤140737488355328)) (Zq (chk (decide (Zz (Xj b (Xj (Xb (Zv (Zg (Zx .i64 (8-Zg (↑(Zz b):Int) 8)) 8)) (0:UInt8)) []))≤140737488355328)&&decide (Zz [Zb b,Zb (Xb (Zv (Zg (Zx .i64 (8-Zg (↑(Zz b):Int) 8)) 8)) (0:UInt8))]≤1000)) (some (Zn (Xj b (Xj (Xb (Zv (Zg (Zx .i64 (8-Zg (↑(Zz b):Int) 8)) 8)) (0:UInt8)) [])),[]))) fun (r:AV×Blocks)=>onNilB (Zd r) (Xu (Zm r) fun l=>some (Zb l,[]))):Option (AV×Blocks))) (by kernel_rfl) ?_
  have hb:=of_decide_eq_true hpre
  rw [Kerb.pad_eq hb]
  simp only [A0]
  rw [chk_of (by simp;omega),chk_of (by simp;omega)]
  simp [Kerb.pad]
  omega
 ·cases h
theorem w114:Walked Tryz.prog G 114 3 sp114:=by
 refine ⟨Tryz.f114,Tryz.func114,by decide +kernel,rfl,fun xs bl r h=> ?_⟩
 unfold sp114 at h
 split at h
 ·rename_i k
  obtain ⟨hpre,h2⟩:=chk_inv h;cases h2
  refine Eq.trans (b:=(Zq (chk (decide (0≤k)&&decide (k<18446744073709551616)) (some (Yz [Zy .i64 (bif Yf k then Kerb.keyClass k else 0),Zy .i64 (bif Yf k then Kerb.keySerial k else 0),Zu (Yf k)],[]))) fun (r:AV×Blocks)=>onNilB (Zd r) (AV.onTup (Zm r) fun vs=>onCons vs fun x r=>Xd .i64 x fun n=>onCons r fun x r=>Xd .i64 x fun n=>onCons r fun x r=>Xq x fun b=>onNil r (some (Zu b,[]))):Option (AV×Blocks))) (by kernel_rfl) ?_
  simp only [A0]
  rw [chk_of hpre]
 ·cases h
theorem w120:Walked Tryz.prog G 120 3 sp120:=by
 refine ⟨Tryz.f120,Tryz.func120,by decide +kernel,rfl,fun xs bl r h=> ?_⟩
 unfold sp120 at h
 split at h
 ·rename_i b little
  obtain ⟨hpre,h2⟩:=chk_inv h;cases h2
  refine Eq.trans (b:=(sel little (Zq (chk (decide (Zz b≤70368744177664)) (some (Zn (b++Yg 1 1 false),[]))) fun (r:AV×Blocks)=>onNilB (Zd r) (Xu (Zm r) fun l=>some (Zn l,[]))) (Zq (chk (decide (Zz b≤70368744177664)) (some (Zn (b++Yg 0 1 false),[]))) fun (r:AV×Blocks)=>onNilB (Zd r) (Xu (Zm r) fun l=>some (Zn l,[]))):Option (AV×Blocks))) (by kernel_rfl) ?_
  simp only [A0]
  rw [chk_of hpre,chk_of hpre]
  cases little<;>rfl
 ·cases h
theorem w144:Walked Tryz.prog G 144 3 sp144:=by
 refine ⟨Tryz.f144,Tryz.func144,by decide +kernel,rfl,fun xs bl r h=> ?_⟩
 unfold sp144 at h
 split at h
 ·rename_i b pos
  obtain ⟨hpre,h2⟩:=chk_inv h;cases h2
  refine Eq.trans (b:=(Zq (chk (decide (Zz b≤4611686018427387904)&&true&&true) (some (Yz [Zy .i64 (Uy (Ww b pos 1 false)),Zy .i64 (Vn (Ww b pos 1 false)),Zy .i64 (Ux (Ww b pos 1 false))],[]))) fun (r:AV×Blocks)=>onNilB (Zd r) (AV.onTup (Zm r) fun vs=>onCons vs fun x r=>Xd .i64 x fun n=>onCons r fun x r=>Xd .i64 x fun n_1=>onCons r fun x r=>Xd .i64 x fun n_2=>onNil r (some (Yz [Zy .i64 n,Zy .i64 n_1,Zy .i64 n_2],[]))):Option (AV×Blocks))) (by kernel_rfl) ?_
  simp only [A0]
  rw [chk_of (by rw [hpre];rfl)]
 ·cases h
theorem w145:Walked Tryz.prog G 145 3 sp145:=by
 refine ⟨Tryz.f145,Tryz.func145,by decide +kernel,rfl,fun xs bl r h=> ?_⟩
 unfold sp145 at h
 split at h
 ·rename_i b pos
  obtain ⟨hpre,h2⟩:=chk_inv h;cases h2
  refine Eq.trans (b:=(let t5:List UInt8:=Wk (Zv pos) (Wy (Zv (↑(Zz b):Int)) b);let t6:Option (AV×Blocks):=some (Yz [Zj [],Zy .i64 0,Zy .i64 105],[]);let t7:Option (AV×Blocks):=some (Yz [Zj [],Zy .i64 0,Zy .i64 101],[]);let t1:Int:=Yy (0:UInt8) t5;let t2:Int:=(↑(Zz t5):Int);let t4:List UInt8:=Wk (Zv (↑(0:Nat):Int)) (Wy (Zv 40) t5);let t0:Int:=Yy (0:UInt8) t4;let t3:Int:=(↑(Zz t4):Int);Zq (chk (decide (Zz b≤4611686018427387904)) (some (Zy .i64 (Vv b pos 0),[]))) (kI .i64 fun n=>sel (!n==0) (some (Yz [Zj [],Zy .i64 0,Zy .i64 n],[])) (chk (decide (0≤pos)&&decide (pos≤(↑(Zz b):Int))&&decide ((↑(Zz b):Int)≤(↑(Zz b):Int))) (sel (decide (t2>40)) (chk (decide (40≤t2)) (sel (decide (t0≥0)) (chk (decide ((↑(0:Nat):Int)≤t0)&&decide (t0≤t3)) (some (Yz [Zj (Wk (Zv (↑(0:Nat):Int)) (Wy (Zv t0) t4)),Zy .i64 (Zx .i64 (Zx .i64 (pos+t0)+1)),Zy .i64 0],[]))) (sel (t3==40) t6 t7))) (sel (decide (t1≥0)) (chk (decide ((↑(0:Nat):Int)≤t1)&&decide (t1≤t2)) (some (Yz [Zj (Wk (Zv (↑(0:Nat):Int)) (Wy (Zv t1) t5)),Zy .i64 (Zx .i64 (Zx .i64 (pos+t1)+1)),Zy .i64 0],[]))) (sel (t2==40) t6 t7))))):Option (AV×Blocks))) (by kernel_rfl) ?_
  delta kI
  try dsimp only [cStr,cBs,cBool,cU8,cInt,cSl,l63]
  simp only [decide_eq_true_eq] at hpre
  simp only [A0]
  rw [chk_of (by simpa using hpre)]
  have ht:(Wy (Zv (b.length:Int)) b)=b:=by simp
  rw [ht]
  unfold Kerb.text
  by_cases hr:Vv b pos 0=0
  case neg =>
   have h104:Vv b pos 0=104:=by
    unfold Vv at hr ⊢
    split at hr
    ·rw [if_pos (by assumption)]
    ·split at hr<;>omega
   rw [sel_pos (by simpa using hr),if_neg hr,h104]
  obtain ⟨q1,q2,_,_⟩:=Kerb.room_zero.1 hr
  rw [sel_neg (by simp [hr]),if_pos hr,chk_of (by simp;omega)]
  obtain ⟨R,hR⟩:∃ R,R=b.drop pos.toNat:=⟨_,rfl⟩
  have hRl:R.length=b.length-pos.toNat:=by rw [hR];simp
  rw [← hR]
  obtain ⟨T,hT⟩:∃ T,T=R.take 40:=⟨_,rfl⟩
  have hix:=Kerb.indexOf_bd 0 T
  have key:(sel (decide (Yy (0:UInt8) T≥(0:Int)))
    (chk (decide (((0:Nat):Int)≤Yy (0:UInt8) T)&&decide (Yy (0:UInt8) T≤(T.length:Int)))
     (some (Yz [Zj (Wk (Zv ((0:Nat):Int)) (Wy (Zv (Yy (0:UInt8) T)) T)),Zy Zw (Zx Zw (Zx Zw (pos+Yy (0:UInt8) T)+(1:Int))),Zy Zw (0:Int)],([]:Blocks))))
    (sel (((T.length:Int))==(40:Int)) (some (Yz [Zj [],Zy Zw (0:Int),Zy Zw (105:Int)],[]))
     (some (Yz [Zj [],Zy Zw (0:Int),Zy Zw (101:Int)],[])))) =
    some (Yz [Zj (if 0≤Yy 0 T then (⟨T.take (Yy 0 T).toNat,pos+Yy 0 T+1,0⟩:Kerb.GotB) else if T.length=40 then ⟨[],0,105⟩ else ⟨[],0,101⟩).val,
     Zy Zw (if 0≤Yy 0 T then (⟨T.take (Yy 0 T).toNat,pos+Yy 0 T+1,0⟩:Kerb.GotB) else if T.length=40 then ⟨[],0,105⟩ else ⟨[],0,101⟩).next,
     Zy Zw (if 0≤Yy 0 T then (⟨T.take (Yy 0 T).toNat,pos+Yy 0 T+1,0⟩:Kerb.GotB) else if T.length=40 then ⟨[],0,105⟩ else ⟨[],0,101⟩).err],[]):=by
   have hTl:T.length≤b.length-pos.toNat:=by rw [hT];simp;omega
   by_cases hi:0≤Yy 0 T
   ·rw [sel_pos (by simpa using hi),chk_of (by simp;omega),if_pos hi,wrap_i64 (n:=pos+Yy 0 T) (by omega) (by omega),wrap_i64 (by omega) (by omega)]
    rfl
   ·rw [sel_neg (by simp;omega),if_neg hi]
    by_cases h40:T.length=40
    ·rw [sel_pos (by simp [h40]),if_pos h40]
    ·rw [sel_neg (by simp;omega),if_neg h40]
  by_cases hlong:40<R.length
  ·rw [sel_pos (by simp;omega),chk_of (by simp;omega)]
   have e1:Wk (Zv ((0:Nat):Int)) (Wy (Zv (40:Int)) R)=T:=by rw [hT];rfl
   rw [e1]
   rw [← hT]
   exact key
  ·rw [sel_neg (by simp;omega)]
   have e1:R=T:=by rw [hT,Xp (by omega)]
   rw [← hT,e1]
   exact key
 ·cases h
theorem w147:Walked Tryz.prog G 147 3 sp147:=by
 refine ⟨Tryz.f147,Tryz.func147,by decide +kernel,rfl,fun xs bl r h=> ?_⟩
 unfold sp147 at h
 split at h
 ·rename_i b s
  obtain ⟨hpre,h2⟩:=chk_inv h;cases h2
  refine Eq.trans (b:=(Zq (chk (decide (Zz (Xj b (Xj s ((0:UInt8)::Xj [] [])))≤140737488355328)&&decide (Zz [Zb b,Zb s,Zb [(0:UInt8)]]≤1000)) (some (Zn (Xj b (Xj s ((0:UInt8)::Xj [] []))),[]))) fun (r:AV×Blocks)=>onNilB (Zd r) (Xu (Zm r) fun l=>some (Zb l,[])):Option (AV×Blocks))) (by kernel_rfl) ?_
  simp only [decide_eq_true_eq] at hpre
  simp only [A0]
  rw [chk_of (by simp;omega)]
  simp [Xy]
 ·cases h
theorem w160:Walked Tryz.prog G 160 3 sp160:=by
 refine ⟨Tryz.f160,Tryz.func160,by decide +kernel,rfl,fun xs bl r h=> ?_⟩
 unfold sp160 at h
 split at h
 ·rename_i b n k little
  obtain ⟨hpre,h2⟩:=chk_inv h;cases h2
  refine Eq.trans (b:=(Zq (loopM (fun (st:List AV)=>cBs st fun b r=>cInt .i64 r fun n r=>cInt .i64 r fun n_1 r=>cBool r fun b_1 r=>cBs r fun c r=>cInt .i64 r fun n_2 r=>cInt .i64 r fun n_3 r=>let t0:Int:=Zx .i64 (Zx .i64 (n_1-1)-n_3);let t1:UInt8:=Yv (Zv (Zx .u8 (Wf n (2 ^ min (Zv (Zx .i64 (8*n_3))) (Zk .i64)))));onNil r (sel (decide (n_3<n_2)) (sel (!b_1) (chk (decide (0≤Zx .i64 (8*n_3))) (chk (decide (0≤t0)&&decide (t0<(↑(Zz c):Int))&&Xh (Zz c) 4&&true) (chk (Uz (Zv t0) (Zz c)&&true&&true&&true&&true) (some (Xm [Zb b,Zy .i64 n,Zy .i64 n_1,Zu b_1,Zb (List.set c (Zv t0) t1),Zy .i64 n_2,Zy .i64 (Zx .i64 (n_3+1))]))))) (chk (decide (0≤Zx .i64 (8*n_3))) (chk (decide (0≤n_3)&&decide (n_3<(↑(Zz c):Int))&&Xh (Zz c) 4&&true) (chk (Uz (Zv n_3) (Zz c)&&true&&true&&true&&true) (some (Xm [Zb b,Zy .i64 n,Zy .i64 n_1,Zu b_1,Zb (List.set c (Zv n_3) t1),Zy .i64 n_2,Zy .i64 (Zx .i64 (n_3+1))])))))) (some (Xv (Yb 0,[Zb b,Zy .i64 n,Zy .i64 n_1,Zu b_1,Zb c,Zy .i64 n_2,Zy .i64 n_3]))))) [Zb b,Zy .i64 n,Zy .i64 k,Zu little,Zb [(0:UInt8),(0:UInt8),(0:UInt8),(0:UInt8)],Zy .i64 k,Zy .i64 0]) fun (r:Ex×List AV)=>cBs (Zd r) fun b r_1=>cInt .i64 r_1 fun n r_2=>cInt .i64 r_2 fun n r_3=>cBool r_3 fun b_1 r_4=>cBs r_4 fun c r_5=>let t2:Nat:=Zz [Zb b,Zb (Wk (Zv (↑(0:Nat):Int)) (Wy (Zv n) c))];let t3:Nat:=Zz (Xj b (Xj (Wk (Zv (↑(0:Nat):Int)) (Wy (Zv n) c)) []));cInt .i64 r_5 fun n_1 r_6=>cInt .i64 r_6 fun n_2 r_7=>onNil r_7 (exK r.1 none fun (j:Nat)=>sel (Xh j 0) (chk (decide ((↑(0:Nat):Int)≤n)&&decide (n≤(↑(Zz c):Int))&&Xh (Zz c) 4) (Zq (chk (decide (t3≤140737488355328)&&decide (t2≤1000)) (some (Zn (Xj b (Xj (Wk (Zv (↑(0:Nat):Int)) (Wy (Zv n) c)) [])),[]))) (kO fun l=>some (Zn l,[])))) none):Option (AV×Blocks))) (by kernel_rfl) ?_
  delta kO
  try dsimp only [cStr,cBs,cBool,cU8,cInt,cSl,l63]
  simp only [Zf,decide_eq_true_eq] at hpre
  obtain ⟨hk,hb⟩:=hpre
  rcases hk with rfl | rfl | rfl<;>cases little
  ·refine loop_unroll 2 (Yb 0,[Zb b,Zy Zw n,Zy Zw 1,Zu false,Zb [Yp n 0,(0:UInt8),(0:UInt8),(0:UInt8)],Zy Zw 1,Zy Zw 1]) (by kernel_rfl) ?_
   simp only [A0]
   rw [sel_pos (Yu _),chk_of (by simp),chk_of (by simp;omega)]
   simp [Wm,Yg,Wn,Wx]
  ·refine loop_unroll 2 (Yb 0,[Zb b,Zy Zw n,Zy Zw 1,Zu true,Zb [Yp n 0,(0:UInt8),(0:UInt8),(0:UInt8)],Zy Zw 1,Zy Zw 1]) (by kernel_rfl) ?_
   simp only [A0]
   rw [sel_pos (Yu _),chk_of (by simp),chk_of (by simp;omega)]
   simp [Wm,Yg,Wn,Wx]
  ·refine loop_unroll 3 (Yb 0,[Zb b,Zy Zw n,Zy Zw 2,Zu false,Zb [Yp n 8,Yp n 0,(0:UInt8),(0:UInt8)],Zy Zw 2,Zy Zw 2]) (by kernel_rfl) ?_
   simp only [A0]
   rw [sel_pos (Yu _),chk_of (by simp),chk_of (by simp;omega)]
   simp [Wm,Yg,Wn,Wx]
  ·refine loop_unroll 3 (Yb 0,[Zb b,Zy Zw n,Zy Zw 2,Zu true,Zb [Yp n 0,Yp n 8,(0:UInt8),(0:UInt8)],Zy Zw 2,Zy Zw 2]) (by kernel_rfl) ?_
   simp only [A0]
   rw [sel_pos (Yu _),chk_of (by simp),chk_of (by simp;omega)]
   simp [Wm,Yg,Wn,Wx]
  ·refine loop_unroll 5 (Yb 0,[Zb b,Zy Zw n,Zy Zw 4,Zu false,Zb [Yp n 24,Yp n 16,Yp n 8,Yp n 0],Zy Zw 4,Zy Zw 4]) (by kernel_rfl) ?_
   simp only [A0]
   rw [sel_pos (Yu _),chk_of (by simp),chk_of (by simp;omega)]
   simp [Wm,Yg,Wn,Wx]
  ·refine loop_unroll 5 (Yb 0,[Zb b,Zy Zw n,Zy Zw 4,Zu true,Zb [Yp n 0,Yp n 8,Yp n 16,Yp n 24],Zy Zw 4,Zy Zw 4]) (by kernel_rfl) ?_
   simp only [A0]
   rw [sel_pos (Yu _),chk_of (by simp),chk_of (by simp;omega)]
   simp [Wm,Yg,Wn,Wx]
 ·cases h
theorem w171:Walked Tryz.prog G 171 3 sp171:=by
 refine ⟨Tryz.f171,Tryz.func171,by decide +kernel,rfl,fun xs bl r h=> ?_⟩
 unfold sp171 at h
 split at h
 ·rename_i k
  obtain ⟨hpre,h2⟩:=chk_inv h;cases h2
  refine Eq.trans (b:=(Zq (chk (decide (0≤k)&&decide (k<18446744073709551616)) (some (Zu (Yf k),[]))) fun (r:AV×Blocks)=>onNilB (Zd r) (Xq (Zm r) fun b=>sel (!b) (some (Zy .i64 0,[])) (some (Zy .i64 (Zx .i64 (Wf k (2 ^ min (Zv 56) (Zk .u64)))),[]))):Option (AV×Blocks))) (by kernel_rfl) ?_
  simp only [hpre,↓A0,A0]
  unfold Kerb.classOf
  cases hk:Yf k
  ·rfl
  simp only [Xz,Bool.not_false,sel_true,sel_false]
  simp only [Zf,decide_eq_true_eq] at hpre
  have h7:(min (Zv 56) (Zk .u64))=56:=rfl
  rw [h7,Int.fdiv_eq_ediv_of_nonneg _ (by decide),wrap_i64 (by omega) (by omega)]
  rfl
 ·cases h
theorem w176:Walked Tryz.prog G 176 3 sp176:=by
 refine ⟨Tryz.f176,Tryz.func176,by decide +kernel,rfl,fun xs bl r h=> ?_⟩
 unfold sp176 at h
 split at h
 ·rename_i b pos little
  obtain ⟨hpre,h2⟩:=chk_inv h;cases h2
  refine Eq.trans (b:=(Zq (chk (decide (Zz b≤4611686018427387904)&&true&&true) (some (Yz [Zy .i64 (Uy (Ww b pos 4 little)),Zy .i64 (Vn (Ww b pos 4 little)),Zy .i64 (Ux (Ww b pos 4 little))],[]))) fun (r:AV×Blocks)=>onNilB (Zd r) (AV.onTup (Zm r) fun vs=>onCons vs fun x r=>Xd .i64 x fun n=>onCons r fun x r=>Xd .i64 x fun n_1=>onCons r fun x r=>Xd .i64 x fun n_2=>onNil r (some (Yz [Zy .i64 n,Zy .i64 n_1,Zy .i64 n_2],[]))):Option (AV×Blocks))) (by kernel_rfl) ?_
  simp only [A0]
  rw [chk_of (by rw [hpre];rfl)]
 ·cases h
theorem w182:Walked Tryz.prog G 182 3 sp182:=by
 refine ⟨Tryz.f182,Tryz.func182,by decide +kernel,rfl,fun xs bl r h=> ?_⟩
 unfold sp182 at h
 split at h
 ·rename_i s c
  cases h
  refine Eq.trans (b:=(some (Zy .i64 (Yy c s),[]):Option (AV×Blocks))) (by kernel_rfl) ?_
  rfl
 ·cases h
theorem w188:Walked Tryz.prog G 188 3 sp188:=by
 refine ⟨Tryz.f188,Tryz.func188,by decide +kernel,rfl,fun xs bl r h=> ?_⟩
 unfold sp188 at h
 split at h
 ·rename_i k
  obtain ⟨hpre,h2⟩:=chk_inv h;cases h2
  refine Eq.trans (b:=(Zq (chk (decide (0≤k)&&decide (k<18446744073709551616)) (some (Yz [Zy .i64 (bif Yf k then Kerb.keyClass k else 0),Zy .i64 (bif Yf k then Kerb.keySerial k else 0),Zu (Yf k)],[]))) fun (r:AV×Blocks)=>onNilB (Zd r) (AV.onTup (Zm r) fun vs=>onCons vs fun x r=>Xd .i64 x fun n=>onCons r fun x r=>Xd .i64 x fun n_1=>onCons r fun x r=>Xq x fun b=>onNil r (some (Zy .i64 n,[]))):Option (AV×Blocks))) (by kernel_rfl) ?_
  simp only [hpre,↓A0,A0]
  rfl
 ·cases h
theorem w32:Walked Tryz.prog G 32 4 sp32:=by
 refine ⟨Tryz.f32,Tryz.func32,by decide +kernel,rfl,fun xs bl r h=> ?_⟩
 unfold sp32 at h
 split at h
 ·rename_i cu co cv cr lt tn mt cad cfr cis ctm ctk clf ccs cky ckv css ctt cau
  cases h
  refine Eq.trans (b:=(Zq (chk (decide (0≤Zg (Zx .i64 (↑(Yx cv):Int)) 6)&&decide (Zg (Zx .i64 (↑(Yx cv):Int)) 6≤4611686018427387904)) (some (Wd [Zj (Vk (Kerb.service (Zg (Zx .i64 (↑(Yx cv):Int)) 6))),Zj (Vp (Kerb.service (Zg (Zx .i64 (↑(Yx cv):Int)) 6))),Zj (Vx (Kerb.service (Zg (Zx .i64 (↑(Yx cv):Int)) 6)))],[]))) fun (r:AV×Blocks)=>onNilB (Zd r) (Vd (Zm r) fun cs=>onCons cs fun x r=>Wu x fun b=>onCons r fun x r=>Wu x fun b_1=>onCons r fun x r=>Wu x fun b_2=>onNil r (some (Wd [Zj b,Zj b_1,Zj b_2],[]))):Option (AV×Blocks))) (by kernel_rfl) ?_
  have b:=Kerb.u8i_bd cv
  have f1:Zg (Kerb.u8i cv) 6=Kerb.u8i cv % 6:=Yn b.1
  simp only [Kerb.wrap_u8i,f1,↓A0,A0]
  rw [chk_of (by simp;omega)]
  rfl
 ·cases h
theorem w46:Walked Tryz.prog G 46 4 sp46:=by
 refine ⟨Tryz.f46,Tryz.func46,by decide +kernel,rfl,fun xs bl r h=> ?_⟩
 unfold sp46 at h
 split at h
 ·rename_i ali b1 b2 b3 aad ak alf ais asv ain x y z ck tc tm src now skw
  cases h
  refine Eq.trans (b:=(sel (!(b1==x&&(b2==y&&b3==z))) (some (Zy .i64 36,[])) (sel (!src==aad) (some (Zy .i64 38,[])) (sel (!Kerb.near tm now skw) (some (Zy .i64 37,[])) (some (Zy .i64 (Kerb.stateErr ais alf now skw),[])))):Option (AV×Blocks))) (by kernel_rfl) ?_
  unfold Kerb.judge
  cases h1:Kerb.Prin.eqb ⟨b1,b2,b3⟩ ⟨x,y,z⟩
  ·have h1':(b1==x&&(b2==y&&b3==z))=false:=h1
   rw [if_pos rfl,h1'];rfl
  have h1':(b1==x&&(b2==y&&b3==z))=true:=h1
  rw [if_neg (by simp),h1',Xz,sel_false]
  by_cases h2:src=aad
  case neg=>rw [sel_pos (by simpa using h2),if_pos h2]
  rw [sel_neg (by simpa using h2),if_neg (by simpa using h2)]
  cases h3:Kerb.near tm now skw
  ·rfl
  ·rw [if_neg (by simp)];rfl
 ·cases h
theorem w56:Walked Tryz.prog G 56 4 sp56:=by
 refine ⟨Tryz.f56,Tryz.func56,by decide +kernel,rfl,fun xs bl r h=> ?_⟩
 unfold sp56 at h
 split at h
 ·rename_i kd k bd
  obtain ⟨hpre,h2⟩:=chk_inv h;cases h2
  refine Eq.trans (b:=(let t0:List UInt8:=[Yv (Zv (Zx .u8 (Wf (↑(Zz bd):Int) (2 ^ min (Zv 8) (Zk .i64))))),Yv (Zv (Zx .u8 (↑(Zz bd):Int)))];let t1:List UInt8:=Xb (Zv 0) (0:UInt8)++[(66:UInt8),Yv (Zv (Zx .u8 kd))];let t2:Int:=Zx .i64 (12+(↑(Zz bd):Int));sel (!Xx kd) (some (Yz [Zb [],Zy .i64 104],[])) (Zq (chk (decide (0≤k)&&decide (k<18446744073709551616)) (some (Zu (Yf k),[]))) (kL fun b=>sel (!b) (some (Yz [Zb [],Zy .i64 10],[])) (sel (decide ((↑(Zz bd):Int)>1000)) (some (Yz [Zb [],Zy .i64 105],[])) (chk (decide (0≤t2)&&decide (t2≤140737488355328)) (chk (room (Zz (Xb (Zv 0) (0:UInt8))+Zz [(66:UInt8),Yv (Zv (Zx .u8 kd))]) 1) (Zq (chk (decide (0≤k)&&decide (k<18446744073709551616)) (some (Zb (Kerb.keyBytes k),[]))) (kB fun b=>chk (room (Zz t1+Zz b) 1) (chk (room (Zz (t1++b)+Zz t0) 1) (chk (room (Zz (t1++b++t0)+Zz bd) 1) (some (Yz [Zb (t1++b++t0++bd),Zy .i64 0],[]))))))))))):Option (AV×Blocks))) (by kernel_rfl) ?_
  delta kB kL
  try dsimp only [cStr,cBs,cBool,cU8,cInt,cSl,l63]
  simp only [A0,Kerb.Client.av,Kerb.Cache.av,Kerb.Cred.av,hpre]
  unfold Kerb.makeBox
  cases h1:Xx kd
  ·rfl
  rw [Xz,sel_false,if_neg (by simp)]
  cases h2:Yf k
  ·rfl
  rw [Xz,sel_false,if_neg (by simp)]
  by_cases h3:1000<bd.length
  ·rw [sel_pos (by simp;omega),if_pos h3]
  have hk:1≤kd∧kd≤10:=by simp [Xx] at h1;omega
  have lk:=Kerb.keyBytes_len k
  rw [sel_neg (by simp;omega),if_neg h3,wrap_i64 (by omega) (by omega),chk_of (by simp;omega),chk_of (Zh (by simp)),chk_of (Zh (by simp;omega)),chk_of (Zh (by simp;omega)),chk_of (Zh (by simp;omega)),Kerb.two_bytes,Kerb.wrap_u8,Int.emod_eq_of_lt (by omega) (by omega)]
  rfl
 ·cases h
theorem w87:Walked Tryz.prog G 87 4 sp87:=by
 refine ⟨Tryz.f87,Tryz.func87,by decide +kernel,rfl,fun xs bl r h=> ?_⟩
 unfold sp87 at h
 split at h
 ·rename_i b
  obtain ⟨hpre,h2⟩:=chk_inv h;cases h2
  refine Eq.trans (b:=(Zq (chk (decide (Zz b≤4611686018427387904)) (some (Yz [Zy .i64 (Uy (Ww b 2 1 false)),Zy .i64 (Vn (Ww b 2 1 false)),Zy .i64 (Ux (Ww b 2 1 false))],[]))) (kT fun vs=>cInt .i64 vs fun n r=>cInt .i64 r fun n_1 r=>cInt .i64 r fun n_2 r=>onNil r (Zq (chk (decide (Zz b≤4611686018427387904)) (some (Yz [Zj (Kerb.GotB.val (Kerb.text b n_1)),Zy .i64 (Kerb.GotB.next (Kerb.text b n_1)),Zy .i64 (Kerb.GotB.err (Kerb.text b n_1))],[]))) (kT fun vs=>cStr vs fun b_1 r=>cInt .i64 r fun n_3 r=>cInt .i64 r fun n_4 r=>onNil r (Zq (chk (decide (Zz b≤4611686018427387904)) (some (Yz [Zy .i64 (Uy (Ww b n_3 1 false)),Zy .i64 (Vn (Ww b n_3 1 false)),Zy .i64 (Ux (Ww b n_3 1 false))],[]))) (kT fun vs=>cInt .i64 vs fun n_5 r=>cInt .i64 r fun n_6 r=>cInt .i64 r fun n_7 r=>onNil r (Zq (chk (decide (Zz b≤4611686018427387904)) (some (Yz [Zy .i64 (Uy (Ww b n_6 1 false)),Zy .i64 (Vn (Ww b n_6 1 false)),Zy .i64 (Ux (Ww b n_6 1 false))],[]))) (kT fun vs=>cInt .i64 vs fun n_8 r=>cInt .i64 r fun n_9 r=>cInt .i64 r fun n_10 r=>onNil r (Zq (chk (decide (Zz b≤140737488355328)) (some (Yz [Zb (Kerb.GotB.val (Vb b n_9 n_5)),Zy .i64 (Kerb.GotB.next (Vb b n_9 n_5)),Zy .i64 (Kerb.GotB.err (Vb b n_9 n_5))],[]))) (kT fun vs=>cBs vs fun b_2 r=>cInt .i64 r fun n_11 r=>cInt .i64 r fun n_12 r=>onNil r (Zq (chk (decide (Zz b≤140737488355328)) (some (Yz [Zb (Kerb.GotB.val (Vb b n_11 n_8)),Zy .i64 (Kerb.GotB.next (Vb b n_11 n_8)),Zy .i64 (Kerb.GotB.err (Vb b n_11 n_8))],[]))) (kT fun vs=>cBs vs fun b_3 r=>cInt .i64 r fun n_13 r=>cInt .i64 r fun n_14 r=>onNil r (some (Yz [Wd [Zu (Kerb.Head.little (Wv b)),Zu (Kerb.Head.kind (Wv b)==4),Zy .i64 n,Zj b_1,Zb b_2,Zb b_3],Zy .i64 n_13],[]))))))))))))):Option (AV×Blocks))) (by kernel_rfl) ?_
  delta kT
  try dsimp only [cStr,cBs,cBool,cU8,cInt,cSl,l63]
  have hb:=of_decide_eq_true hpre
  have hpre2:decide (b.length≤4611686018427387904)=true:=by simp;omega
  simp only [hpre,hpre2,↓A0,A0]
  rfl
 ·cases h
theorem w110:Walked Tryz.prog G 110 4 sp110:=by
 refine ⟨Tryz.f110,Tryz.func110,by decide +kernel,rfl,fun xs bl r h=> ?_⟩
 unfold sp110 at h
 split at h
 ·rename_i b n
  obtain ⟨hpre,h2⟩:=chk_inv h;cases h2
  refine Eq.trans (b:=(Zq (chk (decide (Zz b≤70368744177664)) (some (Zn (b++Yg n (Zv 1) false),[]))) fun (r:AV×Blocks)=>onNilB (Zd r) (Xu (Zm r) fun l=>some (Zn l,[])):Option (AV×Blocks))) (by kernel_rfl) ?_
  simp only [decide_eq_true_eq] at hpre
  simp only [A0]
  rw [chk_of (by simp;omega)]
  rfl
 ·cases h
theorem w111:Walked Tryz.prog G 111 4 sp111:=by
 refine ⟨Tryz.f111,Tryz.func111,by decide +kernel,rfl,fun xs bl r h=> ?_⟩
 unfold sp111 at h
 split at h
 ·rename_i b n little
  obtain ⟨hpre,h2⟩:=chk_inv h;cases h2
  refine Eq.trans (b:=(Zq (chk (decide (Zz b≤70368744177664)) (some (Zn (b++Yg n (Zv 4) little),[]))) fun (r:AV×Blocks)=>onNilB (Zd r) (Xu (Zm r) fun l=>some (Zn l,[])):Option (AV×Blocks))) (by kernel_rfl) ?_
  simp only [decide_eq_true_eq] at hpre
  simp only [A0]
  rw [chk_of (by simp;omega)]
  rfl
 ·cases h
theorem w117:Walked Tryz.prog G 117 4 sp117:=by
 refine ⟨Tryz.f117,Tryz.func117,by decide +kernel,rfl,fun xs bl r h=> ?_⟩
 unfold sp117 at h
 split at h
 ·rename_i b n little
  obtain ⟨hpre,h2⟩:=chk_inv h;cases h2
  refine Eq.trans (b:=(Zq (chk (decide (Zz b≤70368744177664)) (some (Zn (b++Yg n (Zv 2) little),[]))) fun (r:AV×Blocks)=>onNilB (Zd r) (Xu (Zm r) fun l=>some (Zn l,[])):Option (AV×Blocks))) (by kernel_rfl) ?_
  simp only [decide_eq_true_eq] at hpre
  simp only [A0]
  rw [chk_of (by simp;omega)]
  rfl
 ·cases h
theorem w150:Walked Tryz.prog G 150 4 sp150:=by
 refine ⟨Tryz.f150,Tryz.func150,by decide +kernel,rfl,fun xs bl r h=> ?_⟩
 unfold sp150 at h
 split at h
 ·rename_i li x y z ad k lf iss sv ins
  obtain ⟨hpre,h2⟩:=chk_inv h;cases h2
  refine Eq.trans (b:=(Zq (chk (decide (Zz x≤9223372036854775807)&&decide (Zz y≤9223372036854775807)&&decide (Zz z≤9223372036854775807)) (some (Zu (Vy (Kerb.Prin.mk x y z)),[]))) fun (r:AV×Blocks)=>onNilB (Zd r) (Xq (Zm r) fun b=>sel (!b) (some (Zy .i64 103,[])) (Zq (chk (decide (Zz sv≤9223372036854775807)) (some (Zu (Vg sv),[]))) fun (r:AV×Blocks)=>onNilB (Zd r) (Xq (Zm r) fun b=>sel (!b) (some (Zy .i64 103,[])) (Zq (chk (decide (Zz ins≤9223372036854775807)) (some (Zu (Kerb.validInst ins),[]))) fun (r:AV×Blocks)=>onNilB (Zd r) (Xq (Zm r) fun b=>sel (!b) (some (Zy .i64 103,[])) (Zq (chk (decide (0≤k)&&decide (k<18446744073709551616)) (some (Zy .i64 (Kerb.classOf k),[]))) fun (r:AV×Blocks)=>onNilB (Zd r) (Xd .i64 (Zm r) fun n=>sel (!n==2) (some (Zy .i64 10,[])) (sel (!Zp ad 4294967295) (some (Zy .i64 104,[])) (sel (!Zp lf 255) (some (Zy .i64 104,[])) (sel (!Zp iss 4294967295) (some (Zy .i64 104,[])) (some (Zy .i64 0,[])))))))))))):Option (AV×Blocks))) (by kernel_rfl) ?_
  simp only [Zf,decide_eq_true_eq] at hpre
  obtain ⟨⟨⟨⟨⟨⟨h1,h2⟩,h3⟩,h4⟩,h5⟩,h6⟩,h7⟩:=hpre
  simp only [h1,h2,h3,h4,h5,h6,h7,decide_true,Vq,↓A0,A0]
  unfold Kerb.Ticket.err
  dsimp only
  cases Vy ⟨x,y,z⟩
  ·rfl
  cases Vg sv
  ·rfl
  cases Kerb.validInst ins
  ·rfl
  simp only [Xz,Vq,sel_false]
  by_cases hc:Kerb.classOf k=2
  case neg=>rw [sel_pos (by simpa using hc),if_neg (by simp),if_pos hc]
  rw [sel_neg (by simp [hc]),if_neg (by simp),if_neg (by simp [hc])]
  cases Zp ad 4294967295
  ·rfl
  cases Zp lf 255
  ·rfl
  cases Zp iss 4294967295
  ·rfl
  rfl
 ·cases h
theorem w152:Walked Tryz.prog G 152 4 sp152:=by
 refine ⟨Tryz.f152,Tryz.func152,by decide +kernel,rfl,fun xs bl r h=> ?_⟩
 unfold sp152 at h
 split at h
 ·rename_i x y z ck tc tm
  obtain ⟨hpre,h2⟩:=chk_inv h;cases h2
  refine Eq.trans (b:=(Zq (chk (decide (Zz x≤9223372036854775807)&&decide (Zz y≤9223372036854775807)&&decide (Zz z≤9223372036854775807)) (some (Zu (Vy (Kerb.Prin.mk x y z)),[]))) fun (r:AV×Blocks)=>onNilB (Zd r) (Xq (Zm r) fun b=>sel (!b) (some (Zy .i64 103,[])) (sel (!Zp ck 4294967295) (some (Zy .i64 104,[])) (sel (!Zp tc 199) (some (Zy .i64 104,[])) (sel (!Zp tm 4294967295) (some (Zy .i64 104,[])) (some (Zy .i64 0,[])))))):Option (AV×Blocks))) (by kernel_rfl) ?_
  simp only [A0,Kerb.Client.av,Kerb.Cache.av,Kerb.Cred.av,hpre]
  unfold Kerb.Auth.check
  simp only
  cases Vy ⟨x,y,z⟩
  ·rfl
  cases Zp ck 4294967295
  ·rfl
  cases Zp tc 199
  ·rfl
  cases Zp tm 4294967295<;>rfl
 ·cases h
theorem w165:Walked Tryz.prog G 165 4 sp165:=by
 refine ⟨Tryz.f165,Tryz.func165,by decide +kernel,rfl,fun xs bl r h=> ?_⟩
 unfold sp165 at h
 split at h
 ·rename_i s bad
  obtain ⟨hpre,h2⟩:=chk_inv h;cases h2
  refine Eq.trans (b:=(Zq (loopM (fun (st:List AV)=>cStr st fun b r=>cStr r fun b_1 r=>cBool r fun b_2 r=>cInt .i64 r fun n r=>cInt .i64 r fun n_1 r=>let t0:Option (List AV ⊕ Ex×List AV):=some (Xv (Ex.ret,[Zj b,Zj b_1,Zu false,Zy .i64 n,Zy .i64 n_1]));let t1:Bool:=decide (0≤n_1)&&decide (n_1<(↑(Zz b):Int));let t2:Int:=(↑(Yx (Yk b (Zv n_1) (0:UInt8))):Int);onNil r (sel (decide (n_1<n)) (chk t1 (sel (decide (t2<(↑(Yx (33:UInt8)):Int))) t0 (chk t1 (sel (decide (t2>(↑(Yx (126:UInt8)):Int))) t0 (chk t1 (sel (decide (Yy (Yk b (Zv n_1) (0:UInt8)) b_1≥0)) t0 (some (Xm [Zj b,Zj b_1,Zu b_2,Zy .i64 n,Zy .i64 (Zx .i64 (n_1+1))])))))))) (some (Xv (Yb 0,[Zj b,Zj b_1,Zu b_2,Zy .i64 n,Zy .i64 n_1]))))) [Zj s,Zj bad,Zu false,Zy .i64 (↑(Zz s):Int),Zy .i64 0]) fun (r:Ex×List AV)=>cStr (Zd r) fun b r_1=>cStr r_1 fun b r_2=>cBool r_2 fun b r_3=>cInt .i64 r_3 fun n r_4=>cInt .i64 r_4 fun n r_5=>onNil r_5 (exK r.1 (some (Zu b,[])) fun (j:Nat)=>sel (Xh j 0) (some (Zu true,[])) none):Option (AV×Blocks))) (by kernel_rfl) ?_
  try dsimp only [cStr,cBs,cBool,cU8,cInt,cSl,l63]
  simp only [decide_eq_true_eq] at hpre
  refine loop_rounds (fun i:Nat=>[Zj s,Zj bad,Zu false,Zy Zw (s.length:Int),Zy Zw (i:Int)]) (fun i=>i≤s.length∧Yd s bad=Yd (s.drop i) bad) (fun i=>s.length-i)
   (fun r=>∃ i:Nat,r.2=[Zj s,Zj bad,Zu false,Zy Zw (s.length:Int),Zy Zw (i:Int)]∧((r.1 = .ret∧Yd s bad=false)∨(r.1 = .exit 0∧Yd s bad=true))) 0 ⟨Xf _,rfl⟩ rfl ?_ ?_
  ·rintro i ⟨hi,hp⟩
   simp only [A0]
   by_cases hlt:i<s.length
   ·have hc:(decide ((0:Int)≤(i:Int))&&decide ((i:Int)<(s.length:Int)))=true:=by simp;omega
    have hd:=Kerb.drop_all_cons hlt
    rw [sel_pos (by simp;omega),chk_of hc,Yj]
    have hpr:Yd (s.drop i) bad=(Vj bad (s.getD i 0)&&Yd (s.drop (i+1)) bad):=by rw [hd];rfl
    generalize s.getD i 0=c at *
    by_cases h1:c.toNat<33
    ·rw [sel_pos (by simp;omega)]
     exact ⟨_,rfl,i,rfl,.inl ⟨rfl,by rw [hp,hpr];simp [Vj,h1]⟩⟩
    rw [sel_neg (by simp;omega),chk_of hc]
    by_cases h2:126<c.toNat
    ·rw [sel_pos (by simp;omega)]
     exact ⟨_,rfl,i,rfl,.inl ⟨rfl,by rw [hp,hpr];simp [Vj,h2]⟩⟩
    rw [sel_neg (by simp;omega),chk_of hc]
    have h4:=Kerb.indexOf_nonneg c bad
    by_cases h3:c∈bad
    ·rw [sel_pos (by simpa using h4.2 h3)]
     exact ⟨_,rfl,i,rfl,.inl ⟨rfl,by rw [hp,hpr];simp [Vj,h3]⟩⟩
    rw [sel_neg (by have:=mt h4.1 h3;simp;omega),wrap_i64 (by omega) (by omega)]
    exact ⟨_,rfl,i+1,rfl,⟨by omega,by rw [hp,hpr];simp [Vj,h1,h2,h3]⟩,by dsimp only;omega⟩
   ·rw [sel_neg (by simp;omega)]
    exact ⟨_,rfl,i,rfl,.inr ⟨rfl,by rw [hp,Yq (by omega)];rfl⟩⟩
  ·rintro ⟨e,l⟩ ⟨i,rfl,⟨rfl,hp⟩ | ⟨rfl,hp⟩⟩
   ·simp only [A0,hp]
   ·simp only [A0,hp]
    rfl
 ·cases h
theorem w177:Walked Tryz.prog G 177 4 sp177:=by
 refine ⟨Tryz.f177,Tryz.func177,by decide +kernel,rfl,fun xs bl r h=> ?_⟩
 unfold sp177 at h
 split at h
 ·rename_i b
  obtain ⟨hpre,h2⟩:=chk_inv h;cases h2
  refine Eq.trans (b:=(sel (!(↑(Zz b):Int)==8) (some (Yz [Zy .u64 0,Zu false],[])) (Zq (loopM (fun (st:List AV)=>cInt .u64 st fun n r=>cBs r fun b r=>cInt .i64 r fun n_1 r=>cInt .i64 r fun n_2 r=>onNil r (sel (decide (n_2<n_1)) (chk (decide (0≤n_2)&&decide (n_2<(↑(Zz b):Int))) (some (Xm [Zy .u64 (Zx .u64 (↑(BitVec.toNat (BitVec.ofInt (Zk .u64) (Zx .u64 (n*2 ^ min (Zv 8) (Zk .u64))) ||| BitVec.ofInt (Zk .u64) (Zx .u64 (↑(Yx (Yk b (Zv n_2) (0:UInt8))):Int)))):Int)),Zb b,Zy .i64 n_1,Zy .i64 (Zx .i64 (n_2+1))]))) (some (Xv (Yb 0,[Zy .u64 n,Zb b,Zy .i64 n_1,Zy .i64 n_2]))))) [Zy .u64 0,Zb b,Zy .i64 (↑(Zz b):Int),Zy .i64 0]) fun (r:Ex×List AV)=>cInt .u64 (Zd r) fun n r_1=>cBs r_1 fun b r_2=>cInt .i64 r_2 fun n_1 r_3=>cInt .i64 r_3 fun n_2 r_4=>onNil r_4 (exK r.1 none fun (j:Nat)=>sel (Xh j 0) (Zq (chk (decide (0≤n)&&decide (n<18446744073709551616)) (some (Zu (Yf n),[]))) (kL fun b=>sel (!b) (some (Yz [Zy .u64 0,Zu false],[])) (some (Yz [Zy .u64 n,Zu true],[])))) none)):Option (AV×Blocks))) (by kernel_rfl) ?_
  delta kL
  try dsimp only [cStr,cBs,cBool,cU8,cInt,cSl,l63]
  have hb:=of_decide_eq_true hpre
  unfold Kerb.keyRead
  by_cases h8:b.length=8
  case neg =>
   rw [sel_pos (by simp;omega),if_neg (by omega)]
  rw [sel_neg (by simp [h8])]
  refine loop_rounds (fun i:Nat=>[Zy Ym (Kerb.valB (b.take i)),Zb b,Zy Zw (b.length:Int),Zy Zw (i:Int)]) (fun i=>i≤8) (fun i=>8-i)
   (fun r=>r=(Yb 0,[Zy Ym (Kerb.valB b),Zb b,Zy Zw (b.length:Int),Zy Zw 8])) 0 (by omega) rfl ?_ ?_
  ·intro i hi
   simp only [A0]
   by_cases hlt:i<8
   ·have hv:=Kerb.valB_take (l:=b) (i:=i) (by omega)
    have hbd:=Kerb.valB_bd7 (l:=b.take i) (by simp;omega)
    rw [sel_pos (by simp;omega),chk_of (by simp;omega),Yj,Kerb.shl8_oru _ hbd.1 hbd.2,wrap_i64 (by omega) (by omega),← hv]
    exact ⟨_,rfl,i+1,rfl,by omega,by dsimp only;omega⟩
   ·rw [sel_neg (by simp;omega)]
    refine ⟨_,rfl,?_⟩
    show _=_
    rw [Xp (by omega),show i=8 from by omega]
    rfl
  rintro r rfl
  have hbd:=Kerb.valB_bd8 (l:=b) (by omega)
  simp only [A0]
  rw [sel_pos (Yu _),chk_of (by simp;omega)]
  cases hv:Yf (Kerb.valB b)
  ·rw [if_neg (by simp)]
   rfl
  ·rw [if_pos ⟨h8,rfl⟩]
   rfl
 ·cases h
theorem w185:Walked Tryz.prog G 185 4 sp185:=by
 refine ⟨Tryz.f185,Tryz.func185,by decide +kernel,rfl,fun xs bl r h=> ?_⟩
 unfold sp185 at h
 split at h
 ·rename_i b x y z
  obtain ⟨hpre,h2⟩:=chk_inv h;cases h2
  refine Eq.trans (b:=(Zq (chk (decide (Zz b+Zz x≤70368744177664)) (some (Zb (Xy b x),[]))) fun (r:AV×Blocks)=>onNilB (Zd r) (AV.onBs (Zm r) fun b=>Zq (chk (decide (Zz b+Zz y≤70368744177664)) (some (Zb (Xy b y),[]))) fun (r:AV×Blocks)=>onNilB (Zd r) (AV.onBs (Zm r) fun b=>Zq (chk (decide (Zz b+Zz z≤70368744177664)) (some (Zb (Xy b z),[]))) fun (r:AV×Blocks)=>onNilB (Zd r) (AV.onBs (Zm r) fun b=>some (Zb b,[])))):Option (AV×Blocks))) (by kernel_rfl) ?_
  simp only [decide_eq_true_eq] at hpre
  simp only [A0]
  rw [chk_of (by simp;omega),chk_of (by simp [Xy];omega),chk_of (by simp [Xy];omega)]
  rfl
 ·cases h
theorem w10:Walked Tryz.prog G 10 5 sp10:=by
 refine ⟨Tryz.f10,Tryz.func10,by decide +kernel,rfl,fun xs bl r h=> ?_⟩
 unfold sp10 at h
 split at h
 ·rename_i cu co cv cr lt tn mt cad cfr cis ctm ctk clf ccs cky ckv css ctt cau sz sk
  cases h
  refine Eq.trans (b:=(some (Wd [Zj (Vk (Wj (Wq cu co cv cr lt tn mt cad cfr cis ctm ctk clf ccs cky ckv css ctt cau))),Zj (Vp (Wj (Wq cu co cv cr lt tn mt cad cfr cis ctm ctk clf ccs cky ckv css ctt cau))),Zj (Vx (Wj (Wq cu co cv cr lt tn mt cad cfr cis ctm ctk clf ccs cky ckv css ctt cau))),Yw 5 [Wd [Zj (Vk (Wj (Wq cu co cv cr lt tn mt cad cfr cis ctm ctk clf ccs cky ckv css ctt cau))),Zj (Vp (Wj (Wq cu co cv cr lt tn mt cad cfr cis ctm ctk clf ccs cky ckv css ctt cau))),Zj (Vx (Wj (Wq cu co cv cr lt tn mt cad cfr cis ctm ctk clf ccs cky ckv css ctt cau))),Zy .i64 1,Zy .u64 (Kerb.long 1)],Wd [Zj (Vk (Wj (Wq cu co cv cr lt tn mt cad cfr cis ctm ctk clf ccs cky ckv css ctt cau))),Zj (Vp (Wj (Wq cu co cv cr lt tn mt cad cfr cis ctm ctk clf ccs cky ckv css ctt cau))),Zj (Vx (Wj (Wq cu co cv cr lt tn mt cad cfr cis ctm ctk clf ccs cky ckv css ctt cau))),Zy .i64 2,Zy .u64 (Kerb.long 2)],Wd [Zj (Vk (Kerb.user 0)),Zj (Vp (Kerb.user 0)),Zj (Vx (Kerb.user 0)),Zy .i64 1,Zy .u64 (Kerb.long 9)]],Zy .i64 (Zx .i64 (1+Zg (Zx .i64 (↑(Yx sz):Int)) 40)),Zy .i64 0,Yw 5 [],Zy .i64 (Zx .i64 (Zx .i64 (↑(Yx sk):Int)*4))],[]):Option (AV×Blocks))) (by kernel_rfl) ?_
  have b1:=Kerb.u8i_bd sz
  have b2:=Kerb.u8i_bd sk
  have f1:Zx .i64 (1+Zg (Kerb.u8i sz) 40)=1+Kerb.u8i sz % 40:=by rw [Yn b1.1];exact wrap_i64 (by omega) (by omega)
  have f2:Zx .i64 (Kerb.u8i sk*4)=Kerb.u8i sk*4:=wrap_i64 (by omega) (by omega)
  simp only [Kerb.wrap_u8i,f1,f2]
  rfl
 ·cases h
end Go.Proofs.YtiplnpablmohiaaGreat
