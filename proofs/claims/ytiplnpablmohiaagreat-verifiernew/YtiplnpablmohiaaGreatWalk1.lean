/- What the functions of this seat compute. -/
import Derived.Test.YtiplnpablmohiaaGreatTab
import Derived.Test.YtiplnpablmohiaaGreatKerbPlain
import Derived.Test.YtiplnpablmohiaaGreatAbsStep
import Derived.Test.YtiplnpablmohiaaGreatKerbCli7
import Derived.Test.YtiplnpablmohiaaGreatKerbCli3
import Derived.Test.YtiplnpablmohiaaGreatKerbCli4
import Derived.Test.YtiplnpablmohiaaGreatKerbKac4
import Derived.Test.YtiplnpablmohiaaGreatKerbVerL
open Go.Abs.AV renaming int→Zz,bool→Zu,str→Zq,bs→Zg,sl→Zn,ownB→Zm,tup→Yy,undef→Xv,onInt→Xk,onOwnB→Xd,onBool→Xh,onStr→Wv,onAgg→Wp,agg→Wd
open List renaming length→Zy,drop_eq_nil_of_le→Yw,getD→Yq,length_map→Yd,append→Xj,replicate→Xn,take→Wz,range_succ→Wy,drop→Wu,take_of_length_le→Wq,findIdx_cons→Vp
open Go.IntKind renaming wrap→Zx,i64→Zw,bits→Zk,u64→Ym
open Int renaming toNat→Zv,tmod→Zf,toNat_natCast→Yk,tmod_eq_emod_of_nonneg→Yn,fdiv→Wg,tdiv→Vx,tdiv_eq_ediv_of_nonneg→Vk
open Option renaming bind→Zj
open Bool renaming and_eq_true→Zp,not_true→Xu,true_and→Vg,and_self→Vb
open Prod renaming snd→Zd,fst→Yx
open Kerb renaming within→Zb,room_ok→Zh,indexOf→Yv,bfd→Yp,keyValid→Yb,putN→Xz,putN_len→Xy,isKind→Xx,skAt→Xq,putText_len→Xb,printable→Xm,noSKey→Wx,getD_row→Ww,putText→Wj,hasMark→Wk,readHead→Wf,noMark→Wb,header→Wn,byteAt→Wm,bfd_eq→Wh,service→Vz,sameSKeys→Vy,room→Vw,isSerial→Vv,nextPos→Vq,isClass→Vj,skeys_of→Vf
open Nat renaming beq_refl→Yz,zero_le→Xp,beq→Xg,blt→Vd
open UInt8 renaming ofNat→Yu,toNat→Yf
open Kerb.SKey renaming av→Yj,is→Vu
open Go.Abs.Ex renaming exit→Yg
open Sum renaming inr→Yh,inl→Xf
open Kerb.Mark renaming av→Xw
namespace Go.Proofs.YtiplnpablmohiaaGreat
open Go Go.Abs Go.Proofs
set_option linter.unusedVariables false
set_option linter.unusedSimpArgs false
set_option maxRecDepth 100000
theorem w12:Walked Tryz.prog G 12 1 sp12:=by
 refine ⟨Tryz.f12,Tryz.func12,by decide +kernel,rfl,fun xs bl r h=> ?_⟩
 unfold sp12 at h
 split at h
 ·rename_i n
  obtain ⟨hpre,h2⟩:=chk_inv h;cases h2
  refine Eq.trans (b:=(some (Zz .u64 (Zx .u64 (↑(BitVec.toNat (BitVec.ofInt (Zk .u64) 72057594037927936 ||| BitVec.ofInt (Zk .u64) (Zx .u64 (Zx .i64 (1+n))))):Int)),[]):Option (AV×Blocks))) (by kernel_rfl) ?_
  rfl
 ·cases h
theorem w13:Walked Tryz.prog G 13 1 sp13:=by
 refine ⟨Tryz.f13,Tryz.func13,by decide +kernel,rfl,fun xs bl r h=> ?_⟩
 unfold sp13 at h
 split at h
 ·rename_i b how
  obtain ⟨hpre,h2⟩:=chk_inv h;cases h2
  refine Eq.trans (b:=(let t0:Int:=Zf (Zx .i64 (Zx .u16 (Vx how 8))) (↑(Zy b):Int);chk (room (Zy b) 1) (sel ((↑(Zy b):Int)==0) (some (Zg b,[])) (chk (!(↑(Zy b):Int)==0) (sel (Zf how 4==0) (chk (decide (0≤t0)&&decide (t0<(↑(Zy b):Int))) (chk (Vd (Zv t0) (Zy b)&&true&&true&&true) (chk (decide (0≤Zx .u64 (Zf how 7))) (chk (decide (0≤t0)&&decide (t0<(↑(Zy b):Int))) (chk (Vd (Zv t0) (Zy b)&&true&&true&&true&&true) (some (Zg (List.set b (Zv t0) (Yu (Zv (Zx .u8 (↑(BitVec.toNat (BitVec.ofInt (Zk .u8) (↑(Yf (Yq b (Zv t0) (0:UInt8))):Int) ^^^ BitVec.ofInt (Zk .u8) (↑(Yf (Yu (Zv (Zx .u8 ((↑(Yf (1:UInt8)):Int)*2 ^ min (Zv (Zx .u64 (Zf how 7))) 8))))):Int))):Int))))),[]))))))) (sel (Zf how 4==1) (chk (decide (0≤t0)&&decide (t0≤(↑(Zy b):Int))&&Vd 0 (Zy b)&&true) (chk (decide (0≤Zx .i64 (t0+1))&&decide (Zx .i64 (t0+1)≤(↑(Zy b):Int))&&Vd 0 (Zy b)&&true) (chk (Vd 0 (Zy b)&&true&&true&&true&&room (Zv t0+(Zy b-Zv (Zx .i64 (t0+1)))) 1) (some (Zg (Wz (Zv t0) b++Wu (Zv (Zx .i64 (t0+1))) b),[]))))) (sel (Zf how 4==2) (chk (room (Zy b+Zy [Yu (Zv (Zx .u8 how))]) 1) (some (Zg (b++[Yu (Zv (Zx .u8 how))]),[]))) (some (Zg b,[]))))))):Option (AV×Blocks))) (by kernel_rfl) ?_
  try dsimp only [cStr,cBs,cBool,cU8,cInt,cSl,l63]
  simp only [Zp,decide_eq_true_eq] at hpre
  obtain ⟨⟨hb,h0⟩,h1⟩:=hpre
  rw [chk_of (Zh (by omega))]
  unfold Kerb.spoil
  by_cases hn:b=[]
  ·subst hn;rfl
  have hpos:0<b.length:=List.length_pos_iff.2 hn
  rw [if_neg hn,sel_neg (by simp;omega),chk_of (by simp;omega)]
  have e:Zf (Zx Zw (Zx IntKind.u16 (Vx how (8:Int)))) (b.length:Int)=Kerb.spoilAt b how:=rfl
  rw [e]
  obtain ⟨ha,hc⟩:=Kerb.spoilAt_bd h0 h1 hpos
  generalize Kerb.spoilAt b how=a at ha hc ⊢
  have hd:(decide ((0:Int)≤a)&&decide (a<(b.length:Int)))=true:=by simp;omega
  have hbl:Vd a.toNat b.length=true:=Nat.ble_eq_true_of_le (by omega)
  have hbl0:Vd 0 b.length=true:=Nat.ble_eq_true_of_le (by omega)
  have h7:decide ((0:Int)≤Zx Ym (Zf how (7:Int)))=true:=by rw [Kerb.wrap_u64];simp;omega
  by_cases c0:Zf how 4=0
  ·rw [if_pos c0,sel_pos (by simpa using c0),chk_of hd,chk_of (by rw [hbl];rfl),chk_of h7,chk_of hd,chk_of (by rw [hbl];rfl)]
  rw [if_neg c0,sel_neg (by simpa using c0)]
  by_cases c1:Zf how 4=1
  ·rw [if_pos c1,sel_pos (by simpa using c1),wrap_i64 (n:=a+1) (by omega) (by omega),chk_of (by rw [hbl0];simp;omega),chk_of (by rw [hbl0];simp;omega),chk_of (by rw [hbl0,Zh (by omega)];rfl)]
  rw [if_neg c1,sel_neg (by simpa using c1)]
  by_cases c2:Zf how 4=2
  ·rw [if_pos c2,sel_pos (by simpa using c2),chk_of (Zh (by simp;omega))]
  ·rw [if_neg c2,sel_neg (by simpa using c2)]
 ·cases h
theorem w18:Walked Tryz.prog G 18 1 sp18:=by
 refine ⟨Tryz.f18,Tryz.func18,by decide +kernel,rfl,fun xs bl r h=> ?_⟩
 unfold sp18 at h
 split at h
 ·rename_i m1 m2 m3 kls sz fl mls sk
  cases h
  refine Eq.trans (b:=(sel (decide ((↑(Zy kls):Int)>20)) (some (Zu true,[])) (some (Zu (decide ((↑(Zy mls):Int)>20)),[])):Option (AV×Blocks))) (by kernel_rfl) ?_
  by_cases h:20<kls.length
  ·rw [sel_pos (by simp;omega),decide_eq_true h];rfl
  ·rw [sel_neg (by simp;omega),decide_eq_false h,Bool.false_or]
   have:decide ((mls.length:Int)>20)=decide (20<mls.length):=decide_eq_decide.2 (by omega)
   rw [this]
 ·cases h
theorem w22:Walked Tryz.prog G 22 1 sp22:=by
 refine ⟨Tryz.f22,Tryz.func22,by decide +kernel,rfl,fun xs bl r h=> ?_⟩
 unfold sp22 at h
 split at h
 ·rename_i n
  obtain ⟨hpre,h2⟩:=chk_inv h;cases h2
  refine Eq.trans (b:=(some (Zz .u64 (Zx .u64 (↑(BitVec.toNat (BitVec.ofInt (Zk .u64) 144115188075855872 ||| BitVec.ofInt (Zk .u64) (Zx .u64 (Zx .i64 (1+n))))):Int)),[]):Option (AV×Blocks))) (by kernel_rfl) ?_
  rfl
 ·cases h
theorem w41:Walked Tryz.prog G 41 1 sp41:=by
 refine ⟨Tryz.f41,Tryz.func41,by decide +kernel,rfl,fun xs bl r h=> ?_⟩
 unfold sp41 at h
 split at h
 ·rename_i kls jls
  obtain ⟨hpre,h2⟩:=chk_inv h;cases h2
  refine Eq.trans (b:=(sel (!(↑(Zy kls):Int)==(↑(Zy jls):Int)) (some (Zu false,[])) (Zj (loopM (fun (st:List AV)=>cSl 5 st fun b r=>cSl 5 r fun b_1 r=>cBool r fun b_2 r=>cInt .i64 r fun n r=>onNil r (sel (decide (n<(↑(Zy b):Int))) (chk (decide (0≤n)&&decide (n<(↑(Zy b):Int))&&true) (Wp (Yq b (Zv n) Xv) fun cs=>cStr cs fun b_3 r=>cStr r fun b_4 r=>cStr r fun b_5 r=>cInt .i64 r fun n_1 r=>cInt .u64 r fun n_2 r=>onNil r (chk (decide (0≤n)&&decide (n<(↑(Zy b_1):Int))&&true) (Wp (Yq b_1 (Zv n) Xv) fun cs=>cStr cs fun b_6 r=>cStr r fun b_7 r=>cStr r fun b_8 r=>cInt .i64 r fun n_3 r=>cInt .u64 r fun n_4 r=>onNil r (sel (!(b_3==b_6&&(b_4==b_7&&(b_5==b_8&&(n_1==n_3&&n_2==n_4))))) (some (Yh (Ex.ret,[Zn 5 b,Zn 5 b_1,Zu false,Zz .i64 n]))) (some (Xf [Zn 5 b,Zn 5 b_1,Zu b_2,Zz .i64 (Zx .i64 (n+1))]))))))) (some (Yh (Yg 0,[Zn 5 b,Zn 5 b_1,Zu b_2,Zz .i64 n]))))) [Zn 5 kls,Zn 5 jls,Zu false,Zz .i64 0]) fun (r:Ex×List AV)=>cSl 5 (Zd r) fun b r_1=>cSl 5 r_1 fun b r_2=>cBool r_2 fun b r_3=>cInt .i64 r_3 fun n r_4=>onNil r_4 (exK r.1 (some (Zu b,[])) fun (j:Nat)=>sel (Xg j 0) (some (Zu true,[])) none)):Option (AV×Blocks))) (by kernel_rfl) ?_
  try dsimp only [cStr,cBs,cBool,cU8,cInt,cSl,l63]
  simp only [Zp,decide_eq_true_eq] at hpre
  obtain ⟨⟨h1a,hlen⟩,h1b⟩:=hpre
  obtain ⟨cs,rfl,hok⟩:=Vf h1a
  obtain ⟨ds,rfl,hokd⟩:=Vf h1b
  simp only [Kerb.map_toSKey,Yd] at hlen ⊢
  by_cases hl:cs.length=ds.length
  case neg =>
   rw [sel_pos (by simp;omega),Kerb.sameSKeys_len hl]
   try rfl
  rw [sel_neg (by simp;omega)]
  refine loop_rounds (fun i:Nat=>[Zn 5 (cs.map Yj),Zn 5 (ds.map Yj),Zu false,Zz Zw (i:Int)]) (fun i=>i≤cs.length∧Vy cs ds=Vy (cs.drop i) (ds.drop i)) (fun i=>cs.length-i)
   (fun r=>∃ (i:Nat) (q:Bool),r.2=[Zn 5 (cs.map Yj),Zn 5 (ds.map Yj),Zu q,Zz Zw (i:Int)]∧((r.1 = .ret∧q=false∧Vy cs ds=false)∨(r.1 = .exit 0∧Vy cs ds=true))) 0 ⟨Xp _,by simp⟩ rfl ?_ ?_
  ·rintro i ⟨hi,hp⟩
   simp only [↓A0,A0,Yd]
   by_cases hlt:i<cs.length
   ·have hlt2:i<ds.length:=by omega
    have hs:=Kerb.sameSKeys_step hlt hlt2
    have hg:(cs.map Yj).getD i Xv=(cs.getD i Wx).av:=Ww hlt
    have hg2:(ds.map Yj).getD i Xv=(ds.getD i Wx).av:=Ww hlt2
    have hk1:(decide ((0:Int)≤(i:Int))&&decide ((i:Int)<(cs.length:Int))&&true)=true:=by simp;omega
    have hk2:(decide ((0:Int)≤(i:Int))&&decide ((i:Int)<(ds.length:Int))&&true)=true:=by simp;omega
    obtain ⟨c,hc⟩:∃ c,cs.getD i Wx=c:=⟨_,rfl⟩
    obtain ⟨d,hd⟩:∃ d,ds.getD i Wx=d:=⟨_,rfl⟩
    rw [hc] at hg hs
    rw [hd] at hg2 hs
    rw [sel_pos (by simp;omega)]
    simp only [hk1,hk2,Yk,hg,hg2,Yj,↓A0,A0]
    rw [wrap_i64 (by omega) (by omega)]
    show ∃ y,sel (!(c.eqb d)) _ _=some y∧_
    cases he:c.eqb d
    ·rw [he,Bool.false_and] at hs
     exact ⟨_,rfl,i,_,rfl,.inl ⟨rfl,rfl,hp.trans hs⟩⟩
    ·rw [he,Vg] at hs
     exact ⟨_,rfl,i+1,rfl,⟨by omega,hp.trans hs⟩,by dsimp only;omega⟩
   ·rw [sel_neg (by simp;omega)]
    refine ⟨_,rfl,i,_,rfl,.inr ⟨rfl,?_⟩⟩
    rw [hp,Yw (by omega),Yw (by omega)]
    rfl
  ·rintro ⟨e,l⟩ ⟨i,q,rfl,⟨rfl,rfl,h⟩ | ⟨rfl,h⟩⟩
   ·simp only [↓A0,A0,h]
    try rfl
   ·simp only [↓A0,A0,h]
    rw [sel_pos (Yz _)]
    try rfl
 ·cases h
theorem w42:Walked Tryz.prog G 42 1 sp42:=by
 refine ⟨Tryz.f42,Tryz.func42,by decide +kernel,rfl,fun xs bl r h=> ?_⟩
 unfold sp42 at h
 split at h
 ·rename_i sz fl mls sy fm nls
  obtain ⟨hpre,h2⟩:=chk_inv h;cases h2
  refine Eq.trans (b:=(sel (!sz==sy) (some (Zu false,[])) (sel (!fl==fm) (some (Zu false,[])) (sel (!(↑(Zy mls):Int)==(↑(Zy nls):Int)) (some (Zu false,[])) (Zj (loopM (fun (st:List AV)=>cInt .i64 st fun n r=>cInt .i64 r fun n_1 r=>cSl 5 r fun b r=>cInt .i64 r fun n_2 r=>cInt .i64 r fun n_3 r=>cSl 5 r fun b_1 r=>cBool r fun b_2 r=>cInt .i64 r fun n_4 r=>onNil r (sel (decide (n_4<(↑(Zy b):Int))) (chk (decide (0≤n_4)&&decide (n_4<(↑(Zy b):Int))&&true) (Wp (Yq b (Zv n_4) Xv) fun cs=>cStr cs fun b_3 r=>cStr r fun b_4 r=>cStr r fun b_5 r=>cInt .i64 r fun n_5 r=>cInt .i64 r fun n_6 r=>onNil r (chk (decide (0≤n_4)&&decide (n_4<(↑(Zy b_1):Int))&&true) (Wp (Yq b_1 (Zv n_4) Xv) fun cs=>cStr cs fun b_6 r=>cStr r fun b_7 r=>cStr r fun b_8 r=>cInt .i64 r fun n_7 r=>cInt .i64 r fun n_8 r=>onNil r (sel (!(b_3==b_6&&(b_4==b_7&&(b_5==b_8&&(n_5==n_7&&n_6==n_8))))) (some (Yh (Ex.ret,[Zz .i64 n,Zz .i64 n_1,Zn 5 b,Zz .i64 n_2,Zz .i64 n_3,Zn 5 b_1,Zu false,Zz .i64 n_4]))) (some (Xf [Zz .i64 n,Zz .i64 n_1,Zn 5 b,Zz .i64 n_2,Zz .i64 n_3,Zn 5 b_1,Zu b_2,Zz .i64 (Zx .i64 (n_4+1))]))))))) (some (Yh (Yg 0,[Zz .i64 n,Zz .i64 n_1,Zn 5 b,Zz .i64 n_2,Zz .i64 n_3,Zn 5 b_1,Zu b_2,Zz .i64 n_4]))))) [Zz .i64 sz,Zz .i64 fl,Zn 5 mls,Zz .i64 sy,Zz .i64 fm,Zn 5 nls,Zu false,Zz .i64 0]) fun (r:Ex×List AV)=>cInt .i64 (Zd r) fun n r_1=>cInt .i64 r_1 fun n r_2=>cSl 5 r_2 fun b r_3=>cInt .i64 r_3 fun n r_4=>cInt .i64 r_4 fun n r_5=>cSl 5 r_5 fun b r_6=>cBool r_6 fun b r_7=>cInt .i64 r_7 fun n r_8=>onNil r_8 (exK r.1 (some (Zu b,[])) fun (j:Nat)=>sel (Xg j 0) (some (Zu true,[])) none)))):Option (AV×Blocks))) (by kernel_rfl) ?_
  try dsimp only [cStr,cBs,cBool,cU8,cInt,cSl,l63]
  simp only [Zp,decide_eq_true_eq] at hpre
  obtain ⟨⟨h1a,hlen⟩,h1b⟩:=hpre
  obtain ⟨cs,rfl,hok⟩:=Kerb.marks_of h1a
  obtain ⟨ds,rfl,hokd⟩:=Kerb.marks_of h1b
  simp only [Kerb.map_toMark,Yd] at hlen ⊢
  unfold Kerb.RCache.same
  dsimp only
  cases g1:(sz==sy)
  ·rfl
  cases g2:(fl==fm)
  ·rfl
  rw [Xu,sel_false,sel_false,Vg,Vg]
  by_cases hl:cs.length=ds.length
  case neg =>
   rw [sel_pos (by simp;omega),Kerb.sameMarks_len hl]
   try rfl
  rw [sel_neg (by simp;omega)]
  refine loop_rounds (fun i:Nat=>[Zz Zw sz,Zz Zw fl,Zn 5 (cs.map Xw),Zz Zw sy,Zz Zw fm,Zn 5 (ds.map Xw),Zu false,Zz Zw (i:Int)]) (fun i=>i≤cs.length∧Kerb.sameMarks cs ds=Kerb.sameMarks (cs.drop i) (ds.drop i)) (fun i=>cs.length-i)
   (fun r=>∃ (i:Nat) (q:Bool),r.2=[Zz Zw sz,Zz Zw fl,Zn 5 (cs.map Xw),Zz Zw sy,Zz Zw fm,Zn 5 (ds.map Xw),Zu q,Zz Zw (i:Int)]∧((r.1 = .ret∧q=false∧Kerb.sameMarks cs ds=false)∨(r.1 = .exit 0∧Kerb.sameMarks cs ds=true))) 0 ⟨Xp _,by simp⟩ rfl ?_ ?_
  ·rintro i ⟨hi,hp⟩
   simp only [↓A0,A0,Yd]
   by_cases hlt:i<cs.length
   ·have hlt2:i<ds.length:=by omega
    have hs:=Kerb.sameMarks_step hlt hlt2
    have hg:(cs.map Xw).getD i Xv=(cs.getD i Wb).av:=Ww hlt
    have hg2:(ds.map Xw).getD i Xv=(ds.getD i Wb).av:=Ww hlt2
    have hk1:(decide ((0:Int)≤(i:Int))&&decide ((i:Int)<(cs.length:Int))&&true)=true:=by simp;omega
    have hk2:(decide ((0:Int)≤(i:Int))&&decide ((i:Int)<(ds.length:Int))&&true)=true:=by simp;omega
    obtain ⟨c,hc⟩:∃ c,cs.getD i Wb=c:=⟨_,rfl⟩
    obtain ⟨d,hd⟩:∃ d,ds.getD i Wb=d:=⟨_,rfl⟩
    rw [hc] at hg hs
    rw [hd] at hg2 hs
    rw [sel_pos (by simp;omega)]
    simp only [hk1,hk2,Yk,hg,hg2,Xw,↓A0,A0]
    rw [wrap_i64 (by omega) (by omega)]
    show ∃ y,sel (!(c.eqb d)) _ _=some y∧_
    cases he:c.eqb d
    ·rw [he,Bool.false_and] at hs
     exact ⟨_,rfl,i,_,rfl,.inl ⟨rfl,rfl,hp.trans hs⟩⟩
    ·rw [he,Vg] at hs
     exact ⟨_,rfl,i+1,rfl,⟨by omega,hp.trans hs⟩,by dsimp only;omega⟩
   ·rw [sel_neg (by simp;omega)]
    refine ⟨_,rfl,i,_,rfl,.inr ⟨rfl,?_⟩⟩
    rw [hp,Yw (by omega),Yw (by omega)]
    rfl
  ·rintro ⟨e,l⟩ ⟨i,q,rfl,⟨rfl,rfl,h⟩ | ⟨rfl,h⟩⟩
   ·simp only [↓A0,A0,h]
    try rfl
   ·simp only [↓A0,A0,h]
    rw [sel_pos (Yz _)]
    try rfl
 ·cases h
theorem w49:Walked Tryz.prog G 49 1 sp49:=by
 refine ⟨Tryz.f49,Tryz.func49,by decide +kernel,rfl,fun xs bl r h=> ?_⟩
 unfold sp49 at h
 split at h
 ·rename_i kls x y z v
  obtain ⟨hpre,h2⟩:=chk_inv h;cases h2
  refine Eq.trans (b:=(Zj (loopM (fun (st:List AV)=>cSl 5 st fun b r=>cInt .i64 r fun n r=>cStr r fun b_1 r=>cStr r fun b_2 r=>cStr r fun b_3 r=>cInt .u64 r fun n_1 r=>cBool r fun b_4 r=>cInt .i64 r fun n_2 r=>let t0:Option (List AV ⊕ Ex×List AV):=some (Xf [Zn 5 b,Zz .i64 n,Zq b_1,Zq b_2,Zq b_3,Zz .u64 n_1,Zu b_4,Zz .i64 (Zx .i64 (n_2+1))]);let t1:Bool:=decide (0≤n_2)&&decide (n_2<(↑(Zy b):Int))&&true;onNil r (sel (decide (n_2<(↑(Zy b):Int))) (chk t1 (Wp (Yq b (Zv n_2) Xv) fun cs=>cStr cs fun b_5 r=>cStr r fun b_6 r=>cStr r fun b_7 r=>cInt .i64 r fun n_3 r=>cInt .u64 r fun n_4 r=>onNil r (sel (b_5==b_1&&(b_6==b_2&&b_7==b_3)) (chk t1 (Wp (Yq b (Zv n_2) Xv) fun cs=>cStr cs fun b_8 r=>cStr r fun b_9 r=>cStr r fun b_10 r=>cInt .i64 r fun n_5 r=>cInt .u64 r fun n_6 r=>onNil r (sel (n_5==n) (chk t1 (Wp (Yq b (Zv n_2) Xv) fun cs=>cStr cs fun b_11 r=>cStr r fun b_12 r=>cStr r fun b_13 r=>cInt .i64 r fun n_7 r=>cInt .u64 r fun n_8 r=>onNil r (some (Yh (Ex.ret,[Zn 5 b,Zz .i64 n,Zq b_1,Zq b_2,Zq b_3,Zz .u64 n_8,Zu true,Zz .i64 n_2]))))) t0))) t0))) (some (Yh (Yg 0,[Zn 5 b,Zz .i64 n,Zq b_1,Zq b_2,Zq b_3,Zz .u64 n_1,Zu b_4,Zz .i64 n_2]))))) [Zn 5 kls,Zz .i64 v,Zq x,Zq y,Zq z,Zz .u64 0,Zu false,Zz .i64 0]) fun (r:Ex×List AV)=>cSl 5 (Zd r) fun b r_1=>cInt .i64 r_1 fun n r_2=>cStr r_2 fun b r_3=>cStr r_3 fun b r_4=>cStr r_4 fun b r_5=>cInt .u64 r_5 fun n r_6=>cBool r_6 fun b r_7=>cInt .i64 r_7 fun n_1 r_8=>onNil r_8 (exK r.1 (some (Yy [Zz .u64 n,Zu b],[])) fun (j:Nat)=>sel (Xg j 0) (some (Yy [Zz .u64 0,Zu false],[])) none):Option (AV×Blocks))) (by kernel_rfl) ?_
  try dsimp only [cStr,cBs,cBool,cU8,cInt,cSl,l63]
  simp only [Zp,decide_eq_true_eq] at hpre
  obtain ⟨hall,hlen⟩:=hpre
  obtain ⟨cs,rfl,hok⟩:=Vf hall
  rw [Kerb.map_toSKey]
  simp only [Yd] at hlen ⊢
  refine loop_rounds (fun i:Nat=>[Zn 5 (cs.map Yj),Zz Zw v,Zq x,Zq y,Zq z,Zz Ym 0,Zu false,Zz Zw (i:Int)]) (fun i=>i≤cs.length∧Xq cs ⟨x,y,z⟩ v=i+Xq (cs.drop i) ⟨x,y,z⟩ v) (fun i=>cs.length-i)
   (fun r=>∃ (i:Nat) (n:Int) (f:Bool),r.2=[Zn 5 (cs.map Yj),Zz Zw v,Zq x,Zq y,Zq z,Zz Ym n,Zu f,Zz Zw (i:Int)]∧((r.1 = .ret∧Kerb.skFind cs ⟨x,y,z⟩ v=(n,f))∨(r.1 = .exit 0∧Kerb.skFind cs ⟨x,y,z⟩ v=(0,false)))) 0 ⟨Xp _,by simp⟩ rfl ?_ ?_
  ·rintro i ⟨hi,hp⟩
   simp only [↓A0,A0,Yd]
   by_cases hlt:i<cs.length
   ·have hk1:(decide ((0:Int)≤(i:Int))&&decide ((i:Int)<(cs.length:Int))&&true)=true:=by simp;omega
    have hd:=Kerb.drop_row (d:=Wx) hlt
    have hg:(cs.map Yj).getD i Xv=(cs.getD i Wx).av:=Ww hlt
    obtain ⟨c,hc⟩:∃ c,cs.getD i Wx=c:=⟨_,rfl⟩
    rw [hc] at hd hg
    rw [sel_pos (by simp;omega)]
    simp only [hk1,Yk,hg,Yj,↓A0,A0]
    have he0:Vu ⟨x,y,z⟩ v c=((c.service.name==x&&(c.service.inst==y&&c.service.realm==z))&&c.kvno==v):=rfl
    have keep:Vu ⟨x,y,z⟩ v c=false→Xq cs ⟨x,y,z⟩ v=(i+1)+Xq (cs.drop (i+1)) ⟨x,y,z⟩ v:=fun he=>by
     rw [hp,hd]
     simp only [Xq,Vp,he,cond_false]
     omega
    rw [wrap_i64 (by omega) (by omega)]
    cases h1:(c.service.name==x&&(c.service.inst==y&&c.service.realm==z))
    ·rw [sel_false]
     exact ⟨_,rfl,i+1,rfl,⟨by omega,keep (by rw [he0,h1];rfl)⟩,by dsimp only;omega⟩
    rw [sel_true]
    cases h2:(c.kvno==v)
    ·rw [sel_false]
     exact ⟨_,rfl,i+1,rfl,⟨by omega,keep (by rw [he0,h1,h2];rfl)⟩,by dsimp only;omega⟩
    rw [sel_true]
    refine ⟨_,rfl,i,_,_,rfl,.inl ⟨rfl,?_⟩⟩
    have hq:Xq cs ⟨x,y,z⟩ v=i:=by
     rw [hp,hd]
     simp only [Xq,Vp,show Vu ⟨x,y,z⟩ v c=true from by rw [he0,h1,h2];rfl,cond_true]
     omega
    unfold Kerb.skFind
    rw [hq,if_pos hlt,hc]
   ·rw [sel_neg (by simp;omega)]
    refine ⟨_,rfl,i,0,false,rfl,.inr ⟨rfl,?_⟩⟩
    have hq:Xq cs ⟨x,y,z⟩ v=cs.length:=by
     rw [hp,Yw (by omega)]
     simp [Xq];omega
    unfold Kerb.skFind
    rw [hq,if_neg (by omega)]
  ·rintro ⟨e,l⟩ ⟨i,n,f,rfl,⟨rfl,h⟩ | ⟨rfl,h⟩⟩
   ·simp only [↓A0,A0,h]
   ·simp only [↓A0,A0,h]
    rw [sel_pos (Yz _)]
 ·cases h
theorem w65:Walked Tryz.prog G 65 1 sp65:=by
 refine ⟨Tryz.f65,Tryz.func65,by decide +kernel,rfl,fun xs bl r h=> ?_⟩
 unfold sp65 at h
 split at h
 ·rename_i n
  cases h
  refine Eq.trans (b:=(sel (decide (n≥0)) (some (Zu (decide (n≤4294967295)),[])) (some (Zu false,[])):Option (AV×Blocks))) (by kernel_rfl) ?_
  by_cases h:0≤n<;>simp [sel,Zb,h]
 ·cases h
theorem w72:Walked Tryz.prog G 72 1 sp72:=by
 refine ⟨Tryz.f72,Tryz.func72,by decide +kernel,rfl,fun xs bl r h=> ?_⟩
 unfold sp72 at h
 split at h
 ·rename_i l pos
  cases h
  show runFnH (G.env 72 1) G.rts (G.own 72) Tryz.f72 _ _ [0]=_
  refine Eq.trans (b:=(some (Zu (decide (pos<(↑(Zy l):Int))),[[Zg l,Zz .i64 pos]]):Option (AV×Blocks))) (by kernel_rfl) ?_
  rfl
 ·cases h
theorem w74:Walked Tryz.prog G 74 1 sp74:=by
 refine ⟨Tryz.f74,Tryz.func74,by decide +kernel,rfl,fun xs bl r h=> ?_⟩
 unfold sp74 at h
 split at h
 ·rename_i n l pos
  obtain ⟨hpre,h2⟩:=chk_inv h;cases h2
  show runFnH (G.env 74 1) G.rts (G.own 74) Tryz.f74 _ _ [0]=_
  refine Eq.trans (b:=(sel (decide (pos≥(↑(Zy l):Int))) (some (Zz .i64 0,[[Zg l,Zz .i64 pos]])) (sel (decide (n≤0)) (some (Zz .i64 0,[[Zg l,Zz .i64 pos]])) (chk (decide (0≤pos)&&decide (pos<(↑(Zy l):Int))) (chk (!n==0) (some (Zz .i64 (Zf (Zx .i64 (↑(Yf (Yq l (Zv pos) (0:UInt8))):Int)) n),[[Zg l,Zz .i64 (Zx .i64 (pos+1))]]))))):Option (AV×Blocks))) (by kernel_rfl) ?_
  simp only [Zp,decide_eq_true_eq] at hpre
  unfold Kerb.next Vq
  by_cases h1:(l.length:Int)≤pos
  ·simp [sel,h1]
   omega
  by_cases h2:n≤0
  ·simp [sel,h1,h2]
   omega
  have h3:¬ n=0:=by omega
  have hb:=(l.getD pos.toNat 0).toNat_lt
  rw [sel_neg (by simp;omega),sel_neg (by simp;omega),chk_of (by simp;omega),chk_of (by simpa using h3),if_neg (by omega),if_neg (by omega),wrap_i64 (by omega) (by omega),wrap_i64 (by omega) (by omega),Yn (by omega),Int.toNat_of_nonneg (by omega)]
 ·cases h
theorem w79:Walked Tryz.prog G 79 1 sp79:=by
 refine ⟨Tryz.f79,Tryz.func79,by decide +kernel,rfl,fun xs bl r h=> ?_⟩
 unfold sp79 at h
 split at h
 ·rename_i n
  cases h
  refine Eq.trans (b:=(sel (decide (n<1)) (some (Yy [Wd [Zz .i64 0,Zz .i64 0,Zn 5 []],Zz .i64 104],[])) (sel (decide (n>40)) (some (Yy [Wd [Zz .i64 0,Zz .i64 0,Zn 5 []],Zz .i64 104],[])) (some (Yy [Wd [Zz .i64 n,Zz .i64 0,Zn 5 []],Zz .i64 0],[]))):Option (AV×Blocks))) (by kernel_rfl) ?_
  unfold Kerb.newCache
  by_cases h1:n<1
  ·rw [sel_pos (by simpa using h1),if_pos (by simp;omega)];rfl
  rw [sel_neg (by simpa using h1)]
  by_cases h2:n>40
  ·rw [sel_pos (by simpa using h2),if_pos (by simp;omega)];rfl
  rw [sel_neg (by simpa using h2),if_neg (by simp;omega)]
  rfl
 ·cases h
theorem w82:Walked Tryz.prog G 82 1 sp82:=by
 refine ⟨Tryz.f82,Tryz.func82,by decide +kernel,rfl,fun xs bl r h=> ?_⟩
 unfold sp82 at h
 split at h
 ·rename_i n m
  cases h
  refine Eq.trans (b:=(sel (decide (n≥0)) (some (Zu (decide (n≤m)),[])) (some (Zu false,[])):Option (AV×Blocks))) (by kernel_rfl) ?_
  by_cases h:0≤n<;>simp [sel,Zb,h]
 ·cases h
theorem w84:Walked Tryz.prog G 84 1 sp84:=by
 refine ⟨Tryz.f84,Tryz.func84,by decide +kernel,rfl,fun xs bl r h=> ?_⟩
 unfold sp84 at h
 split at h
 ·rename_i k little
  cases h
  refine Eq.trans (b:=(sel (decide (k<1)) (some (Zg [],[])) (sel (decide (k>10)) (some (Zg [],[])) (sel little (some (Zg [(4:UInt8),Yu (Zv (Zx .u8 (Zx .i64 (Zx .i64 (2*k)+1))))],[])) (some (Zg [(4:UInt8),Yu (Zv (Zx .u8 (Zx .i64 (2*k))))],[])))):Option (AV×Blocks))) (by kernel_rfl) ?_
  by_cases h:1≤k∧k≤10
  ·have hk:k=1∨k=2∨k=3∨k=4∨k=5∨k=6∨k=7∨k=8∨k=9∨k=10:=by omega
   rcases hk with rfl | rfl | rfl | rfl | rfl | rfl | rfl | rfl | rfl | rfl<;>cases little<;>rfl
  ·have hk:Xx k=false:=by simp [Xx];omega
   by_cases h1:k<1
   ·simp [sel,Wn,hk,h1]
   ·have h2:10<k:=by omega
    simp [sel,Wn,hk,h1,h2]
 ·cases h
theorem w85:Walked Tryz.prog G 85 1 sp85:=by
 refine ⟨Tryz.f85,Tryz.func85,by decide +kernel,rfl,fun xs bl r h=> ?_⟩
 unfold sp85 at h
 split at h
 ·rename_i b s
  obtain ⟨hpre,h2⟩:=chk_inv h;cases h2
  refine Eq.trans (b:=(chk (room (Zy b) 1) (chk (room (Zy b+Zy s) 1) (chk (room (Zy (b++s)+Zy [(0:UInt8)]) 1) (some (Zg (b++s++[(0:UInt8)]),[])))):Option (AV×Blocks))) (by kernel_rfl) ?_
  simp only [decide_eq_true_eq] at hpre
  rw [chk_of (Zh (by omega)),chk_of (Zh (by omega)),chk_of (Zh (by simp;omega))]
  simp [Wj]
 ·cases h
theorem w89:Walked Tryz.prog G 89 1 sp89:=by
 refine ⟨Tryz.f89,Tryz.func89,by decide +kernel,rfl,fun xs bl r h=> ?_⟩
 unfold sp89 at h
 split at h
 ·rename_i a b
  cases h
  refine Eq.trans (b:=(some (Zu (a==b),[]):Option (AV×Blocks))) (by kernel_rfl) ?_
  rfl
 ·cases h
theorem w98:Walked Tryz.prog G 98 1 sp98:=by
 refine ⟨Tryz.f98,Tryz.func98,by decide +kernel,rfl,fun xs bl r h=> ?_⟩
 unfold sp98 at h
 split at h
 ·rename_i ali b1 b2 b3 aad ak alf ais asv ain rl
  cases h
  refine Eq.trans (b:=(some (Wd [Zq asv,Zq ain,Zq rl],[]):Option (AV×Blocks))) (by kernel_rfl) ?_
  rfl
 ·cases h
theorem w102:Walked Tryz.prog G 102 1 sp102:=by
 refine ⟨Tryz.f102,Tryz.func102,by decide +kernel,rfl,fun xs bl r h=> ?_⟩
 unfold sp102 at h
 split at h
 ·rename_i n l m
  cases h
  refine Eq.trans (b:=(sel (decide (n≥l)) (some (Zu (decide (n≤m)),[])) (some (Zu false,[])):Option (AV×Blocks))) (by kernel_rfl) ?_
  by_cases h:l≤n
  ·rw [sel_pos (by simpa using h)];simp [h]
  ·rw [sel_neg (by simpa using h)];simp [h]
 ·cases h
theorem w108:Walked Tryz.prog G 108 1 sp108:=by
 refine ⟨Tryz.f108,Tryz.func108,by decide +kernel,rfl,fun xs bl r h=> ?_⟩
 unfold sp108 at h
 split at h
 ·rename_i sz fl mls a1 a2 a3 at_ atk
  obtain ⟨hpre,h2⟩:=chk_inv h;cases h2
  refine Eq.trans (b:=(Zj (loopM (fun (st:List AV)=>cInt .i64 st fun n r=>cInt .i64 r fun n_1 r=>cSl 5 r fun b r=>cStr r fun b_1 r=>cStr r fun b_2 r=>cStr r fun b_3 r=>cInt .i64 r fun n_2 r=>cInt .i64 r fun n_3 r=>cBool r fun b_4 r=>cInt .i64 r fun n_4 r=>onNil r (sel (decide (n_4<(↑(Zy b):Int))) (chk (decide (0≤n_4)&&decide (n_4<(↑(Zy b):Int))&&true) (Wp (Yq b (Zv n_4) Xv) fun cs=>cStr cs fun b_5 r=>cStr r fun b_6 r=>cStr r fun b_7 r=>cInt .i64 r fun n_5 r=>cInt .i64 r fun n_6 r=>onNil r (sel (b_5==b_1&&(b_6==b_2&&(b_7==b_3&&(n_5==n_2&&n_6==n_3)))) (some (Yh (Ex.ret,[Zz .i64 n,Zz .i64 n_1,Zn 5 b,Zq b_1,Zq b_2,Zq b_3,Zz .i64 n_2,Zz .i64 n_3,Zu true,Zz .i64 n_4]))) (some (Xf [Zz .i64 n,Zz .i64 n_1,Zn 5 b,Zq b_1,Zq b_2,Zq b_3,Zz .i64 n_2,Zz .i64 n_3,Zu b_4,Zz .i64 (Zx .i64 (n_4+1))]))))) (some (Yh (Yg 0,[Zz .i64 n,Zz .i64 n_1,Zn 5 b,Zq b_1,Zq b_2,Zq b_3,Zz .i64 n_2,Zz .i64 n_3,Zu b_4,Zz .i64 n_4]))))) [Zz .i64 sz,Zz .i64 fl,Zn 5 mls,Zq a1,Zq a2,Zq a3,Zz .i64 at_,Zz .i64 atk,Zu false,Zz .i64 0]) fun (r:Ex×List AV)=>cInt .i64 (Zd r) fun n r_1=>cInt .i64 r_1 fun n r_2=>cSl 5 r_2 fun b r_3=>cStr r_3 fun b r_4=>cStr r_4 fun b r_5=>cStr r_5 fun b r_6=>cInt .i64 r_6 fun n r_7=>cInt .i64 r_7 fun n r_8=>cBool r_8 fun b r_9=>cInt .i64 r_9 fun n r_10=>onNil r_10 (exK r.1 (some (Zu b,[])) fun (j:Nat)=>sel (Xg j 0) (some (Zu false,[])) none):Option (AV×Blocks))) (by kernel_rfl) ?_
  try dsimp only [cStr,cBs,cBool,cU8,cInt,cSl,l63]
  simp only [Zp,decide_eq_true_eq] at hpre
  obtain ⟨hall,hlen⟩:=hpre
  obtain ⟨cs,rfl,hok⟩:=Kerb.marks_of hall
  rw [Kerb.map_toMark]
  simp only [Yd] at hlen ⊢
  refine loop_rounds (fun i:Nat=>[Zz Zw sz,Zz Zw fl,Zn 5 (cs.map Xw),Zq a1,Zq a2,Zq a3,Zz Zw at_,Zz Zw atk,Zu false,Zz Zw (i:Int)]) (fun i=>i≤cs.length∧Wk cs ⟨⟨a1,a2,a3⟩,at_,atk⟩=Wk (cs.drop i) ⟨⟨a1,a2,a3⟩,at_,atk⟩) (fun i=>cs.length-i)
   (fun r=>∃ (i:Nat) (q:Bool),r.2=[Zz Zw sz,Zz Zw fl,Zn 5 (cs.map Xw),Zq a1,Zq a2,Zq a3,Zz Zw at_,Zz Zw atk,Zu q,Zz Zw (i:Int)]∧((r.1 = .ret∧q=true∧Wk cs ⟨⟨a1,a2,a3⟩,at_,atk⟩=true)∨(r.1 = .exit 0∧Wk cs ⟨⟨a1,a2,a3⟩,at_,atk⟩=false))) 0 ⟨Xp _,by simp⟩ rfl ?_ ?_
  ·rintro i ⟨hi,hp⟩
   simp only [↓A0,A0,Yd]
   by_cases hlt:i<cs.length
   ·rw [sel_pos (by simp;omega),chk_of (by simp;omega),Yk,Ww (d:=Wb) hlt]
    obtain ⟨c,hc⟩:∃ c,cs.getD i Wb=c:=⟨_,rfl⟩
    have hd:=Kerb.hasMark_step (m:=⟨⟨a1,a2,a3⟩,at_,atk⟩) hlt hc
    rw [hc]
    simp only [Xw,↓A0,A0]
    rw [wrap_i64 (by omega) (by omega)]
    show ∃ y,sel (Kerb.Mark.eqb c ⟨⟨a1,a2,a3⟩,at_,atk⟩) _ _=some y∧_
    cases he:Kerb.Mark.eqb c ⟨⟨a1,a2,a3⟩,at_,atk⟩
    ·rw [he,Bool.false_or] at hd
     exact ⟨_,rfl,i+1,rfl,⟨by omega,hp.trans hd⟩,by dsimp only;omega⟩
    ·rw [he,Bool.true_or] at hd
     exact ⟨_,rfl,i,_,rfl,.inl ⟨rfl,rfl,hp.trans hd⟩⟩
   ·rw [sel_neg (by simp;omega)]
    refine ⟨_,rfl,i,_,rfl,.inr ⟨rfl,?_⟩⟩
    rw [hp,Yw (by omega)]
    rfl
  ·rintro ⟨e,l⟩ ⟨i,q,rfl,⟨rfl,rfl,h⟩ | ⟨rfl,h⟩⟩
   ·simp only [↓A0,A0,h]
   ·simp only [↓A0,A0,h]
    rw [sel_pos (Yz _)]
 ·cases h
theorem w109:Walked Tryz.prog G 109 1 sp109:=by
 refine ⟨Tryz.f109,Tryz.func109,by decide +kernel,rfl,fun xs bl r h=> ?_⟩
 unfold sp109 at h
 split at h
 ·rename_i n m
  cases h
  refine Eq.trans (b:=(sel (decide (n≥0)) (some (Zu (decide (n≤m)),[])) (some (Zu false,[])):Option (AV×Blocks))) (by kernel_rfl) ?_
  by_cases h:0≤n<;>simp [sel,Zb,h]
 ·cases h
theorem w113:Walked Tryz.prog G 113 1 sp113:=by
 refine ⟨Tryz.f113,Tryz.func113,by decide +kernel,rfl,fun xs bl r h=> ?_⟩
 unfold sp113 at h
 split at h
 ·rename_i k
  cases h
  refine Eq.trans (b:=(sel (decide (k≥1)) (some (Zu (decide (k≤10)),[])) (some (Zu false,[])):Option (AV×Blocks))) (by kernel_rfl) ?_
  by_cases h:1≤k<;>simp [sel,Xx,h]
 ·cases h
theorem w115:Walked Tryz.prog G 115 1 sp115:=by
 refine ⟨Tryz.f115,Tryz.func115,by decide +kernel,rfl,fun xs bl r h=> ?_⟩
 unfold sp115 at h
 split at h
 ·rename_i k
  obtain ⟨hpre,h2⟩:=chk_inv h;cases h2
  refine Eq.trans (b:=(Zj (loopM (fun (st:List AV)=>cInt .u64 st fun n r=>onCons r fun x r=>Xd x fun b=>cInt .i64 r fun n_1 r=>cInt .i64 r fun n_2 r=>let t0:Int:=Zx .i64 (8*Zx .i64 (7-n_2));onNil r (sel (decide (n_2<n_1)) (chk (decide (0≤t0)) (chk (decide (0≤n_2)&&decide (n_2<(↑(Zy b):Int))) (chk (Vd (Zv n_2) (Zy b)&&true&&true&&true&&true) (some (Xf [Zz .u64 n,Zm (List.set b (Zv n_2) (Yu (Zv (Zx .u8 (Wg n (2 ^ min (Zv t0) (Zk .u64))))))),Zz .i64 n_1,Zz .i64 (Zx .i64 (n_2+1))]))))) (some (Yh (Yg 0,[Zz .u64 n,Zm b,Zz .i64 n_1,Zz .i64 n_2]))))) [Zz .u64 k,Zm (Xn (Zv 8) (0:UInt8)),Zz .i64 (↑(Zy (Xn (Zv 8) (0:UInt8))):Int),Zz .i64 0]) fun (r:Ex×List AV)=>cInt .u64 (Zd r) fun n r_1=>onCons r_1 fun x r_2=>Xd x fun b=>cInt .i64 r_2 fun n r_3=>cInt .i64 r_3 fun n r_4=>onNil r_4 (exK r.1 none fun (j:Nat)=>sel (Xg j 0) (some (Zg b,[])) none):Option (AV×Blocks))) (by kernel_rfl) ?_
  try dsimp only [cStr,cBs,cBool,cU8,cInt,cSl,l63]
  refine loop_unroll 9 (Yg 0,[Zz Ym k,Zm [Yp k 56,Yp k 48,Yp k 40,Yp k 32,Yp k 24,Yp k 16,Yp k 8,Yp k 0],Zz Zw 8,Zz Zw 8]) (by kernel_rfl) ?_
  simp only [A0]
  rw [sel_pos (Yz _)]
  simp [Wh,Kerb.keyBytes,Wm,Wy]
 ·cases h
theorem w121:Walked Tryz.prog G 121 1 sp121:=by
 refine ⟨Tryz.f121,Tryz.func121,by decide +kernel,rfl,fun xs bl r h=> ?_⟩
 unfold sp121 at h
 split at h
 ·rename_i b
  obtain ⟨hpre,h2⟩:=chk_inv h;cases h2
  refine Eq.trans (b:=(chk (room (Zy b) 1) (Zj (loopM (fun (st:List AV)=>onCons st fun x r=>Xd x fun b=>onNil r (sel (!Zf (↑(Zy b):Int) 8==0) (chk (room (Zy b+Zy [(0:UInt8)]) 1) (some (Xf [Zm (b++[(0:UInt8)])]))) (some (Yh (Yg 0,[Zm b]))))) [Zm b]) fun (r:Ex×List AV)=>onCons (Zd r) fun x r_1=>Xd x fun b=>onNil r_1 (exK r.1 none fun (j:Nat)=>sel (Xg j 0) (some (Zm b,[])) none)):Option (AV×Blocks))) (by kernel_rfl) ?_
  have hb:=of_decide_eq_true hpre
  rw [chk_of (Zh (by omega))]
  refine loop_rounds (fun i:Nat=>[Zm (b++Xn i 0)]) (fun i=>i≤(8-b.length % 8) % 8) (fun i=>(8-b.length % 8) % 8-i)
   (fun r=>r=(Yg 0,[Zm (Kerb.pad b)])) 0 (by omega) (by simp) ?_ ?_
  ·intro i hi
   simp only [A0]
   have e:Zf ((b++Xn i 0).length:Int) 8=(((b.length+i) % 8:Nat):Int):=by
    rw [Yn (by omega)]
    simp
   rw [e]
   by_cases hlt:i<(8-b.length % 8) % 8
   ·rw [sel_pos (by simp;omega),chk_of (Zh (by simp;omega))]
    refine ⟨_,rfl,i+1,?_,by omega,by dsimp only;omega⟩
    dsimp only
    rw [List.replicate_succ',List.append_assoc]
   ·rw [sel_neg (by simp;omega)]
    refine ⟨_,rfl,?_⟩
    show _=_
    rw [Kerb.pad,show i=(8-b.length % 8) % 8 from by omega]
  rintro r rfl
  simp only [A0]
  rw [sel_pos (Yz _)]
 ·cases h
theorem w123:Walked Tryz.prog G 123 1 sp123:=by
 refine ⟨Tryz.f123,Tryz.func123,by decide +kernel,rfl,fun xs bl r h=> ?_⟩
 unfold sp123 at h
 split at h
 ·rename_i k
  obtain ⟨hpre,h2⟩:=chk_inv h;cases h2
  refine Eq.trans (b:=(Zj (loopM (fun (st:List AV)=>cInt .u64 st fun n r=>onCons r fun x r=>Xd x fun b=>cInt .i64 r fun n_1 r=>let t0:List UInt8:=[Yu (Zv (Zx .u8 (Wg n (2 ^ min (Zv (Zx .u64 (Zx .i64 (8*n_1)))) (Zk .u64)))))];onNil r (sel (decide (n_1≥0)) (chk (decide (0≤Zx .u64 (Zx .i64 (8*n_1)))) (chk (room (Zy b+Zy t0) 1) (some (Xf [Zz .u64 n,Zm (b++t0),Zz .i64 (Zx .i64 (n_1-1))])))) (some (Yh (Yg 0,[Zz .u64 n,Zm b,Zz .i64 n_1]))))) [Zz .u64 k,Zm [],Zz .i64 7]) fun (r:Ex×List AV)=>cInt .u64 (Zd r) fun n r_1=>onCons r_1 fun x r_2=>Xd x fun b=>cInt .i64 r_2 fun n r_3=>onNil r_3 (exK r.1 none fun (j:Nat)=>sel (Xg j 0) (some (Zg b,[])) none):Option (AV×Blocks))) (by kernel_rfl) ?_
  try dsimp only [cStr,cBs,cBool,cU8,cInt,cSl,l63]
  refine loop_unroll 9 (Yg 0,[Zz Ym k,Zm [Yp k 56,Yp k 48,Yp k 40,Yp k 32,Yp k 24,Yp k 16,Yp k 8,Yp k 0],Zz Zw (-1)]) (by kernel_rfl) ?_
  simp only [A0]
  rw [sel_pos (Yz _)]
  simp [Wh,Kerb.keyBytes,Wm,Wy]
 ·cases h
theorem w125:Walked Tryz.prog G 125 1 sp125:=by
 refine ⟨Tryz.f125,Tryz.func125,by decide +kernel,rfl,fun xs bl r h=> ?_⟩
 unfold sp125 at h
 split at h
 ·cases h
  refine Eq.trans (b:=(some (Zn 1 [Zq [(65:UInt8),(84:UInt8),(72:UInt8)],Zq [(66:UInt8),(79:UInt8),(83:UInt8)],Zq [(67:UInt8),(65:UInt8),(77:UInt8)]],[]):Option (AV×Blocks))) (by kernel_rfl) ?_
  rfl
 ·cases h
theorem w130:Walked Tryz.prog G 130 1 sp130:=by
 refine ⟨Tryz.f130,Tryz.func130,by decide +kernel,rfl,fun xs bl r h=> ?_⟩
 unfold sp130 at h
 split at h
 ·rename_i x y z v k
  cases h
  refine Eq.trans (b:=(some (Wd [Zq x,Zq y,Zq z,Zz .i64 v],[]):Option (AV×Blocks))) (by kernel_rfl) ?_
  rfl
 ·cases h
theorem w131:Walked Tryz.prog G 131 1 sp131:=by
 refine ⟨Tryz.f131,Tryz.func131,by decide +kernel,rfl,fun xs bl r h=> ?_⟩
 unfold sp131 at h
 split at h
 ·rename_i mls a1 a2 a3 at_ atk
  obtain ⟨hpre,h2⟩:=chk_inv h;cases h2
  refine Eq.trans (b:=(Zj (loopM (fun (st:List AV)=>cStr st fun b r=>cStr r fun b_1 r=>cStr r fun b_2 r=>cInt .i64 r fun n r=>cInt .i64 r fun n_1 r=>cBool r fun b_3 r=>cSl 5 r fun b_4 r=>cInt .i64 r fun n_2 r=>cInt .i64 r fun n_3 r=>onNil r (sel (decide (n_3<n_2)) (chk (decide (0≤n_3)&&decide (n_3<(↑(Zy b_4):Int))&&true) (Wp (Yq b_4 (Zv n_3) Xv) fun cs=>cStr cs fun b_5 r=>cStr r fun b_6 r=>cStr r fun b_7 r=>cInt .i64 r fun n_4 r=>cInt .i64 r fun n_5 r=>onNil r (sel (b_5==b&&(b_6==b_1&&(b_7==b_2&&(n_4==n&&n_5==n_1)))) (some (Yh (Ex.ret,[Zq b,Zq b_1,Zq b_2,Zz .i64 n,Zz .i64 n_1,Zu true,Zn 5 b_4,Zz .i64 n_2,Zz .i64 n_3]))) (some (Xf [Zq b,Zq b_1,Zq b_2,Zz .i64 n,Zz .i64 n_1,Zu b_3,Zn 5 b_4,Zz .i64 n_2,Zz .i64 (Zx .i64 (n_3+1))]))))) (some (Yh (Yg 0,[Zq b,Zq b_1,Zq b_2,Zz .i64 n,Zz .i64 n_1,Zu b_3,Zn 5 b_4,Zz .i64 n_2,Zz .i64 n_3]))))) [Zq a1,Zq a2,Zq a3,Zz .i64 at_,Zz .i64 atk,Zu false,Zn 5 mls,Zz .i64 (↑(Zy mls):Int),Zz .i64 0]) fun (r:Ex×List AV)=>cStr (Zd r) fun b r_1=>cStr r_1 fun b r_2=>cStr r_2 fun b r_3=>cInt .i64 r_3 fun n r_4=>cInt .i64 r_4 fun n r_5=>cBool r_5 fun b r_6=>cSl 5 r_6 fun b_1 r_7=>cInt .i64 r_7 fun n r_8=>cInt .i64 r_8 fun n r_9=>onNil r_9 (exK r.1 (some (Zu b,[])) fun (j:Nat)=>sel (Xg j 0) (some (Zu false,[])) none):Option (AV×Blocks))) (by kernel_rfl) ?_
  try dsimp only [cStr,cBs,cBool,cU8,cInt,cSl,l63]
  simp only [Zp,decide_eq_true_eq] at hpre
  obtain ⟨hall,hlen⟩:=hpre
  obtain ⟨cs,rfl,hok⟩:=Kerb.marks_of hall
  rw [Kerb.map_toMark]
  simp only [Yd] at hlen ⊢
  refine loop_rounds (fun i:Nat=>[Zq a1,Zq a2,Zq a3,Zz Zw at_,Zz Zw atk,Zu false,Zn 5 (cs.map Xw),Zz Zw (cs.length:Int),Zz Zw (i:Int)]) (fun i=>i≤cs.length∧Wk cs ⟨⟨a1,a2,a3⟩,at_,atk⟩=Wk (cs.drop i) ⟨⟨a1,a2,a3⟩,at_,atk⟩) (fun i=>cs.length-i)
   (fun r=>∃ (i:Nat) (q:Bool),r.2=[Zq a1,Zq a2,Zq a3,Zz Zw at_,Zz Zw atk,Zu q,Zn 5 (cs.map Xw),Zz Zw (cs.length:Int),Zz Zw (i:Int)]∧((r.1 = .ret∧q=true∧Wk cs ⟨⟨a1,a2,a3⟩,at_,atk⟩=true)∨(r.1 = .exit 0∧Wk cs ⟨⟨a1,a2,a3⟩,at_,atk⟩=false))) 0 ⟨Xp _,by simp⟩ rfl ?_ ?_
  ·rintro i ⟨hi,hp⟩
   simp only [↓A0,A0,Yd]
   by_cases hlt:i<cs.length
   ·rw [sel_pos (by simp;omega),chk_of (by simp;omega),Yk,Ww (d:=Wb) hlt]
    obtain ⟨c,hc⟩:∃ c,cs.getD i Wb=c:=⟨_,rfl⟩
    have hd:=Kerb.hasMark_step (m:=⟨⟨a1,a2,a3⟩,at_,atk⟩) hlt hc
    rw [hc]
    simp only [Xw,↓A0,A0]
    rw [wrap_i64 (by omega) (by omega)]
    show ∃ y,sel (Kerb.Mark.eqb c ⟨⟨a1,a2,a3⟩,at_,atk⟩) _ _=some y∧_
    cases he:Kerb.Mark.eqb c ⟨⟨a1,a2,a3⟩,at_,atk⟩
    ·rw [he,Bool.false_or] at hd
     exact ⟨_,rfl,i+1,rfl,⟨by omega,hp.trans hd⟩,by dsimp only;omega⟩
    ·rw [he,Bool.true_or] at hd
     exact ⟨_,rfl,i,_,rfl,.inl ⟨rfl,rfl,hp.trans hd⟩⟩
   ·rw [sel_neg (by simp;omega)]
    refine ⟨_,rfl,i,_,rfl,.inr ⟨rfl,?_⟩⟩
    rw [hp,Yw (by omega)]
    rfl
  ·rintro ⟨e,l⟩ ⟨i,q,rfl,⟨rfl,rfl,h⟩ | ⟨rfl,h⟩⟩
   ·simp only [↓A0,A0,h]
   ·simp only [↓A0,A0,h]
    rw [sel_pos (Yz _)]
 ·cases h
theorem w140:Walked Tryz.prog G 140 1 sp140:=by
 refine ⟨Tryz.f140,Tryz.func140,by decide +kernel,rfl,fun xs bl r h=> ?_⟩
 unfold sp140 at h
 split at h
 ·rename_i s bad
  obtain ⟨hpre,h2⟩:=chk_inv h;cases h2
  refine Eq.trans (b:=(Zj (loopM (fun (st:List AV)=>cStr st fun b r=>cStr r fun b_1 r=>cBool r fun b_2 r=>cInt .i64 r fun n r=>let t0:Int:=(↑(Yf (Yq b (Zv n) (0:UInt8))):Int);let t1:Option (List AV ⊕ Ex×List AV):=some (Yh (Ex.ret,[Zq b,Zq b_1,Zu false,Zz .i64 n]));onNil r (sel (decide (n<(↑(Zy b):Int))) (chk (decide (0≤n)&&decide (n<(↑(Zy b):Int))) (sel (decide (t0<(↑(Yf (33:UInt8)):Int))) t1 (chk (decide (0≤n)&&decide (n<(↑(Zy b):Int))) (sel (decide (t0>(↑(Yf (126:UInt8)):Int))) t1 (Zj (loopM (fun (st:List AV)=>cStr st fun b r=>cStr r fun b_3 r=>cBool r fun b_4 r=>cInt .i64 r fun n r=>cInt .i64 r fun n_1 r=>onNil r (sel (decide (n_1<(↑(Zy b_3):Int))) (chk (decide (0≤n)&&decide (n<(↑(Zy b):Int))) (chk (decide (0≤n_1)&&decide (n_1<(↑(Zy b_3):Int))) (sel (Yq b (Zv n) (0:UInt8)==Yq b_3 (Zv n_1) (0:UInt8)) (some (Yh (Ex.ret,[Zq b,Zq b_3,Zu false,Zz .i64 n,Zz .i64 n_1]))) (some (Xf [Zq b,Zq b_3,Zu b_4,Zz .i64 n,Zz .i64 (Zx .i64 (n_1+1))]))))) (some (Yh (Yg 2,[Zq b,Zq b_3,Zu b_4,Zz .i64 n,Zz .i64 n_1]))))) [Zq b,Zq b_1,Zu b_2,Zz .i64 n,Zz .i64 0]) fun (r:Ex×List AV)=>cStr (Zd r) fun b r_1=>cStr r_1 fun b_3 r_2=>cBool r_2 fun b_4 r_3=>cInt .i64 r_3 fun n r_4=>cInt .i64 r_4 fun n_1 r_5=>onNil r_5 (exK r.1 (some (Yh (Ex.ret,[Zq b,Zq b_3,Zu b_4,Zz .i64 n]))) fun (j:Nat)=>sel (Xg j 2) (some (Xf [Zq b,Zq b_3,Zu b_4,Zz .i64 (Zx .i64 (n+1))])) none)))))) (some (Yh (Yg 0,[Zq b,Zq b_1,Zu b_2,Zz .i64 n]))))) [Zq s,Zq bad,Zu false,Zz .i64 0]) fun (r:Ex×List AV)=>cStr (Zd r) fun b r_1=>cStr r_1 fun b_1 r_2=>cBool r_2 fun b_2 r_3=>cInt .i64 r_3 fun n r_4=>onNil r_4 (exK r.1 (some (Zu b_2,[])) fun (j:Nat)=>sel (Xg j 0) (some (Zu (decide ((↑(Zy b):Int)≤39)),[])) none):Option (AV×Blocks))) (by kernel_rfl) ?_
  try dsimp only [cStr,cBs,cBool,cU8,cInt,cSl,l63]
  simp only [Zp,decide_eq_true_eq] at hpre
  refine loop_rounds (fun i:Nat=>[Zq s,Zq bad,Zu false,Zz Zw (i:Int)]) (fun i=>i≤s.length∧Xm s bad=Xm (s.drop i) bad) (fun i=>s.length-i)
   (fun r=>∃ i:Nat,r.2=[Zq s,Zq bad,Zu false,Zz Zw (i:Int)]∧((r.1 = .ret∧Xm s bad=false)∨(r.1 = .exit 0∧Xm s bad=true))) 0 ⟨Xp _,rfl⟩ rfl ?_ ?_
  ·rintro i ⟨hi,hp⟩
   simp only [A0]
   by_cases hlt:i<s.length
   ·have hc:(decide ((0:Int)≤(i:Int))&&decide ((i:Int)<(s.length:Int)))=true:=by simp;omega
    have hd:=Kerb.drop_all_cons hlt
    rw [sel_pos (by simp;omega),chk_of hc,Yk]
    have hpr:Xm (s.drop i) bad=(Kerb.okB bad (s.getD i 0)&&Xm (s.drop (i+1)) bad):=by rw [hd];rfl
    generalize hcc:s.getD i 0=c at *
    by_cases h1:c.toNat<33
    ·rw [sel_pos (by simp;omega)]
     exact ⟨_,rfl,i,rfl,.inl ⟨rfl,by rw [hp,hpr];simp [Kerb.okB,h1]⟩⟩
    rw [sel_neg (by simp;omega),chk_of hc]
    by_cases h2:126<c.toNat
    ·rw [sel_pos (by simp;omega)]
     exact ⟨_,rfl,i,rfl,.inl ⟨rfl,by rw [hp,hpr];simp [Kerb.okB,h2]⟩⟩
    rw [sel_neg (by simp;omega)]
    refine loop_ex (fun j:Nat=>[Zq s,Zq bad,Zu false,Zz Zw (i:Int),Zz Zw (j:Int)]) (fun j=>j≤bad.length∧(c∈bad↔c∈bad.drop j)) (fun j=>bad.length-j)
     (fun r=>∃ j:Nat,r.2=[Zq s,Zq bad,Zu false,Zz Zw (i:Int),Zz Zw (j:Int)]∧((r.1 = .ret∧c∈bad)∨(r.1 = .exit 2∧c ∉ bad))) 0 ⟨Xp _,by simp⟩ rfl ?_ ?_
    ·rintro j ⟨hj,hm⟩
     simp only [A0]
     by_cases hjl:j<bad.length
     ·have hdj:=Kerb.drop_all_cons hjl
      rw [sel_pos (by simp;omega),chk_of hc,chk_of (by simp;omega),Yk,Yk,hcc]
      rw [hdj,List.mem_cons] at hm
      by_cases h3:c=bad.getD j 0
      ·rw [sel_pos (by simpa using h3)]
       exact ⟨_,rfl,j,rfl,.inl ⟨rfl,hm.2 (.inl h3)⟩⟩
      ·rw [sel_neg (by simpa using h3),wrap_i64 (by omega) (by omega)]
       exact ⟨_,rfl,j+1,rfl,⟨by omega,hm.trans ⟨fun h=>h.resolve_left h3,.inr⟩⟩,by dsimp only;omega⟩
     ·rw [sel_neg (by simp;omega)]
      refine ⟨_,rfl,j,rfl,.inr ⟨rfl,?_⟩⟩
      rw [hm,Yw (by omega)];simp
    ·rintro ⟨e,l⟩ ⟨j,rfl,⟨rfl,h3⟩ | ⟨rfl,h3⟩⟩
     ·simp only [A0]
      exact ⟨_,rfl,i,rfl,.inl ⟨rfl,by rw [hp,hpr];simp [Kerb.okB,h3]⟩⟩
     ·simp only [A0]
      rw [sel_pos (Yz _),wrap_i64 (by omega) (by omega)]
      exact ⟨_,rfl,i+1,rfl,⟨by omega,by rw [hp,hpr];simp [Kerb.okB,h1,h2,h3]⟩,by dsimp only;omega⟩
   ·rw [sel_neg (by simp;omega)]
    exact ⟨_,rfl,i,rfl,.inr ⟨rfl,by rw [hp,Yw (by omega)];rfl⟩⟩
  ·rintro ⟨e,l⟩ ⟨i,rfl,⟨rfl,hp⟩ | ⟨rfl,hp⟩⟩
   ·simp only [A0,hp]
    rfl
   ·simp only [A0,hp]
    rw [sel_pos (Yz _),decide_eq_decide.2 (show ((s.length:Int)≤39)↔s.length≤39 from by omega)]
    rfl
 ·cases h
theorem w141:Walked Tryz.prog G 141 1 sp141:=by
 refine ⟨Tryz.f141,Tryz.func141,by decide +kernel,rfl,fun xs bl r h=> ?_⟩
 unfold sp141 at h
 split at h
 ·rename_i b n k little
  obtain ⟨hpre,h2⟩:=chk_inv h;cases h2
  refine Eq.trans (b:=(chk (room (Zy b) 1) (Zj (loopM (fun (st:List AV)=>cInt .i64 st fun n r=>cInt .i64 r fun n_1 r=>cBool r fun b r=>onCons r fun x r=>Xd x fun b_1=>cInt .i64 r fun n_2 r=>let t1:Int:=Zx .u64 (Zx .i64 (8*Zx .i64 (Zx .i64 (n_1-1)-n_2)));let t2:List UInt8:=[Yu (Zv (Zx .u8 (Wg (Zx .u64 n) (2 ^ min (Zv (Zx .u64 (Zx .i64 (8*n_2)))) (Zk .u64)))))];let t0:List UInt8:=[Yu (Zv (Zx .u8 (Wg (Zx .u64 n) (2 ^ min (Zv t1) (Zk .u64)))))];onNil r (sel (decide (n_2<n_1)) (sel b (chk (decide (0≤Zx .u64 (Zx .i64 (8*n_2)))) (chk (room (Zy b_1+Zy t2) 1) (some (Xf [Zz .i64 n,Zz .i64 n_1,Zu b,Zm (b_1++t2),Zz .i64 (Zx .i64 (n_2+1))])))) (chk (decide (0≤t1)) (chk (room (Zy b_1+Zy t0) 1) (some (Xf [Zz .i64 n,Zz .i64 n_1,Zu b,Zm (b_1++t0),Zz .i64 (Zx .i64 (n_2+1))]))))) (some (Yh (Yg 0,[Zz .i64 n,Zz .i64 n_1,Zu b,Zm b_1,Zz .i64 n_2]))))) [Zz .i64 n,Zz .i64 k,Zu little,Zm b,Zz .i64 0]) fun (r:Ex×List AV)=>cInt .i64 (Zd r) fun n r_1=>cInt .i64 r_1 fun n r_2=>cBool r_2 fun b r_3=>onCons r_3 fun x r_4=>Xd x fun b=>cInt .i64 r_4 fun n r_5=>onNil r_5 (exK r.1 none fun (j:Nat)=>sel (Xg j 0) (some (Zm b,[])) none)):Option (AV×Blocks))) (by kernel_rfl) ?_
  try dsimp only [cStr,cBs,cBool,cU8,cInt,cSl,l63]
  simp only [Zp,decide_eq_true_eq] at hpre
  obtain ⟨hk,hb⟩:=hpre
  have hk4:k.toNat≤4∧0≤k:=by omega
  rw [chk_of (Zh (by omega))]
  refine loop_rounds (fun i:Nat=>[Zz Zw n,Zz Zw k,Zu little,Zm (b++(Xz n k.toNat little).take i),Zz Zw (i:Int)]) (fun i=>i≤k.toNat) (fun i=>k.toNat-i)
   (fun r=>r=(Yg 0,[Zz Zw n,Zz Zw k,Zu little,Zm (b++Xz n k.toNat little),Zz Zw k])) 0 (Xp _) (by simp) ?_ ?_
  ·intro i hi
   simp only [A0]
   by_cases hlt:i<k.toNat
   ·have hs:=Kerb.take_succ_getD (l:=Xz n k.toNat little) (i:=i) (by rw [Xy];omega)
    have hg:=Kerb.putN_getD n k.toNat little hlt
    have hl:((Xz n k.toNat little).take i).length=i:=by simp [Xy];omega
    rw [sel_pos (by simp;omega)]
    have hw:∀ j:Nat,j<4→Zx Ym (Zx Zw (8*(j:Int)))=((8*j:Nat):Int):=fun j hj=>by
     rw [wrap_i64 (by omega) (by omega),Kerb.wrap_u64];omega
    have hm:∀ j:Nat,j<4→min (Zv ((8*j:Nat):Int)) (Zk Ym)=8*j:=fun j hj=>by
     have:Zk Ym=64:=rfl
     rw [this];omega
    cases little
    ·have e:Zx Zw (Zx Zw (k-1)-(i:Int))=((k.toNat-1-i:Nat):Int):=by
      rw [wrap_i64 (n:=k-1) (by omega) (by omega),wrap_i64 (by omega) (by omega)];omega
     rw [sel_neg rfl,e,hw _ (by omega),hm _ (by omega),Kerb.ubyte n (by omega),chk_of (by simp;omega),chk_of (Zh (by simp [hl];omega)),wrap_i64 (by omega) (by omega)]
     refine ⟨_,rfl,i+1,?_,by omega,by dsimp only;omega⟩
     dsimp only
     rw [hs,hg,← List.append_assoc]
     rfl
    ·rw [sel_pos rfl,hw _ (by omega),hm _ (by omega),Kerb.ubyte n (by omega),chk_of (by simp;omega),chk_of (Zh (by simp [hl];omega)),wrap_i64 (by omega) (by omega)]
     refine ⟨_,rfl,i+1,?_,by omega,by dsimp only;omega⟩
     dsimp only
     rw [hs,hg,← List.append_assoc]
     rfl
   ·rw [sel_neg (by simp;omega)]
    refine ⟨_,rfl,?_⟩
    show _=_
    rw [Wq (by rw [Xy];omega),show (i:Int)=k from by omega]
  ·rintro r rfl
   simp only [A0]
   rw [sel_pos (Yz _)]
 ·cases h
theorem w143:Walked Tryz.prog G 143 1 sp143:=by
 refine ⟨Tryz.f143,Tryz.func143,by decide +kernel,rfl,fun xs bl r h=> ?_⟩
 unfold sp143 at h
 split at h
 ·rename_i k els
  obtain ⟨hpre,h2⟩:=chk_inv h;cases h2
  refine Eq.trans (b:=(Zj (loopM (fun (st:List AV)=>cInt .i64 st fun n r=>cBool r fun b r=>cSl 1 r fun b_1 r=>cInt .i64 r fun n_1 r=>cInt .i64 r fun n_2 r=>onNil r (sel (decide (n_2<n_1)) (chk (decide (0≤n_2)&&decide (n_2<(↑(Zy b_1):Int))&&true) (Xk .i64 (Yq b_1 (Zv n_2) Xv) fun n_3=>sel (n_3==n) (some (Yh (Ex.ret,[Zz .i64 n,Zu true,Zn 1 b_1,Zz .i64 n_1,Zz .i64 n_2]))) (some (Xf [Zz .i64 n,Zu b,Zn 1 b_1,Zz .i64 n_1,Zz .i64 (Zx .i64 (n_2+1))])))) (some (Yh (Yg 0,[Zz .i64 n,Zu b,Zn 1 b_1,Zz .i64 n_1,Zz .i64 n_2]))))) [Zz .i64 k,Zu false,Zn 1 els,Zz .i64 (↑(Zy els):Int),Zz .i64 0]) fun (r:Ex×List AV)=>cInt .i64 (Zd r) fun n r_1=>cBool r_1 fun b r_2=>cSl 1 r_2 fun b_1 r_3=>cInt .i64 r_3 fun n r_4=>cInt .i64 r_4 fun n r_5=>onNil r_5 (exK r.1 (some (Zu b,[])) fun (j:Nat)=>sel (Xg j 0) (some (Zu false,[])) none):Option (AV×Blocks))) (by kernel_rfl) ?_
  try dsimp only [cStr,cBs,cBool,cU8,cInt,cSl,l63]
  simp only [Zp,decide_eq_true_eq] at hpre
  obtain ⟨ha,hl⟩:=hpre
  have hil:=Kerb.ints_len ha
  refine loop_rounds (fun i:Nat=>[Zz Zw k,Zu false,Zn 1 els,Zz Zw (els.length:Int),Zz Zw (i:Int)]) (fun i=>i≤els.length∧(k∈intsIn els↔k∈(intsIn els).drop i)) (fun i=>els.length-i)
   (fun r=>∃ (i:Nat) (x:Bool),r.2=[Zz Zw k,Zu x,Zn 1 els,Zz Zw (els.length:Int),Zz Zw (i:Int)]∧((r.1 = .ret∧x=true∧k∈intsIn els)∨(r.1 = .exit 0∧k ∉ intsIn els))) 0 ⟨Xp _,by simp⟩ rfl ?_ ?_
  ·rintro i ⟨hi,hm⟩
   simp only [A0]
   by_cases hlt:i<els.length
   ·obtain ⟨n,h1,h2⟩:=Kerb.ints_get ha hlt
    rw [sel_pos (by simp;omega),chk_of (by simp;omega),Yk,h1,onInt_int]
    rw [h2,List.mem_cons] at hm
    by_cases h3:n=k
    ·rw [sel_pos (by simpa using h3)]
     exact ⟨_,rfl,i,true,rfl,.inl ⟨rfl,rfl,hm.2 (.inl h3.symm)⟩⟩
    ·rw [sel_neg (by simpa using h3),wrap_i64 (by omega) (by omega)]
     exact ⟨_,rfl,i+1,rfl,⟨by omega,hm.trans ⟨fun h=>h.resolve_left fun e=>h3 e.symm,.inr⟩⟩,by dsimp only;omega⟩
   ·rw [sel_neg (by simp;omega)]
    refine ⟨_,rfl,i,false,rfl,.inr ⟨rfl,?_⟩⟩
    rw [hm,Yw (by omega)];simp
  ·rintro ⟨e,l⟩ ⟨i,x,rfl,⟨rfl,rfl,h⟩ | ⟨rfl,h⟩⟩
   ·simp [onCons,Xk,Xh,AV.onSl,onNil,exK,h]
   ·simp [onCons,Xk,Xh,AV.onSl,onNil,exK,h,sel]
 ·cases h
theorem w156:Walked Tryz.prog G 156 1 sp156:=by
 refine ⟨Tryz.f156,Tryz.func156,by decide +kernel,rfl,fun xs bl r h=> ?_⟩
 unfold sp156 at h
 split at h
 ·rename_i n
  cases h
  refine Eq.trans (b:=(sel (decide (n≥0)) (some (Zu (decide (n≤4294967295)),[])) (some (Zu false,[])):Option (AV×Blocks))) (by kernel_rfl) ?_
  by_cases h:0≤n<;>simp [sel,Zb,h]
 ·cases h
theorem w157:Walked Tryz.prog G 157 1 sp157:=by
 refine ⟨Tryz.f157,Tryz.func157,by decide +kernel,rfl,fun xs bl r h=> ?_⟩
 unfold sp157 at h
 split at h
 ·rename_i n
  cases h
  refine Eq.trans (b:=(sel (decide (n≥0)) (some (Zu (decide (n≤255)),[])) (some (Zu false,[])):Option (AV×Blocks))) (by kernel_rfl) ?_
  by_cases h:0≤n<;>simp [sel,Zb,h]
 ·cases h
theorem w162:Walked Tryz.prog G 162 1 sp162:=by
 refine ⟨Tryz.f162,Tryz.func162,by decide +kernel,rfl,fun xs bl r h=> ?_⟩
 unfold sp162 at h
 split at h
 ·rename_i k
  cases h
  refine Eq.trans (b:=(sel (decide (k≥1)) (some (Zu (decide (k≤10)),[])) (some (Zu false,[])):Option (AV×Blocks))) (by kernel_rfl) ?_
  by_cases h:1≤k<;>simp [sel,Xx,h]
 ·cases h
theorem w164:Walked Tryz.prog G 164 1 sp164:=by
 refine ⟨Tryz.f164,Tryz.func164,by decide +kernel,rfl,fun xs bl r h=> ?_⟩
 unfold sp164 at h
 split at h
 ·rename_i c n
  cases h
  refine Eq.trans (b:=(sel (!c==1) (sel (!c==2) (some (Zz .u64 0,[])) (sel (decide (n<1)) (some (Zz .u64 0,[])) (sel (decide (n>4294967295)) (some (Zz .u64 0,[])) (some (Zz .u64 (Zx .u64 (↑(BitVec.toNat (BitVec.ofInt (Zk .u64) (Zx .u64 (Zx .u64 c*2 ^ min (Zv 56) (Zk .u64))) ||| BitVec.ofInt (Zk .u64) (Zx .u64 n))):Int)),[]))))) (sel (decide (n<1)) (some (Zz .u64 0,[])) (sel (decide (n>4294967295)) (some (Zz .u64 0,[])) (some (Zz .u64 (Zx .u64 (↑(BitVec.toNat (BitVec.ofInt (Zk .u64) (Zx .u64 (Zx .u64 c*2 ^ min (Zv 56) (Zk .u64))) ||| BitVec.ofInt (Zk .u64) (Zx .u64 n))):Int)),[])))):Option (AV×Blocks))) (by kernel_rfl) ?_
  unfold Vj Vv
  by_cases hc:c=1∨c=2
  case neg =>
   have q1:(c==(1:Int))=false:=by simp;omega
   have q2:(c==(2:Int))=false:=by simp;omega
   rw [q1,q2]
   rfl
  by_cases hn:1≤n∧n≤4294967295
  case neg =>
   have q:(decide (1≤n)&&decide (n≤4294967295))=false:=by
    rw [Bool.eq_false_iff]
    simp
    omega
   rw [q,Bool.and_false]
   have key:(sel (decide (n<(1:Int))) (some (Zz .u64 (0:Int),([]:Blocks))) (sel (decide (n>(4294967295:Int))) (some (Zz .u64 (0:Int),[])) (some (Zz Ym (Zx Ym ((BitVec.toNat (BitVec.ofInt (Zk Ym) (Zx Ym (Zx Ym c*(2:Int) ^ min (Zv (56:Int)) (Zk Ym))) ||| BitVec.ofInt (Zk Ym) (Zx Ym n)):Nat):Int)),[]))))=some (Zz .u64 0,[]):=by
    by_cases hl:n<1
    ·rw [sel_pos (by simpa using hl)]
    ·rw [sel_neg (by simpa using hl),sel_pos (by simp;omega)]
   rcases hc with rfl | rfl
   ·rw [sel_neg (by decide)];exact key
   ·rw [sel_pos (by decide),sel_neg (by decide)];exact key
  have q:(decide (1≤n)&&decide (n≤4294967295))=true:=by simp;omega
  have q2:(c==(1:Int)||c==(2:Int))=true:=by simpa using hc
  rw [q,q2,Kerb.key_make hc hn.1 hn.2]
  rcases hc with rfl | rfl
  ·rw [sel_neg (by decide),sel_neg (by simp;omega),sel_neg (by simp;omega)]
   rfl
  ·rw [sel_pos (by decide),sel_neg (by decide),sel_neg (by simp;omega),sel_neg (by simp;omega)]
   rfl
 ·cases h
theorem w168:Walked Tryz.prog G 168 1 sp168:=by
 refine ⟨Tryz.f168,Tryz.func168,by decide +kernel,rfl,fun xs bl r h=> ?_⟩
 unfold sp168 at h
 split at h
 ·rename_i b pos n
  obtain ⟨hpre,h2⟩:=chk_inv h;cases h2
  refine Eq.trans (b:=(sel (decide (pos<0)) (some (Zz .i64 104,[])) (sel (decide (pos>(↑(Zy b):Int))) (some (Zz .i64 104,[])) (sel (decide (n<0)) (some (Zz .i64 104,[])) (sel (decide (n>Zx .i64 ((↑(Zy b):Int)-pos))) (some (Zz .i64 101,[])) (some (Zz .i64 0,[]))))):Option (AV×Blocks))) (by kernel_rfl) ?_
  simp only [decide_eq_true_eq] at hpre
  unfold Vw
  by_cases h1:pos<0
  ·simp [sel,h1]
  by_cases h2:(b.length:Int)<pos
  ·simp [sel,h1,h2]
  by_cases h3:n<0
  ·simp [sel,h1,h2,h3]
  rw [sel_neg (by simp;omega),sel_neg (by simp;omega),sel_neg (by simp;omega),wrap_i64 (by omega) (by omega),if_neg (by omega)]
  by_cases h4:(b.length:Int)-pos<n
  ·rw [sel_pos (by simp;omega),if_pos h4]
  ·rw [sel_neg (by simp;omega),if_neg h4]
 ·cases h
theorem w172:Walked Tryz.prog G 172 1 sp172:=by
 refine ⟨Tryz.f172,Tryz.func172,by decide +kernel,rfl,fun xs bl r h=> ?_⟩
 unfold sp172 at h
 split at h
 ·rename_i n m
  cases h
  refine Eq.trans (b:=(sel (decide (n≥0)) (some (Zu (decide (n≤m)),[])) (some (Zu false,[])):Option (AV×Blocks))) (by kernel_rfl) ?_
  by_cases h:0≤n<;>simp [sel,Zb,h]
 ·cases h
theorem w173:Walked Tryz.prog G 173 1 sp173:=by
 refine ⟨Tryz.f173,Tryz.func173,by decide +kernel,rfl,fun xs bl r h=> ?_⟩
 unfold sp173 at h
 split at h
 ·rename_i n m
  cases h
  refine Eq.trans (b:=(sel (decide (n≥0)) (some (Zu (decide (n≤m)),[])) (some (Zu false,[])):Option (AV×Blocks))) (by kernel_rfl) ?_
  by_cases h:0≤n<;>simp [sel,Zb,h]
 ·cases h
theorem w180:Walked Tryz.prog G 180 1 sp180:=by
 refine ⟨Tryz.f180,Tryz.func180,by decide +kernel,rfl,fun xs bl r h=> ?_⟩
 unfold sp180 at h
 split at h
 ·rename_i k
  cases h
  refine Eq.trans (b:=(sel (k==1) (some (Zu true,[])) (some (Zu (k==2),[])):Option (AV×Blocks))) (by kernel_rfl) ?_
  unfold Vj
  cases (k==(1:Int))<;>rfl
 ·cases h
theorem w181:Walked Tryz.prog G 181 1 sp181:=by
 refine ⟨Tryz.f181,Tryz.func181,by decide +kernel,rfl,fun xs bl r h=> ?_⟩
 unfold sp181 at h
 split at h
 ·rename_i k
  cases h
  refine Eq.trans (b:=(sel (decide (k≥1)) (some (Zu (decide (k≤4294967295)),[])) (some (Zu false,[])):Option (AV×Blocks))) (by kernel_rfl) ?_
  by_cases h:1≤k<;>simp [sel,Vv,h]
 ·cases h
theorem w189:Walked Tryz.prog G 189 1 sp189:=by
 refine ⟨Tryz.f189,Tryz.func189,by decide +kernel,rfl,fun xs bl r h=> ?_⟩
 unfold sp189 at h
 split at h
 ·rename_i n m
  cases h
  refine Eq.trans (b:=(sel (decide (n≥0)) (some (Zu (decide (n≤m)),[])) (some (Zu false,[])):Option (AV×Blocks))) (by kernel_rfl) ?_
  by_cases h:0≤n<;>simp [sel,Zb,h]
 ·cases h
theorem w190:Walked Tryz.prog G 190 1 sp190:=by
 refine ⟨Tryz.f190,Tryz.func190,by decide +kernel,rfl,fun xs bl r h=> ?_⟩
 unfold sp190 at h
 split at h
 ·rename_i n m
  cases h
  refine Eq.trans (b:=(sel (decide (n≥0)) (some (Zu (decide (n≤m)),[])) (some (Zu false,[])):Option (AV×Blocks))) (by kernel_rfl) ?_
  by_cases h:0≤n<;>simp [sel,Zb,h]
 ·cases h
theorem w16:Walked Tryz.prog G 16 2 sp16:=by
 refine ⟨Tryz.f16,Tryz.func16,by decide +kernel,rfl,fun xs bl r h=> ?_⟩
 unfold sp16 at h
 split at h
 ·rename_i m1 m2 m3 kls sz fl mls sk n1 n2 n3 jls sy fm nls sl
  obtain ⟨hpre,h2⟩:=chk_inv h;cases h2
  refine Eq.trans (b:=(sel (m1==n1&&(m2==n2&&m3==n3)) (sel (sk==sl) (Zj (chk (List.all kls Kerb.isSKey&&decide (Zy kls≤1000000)&&List.all jls Kerb.isSKey) (some (Zu (Vy (List.map Kerb.toSKey kls) (List.map Kerb.toSKey jls)),[]))) fun (r:AV×Blocks)=>onNilB (Zd r) (Xh (Yx r) fun b=>sel b (Zj (chk (List.all mls Kerb.isMark&&decide (Zy mls≤1000000)&&List.all nls Kerb.isMark) (some (Zu (Kerb.RCache.same (Kerb.RCache.mk sz fl (List.map Kerb.toMark mls)) (Kerb.RCache.mk sy fm (List.map Kerb.toMark nls))),[]))) fun (r:AV×Blocks)=>onNilB (Zd r) (Xh (Yx r) fun b=>some (Zu b,[]))) (some (Zu false,[])))) (some (Zu false,[]))) (some (Zu false,[])):Option (AV×Blocks))) (by kernel_rfl) ?_
  simp only [Zp,decide_eq_true_eq] at hpre
  obtain ⟨⟨⟨⟨⟨ka,kl⟩,ma⟩,ml⟩,ja⟩,na⟩:=hpre
  simp only [ka,kl,ma,ml,ja,na,decide_true,Vb,↓A0,A0]
  unfold Kerb.Server.same
  dsimp only
  have g0:(m1==n1&&(m2==n2&&m3==n3))=Kerb.Prin.eqb ⟨m1,m2,m3⟩ ⟨n1,n2,n3⟩:=rfl
  rw [g0]
  cases Kerb.Prin.eqb ⟨m1,m2,m3⟩ ⟨n1,n2,n3⟩
  ·rfl
  cases (sk==sl)
  ·rfl
  cases Vy (kls.map Kerb.toSKey) (jls.map Kerb.toSKey)<;>rfl
 ·cases h
theorem w39:Walked Tryz.prog G 39 2 sp39:=by
 refine ⟨Tryz.f39,Tryz.func39,by decide +kernel,rfl,fun xs bl r h=> ?_⟩
 unfold sp39 at h
 split at h
 ·rename_i m1 m2 m3 kls sz fl mls sk
  obtain ⟨hpre,h2⟩:=chk_inv h;cases h2
  refine Eq.trans (b:=(Zj (chk (decide (Zy kls≤1000000)) (some (AV.ownL kls,[]))) fun (r:AV×Blocks)=>onNilB (Zd r) (AV.onOwnL (Yx r) fun l=>Zj (chk (decide (Zy mls≤1000000)) (some (AV.ownL mls,[]))) fun (r:AV×Blocks)=>onNilB (Zd r) (AV.onOwnL (Yx r) fun l_1=>some (Wd [Zq m1,Zq m2,Zq m3,Zn 5 l,Zz .i64 sz,Zz .i64 fl,Zn 5 l_1,Zz .i64 sk],[]))):Option (AV×Blocks))) (by kernel_rfl) ?_
  simp only [Zp,decide_eq_true_eq] at hpre
  simp only [hpre,decide_true,↓A0,A0]
 ·cases h
theorem w61:Walked Tryz.prog G 61 2 sp61:=by
 refine ⟨Tryz.f61,Tryz.func61,by decide +kernel,rfl,fun xs bl r h=> ?_⟩
 unfold sp61 at h
 split at h
 ·rename_i n
  obtain ⟨hpre,h2⟩:=chk_inv h;cases h2
  refine Eq.trans (b:=(chk (decide (0≤Zf n 3)&&decide (Zf n 3<(↑(Zy [Zq [(65:UInt8),(84:UInt8),(72:UInt8)],Zq [(66:UInt8),(79:UInt8),(83:UInt8)],Zq [(67:UInt8),(65:UInt8),(77:UInt8)]]):Int))&&true) (Wv (Yq [Zq [(65:UInt8),(84:UInt8),(72:UInt8)],Zq [(66:UInt8),(79:UInt8),(83:UInt8)],Zq [(67:UInt8),(65:UInt8),(77:UInt8)]] (Zv (Zf n 3)) Xv) fun b=>some (Zq b,[])):Option (AV×Blocks))) (by kernel_rfl) ?_
  have hn:0≤n:=by first | exact of_decide_eq_true hpre | (simp only [Zp,decide_eq_true_eq] at hpre;exact hpre.1)
  have ht:Zf n 3=n % 3:=Yn hn
  have hcase:n % 3=0∨n % 3=1∨n % 3=2:=by omega
  rcases hcase with e | e | e<;>simp [ht,e,chk,Wv,Kerb.realm]
 ·cases h
theorem w75:Walked Tryz.prog G 75 2 sp75:=by
 refine ⟨Tryz.f75,Tryz.func75,by decide +kernel,rfl,fun xs bl r h=> ?_⟩
 unfold sp75 at h
 split at h
 ·rename_i n
  cases h
  refine Eq.trans (b:=(sel (!(decide (1≤n)&&decide (n≤40))) (some (Yy [Wd [Zz .i64 0,Zz .i64 0,Zn 5 []],Zz .i64 104],[])) (some (Yy [Wd [Zz .i64 n,Zz .i64 0,Zn 5 []],Zz .i64 0],[])):Option (AV×Blocks))) (by kernel_rfl) ?_
  unfold Kerb.newCache
  cases h:(decide (1≤n)&&decide (n≤40))
  ·rfl
  ·rfl
 ·cases h
theorem w81:Walked Tryz.prog G 81 2 sp81:=by
 refine ⟨Tryz.f81,Tryz.func81,by decide +kernel,rfl,fun xs bl r h=> ?_⟩
 unfold sp81 at h
 split at h
 ·rename_i s
  obtain ⟨hpre,h2⟩:=chk_inv h;cases h2
  refine Eq.trans (b:=(sel (decide ((↑(Zy s):Int)>0)) (Zj (chk (decide (Zy s≤9223372036854775807)&&true) (some (Zu (Xm s [(64:UInt8)]&&decide (Zy s≤39)),[]))) fun (r:AV×Blocks)=>onNilB (Zd r) (Xh (Yx r) fun b=>some (Zu b,[]))) (some (Zu false,[])):Option (AV×Blocks))) (by kernel_rfl) ?_
  simp only [A0]
  rw [chk_of (by rw [hpre];rfl)]
  simp only [Kerb.validRealm]
  cases s with
  | nil=>rfl
  | cons x r =>
   rw [sel_pos (by first | (simp;done) | (simp;omega)),Bool.and_comm]
   rfl
 ·cases h
theorem w83:Walked Tryz.prog G 83 2 sp83:=by
 refine ⟨Tryz.f83,Tryz.func83,by decide +kernel,rfl,fun xs bl r h=> ?_⟩
 unfold sp83 at h
 split at h
 ·rename_i b n
  obtain ⟨hpre,h2⟩:=chk_inv h;cases h2
  refine Eq.trans (b:=(Zj (chk (decide (Zy b≤70368744177664)) (some (Zm (b++Xz n (Zv 1) false),[]))) fun (r:AV×Blocks)=>onNilB (Zd r) (Xd (Yx r) fun l=>some (Zm l,[])):Option (AV×Blocks))) (by kernel_rfl) ?_
  simp only [decide_eq_true_eq] at hpre
  simp only [A0]
  rw [chk_of (by simp;omega)]
  rfl
 ·cases h
theorem w100:Walked Tryz.prog G 100 2 sp100:=by
 refine ⟨Tryz.f100,Tryz.func100,by decide +kernel,rfl,fun xs bl r h=> ?_⟩
 unfold sp100 at h
 split at h
 ·rename_i a b s
  cases h
  refine Eq.trans (b:=(sel (!Zb a 4294967295) (some (Zu false,[])) (sel (!Zb b 4294967295) (some (Zu false,[])) (sel (!Zb s 4294967295) (some (Zu false,[])) (sel (decide (Zx .i64 (a-b)≤s)) (some (Zu (decide (Zx .i64 (b-a)≤s)),[])) (some (Zu false,[]))))):Option (AV×Blocks))) (by kernel_rfl) ?_
  unfold Kerb.near
  cases h1:Zb a 4294967295
  ·rfl
  cases h2:Zb b 4294967295
  ·rfl
  have a1:=Kerb.within_iff.1 h1
  have a2:=Kerb.within_iff.1 h2
  simp only [Xu,sel_false,Vb,Vg]
  rw [wrap_i64 (n:=a-b) (by omega) (by omega),wrap_i64 (n:=b-a) (by omega) (by omega)]
  cases h3:Zb s 4294967295
  ·rfl
  cases decide (a-b≤s)<;>rfl
 ·cases h
theorem w103:Walked Tryz.prog G 103 2 sp103:=by
 refine ⟨Tryz.f103,Tryz.func103,by decide +kernel,rfl,fun xs bl r h=> ?_⟩
 unfold sp103 at h
 split at h
 ·rename_i sz fl mls a1 a2 a3 at_ atk
  obtain ⟨hpre,h2⟩:=chk_inv h;cases h2
  refine Eq.trans (b:=(Zj (chk (List.all mls Kerb.isMark&&decide (Zy mls≤1000000)) (some (Zu (Wk (List.map Kerb.toMark mls) (Kerb.Mark.mk (Kerb.Prin.mk a1 a2 a3) at_ atk)),[]))) fun (r:AV×Blocks)=>onNilB (Zd r) (Xh (Yx r) fun b=>some (Zu b,[])):Option (AV×Blocks))) (by kernel_rfl) ?_
  simp only [hpre,↓A0,A0]
 ·cases h
theorem w116:Walked Tryz.prog G 116 2 sp116:=by
 refine ⟨Tryz.f116,Tryz.func116,by decide +kernel,rfl,fun xs bl r h=> ?_⟩
 unfold sp116 at h
 split at h
 ·rename_i k little
  cases h
  refine Eq.trans (b:=(sel (!Xx k) (some (Zg [],[])) (sel little (some (Zg [(4:UInt8),Yu (Zv (Zx .u8 (Zx .i64 (Zx .i64 (2*k)+1))))],[])) (some (Zg [(4:UInt8),Yu (Zv (Zx .u8 (Zx .i64 (2*k))))],[]))):Option (AV×Blocks))) (by kernel_rfl) ?_
  by_cases h:1≤k∧k≤10
  ·have hk:k=1∨k=2∨k=3∨k=4∨k=5∨k=6∨k=7∨k=8∨k=9∨k=10:=by omega
   rcases hk with rfl | rfl | rfl | rfl | rfl | rfl | rfl | rfl | rfl | rfl<;>cases little<;>rfl
  ·have hk:Xx k=false:=by simp [Xx];omega
   by_cases h1:k<1
   ·simp [sel,Wn,hk,h1]
   ·have h2:10<k:=by omega
    simp [sel,Wn,hk,h1,h2]
 ·cases h
theorem w118:Walked Tryz.prog G 118 2 sp118:=by
 refine ⟨Tryz.f118,Tryz.func118,by decide +kernel,rfl,fun xs bl r h=> ?_⟩
 unfold sp118 at h
 split at h
 ·rename_i els
  obtain ⟨hpre,h2⟩:=chk_inv h;cases h2
  refine Eq.trans (b:=(Zj (loopM (fun (st:List AV)=>cSl 1 st fun b r=>cInt .i64 r fun n r=>cSl 1 r fun b_1 r=>cInt .i64 r fun n_1 r=>cInt .i64 r fun n_2 r=>onNil r (sel (decide (n_2<n_1)) (chk (decide (0≤n_2)&&decide (n_2<(↑(Zy b_1):Int))&&true) (AV.onBs (Yq b_1 (Zv n_2) Xv) fun b_2=>sel (decide (Zx .i64 (n+(↑(Zy b_2):Int))<0)) none (some (Xf [Zn 1 b,Zz .i64 (Zx .i64 (n+(↑(Zy b_2):Int))),Zn 1 b_1,Zz .i64 n_1,Zz .i64 (Zx .i64 (n_2+1))])))) (some (Yh (Yg 0,[Zn 1 b,Zz .i64 n,Zn 1 b_1,Zz .i64 n_1,Zz .i64 n_2]))))) [Zn 1 els,Zz .i64 0,Zn 1 els,Zz .i64 (↑(Zy els):Int),Zz .i64 0]) fun (r:Ex×List AV)=>cSl 1 (Zd r) fun b r_1=>cInt .i64 r_1 fun n r_2=>cSl 1 r_2 fun b_1 r_3=>cInt .i64 r_3 fun n_1 r_4=>cInt .i64 r_4 fun n_2 r_5=>onNil r_5 (exK r.1 none fun (j:Nat)=>sel (Xg j 0) (Zj (chk (decide (0≤n)&&decide (n≤140737488355328)) (some (Zm [],[]))) (kO fun l=>Zj (loopM (fun (st:List AV)=>onCons st fun x r=>Xd x fun b=>cSl 1 r fun b_2 r=>cInt .i64 r fun n r=>cInt .i64 r fun n_3 r=>onNil r (sel (decide (n_3<n)) (chk (decide (0≤n_3)&&decide (n_3<(↑(Zy b_2):Int))&&true) (AV.onBs (Yq b_2 (Zv n_3) Xv) fun b_3=>chk (room (Zy b+Zy b_3) 1) (some (Xf [Zm (b++b_3),Zn 1 b_2,Zz .i64 n,Zz .i64 (Zx .i64 (n_3+1))])))) (some (Yh (Yg 2,[Zm b,Zn 1 b_2,Zz .i64 n,Zz .i64 n_3]))))) [Zm l,Zn 1 b,Zz .i64 (↑(Zy b):Int),Zz .i64 0]) fun (r:Ex×List AV)=>onCons (Zd r) fun x r_6=>Xd x fun b=>cSl 1 r_6 fun b_2 r_7=>cInt .i64 r_7 fun n r_8=>cInt .i64 r_8 fun n r_9=>onNil r_9 (exK r.1 none fun (j:Nat)=>sel (Xg j 2) (some (Zm b,[])) none))) none):Option (AV×Blocks))) (by kernel_rfl) ?_
  delta kO
  try dsimp only [cStr,cBs,cBool,cU8,cInt,cSl,l63]
  simp only [Zp,decide_eq_true_eq] at hpre
  obtain ⟨⟨ha,hl⟩,hbig⟩:=hpre
  refine loop_rounds (fun i:Nat=>[Zn 1 els,Zz Zw ((catB (els.take i)).length:Int),Zn 1 els,Zz Zw (els.length:Int),Zz Zw (i:Int)]) (fun i=>i≤els.length) (fun i=>els.length-i)
   (fun r=>r=(Yg 0,[Zn 1 els,Zz Zw ((catB els).length:Int),Zn 1 els,Zz Zw (els.length:Int),Zz Zw (els.length:Int)])) 0 (Xp _) rfl ?_ ?_
  ·intro i hi
   simp only [A0]
   by_cases hlt:i<els.length
   ·obtain ⟨l,h1,h2,h3⟩:=Kerb.cat_step ha hlt
    rw [sel_pos (by simp;omega),chk_of (by simp;omega),Yk,h1,onBs_bs,wrap_i64 (n:=((catB (els.take i)).length:Int)+(l.length:Int)) (by omega) (by omega),sel_neg (by simp;omega),wrap_i64 (by omega) (by omega)]
    refine ⟨_,rfl,i+1,?_,by omega,by dsimp only;omega⟩
    dsimp only
    rw [h2,List.length_append,Int.natCast_add]
    rfl
   ·rw [sel_neg (by simp;omega)]
    refine ⟨_,rfl,?_⟩
    show _=_
    rw [Wq (by omega),show i=els.length from by omega]
  rintro r rfl
  simp only [A0]
  rw [sel_pos (Yz _),chk_of (by simp;omega)]
  refine loop_rounds (fun i:Nat=>[Zm (catB (els.take i)),Zn 1 els,Zz Zw (els.length:Int),Zz Zw (i:Int)]) (fun i=>i≤els.length) (fun i=>els.length-i)
   (fun r=>r=(Yg 2,[Zm (catB els),Zn 1 els,Zz Zw (els.length:Int),Zz Zw (els.length:Int)])) 0 (Xp _) rfl ?_ ?_
  ·intro i hi
   simp only [A0]
   by_cases hlt:i<els.length
   ·obtain ⟨l,h1,h2,h3⟩:=Kerb.cat_step ha hlt
    rw [sel_pos (by simp;omega),chk_of (by simp;omega),Yk,h1,onBs_bs,chk_of (Zh (by omega)),wrap_i64 (by omega) (by omega)]
    refine ⟨_,rfl,i+1,?_,by omega,by dsimp only;omega⟩
    dsimp only
    rw [h2]
    rfl
   ·rw [sel_neg (by simp;omega)]
    refine ⟨_,rfl,?_⟩
    show _=_
    rw [Wq (by omega),show i=els.length from by omega]
  rintro r rfl
  simp only [A0]
  rw [sel_pos (Yz _)]
 ·cases h
theorem w119:Walked Tryz.prog G 119 2 sp119:=by
 refine ⟨Tryz.f119,Tryz.func119,by decide +kernel,rfl,fun xs bl r h=> ?_⟩
 unfold sp119 at h
 split at h
 ·rename_i b n little
  obtain ⟨hpre,h2⟩:=chk_inv h;cases h2
  refine Eq.trans (b:=(Zj (chk (decide (Zy b≤70368744177664)) (some (Zm (b++Xz n (Zv 4) little),[]))) fun (r:AV×Blocks)=>onNilB (Zd r) (Xd (Yx r) fun l=>some (Zm l,[])):Option (AV×Blocks))) (by kernel_rfl) ?_
  simp only [decide_eq_true_eq] at hpre
  simp only [A0]
  rw [chk_of (by simp;omega)]
  rfl
 ·cases h
theorem w122:Walked Tryz.prog G 122 2 sp122:=by
 refine ⟨Tryz.f122,Tryz.func122,by decide +kernel,rfl,fun xs bl r h=> ?_⟩
 unfold sp122 at h
 split at h
 ·rename_i k
  obtain ⟨hpre,h2⟩:=chk_inv h;cases h2
  refine Eq.trans (b:=(sel (!k==0) (some (Zu ((bif Vj (Zx .i64 (Wg k (2 ^ min (Zv 56) (Zk .u64))))&&Vv (Zx .i64 (Zx .u64 (↑(BitVec.toNat (BitVec.ofInt (Zk .u64) k &&& BitVec.ofInt (Zk .u64) 72057594037927935)):Int))) then Zx .i64 (Wg k (2 ^ min (Zv 56) (Zk .u64)))*72057594037927936+Zx .i64 (Zx .u64 (↑(BitVec.toNat (BitVec.ofInt (Zk .u64) k &&& BitVec.ofInt (Zk .u64) 72057594037927935)):Int)) else 0)==k),[])) (some (Zu false,[])):Option (AV×Blocks))) (by kernel_rfl) ?_
  simp only [Zp,decide_eq_true_eq] at hpre
  obtain ⟨h0,h1⟩:=hpre
  rw [Kerb.key_hi h0 h1,Kerb.key_lo h0 h1,Kerb.key_sum]
  by_cases hk:k=0
  ·subst hk;rfl
  rw [sel_pos (by simpa using hk)]
  unfold Yb
  cases Vj (Kerb.keyClass k)&&Vv (Kerb.keySerial k)
  ·have q:((0:Int)==k)=false:=by simp;omega
   simp only [cond_false,q]
  ·simp only [cond_true,BEq.rfl]
 ·cases h
theorem w129:Walked Tryz.prog G 129 2 sp129:=by
 refine ⟨Tryz.f129,Tryz.func129,by decide +kernel,rfl,fun xs bl r h=> ?_⟩
 unfold sp129 at h
 split at h
 ·rename_i kls x y z v
  obtain ⟨hpre,h2⟩:=chk_inv h;cases h2
  refine Eq.trans (b:=(Zj (loopM (fun (st:List AV)=>cSl 5 st fun b r=>cStr r fun b_1 r=>cStr r fun b_2 r=>cStr r fun b_3 r=>cInt .i64 r fun n r=>cInt .i64 r fun n_1 r=>cSl 5 r fun b_4 r=>cInt .i64 r fun n_2 r=>cInt .i64 r fun n_3 r=>onNil r (sel (decide (n_3<n_2)) (chk (decide (0≤n_3)&&decide (n_3<(↑(Zy b_4):Int))&&true) (Wp (Yq b_4 (Zv n_3) Xv) fun cs=>cStr cs fun b_5 r=>cStr r fun b_6 r=>cStr r fun b_7 r=>cInt .i64 r fun n_4 r=>cInt .u64 r fun n_5 r=>onNil r (sel (b_5==b_1&&(b_6==b_2&&(b_7==b_3&&n_4==n))) (some (Yh (Ex.ret,[Zn 5 b,Zq b_1,Zq b_2,Zq b_3,Zz .i64 n,Zz .i64 n_3,Zn 5 b_4,Zz .i64 n_2,Zz .i64 n_3]))) (some (Xf [Zn 5 b,Zq b_1,Zq b_2,Zq b_3,Zz .i64 n,Zz .i64 n_1,Zn 5 b_4,Zz .i64 n_2,Zz .i64 (Zx .i64 (n_3+1))]))))) (some (Yh (Yg 0,[Zn 5 b,Zq b_1,Zq b_2,Zq b_3,Zz .i64 n,Zz .i64 n_1,Zn 5 b_4,Zz .i64 n_2,Zz .i64 n_3]))))) [Zn 5 kls,Zq x,Zq y,Zq z,Zz .i64 v,Zz .i64 0,Zn 5 kls,Zz .i64 (↑(Zy kls):Int),Zz .i64 0]) fun (r:Ex×List AV)=>cSl 5 (Zd r) fun b r_1=>cStr r_1 fun b_1 r_2=>cStr r_2 fun b_2 r_3=>cStr r_3 fun b_3 r_4=>cInt .i64 r_4 fun n r_5=>cInt .i64 r_5 fun n r_6=>cSl 5 r_6 fun b_4 r_7=>cInt .i64 r_7 fun n_1 r_8=>cInt .i64 r_8 fun n_2 r_9=>onNil r_9 (exK r.1 (some (Zz .i64 n,[])) fun (j:Nat)=>sel (Xg j 0) (some (Zz .i64 (↑(Zy b):Int),[])) none):Option (AV×Blocks))) (by kernel_rfl) ?_
  try dsimp only [cStr,cBs,cBool,cU8,cInt,cSl,l63]
  simp only [Zp,decide_eq_true_eq] at hpre
  obtain ⟨hall,hlen⟩:=hpre
  obtain ⟨cs,rfl,hok⟩:=Vf hall
  rw [Kerb.map_toSKey]
  simp only [Yd] at hlen ⊢
  refine loop_rounds (fun i:Nat=>[Zn 5 (cs.map Yj),Zq x,Zq y,Zq z,Zz Zw v,Zz Zw 0,Zn 5 (cs.map Yj),Zz Zw (cs.length:Int),Zz Zw (i:Int)]) (fun i=>i≤cs.length∧Xq cs ⟨x,y,z⟩ v=i+Xq (cs.drop i) ⟨x,y,z⟩ v) (fun i=>cs.length-i)
   (fun r=>∃ (i:Nat) (n:Int),r.2=[Zn 5 (cs.map Yj),Zq x,Zq y,Zq z,Zz Zw v,Zz Zw n,Zn 5 (cs.map Yj),Zz Zw (cs.length:Int),Zz Zw (i:Int)]∧((r.1 = .ret∧n=(Xq cs ⟨x,y,z⟩ v:Nat))∨(r.1 = .exit 0∧Xq cs ⟨x,y,z⟩ v=cs.length))) 0 ⟨Xp _,by simp⟩ rfl ?_ ?_
  ·rintro i ⟨hi,hp⟩
   simp only [↓A0,A0]
   by_cases hlt:i<cs.length
   ·rw [sel_pos (by simp;omega),chk_of (by simp;omega),Yk,Ww (d:=Wx) hlt]
    have hd:=Kerb.drop_row (d:=Wx) hlt
    generalize cs.getD i Wx=c at hd
    simp only [Yj,↓A0,A0]
    have he0:(c.service.name==x&&(c.service.inst==y&&(c.service.realm==z&&c.kvno==v)))=Vu ⟨x,y,z⟩ v c:=by
     simp only [Vu,Kerb.Prin.eqb,Bool.and_assoc]
    rw [he0]
    cases he:Vu ⟨x,y,z⟩ v c
    ·rw [sel_false,wrap_i64 (by omega) (by omega)]
     refine ⟨_,rfl,i+1,rfl,⟨by omega,?_⟩,by dsimp only;omega⟩
     rw [hp,hd]
     simp only [Xq,Vp,he,cond_false]
     omega
    ·rw [sel_true]
     refine ⟨_,rfl,i,_,rfl,.inl ⟨rfl,?_⟩⟩
     rw [hp,hd]
     simp only [Xq,Vp,he,cond_true]
     omega
   ·rw [sel_neg (by simp;omega)]
    refine ⟨_,rfl,i,_,rfl,.inr ⟨rfl,?_⟩⟩
    rw [hp,Yw (by omega)]
    simp [Xq];omega
  ·rintro ⟨e,l⟩ ⟨i,n,rfl,⟨rfl,h⟩ | ⟨rfl,h⟩⟩
   ·simp only [↓A0,A0,h]
   ·simp only [↓A0,A0,h,Yd]
    rw [sel_pos (Yz _)]
 ·cases h
theorem w138:Walked Tryz.prog G 138 2 sp138:=by
 refine ⟨Tryz.f138,Tryz.func138,by decide +kernel,rfl,fun xs bl r h=> ?_⟩
 unfold sp138 at h
 split at h
 ·rename_i s
  obtain ⟨hpre,h2⟩:=chk_inv h;cases h2
  refine Eq.trans (b:=(sel (decide ((↑(Zy s):Int)>0)) (Zj (chk (decide (Zy s≤9223372036854775807)&&true) (some (Zu (Xm s [(46:UInt8),(64:UInt8)]&&decide (Zy s≤39)),[]))) fun (r:AV×Blocks)=>onNilB (Zd r) (Xh (Yx r) fun b=>some (Zu b,[]))) (some (Zu false,[])):Option (AV×Blocks))) (by kernel_rfl) ?_
  simp only [A0]
  rw [chk_of (by rw [hpre];rfl)]
  simp only [Kerb.validName]
  cases s with
  | nil=>rfl
  | cons x r =>
   rw [sel_pos (by first | (simp;done) | (simp;omega)),Bool.and_comm]
   rfl
 ·cases h
theorem w139:Walked Tryz.prog G 139 2 sp139:=by
 refine ⟨Tryz.f139,Tryz.func139,by decide +kernel,rfl,fun xs bl r h=> ?_⟩
 unfold sp139 at h
 split at h
 ·rename_i s
  obtain ⟨hpre,h2⟩:=chk_inv h;cases h2
  refine Eq.trans (b:=(Zj (chk (decide (Zy s≤9223372036854775807)&&true) (some (Zu (Xm s [(64:UInt8)]&&decide (Zy s≤39)),[]))) fun (r:AV×Blocks)=>onNilB (Zd r) (Xh (Yx r) fun b=>some (Zu b,[])):Option (AV×Blocks))) (by kernel_rfl) ?_
  simp only [A0]
  rw [chk_of (by rw [hpre];rfl),Bool.and_comm]
  rfl
 ·cases h
theorem w142:Walked Tryz.prog G 142 2 sp142:=by
 refine ⟨Tryz.f142,Tryz.func142,by decide +kernel,rfl,fun xs bl r h=> ?_⟩
 unfold sp142 at h
 split at h
 ·rename_i b
  cases h
  refine Eq.trans (b:=(sel (decide ((↑(Zy b):Int)<2)) (some (Yy [Zz .i64 0,Zu false,Zz .i64 101],[])) (chk (decide (0<(↑(Zy b):Int))) (sel (!Yq b (Zv 0) (0:UInt8)==(4:UInt8)) (some (Yy [Zz .i64 0,Zu false,Zz .i64 39],[])) (chk (decide (1<(↑(Zy b):Int))) (sel (!Xx (Zx .i64 (Vx (Zx .i64 (↑(Yf (Yq b (Zv 1) (0:UInt8))):Int)) 2))) (some (Yy [Zz .i64 0,Zu false,Zz .i64 40],[])) (chk (decide (1<(↑(Zy b):Int))) (some (Yy [Zz .i64 (Zx .i64 (Vx (Zx .i64 (↑(Yf (Yq b (Zv 1) (0:UInt8))):Int)) 2)),Zu (Yu (Zv (Zf (↑(Yf (Yq b (Zv 1) (0:UInt8))):Int) (↑(Yf (2:UInt8)):Int)))==(1:UInt8)),Zz .i64 0],[]))))))):Option (AV×Blocks))) (by kernel_rfl) ?_
  unfold Wf
  by_cases h1:b.length<2
  ·rw [sel_pos (by simp;omega)]
   simp [h1]
  rw [sel_neg (by simp;omega),chk_of (by simp;omega),if_neg h1]
  by_cases h2:b.getD 0 0=4
  ·have hb:=(b.getD 1 0).toNat_lt
   have e:Zx Zw (Vx (Zx Zw ((b.getD (Zv 1) 0).toNat:Int)) 2)=(((b.getD 1 0).toNat / 2:Nat):Int):=by
    rw [show Zv 1=1 from rfl,wrap_i64 (n:=((b.getD 1 0).toNat:Int)) (by omega) (by omega),Vk (by omega),wrap_i64 (by omega) (by omega)];omega
   have e2:(Yu (Zv (Zf ((b.getD (Zv 1) 0).toNat:Int) ((2:UInt8).toNat:Int)))==1)=decide ((b.getD 1 0).toNat % 2=1):=by
    rw [show Zv 1=1 from rfl,Yn (by omega)]
    have e3:Zv (((b.getD 1 0).toNat:Int) % ((2:UInt8).toNat:Int))=(b.getD 1 0).toNat % 2:=by
     show Zv (((b.getD 1 0).toNat:Int) % 2)=_
     omega
    rw [e3]
    rcases Nat.mod_two_eq_zero_or_one (b.getD 1 0).toNat with h | h<;>rw [h]<;>rfl
   rw [sel_neg (by simp [h2] at *;exact h2),chk_of (by simp;omega),if_neg (by simpa using h2),e,e2]
   cases hk:Xx (((b.getD 1 0).toNat / 2:Nat):Int)
   ·rfl
   ·rw [Xu,sel_false,chk_of (by simp;omega)]
    rfl
  ·rw [sel_pos (by simpa using h2),if_pos (by simpa using h2)]
 ·cases h
theorem w146:Walked Tryz.prog G 146 2 sp146:=by
 refine ⟨Tryz.f146,Tryz.func146,by decide +kernel,rfl,fun xs bl r h=> ?_⟩
 unfold sp146 at h
 split at h
 ·rename_i b pos n
  obtain ⟨hpre,h2⟩:=chk_inv h;cases h2
  refine Eq.trans (b:=(Zj (chk (decide (Zy b≤4611686018427387904)) (some (Zz .i64 (Vw b pos n),[]))) fun (r:AV×Blocks)=>onNilB (Zd r) (Xk .i64 (Yx r) fun n_1=>sel (!n_1==0) (some (Yy [Zg [],Zz .i64 0,Zz .i64 n_1],[])) (chk (decide (0≤pos)&&decide (pos≤Zx .i64 (pos+n))&&decide (Zx .i64 (pos+n)≤(↑(Zy b):Int))) (Zj (chk (decide (Zy (Wu (Zv pos) (Wz (Zv (Zx .i64 (pos+n))) b))≤140737488355328)) (some (Zg (Wu (Zv pos) (Wz (Zv (Zx .i64 (pos+n))) b)),[]))) fun (r:AV×Blocks)=>onNilB (Zd r) (AV.onBs (Yx r) fun b=>some (Yy [Zg b,Zz .i64 (Zx .i64 (pos+n)),Zz .i64 0],[]))))):Option (AV×Blocks))) (by kernel_rfl) ?_
  have hb:=of_decide_eq_true hpre
  simp only [A0]
  rw [chk_of (by simp;omega)]
  unfold Kerb.bytes
  by_cases hr:Vw b pos n=0
  ·obtain ⟨q1,q2,q3,q4⟩:=Kerb.room_zero.1 hr
   have e:Wu (Zv pos) (Wz (Zv (pos+n)) b)=Kerb.cut b pos n:=by
    rw [show Zv (pos+n)=pos.toNat+n.toNat by omega,List.drop_take,show pos.toNat+n.toNat-pos.toNat=n.toNat by omega]
    rfl
   have hc:=Kerb.cut_length hr
   rw [sel_neg (by simp [hr]),if_pos hr,wrap_i64 (by omega) (by omega),e,chk_of (by simp;omega),chk_of (by simp;omega)]
  ·rw [sel_pos (by simpa using hr),if_neg hr]
 ·cases h
theorem w151:Walked Tryz.prog G 151 2 sp151:=by
 refine ⟨Tryz.f151,Tryz.func151,by decide +kernel,rfl,fun xs bl r h=> ?_⟩
 unfold sp151 at h
 split at h
 ·rename_i b x y z
  obtain ⟨hpre,h2⟩:=chk_inv h;cases h2
  refine Eq.trans (b:=(Zj (chk (decide (Zy b+Zy x≤70368744177664)) (some (Zg (Wj b x),[]))) fun (r:AV×Blocks)=>onNilB (Zd r) (AV.onBs (Yx r) fun b=>Zj (chk (decide (Zy b+Zy y≤70368744177664)) (some (Zg (Wj b y),[]))) fun (r:AV×Blocks)=>onNilB (Zd r) (AV.onBs (Yx r) fun b=>Zj (chk (decide (Zy b+Zy z≤70368744177664)) (some (Zg (Wj b z),[]))) fun (r:AV×Blocks)=>onNilB (Zd r) (AV.onBs (Yx r) fun b=>some (Zg b,[])))):Option (AV×Blocks))) (by kernel_rfl) ?_
  simp only [decide_eq_true_eq] at hpre
  simp only [A0]
  rw [chk_of (by simp;omega),chk_of (by simp [Wj];omega),chk_of (by simp [Wj];omega)]
  rfl
 ·cases h
theorem w158:Walked Tryz.prog G 158 2 sp158:=by
 refine ⟨Tryz.f158,Tryz.func158,by decide +kernel,rfl,fun xs bl r h=> ?_⟩
 unfold sp158 at h
 split at h
 ·rename_i i l
  cases h
  refine Eq.trans (b:=(sel (!Zb i 4294967295) (some (Zz .i64 0,[])) (sel (!Zb l 255) (some (Zz .i64 0,[])) (some (Zz .i64 (Zx .i64 (i+Zx .i64 (300*Zx .i64 (l+1)))),[]))):Option (AV×Blocks))) (by kernel_rfl) ?_
  unfold Kerb.tEnd
  cases h1:Zb i 4294967295
  ·rfl
  cases h2:Zb l 255
  ·rfl
  have a1:=Kerb.within_iff.1 h1
  have a2:=Kerb.within_iff.1 h2
  simp only [Xu,sel_false,Vb,if_true]
  rw [wrap_i64 (n:=l+1) (by omega) (by omega),wrap_i64 (n:=300*(l+1)) (by omega) (by omega),wrap_i64 (by omega) (by omega)]
 ·cases h
theorem w161:Walked Tryz.prog G 161 2 sp161:=by
 refine ⟨Tryz.f161,Tryz.func161,by decide +kernel,rfl,fun xs bl r h=> ?_⟩
 unfold sp161 at h
 split at h
 ·rename_i k
  obtain ⟨hpre,h2⟩:=chk_inv h;cases h2
  refine Eq.trans (b:=(sel (!Vj (Zx .i64 (Wg k (2 ^ min (Zv 56) (Zk .u64))))) (some (Yy [Zz .i64 0,Zz .i64 0,Zu false],[])) (sel (!Vv (Zx .i64 (Zx .u64 (↑(BitVec.toNat (BitVec.ofInt (Zk .u64) k &&& BitVec.ofInt (Zk .u64) 72057594037927935)):Int)))) (some (Yy [Zz .i64 0,Zz .i64 0,Zu false],[])) (some (Yy [Zz .i64 (Zx .i64 (Wg k (2 ^ min (Zv 56) (Zk .u64)))),Zz .i64 (Zx .i64 (Zx .u64 (↑(BitVec.toNat (BitVec.ofInt (Zk .u64) k &&& BitVec.ofInt (Zk .u64) 72057594037927935)):Int))),Zu true],[]))):Option (AV×Blocks))) (by kernel_rfl) ?_
  simp only [Zp,decide_eq_true_eq] at hpre
  obtain ⟨h0,h1⟩:=hpre
  rw [Kerb.key_hi h0 h1,Kerb.key_lo h0 h1]
  unfold Yb
  cases Vj (Kerb.keyClass k)
  ·rfl
  cases Vv (Kerb.keySerial k)<;>rfl
 ·cases h
theorem w167:Walked Tryz.prog G 167 2 sp167:=by
 refine ⟨Tryz.f167,Tryz.func167,by decide +kernel,rfl,fun xs bl r h=> ?_⟩
 unfold sp167 at h
 split at h
 ·rename_i b pos k little
  obtain ⟨hpre,h2⟩:=chk_inv h;cases h2
  refine Eq.trans (b:=(Zj (chk (decide (Zy b≤4611686018427387904)) (some (Zz .i64 (Vw b pos k),[]))) (kI .i64 fun n=>sel (!n==0) (some (Yy [Zz .i64 0,Zz .i64 0,Zz .i64 n],[])) (Zj (loopM (fun (st:List AV)=>cBs st fun b r=>cInt .i64 r fun n r=>cInt .i64 r fun n_1 r=>cBool r fun b_1 r=>cInt .i64 r fun n_2 r=>let t0:BitVec (Zk .i64):=BitVec.ofInt (Zk .i64) (Zx .i64 (n_2*2 ^ min (Zv 8) (Zk .i64)));cInt .i64 r fun n_3 r=>cInt .i64 r fun n_4 r=>let t1:Int:=Zx .i64 (n+Zx .i64 (Zx .i64 (n_1-1)-n_4));onNil r (sel (decide (n_4<n_3)) (sel b_1 (chk (decide (0≤t1)&&decide (t1<(↑(Zy b):Int))) (some (Xf [Zg b,Zz .i64 n,Zz .i64 n_1,Zu b_1,Zz .i64 (Zx .i64 (↑(BitVec.toNat (t0 ||| BitVec.ofInt (Zk .i64) (Zx .i64 (↑(Yf (Yq b (Zv t1) (0:UInt8))):Int)))):Int)),Zz .i64 n_3,Zz .i64 (Zx .i64 (n_4+1))]))) (chk (decide (0≤Zx .i64 (n+n_4))&&decide (Zx .i64 (n+n_4)<(↑(Zy b):Int))) (some (Xf [Zg b,Zz .i64 n,Zz .i64 n_1,Zu b_1,Zz .i64 (Zx .i64 (↑(BitVec.toNat (t0 ||| BitVec.ofInt (Zk .i64) (Zx .i64 (↑(Yf (Yq b (Zv (Zx .i64 (n+n_4))) (0:UInt8))):Int)))):Int)),Zz .i64 n_3,Zz .i64 (Zx .i64 (n_4+1))])))) (some (Yh (Yg 0,[Zg b,Zz .i64 n,Zz .i64 n_1,Zu b_1,Zz .i64 n_2,Zz .i64 n_3,Zz .i64 n_4]))))) [Zg b,Zz .i64 pos,Zz .i64 k,Zu little,Zz .i64 0,Zz .i64 k,Zz .i64 0]) fun (r:Ex×List AV)=>cBs (Zd r) fun b r_1=>cInt .i64 r_1 fun n r_2=>cInt .i64 r_2 fun n_1 r_3=>cBool r_3 fun b r_4=>cInt .i64 r_4 fun n_2 r_5=>cInt .i64 r_5 fun n_3 r_6=>cInt .i64 r_6 fun n_4 r_7=>onNil r_7 (exK r.1 none fun (j:Nat)=>sel (Xg j 0) (some (Yy [Zz .i64 n_2,Zz .i64 (Zx .i64 (n+n_1)),Zz .i64 0],[])) none))):Option (AV×Blocks))) (by kernel_rfl) ?_
  delta kI
  try dsimp only [cStr,cBs,cBool,cU8,cInt,cSl,l63]
  simp only [Zp,decide_eq_true_eq] at hpre
  obtain ⟨⟨hb,hk0⟩,hk4⟩:=hpre
  simp only [A0]
  rw [chk_of (by simpa using hb)]
  unfold Kerb.get
  by_cases hr:Vw b pos k=0
  ·rw [sel_neg (by simp [hr]),if_pos hr]
   obtain ⟨q1,q2,q3,q4⟩:=Kerb.room_zero.1 hr
   have hcl:=Kerb.cut_length hr
   obtain ⟨L,hL⟩:∃ L,L=cond little (Kerb.cut b pos k).reverse (Kerb.cut b pos k):=⟨_,rfl⟩
   have hLl:L.length=k.toNat:=by rw [hL];cases little<;>simp [hcl]
   rw [← hL]
   refine loop_rounds (fun i:Nat=>[Zg b,Zz Zw pos,Zz Zw k,Zu little,Zz Zw (Kerb.valB (L.take i)),Zz Zw k,Zz Zw (i:Int)]) (fun i=>i≤k.toNat) (fun i=>k.toNat-i)
    (fun r=>r=(Yg 0,[Zg b,Zz Zw pos,Zz Zw k,Zu little,Zz Zw (Kerb.valB L),Zz Zw k,Zz Zw k])) 0 (Xp _) rfl ?_ ?_
   ·intro i hi
    simp only [A0]
    by_cases hlt:i<k.toNat
    ·rw [sel_pos (by simp;omega)]
     have hv:=Kerb.valB_bd (l:=L.take i) (by simp;omega)
     have hs:=Kerb.valB_take (l:=L) (i:=i) (by omega)
     have hgd:L.getD i 0=b.getD (cond little (pos.toNat+(k.toNat-1-i)) (pos.toNat+i)) 0:=by
      rw [hL]
      cases little
      ·exact Kerb.cut_getD hlt
      ·show (Kerb.cut b pos k).reverse.getD i 0=_
       rw [Kerb.getD_reverse (by omega),hcl,Kerb.cut_getD (by omega)];rfl
     cases little
     ·rw [sel_neg rfl,wrap_i64 (n:=pos+(i:Int)) (by omega) (by omega),chk_of (by simp;omega),show (pos+(i:Int)).toNat=pos.toNat+i from by omega]
      rw [Kerb.shl8_or _ hv.1 (by omega),wrap_i64 (n:=(i:Int)+1) (by omega) (by omega)]
      refine ⟨_,rfl,i+1,?_,by omega,by dsimp only;omega⟩
      dsimp only
      rw [hs,hgd];rfl
     ·rw [sel_pos rfl,wrap_i64 (n:=k-1) (by omega) (by omega),wrap_i64 (n:=k-1-(i:Int)) (by omega) (by omega),wrap_i64 (n:=pos+(k-1-(i:Int))) (by omega) (by omega),chk_of (by simp;omega),show (pos+(k-1-(i:Int))).toNat=pos.toNat+(k.toNat-1-i) from by omega]
      rw [Kerb.shl8_or _ hv.1 (by omega),wrap_i64 (n:=(i:Int)+1) (by omega) (by omega)]
      refine ⟨_,rfl,i+1,?_,by omega,by dsimp only;omega⟩
      dsimp only
      rw [hs,hgd];rfl
    ·rw [sel_neg (by simp;omega)]
     refine ⟨_,rfl,?_⟩
     show _=_
     rw [Wq (by omega),show (i:Int)=k from by omega]
   ·rintro r rfl
    simp only [A0]
    rw [sel_pos (Yz _),wrap_i64 (by omega) (by omega)]
  ·rw [sel_pos (by simpa using hr),if_neg hr]
 ·cases h
theorem w169:Walked Tryz.prog G 169 2 sp169:=by
 refine ⟨Tryz.f169,Tryz.func169,by decide +kernel,rfl,fun xs bl r h=> ?_⟩
 unfold sp169 at h
 split at h
 ·rename_i s c
  cases h
  refine Eq.trans (b:=(some (Zz .i64 (Yv c s),[]):Option (AV×Blocks))) (by kernel_rfl) ?_
  rfl
 ·cases h
theorem w187:Walked Tryz.prog G 187 2 sp187:=by
 refine ⟨Tryz.f187,Tryz.func187,by decide +kernel,rfl,fun xs bl r h=> ?_⟩
 unfold sp187 at h
 split at h
 ·rename_i s c
  cases h
  refine Eq.trans (b:=(some (Zz .i64 (Yv c s),[]):Option (AV×Blocks))) (by kernel_rfl) ?_
  rfl
 ·cases h
theorem w25:Walked Tryz.prog G 25 3 sp25:=by
 refine ⟨Tryz.f25,Tryz.func25,by decide +kernel,rfl,fun xs bl r h=> ?_⟩
 unfold sp25 at h
 split at h
 ·rename_i n
  obtain ⟨hpre,h2⟩:=chk_inv h;cases h2
  refine Eq.trans (b:=(chk (decide (0≤Zf n 3)&&decide (Zf n 3<(↑(Zy [Zq [(97:UInt8),(110:UInt8),(110:UInt8)],Zq [(98:UInt8),(111:UInt8),(98:UInt8)],Zq [(99:UInt8),(97:UInt8),(116:UInt8)]]):Int))&&true) (Wv (Yq [Zq [(97:UInt8),(110:UInt8),(110:UInt8)],Zq [(98:UInt8),(111:UInt8),(98:UInt8)],Zq [(99:UInt8),(97:UInt8),(116:UInt8)]] (Zv (Zf n 3)) Xv) fun b=>Zj (chk (decide (0≤Zx .i64 (Vx n 3))) (some (Zq (Kerb.realm (Zx .i64 (Vx n 3))),[]))) fun (r:AV×Blocks)=>onNilB (Zd r) (Wv (Yx r) fun b_1=>some (Wd [Zq b,Zq [],Zq b_1],[]))):Option (AV×Blocks))) (by kernel_rfl) ?_
  have hn:0≤n:=by first | exact of_decide_eq_true hpre | (simp only [Zp,decide_eq_true_eq] at hpre;exact hpre.1)
  have ht:Zf n 3=n % 3:=Yn hn
  have hcase:n % 3=0∨n % 3=1∨n % 3=2:=by omega
  simp only [Zp,decide_eq_true_eq] at hpre
  have hd:Vx n 3=n / 3:=Vk hn
  rw [hd,wrap_i64 (by omega) (by omega)]
  have hq:decide ((0:Int)≤n / 3)=true:=by simp;omega
  rcases hcase with e | e | e<;>simp [ht,e,chk,Wv,Kerb.user,hq,onNilB]<;>omega
 ·cases h
theorem w36:Walked Tryz.prog G 36 3 sp36:=by
 refine ⟨Tryz.f36,Tryz.func36,by decide +kernel,rfl,fun xs bl r h=> ?_⟩
 unfold sp36 at h
 split at h
 ·rename_i li mu kv rl tk au
  obtain ⟨hpre,h2⟩:=chk_inv h;cases h2
  refine Eq.trans (b:=(Zj (chk (l63 rl) (some (Zu (Kerb.validRealm rl),[]))) (kL fun b=>sel (!b) (some (Yy [Zg [],Zz .i64 103],[])) (sel (!Zb kv 255) (some (Yy [Zg [],Zz .i64 104],[])) (sel (decide ((↑(Zy tk):Int)>255)) (some (Yy [Zg [],Zz .i64 105],[])) (sel (decide ((↑(Zy au):Int)>255)) (some (Yy [Zg [],Zz .i64 105],[])) (sel mu (Zj (chk (decide (Zy (Wn 4 li)≤70368744177664)) (some (Zm (Wn 4 li++Xz kv 1 false),[]))) (kO fun l=>Zj (chk (decide (Zy l+Zy rl≤70368744177664)) (some (Zg (Wj l rl),[]))) (kB fun b=>Zj (chk (decide (Zy b≤70368744177664)) (some (Zm (b++Xz (↑(Zy tk):Int) 1 false),[]))) (kO fun l=>Zj (chk (decide (Zy l≤70368744177664)) (some (Zm (l++Xz (↑(Zy au):Int) 1 false),[]))) (kO fun l=>chk (room (Zy l+Zy tk) 1) (chk (room (Zy (l++tk)+Zy au) 1) (some (Yy [Zg (l++tk++au),Zz .i64 0],[])))))))) (Zj (chk (decide (Zy (Wn 3 li)≤70368744177664)) (some (Zm (Wn 3 li++Xz kv 1 false),[]))) (kO fun l=>Zj (chk (decide (Zy l+Zy rl≤70368744177664)) (some (Zg (Wj l rl),[]))) (kB fun b=>Zj (chk (decide (Zy b≤70368744177664)) (some (Zm (b++Xz (↑(Zy tk):Int) 1 false),[]))) (kO fun l=>Zj (chk (decide (Zy l≤70368744177664)) (some (Zm (l++Xz (↑(Zy au):Int) 1 false),[]))) (kO fun l=>chk (room (Zy l+Zy tk) 1) (chk (room (Zy (l++tk)+Zy au) 1) (some (Yy [Zg (l++tk++au),Zz .i64 0],[]))))))))))))):Option (AV×Blocks))) (by kernel_rfl) ?_
  delta kB kO kL
  try dsimp only [cStr,cBs,cBool,cU8,cInt,cSl,l63]
  simp only [A0,Kerb.Client.av,Kerb.Cache.av,Kerb.Cred.av,hpre]
  unfold Kerb.encodeAp
  simp only
  cases h1:Kerb.validRealm rl
  ·rfl
  rw [Xu,sel_false,if_neg (by simp)]
  cases h2:Zb kv 255
  ·rfl
  rw [Xu,sel_false,if_neg (by simp)]
  by_cases h3:255<tk.length
  ·rw [sel_pos (by simp;omega),if_pos (.inl h3)]
  rw [sel_neg (by simp;omega)]
  by_cases h4:255<au.length
  ·rw [sel_pos (by simp;omega),if_pos (.inr h4)]
  rw [sel_neg (by simp;omega),if_neg (by omega)]
  have l1:=Kerb.validRealm_len h1
  have g3:=Kerb.header_len 3 li
  have g4:=Kerb.header_len 4 li
  cases mu
  ·rw [sel_false,chk_of (by simp;omega),chk_of (by simp [Xy];omega),chk_of (by simp [Xy,Xb];omega),chk_of (by simp [Xy,Xb];omega),chk_of (Zh (by simp [Xy,Xb];omega)),chk_of (Zh (by simp [Xy,Xb];omega))]
   rfl
  ·rw [sel_true,chk_of (by simp;omega),chk_of (by simp [Xy];omega),chk_of (by simp [Xy,Xb];omega),chk_of (by simp [Xy,Xb];omega),chk_of (Zh (by simp [Xy,Xb];omega)),chk_of (Zh (by simp [Xy,Xb];omega))]
   rfl
 ·cases h
theorem w59:Walked Tryz.prog G 59 3 sp59:=by
 refine ⟨Tryz.f59,Tryz.func59,by decide +kernel,rfl,fun xs bl r h=> ?_⟩
 unfold sp59 at h
 split at h
 ·rename_i kd k bd
  obtain ⟨hpre,h2⟩:=chk_inv h;cases h2
  refine Eq.trans (b:=(let t0:List UInt8:=[Yu (Zv (Zx .u8 (Wg (↑(Zy bd):Int) (2 ^ min (Zv 8) (Zk .i64))))),Yu (Zv (Zx .u8 (↑(Zy bd):Int)))];let t1:List UInt8:=[(66:UInt8),Yu (Zv (Zx .u8 kd))];sel (decide (kd<1)) (some (Yy [Zg [],Zz .i64 104],[])) (sel (decide (kd>10)) (some (Yy [Zg [],Zz .i64 104],[])) (Zj (chk (decide (0≤k)&&decide (k<18446744073709551616)) (some (Zu (Yb k),[]))) (kL fun b=>sel (!b) (some (Yy [Zg [],Zz .i64 10],[])) (sel (decide ((↑(Zy bd):Int)>1000)) (some (Yy [Zg [],Zz .i64 105],[])) (Zj (chk (decide (0≤k)&&decide (k<18446744073709551616)) (some (Zg (Kerb.keyBytes k),[]))) (kB fun b=>chk (room (Zy t1+Zy b) 1) (chk (room (Zy (t1++b)+Zy t0) 1) (chk (room (Zy (t1++b++t0)+Zy bd) 1) (some (Yy [Zg (t1++b++t0++bd),Zz .i64 0],[])))))))))):Option (AV×Blocks))) (by kernel_rfl) ?_
  delta kB kL
  try dsimp only [cStr,cBs,cBool,cU8,cInt,cSl,l63]
  simp only [A0,Kerb.Client.av,Kerb.Cache.av,Kerb.Cred.av,hpre]
  unfold Kerb.makeBox
  by_cases k1:1≤kd
  case neg =>
   rw [sel_pos (by simp;omega),if_pos (by simp [Xx];omega)]
  by_cases k2:kd≤10
  case neg =>
   rw [sel_neg (by simp;omega),sel_pos (by simp;omega),if_pos (by simp [Xx];omega)]
  rw [sel_neg (by simp;omega),sel_neg (by simp;omega),if_neg (by simp [Xx];omega)]
  cases h2:Yb k
  ·rfl
  rw [Xu,sel_false,if_neg (by simp)]
  by_cases h3:1000<bd.length
  ·rw [sel_pos (by simp;omega),if_pos h3]
  have lk:=Kerb.keyBytes_len k
  rw [sel_neg (by simp;omega),if_neg h3,chk_of (Zh (by simp;omega)),chk_of (Zh (by simp;omega)),chk_of (Zh (by simp;omega)),Kerb.two_bytes,Kerb.wrap_u8,Int.emod_eq_of_lt (by omega) (by omega)]
 ·cases h
theorem w73:Walked Tryz.prog G 73 3 sp73:=by
 refine ⟨Tryz.f73,Tryz.func73,by decide +kernel,rfl,fun xs bl r h=> ?_⟩
 unfold sp73 at h
 split at h
 ·rename_i n
  obtain ⟨hpre,h2⟩:=chk_inv h;cases h2
  refine Eq.trans (b:=(chk (decide (0≤Zf n 3)&&decide (Zf n 3<(↑(Zy [Wd [Zq [(109:UInt8),(97:UInt8),(105:UInt8),(108:UInt8)],Zq [],Zq []],Wd [Zq [(110:UInt8),(102:UInt8),(115:UInt8)],Zq [(104:UInt8),(111:UInt8),(109:UInt8),(101:UInt8)],Zq []],Wd [Zq [(107:UInt8),(114:UInt8),(98:UInt8),(116:UInt8),(103:UInt8),(116:UInt8)],Zq [(65:UInt8),(84:UInt8),(72:UInt8)],Zq []]]):Int))&&true) (Wp (Yq [Wd [Zq [(109:UInt8),(97:UInt8),(105:UInt8),(108:UInt8)],Zq [],Zq []],Wd [Zq [(110:UInt8),(102:UInt8),(115:UInt8)],Zq [(104:UInt8),(111:UInt8),(109:UInt8),(101:UInt8)],Zq []],Wd [Zq [(107:UInt8),(114:UInt8),(98:UInt8),(116:UInt8),(103:UInt8),(116:UInt8)],Zq [(65:UInt8),(84:UInt8),(72:UInt8)],Zq []]] (Zv (Zf n 3)) Xv) fun cs=>onCons cs fun x r=>Wv x fun b=>onCons r fun x r=>Wv x fun b_1=>onCons r fun x r=>Wv x fun b_2=>onNil r (Zj (chk (decide (0≤Zx .i64 (Vx n 3))) (some (Zq (Kerb.realm (Zx .i64 (Vx n 3))),[]))) fun (r:AV×Blocks)=>onNilB (Zd r) (Wv (Yx r) fun b_3=>some (Wd [Zq b,Zq b_1,Zq b_3],[])))):Option (AV×Blocks))) (by kernel_rfl) ?_
  have hn:0≤n:=by first | exact of_decide_eq_true hpre | (simp only [Zp,decide_eq_true_eq] at hpre;exact hpre.1)
  have ht:Zf n 3=n % 3:=Yn hn
  have hcase:n % 3=0∨n % 3=1∨n % 3=2:=by omega
  simp only [Zp,decide_eq_true_eq] at hpre
  have hd:Vx n 3=n / 3:=Vk hn
  rw [hd,wrap_i64 (by omega) (by omega)]
  have hq:decide ((0:Int)≤n / 3)=true:=by simp;omega
  rcases hcase with e | e | e<;>simp [ht,e,chk,Wv,Wp,onCons,onNil,Vz,hq,onNilB]<;>omega
 ·cases h
theorem w77:Walked Tryz.prog G 77 3 sp77:=by
 refine ⟨Tryz.f77,Tryz.func77,by decide +kernel,rfl,fun xs bl r h=> ?_⟩
 unfold sp77 at h
 split at h
 ·rename_i a b c
  obtain ⟨hpre,h2⟩:=chk_inv h;cases h2
  refine Eq.trans (b:=(Zj (chk (decide (Zy a≤9223372036854775807)) (some (Zu (Kerb.validName a),[]))) fun (r:AV×Blocks)=>onNilB (Zd r) (Xh (Yx r) fun b_1=>sel b_1 (Zj (chk (decide (Zy b≤9223372036854775807)) (some (Zu (Kerb.validInst b),[]))) fun (r:AV×Blocks)=>onNilB (Zd r) (Xh (Yx r) fun b=>sel b (Zj (chk (decide (Zy c≤9223372036854775807)) (some (Zu (Kerb.validRealm c),[]))) fun (r:AV×Blocks)=>onNilB (Zd r) (Xh (Yx r) fun b=>some (Zu b,[]))) (some (Zu false,[])))) (some (Zu false,[]))):Option (AV×Blocks))) (by kernel_rfl) ?_
  simp only [Zp,decide_eq_true_eq] at hpre
  simp only [A0]
  rw [chk_of (by simp;omega),chk_of (by simp;omega),chk_of (by simp;omega)]
  simp only [Kerb.Prin.valid]
  cases Kerb.validName a<;>cases Kerb.validInst b<;>rfl
 ·cases h
theorem w86:Walked Tryz.prog G 86 3 sp86:=by
 refine ⟨Tryz.f86,Tryz.func86,by decide +kernel,rfl,fun xs bl r h=> ?_⟩
 unfold sp86 at h
 split at h
 ·rename_i b els
  obtain ⟨hpre,h2⟩:=chk_inv h;cases h2
  refine Eq.trans (b:=(sel (!Kerb.Head.err (Wf b)==0) (some (Yy [Zu false,Zz .i64 (Kerb.Head.err (Wf b))],[])) (Zj (chk (allInts els&&decide (Zy els≤1000)) (some (Zu (List.contains (intsIn els) (Kerb.Head.kind (Wf b))),[]))) fun (r:AV×Blocks)=>onNilB (Zd r) (Xh (Yx r) fun b_1=>sel (!b_1) (some (Yy [Zu false,Zz .i64 40],[])) (some (Yy [Zu (Kerb.Head.little (Wf b)),Zz .i64 0],[])))):Option (AV×Blocks))) (by kernel_rfl) ?_
  simp only [A0]
  unfold Kerb.headIs
  by_cases h:(Wf b).err=0
  ·rw [sel_neg (by simp [h]),chk_of hpre]
   cases hc:(intsIn els).contains (Wf b).kind<;>simp [sel,h,hc]
  ·rw [sel_pos (by simpa using h)]
   simp [h]
 ·cases h
theorem w96:Walked Tryz.prog G 96 3 sp96:=by
 refine ⟨Tryz.f96,Tryz.func96,by decide +kernel,rfl,fun xs bl r h=> ?_⟩
 unfold sp96 at h
 split at h
 ·rename_i kls x y z v
  obtain ⟨hpre,h2⟩:=chk_inv h;cases h2
  refine Eq.trans (b:=(Zj (chk (List.all kls Kerb.isSKey&&decide (Zy kls≤1000000)) (some (Zz .i64 (↑(Xq (List.map Kerb.toSKey kls) (Kerb.Prin.mk x y z) v):Int),[]))) fun (r:AV×Blocks)=>onNilB (Zd r) (Xk .i64 (Yx r) fun n=>sel (n==(↑(Zy kls):Int)) (some (Yy [Zz .u64 0,Zu false],[])) (chk (decide (0≤n)&&decide (n<(↑(Zy kls):Int))&&true) (Wp (Yq kls (Zv n) Xv) fun cs=>onCons cs fun x r=>Wv x fun b=>onCons r fun x r=>Wv x fun b=>onCons r fun x r=>Wv x fun b=>onCons r fun x r=>Xk .i64 x fun n=>onCons r fun x r=>Xk .u64 x fun n=>onNil r (some (Yy [Zz .u64 n,Zu true],[]))))):Option (AV×Blocks))) (by kernel_rfl) ?_
  simp only [Zp,decide_eq_true_eq] at hpre
  obtain ⟨hall,hlen⟩:=hpre
  obtain ⟨cs,rfl,hok⟩:=Vf hall
  simp only [Kerb.map_toSKey,Yd,↓A0,A0] at hlen ⊢
  rw [chk_of (by rw [hall];simp;omega)]
  have hle:=Kerb.skAt_le cs ⟨x,y,z⟩ v
  unfold Kerb.skFind
  by_cases h:Xq cs ⟨x,y,z⟩ v<cs.length
  ·rw [sel_neg (by simp;omega),chk_of (by simp;omega),Yk,Ww (d:=Wx) h,if_pos h]
   simp only [Yj,↓A0,A0]
  ·rw [sel_pos (by simp;omega),if_neg h]
 ·cases h
theorem w101:Walked Tryz.prog G 101 3 sp101:=by
 refine ⟨Tryz.f101,Tryz.func101,by decide +kernel,rfl,fun xs bl r h=> ?_⟩
 unfold sp101 at h
 split at h
 ·rename_i i l n s
  cases h
  refine Eq.trans (b:=(sel (!Zb i 4294967295) (some (Zz .i64 104,[])) (sel (!Zb n 4294967295) (some (Zz .i64 104,[])) (sel (!Zb l 255) (some (Zz .i64 104,[])) (sel (!Zb s 4294967295) (some (Zz .i64 104,[])) (sel (decide (i>Zx .i64 (n+s))) (some (Zz .i64 33,[])) (sel (decide (n>Zx .i64 (Kerb.tEnd i l+s))) (some (Zz .i64 32,[])) (some (Zz .i64 0,[]))))))):Option (AV×Blocks))) (by kernel_rfl) ?_
  unfold Kerb.stateErr
  cases h1:Zb i 4294967295
  ·rfl
  cases h2:Zb n 4294967295
  ·rfl
  cases h3:Zb l 255
  ·rfl
  cases h4:Zb s 4294967295
  ·rfl
  have b1:=Kerb.within_iff.1 h1
  have b2:=Kerb.within_iff.1 h2
  have b3:=Kerb.within_iff.1 h3
  have b4:=Kerb.within_iff.1 h4
  have he:Kerb.tEnd i l=i+300*(l+1):=by simp [Kerb.tEnd,h1,h3]
  simp only [Xu,sel_false,Vb,Bool.false_eq_true,if_false,he]
  rw [wrap_i64 (by omega) (by omega),wrap_i64 (by omega) (by omega)]
  by_cases h5:n+s<i
  ·rw [sel_pos (by simpa using h5),if_pos h5]
  rw [sel_neg (by simpa using h5),if_neg h5]
  by_cases h6:i+300*(l+1)+s<n
  ·rw [sel_pos (by simpa using h6),if_pos h6]
  rw [sel_neg (by simpa using h6),if_neg h6]
 ·cases h
theorem w112:Walked Tryz.prog G 112 3 sp112:=by
 refine ⟨Tryz.f112,Tryz.func112,by decide +kernel,rfl,fun xs bl r h=> ?_⟩
 unfold sp112 at h
 split at h
 ·rename_i b
  obtain ⟨hpre,h2⟩:=chk_inv h;cases h2
  refine Eq.trans (b:=(chk (decide (0≤Zf (Zx .i64 (8-Zf (↑(Zy b):Int) 8)) 8)&&decide (Zf (Zx .i64 (8-Zf (↑(Zy b):Int) 8)) 8≤Zf (Zx .i64 (8-Zf (↑(Zy b):Int) 8)) 8)&&decide (Zf (Zx .i64 (8-Zf (↑(Zy b):Int) 8)) 8≤140737488355328)) (Zj (chk (decide (Zy (Xj b (Xj (Xn (Zv (Zf (Zx .i64 (8-Zf (↑(Zy b):Int) 8)) 8)) (0:UInt8)) []))≤140737488355328)&&decide (Zy [Zg b,Zg (Xn (Zv (Zf (Zx .i64 (8-Zf (↑(Zy b):Int) 8)) 8)) (0:UInt8))]≤1000)) (some (Zm (Xj b (Xj (Xn (Zv (Zf (Zx .i64 (8-Zf (↑(Zy b):Int) 8)) 8)) (0:UInt8)) [])),[]))) fun (r:AV×Blocks)=>onNilB (Zd r) (Xd (Yx r) fun l=>some (Zg l,[]))):Option (AV×Blocks))) (by kernel_rfl) ?_
  have hb:=of_decide_eq_true hpre
  rw [Kerb.pad_eq hb]
  simp only [A0]
  rw [chk_of (by simp;omega),chk_of (by simp;omega)]
  simp [Kerb.pad]
  omega
 ·cases h
theorem w114:Walked Tryz.prog G 114 3 sp114:=by
 refine ⟨Tryz.f114,Tryz.func114,by decide +kernel,rfl,fun xs bl r h=> ?_⟩
 unfold sp114 at h
 split at h
 ·rename_i k
  obtain ⟨hpre,h2⟩:=chk_inv h;cases h2
  refine Eq.trans (b:=(Zj (chk (decide (0≤k)&&decide (k<18446744073709551616)) (some (Yy [Zz .i64 (bif Yb k then Kerb.keyClass k else 0),Zz .i64 (bif Yb k then Kerb.keySerial k else 0),Zu (Yb k)],[]))) fun (r:AV×Blocks)=>onNilB (Zd r) (AV.onTup (Yx r) fun vs=>onCons vs fun x r=>Xk .i64 x fun n=>onCons r fun x r=>Xk .i64 x fun n=>onCons r fun x r=>Xh x fun b=>onNil r (some (Zu b,[]))):Option (AV×Blocks))) (by kernel_rfl) ?_
  simp only [A0]
  rw [chk_of hpre]
 ·cases h
theorem w120:Walked Tryz.prog G 120 3 sp120:=by
 refine ⟨Tryz.f120,Tryz.func120,by decide +kernel,rfl,fun xs bl r h=> ?_⟩
 unfold sp120 at h
 split at h
 ·rename_i b little
  obtain ⟨hpre,h2⟩:=chk_inv h;cases h2
  refine Eq.trans (b:=(sel little (Zj (chk (decide (Zy b≤70368744177664)) (some (Zm (b++Xz 1 1 false),[]))) fun (r:AV×Blocks)=>onNilB (Zd r) (Xd (Yx r) fun l=>some (Zm l,[]))) (Zj (chk (decide (Zy b≤70368744177664)) (some (Zm (b++Xz 0 1 false),[]))) fun (r:AV×Blocks)=>onNilB (Zd r) (Xd (Yx r) fun l=>some (Zm l,[]))):Option (AV×Blocks))) (by kernel_rfl) ?_
  simp only [A0]
  rw [chk_of hpre,chk_of hpre]
  cases little<;>rfl
 ·cases h
theorem w144:Walked Tryz.prog G 144 3 sp144:=by
 refine ⟨Tryz.f144,Tryz.func144,by decide +kernel,rfl,fun xs bl r h=> ?_⟩
 unfold sp144 at h
 split at h
 ·rename_i b pos
  obtain ⟨hpre,h2⟩:=chk_inv h;cases h2
  refine Eq.trans (b:=(Zj (chk (decide (Zy b≤4611686018427387904)&&true&&true) (some (Yy [Zz .i64 (Kerb.Got.val (Kerb.get b pos 1 false)),Zz .i64 (Kerb.Got.next (Kerb.get b pos 1 false)),Zz .i64 (Kerb.Got.err (Kerb.get b pos 1 false))],[]))) fun (r:AV×Blocks)=>onNilB (Zd r) (AV.onTup (Yx r) fun vs=>onCons vs fun x r=>Xk .i64 x fun n=>onCons r fun x r=>Xk .i64 x fun n_1=>onCons r fun x r=>Xk .i64 x fun n_2=>onNil r (some (Yy [Zz .i64 n,Zz .i64 n_1,Zz .i64 n_2],[]))):Option (AV×Blocks))) (by kernel_rfl) ?_
  simp only [A0]
  rw [chk_of (by rw [hpre];rfl)]
 ·cases h
theorem w145:Walked Tryz.prog G 145 3 sp145:=by
 refine ⟨Tryz.f145,Tryz.func145,by decide +kernel,rfl,fun xs bl r h=> ?_⟩
 unfold sp145 at h
 split at h
 ·rename_i b pos
  obtain ⟨hpre,h2⟩:=chk_inv h;cases h2
  refine Eq.trans (b:=(let t5:List UInt8:=Wu (Zv pos) (Wz (Zv (↑(Zy b):Int)) b);let t6:Option (AV×Blocks):=some (Yy [Zq [],Zz .i64 0,Zz .i64 105],[]);let t7:Option (AV×Blocks):=some (Yy [Zq [],Zz .i64 0,Zz .i64 101],[]);let t1:Int:=Yv (0:UInt8) t5;let t2:Int:=(↑(Zy t5):Int);let t4:List UInt8:=Wu (Zv (↑(0:Nat):Int)) (Wz (Zv 40) t5);let t0:Int:=Yv (0:UInt8) t4;let t3:Int:=(↑(Zy t4):Int);Zj (chk (decide (Zy b≤4611686018427387904)) (some (Zz .i64 (Vw b pos 0),[]))) (kI .i64 fun n=>sel (!n==0) (some (Yy [Zq [],Zz .i64 0,Zz .i64 n],[])) (chk (decide (0≤pos)&&decide (pos≤(↑(Zy b):Int))&&decide ((↑(Zy b):Int)≤(↑(Zy b):Int))) (sel (decide (t2>40)) (chk (decide (40≤t2)) (sel (decide (t0≥0)) (chk (decide ((↑(0:Nat):Int)≤t0)&&decide (t0≤t3)) (some (Yy [Zq (Wu (Zv (↑(0:Nat):Int)) (Wz (Zv t0) t4)),Zz .i64 (Zx .i64 (Zx .i64 (pos+t0)+1)),Zz .i64 0],[]))) (sel (t3==40) t6 t7))) (sel (decide (t1≥0)) (chk (decide ((↑(0:Nat):Int)≤t1)&&decide (t1≤t2)) (some (Yy [Zq (Wu (Zv (↑(0:Nat):Int)) (Wz (Zv t1) t5)),Zz .i64 (Zx .i64 (Zx .i64 (pos+t1)+1)),Zz .i64 0],[]))) (sel (t2==40) t6 t7))))):Option (AV×Blocks))) (by kernel_rfl) ?_
  delta kI
  try dsimp only [cStr,cBs,cBool,cU8,cInt,cSl,l63]
  simp only [decide_eq_true_eq] at hpre
  simp only [A0]
  rw [chk_of (by simpa using hpre)]
  have ht:(Wz (Zv (b.length:Int)) b)=b:=by simp
  rw [ht]
  unfold Kerb.text
  by_cases hr:Vw b pos 0=0
  case neg =>
   have h104:Vw b pos 0=104:=by
    unfold Vw at hr ⊢
    split at hr
    ·rw [if_pos (by assumption)]
    ·split at hr<;>omega
   rw [sel_pos (by simpa using hr),if_neg hr,h104]
  obtain ⟨q1,q2,_,_⟩:=Kerb.room_zero.1 hr
  rw [sel_neg (by simp [hr]),if_pos hr,chk_of (by simp;omega)]
  obtain ⟨R,hR⟩:∃ R,R=b.drop pos.toNat:=⟨_,rfl⟩
  have hRl:R.length=b.length-pos.toNat:=by rw [hR];simp
  rw [← hR]
  obtain ⟨T,hT⟩:∃ T,T=R.take 40:=⟨_,rfl⟩
  have hix:=Kerb.indexOf_bd 0 T
  have key:(sel (decide (Yv (0:UInt8) T≥(0:Int)))
    (chk (decide (((0:Nat):Int)≤Yv (0:UInt8) T)&&decide (Yv (0:UInt8) T≤(T.length:Int)))
     (some (Yy [Zq (Wu (Zv ((0:Nat):Int)) (Wz (Zv (Yv (0:UInt8) T)) T)),Zz Zw (Zx Zw (Zx Zw (pos+Yv (0:UInt8) T)+(1:Int))),Zz Zw (0:Int)],([]:Blocks))))
    (sel (((T.length:Int))==(40:Int)) (some (Yy [Zq [],Zz Zw (0:Int),Zz Zw (105:Int)],[]))
     (some (Yy [Zq [],Zz Zw (0:Int),Zz Zw (101:Int)],[])))) =
    some (Yy [Zq (if 0≤Yv 0 T then (⟨T.take (Yv 0 T).toNat,pos+Yv 0 T+1,0⟩:Kerb.GotB) else if T.length=40 then ⟨[],0,105⟩ else ⟨[],0,101⟩).val,
     Zz Zw (if 0≤Yv 0 T then (⟨T.take (Yv 0 T).toNat,pos+Yv 0 T+1,0⟩:Kerb.GotB) else if T.length=40 then ⟨[],0,105⟩ else ⟨[],0,101⟩).next,
     Zz Zw (if 0≤Yv 0 T then (⟨T.take (Yv 0 T).toNat,pos+Yv 0 T+1,0⟩:Kerb.GotB) else if T.length=40 then ⟨[],0,105⟩ else ⟨[],0,101⟩).err],[]):=by
   have hTl:T.length≤b.length-pos.toNat:=by rw [hT];simp;omega
   by_cases hi:0≤Yv 0 T
   ·rw [sel_pos (by simpa using hi),chk_of (by simp;omega),if_pos hi,wrap_i64 (n:=pos+Yv 0 T) (by omega) (by omega),wrap_i64 (by omega) (by omega)]
    rfl
   ·rw [sel_neg (by simp;omega),if_neg hi]
    by_cases h40:T.length=40
    ·rw [sel_pos (by simp [h40]),if_pos h40]
    ·rw [sel_neg (by simp;omega),if_neg h40]
  by_cases hlong:40<R.length
  ·rw [sel_pos (by simp;omega),chk_of (by simp;omega)]
   have e1:Wu (Zv ((0:Nat):Int)) (Wz (Zv (40:Int)) R)=T:=by rw [hT];rfl
   rw [e1]
   rw [← hT]
   exact key
  ·rw [sel_neg (by simp;omega)]
   have e1:R=T:=by rw [hT,Wq (by omega)]
   rw [← hT,e1]
   exact key
 ·cases h
theorem w147:Walked Tryz.prog G 147 3 sp147:=by
 refine ⟨Tryz.f147,Tryz.func147,by decide +kernel,rfl,fun xs bl r h=> ?_⟩
 unfold sp147 at h
 split at h
 ·rename_i b s
  obtain ⟨hpre,h2⟩:=chk_inv h;cases h2
  refine Eq.trans (b:=(Zj (chk (decide (Zy (Xj b (Xj s ((0:UInt8)::Xj [] [])))≤140737488355328)&&decide (Zy [Zg b,Zg s,Zg [(0:UInt8)]]≤1000)) (some (Zm (Xj b (Xj s ((0:UInt8)::Xj [] []))),[]))) fun (r:AV×Blocks)=>onNilB (Zd r) (Xd (Yx r) fun l=>some (Zg l,[])):Option (AV×Blocks))) (by kernel_rfl) ?_
  simp only [decide_eq_true_eq] at hpre
  simp only [A0]
  rw [chk_of (by simp;omega)]
  simp [Wj]
 ·cases h
theorem w160:Walked Tryz.prog G 160 3 sp160:=by
 refine ⟨Tryz.f160,Tryz.func160,by decide +kernel,rfl,fun xs bl r h=> ?_⟩
 unfold sp160 at h
 split at h
 ·rename_i b n k little
  obtain ⟨hpre,h2⟩:=chk_inv h;cases h2
  refine Eq.trans (b:=(Zj (loopM (fun (st:List AV)=>cBs st fun b r=>cInt .i64 r fun n r=>cInt .i64 r fun n_1 r=>cBool r fun b_1 r=>cBs r fun c r=>cInt .i64 r fun n_2 r=>cInt .i64 r fun n_3 r=>let t0:Int:=Zx .i64 (Zx .i64 (n_1-1)-n_3);let t1:UInt8:=Yu (Zv (Zx .u8 (Wg n (2 ^ min (Zv (Zx .i64 (8*n_3))) (Zk .i64)))));onNil r (sel (decide (n_3<n_2)) (sel (!b_1) (chk (decide (0≤Zx .i64 (8*n_3))) (chk (decide (0≤t0)&&decide (t0<(↑(Zy c):Int))&&Xg (Zy c) 4&&true) (chk (Vd (Zv t0) (Zy c)&&true&&true&&true&&true) (some (Xf [Zg b,Zz .i64 n,Zz .i64 n_1,Zu b_1,Zg (List.set c (Zv t0) t1),Zz .i64 n_2,Zz .i64 (Zx .i64 (n_3+1))]))))) (chk (decide (0≤Zx .i64 (8*n_3))) (chk (decide (0≤n_3)&&decide (n_3<(↑(Zy c):Int))&&Xg (Zy c) 4&&true) (chk (Vd (Zv n_3) (Zy c)&&true&&true&&true&&true) (some (Xf [Zg b,Zz .i64 n,Zz .i64 n_1,Zu b_1,Zg (List.set c (Zv n_3) t1),Zz .i64 n_2,Zz .i64 (Zx .i64 (n_3+1))])))))) (some (Yh (Yg 0,[Zg b,Zz .i64 n,Zz .i64 n_1,Zu b_1,Zg c,Zz .i64 n_2,Zz .i64 n_3]))))) [Zg b,Zz .i64 n,Zz .i64 k,Zu little,Zg [(0:UInt8),(0:UInt8),(0:UInt8),(0:UInt8)],Zz .i64 k,Zz .i64 0]) fun (r:Ex×List AV)=>cBs (Zd r) fun b r_1=>cInt .i64 r_1 fun n r_2=>cInt .i64 r_2 fun n r_3=>cBool r_3 fun b_1 r_4=>cBs r_4 fun c r_5=>let t2:Nat:=Zy [Zg b,Zg (Wu (Zv (↑(0:Nat):Int)) (Wz (Zv n) c))];let t3:Nat:=Zy (Xj b (Xj (Wu (Zv (↑(0:Nat):Int)) (Wz (Zv n) c)) []));cInt .i64 r_5 fun n_1 r_6=>cInt .i64 r_6 fun n_2 r_7=>onNil r_7 (exK r.1 none fun (j:Nat)=>sel (Xg j 0) (chk (decide ((↑(0:Nat):Int)≤n)&&decide (n≤(↑(Zy c):Int))&&Xg (Zy c) 4) (Zj (chk (decide (t3≤140737488355328)&&decide (t2≤1000)) (some (Zm (Xj b (Xj (Wu (Zv (↑(0:Nat):Int)) (Wz (Zv n) c)) [])),[]))) (kO fun l=>some (Zm l,[])))) none):Option (AV×Blocks))) (by kernel_rfl) ?_
  delta kO
  try dsimp only [cStr,cBs,cBool,cU8,cInt,cSl,l63]
  simp only [Zp,decide_eq_true_eq] at hpre
  obtain ⟨hk,hb⟩:=hpre
  rcases hk with rfl | rfl | rfl<;>cases little
  ·refine loop_unroll 2 (Yg 0,[Zg b,Zz Zw n,Zz Zw 1,Zu false,Zg [Yp n 0,(0:UInt8),(0:UInt8),(0:UInt8)],Zz Zw 1,Zz Zw 1]) (by kernel_rfl) ?_
   simp only [A0]
   rw [sel_pos (Yz _),chk_of (by simp),chk_of (by simp;omega)]
   simp [Wh,Xz,Wm,Wy]
  ·refine loop_unroll 2 (Yg 0,[Zg b,Zz Zw n,Zz Zw 1,Zu true,Zg [Yp n 0,(0:UInt8),(0:UInt8),(0:UInt8)],Zz Zw 1,Zz Zw 1]) (by kernel_rfl) ?_
   simp only [A0]
   rw [sel_pos (Yz _),chk_of (by simp),chk_of (by simp;omega)]
   simp [Wh,Xz,Wm,Wy]
  ·refine loop_unroll 3 (Yg 0,[Zg b,Zz Zw n,Zz Zw 2,Zu false,Zg [Yp n 8,Yp n 0,(0:UInt8),(0:UInt8)],Zz Zw 2,Zz Zw 2]) (by kernel_rfl) ?_
   simp only [A0]
   rw [sel_pos (Yz _),chk_of (by simp),chk_of (by simp;omega)]
   simp [Wh,Xz,Wm,Wy]
  ·refine loop_unroll 3 (Yg 0,[Zg b,Zz Zw n,Zz Zw 2,Zu true,Zg [Yp n 0,Yp n 8,(0:UInt8),(0:UInt8)],Zz Zw 2,Zz Zw 2]) (by kernel_rfl) ?_
   simp only [A0]
   rw [sel_pos (Yz _),chk_of (by simp),chk_of (by simp;omega)]
   simp [Wh,Xz,Wm,Wy]
  ·refine loop_unroll 5 (Yg 0,[Zg b,Zz Zw n,Zz Zw 4,Zu false,Zg [Yp n 24,Yp n 16,Yp n 8,Yp n 0],Zz Zw 4,Zz Zw 4]) (by kernel_rfl) ?_
   simp only [A0]
   rw [sel_pos (Yz _),chk_of (by simp),chk_of (by simp;omega)]
   simp [Wh,Xz,Wm,Wy]
  ·refine loop_unroll 5 (Yg 0,[Zg b,Zz Zw n,Zz Zw 4,Zu true,Zg [Yp n 0,Yp n 8,Yp n 16,Yp n 24],Zz Zw 4,Zz Zw 4]) (by kernel_rfl) ?_
   simp only [A0]
   rw [sel_pos (Yz _),chk_of (by simp),chk_of (by simp;omega)]
   simp [Wh,Xz,Wm,Wy]
 ·cases h
theorem w171:Walked Tryz.prog G 171 3 sp171:=by
 refine ⟨Tryz.f171,Tryz.func171,by decide +kernel,rfl,fun xs bl r h=> ?_⟩
 unfold sp171 at h
 split at h
 ·rename_i k
  obtain ⟨hpre,h2⟩:=chk_inv h;cases h2
  refine Eq.trans (b:=(Zj (chk (decide (0≤k)&&decide (k<18446744073709551616)) (some (Zu (Yb k),[]))) fun (r:AV×Blocks)=>onNilB (Zd r) (Xh (Yx r) fun b=>sel (!b) (some (Zz .i64 0,[])) (some (Zz .i64 (Zx .i64 (Wg k (2 ^ min (Zv 56) (Zk .u64)))),[]))):Option (AV×Blocks))) (by kernel_rfl) ?_
  simp only [hpre,↓A0,A0]
  unfold Kerb.classOf
  cases hk:Yb k
  ·rfl
  simp only [Xu,Bool.not_false,sel_true,sel_false]
  simp only [Zp,decide_eq_true_eq] at hpre
  have h7:(min (Zv 56) (Zk .u64))=56:=rfl
  rw [h7,Int.fdiv_eq_ediv_of_nonneg _ (by decide),wrap_i64 (by omega) (by omega)]
  rfl
 ·cases h
theorem w176:Walked Tryz.prog G 176 3 sp176:=by
 refine ⟨Tryz.f176,Tryz.func176,by decide +kernel,rfl,fun xs bl r h=> ?_⟩
 unfold sp176 at h
 split at h
 ·rename_i b pos little
  obtain ⟨hpre,h2⟩:=chk_inv h;cases h2
  refine Eq.trans (b:=(Zj (chk (decide (Zy b≤4611686018427387904)&&true&&true) (some (Yy [Zz .i64 (Kerb.Got.val (Kerb.get b pos 4 little)),Zz .i64 (Kerb.Got.next (Kerb.get b pos 4 little)),Zz .i64 (Kerb.Got.err (Kerb.get b pos 4 little))],[]))) fun (r:AV×Blocks)=>onNilB (Zd r) (AV.onTup (Yx r) fun vs=>onCons vs fun x r=>Xk .i64 x fun n=>onCons r fun x r=>Xk .i64 x fun n_1=>onCons r fun x r=>Xk .i64 x fun n_2=>onNil r (some (Yy [Zz .i64 n,Zz .i64 n_1,Zz .i64 n_2],[]))):Option (AV×Blocks))) (by kernel_rfl) ?_
  simp only [A0]
  rw [chk_of (by rw [hpre];rfl)]
 ·cases h
theorem w182:Walked Tryz.prog G 182 3 sp182:=by
 refine ⟨Tryz.f182,Tryz.func182,by decide +kernel,rfl,fun xs bl r h=> ?_⟩
 unfold sp182 at h
 split at h
 ·rename_i s c
  cases h
  refine Eq.trans (b:=(some (Zz .i64 (Yv c s),[]):Option (AV×Blocks))) (by kernel_rfl) ?_
  rfl
 ·cases h
theorem w188:Walked Tryz.prog G 188 3 sp188:=by
 refine ⟨Tryz.f188,Tryz.func188,by decide +kernel,rfl,fun xs bl r h=> ?_⟩
 unfold sp188 at h
 split at h
 ·rename_i k
  obtain ⟨hpre,h2⟩:=chk_inv h;cases h2
  refine Eq.trans (b:=(Zj (chk (decide (0≤k)&&decide (k<18446744073709551616)) (some (Yy [Zz .i64 (bif Yb k then Kerb.keyClass k else 0),Zz .i64 (bif Yb k then Kerb.keySerial k else 0),Zu (Yb k)],[]))) fun (r:AV×Blocks)=>onNilB (Zd r) (AV.onTup (Yx r) fun vs=>onCons vs fun x r=>Xk .i64 x fun n=>onCons r fun x r=>Xk .i64 x fun n_1=>onCons r fun x r=>Xh x fun b=>onNil r (some (Zz .i64 n,[]))):Option (AV×Blocks))) (by kernel_rfl) ?_
  simp only [hpre,↓A0,A0]
  rfl
 ·cases h
theorem w30:Walked Tryz.prog G 30 4 sp30:=by
 refine ⟨Tryz.f30,Tryz.func30,by decide +kernel,rfl,fun xs bl r h=> ?_⟩
 unfold sp30 at h
 split at h
 ·rename_i l
  obtain ⟨hpre,h2⟩:=chk_inv h;cases h2
  refine Eq.trans (b:=(Zj (loopM (fun (st:List AV)=>cBs st fun b r=>cInt .i64 r fun n r=>onCons r fun x r=>AV.onOwnL x fun b_1=>let t0:Option (List AV ⊕ Ex×List AV):=some (Yh (Yg 0,[Zg b,Zz .i64 n,AV.ownL b_1]));onNil r (sel (decide (n<(↑(Zy b):Int))) (sel (decide ((↑(Zy b_1):Int)<70)) (Zj (chk (decide (Zy b≤4611686018427387904)&&decide (0≤n)) (some (Zz .i64 (Kerb.next b n 9),[[Zg b,Zz .i64 (Vq b n 9)]]))) fun (r:AV×Blocks)=>onConsB (Zd r) fun (x:List AV) (r_1:List (List AV))=>cBs x fun b r_2=>cInt .i64 r_2 fun n r_3=>onNil r_3 (onNilB r_1 (Xk .i64 (Yx r) fun n_1=>Zj (chk (decide (0≤n_1)&&decide (n_1≤4611686018427387904)) (some (Wd [Zq (Kerb.Prin.name (Vz n_1)),Zq (Kerb.Prin.inst (Vz n_1)),Zq (Kerb.Prin.realm (Vz n_1))],[]))) (kA fun cs=>cStr cs fun b_2 r=>cStr r fun b_3 r=>cStr r fun b_4 r=>onNil r (Zj (chk (decide (Zy b≤4611686018427387904)&&decide (0≤n)) (some (Zz .i64 (Kerb.next b n 5),[[Zg b,Zz .i64 (Vq b n 5)]]))) fun (r:AV×Blocks)=>onConsB (Zd r) fun (x:List AV) (r_4:List (List AV))=>cBs x fun b r_5=>cInt .i64 r_5 fun n r_6=>onNil r_6 (onNilB r_4 (Xk .i64 (Yx r) fun n_2=>Zj (chk (decide (Zy b≤4611686018427387904)&&decide (0≤n)) (some (Zz .i64 (Kerb.next b n 40),[[Zg b,Zz .i64 (Vq b n 40)]]))) fun (r:AV×Blocks)=>onConsB (Zd r) fun (x:List AV) (r_7:List (List AV))=>cBs x fun b r_8=>cInt .i64 r_8 fun n r_9=>onNil r_9 (onNilB r_7 (Xk .i64 (Yx r) fun n_3=>Zj (chk (decide (0≤n_3)&&decide (n_3≤1000)) (some (Zz .u64 (Kerb.long n_3),[]))) (kI .u64 fun n_4=>let t1:List AV:=[Wd [Zq b_2,Zq b_3,Zq b_4,Zz .i64 n_2,Zz .u64 n_4]];chk (room (Zy b_1+Zy t1) (nat_lit 64)) (some (Xf [Zg b,Zz .i64 n,AV.ownL (b_1++t1)])))))))))))) t0) t0)) [Zg l,Zz .i64 0,AV.ownL []]) fun (r:Ex×List AV)=>cBs (Zd r) fun b r_1=>cInt .i64 r_1 fun n r_2=>onCons r_2 fun x r_3=>AV.onOwnL x fun b=>onNil r_3 (exK r.1 none fun (j:Nat)=>sel (Xg j 0) (some (Zn 5 b,[])) none):Option (AV×Blocks))) (by kernel_rfl) ?_
  delta kA kI
  try dsimp only [cStr,cBs,cBool,cU8,cInt,cSl,l63]
  have hl:=of_decide_eq_true hpre
  have c:decide (l.length≤4611686018427387904)=true:=by simp;omega
  have r64:∀ {m:Nat},m≤1000→Go.Abs.room m 64=true:=fun h=>by simp [Go.Abs.room];omega
  refine loop_rounds (fun q:Nat×Int×List Kerb.SKey=>[Zg l,Zz Zw q.2.1,AV.ownL (q.2.2.map Yj)]) (fun q=>(l.length:Int)<q.1+q.2.1∧0≤q.2.1∧q.2.2.length≤70∧Kerb.keysLoop l q.1 q.2.1 q.2.2=Kerb.dataKeys l) (fun q=>q.1)
   (fun r=>∃ p:Int,r=(Yg 0,[Zg l,Zz Zw p,AV.ownL ((Kerb.dataKeys l).map Yj)])) (l.length+1,0,[]) ⟨by dsimp only;omega,by simp,by simp,rfl⟩ rfl ?_ ?_
  ·rintro ⟨f,p,acc⟩ ⟨hf,hp,ha,he⟩
   dsimp only at hf hp ha he
   simp (config:={maxSteps:=10000000}) only [Yd,↓sInt,↓sU8,↓sBool,↓sStr,↓sBs,↓sSl,↓sAgg,↓sTup,↓sCons,↓sNil,↓sNilB,↓sChk,↓sChkBind,↓sSome,↓sOwnL,↓sConsB,↓sOwnB]
   have h0:∀ n,Vq l p n=Vq l p n:=fun _=>rfl
   have cp:decide ((0:Int)≤p)=true:=by simpa using hp
   by_cases h1:p<l.length
   case neg =>
    rw [sel_neg (by simpa using h1)]
    have hk:acc=Kerb.dataKeys l:=by
     cases f with
     | zero=>exact he
     | succ g=>rw [← he];unfold Kerb.keysLoop;rw [if_neg (by omega)]
    exact ⟨_,rfl,p,by rw [← hk]⟩
   rw [sel_pos (by simpa using h1)]
   by_cases h2:acc.length<70
   case neg =>
    rw [sel_neg (by simp;omega)]
    have hk:acc=Kerb.dataKeys l:=by
     cases f with
     | zero=>exact he
     | succ g=>rw [← he];unfold Kerb.keysLoop;rw [if_neg (by omega)]
    exact ⟨_,rfl,p,by rw [← hk]⟩
   rw [sel_pos (by simp;omega)]
   obtain ⟨g,rfl⟩:∃ g,f=g+1:=⟨f-1,by omega⟩
   unfold Kerb.keysLoop at he
   rw [if_pos ⟨h1,h2⟩] at he
   have hg:=Kerb.kq3_gt hp h1
   simp (config:={maxSteps:=10000000}) only [c,cp,Kerb.next_dec,Kerb.next_dec62,Kerb.next_dec1000,Kerb.nextPos_dec,Vb,List.length_cons,List.length_nil,↓sInt,↓sU8,↓sBool,↓sStr,↓sBs,↓sSl,↓sAgg,↓sTup,↓sCons,↓sNil,↓sNilB,↓sChk,↓sChkBind,↓sSome,↓sOwnL,↓sConsB,↓sOwnB]
   rw [chk_of (r64 (by omega))]
   refine ⟨_,rfl,(g,Kerb.kq3 l p,acc++[Kerb.dataKey l p]),?_,⟨by dsimp only;push_cast at hf;omega,by dsimp only;omega,by dsimp only;simp;omega,he⟩,by simp⟩
   dsimp only
   rw [List.map_append]
   rfl
  ·rintro _ ⟨p,rfl⟩
   simp only [↓A0,A0]
   rw [sel_pos (Yz _)]
 ·cases h
theorem w32:Walked Tryz.prog G 32 4 sp32:=by
 refine ⟨Tryz.f32,Tryz.func32,by decide +kernel,rfl,fun xs bl r h=> ?_⟩
 unfold sp32 at h
 split at h
 ·rename_i cu co cv cr lt tn mt cad cfr cis ctm ctk clf ccs cky ckv css ctt cau
  cases h
  refine Eq.trans (b:=(Zj (chk (decide (0≤Zf (Zx .i64 (↑(Yf cv):Int)) 6)&&decide (Zf (Zx .i64 (↑(Yf cv):Int)) 6≤4611686018427387904)) (some (Wd [Zq (Kerb.Prin.name (Vz (Zf (Zx .i64 (↑(Yf cv):Int)) 6))),Zq (Kerb.Prin.inst (Vz (Zf (Zx .i64 (↑(Yf cv):Int)) 6))),Zq (Kerb.Prin.realm (Vz (Zf (Zx .i64 (↑(Yf cv):Int)) 6)))],[]))) fun (r:AV×Blocks)=>onNilB (Zd r) (Wp (Yx r) fun cs=>onCons cs fun x r=>Wv x fun b=>onCons r fun x r=>Wv x fun b_1=>onCons r fun x r=>Wv x fun b_2=>onNil r (some (Wd [Zq b,Zq b_1,Zq b_2],[]))):Option (AV×Blocks))) (by kernel_rfl) ?_
  have b:=Kerb.u8i_bd cv
  have f1:Zf (Kerb.u8i cv) 6=Kerb.u8i cv % 6:=Yn b.1
  simp only [Kerb.wrap_u8i,f1,↓A0,A0]
  rw [chk_of (by simp;omega)]
  rfl
 ·cases h
theorem w46:Walked Tryz.prog G 46 4 sp46:=by
 refine ⟨Tryz.f46,Tryz.func46,by decide +kernel,rfl,fun xs bl r h=> ?_⟩
 unfold sp46 at h
 split at h
 ·rename_i ali b1 b2 b3 aad ak alf ais asv ain x y z ck tc tm src now skw
  cases h
  refine Eq.trans (b:=(sel (!(b1==x&&(b2==y&&b3==z))) (some (Zz .i64 36,[])) (sel (!src==aad) (some (Zz .i64 38,[])) (sel (!Kerb.near tm now skw) (some (Zz .i64 37,[])) (some (Zz .i64 (Kerb.stateErr ais alf now skw),[])))):Option (AV×Blocks))) (by kernel_rfl) ?_
  unfold Kerb.judge
  cases h1:Kerb.Prin.eqb ⟨b1,b2,b3⟩ ⟨x,y,z⟩
  ·have h1':(b1==x&&(b2==y&&b3==z))=false:=h1
   rw [if_pos rfl,h1'];rfl
  have h1':(b1==x&&(b2==y&&b3==z))=true:=h1
  rw [if_neg (by simp),h1',Xu,sel_false]
  by_cases h2:src=aad
  case neg=>rw [sel_pos (by simpa using h2),if_pos h2]
  rw [sel_neg (by simpa using h2),if_neg (by simpa using h2)]
  cases h3:Kerb.near tm now skw
  ·rfl
  ·rw [if_neg (by simp)];rfl
 ·cases h
theorem w56:Walked Tryz.prog G 56 4 sp56:=by
 refine ⟨Tryz.f56,Tryz.func56,by decide +kernel,rfl,fun xs bl r h=> ?_⟩
 unfold sp56 at h
 split at h
 ·rename_i kd k bd
  obtain ⟨hpre,h2⟩:=chk_inv h;cases h2
  refine Eq.trans (b:=(let t0:List UInt8:=[Yu (Zv (Zx .u8 (Wg (↑(Zy bd):Int) (2 ^ min (Zv 8) (Zk .i64))))),Yu (Zv (Zx .u8 (↑(Zy bd):Int)))];let t1:List UInt8:=Xn (Zv 0) (0:UInt8)++[(66:UInt8),Yu (Zv (Zx .u8 kd))];let t2:Int:=Zx .i64 (12+(↑(Zy bd):Int));sel (!Xx kd) (some (Yy [Zg [],Zz .i64 104],[])) (Zj (chk (decide (0≤k)&&decide (k<18446744073709551616)) (some (Zu (Yb k),[]))) (kL fun b=>sel (!b) (some (Yy [Zg [],Zz .i64 10],[])) (sel (decide ((↑(Zy bd):Int)>1000)) (some (Yy [Zg [],Zz .i64 105],[])) (chk (decide (0≤t2)&&decide (t2≤140737488355328)) (chk (room (Zy (Xn (Zv 0) (0:UInt8))+Zy [(66:UInt8),Yu (Zv (Zx .u8 kd))]) 1) (Zj (chk (decide (0≤k)&&decide (k<18446744073709551616)) (some (Zg (Kerb.keyBytes k),[]))) (kB fun b=>chk (room (Zy t1+Zy b) 1) (chk (room (Zy (t1++b)+Zy t0) 1) (chk (room (Zy (t1++b++t0)+Zy bd) 1) (some (Yy [Zg (t1++b++t0++bd),Zz .i64 0],[]))))))))))):Option (AV×Blocks))) (by kernel_rfl) ?_
  delta kB kL
  try dsimp only [cStr,cBs,cBool,cU8,cInt,cSl,l63]
  simp only [A0,Kerb.Client.av,Kerb.Cache.av,Kerb.Cred.av,hpre]
  unfold Kerb.makeBox
  cases h1:Xx kd
  ·rfl
  rw [Xu,sel_false,if_neg (by simp)]
  cases h2:Yb k
  ·rfl
  rw [Xu,sel_false,if_neg (by simp)]
  by_cases h3:1000<bd.length
  ·rw [sel_pos (by simp;omega),if_pos h3]
  have hk:1≤kd∧kd≤10:=by simp [Xx] at h1;omega
  have lk:=Kerb.keyBytes_len k
  rw [sel_neg (by simp;omega),if_neg h3,wrap_i64 (by omega) (by omega),chk_of (by simp;omega),chk_of (Zh (by simp)),chk_of (Zh (by simp;omega)),chk_of (Zh (by simp;omega)),chk_of (Zh (by simp;omega)),Kerb.two_bytes,Kerb.wrap_u8,Int.emod_eq_of_lt (by omega) (by omega)]
  rfl
 ·cases h
end Go.Proofs.YtiplnpablmohiaaGreat
