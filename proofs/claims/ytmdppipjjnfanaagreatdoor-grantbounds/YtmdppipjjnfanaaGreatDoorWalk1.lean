/- What the functions of this seat compute. -/
import Derived.Test.YtmdppipjjnfanaaGreatDoorTab
import Derived.Test.YtmdppipjjnfanaaGreatDoorKerbPlain
import Derived.Test.YtmdppipjjnfanaaGreatDoorAbsStep
import Derived.Test.YtmdppipjjnfanaaGreatDoorKerbCli3
import Derived.Test.YtmdppipjjnfanaaGreatDoorKerbCli4
import Derived.Test.YtmdppipjjnfanaaGreatDoorKerbCli5
import Derived.Test.YtmdppipjjnfanaaGreatDoorKerbSrvL
import Derived.Test.YtmdppipjjnfanaaGreatDoorKerbKac2
import Derived.Test.YtmdppipjjnfanaaGreatDoorKerbKac4
import Derived.Test.YtmdppipjjnfanaaGreatDoorKerbSrvB
import Derived.Test.YtmdppipjjnfanaaGreatDoorKerbVerL
import Derived.Test.YtmdppipjjnfanaaGreatDoorKerbVerL
import Derived.Test.YtmdppipjjnfanaaGreatDoorKerbAuthL
import Derived.Test.YtmdppipjjnfanaaGreatDoorKerbGrtL
open Go.Abs.AV renaming int→Zz,bool→Zv,str→Zq,sl→Zf,bs→Zn,tup→Yx,ownB→Yw,onInt→Yh,undef→Xq,onStr→Xd,onOwnB→Xn,agg→Wp,onAgg→Vz
open Go.IntKind renaming wrap→Zy,i64→Zw,bits→Zk,u64→Yb
open List renaming length→Zx,getD→Zb,take_of_length_le→Zm,drop_eq_nil_of_le→Yg,length_map→Xv,take→Wn,drop→Wm
open Int renaming toNat→Zu,toNat_natCast→Zg,tmod→Yy,tmod_eq_emod_of_nonneg→Yf,tdiv_eq_ediv_of_nonneg→Xy,tdiv→Xu
open Option renaming bind→Zj
open Bool renaming and_eq_true→Zp
open Prod renaming snd→Zd,fst→Yv
open UInt8 renaming toNat→Zh,ofNat→Yk
open Kerb renaming within→Yz,room_ok→Xz,text→Xw,room→Xk,printable→Xp,bfd→Xg,readHead→Xb,isKind→Xm,keyValid→Xh,bytes→Wy,nextPos→Wx,crossAt→Ww,next→Wu,least→Wq,isSerial→Wj,noSKey→Wk,putText→Wd,noCross→Wf,isClass→Wg,indexOf→Wb,realm→Wh
open Kerb.Entry renaming named→Yu
open Nat renaming beq_refl→Yq,zero_le→Ym,beq→Xj
open Go.Abs.Ex renaming exit→Yj
open Sum renaming inr→Yp,inl→Yn
open Kerb.Cross renaming av→Yd
open Kerb.SKey renaming av→Xx
open Kerb.GotB renaming err→Xf,next→Wz,val→Wv
namespace Go.Proofs.YtmdppipjjnfanaaGreatDoor
open Go Go.Abs Go.Proofs
set_option linter.unusedVariables false
set_option linter.unusedSimpArgs false
set_option maxRecDepth 100000
theorem w9:Walked Tryz.prog G 9 1 sp9:=by
 refine ⟨Tryz.f9,Tryz.func9,by decide +kernel,rfl,fun xs bl r h=> ?_⟩
 unfold sp9 at h
 split at h
 ·rename_i n
  obtain ⟨hpre,h2⟩:=chk_inv h;cases h2
  refine Eq.trans (b:=(some (Zz .u64 (Zy .u64 (↑(BitVec.toNat (BitVec.ofInt (Zk .u64) 144115188075855872 ||| BitVec.ofInt (Zk .u64) (Zy .u64 (Zy .i64 (1+n))))):Int)),[]):Option (AV×Blocks))) (by kernel_rfl) ?_
  rfl
 ·cases h
theorem w11:Walked Tryz.prog G 11 1 sp11:=by
 refine ⟨Tryz.f11,Tryz.func11,by decide +kernel,rfl,fun xs bl r h=> ?_⟩
 unfold sp11 at h
 split at h
 ·rename_i kls jls
  obtain ⟨hpre,h2⟩:=chk_inv h;cases h2
  refine Eq.trans (b:=(sel (!(↑(Zx kls):Int)==(↑(Zx jls):Int)) (some (Zv false,[])) (Zj (loopM (fun (st:List AV)=>cSl 5 st fun b r=>cSl 5 r fun b_1 r=>cBool r fun b_2 r=>cInt .i64 r fun n r=>onNil r (sel (decide (n<(↑(Zx b):Int))) (chk (decide (0≤n)&&decide (n<(↑(Zx b):Int))&&true) (Vz (Zb b (Zu n) Xq) fun cs=>cStr cs fun b_3 r=>cStr r fun b_4 r=>cStr r fun b_5 r=>cInt .i64 r fun n_1 r=>cInt .u64 r fun n_2 r=>onNil r (chk (decide (0≤n)&&decide (n<(↑(Zx b_1):Int))&&true) (Vz (Zb b_1 (Zu n) Xq) fun cs=>cStr cs fun b_6 r=>cStr r fun b_7 r=>cStr r fun b_8 r=>cInt .i64 r fun n_3 r=>cInt .u64 r fun n_4 r=>onNil r (sel (!(b_3==b_6&&(b_4==b_7&&(b_5==b_8&&(n_1==n_3&&n_2==n_4))))) (some (Yp (Ex.ret,[Zf 5 b,Zf 5 b_1,Zv false,Zz .i64 n]))) (some (Yn [Zf 5 b,Zf 5 b_1,Zv b_2,Zz .i64 (Zy .i64 (n+1))]))))))) (some (Yp (Yj 0,[Zf 5 b,Zf 5 b_1,Zv b_2,Zz .i64 n]))))) [Zf 5 kls,Zf 5 jls,Zv false,Zz .i64 0]) fun (r:Ex×List AV)=>cSl 5 (Zd r) fun b r_1=>cSl 5 r_1 fun b r_2=>cBool r_2 fun b r_3=>cInt .i64 r_3 fun n r_4=>onNil r_4 (exK r.1 (some (Zv b,[])) fun (j:Nat)=>sel (Xj j 0) (some (Zv true,[])) none)):Option (AV×Blocks))) (by kernel_rfl) ?_
  try dsimp only [cStr,cBs,cBool,cU8,cInt,cSl,l63]
  simp only [Zp,decide_eq_true_eq] at hpre
  obtain ⟨⟨h1a,hlen⟩,h1b⟩:=hpre
  obtain ⟨cs,rfl,hok⟩:=Kerb.skeys_of h1a
  obtain ⟨ds,rfl,hokd⟩:=Kerb.skeys_of h1b
  simp only [Kerb.map_toSKey,Xv] at hlen ⊢
  by_cases hl:cs.length=ds.length
  case neg =>
   rw [sel_pos (by simp;omega),Kerb.sameSKeys_len hl]
   try rfl
  rw [sel_neg (by simp;omega)]
  refine loop_rounds (fun i:Nat=>[Zf 5 (cs.map Xx),Zf 5 (ds.map Xx),Zv false,Zz Zw (i:Int)]) (fun i=>i≤cs.length∧Kerb.sameSKeys cs ds=Kerb.sameSKeys (cs.drop i) (ds.drop i)) (fun i=>cs.length-i)
   (fun r=>∃ (i:Nat) (q:Bool),r.2=[Zf 5 (cs.map Xx),Zf 5 (ds.map Xx),Zv q,Zz Zw (i:Int)]∧((r.1 = .ret∧q=false∧Kerb.sameSKeys cs ds=false)∨(r.1 = .exit 0∧Kerb.sameSKeys cs ds=true))) 0 ⟨Ym _,by simp⟩ rfl ?_ ?_
  ·rintro i ⟨hi,hp⟩
   simp only [↓A0,A0,Xv]
   by_cases hlt:i<cs.length
   ·have hlt2:i<ds.length:=by omega
    have hs:=Kerb.sameSKeys_step hlt hlt2
    have hg:(cs.map Xx).getD i Xq=(cs.getD i Wk).av:=Kerb.getD_row hlt
    have hg2:(ds.map Xx).getD i Xq=(ds.getD i Wk).av:=Kerb.getD_row hlt2
    have hk1:(decide ((0:Int)≤(i:Int))&&decide ((i:Int)<(cs.length:Int))&&true)=true:=by simp;omega
    have hk2:(decide ((0:Int)≤(i:Int))&&decide ((i:Int)<(ds.length:Int))&&true)=true:=by simp;omega
    obtain ⟨c,hc⟩:∃ c,cs.getD i Wk=c:=⟨_,rfl⟩
    obtain ⟨d,hd⟩:∃ d,ds.getD i Wk=d:=⟨_,rfl⟩
    rw [hc] at hg hs
    rw [hd] at hg2 hs
    rw [sel_pos (by simp;omega)]
    simp only [hk1,hk2,Zg,hg,hg2,Xx,↓A0,A0]
    rw [wrap_i64 (by omega) (by omega)]
    show ∃ y,sel (!(c.eqb d)) _ _=some y∧_
    cases he:c.eqb d
    ·rw [he,Bool.false_and] at hs
     exact ⟨_,rfl,i,_,rfl,.inl ⟨rfl,rfl,hp.trans hs⟩⟩
    ·rw [he,Bool.true_and] at hs
     exact ⟨_,rfl,i+1,rfl,⟨by omega,hp.trans hs⟩,by dsimp only;omega⟩
   ·rw [sel_neg (by simp;omega)]
    refine ⟨_,rfl,i,_,rfl,.inr ⟨rfl,?_⟩⟩
    rw [hp,Yg (by omega),Yg (by omega)]
    rfl
  ·rintro ⟨e,l⟩ ⟨i,q,rfl,⟨rfl,rfl,h⟩ | ⟨rfl,h⟩⟩
   ·simp only [↓A0,A0,h]
    try rfl
   ·simp only [↓A0,A0,h]
    rw [sel_pos (Yq _)]
    try rfl
 ·cases h
theorem w20:Walked Tryz.prog G 20 1 sp20:=by
 refine ⟨Tryz.f20,Tryz.func20,by decide +kernel,rfl,fun xs bl r h=> ?_⟩
 unfold sp20 at h
 split at h
 ·rename_i n
  obtain ⟨hpre,h2⟩:=chk_inv h;cases h2
  refine Eq.trans (b:=(some (Zz .u64 (Zy .u64 (↑(BitVec.toNat (BitVec.ofInt (Zk .u64) 72057594037927936 ||| BitVec.ofInt (Zk .u64) (Zy .u64 (Zy .i64 (1+n))))):Int)),[]):Option (AV×Blocks))) (by kernel_rfl) ?_
  rfl
 ·cases h
theorem w28:Walked Tryz.prog G 28 1 sp28:=by
 refine ⟨Tryz.f28,Tryz.func28,by decide +kernel,rfl,fun xs bl r h=> ?_⟩
 unfold sp28 at h
 split at h
 ·rename_i r t
  cases h
  refine Eq.trans (b:=(some (Wp [Zq [(107:UInt8),(114:UInt8),(98:UInt8),(116:UInt8),(103:UInt8),(116:UInt8)],Zq t,Zq r],[]):Option (AV×Blocks))) (by kernel_rfl) ?_
  rfl
 ·cases h
theorem w33:Walked Tryz.prog G 33 1 sp33:=by
 refine ⟨Tryz.f33,Tryz.func33,by decide +kernel,rfl,fun xs bl r h=> ?_⟩
 unfold sp33 at h
 split at h
 ·rename_i b how
  obtain ⟨hpre,h2⟩:=chk_inv h;cases h2
  refine Eq.trans (b:=(let t0:Int:=Yy (Zy .i64 (Zy .u16 (Xu how 8))) (↑(Zx b):Int);chk (room (Zx b) 1) (sel ((↑(Zx b):Int)==0) (some (Zn b,[])) (chk (!(↑(Zx b):Int)==0) (sel (Yy how 4==0) (chk (decide (0≤t0)&&decide (t0<(↑(Zx b):Int))) (chk (Nat.blt (Zu t0) (Zx b)&&true&&true&&true) (chk (decide (0≤Zy .u64 (Yy how 7))) (chk (decide (0≤t0)&&decide (t0<(↑(Zx b):Int))) (chk (Nat.blt (Zu t0) (Zx b)&&true&&true&&true&&true) (some (Zn (List.set b (Zu t0) (Yk (Zu (Zy .u8 (↑(BitVec.toNat (BitVec.ofInt (Zk .u8) (↑(Zh (Zb b (Zu t0) (0:UInt8))):Int) ^^^ BitVec.ofInt (Zk .u8) (↑(Zh (Yk (Zu (Zy .u8 ((↑(Zh (1:UInt8)):Int)*2 ^ min (Zu (Zy .u64 (Yy how 7))) 8))))):Int))):Int))))),[]))))))) (sel (Yy how 4==1) (chk (decide (0≤t0)&&decide (t0≤(↑(Zx b):Int))&&Nat.blt 0 (Zx b)&&true) (chk (decide (0≤Zy .i64 (t0+1))&&decide (Zy .i64 (t0+1)≤(↑(Zx b):Int))&&Nat.blt 0 (Zx b)&&true) (chk (Nat.blt 0 (Zx b)&&true&&true&&true&&room (Zu t0+(Zx b-Zu (Zy .i64 (t0+1)))) 1) (some (Zn (Wn (Zu t0) b++Wm (Zu (Zy .i64 (t0+1))) b),[]))))) (sel (Yy how 4==2) (chk (room (Zx b+Zx [Yk (Zu (Zy .u8 how))]) 1) (some (Zn (b++[Yk (Zu (Zy .u8 how))]),[]))) (some (Zn b,[]))))))):Option (AV×Blocks))) (by kernel_rfl) ?_
  try dsimp only [cStr,cBs,cBool,cU8,cInt,cSl,l63]
  simp only [Zp,decide_eq_true_eq] at hpre
  obtain ⟨⟨hb,h0⟩,h1⟩:=hpre
  rw [chk_of (Xz (by omega))]
  unfold Kerb.spoil
  by_cases hn:b=[]
  ·subst hn;rfl
  have hpos:0<b.length:=List.length_pos_iff.2 hn
  rw [if_neg hn,sel_neg (by simp;omega),chk_of (by simp;omega)]
  have e:Yy (Zy Zw (Zy IntKind.u16 (Xu how (8:Int)))) (b.length:Int)=Kerb.spoilAt b how:=rfl
  rw [e]
  obtain ⟨ha,hc⟩:=Kerb.spoilAt_bd h0 h1 hpos
  generalize Kerb.spoilAt b how=a at ha hc ⊢
  have hd:(decide ((0:Int)≤a)&&decide (a<(b.length:Int)))=true:=by simp;omega
  have hbl:Nat.blt a.toNat b.length=true:=Nat.ble_eq_true_of_le (by omega)
  have hbl0:Nat.blt 0 b.length=true:=Nat.ble_eq_true_of_le (by omega)
  have h7:decide ((0:Int)≤Zy Yb (Yy how (7:Int)))=true:=by rw [Kerb.wrap_u64];simp;omega
  by_cases c0:Yy how 4=0
  ·rw [if_pos c0,sel_pos (by simpa using c0),chk_of hd,chk_of (by rw [hbl];rfl),chk_of h7,chk_of hd,chk_of (by rw [hbl];rfl)]
  rw [if_neg c0,sel_neg (by simpa using c0)]
  by_cases c1:Yy how 4=1
  ·rw [if_pos c1,sel_pos (by simpa using c1),wrap_i64 (n:=a+1) (by omega) (by omega),chk_of (by rw [hbl0];simp;omega),chk_of (by rw [hbl0];simp;omega),chk_of (by rw [hbl0,Xz (by omega)];rfl)]
  rw [if_neg c1,sel_neg (by simpa using c1)]
  by_cases c2:Yy how 4=2
  ·rw [if_pos c2,sel_pos (by simpa using c2),chk_of (Xz (by simp;omega))]
  ·rw [if_neg c2,sel_neg (by simpa using c2)]
 ·cases h
theorem w48:Walked Tryz.prog G 48 1 sp48:=by
 refine ⟨Tryz.f48,Tryz.func48,by decide +kernel,rfl,fun xs bl r h=> ?_⟩
 unfold sp48 at h
 split at h
 ·rename_i rl els n i
  obtain ⟨hpre,h2⟩:=chk_inv h;cases h2
  refine Eq.trans (b:=(Zj (loopM (fun (st:List AV)=>cStr st fun b r=>cStr r fun b_1 r=>cInt .i64 r fun n r=>cInt .i64 r fun n_1 r=>cInt .i64 r fun n_2 r=>cBool r fun b_2 r=>cSl 9 r fun b_3 r=>cInt .i64 r fun n_3 r=>cInt .i64 r fun n_4 r=>let t1:List AV:=[Zz .i64 n_2,Zv b_2,Zf 9 b_3,Zz .i64 n_3,Zz .i64 n_4];let t2:List AV:=[Zf 9 b_3,Zz .i64 n_3,Zz .i64 (Zy .i64 (n_4+1))];let t0:Option (List AV ⊕ Ex×List AV):=some (Yn (Zq b::Zq b_1::Zz .i64 n::Zz .i64 n_1::Zz .i64 n_2::Zv b_2::t2));onNil r (sel (decide (n_4<n_3)) (chk (decide (0≤n_4)&&decide (n_4<(↑(Zx b_3):Int))&&true) (Vz (Zb b_3 (Zu n_4) Xq) fun cs=>cStr cs fun b_4 r=>cStr r fun b_5 r=>cInt .u64 r fun n_5 r=>cInt .i64 r fun n_6 r=>cInt .i64 r fun n_7 r=>cInt .i64 r fun n_8 r=>cInt .i64 r fun n_9 r=>cInt .i64 r fun n_10 r=>cInt .i64 r fun n_11 r=>onNil r (sel (!b_4==b) t0 (sel (!b_5==b_1) t0 (sel b_2 (some (Yp (Ex.ret,Zq b::Zq b_1::Zz .i64 0::Zz .i64 9::t1))) (some (Yn (Zq b::Zq b_1::Zz .i64 n::Zz .i64 n_1::Zz .i64 n_4::Zv true::t2)))))))) (some (Yp (Yj 0,Zq b::Zq b_1::Zz .i64 n::Zz .i64 n_1::t1))))) [Zq n,Zq i,Zz .i64 0,Zz .i64 0,Zz .i64 0,Zv false,Zf 9 els,Zz .i64 (↑(Zx els):Int),Zz .i64 0]) fun (r:Ex×List AV)=>cStr (Zd r) fun b r_1=>cStr r_1 fun b r_2=>cInt .i64 r_2 fun n r_3=>cInt .i64 r_3 fun n_1 r_4=>cInt .i64 r_4 fun n_2 r_5=>cBool r_5 fun b r_6=>cSl 9 r_6 fun b_1 r_7=>cInt .i64 r_7 fun n_3 r_8=>cInt .i64 r_8 fun n_4 r_9=>onNil r_9 (exK r.1 (some (Yx [Zz .i64 n,Zz .i64 n_1],[])) fun (j:Nat)=>sel (Xj j 0) (sel (!b) (some (Yx [Zz .i64 0,Zz .i64 8],[])) (some (Yx [Zz .i64 n_2,Zz .i64 0],[]))) none):Option (AV×Blocks))) (by kernel_rfl) ?_
  try dsimp only [cStr,cBs,cBool,cU8,cInt,cSl,l63]
  simp only [Zp,decide_eq_true_eq] at hpre
  obtain ⟨hall,hlen⟩:=hpre
  obtain ⟨es,rfl,hok⟩:=Kerb.ents_of hall
  rw [Kerb.map_toEntry]
  simp only [Xv] at hlen ⊢
  refine loop_rounds (fun q:Nat×Int×Bool=>[Zq n,Zq i,Zz Zw 0,Zz Zw 0,Zz Zw q.2.1,Zv q.2.2,Zf 9 (es.map Kerb.Entry.av),Zz Zw (es.length:Int),Zz Zw (q.1:Int)])
   (fun q=>q.1≤es.length∧((q.2.2=false∧(es.take q.1).countP (Yu n i)=0)∨(q.2.2=true∧(es.take q.1).countP (Yu n i)=1∧q.2.1=(es.findIdx (Yu n i):Int)))) (fun q=>es.length-q.1)
   (fun r=>∃ (a b c:Int) (d:Bool) (j:Nat),r.2=[Zq n,Zq i,Zz Zw a,Zz Zw b,Zz Zw c,Zv d,Zf 9 (es.map Kerb.Entry.av),Zz Zw (es.length:Int),Zz Zw (j:Int)]∧((r.1 = .ret∧(a,b)=Kerb.findEnt es n i)∨(r.1 = .exit 0∧((d=false∧(0,8)=Kerb.findEnt es n i)∨(d=true∧(c,0)=Kerb.findEnt es n i))))) (0,0,false) ⟨Ym _,.inl ⟨rfl,rfl⟩⟩ rfl ?_ ?_
  ·rintro ⟨j,c,d⟩ ⟨hj,hinv⟩
   simp only at hj hinv
   simp only [↓A0,A0]
   rcases Nat.lt_or_ge j es.length with h | h
   ·have hc:=Kerb.count_take (p:=Yu n i) h
    have hle:=Kerb.count_le (p:=Yu n i) (es:=es) (j+1)
    rw [sel_pos (by simp;omega),chk_of (by simp;omega),Zg,Kerb.getD_ent h]
    have hx:=Kerb.find_first (p:=Yu n i) h
    generalize es.getD j Kerb.noEntry=e at hc hx
    simp only [Kerb.Entry.av,↓A0,A0]
    rw [wrap_i64 (by omega) (by omega)]
    by_cases h1:e.name=n
    ·by_cases h2:e.inst=i
     ·have hp:Yu n i e=true:=by simp [Yu,h1,h2]
      rw [hp,cond_true] at hc
      rw [sel_neg (by simp [h1]),sel_neg (by simp [h2])]
      rcases hinv with ⟨rfl,h0⟩ | ⟨rfl,h0,h3⟩
      ·refine ⟨_,rfl,(j+1,(j:Int),true),rfl,⟨by simp only;omega,.inr ⟨rfl,by simp only;omega,by rw [hx h0 hp]⟩⟩,by simp only;omega⟩
      ·refine ⟨_,rfl,0,9,c,true,j,rfl,.inl ⟨rfl,?_⟩⟩
       unfold Kerb.findEnt
       rw [if_neg (by omega),if_pos (by omega)]
     ·have hp:Yu n i e=false:=by simp [Yu,h2]
      rw [hp,cond_false] at hc
      rw [sel_neg (by simp [h1]),sel_pos (by simpa using h2)]
      exact ⟨_,rfl,(j+1,c,d),rfl,⟨by simp only;omega,by simp only;rw [hc];simpa using hinv⟩,by simp only;omega⟩
    ·have hp:Yu n i e=false:=by simp [Yu,h1]
     rw [hp,cond_false] at hc
     rw [sel_pos (by simpa using h1)]
     exact ⟨_,rfl,(j+1,c,d),rfl,⟨by simp only;omega,by simp only;rw [hc];simpa using hinv⟩,by simp only;omega⟩
   ·rw [sel_neg (by simp;omega)]
    rw [Zm h] at hinv
    refine ⟨_,rfl,0,0,c,d,j,rfl,.inr ⟨rfl,?_⟩⟩
    unfold Kerb.findEnt
    rcases hinv with ⟨rfl,h0⟩ | ⟨rfl,h0,rfl⟩
    ·exact .inl ⟨rfl,by rw [if_pos h0]⟩
    ·exact .inr ⟨rfl,by rw [if_neg (by omega),if_neg (by omega)]⟩
  ·rintro ⟨e,l⟩ ⟨a,b,c,d,j,rfl,⟨rfl,h⟩ | ⟨rfl,⟨rfl,h⟩ | ⟨rfl,h⟩⟩⟩
   ·rw [← h];rfl
   ·rw [← h];rfl
   ·rw [← h];rfl
 ·cases h
theorem w50:Walked Tryz.prog G 50 1 sp50:=by
 refine ⟨Tryz.f50,Tryz.func50,by decide +kernel,rfl,fun xs bl r h=> ?_⟩
 unfold sp50 at h
 split at h
 ·rename_i l pos
  cases h
  show runFnH (G.env 50 1) G.rts (G.own 50) Tryz.f50 _ _ [0]=_
  refine Eq.trans (b:=(some (Zv (decide (pos<(↑(Zx l):Int))),[[Zn l,Zz .i64 pos]]):Option (AV×Blocks))) (by kernel_rfl) ?_
  rfl
 ·cases h
theorem w51:Walked Tryz.prog G 51 1 sp51:=by
 refine ⟨Tryz.f51,Tryz.func51,by decide +kernel,rfl,fun xs bl r h=> ?_⟩
 unfold sp51 at h
 split at h
 ·rename_i n l pos
  obtain ⟨hpre,h2⟩:=chk_inv h;cases h2
  show runFnH (G.env 51 1) G.rts (G.own 51) Tryz.f51 _ _ [0]=_
  refine Eq.trans (b:=(sel (decide (pos≥(↑(Zx l):Int))) (some (Zz .i64 0,[[Zn l,Zz .i64 pos]])) (sel (decide (n≤0)) (some (Zz .i64 0,[[Zn l,Zz .i64 pos]])) (chk (decide (0≤pos)&&decide (pos<(↑(Zx l):Int))) (chk (!n==0) (some (Zz .i64 (Yy (Zy .i64 (↑(Zh (Zb l (Zu pos) (0:UInt8))):Int)) n),[[Zn l,Zz .i64 (Zy .i64 (pos+1))]]))))):Option (AV×Blocks))) (by kernel_rfl) ?_
  simp only [Zp,decide_eq_true_eq] at hpre
  unfold Wu Wx
  by_cases h1:(l.length:Int)≤pos
  ·simp [sel,h1]
   omega
  by_cases h2:n≤0
  ·simp [sel,h1,h2]
   omega
  have h3:¬ n=0:=by omega
  have hb:=(l.getD pos.toNat 0).toNat_lt
  rw [sel_neg (by simp;omega),sel_neg (by simp;omega),chk_of (by simp;omega),chk_of (by simpa using h3),if_neg (by omega),if_neg (by omega),wrap_i64 (by omega) (by omega),wrap_i64 (by omega) (by omega),Yf (by omega),Int.toNat_of_nonneg (by omega)]
 ·cases h
theorem w58:Walked Tryz.prog G 58 1 sp58:=by
 refine ⟨Tryz.f58,Tryz.func58,by decide +kernel,rfl,fun xs bl r h=> ?_⟩
 unfold sp58 at h
 split at h
 ·rename_i a b
  cases h
  refine Eq.trans (b:=(some (Zv (a==b),[]):Option (AV×Blocks))) (by kernel_rfl) ?_
  rfl
 ·cases h
theorem w67:Walked Tryz.prog G 67 1 sp67:=by
 refine ⟨Tryz.f67,Tryz.func67,by decide +kernel,rfl,fun xs bl r h=> ?_⟩
 unfold sp67 at h
 split at h
 ·rename_i x y z
  cases h
  refine Eq.trans (b:=(some (Zv (x==[(107:UInt8),(114:UInt8),(98:UInt8),(116:UInt8),(103:UInt8),(116:UInt8)]),[]):Option (AV×Blocks))) (by kernel_rfl) ?_
  rfl
 ·cases h
theorem w73:Walked Tryz.prog G 73 1 sp73:=by
 refine ⟨Tryz.f73,Tryz.func73,by decide +kernel,rfl,fun xs bl r h=> ?_⟩
 unfold sp73 at h
 split at h
 ·rename_i b
  cases h
  refine Eq.trans (b:=(let t0:Int:=Zy .i64 (↑(Zh (Yk (Zu (Zy .u8 (Xu (↑(Zh (Zb b (Zu 1) (0:UInt8))):Int) (↑(Zh (2:UInt8)):Int)))))):Int);let t1:Option (AV×Blocks):=some (Yx [Zz .i64 0,Zv false,Zz .i64 40],[]);sel (decide ((↑(Zx b):Int)<2)) (some (Yx [Zz .i64 0,Zv false,Zz .i64 101],[])) (chk (decide (0<(↑(Zx b):Int))) (sel (!Zb b (Zu 0) (0:UInt8)==(4:UInt8)) (some (Yx [Zz .i64 0,Zv false,Zz .i64 39],[])) (chk (decide (1<(↑(Zx b):Int))) (sel (decide (t0<1)) t1 (sel (decide (t0>10)) t1 (chk (decide (1<(↑(Zx b):Int))) (some (Yx [Zz .i64 t0,Zv (Yk (Zu (Yy (↑(Zh (Zb b (Zu 1) (0:UInt8))):Int) (↑(Zh (2:UInt8)):Int)))==(1:UInt8)),Zz .i64 0],[])))))))):Option (AV×Blocks))) (by kernel_rfl) ?_
  try dsimp only [cStr,cBs,cBool,cU8,cInt,cSl,l63]
  unfold Xb
  by_cases h1:b.length<2
  ·rw [sel_pos (by simp;omega)]
   simp [h1]
  rw [sel_neg (by simp;omega),chk_of (by simp;omega),if_neg h1]
  by_cases h2:b.getD 0 0=4
  ·have hb:=(b.getD 1 0).toNat_lt
   have e:Zy Zw ((Yk (Zu (Zy IntKind.u8 (Xu ((b.getD (Zu 1) 0).toNat:Int) ((2:UInt8).toNat:Int))))).toNat:Int)=(((b.getD 1 0).toNat / 2:Nat):Int):=by
    rw [show Zu 1=1 from rfl,show ((2:UInt8).toNat:Int)=2 from rfl,Xy (by omega),Kerb.wrap_u8]
    have e3:Zu (((b.getD 1 0).toNat:Int) / 2 % 256)=(b.getD 1 0).toNat / 2:=by omega
    rw [e3,UInt8.toNat_ofNat_of_lt' (by show _<256;omega),wrap_i64 (by omega) (by omega)]
   have e2:(Yk (Zu (Yy ((b.getD (Zu 1) 0).toNat:Int) ((2:UInt8).toNat:Int)))==1)=decide ((b.getD 1 0).toNat % 2=1):=by
    rw [show Zu 1=1 from rfl,Yf (by omega)]
    have e3:Zu (((b.getD 1 0).toNat:Int) % ((2:UInt8).toNat:Int))=(b.getD 1 0).toNat % 2:=by
     show Zu (((b.getD 1 0).toNat:Int) % 2)=_
     omega
    rw [e3]
    rcases Nat.mod_two_eq_zero_or_one (b.getD 1 0).toNat with h | h<;>rw [h]<;>rfl
   rw [sel_neg (by simp [h2] at *;exact h2),chk_of (by simp;omega),if_neg (by simpa using h2),e,e2]
   generalize (b.getD 1 0).toNat / 2=m
   unfold Xm
   by_cases h3:1≤m
   case neg =>
    rw [sel_pos (by simp;omega),if_neg (by simp;omega)]
   by_cases h4:m≤10
   case neg =>
    rw [sel_neg (by simp;omega),sel_pos (by simp;omega),if_neg (by simp;omega)]
   rw [sel_neg (by simp;omega),sel_neg (by simp;omega),chk_of (by simp;omega),if_pos (by simp;omega)]
  ·rw [sel_pos (by simpa using h2),if_pos (by simpa using h2)]
 ·cases h
theorem w75:Walked Tryz.prog G 75 1 sp75:=by
 refine ⟨Tryz.f75,Tryz.func75,by decide +kernel,rfl,fun xs bl r h=> ?_⟩
 unfold sp75 at h
 split at h
 ·rename_i nx e B at_ li bad
  cases h
  show runFnH (G.env 75 1) G.rts (G.own 75) Tryz.f75 _ _ [0]=_
  refine Eq.trans (b:=(sel bad (some (Yx [],[[Zn B,Zz .i64 at_,Zv li,Zv true]])) (sel (!e==0) (some (Yx [],[[Zn B,Zz .i64 at_,Zv li,Zv true]])) (some (Yx [],[[Zn B,Zz .i64 nx,Zv li,Zv bad]]))):Option (AV×Blocks))) (by kernel_rfl) ?_
  cases bad
  ·cases (e==0)<;>rfl
  ·rfl
 ·cases h
theorem w78:Walked Tryz.prog G 78 1 sp78:=by
 refine ⟨Tryz.f78,Tryz.func78,by decide +kernel,rfl,fun xs bl r h=> ?_⟩
 unfold sp78 at h
 split at h
 ·rename_i b pos n
  obtain ⟨hpre,h2⟩:=chk_inv h;cases h2
  refine Eq.trans (b:=(sel (decide (pos<0)) (some (Yx [Zn [],Zz .i64 0,Zz .i64 104],[])) (sel (decide (pos>(↑(Zx b):Int))) (some (Yx [Zn [],Zz .i64 0,Zz .i64 104],[])) (sel (decide (n<0)) (some (Yx [Zn [],Zz .i64 0,Zz .i64 104],[])) (sel (decide (n>Zy .i64 ((↑(Zx b):Int)-pos))) (some (Yx [Zn [],Zz .i64 0,Zz .i64 101],[])) (chk (decide (0≤pos)&&decide (pos≤Zy .i64 (pos+n))&&decide (Zy .i64 (pos+n)≤(↑(Zx b):Int))) (chk (room (Zx (Wm (Zu pos) (Wn (Zu (Zy .i64 (pos+n))) b))) 1) (some (Yx [Zn (Wm (Zu pos) (Wn (Zu (Zy .i64 (pos+n))) b)),Zz .i64 (Zy .i64 (pos+n)),Zz .i64 0],[]))))))):Option (AV×Blocks))) (by kernel_rfl) ?_
  have hb:=of_decide_eq_true hpre
  unfold Wy
  by_cases h1:pos<0
  ·have e:Xk b pos n=104:=by unfold Xk;rw [if_pos (by omega)]
   rw [sel_pos (by simpa using h1),e]
   rfl
  rw [sel_neg (by simpa using h1)]
  by_cases h2:(b.length:Int)<pos
  ·have e:Xk b pos n=104:=by unfold Xk;rw [if_pos (by omega)]
   rw [sel_pos (by simpa using h2),e]
   rfl
  rw [sel_neg (by simpa using h2)]
  by_cases h3:n<0
  ·have e:Xk b pos n=104:=by unfold Xk;rw [if_pos (by omega)]
   rw [sel_pos (by simpa using h3),e]
   rfl
  rw [sel_neg (by simpa using h3),wrap_i64 (n:=(b.length:Int)-pos) (by omega) (by omega)]
  by_cases h4:(b.length:Int)-pos<n
  ·have e:Xk b pos n=101:=by unfold Xk;rw [if_neg (by omega),if_pos h4]
   rw [sel_pos (by simpa using h4),e]
   rfl
  have hr:Xk b pos n=0:=Kerb.room_zero.2 (by omega)
  have e:Wm (Zu pos) (Wn (Zu (pos+n)) b)=Kerb.cut b pos n:=by
   rw [show Zu (pos+n)=pos.toNat+n.toNat by omega,List.drop_take,show pos.toNat+n.toNat-pos.toNat=n.toNat by omega]
   rfl
  have hc:=Kerb.cut_length hr
  rw [sel_neg (by simpa using h4),if_pos hr,wrap_i64 (by omega) (by omega),e,chk_of (by simp;omega),chk_of (Xz (by omega))]
 ·cases h
theorem w80:Walked Tryz.prog G 80 1 sp80:=by
 refine ⟨Tryz.f80,Tryz.func80,by decide +kernel,rfl,fun xs bl r h=> ?_⟩
 unfold sp80 at h
 split at h
 ·rename_i n m
  cases h
  refine Eq.trans (b:=(sel (decide (n≥0)) (some (Zv (decide (n≤m)),[])) (some (Zv false,[])):Option (AV×Blocks))) (by kernel_rfl) ?_
  by_cases h:0≤n<;>simp [sel,Yz,h]
 ·cases h
theorem w82:Walked Tryz.prog G 82 1 sp82:=by
 refine ⟨Tryz.f82,Tryz.func82,by decide +kernel,rfl,fun xs bl r h=> ?_⟩
 unfold sp82 at h
 split at h
 ·rename_i k little
  cases h
  refine Eq.trans (b:=(sel (decide (k<1)) (some (Zn [],[])) (sel (decide (k>10)) (some (Zn [],[])) (sel little (some (Zn [(4:UInt8),Yk (Zu (Zy .u8 (Zy .i64 (Zy .i64 (2*k)+1))))],[])) (some (Zn [(4:UInt8),Yk (Zu (Zy .u8 (Zy .i64 (2*k))))],[])))):Option (AV×Blocks))) (by kernel_rfl) ?_
  by_cases h:1≤k∧k≤10
  ·have hk:k=1∨k=2∨k=3∨k=4∨k=5∨k=6∨k=7∨k=8∨k=9∨k=10:=by omega
   rcases hk with rfl | rfl | rfl | rfl | rfl | rfl | rfl | rfl | rfl | rfl<;>cases little<;>rfl
  ·have hk:Xm k=false:=by simp [Xm];omega
   by_cases h1:k<1
   ·simp [sel,Kerb.header,hk,h1]
   ·have h2:10<k:=by omega
    simp [sel,Kerb.header,hk,h1,h2]
 ·cases h
theorem w88:Walked Tryz.prog G 88 1 sp88:=by
 refine ⟨Tryz.f88,Tryz.func88,by decide +kernel,rfl,fun xs bl r h=> ?_⟩
 unfold sp88 at h
 split at h
 ·rename_i k
  obtain ⟨hpre,h2⟩:=chk_inv h;cases h2
  refine Eq.trans (b:=(Zj (loopM (fun (st:List AV)=>cInt .u64 st fun n r=>onCons r fun x r=>Xn x fun b=>cInt .i64 r fun n_1 r=>let t0:List UInt8:=[Yk (Zu (Zy .u8 (Int.fdiv n (2 ^ min (Zu (Zy .u64 (Zy .i64 (8*n_1)))) (Zk .u64)))))];onNil r (sel (decide (n_1≥0)) (chk (decide (0≤Zy .u64 (Zy .i64 (8*n_1)))) (chk (room (Zx b+Zx t0) 1) (some (Yn [Zz .u64 n,Yw (b++t0),Zz .i64 (Zy .i64 (n_1-1))])))) (some (Yp (Yj 0,[Zz .u64 n,Yw b,Zz .i64 n_1]))))) [Zz .u64 k,Yw [],Zz .i64 7]) fun (r:Ex×List AV)=>cInt .u64 (Zd r) fun n r_1=>onCons r_1 fun x r_2=>Xn x fun b=>cInt .i64 r_2 fun n r_3=>onNil r_3 (exK r.1 none fun (j:Nat)=>sel (Xj j 0) (some (Zn b,[])) none):Option (AV×Blocks))) (by kernel_rfl) ?_
  try dsimp only [cStr,cBs,cBool,cU8,cInt,cSl,l63]
  refine loop_unroll 9 (Yj 0,[Zz Yb k,Yw [Xg k 56,Xg k 48,Xg k 40,Xg k 32,Xg k 24,Xg k 16,Xg k 8,Xg k 0],Zz Zw (-1)]) (by kernel_rfl) ?_
  simp only [A0]
  rw [sel_pos (Yq _)]
  simp [Kerb.bfd_eq,Kerb.keyBytes,Kerb.byteAt,List.range_succ]
 ·cases h
theorem w89:Walked Tryz.prog G 89 1 sp89:=by
 refine ⟨Tryz.f89,Tryz.func89,by decide +kernel,rfl,fun xs bl r h=> ?_⟩
 unfold sp89 at h
 split at h
 ·rename_i b
  obtain ⟨hpre,h2⟩:=chk_inv h;cases h2
  refine Eq.trans (b:=(chk (room (Zx b) 1) (Zj (loopM (fun (st:List AV)=>onCons st fun x r=>Xn x fun b=>onNil r (sel (!Yy (↑(Zx b):Int) 8==0) (chk (room (Zx b+Zx [(0:UInt8)]) 1) (some (Yn [Yw (b++[(0:UInt8)])]))) (some (Yp (Yj 0,[Yw b]))))) [Yw b]) fun (r:Ex×List AV)=>onCons (Zd r) fun x r_1=>Xn x fun b=>onNil r_1 (exK r.1 none fun (j:Nat)=>sel (Xj j 0) (some (Yw b,[])) none)):Option (AV×Blocks))) (by kernel_rfl) ?_
  have hb:=of_decide_eq_true hpre
  rw [chk_of (Xz (by omega))]
  refine loop_rounds (fun i:Nat=>[Yw (b++List.replicate i 0)]) (fun i=>i≤(8-b.length % 8) % 8) (fun i=>(8-b.length % 8) % 8-i)
   (fun r=>r=(Yj 0,[Yw (Kerb.pad b)])) 0 (by omega) (by simp) ?_ ?_
  ·intro i hi
   simp only [A0]
   have e:Yy ((b++List.replicate i 0).length:Int) 8=(((b.length+i) % 8:Nat):Int):=by
    rw [Yf (by omega)]
    simp
   rw [e]
   by_cases hlt:i<(8-b.length % 8) % 8
   ·rw [sel_pos (by simp;omega),chk_of (Xz (by simp;omega))]
    refine ⟨_,rfl,i+1,?_,by omega,by dsimp only;omega⟩
    dsimp only
    rw [List.replicate_succ',List.append_assoc]
   ·rw [sel_neg (by simp;omega)]
    refine ⟨_,rfl,?_⟩
    show _=_
    rw [Kerb.pad,show i=(8-b.length % 8) % 8 from by omega]
  rintro r rfl
  simp only [A0]
  rw [sel_pos (Yq _)]
 ·cases h
theorem w90:Walked Tryz.prog G 90 1 sp90:=by
 refine ⟨Tryz.f90,Tryz.func90,by decide +kernel,rfl,fun xs bl r h=> ?_⟩
 unfold sp90 at h
 split at h
 ·cases h
  refine Eq.trans (b:=(some (Zf 1 [Zq [(65:UInt8),(84:UInt8),(72:UInt8)],Zq [(66:UInt8),(79:UInt8),(83:UInt8)],Zq [(67:UInt8),(65:UInt8),(77:UInt8)]],[]):Option (AV×Blocks))) (by kernel_rfl) ?_
  rfl
 ·cases h
theorem w91:Walked Tryz.prog G 91 1 sp91:=by
 refine ⟨Tryz.f91,Tryz.func91,by decide +kernel,rfl,fun xs bl r h=> ?_⟩
 unfold sp91 at h
 split at h
 ·rename_i b pos
  obtain ⟨hpre,h2⟩:=chk_inv h;cases h2
  refine Eq.trans (b:=(let t0:Option (AV×Blocks):=some (Yx [Zq [],Zz .i64 0,Zz .i64 104],[]);sel (decide (pos<0)) t0 (sel (decide (pos>(↑(Zx b):Int))) t0 (Zj (loopM (fun (st:List AV)=>cBs st fun b r=>cInt .i64 r fun n r=>cStr r fun b_1 r=>cInt .i64 r fun n_1 r=>cInt .i64 r fun n_2 r=>cInt .i64 r fun n_3 r=>onNil r (sel (decide (n_3≤39)) (sel (decide (Zy .i64 (n+n_3)≥(↑(Zx b):Int))) (some (Yp (Ex.ret,[Zn b,Zz .i64 n,Zq [],Zz .i64 0,Zz .i64 101,Zz .i64 n_3]))) (chk (decide (0≤Zy .i64 (n+n_3))&&decide (Zy .i64 (n+n_3)<(↑(Zx b):Int))) (sel (Zb b (Zu (Zy .i64 (n+n_3))) (0:UInt8)==(0:UInt8)) (chk (decide (0≤n)&&decide (n≤Zy .i64 (n+n_3))&&decide (Zy .i64 (n+n_3)≤(↑(Zx b):Int))) (some (Yp (Ex.ret,[Zn b,Zz .i64 n,Zq (Wm (Zu n) (Wn (Zu (Zy .i64 (n+n_3))) b)),Zz .i64 (Zy .i64 (Zy .i64 (n+n_3)+1)),Zz .i64 0,Zz .i64 n_3])))) (some (Yn [Zn b,Zz .i64 n,Zq b_1,Zz .i64 n_1,Zz .i64 n_2,Zz .i64 (Zy .i64 (n_3+1))]))))) (some (Yp (Yj 0,[Zn b,Zz .i64 n,Zq b_1,Zz .i64 n_1,Zz .i64 n_2,Zz .i64 n_3]))))) [Zn b,Zz .i64 pos,Zq [],Zz .i64 0,Zz .i64 0,Zz .i64 0]) fun (r:Ex×List AV)=>cBs (Zd r) fun b r_1=>cInt .i64 r_1 fun n r_2=>cStr r_2 fun b r_3=>cInt .i64 r_3 fun n r_4=>cInt .i64 r_4 fun n_1 r_5=>cInt .i64 r_5 fun n_2 r_6=>onNil r_6 (exK r.1 (some (Yx [Zq b,Zz .i64 n,Zz .i64 n_1],[])) fun (j:Nat)=>sel (Xj j 0) (some (Yx [Zq [],Zz .i64 0,Zz .i64 105],[])) none))):Option (AV×Blocks))) (by kernel_rfl) ?_
  try dsimp only [cStr,cBs,cBool,cU8,cInt,cSl,l63]
  have hb:=of_decide_eq_true hpre
  unfold Xw
  by_cases h1:pos<0
  ·rw [sel_pos (by simpa using h1),if_neg (by rw [Kerb.room_zero];omega)]
  rw [sel_neg (by simpa using h1)]
  by_cases h2:(b.length:Int)<pos
  ·rw [sel_pos (by simpa using h2),if_neg (by rw [Kerb.room_zero];omega)]
  rw [sel_neg (by simpa using h2),if_pos (Kerb.room_zero.2 (by omega))]
  obtain ⟨R,hR⟩:∃ R,R=b.drop pos.toNat:=⟨_,rfl⟩
  have hRl:R.length=b.length-pos.toNat:=by rw [hR];simp
  rw [← hR]
  obtain ⟨T,hT⟩:∃ T,T=R.take 40:=⟨_,rfl⟩
  rw [← hT]
  have hix:=Kerb.indexOf_nonneg 0 T
  refine loop_rounds (fun i:Nat=>[Zn b,Zz Zw pos,Zq [],Zz Zw 0,Zz Zw 0,Zz Zw (i:Int)]) (fun i=>i≤40∧i≤R.length∧(0:UInt8) ∉ R.take i) (fun i=>40-i)
   (fun r=>∃ (i:Nat) (v:List UInt8) (nx e:Int),r.2=[Zn b,Zz Zw pos,Zq v,Zz Zw nx,Zz Zw e,Zz Zw (i:Int)] ∧
    ((r.1 = .ret∧v=[]∧nx=0∧e=101∧Wb 0 T<0∧T.length≠40)∨(r.1 = .ret∧Wb 0 T=i∧v=T.take i∧nx=pos+i+1∧e=0)∨(r.1 = .exit 0∧Wb 0 T<0∧T.length=40))) 0 ⟨by omega,by omega,by simp⟩ rfl ?_ ?_
  ·rintro i ⟨hi,hir,h0⟩
   simp only [A0]
   by_cases hlt:i≤39
   case neg =>
    have e40:i=40:=by omega
    subst e40
    rw [sel_neg (by decide)]
    refine ⟨_,rfl,40,[],0,0,rfl,.inr (.inr ⟨rfl,?_,?_⟩)⟩
    ·rw [← hT] at h0;have:=mt hix.1 h0;omega
    ·rw [hT];simp;omega
   rw [sel_pos (by simp;omega),wrap_i64 (n:=pos+(i:Int)) (by omega) (by omega)]
   by_cases hend:(b.length:Int)≤pos+i
   ·rw [sel_pos (by simpa using hend)]
    have hTR:T=R.take i:=by rw [hT,Zm (by omega),Zm (by omega)]
    refine ⟨_,rfl,i,[],0,101,rfl,.inl ⟨rfl,rfl,rfl,rfl,?_,?_⟩⟩
    ·rw [← hTR] at h0;have:=mt hix.1 h0;omega
    ·rw [hTR];simp;omega
   have hiR:i<R.length:=by omega
   have hd:=Kerb.drop_all_cons hiR
   have hbi:b.getD (pos+(i:Int)).toNat 0=R.getD i 0:=by
    rw [show (pos+(i:Int)).toNat=pos.toNat+i by omega,hR]
    simp [List.getD_eq_getElem?_getD]
   rw [sel_neg (by simpa using hend),chk_of (by simp;omega),hbi]
   by_cases hz:R.getD i 0=0
   ·rw [sel_pos (by rw [hz];rfl),chk_of (by simp;omega),wrap_i64 (by omega) (by omega)]
    have hTi:T.take i=R.take i:=by rw [hT,List.take_take,Nat.min_eq_left (by omega)]
    have hTe:T=R.take i++0::(R.drop (i+1)).take (39-i):=by
     rw [hT]
     have:R=R.take i++(0::R.drop (i+1)):=by rw [← hz,← hd,List.take_append_drop]
     have hl:(R.take i).length=i:=by simp;omega
     calc R.take 40=(R.take i++(0::R.drop (i+1))).take 40:=by rw [← this]
      _=_:=by rw [List.take_append,hl,Zm (by omega),show 40-i=(39-i)+1 by omega,List.take_succ_cons]
    have hidx:Wb 0 T=i:=by
     rw [hTe,Kerb.indexOf_append h0];simp;omega
    refine ⟨_,rfl,i,_,_,0,rfl,.inr (.inl ⟨rfl,hidx,?_,rfl,rfl⟩)⟩
    rw [hTi,hR,show (pos+(i:Int)).toNat=pos.toNat+i by omega,List.drop_take,show pos.toNat+i-pos.toNat=i by omega]
   ·rw [sel_neg (beq_eq_false_iff_ne.2 hz),wrap_i64 (by omega) (by omega)]
    refine ⟨_,rfl,i+1,rfl,⟨by omega,by omega,?_⟩,by dsimp only;omega⟩
    rw [Kerb.take_succ_getD hiR]
    simp only [List.mem_append,List.mem_singleton,not_or]
    exact ⟨h0,fun e=>hz e.symm⟩
  ·rintro ⟨e,l⟩ ⟨i,v,nx,er,rfl,⟨rfl,rfl,rfl,rfl,g1,g2⟩ | ⟨rfl,g1,rfl,rfl,rfl⟩ | ⟨rfl,g1,g2⟩⟩
   ·simp only [A0]
    rw [if_neg (by omega),if_neg g2]
   ·simp only [A0]
    rw [if_pos (by omega),g1,Zg]
   ·simp only [A0]
    rw [if_neg (by omega),if_pos g2,sel_pos (Yq _)]
 ·cases h
theorem w93:Walked Tryz.prog G 93 1 sp93:=by
 refine ⟨Tryz.f93,Tryz.func93,by decide +kernel,rfl,fun xs bl r h=> ?_⟩
 unfold sp93 at h
 split at h
 ·rename_i b s
  obtain ⟨hpre,h2⟩:=chk_inv h;cases h2
  refine Eq.trans (b:=(chk (room (Zx b) 1) (chk (room (Zx b+Zx s) 1) (chk (room (Zx (b++s)+Zx [(0:UInt8)]) 1) (some (Zn (b++s++[(0:UInt8)]),[])))):Option (AV×Blocks))) (by kernel_rfl) ?_
  simp only [decide_eq_true_eq] at hpre
  rw [chk_of (Xz (by omega)),chk_of (Xz (by omega)),chk_of (Xz (by simp;omega))]
  simp [Wd]
 ·cases h
theorem w99:Walked Tryz.prog G 99 1 sp99:=by
 refine ⟨Tryz.f99,Tryz.func99,by decide +kernel,rfl,fun xs bl r h=> ?_⟩
 unfold sp99 at h
 split at h
 ·rename_i n m
  cases h
  refine Eq.trans (b:=(sel (decide (n≥0)) (some (Zv (decide (n≤m)),[])) (some (Zv false,[])):Option (AV×Blocks))) (by kernel_rfl) ?_
  by_cases h:0≤n<;>simp [sel,Yz,h]
 ·cases h
theorem w102:Walked Tryz.prog G 102 1 sp102:=by
 refine ⟨Tryz.f102,Tryz.func102,by decide +kernel,rfl,fun xs bl r h=> ?_⟩
 unfold sp102 at h
 split at h
 ·rename_i k els
  obtain ⟨hpre,h2⟩:=chk_inv h;cases h2
  refine Eq.trans (b:=(Zj (loopM (fun (st:List AV)=>cInt .i64 st fun n r=>cBool r fun b r=>cSl 1 r fun b_1 r=>cInt .i64 r fun n_1 r=>cInt .i64 r fun n_2 r=>onNil r (sel (decide (n_2<n_1)) (chk (decide (0≤n_2)&&decide (n_2<(↑(Zx b_1):Int))&&true) (Yh .i64 (Zb b_1 (Zu n_2) Xq) fun n_3=>sel (n_3==n) (some (Yp (Ex.ret,[Zz .i64 n,Zv true,Zf 1 b_1,Zz .i64 n_1,Zz .i64 n_2]))) (some (Yn [Zz .i64 n,Zv b,Zf 1 b_1,Zz .i64 n_1,Zz .i64 (Zy .i64 (n_2+1))])))) (some (Yp (Yj 0,[Zz .i64 n,Zv b,Zf 1 b_1,Zz .i64 n_1,Zz .i64 n_2]))))) [Zz .i64 k,Zv false,Zf 1 els,Zz .i64 (↑(Zx els):Int),Zz .i64 0]) fun (r:Ex×List AV)=>cInt .i64 (Zd r) fun n r_1=>cBool r_1 fun b r_2=>cSl 1 r_2 fun b_1 r_3=>cInt .i64 r_3 fun n r_4=>cInt .i64 r_4 fun n r_5=>onNil r_5 (exK r.1 (some (Zv b,[])) fun (j:Nat)=>sel (Xj j 0) (some (Zv false,[])) none):Option (AV×Blocks))) (by kernel_rfl) ?_
  try dsimp only [cStr,cBs,cBool,cU8,cInt,cSl,l63]
  simp only [Zp,decide_eq_true_eq] at hpre
  obtain ⟨ha,hl⟩:=hpre
  have hil:=Kerb.ints_len ha
  refine loop_rounds (fun i:Nat=>[Zz Zw k,Zv false,Zf 1 els,Zz Zw (els.length:Int),Zz Zw (i:Int)]) (fun i=>i≤els.length∧(k∈intsIn els↔k∈(intsIn els).drop i)) (fun i=>els.length-i)
   (fun r=>∃ (i:Nat) (x:Bool),r.2=[Zz Zw k,Zv x,Zf 1 els,Zz Zw (els.length:Int),Zz Zw (i:Int)]∧((r.1 = .ret∧x=true∧k∈intsIn els)∨(r.1 = .exit 0∧k ∉ intsIn els))) 0 ⟨Ym _,by simp⟩ rfl ?_ ?_
  ·rintro i ⟨hi,hm⟩
   simp only [A0]
   by_cases hlt:i<els.length
   ·obtain ⟨n,h1,h2⟩:=Kerb.ints_get ha hlt
    rw [sel_pos (by simp;omega),chk_of (by simp;omega),Zg,h1,onInt_int]
    rw [h2,List.mem_cons] at hm
    by_cases h3:n=k
    ·rw [sel_pos (by simpa using h3)]
     exact ⟨_,rfl,i,true,rfl,.inl ⟨rfl,rfl,hm.2 (.inl h3.symm)⟩⟩
    ·rw [sel_neg (by simpa using h3),wrap_i64 (by omega) (by omega)]
     exact ⟨_,rfl,i+1,rfl,⟨by omega,hm.trans ⟨fun h=>h.resolve_left fun e=>h3 e.symm,.inr⟩⟩,by dsimp only;omega⟩
   ·rw [sel_neg (by simp;omega)]
    refine ⟨_,rfl,i,false,rfl,.inr ⟨rfl,?_⟩⟩
    rw [hm,Yg (by omega)];simp
  ·rintro ⟨e,l⟩ ⟨i,x,rfl,⟨rfl,rfl,h⟩ | ⟨rfl,h⟩⟩
   ·simp [onCons,Yh,AV.onBool,AV.onSl,onNil,exK,h]
   ·simp [onCons,Yh,AV.onBool,AV.onSl,onNil,exK,h,sel]
 ·cases h
theorem w105:Walked Tryz.prog G 105 1 sp105:=by
 refine ⟨Tryz.f105,Tryz.func105,by decide +kernel,rfl,fun xs bl r h=> ?_⟩
 unfold sp105 at h
 split at h
 ·rename_i b pos n
  obtain ⟨hpre,h2⟩:=chk_inv h;cases h2
  refine Eq.trans (b:=(sel (decide (pos<0)) (some (Zz .i64 104,[])) (sel (decide (pos>(↑(Zx b):Int))) (some (Zz .i64 104,[])) (sel (decide (n<0)) (some (Zz .i64 104,[])) (sel (decide (n>Zy .i64 ((↑(Zx b):Int)-pos))) (some (Zz .i64 101,[])) (some (Zz .i64 0,[]))))):Option (AV×Blocks))) (by kernel_rfl) ?_
  simp only [decide_eq_true_eq] at hpre
  unfold Xk
  by_cases h1:pos<0
  ·simp [sel,h1]
  by_cases h2:(b.length:Int)<pos
  ·simp [sel,h1,h2]
  by_cases h3:n<0
  ·simp [sel,h1,h2,h3]
  rw [sel_neg (by simp;omega),sel_neg (by simp;omega),sel_neg (by simp;omega),wrap_i64 (by omega) (by omega),if_neg (by omega)]
  by_cases h4:(b.length:Int)-pos<n
  ·rw [sel_pos (by simp;omega),if_pos h4]
  ·rw [sel_neg (by simp;omega),if_neg h4]
 ·cases h
theorem w110:Walked Tryz.prog G 110 1 sp110:=by
 refine ⟨Tryz.f110,Tryz.func110,by decide +kernel,rfl,fun xs bl r h=> ?_⟩
 unfold sp110 at h
 split at h
 ·rename_i n m
  cases h
  refine Eq.trans (b:=(sel (decide (n≥0)) (some (Zv (decide (n≤m)),[])) (some (Zv false,[])):Option (AV×Blocks))) (by kernel_rfl) ?_
  by_cases h:0≤n<;>simp [sel,Yz,h]
 ·cases h
theorem w117:Walked Tryz.prog G 117 1 sp117:=by
 refine ⟨Tryz.f117,Tryz.func117,by decide +kernel,rfl,fun xs bl r h=> ?_⟩
 unfold sp117 at h
 split at h
 ·rename_i n
  cases h
  refine Eq.trans (b:=(sel (decide (n≥0)) (some (Zv (decide (n≤4294967295)),[])) (some (Zv false,[])):Option (AV×Blocks))) (by kernel_rfl) ?_
  by_cases h:0≤n<;>simp [sel,Yz,h]
 ·cases h
theorem w119:Walked Tryz.prog G 119 1 sp119:=by
 refine ⟨Tryz.f119,Tryz.func119,by decide +kernel,rfl,fun xs bl r h=> ?_⟩
 unfold sp119 at h
 split at h
 ·rename_i ali b1 b2 b3 aad ak alf ais asv ain rl
  cases h
  refine Eq.trans (b:=(some (Wp [Zq asv,Zq ain,Zq rl],[]):Option (AV×Blocks))) (by kernel_rfl) ?_
  rfl
 ·cases h
theorem w123:Walked Tryz.prog G 123 1 sp123:=by
 refine ⟨Tryz.f123,Tryz.func123,by decide +kernel,rfl,fun xs bl r h=> ?_⟩
 unfold sp123 at h
 split at h
 ·rename_i n l m
  cases h
  refine Eq.trans (b:=(sel (decide (n≥l)) (some (Zv (decide (n≤m)),[])) (some (Zv false,[])):Option (AV×Blocks))) (by kernel_rfl) ?_
  by_cases h:l≤n
  ·rw [sel_pos (by simpa using h)];simp [h]
  ·rw [sel_neg (by simpa using h)];simp [h]
 ·cases h
theorem w125:Walked Tryz.prog G 125 1 sp125:=by
 refine ⟨Tryz.f125,Tryz.func125,by decide +kernel,rfl,fun xs bl r h=> ?_⟩
 unfold sp125 at h
 split at h
 ·rename_i code
  cases h
  refine Eq.trans (b:=(sel (decide (code<1)) (some (Zq [(114:UInt8),(101:UInt8),(113:UInt8),(117:UInt8),(101:UInt8),(115:UInt8),(116:UInt8),(32:UInt8),(114:UInt8),(101:UInt8),(102:UInt8),(117:UInt8),(115:UInt8),(101:UInt8),(100:UInt8)],[])) (sel (decide (code>10)) (some (Zq [(114:UInt8),(101:UInt8),(113:UInt8),(117:UInt8),(101:UInt8),(115:UInt8),(116:UInt8),(32:UInt8),(114:UInt8),(101:UInt8),(102:UInt8),(117:UInt8),(115:UInt8),(101:UInt8),(100:UInt8)],[])) (chk (decide (0≤Zy .i64 (code-1))&&decide (Zy .i64 (code-1)<(↑(10:Nat):Int))&&true&&true&&true) (Xd (Zb [Zq [(99:UInt8),(108:UInt8),(105:UInt8),(101:UInt8),(110:UInt8),(116:UInt8),(32:UInt8),(101:UInt8),(120:UInt8),(112:UInt8),(105:UInt8),(114:UInt8),(101:UInt8),(100:UInt8)],Zq [(115:UInt8),(101:UInt8),(114:UInt8),(118:UInt8),(105:UInt8),(99:UInt8),(101:UInt8),(32:UInt8),(101:UInt8),(120:UInt8),(112:UInt8),(105:UInt8),(114:UInt8),(101:UInt8),(100:UInt8)],Zq [(110:UInt8),(111:UInt8),(32:UInt8),(108:UInt8),(105:UInt8),(102:UInt8),(101:UInt8),(116:UInt8),(105:UInt8),(109:UInt8),(101:UInt8),(32:UInt8),(108:UInt8),(101:UInt8),(102:UInt8),(116:UInt8)],Zq [(112:UInt8),(114:UInt8),(111:UInt8),(116:UInt8),(111:UInt8),(99:UInt8),(111:UInt8),(108:UInt8),(32:UInt8),(118:UInt8),(101:UInt8),(114:UInt8),(115:UInt8),(105:UInt8),(111:UInt8),(110:UInt8)],Zq [(110:UInt8),(111:UInt8),(116:UInt8),(32:UInt8),(97:UInt8),(32:UInt8),(99:UInt8),(108:UInt8),(105:UInt8),(101:UInt8),(110:UInt8),(116:UInt8)],Zq [(110:UInt8),(111:UInt8),(116:UInt8),(32:UInt8),(97:UInt8),(32:UInt8),(115:UInt8),(101:UInt8),(114:UInt8),(118:UInt8),(105:UInt8),(99:UInt8),(101:UInt8)],Zq [(98:UInt8),(121:UInt8),(116:UInt8),(101:UInt8),(32:UInt8),(111:UInt8),(114:UInt8),(100:UInt8),(101:UInt8),(114:UInt8)],Zq [(112:UInt8),(114:UInt8),(105:UInt8),(110:UInt8),(99:UInt8),(105:UInt8),(112:UInt8),(97:UInt8),(108:UInt8),(32:UInt8),(117:UInt8),(110:UInt8),(107:UInt8),(110:UInt8),(111:UInt8),(119:UInt8),(110:UInt8)],Zq [(112:UInt8),(114:UInt8),(105:UInt8),(110:UInt8),(99:UInt8),(105:UInt8),(112:UInt8),(97:UInt8),(108:UInt8),(32:UInt8),(110:UInt8),(111:UInt8),(116:UInt8),(32:UInt8),(117:UInt8),(110:UInt8),(105:UInt8),(113:UInt8),(117:UInt8),(101:UInt8)],Zq [(110:UInt8),(111:UInt8),(32:UInt8),(107:UInt8),(101:UInt8),(121:UInt8)]] (Zu (Zy .i64 (code-1))) Xq) fun b=>some (Zq b,[])))):Option (AV×Blocks))) (by kernel_rfl) ?_
  unfold Kerb.message
  by_cases h:code<1
  ·rw [sel_pos (by simpa using h),if_pos (.inl h)]
   rfl
  by_cases h2:10<code
  ·rw [sel_neg (by simpa using h),sel_pos (by simp;omega),if_pos (.inr h2)]
   rfl
  have hc:code=1∨code=2∨code=3∨code=4∨code=5∨code=6∨code=7∨code=8∨code=9∨code=10:=by omega
  rcases hc with rfl | rfl | rfl | rfl | rfl | rfl | rfl | rfl | rfl | rfl<;>rfl
 ·cases h
theorem w130:Walked Tryz.prog G 130 1 sp130:=by
 refine ⟨Tryz.f130,Tryz.func130,by decide +kernel,rfl,fun xs bl r h=> ?_⟩
 unfold sp130 at h
 split at h
 ·rename_i xls a b
  obtain ⟨hpre,h2⟩:=chk_inv h;cases h2
  refine Eq.trans (b:=(Zj (loopM (fun (st:List AV)=>cSl 4 st fun b r=>cStr r fun b_1 r=>cStr r fun b_2 r=>cInt .i64 r fun n r=>cBool r fun b_3 r=>cSl 4 r fun b_4 r=>cInt .i64 r fun n_1 r=>cInt .i64 r fun n_2 r=>let t2:List AV:=[Zf 4 b_4,Zz .i64 n_1,Zz .i64 (Zy .i64 (n_2+1))];let t0:Option (List AV ⊕ Ex×List AV):=some (Yn (Zf 4 b::Zq b_1::Zq b_2::Zz .i64 n::Zv b_3::t2));let t1:Option (List AV ⊕ Ex×List AV):=some (Yn (Zf 4 b::Zq b_1::Zq b_2::Zz .i64 n_2::Zv true::t2));onNil r (sel (decide (n_2<n_1)) (chk (decide (0≤n_2)&&decide (n_2<(↑(Zx b_4):Int))&&true) (Vz (Zb b_4 (Zu n_2) Xq) fun cs=>cStr cs fun b_5 r=>cStr r fun b_6 r=>cInt .i64 r fun n_3 r=>cInt .u64 r fun n_4 r=>onNil r (sel (!b_5==b_1) t0 (sel (!b_6==b_2) t0 (sel (!b_3) t1 (chk (decide (0≤n)&&decide (n<(↑(Zx b):Int))&&true) (Vz (Zb b (Zu n) Xq) fun cs=>cStr cs fun b r=>cStr r fun b r=>cInt .i64 r fun n r=>cInt .u64 r fun n_5 r=>onNil r (sel (decide (n_3>n)) t1 t0)))))))) (some (Yp (Yj 0,[Zf 4 b,Zq b_1,Zq b_2,Zz .i64 n,Zv b_3,Zf 4 b_4,Zz .i64 n_1,Zz .i64 n_2]))))) [Zf 4 xls,Zq a,Zq b,Zz .i64 0,Zv false,Zf 4 xls,Zz .i64 (↑(Zx xls):Int),Zz .i64 0]) fun (r:Ex×List AV)=>cSl 4 (Zd r) fun b r_1=>cStr r_1 fun b r_2=>cStr r_2 fun b r_3=>cInt .i64 r_3 fun n r_4=>cBool r_4 fun b r_5=>cSl 4 r_5 fun b_1 r_6=>cInt .i64 r_6 fun n_1 r_7=>cInt .i64 r_7 fun n_2 r_8=>onNil r_8 (exK r.1 none fun (j:Nat)=>sel (Xj j 0) (some (Yx [Zz .i64 n,Zv b],[])) none):Option (AV×Blocks))) (by kernel_rfl) ?_
  try dsimp only [cStr,cBs,cBool,cU8,cInt,cSl,l63]
  simp only [Zp,decide_eq_true_eq] at hpre
  obtain ⟨hall,hlen⟩:=hpre
  obtain ⟨cs,rfl⟩:=Kerb.cross_of hall
  rw [Kerb.map_toCross,Kerb.find_crossR]
  simp only [Xv] at hlen ⊢
  refine loop_rounds (fun q:Nat×Int×Bool=>[Zf 4 (cs.map Yd),Zq a,Zq b,Zz Zw q.2.1,Zv q.2.2,Zf 4 (cs.map Yd),Zz Zw (cs.length:Int),Zz Zw (q.1:Int)])
   (fun q=>q.1≤cs.length∧(q.2.1,q.2.2)=Kerb.crossR (Ww cs a b q.1)) (fun q=>cs.length-q.1)
   (fun r=>∃ (c:Int) (d:Bool),r=(Yj 0,[Zf 4 (cs.map Yd),Zq a,Zq b,Zz Zw c,Zv d,Zf 4 (cs.map Yd),Zz Zw (cs.length:Int),Zz Zw (cs.length:Int)])∧(c,d)=Kerb.crossR (Ww cs a b cs.length)) (0,0,false) ⟨Ym _,rfl⟩ rfl ?_ ?_
  ·rintro ⟨j,c,d⟩ ⟨hj,hinv⟩
   simp only at hj hinv
   simp only [↓A0,A0]
   rcases Nat.lt_or_ge j cs.length with h | h
   ·obtain ⟨x,hx⟩:∃ x,cs.getD j Wf=x:=⟨_,rfl⟩
    have hs:=Kerb.cross_step cs a b j hx
    rw [sel_pos (by simp;omega),chk_of (by simp;omega),Zg,Kerb.getD_cross h,hx]
    simp only [Yd,↓A0,A0]
    rw [wrap_i64 (by omega) (by omega)]
    have keep:Ww cs a b (j+1)=Ww cs a b j→Round (fun q:Nat×Int×Bool=>[Zf 4 (cs.map Yd),Zq a,Zq b,Zz Zw q.2.1,Zv q.2.2,Zf 4 (cs.map Yd),Zz Zw (cs.length:Int),Zz Zw (q.1:Int)]) (fun q=>q.1≤cs.length∧(q.2.1,q.2.2)=Kerb.crossR (Ww cs a b q.1)) (fun q=>cs.length-q.1) (fun r=>∃ (c:Int) (d:Bool),r=(Yj 0,[Zf 4 (cs.map Yd),Zq a,Zq b,Zz Zw c,Zv d,Zf 4 (cs.map Yd),Zz Zw (cs.length:Int),Zz Zw (cs.length:Int)])∧(c,d)=Kerb.crossR (Ww cs a b cs.length)) (j,c,d) (Yn [Zf 4 (cs.map Yd),Zq a,Zq b,Zz Zw c,Zv d,Zf 4 (cs.map Yd),Zz Zw (cs.length:Int),Zz Zw ((j:Int)+1)]):=fun e =>
     ⟨(j+1,c,d),rfl,⟨by simp only;omega,by simp only;rw [e];exact hinv⟩,by simp only;omega⟩
    by_cases h1:x.source=a
    case neg =>
     rw [sel_pos (by simpa using h1)]
     rw [show (x.source==a)=false from by simpa using h1,Bool.false_and,cond_false] at hs
     exact ⟨_,rfl,keep hs⟩
    rw [sel_neg (by simp [h1])]
    rw [show (x.source==a)=true from by simpa using h1,Bool.true_and] at hs
    by_cases h2:x.target=b
    case neg =>
     rw [sel_pos (by simpa using h2)]
     rw [show (x.target==b)=false from by simpa using h2,Bool.false_and,cond_false] at hs
     exact ⟨_,rfl,keep hs⟩
    rw [sel_neg (by simp [h2])]
    rw [show (x.target==b)=true from by simpa using h2,Bool.true_and] at hs
    cases hc:Ww cs a b j with
    | none =>
     rw [hc] at hs hinv
     cases hinv
     exact ⟨_,rfl,(j+1,(j:Int),true),rfl,⟨by simp only;omega,by simp only;rw [hs];rfl⟩,by simp only;omega⟩
    | some k =>
     rw [hc] at hs hinv
     cases hinv
     have hk:=Kerb.crossAt_lt hc
     have hkv:(cs.getD k Wf).kvno<x.kvno↔x.kvno>(cs.getD k Wf).kvno:=Iff.rfl
     rw [sel_neg (by simp),chk_of (by simp;omega),Zg,Kerb.getD_cross (by omega)]
     simp only [Yd,↓A0,A0]
     by_cases h3:(cs.getD k Wf).kvno<x.kvno
     ·rw [sel_pos (by simpa using h3)]
      dsimp only at hs
      rw [show decide ((cs.getD k Wf).kvno<x.kvno)=true from by simpa using h3,cond_true] at hs
      exact ⟨_,rfl,(j+1,(j:Int),true),rfl,⟨by simp only;omega,by simp only;rw [hs];rfl⟩,by simp only;omega⟩
     ·rw [sel_neg (by simpa using h3)]
      dsimp only at hs
      rw [show decide ((cs.getD k Wf).kvno<x.kvno)=false from by simpa using h3,cond_false] at hs
      exact ⟨_,rfl,keep (hs.trans hc.symm)⟩
   ·rw [sel_neg (by simp;omega)]
    have hj2:j=cs.length:=by omega
    subst hj2
    exact ⟨_,rfl,c,d,rfl,hinv⟩
  ·rintro _ ⟨c,d,rfl,h⟩
   rw [← h]
   rfl
 ·cases h
theorem w140:Walked Tryz.prog G 140 1 sp140:=by
 refine ⟨Tryz.f140,Tryz.func140,by decide +kernel,rfl,fun xs bl r h=> ?_⟩
 unfold sp140 at h
 split at h
 ·rename_i b n k little
  obtain ⟨hpre,h2⟩:=chk_inv h;cases h2
  refine Eq.trans (b:=(chk (room (Zx b) 1) (Zj (loopM (fun (st:List AV)=>cInt .i64 st fun n r=>cInt .i64 r fun n_1 r=>cBool r fun b r=>onCons r fun x r=>Xn x fun b_1=>cInt .i64 r fun n_2 r=>let t1:Int:=Zy .u64 (Zy .i64 (8*Zy .i64 (Zy .i64 (n_1-1)-n_2)));let t2:List UInt8:=[Yk (Zu (Zy .u8 (Int.fdiv (Zy .u64 n) (2 ^ min (Zu (Zy .u64 (Zy .i64 (8*n_2)))) (Zk .u64)))))];let t0:List UInt8:=[Yk (Zu (Zy .u8 (Int.fdiv (Zy .u64 n) (2 ^ min (Zu t1) (Zk .u64)))))];onNil r (sel (decide (n_2<n_1)) (sel b (chk (decide (0≤Zy .u64 (Zy .i64 (8*n_2)))) (chk (room (Zx b_1+Zx t2) 1) (some (Yn [Zz .i64 n,Zz .i64 n_1,Zv b,Yw (b_1++t2),Zz .i64 (Zy .i64 (n_2+1))])))) (chk (decide (0≤t1)) (chk (room (Zx b_1+Zx t0) 1) (some (Yn [Zz .i64 n,Zz .i64 n_1,Zv b,Yw (b_1++t0),Zz .i64 (Zy .i64 (n_2+1))]))))) (some (Yp (Yj 0,[Zz .i64 n,Zz .i64 n_1,Zv b,Yw b_1,Zz .i64 n_2]))))) [Zz .i64 n,Zz .i64 k,Zv little,Yw b,Zz .i64 0]) fun (r:Ex×List AV)=>cInt .i64 (Zd r) fun n r_1=>cInt .i64 r_1 fun n r_2=>cBool r_2 fun b r_3=>onCons r_3 fun x r_4=>Xn x fun b=>cInt .i64 r_4 fun n r_5=>onNil r_5 (exK r.1 none fun (j:Nat)=>sel (Xj j 0) (some (Yw b,[])) none)):Option (AV×Blocks))) (by kernel_rfl) ?_
  try dsimp only [cStr,cBs,cBool,cU8,cInt,cSl,l63]
  simp only [Zp,decide_eq_true_eq] at hpre
  obtain ⟨hk,hb⟩:=hpre
  have hk4:k.toNat≤4∧0≤k:=by omega
  rw [chk_of (Xz (by omega))]
  refine loop_rounds (fun i:Nat=>[Zz Zw n,Zz Zw k,Zv little,Yw (b++(Kerb.putN n k.toNat little).take i),Zz Zw (i:Int)]) (fun i=>i≤k.toNat) (fun i=>k.toNat-i)
   (fun r=>r=(Yj 0,[Zz Zw n,Zz Zw k,Zv little,Yw (b++Kerb.putN n k.toNat little),Zz Zw k])) 0 (Ym _) (by simp) ?_ ?_
  ·intro i hi
   simp only [A0]
   by_cases hlt:i<k.toNat
   ·have hs:=Kerb.take_succ_getD (l:=Kerb.putN n k.toNat little) (i:=i) (by rw [Kerb.putN_len];omega)
    have hg:=Kerb.putN_getD n k.toNat little hlt
    have hl:((Kerb.putN n k.toNat little).take i).length=i:=by simp [Kerb.putN_len];omega
    rw [sel_pos (by simp;omega)]
    have hw:∀ j:Nat,j<4→Zy Yb (Zy Zw (8*(j:Int)))=((8*j:Nat):Int):=fun j hj=>by
     rw [wrap_i64 (by omega) (by omega),Kerb.wrap_u64];omega
    have hm:∀ j:Nat,j<4→min (Zu ((8*j:Nat):Int)) (Zk Yb)=8*j:=fun j hj=>by
     have:Zk Yb=64:=rfl
     rw [this];omega
    cases little
    ·have e:Zy Zw (Zy Zw (k-1)-(i:Int))=((k.toNat-1-i:Nat):Int):=by
      rw [wrap_i64 (n:=k-1) (by omega) (by omega),wrap_i64 (by omega) (by omega)];omega
     rw [sel_neg rfl,e,hw _ (by omega),hm _ (by omega),Kerb.ubyte n (by omega),chk_of (by simp;omega),chk_of (Xz (by simp [hl];omega)),wrap_i64 (by omega) (by omega)]
     refine ⟨_,rfl,i+1,?_,by omega,by dsimp only;omega⟩
     dsimp only
     rw [hs,hg,← List.append_assoc]
     rfl
    ·rw [sel_pos rfl,hw _ (by omega),hm _ (by omega),Kerb.ubyte n (by omega),chk_of (by simp;omega),chk_of (Xz (by simp [hl];omega)),wrap_i64 (by omega) (by omega)]
     refine ⟨_,rfl,i+1,?_,by omega,by dsimp only;omega⟩
     dsimp only
     rw [hs,hg,← List.append_assoc]
     rfl
   ·rw [sel_neg (by simp;omega)]
    refine ⟨_,rfl,?_⟩
    show _=_
    rw [Zm (by rw [Kerb.putN_len];omega),show (i:Int)=k from by omega]
  ·rintro r rfl
   simp only [A0]
   rw [sel_pos (Yq _)]
 ·cases h
theorem w141:Walked Tryz.prog G 141 1 sp141:=by
 refine ⟨Tryz.f141,Tryz.func141,by decide +kernel,rfl,fun xs bl r h=> ?_⟩
 unfold sp141 at h
 split at h
 ·rename_i c n
  cases h
  refine Eq.trans (b:=(sel (!c==1) (sel (!c==2) (some (Zz .u64 0,[])) (sel (decide (n<1)) (some (Zz .u64 0,[])) (sel (decide (n>4294967295)) (some (Zz .u64 0,[])) (some (Zz .u64 (Zy .u64 (↑(BitVec.toNat (BitVec.ofInt (Zk .u64) (Zy .u64 (Zy .u64 c*2 ^ min (Zu 56) (Zk .u64))) ||| BitVec.ofInt (Zk .u64) (Zy .u64 n))):Int)),[]))))) (sel (decide (n<1)) (some (Zz .u64 0,[])) (sel (decide (n>4294967295)) (some (Zz .u64 0,[])) (some (Zz .u64 (Zy .u64 (↑(BitVec.toNat (BitVec.ofInt (Zk .u64) (Zy .u64 (Zy .u64 c*2 ^ min (Zu 56) (Zk .u64))) ||| BitVec.ofInt (Zk .u64) (Zy .u64 n))):Int)),[])))):Option (AV×Blocks))) (by kernel_rfl) ?_
  unfold Wg Wj
  by_cases hc:c=1∨c=2
  case neg =>
   have q1:(c==(1:Int))=false:=by simp;omega
   have q2:(c==(2:Int))=false:=by simp;omega
   rw [q1,q2]
   rfl
  by_cases hn:1≤n∧n≤4294967295
  case neg =>
   have q:(decide (1≤n)&&decide (n≤4294967295))=false:=by
    rw [Bool.eq_false_iff]
    simp
    omega
   rw [q,Bool.and_false]
   have key:(sel (decide (n<(1:Int))) (some (Zz .u64 (0:Int),([]:Blocks))) (sel (decide (n>(4294967295:Int))) (some (Zz .u64 (0:Int),[])) (some (Zz Yb (Zy Yb ((BitVec.toNat (BitVec.ofInt (Zk Yb) (Zy Yb (Zy Yb c*(2:Int) ^ min (Zu (56:Int)) (Zk Yb))) ||| BitVec.ofInt (Zk Yb) (Zy Yb n)):Nat):Int)),[]))))=some (Zz .u64 0,[]):=by
    by_cases hl:n<1
    ·rw [sel_pos (by simpa using hl)]
    ·rw [sel_neg (by simpa using hl),sel_pos (by simp;omega)]
   rcases hc with rfl | rfl
   ·rw [sel_neg (by decide)];exact key
   ·rw [sel_pos (by decide),sel_neg (by decide)];exact key
  have q:(decide (1≤n)&&decide (n≤4294967295))=true:=by simp;omega
  have q2:(c==(1:Int)||c==(2:Int))=true:=by simpa using hc
  rw [q,q2,Kerb.key_make hc hn.1 hn.2]
  rcases hc with rfl | rfl
  ·rw [sel_neg (by decide),sel_neg (by simp;omega),sel_neg (by simp;omega)]
   rfl
  ·rw [sel_pos (by decide),sel_neg (by decide),sel_neg (by simp;omega),sel_neg (by simp;omega)]
   rfl
 ·cases h
theorem w143:Walked Tryz.prog G 143 1 sp143:=by
 refine ⟨Tryz.f143,Tryz.func143,by decide +kernel,rfl,fun xs bl r h=> ?_⟩
 unfold sp143 at h
 split at h
 ·rename_i n m
  cases h
  refine Eq.trans (b:=(sel (decide (n≥0)) (some (Zv (decide (n≤m)),[])) (some (Zv false,[])):Option (AV×Blocks))) (by kernel_rfl) ?_
  by_cases h:0≤n<;>simp [sel,Yz,h]
 ·cases h
theorem w146:Walked Tryz.prog G 146 1 sp146:=by
 refine ⟨Tryz.f146,Tryz.func146,by decide +kernel,rfl,fun xs bl r h=> ?_⟩
 unfold sp146 at h
 split at h
 ·rename_i s bad
  obtain ⟨hpre,h2⟩:=chk_inv h;cases h2
  refine Eq.trans (b:=(Zj (loopM (fun (st:List AV)=>cStr st fun b r=>cStr r fun b_1 r=>cBool r fun b_2 r=>cInt .i64 r fun n r=>let t0:Int:=(↑(Zh (Zb b (Zu n) (0:UInt8))):Int);let t1:Option (List AV ⊕ Ex×List AV):=some (Yp (Ex.ret,[Zq b,Zq b_1,Zv false,Zz .i64 n]));onNil r (sel (decide (n<(↑(Zx b):Int))) (chk (decide (0≤n)&&decide (n<(↑(Zx b):Int))) (sel (decide (t0<(↑(Zh (33:UInt8)):Int))) t1 (chk (decide (0≤n)&&decide (n<(↑(Zx b):Int))) (sel (decide (t0>(↑(Zh (126:UInt8)):Int))) t1 (Zj (loopM (fun (st:List AV)=>cStr st fun b r=>cStr r fun b_3 r=>cBool r fun b_4 r=>cInt .i64 r fun n r=>cInt .i64 r fun n_1 r=>onNil r (sel (decide (n_1<(↑(Zx b_3):Int))) (chk (decide (0≤n)&&decide (n<(↑(Zx b):Int))) (chk (decide (0≤n_1)&&decide (n_1<(↑(Zx b_3):Int))) (sel (Zb b (Zu n) (0:UInt8)==Zb b_3 (Zu n_1) (0:UInt8)) (some (Yp (Ex.ret,[Zq b,Zq b_3,Zv false,Zz .i64 n,Zz .i64 n_1]))) (some (Yn [Zq b,Zq b_3,Zv b_4,Zz .i64 n,Zz .i64 (Zy .i64 (n_1+1))]))))) (some (Yp (Yj 2,[Zq b,Zq b_3,Zv b_4,Zz .i64 n,Zz .i64 n_1]))))) [Zq b,Zq b_1,Zv b_2,Zz .i64 n,Zz .i64 0]) fun (r:Ex×List AV)=>cStr (Zd r) fun b r_1=>cStr r_1 fun b_3 r_2=>cBool r_2 fun b_4 r_3=>cInt .i64 r_3 fun n r_4=>cInt .i64 r_4 fun n_1 r_5=>onNil r_5 (exK r.1 (some (Yp (Ex.ret,[Zq b,Zq b_3,Zv b_4,Zz .i64 n]))) fun (j:Nat)=>sel (Xj j 2) (some (Yn [Zq b,Zq b_3,Zv b_4,Zz .i64 (Zy .i64 (n+1))])) none)))))) (some (Yp (Yj 0,[Zq b,Zq b_1,Zv b_2,Zz .i64 n]))))) [Zq s,Zq bad,Zv false,Zz .i64 0]) fun (r:Ex×List AV)=>cStr (Zd r) fun b r_1=>cStr r_1 fun b_1 r_2=>cBool r_2 fun b_2 r_3=>cInt .i64 r_3 fun n r_4=>onNil r_4 (exK r.1 (some (Zv b_2,[])) fun (j:Nat)=>sel (Xj j 0) (some (Zv (decide ((↑(Zx b):Int)≤39)),[])) none):Option (AV×Blocks))) (by kernel_rfl) ?_
  try dsimp only [cStr,cBs,cBool,cU8,cInt,cSl,l63]
  simp only [Zp,decide_eq_true_eq] at hpre
  refine loop_rounds (fun i:Nat=>[Zq s,Zq bad,Zv false,Zz Zw (i:Int)]) (fun i=>i≤s.length∧Xp s bad=Xp (s.drop i) bad) (fun i=>s.length-i)
   (fun r=>∃ i:Nat,r.2=[Zq s,Zq bad,Zv false,Zz Zw (i:Int)]∧((r.1 = .ret∧Xp s bad=false)∨(r.1 = .exit 0∧Xp s bad=true))) 0 ⟨Ym _,rfl⟩ rfl ?_ ?_
  ·rintro i ⟨hi,hp⟩
   simp only [A0]
   by_cases hlt:i<s.length
   ·have hc:(decide ((0:Int)≤(i:Int))&&decide ((i:Int)<(s.length:Int)))=true:=by simp;omega
    have hd:=Kerb.drop_all_cons hlt
    rw [sel_pos (by simp;omega),chk_of hc,Zg]
    have hpr:Xp (s.drop i) bad=(Kerb.okB bad (s.getD i 0)&&Xp (s.drop (i+1)) bad):=by rw [hd];rfl
    generalize hcc:s.getD i 0=c at *
    by_cases h1:c.toNat<33
    ·rw [sel_pos (by simp;omega)]
     exact ⟨_,rfl,i,rfl,.inl ⟨rfl,by rw [hp,hpr];simp [Kerb.okB,h1]⟩⟩
    rw [sel_neg (by simp;omega),chk_of hc]
    by_cases h2:126<c.toNat
    ·rw [sel_pos (by simp;omega)]
     exact ⟨_,rfl,i,rfl,.inl ⟨rfl,by rw [hp,hpr];simp [Kerb.okB,h2]⟩⟩
    rw [sel_neg (by simp;omega)]
    refine loop_ex (fun j:Nat=>[Zq s,Zq bad,Zv false,Zz Zw (i:Int),Zz Zw (j:Int)]) (fun j=>j≤bad.length∧(c∈bad↔c∈bad.drop j)) (fun j=>bad.length-j)
     (fun r=>∃ j:Nat,r.2=[Zq s,Zq bad,Zv false,Zz Zw (i:Int),Zz Zw (j:Int)]∧((r.1 = .ret∧c∈bad)∨(r.1 = .exit 2∧c ∉ bad))) 0 ⟨Ym _,by simp⟩ rfl ?_ ?_
    ·rintro j ⟨hj,hm⟩
     simp only [A0]
     by_cases hjl:j<bad.length
     ·have hdj:=Kerb.drop_all_cons hjl
      rw [sel_pos (by simp;omega),chk_of hc,chk_of (by simp;omega),Zg,Zg,hcc]
      rw [hdj,List.mem_cons] at hm
      by_cases h3:c=bad.getD j 0
      ·rw [sel_pos (by simpa using h3)]
       exact ⟨_,rfl,j,rfl,.inl ⟨rfl,hm.2 (.inl h3)⟩⟩
      ·rw [sel_neg (by simpa using h3),wrap_i64 (by omega) (by omega)]
       exact ⟨_,rfl,j+1,rfl,⟨by omega,hm.trans ⟨fun h=>h.resolve_left h3,.inr⟩⟩,by dsimp only;omega⟩
     ·rw [sel_neg (by simp;omega)]
      refine ⟨_,rfl,j,rfl,.inr ⟨rfl,?_⟩⟩
      rw [hm,Yg (by omega)];simp
    ·rintro ⟨e,l⟩ ⟨j,rfl,⟨rfl,h3⟩ | ⟨rfl,h3⟩⟩
     ·simp only [A0]
      exact ⟨_,rfl,i,rfl,.inl ⟨rfl,by rw [hp,hpr];simp [Kerb.okB,h3]⟩⟩
     ·simp only [A0]
      rw [sel_pos (Yq _),wrap_i64 (by omega) (by omega)]
      exact ⟨_,rfl,i+1,rfl,⟨by omega,by rw [hp,hpr];simp [Kerb.okB,h1,h2,h3]⟩,by dsimp only;omega⟩
   ·rw [sel_neg (by simp;omega)]
    exact ⟨_,rfl,i,rfl,.inr ⟨rfl,by rw [hp,Yg (by omega)];rfl⟩⟩
  ·rintro ⟨e,l⟩ ⟨i,rfl,⟨rfl,hp⟩ | ⟨rfl,hp⟩⟩
   ·simp only [A0,hp]
    rfl
   ·simp only [A0,hp]
    rw [sel_pos (Yq _),decide_eq_decide.2 (show ((s.length:Int)≤39)↔s.length≤39 from by omega)]
    rfl
 ·cases h
theorem w147:Walked Tryz.prog G 147 1 sp147:=by
 refine ⟨Tryz.f147,Tryz.func147,by decide +kernel,rfl,fun xs bl r h=> ?_⟩
 unfold sp147 at h
 split at h
 ·rename_i k
  cases h
  refine Eq.trans (b:=(sel (k==1) (some (Zv true,[])) (some (Zv (k==2),[])):Option (AV×Blocks))) (by kernel_rfl) ?_
  unfold Wg
  cases (k==(1:Int))<;>rfl
 ·cases h
theorem w148:Walked Tryz.prog G 148 1 sp148:=by
 refine ⟨Tryz.f148,Tryz.func148,by decide +kernel,rfl,fun xs bl r h=> ?_⟩
 unfold sp148 at h
 split at h
 ·rename_i k
  cases h
  refine Eq.trans (b:=(sel (decide (k≥1)) (some (Zv (decide (k≤4294967295)),[])) (some (Zv false,[])):Option (AV×Blocks))) (by kernel_rfl) ?_
  by_cases h:1≤k<;>simp [sel,Wj,h]
 ·cases h
theorem w149:Walked Tryz.prog G 149 1 sp149:=by
 refine ⟨Tryz.f149,Tryz.func149,by decide +kernel,rfl,fun xs bl r h=> ?_⟩
 unfold sp149 at h
 split at h
 ·rename_i k
  cases h
  refine Eq.trans (b:=(sel (decide (k≥1)) (some (Zv (decide (k≤10)),[])) (some (Zv false,[])):Option (AV×Blocks))) (by kernel_rfl) ?_
  by_cases h:1≤k<;>simp [sel,Xm,h]
 ·cases h
theorem w156:Walked Tryz.prog G 156 1 sp156:=by
 refine ⟨Tryz.f156,Tryz.func156,by decide +kernel,rfl,fun xs bl r h=> ?_⟩
 unfold sp156 at h
 split at h
 ·rename_i x y z v k
  cases h
  refine Eq.trans (b:=(some (Wp [Zq x,Zq y,Zq z,Zz .i64 v],[]):Option (AV×Blocks))) (by kernel_rfl) ?_
  rfl
 ·cases h
theorem w157:Walked Tryz.prog G 157 1 sp157:=by
 refine ⟨Tryz.f157,Tryz.func157,by decide +kernel,rfl,fun xs bl r h=> ?_⟩
 unfold sp157 at h
 split at h
 ·rename_i mls a1 a2 a3 at_ atk
  obtain ⟨hpre,h2⟩:=chk_inv h;cases h2
  refine Eq.trans (b:=(Zj (loopM (fun (st:List AV)=>cStr st fun b r=>cStr r fun b_1 r=>cStr r fun b_2 r=>cInt .i64 r fun n r=>cInt .i64 r fun n_1 r=>cBool r fun b_3 r=>cSl 5 r fun b_4 r=>cInt .i64 r fun n_2 r=>cInt .i64 r fun n_3 r=>onNil r (sel (decide (n_3<n_2)) (chk (decide (0≤n_3)&&decide (n_3<(↑(Zx b_4):Int))&&true) (Vz (Zb b_4 (Zu n_3) Xq) fun cs=>cStr cs fun b_5 r=>cStr r fun b_6 r=>cStr r fun b_7 r=>cInt .i64 r fun n_4 r=>cInt .i64 r fun n_5 r=>onNil r (sel (b_5==b&&(b_6==b_1&&(b_7==b_2&&(n_4==n&&n_5==n_1)))) (some (Yp (Ex.ret,[Zq b,Zq b_1,Zq b_2,Zz .i64 n,Zz .i64 n_1,Zv true,Zf 5 b_4,Zz .i64 n_2,Zz .i64 n_3]))) (some (Yn [Zq b,Zq b_1,Zq b_2,Zz .i64 n,Zz .i64 n_1,Zv b_3,Zf 5 b_4,Zz .i64 n_2,Zz .i64 (Zy .i64 (n_3+1))]))))) (some (Yp (Yj 0,[Zq b,Zq b_1,Zq b_2,Zz .i64 n,Zz .i64 n_1,Zv b_3,Zf 5 b_4,Zz .i64 n_2,Zz .i64 n_3]))))) [Zq a1,Zq a2,Zq a3,Zz .i64 at_,Zz .i64 atk,Zv false,Zf 5 mls,Zz .i64 (↑(Zx mls):Int),Zz .i64 0]) fun (r:Ex×List AV)=>cStr (Zd r) fun b r_1=>cStr r_1 fun b r_2=>cStr r_2 fun b r_3=>cInt .i64 r_3 fun n r_4=>cInt .i64 r_4 fun n r_5=>cBool r_5 fun b r_6=>cSl 5 r_6 fun b_1 r_7=>cInt .i64 r_7 fun n r_8=>cInt .i64 r_8 fun n r_9=>onNil r_9 (exK r.1 (some (Zv b,[])) fun (j:Nat)=>sel (Xj j 0) (some (Zv false,[])) none):Option (AV×Blocks))) (by kernel_rfl) ?_
  try dsimp only [cStr,cBs,cBool,cU8,cInt,cSl,l63]
  simp only [Zp,decide_eq_true_eq] at hpre
  obtain ⟨hall,hlen⟩:=hpre
  obtain ⟨cs,rfl,hok⟩:=Kerb.marks_of hall
  rw [Kerb.map_toMark]
  simp only [Xv] at hlen ⊢
  refine loop_rounds (fun i:Nat=>[Zq a1,Zq a2,Zq a3,Zz Zw at_,Zz Zw atk,Zv false,Zf 5 (cs.map Kerb.Mark.av),Zz Zw (cs.length:Int),Zz Zw (i:Int)]) (fun i=>i≤cs.length∧Kerb.hasMark cs ⟨⟨a1,a2,a3⟩,at_,atk⟩=Kerb.hasMark (cs.drop i) ⟨⟨a1,a2,a3⟩,at_,atk⟩) (fun i=>cs.length-i)
   (fun r=>∃ (i:Nat) (q:Bool),r.2=[Zq a1,Zq a2,Zq a3,Zz Zw at_,Zz Zw atk,Zv q,Zf 5 (cs.map Kerb.Mark.av),Zz Zw (cs.length:Int),Zz Zw (i:Int)]∧((r.1 = .ret∧q=true∧Kerb.hasMark cs ⟨⟨a1,a2,a3⟩,at_,atk⟩=true)∨(r.1 = .exit 0∧Kerb.hasMark cs ⟨⟨a1,a2,a3⟩,at_,atk⟩=false))) 0 ⟨Ym _,by simp⟩ rfl ?_ ?_
  ·rintro i ⟨hi,hp⟩
   simp only [↓A0,A0,Xv]
   by_cases hlt:i<cs.length
   ·rw [sel_pos (by simp;omega),chk_of (by simp;omega),Zg,Kerb.getD_row (d:=Kerb.noMark) hlt]
    obtain ⟨c,hc⟩:∃ c,cs.getD i Kerb.noMark=c:=⟨_,rfl⟩
    have hd:=Kerb.hasMark_step (m:=⟨⟨a1,a2,a3⟩,at_,atk⟩) hlt hc
    rw [hc]
    simp only [Kerb.Mark.av,↓A0,A0]
    rw [wrap_i64 (by omega) (by omega)]
    show ∃ y,sel (Kerb.Mark.eqb c ⟨⟨a1,a2,a3⟩,at_,atk⟩) _ _=some y∧_
    cases he:Kerb.Mark.eqb c ⟨⟨a1,a2,a3⟩,at_,atk⟩
    ·rw [he,Bool.false_or] at hd
     exact ⟨_,rfl,i+1,rfl,⟨by omega,hp.trans hd⟩,by dsimp only;omega⟩
    ·rw [he,Bool.true_or] at hd
     exact ⟨_,rfl,i,_,rfl,.inl ⟨rfl,rfl,hp.trans hd⟩⟩
   ·rw [sel_neg (by simp;omega)]
    refine ⟨_,rfl,i,_,rfl,.inr ⟨rfl,?_⟩⟩
    rw [hp,Yg (by omega)]
    rfl
  ·rintro ⟨e,l⟩ ⟨i,q,rfl,⟨rfl,rfl,h⟩ | ⟨rfl,h⟩⟩
   ·simp only [↓A0,A0,h]
   ·simp only [↓A0,A0,h]
    rw [sel_pos (Yq _)]
 ·cases h
theorem w159:Walked Tryz.prog G 159 1 sp159:=by
 refine ⟨Tryz.f159,Tryz.func159,by decide +kernel,rfl,fun xs bl r h=> ?_⟩
 unfold sp159 at h
 split at h
 ·rename_i n
  cases h
  refine Eq.trans (b:=(sel (decide (n≥0)) (some (Zv (decide (n≤4294967295)),[])) (some (Zv false,[])):Option (AV×Blocks))) (by kernel_rfl) ?_
  by_cases h:0≤n<;>simp [sel,Yz,h]
 ·cases h
theorem w160:Walked Tryz.prog G 160 1 sp160:=by
 refine ⟨Tryz.f160,Tryz.func160,by decide +kernel,rfl,fun xs bl r h=> ?_⟩
 unfold sp160 at h
 split at h
 ·rename_i n
  cases h
  refine Eq.trans (b:=(sel (decide (n≥0)) (some (Zv (decide (n≤255)),[])) (some (Zv false,[])):Option (AV×Blocks))) (by kernel_rfl) ?_
  by_cases h:0≤n<;>simp [sel,Yz,h]
 ·cases h
theorem w161:Walked Tryz.prog G 161 1 sp161:=by
 refine ⟨Tryz.f161,Tryz.func161,by decide +kernel,rfl,fun xs bl r h=> ?_⟩
 unfold sp161 at h
 split at h
 ·rename_i n m
  cases h
  refine Eq.trans (b:=(sel (decide (n≥0)) (some (Zv (decide (n≤m)),[])) (some (Zv false,[])):Option (AV×Blocks))) (by kernel_rfl) ?_
  by_cases h:0≤n<;>simp [sel,Yz,h]
 ·cases h
theorem w169:Walked Tryz.prog G 169 1 sp169:=by
 refine ⟨Tryz.f169,Tryz.func169,by decide +kernel,rfl,fun xs bl r h=> ?_⟩
 unfold sp169 at h
 split at h
 ·rename_i n els
  obtain ⟨hpre,h2⟩:=chk_inv h;cases h2
  refine Eq.trans (b:=(Zj (loopM (fun (st:List AV)=>onCons st fun x r=>Yh .i64 x fun n=>onCons r fun x r=>AV.onSl 1 x fun b=>onCons r fun x r=>Yh .i64 x fun n_1=>onCons r fun x r=>Yh .i64 x fun n_2=>onNil r (sel (decide (n_2<n_1)) (chk (decide (0≤n_2)&&decide (n_2<(↑(Zx b):Int))&&true) (Yh .i64 (Zb b (Zu n_2) Xq) fun n_3=>sel (decide (n_3<n)) (some (Yn [Zz .i64 n_3,Zf 1 b,Zz .i64 n_1,Zz .i64 (Zy .i64 (n_2+1))])) (some (Yn [Zz .i64 n,Zf 1 b,Zz .i64 n_1,Zz .i64 (Zy .i64 (n_2+1))])))) (some (Yp (Yj 0,[Zz .i64 n,Zf 1 b,Zz .i64 n_1,Zz .i64 n_2]))))) [Zz .i64 n,Zf 1 els,Zz .i64 (↑(Zx els):Int),Zz .i64 0]) fun (r:Ex×List AV)=>onCons (Zd r) fun x r_1=>Yh .i64 x fun n=>onCons r_1 fun x r_2=>AV.onSl 1 x fun b=>onCons r_2 fun x r_3=>Yh .i64 x fun n_1=>onCons r_3 fun x r_4=>Yh .i64 x fun n_2=>onNil r_4 (exK r.1 none fun (j:Nat)=>sel (Xj j 0) (some (Zz .i64 n,[])) none):Option (AV×Blocks))) (by kernel_rfl) ?_
  simp only [Zp,decide_eq_true_eq] at hpre
  obtain ⟨ha,hl⟩:=hpre
  have hil:=Kerb.ints_len ha
  refine loop_rounds (fun i:Nat=>[Zz Zw (Wq n ((intsIn els).take i)),Zf 1 els,Zz Zw (els.length:Int),Zz Zw (i:Int)]) (fun i=>i≤els.length) (fun i=>els.length-i)
   (fun r=>r=(.exit 0,[Zz Zw (Wq n (intsIn els)),Zf 1 els,Zz Zw (els.length:Int),Zz Zw (els.length:Int)])) 0 (Ym _) rfl ?_ ?_
  ·intro i hi
   simp only [↓A0,A0]
   rcases Nat.lt_or_ge i els.length with h | h
   ·obtain ⟨m,h1,h2⟩:=Kerb.ints_get ha h
    rw [sel_pos (by simp;omega),chk_of (by simp;omega),Zg,h1,onInt_int]
    have ht:(intsIn els).take (i+1)=(intsIn els).take i++[m]:=by
     have h4:i<(intsIn els).length:=by omega
     rw [List.take_succ_eq_append_getElem h4]
     rw [List.drop_eq_getElem_cons h4] at h2
     rw [(List.cons.inj h2).1]
    have hs:Wq n ((intsIn els).take (i+1))=Kerb.imin (Wq n ((intsIn els).take i)) m:=by rw [ht];simp [Wq]
    rw [wrap_i64 (by omega) (by omega)]
    unfold Kerb.imin at hs
    by_cases hm:m<Wq n ((intsIn els).take i)
    ·rw [sel_pos (by simpa using hm)]
     rw [if_pos hm] at hs
     exact ⟨_,rfl,i+1,by dsimp only;rw [hs];rfl,by omega,by dsimp only;omega⟩
    ·rw [sel_neg (by simpa using hm)]
     rw [if_neg hm] at hs
     exact ⟨_,rfl,i+1,by dsimp only;rw [hs];rfl,by omega,by dsimp only;omega⟩
   ·have h1:i=els.length:=by omega
    subst h1
    rw [sel_neg (by simp)]
    refine ⟨_,rfl,?_⟩
    show _=_
    rw [Zm (by omega)]
  ·rintro _ rfl
   rfl
 ·cases h
theorem w171:Walked Tryz.prog G 171 1 sp171:=by
 refine ⟨Tryz.f171,Tryz.func171,by decide +kernel,rfl,fun xs bl r h=> ?_⟩
 unfold sp171 at h
 split at h
 ·rename_i k
  obtain ⟨hpre,h2⟩:=chk_inv h;cases h2
  refine Eq.trans (b:=(Zj (loopM (fun (st:List AV)=>cInt .u64 st fun n r=>onCons r fun x r=>Xn x fun b=>cInt .i64 r fun n_1 r=>cInt .i64 r fun n_2 r=>let t0:Int:=Zy .i64 (8*Zy .i64 (7-n_2));onNil r (sel (decide (n_2<n_1)) (chk (decide (0≤t0)) (chk (decide (0≤n_2)&&decide (n_2<(↑(Zx b):Int))) (chk (Nat.blt (Zu n_2) (Zx b)&&true&&true&&true&&true) (some (Yn [Zz .u64 n,Yw (List.set b (Zu n_2) (Yk (Zu (Zy .u8 (Int.fdiv n (2 ^ min (Zu t0) (Zk .u64))))))),Zz .i64 n_1,Zz .i64 (Zy .i64 (n_2+1))]))))) (some (Yp (Yj 0,[Zz .u64 n,Yw b,Zz .i64 n_1,Zz .i64 n_2]))))) [Zz .u64 k,Yw (List.replicate (Zu 8) (0:UInt8)),Zz .i64 (↑(Zx (List.replicate (Zu 8) (0:UInt8))):Int),Zz .i64 0]) fun (r:Ex×List AV)=>cInt .u64 (Zd r) fun n r_1=>onCons r_1 fun x r_2=>Xn x fun b=>cInt .i64 r_2 fun n r_3=>cInt .i64 r_3 fun n r_4=>onNil r_4 (exK r.1 none fun (j:Nat)=>sel (Xj j 0) (some (Zn b,[])) none):Option (AV×Blocks))) (by kernel_rfl) ?_
  try dsimp only [cStr,cBs,cBool,cU8,cInt,cSl,l63]
  refine loop_unroll 9 (Yj 0,[Zz Yb k,Yw [Xg k 56,Xg k 48,Xg k 40,Xg k 32,Xg k 24,Xg k 16,Xg k 8,Xg k 0],Zz Zw 8,Zz Zw 8]) (by kernel_rfl) ?_
  simp only [A0]
  rw [sel_pos (Yq _)]
  simp [Kerb.bfd_eq,Kerb.keyBytes,Kerb.byteAt,List.range_succ]
 ·cases h
theorem w173:Walked Tryz.prog G 173 1 sp173:=by
 refine ⟨Tryz.f173,Tryz.func173,by decide +kernel,rfl,fun xs bl r h=> ?_⟩
 unfold sp173 at h
 split at h
 ·rename_i k
  cases h
  refine Eq.trans (b:=(sel (decide (k≥1)) (some (Zv (decide (k≤10)),[])) (some (Zv false,[])):Option (AV×Blocks))) (by kernel_rfl) ?_
  by_cases h:1≤k<;>simp [sel,Xm,h]
 ·cases h
theorem w180:Walked Tryz.prog G 180 1 sp180:=by
 refine ⟨Tryz.f180,Tryz.func180,by decide +kernel,rfl,fun xs bl r h=> ?_⟩
 unfold sp180 at h
 split at h
 ·rename_i n m
  cases h
  refine Eq.trans (b:=(sel (decide (n≥0)) (some (Zv (decide (n≤m)),[])) (some (Zv false,[])):Option (AV×Blocks))) (by kernel_rfl) ?_
  by_cases h:0≤n<;>simp [sel,Yz,h]
 ·cases h
theorem w183:Walked Tryz.prog G 183 1 sp183:=by
 refine ⟨Tryz.f183,Tryz.func183,by decide +kernel,rfl,fun xs bl r h=> ?_⟩
 unfold sp183 at h
 split at h
 ·rename_i n m
  cases h
  refine Eq.trans (b:=(sel (decide (n≥0)) (some (Zv (decide (n≤m)),[])) (some (Zv false,[])):Option (AV×Blocks))) (by kernel_rfl) ?_
  by_cases h:0≤n<;>simp [sel,Yz,h]
 ·cases h
theorem w184:Walked Tryz.prog G 184 1 sp184:=by
 refine ⟨Tryz.f184,Tryz.func184,by decide +kernel,rfl,fun xs bl r h=> ?_⟩
 unfold sp184 at h
 split at h
 ·rename_i n m
  cases h
  refine Eq.trans (b:=(sel (decide (n≥0)) (some (Zv (decide (n≤m)),[])) (some (Zv false,[])):Option (AV×Blocks))) (by kernel_rfl) ?_
  by_cases h:0≤n<;>simp [sel,Yz,h]
 ·cases h
theorem w34:Walked Tryz.prog G 34 2 sp34:=by
 refine ⟨Tryz.f34,Tryz.func34,by decide +kernel,rfl,fun xs bl r h=> ?_⟩
 unfold sp34 at h
 split at h
 ·rename_i b els
  obtain ⟨hpre,h2⟩:=chk_inv h;cases h2
  refine Eq.trans (b:=(sel (!Kerb.Head.err (Xb b)==0) (some (Yx [Zv false,Zz .i64 (Kerb.Head.err (Xb b))],[])) (Zj (loopM (fun (st:List AV)=>cSl 1 st fun b r=>cBool r fun b_1 r=>cInt .i64 r fun n r=>cInt .i64 r fun n_1 r=>cBool r fun b_2 r=>cInt .i64 r fun n_2 r=>onNil r (sel (decide (n_2<(↑(Zx b):Int))) (chk (decide (0≤n_2)&&decide (n_2<(↑(Zx b):Int))&&true) (Yh .i64 (Zb b (Zu n_2) Xq) fun n_3=>sel (n_3==n_1) (some (Yp (Ex.ret,[Zf 1 b,Zv b_2,Zz .i64 0,Zz .i64 n_1,Zv b_2,Zz .i64 n_2]))) (some (Yn [Zf 1 b,Zv b_1,Zz .i64 n,Zz .i64 n_1,Zv b_2,Zz .i64 (Zy .i64 (n_2+1))])))) (some (Yp (Yj 0,[Zf 1 b,Zv b_1,Zz .i64 n,Zz .i64 n_1,Zv b_2,Zz .i64 n_2]))))) [Zf 1 els,Zv false,Zz .i64 0,Zz .i64 (Kerb.Head.kind (Xb b)),Zv (Kerb.Head.little (Xb b)),Zz .i64 0]) fun (r:Ex×List AV)=>cSl 1 (Zd r) fun b r_1=>cBool r_1 fun b r_2=>cInt .i64 r_2 fun n r_3=>cInt .i64 r_3 fun n_1 r_4=>cBool r_4 fun b_1 r_5=>cInt .i64 r_5 fun n_2 r_6=>onNil r_6 (exK r.1 (some (Yx [Zv b,Zz .i64 n],[])) fun (j:Nat)=>sel (Xj j 0) (some (Yx [Zv false,Zz .i64 40],[])) none)):Option (AV×Blocks))) (by kernel_rfl) ?_
  try dsimp only [cStr,cBs,cBool,cU8,cInt,cSl,l63]
  simp only [Zp,decide_eq_true_eq] at hpre
  obtain ⟨ha,hl⟩:=hpre
  have hil:=Kerb.ints_len ha
  unfold Kerb.headIs
  by_cases he:(Xb b).err=0
  case neg =>
   rw [sel_pos (by simpa using he),if_pos he]
  rw [sel_neg (by simp [he]),if_neg (by simpa using he)]
  generalize (Xb b).kind=k
  generalize (Xb b).little=lt
  refine loop_rounds (fun i:Nat=>[Zf 1 els,Zv false,Zz Zw 0,Zz Zw k,Zv lt,Zz Zw (i:Int)]) (fun i=>i≤els.length∧(k∈intsIn els↔k∈(intsIn els).drop i)) (fun i=>els.length-i)
   (fun r=>∃ (i:Nat) (x:Bool),r.2=[Zf 1 els,Zv x,Zz Zw 0,Zz Zw k,Zv lt,Zz Zw (i:Int)]∧((r.1 = .ret∧x=lt∧k∈intsIn els)∨(r.1 = .exit 0∧k ∉ intsIn els))) 0 ⟨Ym _,by simp⟩ rfl ?_ ?_
  ·rintro i ⟨hi,hm⟩
   simp only [A0]
   by_cases hlt:i<els.length
   ·obtain ⟨n,h1,h2⟩:=Kerb.ints_get ha hlt
    rw [sel_pos (by simp;omega),chk_of (by simp;omega),Zg,h1,onInt_int]
    rw [h2,List.mem_cons] at hm
    by_cases h3:n=k
    ·rw [sel_pos (by simpa using h3)]
     exact ⟨_,rfl,i,lt,rfl,.inl ⟨rfl,rfl,hm.2 (.inl h3.symm)⟩⟩
    ·rw [sel_neg (by simpa using h3),wrap_i64 (by omega) (by omega)]
     exact ⟨_,rfl,i+1,rfl,⟨by omega,hm.trans ⟨fun h=>h.resolve_left fun e=>h3 e.symm,.inr⟩⟩,by dsimp only;omega⟩
   ·rw [sel_neg (by simp;omega)]
    refine ⟨_,rfl,i,false,rfl,.inr ⟨rfl,?_⟩⟩
    rw [hm,Yg (by omega)];simp
  ·rintro ⟨e,l⟩ ⟨i,x,rfl,⟨rfl,rfl,h⟩ | ⟨rfl,h⟩⟩
   ·simp only [A0]
    rw [if_pos (by simpa using h)]
   ·simp only [A0]
    rw [if_neg (by simpa using h),sel_pos (Yq _)]
 ·cases h
theorem w39:Walked Tryz.prog G 39 2 sp39:=by
 refine ⟨Tryz.f39,Tryz.func39,by decide +kernel,rfl,fun xs bl r h=> ?_⟩
 unfold sp39 at h
 split at h
 ·rename_i n B at_ li bad
  obtain ⟨hpre,h2⟩:=chk_inv h;cases h2
  show runFnH (G.env 39 2) G.rts (G.own 39) Tryz.f39 _ _ [0]=_
  refine Eq.trans (b:=(Zj (chk (decide (Zx B≤140737488355328)) (some (Yx [Zn (Wv (Wy B at_ n)),Zz .i64 (Wz (Wy B at_ n)),Zz .i64 (Xf (Wy B at_ n))],[]))) fun (r:AV×Blocks)=>onNilB (Zd r) (AV.onTup (Yv r) fun vs=>onCons vs fun x r=>AV.onBs x fun b=>onCons r fun x r=>Yh .i64 x fun n=>onCons r fun x r=>Yh .i64 x fun n_1=>onNil r (some (Zn b,[[Zn B,Zz .i64 (bif bad || !n_1==0 then at_ else n),Zv li,Zv (bad || !n_1==0)]]))):Option (AV×Blocks))) (by kernel_rfl) ?_
  simp only [A0]
  rw [chk_of hpre]
 ·cases h
theorem w43:Walked Tryz.prog G 43 2 sp43:=by
 refine ⟨Tryz.f43,Tryz.func43,by decide +kernel,rfl,fun xs bl r h=> ?_⟩
 unfold sp43 at h
 split at h
 ·rename_i n
  obtain ⟨hpre,h2⟩:=chk_inv h;cases h2
  refine Eq.trans (b:=(chk (decide (0≤Yy n 3)&&decide (Yy n 3<(↑(Zx [Zq [(65:UInt8),(84:UInt8),(72:UInt8)],Zq [(66:UInt8),(79:UInt8),(83:UInt8)],Zq [(67:UInt8),(65:UInt8),(77:UInt8)]]):Int))&&true) (Xd (Zb [Zq [(65:UInt8),(84:UInt8),(72:UInt8)],Zq [(66:UInt8),(79:UInt8),(83:UInt8)],Zq [(67:UInt8),(65:UInt8),(77:UInt8)]] (Zu (Yy n 3)) Xq) fun b=>some (Zq b,[])):Option (AV×Blocks))) (by kernel_rfl) ?_
  have hn:0≤n:=by first | exact of_decide_eq_true hpre | (simp only [Zp,decide_eq_true_eq] at hpre;exact hpre.1)
  have ht:Yy n 3=n % 3:=Yf hn
  have hcase:n % 3=0∨n % 3=1∨n % 3=2:=by omega
  rcases hcase with e | e | e<;>simp [ht,e,chk,Xd,Wh]
 ·cases h
theorem w44:Walked Tryz.prog G 44 2 sp44:=by
 refine ⟨Tryz.f44,Tryz.func44,by decide +kernel,rfl,fun xs bl r h=> ?_⟩
 unfold sp44 at h
 split at h
 ·rename_i B at_ li bad
  obtain ⟨hpre,h2⟩:=chk_inv h;cases h2
  show runFnH (G.env 44 2) G.rts (G.own 44) Tryz.f44 _ _ [0]=_
  refine Eq.trans (b:=(Zj (chk (decide (Zx B≤140737488355328)) (some (Yx [Zq (Wv (Xw B at_)),Zz .i64 (Wz (Xw B at_)),Zz .i64 (Xf (Xw B at_))],[]))) fun (r:AV×Blocks)=>onNilB (Zd r) (AV.onTup (Yv r) fun vs=>onCons vs fun x r=>Xd x fun b=>onCons r fun x r=>Yh .i64 x fun n=>onCons r fun x r=>Yh .i64 x fun n_1=>onNil r (some (Zq b,[[Zn B,Zz .i64 (bif bad || !n_1==0 then at_ else n),Zv li,Zv (bad || !n_1==0)]]))):Option (AV×Blocks))) (by kernel_rfl) ?_
  simp only [A0]
  rw [chk_of hpre]
 ·cases h
theorem w59:Walked Tryz.prog G 59 2 sp59:=by
 refine ⟨Tryz.f59,Tryz.func59,by decide +kernel,rfl,fun xs bl r h=> ?_⟩
 unfold sp59 at h
 split at h
 ·rename_i m1 m2 m3 kls sz fl mls sk
  obtain ⟨hpre,h2⟩:=chk_inv h;cases h2
  refine Eq.trans (b:=(Zj (chk (decide (Zx kls≤1000000)) (some (AV.ownL kls,[]))) fun (r:AV×Blocks)=>onNilB (Zd r) (AV.onOwnL (Yv r) fun l=>Zj (chk (decide (Zx mls≤1000000)) (some (AV.ownL mls,[]))) fun (r:AV×Blocks)=>onNilB (Zd r) (AV.onOwnL (Yv r) fun l_1=>some (Wp [Zq m1,Zq m2,Zq m3,Zf 5 l,Zz .i64 sz,Zz .i64 fl,Zf 5 l_1,Zz .i64 sk],[]))):Option (AV×Blocks))) (by kernel_rfl) ?_
  simp only [Zp,decide_eq_true_eq] at hpre
  simp only [hpre,decide_true,↓A0,A0]
 ·cases h
theorem w81:Walked Tryz.prog G 81 2 sp81:=by
 refine ⟨Tryz.f81,Tryz.func81,by decide +kernel,rfl,fun xs bl r h=> ?_⟩
 unfold sp81 at h
 split at h
 ·rename_i b x y z
  obtain ⟨hpre,h2⟩:=chk_inv h;cases h2
  refine Eq.trans (b:=(Zj (chk (decide (Zx b+Zx x≤70368744177664)) (some (Zn (Wd b x),[]))) fun (r:AV×Blocks)=>onNilB (Zd r) (AV.onBs (Yv r) fun b=>Zj (chk (decide (Zx b+Zx y≤70368744177664)) (some (Zn (Wd b y),[]))) fun (r:AV×Blocks)=>onNilB (Zd r) (AV.onBs (Yv r) fun b=>Zj (chk (decide (Zx b+Zx z≤70368744177664)) (some (Zn (Wd b z),[]))) fun (r:AV×Blocks)=>onNilB (Zd r) (AV.onBs (Yv r) fun b=>some (Zn b,[])))):Option (AV×Blocks))) (by kernel_rfl) ?_
  simp only [decide_eq_true_eq] at hpre
  simp only [A0]
  rw [chk_of (by simp;omega),chk_of (by simp [Wd];omega),chk_of (by simp [Wd];omega)]
  rfl
 ·cases h
theorem w83:Walked Tryz.prog G 83 2 sp83:=by
 refine ⟨Tryz.f83,Tryz.func83,by decide +kernel,rfl,fun xs bl r h=> ?_⟩
 unfold sp83 at h
 split at h
 ·rename_i b n
  obtain ⟨hpre,h2⟩:=chk_inv h;cases h2
  refine Eq.trans (b:=(Zj (chk (decide (Zx b≤70368744177664)) (some (Yw (b++Kerb.putN n (Zu 1) false),[]))) fun (r:AV×Blocks)=>onNilB (Zd r) (Xn (Yv r) fun l=>some (Yw l,[])):Option (AV×Blocks))) (by kernel_rfl) ?_
  simp only [decide_eq_true_eq] at hpre
  simp only [A0]
  rw [chk_of (by simp;omega)]
  rfl
 ·cases h
theorem w84:Walked Tryz.prog G 84 2 sp84:=by
 refine ⟨Tryz.f84,Tryz.func84,by decide +kernel,rfl,fun xs bl r h=> ?_⟩
 unfold sp84 at h
 split at h
 ·rename_i b n little
  obtain ⟨hpre,h2⟩:=chk_inv h;cases h2
  refine Eq.trans (b:=(Zj (chk (decide (Zx b≤70368744177664)) (some (Yw (b++Kerb.putN n (Zu 4) little),[]))) fun (r:AV×Blocks)=>onNilB (Zd r) (Xn (Yv r) fun l=>some (Yw l,[])):Option (AV×Blocks))) (by kernel_rfl) ?_
  simp only [decide_eq_true_eq] at hpre
  simp only [A0]
  rw [chk_of (by simp;omega)]
  rfl
 ·cases h
theorem w85:Walked Tryz.prog G 85 2 sp85:=by
 refine ⟨Tryz.f85,Tryz.func85,by decide +kernel,rfl,fun xs bl r h=> ?_⟩
 unfold sp85 at h
 split at h
 ·rename_i b n little
  obtain ⟨hpre,h2⟩:=chk_inv h;cases h2
  refine Eq.trans (b:=(Zj (chk (decide (Zx b≤70368744177664)) (some (Yw (b++Kerb.putN n (Zu 2) little),[]))) fun (r:AV×Blocks)=>onNilB (Zd r) (Xn (Yv r) fun l=>some (Yw l,[])):Option (AV×Blocks))) (by kernel_rfl) ?_
  simp only [decide_eq_true_eq] at hpre
  simp only [A0]
  rw [chk_of (by simp;omega)]
  rfl
 ·cases h
theorem w86:Walked Tryz.prog G 86 2 sp86:=by
 refine ⟨Tryz.f86,Tryz.func86,by decide +kernel,rfl,fun xs bl r h=> ?_⟩
 unfold sp86 at h
 split at h
 ·rename_i k
  obtain ⟨hpre,h2⟩:=chk_inv h;cases h2
  refine Eq.trans (b:=(sel (!k==0) (some (Zv ((bif Wg (Zy .i64 (Int.fdiv k (2 ^ min (Zu 56) (Zk .u64))))&&Wj (Zy .i64 (Zy .u64 (↑(BitVec.toNat (BitVec.ofInt (Zk .u64) k &&& BitVec.ofInt (Zk .u64) 72057594037927935)):Int))) then Zy .i64 (Int.fdiv k (2 ^ min (Zu 56) (Zk .u64)))*72057594037927936+Zy .i64 (Zy .u64 (↑(BitVec.toNat (BitVec.ofInt (Zk .u64) k &&& BitVec.ofInt (Zk .u64) 72057594037927935)):Int)) else 0)==k),[])) (some (Zv false,[])):Option (AV×Blocks))) (by kernel_rfl) ?_
  simp only [Zp,decide_eq_true_eq] at hpre
  obtain ⟨h0,h1⟩:=hpre
  rw [Kerb.key_hi h0 h1,Kerb.key_lo h0 h1,Kerb.key_sum]
  by_cases hk:k=0
  ·subst hk;rfl
  rw [sel_pos (by simpa using hk)]
  unfold Xh
  cases Wg (Kerb.keyClass k)&&Wj (Kerb.keySerial k)
  ·have q:((0:Int)==k)=false:=by simp;omega
   simp only [cond_false,q]
  ·simp only [cond_true,BEq.rfl]
 ·cases h
theorem w97:Walked Tryz.prog G 97 2 sp97:=by
 refine ⟨Tryz.f97,Tryz.func97,by decide +kernel,rfl,fun xs bl r h=> ?_⟩
 unfold sp97 at h
 split at h
 ·rename_i s
  obtain ⟨hpre,h2⟩:=chk_inv h;cases h2
  refine Eq.trans (b:=(sel (decide ((↑(Zx s):Int)>0)) (Zj (chk (decide (Zx s≤9223372036854775807)&&true) (some (Zv (Xp s [(46:UInt8),(64:UInt8)]&&decide (Zx s≤39)),[]))) fun (r:AV×Blocks)=>onNilB (Zd r) (AV.onBool (Yv r) fun b=>some (Zv b,[]))) (some (Zv false,[])):Option (AV×Blocks))) (by kernel_rfl) ?_
  simp only [A0]
  rw [chk_of (by rw [hpre];rfl)]
  simp only [Kerb.validName]
  cases s with
  | nil=>rfl
  | cons x r =>
   rw [sel_pos (by first | (simp;done) | (simp;omega)),Bool.and_comm]
   rfl
 ·cases h
theorem w98:Walked Tryz.prog G 98 2 sp98:=by
 refine ⟨Tryz.f98,Tryz.func98,by decide +kernel,rfl,fun xs bl r h=> ?_⟩
 unfold sp98 at h
 split at h
 ·rename_i s
  obtain ⟨hpre,h2⟩:=chk_inv h;cases h2
  refine Eq.trans (b:=(Zj (chk (decide (Zx s≤9223372036854775807)&&true) (some (Zv (Xp s [(64:UInt8)]&&decide (Zx s≤39)),[]))) fun (r:AV×Blocks)=>onNilB (Zd r) (AV.onBool (Yv r) fun b=>some (Zv b,[])):Option (AV×Blocks))) (by kernel_rfl) ?_
  simp only [A0]
  rw [chk_of (by rw [hpre];rfl),Bool.and_comm]
  rfl
 ·cases h
theorem w100:Walked Tryz.prog G 100 2 sp100:=by
 refine ⟨Tryz.f100,Tryz.func100,by decide +kernel,rfl,fun xs bl r h=> ?_⟩
 unfold sp100 at h
 split at h
 ·rename_i k
  obtain ⟨hpre,h2⟩:=chk_inv h;cases h2
  refine Eq.trans (b:=(sel (!Wg (Zy .i64 (Int.fdiv k (2 ^ min (Zu 56) (Zk .u64))))) (some (Yx [Zz .i64 0,Zz .i64 0,Zv false],[])) (sel (!Wj (Zy .i64 (Zy .u64 (↑(BitVec.toNat (BitVec.ofInt (Zk .u64) k &&& BitVec.ofInt (Zk .u64) 72057594037927935)):Int)))) (some (Yx [Zz .i64 0,Zz .i64 0,Zv false],[])) (some (Yx [Zz .i64 (Zy .i64 (Int.fdiv k (2 ^ min (Zu 56) (Zk .u64)))),Zz .i64 (Zy .i64 (Zy .u64 (↑(BitVec.toNat (BitVec.ofInt (Zk .u64) k &&& BitVec.ofInt (Zk .u64) 72057594037927935)):Int))),Zv true],[]))):Option (AV×Blocks))) (by kernel_rfl) ?_
  simp only [Zp,decide_eq_true_eq] at hpre
  obtain ⟨h0,h1⟩:=hpre
  rw [Kerb.key_hi h0 h1,Kerb.key_lo h0 h1]
  unfold Xh
  cases Wg (Kerb.keyClass k)
  ·rfl
  cases Wj (Kerb.keySerial k)<;>rfl
 ·cases h
theorem w101:Walked Tryz.prog G 101 2 sp101:=by
 refine ⟨Tryz.f101,Tryz.func101,by decide +kernel,rfl,fun xs bl r h=> ?_⟩
 unfold sp101 at h
 split at h
 ·rename_i b
  cases h
  refine Eq.trans (b:=(sel (decide ((↑(Zx b):Int)<2)) (some (Yx [Zz .i64 0,Zv false,Zz .i64 101],[])) (chk (decide (0<(↑(Zx b):Int))) (sel (!Zb b (Zu 0) (0:UInt8)==(4:UInt8)) (some (Yx [Zz .i64 0,Zv false,Zz .i64 39],[])) (chk (decide (1<(↑(Zx b):Int))) (sel (!Xm (Zy .i64 (Xu (Zy .i64 (↑(Zh (Zb b (Zu 1) (0:UInt8))):Int)) 2))) (some (Yx [Zz .i64 0,Zv false,Zz .i64 40],[])) (chk (decide (1<(↑(Zx b):Int))) (some (Yx [Zz .i64 (Zy .i64 (Xu (Zy .i64 (↑(Zh (Zb b (Zu 1) (0:UInt8))):Int)) 2)),Zv (Yk (Zu (Yy (↑(Zh (Zb b (Zu 1) (0:UInt8))):Int) (↑(Zh (2:UInt8)):Int)))==(1:UInt8)),Zz .i64 0],[]))))))):Option (AV×Blocks))) (by kernel_rfl) ?_
  unfold Xb
  by_cases h1:b.length<2
  ·rw [sel_pos (by simp;omega)]
   simp [h1]
  rw [sel_neg (by simp;omega),chk_of (by simp;omega),if_neg h1]
  by_cases h2:b.getD 0 0=4
  ·have hb:=(b.getD 1 0).toNat_lt
   have e:Zy Zw (Xu (Zy Zw ((b.getD (Zu 1) 0).toNat:Int)) 2)=(((b.getD 1 0).toNat / 2:Nat):Int):=by
    rw [show Zu 1=1 from rfl,wrap_i64 (n:=((b.getD 1 0).toNat:Int)) (by omega) (by omega),Xy (by omega),wrap_i64 (by omega) (by omega)];omega
   have e2:(Yk (Zu (Yy ((b.getD (Zu 1) 0).toNat:Int) ((2:UInt8).toNat:Int)))==1)=decide ((b.getD 1 0).toNat % 2=1):=by
    rw [show Zu 1=1 from rfl,Yf (by omega)]
    have e3:Zu (((b.getD 1 0).toNat:Int) % ((2:UInt8).toNat:Int))=(b.getD 1 0).toNat % 2:=by
     show Zu (((b.getD 1 0).toNat:Int) % 2)=_
     omega
    rw [e3]
    rcases Nat.mod_two_eq_zero_or_one (b.getD 1 0).toNat with h | h<;>rw [h]<;>rfl
   rw [sel_neg (by simp [h2] at *;exact h2),chk_of (by simp;omega),if_neg (by simpa using h2),e,e2]
   cases hk:Xm (((b.getD 1 0).toNat / 2:Nat):Int)
   ·rfl
   ·rw [Bool.not_true,sel_false,chk_of (by simp;omega)]
    rfl
  ·rw [sel_pos (by simpa using h2),if_pos (by simpa using h2)]
 ·cases h
theorem w103:Walked Tryz.prog G 103 2 sp103:=by
 refine ⟨Tryz.f103,Tryz.func103,by decide +kernel,rfl,fun xs bl r h=> ?_⟩
 unfold sp103 at h
 split at h
 ·rename_i b pos n
  obtain ⟨hpre,h2⟩:=chk_inv h;cases h2
  refine Eq.trans (b:=(Zj (chk (decide (Zx b≤4611686018427387904)) (some (Zz .i64 (Xk b pos n),[]))) fun (r:AV×Blocks)=>onNilB (Zd r) (Yh .i64 (Yv r) fun n_1=>sel (!n_1==0) (some (Yx [Zn [],Zz .i64 0,Zz .i64 n_1],[])) (chk (decide (0≤pos)&&decide (pos≤Zy .i64 (pos+n))&&decide (Zy .i64 (pos+n)≤(↑(Zx b):Int))) (Zj (chk (decide (Zx (Wm (Zu pos) (Wn (Zu (Zy .i64 (pos+n))) b))≤140737488355328)) (some (Zn (Wm (Zu pos) (Wn (Zu (Zy .i64 (pos+n))) b)),[]))) fun (r:AV×Blocks)=>onNilB (Zd r) (AV.onBs (Yv r) fun b=>some (Yx [Zn b,Zz .i64 (Zy .i64 (pos+n)),Zz .i64 0],[]))))):Option (AV×Blocks))) (by kernel_rfl) ?_
  have hb:=of_decide_eq_true hpre
  simp only [A0]
  rw [chk_of (by simp;omega)]
  unfold Wy
  by_cases hr:Xk b pos n=0
  ·obtain ⟨q1,q2,q3,q4⟩:=Kerb.room_zero.1 hr
   have e:Wm (Zu pos) (Wn (Zu (pos+n)) b)=Kerb.cut b pos n:=by
    rw [show Zu (pos+n)=pos.toNat+n.toNat by omega,List.drop_take,show pos.toNat+n.toNat-pos.toNat=n.toNat by omega]
    rfl
   have hc:=Kerb.cut_length hr
   rw [sel_neg (by simp [hr]),if_pos hr,wrap_i64 (by omega) (by omega),e,chk_of (by simp;omega),chk_of (by simp;omega)]
  ·rw [sel_pos (by simpa using hr),if_neg hr]
 ·cases h
theorem w104:Walked Tryz.prog G 104 2 sp104:=by
 refine ⟨Tryz.f104,Tryz.func104,by decide +kernel,rfl,fun xs bl r h=> ?_⟩
 unfold sp104 at h
 split at h
 ·rename_i b pos k little
  obtain ⟨hpre,h2⟩:=chk_inv h;cases h2
  refine Eq.trans (b:=(Zj (chk (decide (Zx b≤4611686018427387904)) (some (Zz .i64 (Xk b pos k),[]))) (kI .i64 fun n=>sel (!n==0) (some (Yx [Zz .i64 0,Zz .i64 0,Zz .i64 n],[])) (Zj (loopM (fun (st:List AV)=>cBs st fun b r=>cInt .i64 r fun n r=>cInt .i64 r fun n_1 r=>cBool r fun b_1 r=>cInt .i64 r fun n_2 r=>let t0:BitVec (Zk .i64):=BitVec.ofInt (Zk .i64) (Zy .i64 (n_2*2 ^ min (Zu 8) (Zk .i64)));cInt .i64 r fun n_3 r=>cInt .i64 r fun n_4 r=>let t1:Int:=Zy .i64 (n+Zy .i64 (Zy .i64 (n_1-1)-n_4));onNil r (sel (decide (n_4<n_3)) (sel b_1 (chk (decide (0≤t1)&&decide (t1<(↑(Zx b):Int))) (some (Yn [Zn b,Zz .i64 n,Zz .i64 n_1,Zv b_1,Zz .i64 (Zy .i64 (↑(BitVec.toNat (t0 ||| BitVec.ofInt (Zk .i64) (Zy .i64 (↑(Zh (Zb b (Zu t1) (0:UInt8))):Int)))):Int)),Zz .i64 n_3,Zz .i64 (Zy .i64 (n_4+1))]))) (chk (decide (0≤Zy .i64 (n+n_4))&&decide (Zy .i64 (n+n_4)<(↑(Zx b):Int))) (some (Yn [Zn b,Zz .i64 n,Zz .i64 n_1,Zv b_1,Zz .i64 (Zy .i64 (↑(BitVec.toNat (t0 ||| BitVec.ofInt (Zk .i64) (Zy .i64 (↑(Zh (Zb b (Zu (Zy .i64 (n+n_4))) (0:UInt8))):Int)))):Int)),Zz .i64 n_3,Zz .i64 (Zy .i64 (n_4+1))])))) (some (Yp (Yj 0,[Zn b,Zz .i64 n,Zz .i64 n_1,Zv b_1,Zz .i64 n_2,Zz .i64 n_3,Zz .i64 n_4]))))) [Zn b,Zz .i64 pos,Zz .i64 k,Zv little,Zz .i64 0,Zz .i64 k,Zz .i64 0]) fun (r:Ex×List AV)=>cBs (Zd r) fun b r_1=>cInt .i64 r_1 fun n r_2=>cInt .i64 r_2 fun n_1 r_3=>cBool r_3 fun b r_4=>cInt .i64 r_4 fun n_2 r_5=>cInt .i64 r_5 fun n_3 r_6=>cInt .i64 r_6 fun n_4 r_7=>onNil r_7 (exK r.1 none fun (j:Nat)=>sel (Xj j 0) (some (Yx [Zz .i64 n_2,Zz .i64 (Zy .i64 (n+n_1)),Zz .i64 0],[])) none))):Option (AV×Blocks))) (by kernel_rfl) ?_
  delta kI
  try dsimp only [cStr,cBs,cBool,cU8,cInt,cSl,l63]
  simp only [Zp,decide_eq_true_eq] at hpre
  obtain ⟨⟨hb,hk0⟩,hk4⟩:=hpre
  simp only [A0]
  rw [chk_of (by simpa using hb)]
  unfold Kerb.get
  by_cases hr:Xk b pos k=0
  ·rw [sel_neg (by simp [hr]),if_pos hr]
   obtain ⟨q1,q2,q3,q4⟩:=Kerb.room_zero.1 hr
   have hcl:=Kerb.cut_length hr
   obtain ⟨L,hL⟩:∃ L,L=cond little (Kerb.cut b pos k).reverse (Kerb.cut b pos k):=⟨_,rfl⟩
   have hLl:L.length=k.toNat:=by rw [hL];cases little<;>simp [hcl]
   rw [← hL]
   refine loop_rounds (fun i:Nat=>[Zn b,Zz Zw pos,Zz Zw k,Zv little,Zz Zw (Kerb.valB (L.take i)),Zz Zw k,Zz Zw (i:Int)]) (fun i=>i≤k.toNat) (fun i=>k.toNat-i)
    (fun r=>r=(Yj 0,[Zn b,Zz Zw pos,Zz Zw k,Zv little,Zz Zw (Kerb.valB L),Zz Zw k,Zz Zw k])) 0 (Ym _) rfl ?_ ?_
   ·intro i hi
    simp only [A0]
    by_cases hlt:i<k.toNat
    ·rw [sel_pos (by simp;omega)]
     have hv:=Kerb.valB_bd (l:=L.take i) (by simp;omega)
     have hs:=Kerb.valB_take (l:=L) (i:=i) (by omega)
     have hgd:L.getD i 0=b.getD (cond little (pos.toNat+(k.toNat-1-i)) (pos.toNat+i)) 0:=by
      rw [hL]
      cases little
      ·exact Kerb.cut_getD hlt
      ·show (Kerb.cut b pos k).reverse.getD i 0=_
       rw [Kerb.getD_reverse (by omega),hcl,Kerb.cut_getD (by omega)];rfl
     cases little
     ·rw [sel_neg rfl,wrap_i64 (n:=pos+(i:Int)) (by omega) (by omega),chk_of (by simp;omega),show (pos+(i:Int)).toNat=pos.toNat+i from by omega]
      rw [Kerb.shl8_or _ hv.1 (by omega),wrap_i64 (n:=(i:Int)+1) (by omega) (by omega)]
      refine ⟨_,rfl,i+1,?_,by omega,by dsimp only;omega⟩
      dsimp only
      rw [hs,hgd];rfl
     ·rw [sel_pos rfl,wrap_i64 (n:=k-1) (by omega) (by omega),wrap_i64 (n:=k-1-(i:Int)) (by omega) (by omega),wrap_i64 (n:=pos+(k-1-(i:Int))) (by omega) (by omega),chk_of (by simp;omega),show (pos+(k-1-(i:Int))).toNat=pos.toNat+(k.toNat-1-i) from by omega]
      rw [Kerb.shl8_or _ hv.1 (by omega),wrap_i64 (n:=(i:Int)+1) (by omega) (by omega)]
      refine ⟨_,rfl,i+1,?_,by omega,by dsimp only;omega⟩
      dsimp only
      rw [hs,hgd];rfl
    ·rw [sel_neg (by simp;omega)]
     refine ⟨_,rfl,?_⟩
     show _=_
     rw [Zm (by omega),show (i:Int)=k from by omega]
   ·rintro r rfl
    simp only [A0]
    rw [sel_pos (Yq _),wrap_i64 (by omega) (by omega)]
  ·rw [sel_pos (by simpa using hr),if_neg hr]
 ·cases h
theorem w106:Walked Tryz.prog G 106 2 sp106:=by
 refine ⟨Tryz.f106,Tryz.func106,by decide +kernel,rfl,fun xs bl r h=> ?_⟩
 unfold sp106 at h
 split at h
 ·rename_i s c
  cases h
  refine Eq.trans (b:=(some (Zz .i64 (Wb c s),[]):Option (AV×Blocks))) (by kernel_rfl) ?_
  rfl
 ·cases h
theorem w121:Walked Tryz.prog G 121 2 sp121:=by
 refine ⟨Tryz.f121,Tryz.func121,by decide +kernel,rfl,fun xs bl r h=> ?_⟩
 unfold sp121 at h
 split at h
 ·rename_i a b s
  cases h
  refine Eq.trans (b:=(sel (!Yz a 4294967295) (some (Zv false,[])) (sel (!Yz b 4294967295) (some (Zv false,[])) (sel (!Yz s 4294967295) (some (Zv false,[])) (sel (decide (Zy .i64 (a-b)≤s)) (some (Zv (decide (Zy .i64 (b-a)≤s)),[])) (some (Zv false,[]))))):Option (AV×Blocks))) (by kernel_rfl) ?_
  unfold Kerb.near
  cases h1:Yz a 4294967295
  ·rfl
  cases h2:Yz b 4294967295
  ·rfl
  have a1:=Kerb.within_iff.1 h1
  have a2:=Kerb.within_iff.1 h2
  simp only [Bool.not_true,sel_false,Bool.and_self,Bool.true_and]
  rw [wrap_i64 (n:=a-b) (by omega) (by omega),wrap_i64 (n:=b-a) (by omega) (by omega)]
  cases h3:Yz s 4294967295
  ·rfl
  cases decide (a-b≤s)<;>rfl
 ·cases h
theorem w124:Walked Tryz.prog G 124 2 sp124:=by
 refine ⟨Tryz.f124,Tryz.func124,by decide +kernel,rfl,fun xs bl r h=> ?_⟩
 unfold sp124 at h
 split at h
 ·rename_i sz fl mls a1 a2 a3 at_ atk
  obtain ⟨hpre,h2⟩:=chk_inv h;cases h2
  refine Eq.trans (b:=(Zj (chk (List.all mls Kerb.isMark&&decide (Zx mls≤1000000)) (some (Zv (Kerb.hasMark (List.map Kerb.toMark mls) (Kerb.Mark.mk (Kerb.Prin.mk a1 a2 a3) at_ atk)),[]))) fun (r:AV×Blocks)=>onNilB (Zd r) (AV.onBool (Yv r) fun b=>some (Zv b,[])):Option (AV×Blocks))) (by kernel_rfl) ?_
  simp only [hpre,↓A0,A0]
 ·cases h
theorem w132:Walked Tryz.prog G 132 2 sp132:=by
 refine ⟨Tryz.f132,Tryz.func132,by decide +kernel,rfl,fun xs bl r h=> ?_⟩
 unfold sp132 at h
 split at h
 ·rename_i i l
  cases h
  refine Eq.trans (b:=(sel (!Yz i 4294967295) (some (Zz .i64 0,[])) (sel (!Yz l 255) (some (Zz .i64 0,[])) (some (Zz .i64 (Zy .i64 (i+Zy .i64 (300*Zy .i64 (l+1)))),[]))):Option (AV×Blocks))) (by kernel_rfl) ?_
  unfold Kerb.tEnd
  cases h1:Yz i 4294967295
  ·rfl
  cases h2:Yz l 255
  ·rfl
  have a1:=Kerb.within_iff.1 h1
  have a2:=Kerb.within_iff.1 h2
  simp only [Bool.not_true,sel_false,Bool.and_self,if_true]
  rw [wrap_i64 (n:=l+1) (by omega) (by omega),wrap_i64 (n:=300*(l+1)) (by omega) (by omega),wrap_i64 (by omega) (by omega)]
 ·cases h
theorem w138:Walked Tryz.prog G 138 2 sp138:=by
 refine ⟨Tryz.f138,Tryz.func138,by decide +kernel,rfl,fun xs bl r h=> ?_⟩
 unfold sp138 at h
 split at h
 ·rename_i b pos k little
  obtain ⟨hpre,h2⟩:=chk_inv h;cases h2
  refine Eq.trans (b:=(Zj (chk (decide (Zx b≤140737488355328)) (some (Yx [Zn (Wv (Wy b pos k)),Zz .i64 (Wz (Wy b pos k)),Zz .i64 (Xf (Wy b pos k))],[]))) (kT fun vs=>cBs vs fun b r=>cInt .i64 r fun n r=>cInt .i64 r fun n_1 r=>onNil r (sel (!n_1==0) (some (Yx [Zz .i64 0,Zz .i64 0,Zz .i64 n_1],[])) (Zj (loopM (fun (st:List AV)=>cInt .i64 st fun n r=>cBool r fun b r=>cBs r fun b_1 r=>cInt .i64 r fun n_2 r=>cInt .i64 r fun n_3 r=>let t0:BitVec (Zk .i64):=BitVec.ofInt (Zk .i64) (Zy .i64 (n_3*2 ^ min (Zu 8) (Zk .i64)));cInt .i64 r fun n_4 r=>let t1:Int:=Zy .i64 (Zy .i64 (n-1)-n_4);onNil r (sel (decide (n_4<n)) (sel b (chk (decide (0≤t1)&&decide (t1<(↑(Zx b_1):Int))) (some (Yn [Zz .i64 n,Zv b,Zn b_1,Zz .i64 n_2,Zz .i64 (Zy .i64 (↑(BitVec.toNat (t0 ||| BitVec.ofInt (Zk .i64) (Zy .i64 (↑(Zh (Zb b_1 (Zu t1) (0:UInt8))):Int)))):Int)),Zz .i64 (Zy .i64 (n_4+1))]))) (chk (decide (0≤n_4)&&decide (n_4<(↑(Zx b_1):Int))) (some (Yn [Zz .i64 n,Zv b,Zn b_1,Zz .i64 n_2,Zz .i64 (Zy .i64 (↑(BitVec.toNat (t0 ||| BitVec.ofInt (Zk .i64) (Zy .i64 (↑(Zh (Zb b_1 (Zu n_4) (0:UInt8))):Int)))):Int)),Zz .i64 (Zy .i64 (n_4+1))])))) (some (Yp (Yj 0,[Zz .i64 n,Zv b,Zn b_1,Zz .i64 n_2,Zz .i64 n_3,Zz .i64 n_4]))))) [Zz .i64 k,Zv little,Zn b,Zz .i64 n,Zz .i64 0,Zz .i64 0]) fun (r:Ex×List AV)=>cInt .i64 (Zd r) fun n r_1=>cBool r_1 fun b r_2=>cBs r_2 fun b r_3=>cInt .i64 r_3 fun n r_4=>cInt .i64 r_4 fun n_2 r_5=>cInt .i64 r_5 fun n_3 r_6=>onNil r_6 (exK r.1 none fun (j:Nat)=>sel (Xj j 0) (some (Yx [Zz .i64 n_2,Zz .i64 n,Zz .i64 0],[])) none)))):Option (AV×Blocks))) (by kernel_rfl) ?_
  delta kT
  try dsimp only [cStr,cBs,cBool,cU8,cInt,cSl,l63]
  simp only [Zp,decide_eq_true_eq] at hpre
  obtain ⟨⟨hb,hk0⟩,hk4⟩:=hpre
  simp only [A0]
  rw [chk_of (by simpa using hb)]
  unfold Kerb.get Wy
  by_cases hr:Xk b pos k=0
  case neg =>
   rw [if_neg hr,if_neg hr,sel_pos (by simpa using hr)]
  rw [if_pos hr,if_pos hr,sel_neg (by simp)]
  obtain ⟨q1,q2,q3,q4⟩:=Kerb.room_zero.1 hr
  have hcl:=Kerb.cut_length hr
  obtain ⟨C,hC⟩:∃ C,C=Kerb.cut b pos k:=⟨_,rfl⟩
  rw [← hC] at hcl ⊢
  obtain ⟨L,hL⟩:∃ L,L=cond little C.reverse C:=⟨_,rfl⟩
  have hLl:L.length=k.toNat:=by rw [hL];cases little<;>simp [hcl]
  rw [← hL]
  refine loop_rounds (fun i:Nat=>[Zz Zw k,Zv little,Zn C,Zz Zw (pos+k),Zz Zw (Kerb.valB (L.take i)),Zz Zw (i:Int)]) (fun i=>i≤k.toNat) (fun i=>k.toNat-i)
   (fun r=>r=(Yj 0,[Zz Zw k,Zv little,Zn C,Zz Zw (pos+k),Zz Zw (Kerb.valB L),Zz Zw k])) 0 (Ym _) rfl ?_ ?_
  ·intro i hi
   simp only [A0]
   by_cases hlt:i<k.toNat
   ·rw [sel_pos (by simp;omega)]
    have hv:=Kerb.valB_bd (l:=L.take i) (by simp;omega)
    have hs:=Kerb.valB_take (l:=L) (i:=i) (by omega)
    have hgd:L.getD i 0=C.getD (cond little (k.toNat-1-i) i) 0:=by
     rw [hL]
     cases little
     ·rfl
     ·show C.reverse.getD i 0=_
      rw [Kerb.getD_reverse (by omega),hcl];rfl
    cases little
    ·rw [sel_neg rfl,chk_of (by simp;omega),Zg]
     rw [Kerb.shl8_or _ hv.1 (by omega),wrap_i64 (n:=(i:Int)+1) (by omega) (by omega)]
     refine ⟨_,rfl,i+1,?_,by omega,by dsimp only;omega⟩
     dsimp only
     rw [hs,hgd];rfl
    ·rw [sel_pos rfl,wrap_i64 (n:=k-1) (by omega) (by omega),wrap_i64 (n:=k-1-(i:Int)) (by omega) (by omega),chk_of (by simp;omega),show (k-1-(i:Int)).toNat=k.toNat-1-i from by omega]
     rw [Kerb.shl8_or _ hv.1 (by omega),wrap_i64 (n:=(i:Int)+1) (by omega) (by omega)]
     refine ⟨_,rfl,i+1,?_,by omega,by dsimp only;omega⟩
     dsimp only
     rw [hs,hgd];rfl
   ·rw [sel_neg (by simp;omega)]
    refine ⟨_,rfl,?_⟩
    show _=_
    rw [Zm (by omega),show (i:Int)=k from by omega]
  ·rintro r rfl
   simp only [A0]
   rw [sel_pos (Yq _)]
 ·cases h
theorem w139:Walked Tryz.prog G 139 2 sp139:=by
 refine ⟨Tryz.f139,Tryz.func139,by decide +kernel,rfl,fun xs bl r h=> ?_⟩
 unfold sp139 at h
 split at h
 ·rename_i s
  obtain ⟨hpre,h2⟩:=chk_inv h;cases h2
  refine Eq.trans (b:=(sel (decide ((↑(Zx s):Int)>0)) (Zj (chk (decide (Zx s≤9223372036854775807)&&true) (some (Zv (Xp s [(64:UInt8)]&&decide (Zx s≤39)),[]))) fun (r:AV×Blocks)=>onNilB (Zd r) (AV.onBool (Yv r) fun b=>some (Zv b,[]))) (some (Zv false,[])):Option (AV×Blocks))) (by kernel_rfl) ?_
  simp only [A0]
  rw [chk_of (by rw [hpre];rfl)]
  simp only [Kerb.validRealm]
  cases s with
  | nil=>rfl
  | cons x r =>
   rw [sel_pos (by first | (simp;done) | (simp;omega)),Bool.and_comm]
   rfl
 ·cases h
theorem w151:Walked Tryz.prog G 151 2 sp151:=by
 refine ⟨Tryz.f151,Tryz.func151,by decide +kernel,rfl,fun xs bl r h=> ?_⟩
 unfold sp151 at h
 split at h
 ·rename_i k little
  cases h
  refine Eq.trans (b:=(sel (!Xm k) (some (Zn [],[])) (sel little (some (Zn [(4:UInt8),Yk (Zu (Zy .u8 (Zy .i64 (Zy .i64 (2*k)+1))))],[])) (some (Zn [(4:UInt8),Yk (Zu (Zy .u8 (Zy .i64 (2*k))))],[]))):Option (AV×Blocks))) (by kernel_rfl) ?_
  by_cases h:1≤k∧k≤10
  ·have hk:k=1∨k=2∨k=3∨k=4∨k=5∨k=6∨k=7∨k=8∨k=9∨k=10:=by omega
   rcases hk with rfl | rfl | rfl | rfl | rfl | rfl | rfl | rfl | rfl | rfl<;>cases little<;>rfl
  ·have hk:Xm k=false:=by simp [Xm];omega
   by_cases h1:k<1
   ·simp [sel,Kerb.header,hk,h1]
   ·have h2:10<k:=by omega
    simp [sel,Kerb.header,hk,h1,h2]
 ·cases h
theorem w152:Walked Tryz.prog G 152 2 sp152:=by
 refine ⟨Tryz.f152,Tryz.func152,by decide +kernel,rfl,fun xs bl r h=> ?_⟩
 unfold sp152 at h
 split at h
 ·rename_i els
  obtain ⟨hpre,h2⟩:=chk_inv h;cases h2
  refine Eq.trans (b:=(Zj (loopM (fun (st:List AV)=>cSl 1 st fun b r=>cInt .i64 r fun n r=>cSl 1 r fun b_1 r=>cInt .i64 r fun n_1 r=>cInt .i64 r fun n_2 r=>onNil r (sel (decide (n_2<n_1)) (chk (decide (0≤n_2)&&decide (n_2<(↑(Zx b_1):Int))&&true) (AV.onBs (Zb b_1 (Zu n_2) Xq) fun b_2=>sel (decide (Zy .i64 (n+(↑(Zx b_2):Int))<0)) none (some (Yn [Zf 1 b,Zz .i64 (Zy .i64 (n+(↑(Zx b_2):Int))),Zf 1 b_1,Zz .i64 n_1,Zz .i64 (Zy .i64 (n_2+1))])))) (some (Yp (Yj 0,[Zf 1 b,Zz .i64 n,Zf 1 b_1,Zz .i64 n_1,Zz .i64 n_2]))))) [Zf 1 els,Zz .i64 0,Zf 1 els,Zz .i64 (↑(Zx els):Int),Zz .i64 0]) fun (r:Ex×List AV)=>cSl 1 (Zd r) fun b r_1=>cInt .i64 r_1 fun n r_2=>cSl 1 r_2 fun b_1 r_3=>cInt .i64 r_3 fun n_1 r_4=>cInt .i64 r_4 fun n_2 r_5=>onNil r_5 (exK r.1 none fun (j:Nat)=>sel (Xj j 0) (Zj (chk (decide (0≤n)&&decide (n≤140737488355328)) (some (Yw [],[]))) (kO fun l=>Zj (loopM (fun (st:List AV)=>onCons st fun x r=>Xn x fun b=>cSl 1 r fun b_2 r=>cInt .i64 r fun n r=>cInt .i64 r fun n_3 r=>onNil r (sel (decide (n_3<n)) (chk (decide (0≤n_3)&&decide (n_3<(↑(Zx b_2):Int))&&true) (AV.onBs (Zb b_2 (Zu n_3) Xq) fun b_3=>chk (room (Zx b+Zx b_3) 1) (some (Yn [Yw (b++b_3),Zf 1 b_2,Zz .i64 n,Zz .i64 (Zy .i64 (n_3+1))])))) (some (Yp (Yj 2,[Yw b,Zf 1 b_2,Zz .i64 n,Zz .i64 n_3]))))) [Yw l,Zf 1 b,Zz .i64 (↑(Zx b):Int),Zz .i64 0]) fun (r:Ex×List AV)=>onCons (Zd r) fun x r_6=>Xn x fun b=>cSl 1 r_6 fun b_2 r_7=>cInt .i64 r_7 fun n r_8=>cInt .i64 r_8 fun n r_9=>onNil r_9 (exK r.1 none fun (j:Nat)=>sel (Xj j 2) (some (Yw b,[])) none))) none):Option (AV×Blocks))) (by kernel_rfl) ?_
  delta kO
  try dsimp only [cStr,cBs,cBool,cU8,cInt,cSl,l63]
  simp only [Zp,decide_eq_true_eq] at hpre
  obtain ⟨⟨ha,hl⟩,hbig⟩:=hpre
  refine loop_rounds (fun i:Nat=>[Zf 1 els,Zz Zw ((catB (els.take i)).length:Int),Zf 1 els,Zz Zw (els.length:Int),Zz Zw (i:Int)]) (fun i=>i≤els.length) (fun i=>els.length-i)
   (fun r=>r=(Yj 0,[Zf 1 els,Zz Zw ((catB els).length:Int),Zf 1 els,Zz Zw (els.length:Int),Zz Zw (els.length:Int)])) 0 (Ym _) rfl ?_ ?_
  ·intro i hi
   simp only [A0]
   by_cases hlt:i<els.length
   ·obtain ⟨l,h1,h2,h3⟩:=Kerb.cat_step ha hlt
    rw [sel_pos (by simp;omega),chk_of (by simp;omega),Zg,h1,onBs_bs,wrap_i64 (n:=((catB (els.take i)).length:Int)+(l.length:Int)) (by omega) (by omega),sel_neg (by simp;omega),wrap_i64 (by omega) (by omega)]
    refine ⟨_,rfl,i+1,?_,by omega,by dsimp only;omega⟩
    dsimp only
    rw [h2,List.length_append,Int.natCast_add]
    rfl
   ·rw [sel_neg (by simp;omega)]
    refine ⟨_,rfl,?_⟩
    show _=_
    rw [Zm (by omega),show i=els.length from by omega]
  rintro r rfl
  simp only [A0]
  rw [sel_pos (Yq _),chk_of (by simp;omega)]
  refine loop_rounds (fun i:Nat=>[Yw (catB (els.take i)),Zf 1 els,Zz Zw (els.length:Int),Zz Zw (i:Int)]) (fun i=>i≤els.length) (fun i=>els.length-i)
   (fun r=>r=(Yj 2,[Yw (catB els),Zf 1 els,Zz Zw (els.length:Int),Zz Zw (els.length:Int)])) 0 (Ym _) rfl ?_ ?_
  ·intro i hi
   simp only [A0]
   by_cases hlt:i<els.length
   ·obtain ⟨l,h1,h2,h3⟩:=Kerb.cat_step ha hlt
    rw [sel_pos (by simp;omega),chk_of (by simp;omega),Zg,h1,onBs_bs,chk_of (Xz (by omega)),wrap_i64 (by omega) (by omega)]
    refine ⟨_,rfl,i+1,?_,by omega,by dsimp only;omega⟩
    dsimp only
    rw [h2]
    rfl
   ·rw [sel_neg (by simp;omega)]
    refine ⟨_,rfl,?_⟩
    show _=_
    rw [Zm (by omega),show i=els.length from by omega]
  rintro r rfl
  simp only [A0]
  rw [sel_pos (Yq _)]
 ·cases h
theorem w155:Walked Tryz.prog G 155 2 sp155:=by
 refine ⟨Tryz.f155,Tryz.func155,by decide +kernel,rfl,fun xs bl r h=> ?_⟩
 unfold sp155 at h
 split at h
 ·rename_i kls x y z v
  obtain ⟨hpre,h2⟩:=chk_inv h;cases h2
  refine Eq.trans (b:=(Zj (loopM (fun (st:List AV)=>cSl 5 st fun b r=>cStr r fun b_1 r=>cStr r fun b_2 r=>cStr r fun b_3 r=>cInt .i64 r fun n r=>cInt .i64 r fun n_1 r=>cSl 5 r fun b_4 r=>cInt .i64 r fun n_2 r=>cInt .i64 r fun n_3 r=>onNil r (sel (decide (n_3<n_2)) (chk (decide (0≤n_3)&&decide (n_3<(↑(Zx b_4):Int))&&true) (Vz (Zb b_4 (Zu n_3) Xq) fun cs=>cStr cs fun b_5 r=>cStr r fun b_6 r=>cStr r fun b_7 r=>cInt .i64 r fun n_4 r=>cInt .u64 r fun n_5 r=>onNil r (sel (b_5==b_1&&(b_6==b_2&&(b_7==b_3&&n_4==n))) (some (Yp (Ex.ret,[Zf 5 b,Zq b_1,Zq b_2,Zq b_3,Zz .i64 n,Zz .i64 n_3,Zf 5 b_4,Zz .i64 n_2,Zz .i64 n_3]))) (some (Yn [Zf 5 b,Zq b_1,Zq b_2,Zq b_3,Zz .i64 n,Zz .i64 n_1,Zf 5 b_4,Zz .i64 n_2,Zz .i64 (Zy .i64 (n_3+1))]))))) (some (Yp (Yj 0,[Zf 5 b,Zq b_1,Zq b_2,Zq b_3,Zz .i64 n,Zz .i64 n_1,Zf 5 b_4,Zz .i64 n_2,Zz .i64 n_3]))))) [Zf 5 kls,Zq x,Zq y,Zq z,Zz .i64 v,Zz .i64 0,Zf 5 kls,Zz .i64 (↑(Zx kls):Int),Zz .i64 0]) fun (r:Ex×List AV)=>cSl 5 (Zd r) fun b r_1=>cStr r_1 fun b_1 r_2=>cStr r_2 fun b_2 r_3=>cStr r_3 fun b_3 r_4=>cInt .i64 r_4 fun n r_5=>cInt .i64 r_5 fun n r_6=>cSl 5 r_6 fun b_4 r_7=>cInt .i64 r_7 fun n_1 r_8=>cInt .i64 r_8 fun n_2 r_9=>onNil r_9 (exK r.1 (some (Zz .i64 n,[])) fun (j:Nat)=>sel (Xj j 0) (some (Zz .i64 (↑(Zx b):Int),[])) none):Option (AV×Blocks))) (by kernel_rfl) ?_
  try dsimp only [cStr,cBs,cBool,cU8,cInt,cSl,l63]
  simp only [Zp,decide_eq_true_eq] at hpre
  obtain ⟨hall,hlen⟩:=hpre
  obtain ⟨cs,rfl,hok⟩:=Kerb.skeys_of hall
  rw [Kerb.map_toSKey]
  simp only [Xv] at hlen ⊢
  refine loop_rounds (fun i:Nat=>[Zf 5 (cs.map Xx),Zq x,Zq y,Zq z,Zz Zw v,Zz Zw 0,Zf 5 (cs.map Xx),Zz Zw (cs.length:Int),Zz Zw (i:Int)]) (fun i=>i≤cs.length∧Kerb.skAt cs ⟨x,y,z⟩ v=i+Kerb.skAt (cs.drop i) ⟨x,y,z⟩ v) (fun i=>cs.length-i)
   (fun r=>∃ (i:Nat) (n:Int),r.2=[Zf 5 (cs.map Xx),Zq x,Zq y,Zq z,Zz Zw v,Zz Zw n,Zf 5 (cs.map Xx),Zz Zw (cs.length:Int),Zz Zw (i:Int)]∧((r.1 = .ret∧n=(Kerb.skAt cs ⟨x,y,z⟩ v:Nat))∨(r.1 = .exit 0∧Kerb.skAt cs ⟨x,y,z⟩ v=cs.length))) 0 ⟨Ym _,by simp⟩ rfl ?_ ?_
  ·rintro i ⟨hi,hp⟩
   simp only [↓A0,A0]
   by_cases hlt:i<cs.length
   ·rw [sel_pos (by simp;omega),chk_of (by simp;omega),Zg,Kerb.getD_row (d:=Wk) hlt]
    have hd:=Kerb.drop_row (d:=Wk) hlt
    generalize cs.getD i Wk=c at hd
    simp only [Xx,↓A0,A0]
    have he0:(c.service.name==x&&(c.service.inst==y&&(c.service.realm==z&&c.kvno==v)))=Kerb.SKey.is ⟨x,y,z⟩ v c:=by
     simp only [Kerb.SKey.is,Kerb.Prin.eqb,Bool.and_assoc]
    rw [he0]
    cases he:Kerb.SKey.is ⟨x,y,z⟩ v c
    ·rw [sel_false,wrap_i64 (by omega) (by omega)]
     refine ⟨_,rfl,i+1,rfl,⟨by omega,?_⟩,by dsimp only;omega⟩
     rw [hp,hd]
     simp only [Kerb.skAt,List.findIdx_cons,he,cond_false]
     omega
    ·rw [sel_true]
     refine ⟨_,rfl,i,_,rfl,.inl ⟨rfl,?_⟩⟩
     rw [hp,hd]
     simp only [Kerb.skAt,List.findIdx_cons,he,cond_true]
     omega
   ·rw [sel_neg (by simp;omega)]
    refine ⟨_,rfl,i,_,rfl,.inr ⟨rfl,?_⟩⟩
    rw [hp,Yg (by omega)]
    simp [Kerb.skAt];omega
  ·rintro ⟨e,l⟩ ⟨i,n,rfl,⟨rfl,h⟩ | ⟨rfl,h⟩⟩
   ·simp only [↓A0,A0,h]
   ·simp only [↓A0,A0,h,Xv]
    rw [sel_pos (Yq _)]
 ·cases h
theorem w170:Walked Tryz.prog G 170 2 sp170:=by
 refine ⟨Tryz.f170,Tryz.func170,by decide +kernel,rfl,fun xs bl r h=> ?_⟩
 unfold sp170 at h
 split at h
 ·rename_i n
  obtain ⟨hpre,h2⟩:=chk_inv h;cases h2
  refine Eq.trans (b:=(sel (decide (n<300)) (some (Yx [Zz .i64 0,Zv false],[])) (some (Yx [Zz .i64 (Wq (Zy .i64 (Zy .i64 (Xu n 300)-1)) [255]),Zv true],[])):Option (AV×Blocks))) (by kernel_rfl) ?_
  simp only [Zp,decide_eq_true_eq] at hpre
  by_cases h:n<300
  ·rw [sel_pos (by simpa using h)];simp [h]
  rw [sel_neg (by simpa using h)]
  have e1:Zy .i64 (Xu n 300)=Xu n 300:=by rw [Xy (by omega)];exact wrap_i64 (by omega) (by omega)
  have e2:Zy .i64 (Xu n 300-1)=Xu n 300-1:=by rw [Xy (by omega)];exact wrap_i64 (by omega) (by omega)
  have e3:∀ q,Wq q (intsIn [Zz Zw 255])=Kerb.imin q 255:=fun q=>rfl
  try simp only [e3]
  simp only [e1,e2,h,decide_false,Bool.not_false,chk_true,some_bind]
  rfl
 ·cases h
theorem w178:Walked Tryz.prog G 178 2 sp178:=by
 refine ⟨Tryz.f178,Tryz.func178,by decide +kernel,rfl,fun xs bl r h=> ?_⟩
 unfold sp178 at h
 split at h
 ·rename_i s c
  cases h
  refine Eq.trans (b:=(some (Zz .i64 (Wb c s),[]):Option (AV×Blocks))) (by kernel_rfl) ?_
  rfl
 ·cases h
theorem w15:Walked Tryz.prog G 15 3 sp15:=by
 refine ⟨Tryz.f15,Tryz.func15,by decide +kernel,rfl,fun xs bl r h=> ?_⟩
 unfold sp15 at h
 split at h
 ·rename_i n
  obtain ⟨hpre,h2⟩:=chk_inv h;cases h2
  refine Eq.trans (b:=(chk (decide (0≤Yy n 3)&&decide (Yy n 3<(↑(Zx [Zq [(97:UInt8),(110:UInt8),(110:UInt8)],Zq [(98:UInt8),(111:UInt8),(98:UInt8)],Zq [(99:UInt8),(97:UInt8),(116:UInt8)]]):Int))&&true) (Xd (Zb [Zq [(97:UInt8),(110:UInt8),(110:UInt8)],Zq [(98:UInt8),(111:UInt8),(98:UInt8)],Zq [(99:UInt8),(97:UInt8),(116:UInt8)]] (Zu (Yy n 3)) Xq) fun b=>Zj (chk (decide (0≤Zy .i64 (Xu n 3))) (some (Zq (Wh (Zy .i64 (Xu n 3))),[]))) fun (r:AV×Blocks)=>onNilB (Zd r) (Xd (Yv r) fun b_1=>some (Wp [Zq b,Zq [],Zq b_1],[]))):Option (AV×Blocks))) (by kernel_rfl) ?_
  have hn:0≤n:=by first | exact of_decide_eq_true hpre | (simp only [Zp,decide_eq_true_eq] at hpre;exact hpre.1)
  have ht:Yy n 3=n % 3:=Yf hn
  have hcase:n % 3=0∨n % 3=1∨n % 3=2:=by omega
  simp only [Zp,decide_eq_true_eq] at hpre
  have hd:Xu n 3=n / 3:=Xy hn
  rw [hd,wrap_i64 (by omega) (by omega)]
  have hq:decide ((0:Int)≤n / 3)=true:=by simp;omega
  rcases hcase with e | e | e<;>simp [ht,e,chk,Xd,Kerb.user,hq,onNilB]<;>omega
 ·cases h
theorem w19:Walked Tryz.prog G 19 3 sp19:=by
 refine ⟨Tryz.f19,Tryz.func19,by decide +kernel,rfl,fun xs bl r h=> ?_⟩
 unfold sp19 at h
 split at h
 ·rename_i n m
  obtain ⟨hpre,h2⟩:=chk_inv h;cases h2
  refine Eq.trans (b:=(Zj (chk (decide (0≤m)) (some (Zq (Wh m),[]))) fun (r:AV×Blocks)=>onNilB (Zd r) (Xd (Yv r) fun b=>Zj (chk (decide (0≤n)) (some (Zq (Wh n),[]))) fun (r:AV×Blocks)=>onNilB (Zd r) (Xd (Yv r) fun b_1=>some (Wp [Zq [(107:UInt8),(114:UInt8),(98:UInt8),(116:UInt8),(103:UInt8),(116:UInt8)],Zq b,Zq b_1],[]))):Option (AV×Blocks))) (by kernel_rfl) ?_
  simp only [Zp,decide_eq_true_eq] at hpre
  obtain ⟨h0,h1⟩:=hpre
  simp only [h0,h1,decide_true,↓A0,A0]
  rfl
 ·cases h
theorem w21:Walked Tryz.prog G 21 3 sp21:=by
 refine ⟨Tryz.f21,Tryz.func21,by decide +kernel,rfl,fun xs bl r h=> ?_⟩
 unfold sp21 at h
 split at h
 ·rename_i n
  obtain ⟨hpre,h2⟩:=chk_inv h;cases h2
  refine Eq.trans (b:=(chk (decide (0≤Yy n 3)&&decide (Yy n 3<(↑(Zx [Wp [Zq [(109:UInt8),(97:UInt8),(105:UInt8),(108:UInt8)],Zq [],Zq []],Wp [Zq [(110:UInt8),(102:UInt8),(115:UInt8)],Zq [(104:UInt8),(111:UInt8),(109:UInt8),(101:UInt8)],Zq []],Wp [Zq [(107:UInt8),(114:UInt8),(98:UInt8),(116:UInt8),(103:UInt8),(116:UInt8)],Zq [(65:UInt8),(84:UInt8),(72:UInt8)],Zq []]]):Int))&&true) (Vz (Zb [Wp [Zq [(109:UInt8),(97:UInt8),(105:UInt8),(108:UInt8)],Zq [],Zq []],Wp [Zq [(110:UInt8),(102:UInt8),(115:UInt8)],Zq [(104:UInt8),(111:UInt8),(109:UInt8),(101:UInt8)],Zq []],Wp [Zq [(107:UInt8),(114:UInt8),(98:UInt8),(116:UInt8),(103:UInt8),(116:UInt8)],Zq [(65:UInt8),(84:UInt8),(72:UInt8)],Zq []]] (Zu (Yy n 3)) Xq) fun cs=>onCons cs fun x r=>Xd x fun b=>onCons r fun x r=>Xd x fun b_1=>onCons r fun x r=>Xd x fun b_2=>onNil r (Zj (chk (decide (0≤Zy .i64 (Xu n 3))) (some (Zq (Wh (Zy .i64 (Xu n 3))),[]))) fun (r:AV×Blocks)=>onNilB (Zd r) (Xd (Yv r) fun b_3=>some (Wp [Zq b,Zq b_1,Zq b_3],[])))):Option (AV×Blocks))) (by kernel_rfl) ?_
  have hn:0≤n:=by first | exact of_decide_eq_true hpre | (simp only [Zp,decide_eq_true_eq] at hpre;exact hpre.1)
  have ht:Yy n 3=n % 3:=Yf hn
  have hcase:n % 3=0∨n % 3=1∨n % 3=2:=by omega
  simp only [Zp,decide_eq_true_eq] at hpre
  have hd:Xu n 3=n / 3:=Xy hn
  rw [hd,wrap_i64 (by omega) (by omega)]
  have hq:decide ((0:Int)≤n / 3)=true:=by simp;omega
  rcases hcase with e | e | e<;>simp [ht,e,chk,Xd,Vz,onCons,onNil,Kerb.service,hq,onNilB]<;>omega
 ·cases h
theorem w23:Walked Tryz.prog G 23 3 sp23:=by
 refine ⟨Tryz.f23,Tryz.func23,by decide +kernel,rfl,fun xs bl r h=> ?_⟩
 unfold sp23 at h
 split at h
 ·rename_i l
  obtain ⟨hpre,h2⟩:=chk_inv h;cases h2
  refine Eq.trans (b:=(Zj (loopM (fun (st:List AV)=>cBs st fun b r=>cInt .i64 r fun n r=>onCons r fun x r=>AV.onOwnL x fun b_1=>let t0:Option (List AV ⊕ Ex×List AV):=some (Yp (Yj 0,[Zn b,Zz .i64 n,AV.ownL b_1]));onNil r (sel (decide (n<(↑(Zx b):Int))) (sel (decide ((↑(Zx b_1):Int)<25)) (Zj (chk (decide (Zx b≤4611686018427387904)&&decide (0≤n)) (some (Zz .i64 (Wu b n 3),[[Zn b,Zz .i64 (Wx b n 3)]]))) fun (r:AV×Blocks)=>onConsB (Zd r) fun (x:List AV) (r_1:List (List AV))=>cBs x fun b r_2=>cInt .i64 r_2 fun n r_3=>onNil r_3 (onNilB r_1 (Yh .i64 (Yv r) fun n_1=>Zj (chk (decide (0≤n_1)) (some (Zq (Wh n_1),[]))) (kS fun b_2=>Zj (chk (decide (Zx b≤4611686018427387904)&&decide (0≤n)) (some (Zz .i64 (Wu b n 3),[[Zn b,Zz .i64 (Wx b n 3)]]))) fun (r:AV×Blocks)=>onConsB (Zd r) fun (x:List AV) (r_4:List (List AV))=>cBs x fun b r_5=>cInt .i64 r_5 fun n r_6=>onNil r_6 (onNilB r_4 (Yh .i64 (Yv r) fun n_2=>Zj (chk (decide (0≤n_2)) (some (Zq (Wh n_2),[]))) (kS fun b_3=>Zj (chk (decide (Zx b≤4611686018427387904)&&decide (0≤n)) (some (Zz .i64 (Wu b n 4),[[Zn b,Zz .i64 (Wx b n 4)]]))) fun (r:AV×Blocks)=>onConsB (Zd r) fun (x:List AV) (r_7:List (List AV))=>cBs x fun b r_8=>cInt .i64 r_8 fun n r_9=>onNil r_9 (onNilB r_7 (Yh .i64 (Yv r) fun n_3=>Zj (chk (decide (Zx b≤4611686018427387904)&&decide (0≤n)) (some (Zz .i64 (Wu b n 9),[[Zn b,Zz .i64 (Wx b n 9)]]))) fun (r:AV×Blocks)=>onConsB (Zd r) fun (x:List AV) (r_10:List (List AV))=>cBs x fun b r_11=>cInt .i64 r_11 fun n r_12=>onNil r_12 (onNilB r_10 (Yh .i64 (Yv r) fun n_4=>Zj (chk (decide (0≤Zy .i64 (100+n_4))&&decide (Zy .i64 (100+n_4)≤1000)) (some (Zz .u64 (Kerb.long (Zy .i64 (100+n_4))),[]))) (kI .u64 fun n_5=>let t1:List AV:=[Wp [Zq b_2,Zq b_3,Zz .i64 n_3,Zz .u64 n_5]];chk (room (Zx b_1+Zx t1) (nat_lit 48)) (some (Yn [Zn b,Zz .i64 n,AV.ownL (b_1++t1)])))))))))))))) t0) t0)) [Zn l,Zz .i64 0,AV.ownL []]) fun (r:Ex×List AV)=>cBs (Zd r) fun b r_1=>cInt .i64 r_1 fun n r_2=>onCons r_2 fun x r_3=>AV.onOwnL x fun b=>onNil r_3 (exK r.1 none fun (j:Nat)=>sel (Xj j 0) (some (Zf 4 b,[])) none):Option (AV×Blocks))) (by kernel_rfl) ?_
  delta kS kI
  try dsimp only [cStr,cBs,cBool,cU8,cInt,cSl,l63]
  have hl:=of_decide_eq_true hpre
  have c:decide (l.length≤4611686018427387904)=true:=by simp;omega
  have r48:∀ {m:Nat},m≤1000→Go.Abs.room m 48=true:=fun h=>by simp [Go.Abs.room];omega
  refine loop_rounds (fun q:Nat×Int×List Kerb.Cross=>[Zn l,Zz Zw q.2.1,AV.ownL (q.2.2.map Yd)]) (fun q=>(l.length:Int)<q.1+q.2.1∧0≤q.2.1∧q.2.2.length≤25∧Kerb.crossLoop l q.1 q.2.1 q.2.2=Kerb.dataCross l) (fun q=>q.1)
   (fun r=>∃ p:Int,r=(Yj 0,[Zn l,Zz Zw p,AV.ownL ((Kerb.dataCross l).map Yd)])) (l.length+1,0,[]) ⟨by dsimp only;omega,by simp,by simp,rfl⟩ rfl ?_ ?_
  ·rintro ⟨f,p,acc⟩ ⟨hf,hp,ha,he⟩
   dsimp only at hf hp ha he
   simp (config:={maxSteps:=10000000}) only [Xv,↓sInt,↓sU8,↓sBool,↓sStr,↓sBs,↓sSl,↓sAgg,↓sTup,↓sCons,↓sNil,↓sNilB,↓sChk,↓sChkBind,↓sSome,↓sOwnL,↓sConsB,↓sOwnB]
   have h0:∀ n,Wx l p n=Wx l p n:=fun _=>rfl
   have cp:decide ((0:Int)≤p)=true:=by simpa using hp
   by_cases h1:p<l.length
   case neg =>
    rw [sel_neg (by simpa using h1)]
    have hk:acc=Kerb.dataCross l:=by
     cases f with
     | zero=>exact he
     | succ g=>rw [← he];unfold Kerb.crossLoop;rw [if_neg (by omega)]
    exact ⟨_,rfl,p,by rw [← hk]⟩
   rw [sel_pos (by simpa using h1)]
   by_cases h2:acc.length<25
   case neg =>
    rw [sel_neg (by simp;omega)]
    have hk:acc=Kerb.dataCross l:=by
     cases f with
     | zero=>exact he
     | succ g=>rw [← he];unfold Kerb.crossLoop;rw [if_neg (by omega)]
    exact ⟨_,rfl,p,by rw [← hk]⟩
   rw [sel_pos (by simp;omega)]
   have hw:∀ q,Zy .i64 (100+Wu l q 9)=100+Wu l q 9:=fun q=>by have:=Kerb.next_bd l q 9;exact wrap_i64 (by omega) (by omega)
   have hw2:∀ q,decide ((0:Int)≤100+Wu l q 9)=true:=fun q=>by have:=Kerb.next_bd l q 9;simp;omega
   have hw3:∀ q,decide (100+Wu l q 9≤1000)=true:=fun q=>by have:=Kerb.next_bd l q 9;simp;omega
   obtain ⟨g,rfl⟩:∃ g,f=g+1:=⟨f-1,by omega⟩
   unfold Kerb.crossLoop at he
   rw [if_pos ⟨h1,h2⟩] at he
   have hg:=Kerb.cr4_gt hp h1
   simp (config:={maxSteps:=10000000}) only [c,cp,Kerb.next_dec,Kerb.next_dec62,Kerb.next_dec1000,Kerb.nextPos_dec,Kerb.realm_lenB,hw,hw2,hw3,Bool.and_self,List.length_cons,List.length_nil,↓sInt,↓sU8,↓sBool,↓sStr,↓sBs,↓sSl,↓sAgg,↓sTup,↓sCons,↓sNil,↓sNilB,↓sChk,↓sChkBind,↓sSome,↓sOwnL,↓sConsB,↓sOwnB]
   rw [chk_of (r48 (by omega))]
   refine ⟨_,rfl,(g,Kerb.cr4 l p,acc++[Kerb.dataCr l p]),?_,⟨by dsimp only;push_cast at hf;omega,by dsimp only;omega,by dsimp only;simp;omega,he⟩,by simp⟩
   dsimp only
   rw [List.map_append]
   rfl
  ·rintro _ ⟨p,rfl⟩
   simp only [↓A0,A0]
   rw [sel_pos (Yq _)]
 ·cases h
theorem w35:Walked Tryz.prog G 35 3 sp35:=by
 refine ⟨Tryz.f35,Tryz.func35,by decide +kernel,rfl,fun xs bl r h=> ?_⟩
 unfold sp35 at h
 split at h
 ·rename_i B at_ li bad
  obtain ⟨hpre,h2⟩:=chk_inv h;cases h2
  show runFnH (G.env 35 3) G.rts (G.own 35) Tryz.f35 _ _ [0]=_
  refine Eq.trans (b:=(Zj (chk (decide (Zx B≤140737488355328)) (some (Zq (Wv (Xw B at_)),[[Zn B,Zz .i64 (bif bad || !Xf (Xw B at_)==0 then at_ else Wz (Xw B at_)),Zv li,Zv (bad || !Xf (Xw B at_)==0)]]))) fun (r:AV×Blocks)=>onConsB (Zd r) fun (x:List AV) (r_1:List (List AV))=>cBs x fun b r_2=>cInt .i64 r_2 fun n r_3=>cBool r_3 fun b_1 r_4=>cBool r_4 fun b_2 r_5=>onNil r_5 (onNilB r_1 (Xd (Yv r) fun b_3=>Zj (chk (decide (Zx b≤140737488355328)) (some (Zq (Wv (Xw b n)),[[Zn b,Zz .i64 (bif b_2 || !Xf (Xw b n)==0 then n else Wz (Xw b n)),Zv b_1,Zv (b_2 || !Xf (Xw b n)==0)]]))) fun (r:AV×Blocks)=>onConsB (Zd r) fun (x:List AV) (r_6:List (List AV))=>cBs x fun b r_7=>cInt .i64 r_7 fun n r_8=>cBool r_8 fun b_4 r_9=>cBool r_9 fun b_5 r_10=>onNil r_10 (onNilB r_6 (Xd (Yv r) fun b_6=>Zj (chk (decide (Zx b≤140737488355328)) (some (Zq (Wv (Xw b n)),[[Zn b,Zz .i64 (bif b_5 || !Xf (Xw b n)==0 then n else Wz (Xw b n)),Zv b_4,Zv (b_5 || !Xf (Xw b n)==0)]]))) fun (r:AV×Blocks)=>onConsB (Zd r) fun (x:List AV) (r_11:List (List AV))=>cBs x fun b r_12=>cInt .i64 r_12 fun n r_13=>cBool r_13 fun b_7 r_14=>cBool r_14 fun b_8 r_15=>onNil r_15 (onNilB r_11 (Xd (Yv r) fun b_9=>some (Wp [Zq b_3,Zq b_6,Zq b_9],[[Zn b,Zz .i64 n,Zv b_7,Zv b_8]]))))))):Option (AV×Blocks))) (by kernel_rfl) ?_
  try dsimp only [cStr,cBs,cBool,cU8,cInt,cSl,l63]
  simp only [A0]
  rw [chk_of hpre,chk_of hpre,chk_of hpre]
  rfl
 ·cases h
theorem w41:Walked Tryz.prog G 41 3 sp41:=by
 refine ⟨Tryz.f41,Tryz.func41,by decide +kernel,rfl,fun xs bl r h=> ?_⟩
 unfold sp41 at h
 split at h
 ·rename_i b
  obtain ⟨hpre,h2⟩:=chk_inv h;cases h2
  refine Eq.trans (b:=(sel (!(↑(Zx b):Int)==8) (some (Yx [Zz .u64 0,Zv false],[])) (Zj (loopM (fun (st:List AV)=>cBs st fun b r=>cInt .u64 r fun n r=>cInt .i64 r fun n_1 r=>onNil r (sel (decide (n_1<8)) (chk (decide (0≤n_1)&&decide (n_1<(↑(Zx b):Int))) (some (Yn [Zn b,Zz .u64 (Zy .u64 (↑(BitVec.toNat (BitVec.ofInt (Zk .u64) (Zy .u64 (n*2 ^ min (Zu 8) (Zk .u64))) ||| BitVec.ofInt (Zk .u64) (Zy .u64 (↑(Zh (Zb b (Zu n_1) (0:UInt8))):Int)))):Int)),Zz .i64 (Zy .i64 (n_1+1))]))) (some (Yp (Yj 0,[Zn b,Zz .u64 n,Zz .i64 n_1]))))) [Zn b,Zz .u64 0,Zz .i64 0]) fun (r:Ex×List AV)=>cBs (Zd r) fun b r_1=>cInt .u64 r_1 fun n r_2=>cInt .i64 r_2 fun n_1 r_3=>onNil r_3 (exK r.1 none fun (j:Nat)=>sel (Xj j 0) (Zj (chk (decide (0≤n)&&decide (n<18446744073709551616)) (some (Zv (Xh n),[]))) (kL fun b=>sel (!b) (some (Yx [Zz .u64 0,Zv false],[])) (some (Yx [Zz .u64 n,Zv true],[])))) none)):Option (AV×Blocks))) (by kernel_rfl) ?_
  delta kL
  try dsimp only [cStr,cBs,cBool,cU8,cInt,cSl,l63]
  have hb:=of_decide_eq_true hpre
  unfold Kerb.keyRead
  by_cases h8:b.length=8
  case neg =>
   rw [sel_pos (by simp;omega),if_neg (by omega)]
  rw [sel_neg (by simp [h8])]
  refine loop_rounds (fun i:Nat=>[Zn b,Zz Yb (Kerb.valB (b.take i)),Zz Zw (i:Int)]) (fun i=>i≤8) (fun i=>8-i)
   (fun r=>r=(Yj 0,[Zn b,Zz Yb (Kerb.valB b),Zz Zw 8])) 0 (by omega) rfl ?_ ?_
  ·intro i hi
   simp only [A0]
   by_cases hlt:i<8
   ·have hv:=Kerb.valB_take (l:=b) (i:=i) (by omega)
    have hbd:=Kerb.valB_bd7 (l:=b.take i) (by simp;omega)
    rw [sel_pos (by simp;omega),chk_of (by simp;omega),Zg,Kerb.shl8_oru _ hbd.1 hbd.2,wrap_i64 (by omega) (by omega),← hv]
    exact ⟨_,rfl,i+1,rfl,by omega,by dsimp only;omega⟩
   ·rw [sel_neg (by simp;omega)]
    refine ⟨_,rfl,?_⟩
    show _=_
    rw [Zm (by omega),show i=8 from by omega]
    rfl
  rintro r rfl
  have hbd:=Kerb.valB_bd8 (l:=b) (by omega)
  simp only [A0]
  rw [sel_pos (Yq _),chk_of (by simp;omega)]
  cases hv:Xh (Kerb.valB b)
  ·rw [if_neg (by simp)]
   rfl
  ·rw [if_pos ⟨h8,rfl⟩]
   rfl
 ·cases h
theorem w49:Walked Tryz.prog G 49 3 sp49:=by
 refine ⟨Tryz.f49,Tryz.func49,by decide +kernel,rfl,fun xs bl r h=> ?_⟩
 unfold sp49 at h
 split at h
 ·rename_i k
  obtain ⟨hpre,h2⟩:=chk_inv h;cases h2
  refine Eq.trans (b:=(Zj (chk (decide (0≤k)&&decide (k<18446744073709551616)) (some (Yx [Zz .i64 (bif Xh k then Kerb.keyClass k else 0),Zz .i64 (bif Xh k then Kerb.keySerial k else 0),Zv (Xh k)],[]))) fun (r:AV×Blocks)=>onNilB (Zd r) (AV.onTup (Yv r) fun vs=>onCons vs fun x r=>Yh .i64 x fun n=>onCons r fun x r=>Yh .i64 x fun n=>onCons r fun x r=>AV.onBool x fun b=>onNil r (some (Zv b,[]))):Option (AV×Blocks))) (by kernel_rfl) ?_
  simp only [A0]
  rw [chk_of hpre]
 ·cases h
end Go.Proofs.YtmdppipjjnfanaaGreatDoor
