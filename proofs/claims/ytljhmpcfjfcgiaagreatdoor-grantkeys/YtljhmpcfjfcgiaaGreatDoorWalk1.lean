/- What the functions of this seat compute. -/
import Derived.Test.YtljhmpcfjfcgiaaGreatDoorTab
import Derived.Test.YtljhmpcfjfcgiaaGreatDoorKerbPlain
import Derived.Test.YtljhmpcfjfcgiaaGreatDoorAbsStep
import Derived.Test.YtljhmpcfjfcgiaaGreatDoorKerbCli3
import Derived.Test.YtljhmpcfjfcgiaaGreatDoorKerbCli4
import Derived.Test.YtljhmpcfjfcgiaaGreatDoorKerbCli5
import Derived.Test.YtljhmpcfjfcgiaaGreatDoorKerbSrvL
import Derived.Test.YtljhmpcfjfcgiaaGreatDoorKerbKac2
import Derived.Test.YtljhmpcfjfcgiaaGreatDoorKerbKac4
import Derived.Test.YtljhmpcfjfcgiaaGreatDoorKerbSrvB
import Derived.Test.YtljhmpcfjfcgiaaGreatDoorKerbVerL
import Derived.Test.YtljhmpcfjfcgiaaGreatDoorKerbVerL
import Derived.Test.YtljhmpcfjfcgiaaGreatDoorKerbAuthL
open Go.Abs.AV renaming int→Zz,str→Zv,bool→Zu,sl→Zd,undef→Yy,ownB→Yw,bs→Yd,tup→Ym,onAgg→Yh,onInt→Xu,ownL→Xd,onOwnB→Wy,onStr→Wu,agg→Wq,onOwnL→Vj,onBool→Vk
open Go.IntKind renaming wrap→Zy,i64→Zw,bits→Zp,u64→Xx
open List renaming length→Zx,getD→Zb,length_map→Zh,take_of_length_le→Xz,drop_eq_nil_of_le→Xy,append_assoc→Wz,length_cons→Wn,length_nil→Vw,length_append→Vu
open Int renaming toNat→Zq,toNat_natCast→Zm,tmod→Yu,tmod_eq_emod_of_nonneg→Xw,tdiv_eq_ediv_of_nonneg→Xg,tdiv→Xm
open Option renaming bind→Zj
open Kerb.Entry renaming named→Zk,av→Yq
open Bool renaming and_eq_true→Zf,not_true→Vp
open Kerb.Cross renaming av→Zg
open Prod renaming snd→Zn,fst→Yp
open Kerb.SKey renaming av→Yz
open Kerb renaming within→Yx,room_ok→Yk,putN_len→Yb,noCross→Xq,findEnt→Xk,putText_len→Xp,printable→Xf,bfd→Xn,putN→Xh,isKind→Wx,crossKeys→Ww,putText→Wv,readHead→Wj,keyValid→Wk,getD_row→Wp,header→Wd,nextPos→Wf,crossAt→Wg,next→Wm,least→Wh,isSerial→Vz,crossKey→Vy,noSKey→Vx,isClass→Vv,realm→Vq
open Nat renaming zero_le→Yv,beq_refl→Yn,beq→Xb,lt_or_ge→Wb
open Go.Abs.Ex renaming exit→Yj
open Sum renaming inl→Yf,inr→Yg
open UInt8 renaming ofNat→Xv,toNat→Xj
namespace Go.Proofs.YtljhmpcfjfcgiaaGreatDoor
open Go Go.Abs Go.Proofs
set_option linter.unusedVariables false
set_option linter.unusedSimpArgs false
set_option maxRecDepth 100000
theorem w8:Walked Tryz.prog G 8 1 sp8:=by
 refine ⟨Tryz.f8,Tryz.func8,by decide +kernel,rfl,fun xs bl r h=> ?_⟩
 unfold sp8 at h
 split at h
 ·rename_i kls jls
  obtain ⟨hpre,h2⟩:=chk_inv h;cases h2
  refine Eq.trans (b:=(sel (!(↑(Zx kls):Int)==(↑(Zx jls):Int)) (some (Zu false,[])) (Zj (loopM (fun (st:List AV)=>cSl 5 st fun b r=>cSl 5 r fun b_1 r=>cBool r fun b_2 r=>cInt .i64 r fun n r=>onNil r (sel (decide (n<(↑(Zx b):Int))) (chk (decide (0≤n)&&decide (n<(↑(Zx b):Int))&&true) (Yh (Zb b (Zq n) Yy) fun cs=>cStr cs fun b_3 r=>cStr r fun b_4 r=>cStr r fun b_5 r=>cInt .i64 r fun n_1 r=>cInt .u64 r fun n_2 r=>onNil r (chk (decide (0≤n)&&decide (n<(↑(Zx b_1):Int))&&true) (Yh (Zb b_1 (Zq n) Yy) fun cs=>cStr cs fun b_6 r=>cStr r fun b_7 r=>cStr r fun b_8 r=>cInt .i64 r fun n_3 r=>cInt .u64 r fun n_4 r=>onNil r (sel (!(b_3==b_6&&(b_4==b_7&&(b_5==b_8&&(n_1==n_3&&n_2==n_4))))) (some (Yg (Ex.ret,[Zd 5 b,Zd 5 b_1,Zu false,Zz .i64 n]))) (some (Yf [Zd 5 b,Zd 5 b_1,Zu b_2,Zz .i64 (Zy .i64 (n+1))]))))))) (some (Yg (Yj 0,[Zd 5 b,Zd 5 b_1,Zu b_2,Zz .i64 n]))))) [Zd 5 kls,Zd 5 jls,Zu false,Zz .i64 0]) fun (r:Ex×List AV)=>cSl 5 (Zn r) fun b r_1=>cSl 5 r_1 fun b r_2=>cBool r_2 fun b r_3=>cInt .i64 r_3 fun n r_4=>onNil r_4 (exK r.1 (some (Zu b,[])) fun (j:Nat)=>sel (Xb j 0) (some (Zu true,[])) none)):Option (AV×Blocks))) (by kernel_rfl) ?_
  try dsimp only [cStr,cBs,cBool,cU8,cInt,cSl,l63]
  simp only [Zf,decide_eq_true_eq] at hpre
  obtain ⟨⟨h1a,hlen⟩,h1b⟩:=hpre
  obtain ⟨cs,rfl,hok⟩:=Kerb.skeys_of h1a
  obtain ⟨ds,rfl,hokd⟩:=Kerb.skeys_of h1b
  simp only [Kerb.map_toSKey,Zh] at hlen ⊢
  by_cases hl:cs.length=ds.length
  case neg =>
   rw [sel_pos (by simp;omega),Kerb.sameSKeys_len hl]
   try rfl
  rw [sel_neg (by simp;omega)]
  refine loop_rounds (fun i:Nat=>[Zd 5 (cs.map Yz),Zd 5 (ds.map Yz),Zu false,Zz Zw (i:Int)]) (fun i=>i≤cs.length∧Kerb.sameSKeys cs ds=Kerb.sameSKeys (cs.drop i) (ds.drop i)) (fun i=>cs.length-i)
   (fun r=>∃ (i:Nat) (q:Bool),r.2=[Zd 5 (cs.map Yz),Zd 5 (ds.map Yz),Zu q,Zz Zw (i:Int)]∧((r.1 = .ret∧q=false∧Kerb.sameSKeys cs ds=false)∨(r.1 = .exit 0∧Kerb.sameSKeys cs ds=true))) 0 ⟨Yv _,by simp⟩ rfl ?_ ?_
  ·rintro i ⟨hi,hp⟩
   simp only [↓A0,A0,Zh]
   by_cases hlt:i<cs.length
   ·have hlt2:i<ds.length:=by omega
    have hs:=Kerb.sameSKeys_step hlt hlt2
    have hg:(cs.map Yz).getD i Yy=(cs.getD i Vx).av:=Wp hlt
    have hg2:(ds.map Yz).getD i Yy=(ds.getD i Vx).av:=Wp hlt2
    have hk1:(decide ((0:Int)≤(i:Int))&&decide ((i:Int)<(cs.length:Int))&&true)=true:=by simp;omega
    have hk2:(decide ((0:Int)≤(i:Int))&&decide ((i:Int)<(ds.length:Int))&&true)=true:=by simp;omega
    obtain ⟨c,hc⟩:∃ c,cs.getD i Vx=c:=⟨_,rfl⟩
    obtain ⟨d,hd⟩:∃ d,ds.getD i Vx=d:=⟨_,rfl⟩
    rw [hc] at hg hs
    rw [hd] at hg2 hs
    rw [sel_pos (by simp;omega)]
    simp only [hk1,hk2,Zm,hg,hg2,Yz,↓A0,A0]
    rw [wrap_i64 (by omega) (by omega)]
    show ∃ y,sel (!(c.eqb d)) _ _=some y∧_
    cases he:c.eqb d
    ·rw [he,Bool.false_and] at hs
     exact ⟨_,rfl,i,_,rfl,.inl ⟨rfl,rfl,hp.trans hs⟩⟩
    ·rw [he,Bool.true_and] at hs
     exact ⟨_,rfl,i+1,rfl,⟨by omega,hp.trans hs⟩,by dsimp only;omega⟩
   ·rw [sel_neg (by simp;omega)]
    refine ⟨_,rfl,i,_,rfl,.inr ⟨rfl,?_⟩⟩
    rw [hp,Xy (by omega),Xy (by omega)]
    rfl
  ·rintro ⟨e,l⟩ ⟨i,q,rfl,⟨rfl,rfl,h⟩ | ⟨rfl,h⟩⟩
   ·simp only [↓A0,A0,h]
    try rfl
   ·simp only [↓A0,A0,h]
    rw [sel_pos (Yn _)]
    try rfl
 ·cases h
theorem w13:Walked Tryz.prog G 13 1 sp13:=by
 refine ⟨Tryz.f13,Tryz.func13,by decide +kernel,rfl,fun xs bl r h=> ?_⟩
 unfold sp13 at h
 split at h
 ·rename_i n
  obtain ⟨hpre,h2⟩:=chk_inv h;cases h2
  refine Eq.trans (b:=(some (Zz .u64 (Zy .u64 (↑(BitVec.toNat (BitVec.ofInt (Zp .u64) 72057594037927936 ||| BitVec.ofInt (Zp .u64) (Zy .u64 (Zy .i64 (1+n))))):Int)),[]):Option (AV×Blocks))) (by kernel_rfl) ?_
  rfl
 ·cases h
theorem w17:Walked Tryz.prog G 17 1 sp17:=by
 refine ⟨Tryz.f17,Tryz.func17,by decide +kernel,rfl,fun xs bl r h=> ?_⟩
 unfold sp17 at h
 split at h
 ·rename_i n
  obtain ⟨hpre,h2⟩:=chk_inv h;cases h2
  refine Eq.trans (b:=(some (Zz .u64 (Zy .u64 (↑(BitVec.toNat (BitVec.ofInt (Zp .u64) 144115188075855872 ||| BitVec.ofInt (Zp .u64) (Zy .u64 (Zy .i64 (1+n))))):Int)),[]):Option (AV×Blocks))) (by kernel_rfl) ?_
  rfl
 ·cases h
theorem w20:Walked Tryz.prog G 20 1 sp20:=by
 refine ⟨Tryz.f20,Tryz.func20,by decide +kernel,rfl,fun xs bl r h=> ?_⟩
 unfold sp20 at h
 split at h
 ·rename_i l pos
  cases h
  show runFnH (G.env 20 1) G.rts (G.own 20) Tryz.f20 _ _ [0]=_
  refine Eq.trans (b:=(some (Zu (decide (pos<(↑(Zx l):Int))),[[Yd l,Zz .i64 pos]]):Option (AV×Blocks))) (by kernel_rfl) ?_
  rfl
 ·cases h
theorem w23:Walked Tryz.prog G 23 1 sp23:=by
 refine ⟨Tryz.f23,Tryz.func23,by decide +kernel,rfl,fun xs bl r h=> ?_⟩
 unfold sp23 at h
 split at h
 ·rename_i r t
  cases h
  refine Eq.trans (b:=(some (Wq [Zv [(107:UInt8),(114:UInt8),(98:UInt8),(116:UInt8),(103:UInt8),(116:UInt8)],Zv t,Zv r],[]):Option (AV×Blocks))) (by kernel_rfl) ?_
  rfl
 ·cases h
theorem w24:Walked Tryz.prog G 24 1 sp24:=by
 refine ⟨Tryz.f24,Tryz.func24,by decide +kernel,rfl,fun xs bl r h=> ?_⟩
 unfold sp24 at h
 split at h
 ·rename_i rl els n i
  obtain ⟨hpre,h2⟩:=chk_inv h;cases h2
  refine Eq.trans (b:=(Zj (loopM (fun (st:List AV)=>cStr st fun b r=>cStr r fun b_1 r=>cInt .i64 r fun n r=>cInt .i64 r fun n_1 r=>cInt .i64 r fun n_2 r=>cBool r fun b_2 r=>cSl 9 r fun b_3 r=>cInt .i64 r fun n_3 r=>cInt .i64 r fun n_4 r=>let t1:List AV:=[Zz .i64 n_2,Zu b_2,Zd 9 b_3,Zz .i64 n_3,Zz .i64 n_4];let t2:List AV:=[Zd 9 b_3,Zz .i64 n_3,Zz .i64 (Zy .i64 (n_4+1))];let t0:Option (List AV ⊕ Ex×List AV):=some (Yf (Zv b::Zv b_1::Zz .i64 n::Zz .i64 n_1::Zz .i64 n_2::Zu b_2::t2));onNil r (sel (decide (n_4<n_3)) (chk (decide (0≤n_4)&&decide (n_4<(↑(Zx b_3):Int))&&true) (Yh (Zb b_3 (Zq n_4) Yy) fun cs=>cStr cs fun b_4 r=>cStr r fun b_5 r=>cInt .u64 r fun n_5 r=>cInt .i64 r fun n_6 r=>cInt .i64 r fun n_7 r=>cInt .i64 r fun n_8 r=>cInt .i64 r fun n_9 r=>cInt .i64 r fun n_10 r=>cInt .i64 r fun n_11 r=>onNil r (sel (!b_4==b) t0 (sel (!b_5==b_1) t0 (sel b_2 (some (Yg (Ex.ret,Zv b::Zv b_1::Zz .i64 0::Zz .i64 9::t1))) (some (Yf (Zv b::Zv b_1::Zz .i64 n::Zz .i64 n_1::Zz .i64 n_4::Zu true::t2)))))))) (some (Yg (Yj 0,Zv b::Zv b_1::Zz .i64 n::Zz .i64 n_1::t1))))) [Zv n,Zv i,Zz .i64 0,Zz .i64 0,Zz .i64 0,Zu false,Zd 9 els,Zz .i64 (↑(Zx els):Int),Zz .i64 0]) fun (r:Ex×List AV)=>cStr (Zn r) fun b r_1=>cStr r_1 fun b r_2=>cInt .i64 r_2 fun n r_3=>cInt .i64 r_3 fun n_1 r_4=>cInt .i64 r_4 fun n_2 r_5=>cBool r_5 fun b r_6=>cSl 9 r_6 fun b_1 r_7=>cInt .i64 r_7 fun n_3 r_8=>cInt .i64 r_8 fun n_4 r_9=>onNil r_9 (exK r.1 (some (Ym [Zz .i64 n,Zz .i64 n_1],[])) fun (j:Nat)=>sel (Xb j 0) (sel (!b) (some (Ym [Zz .i64 0,Zz .i64 8],[])) (some (Ym [Zz .i64 n_2,Zz .i64 0],[]))) none):Option (AV×Blocks))) (by kernel_rfl) ?_
  try dsimp only [cStr,cBs,cBool,cU8,cInt,cSl,l63]
  simp only [Zf,decide_eq_true_eq] at hpre
  obtain ⟨hall,hlen⟩:=hpre
  obtain ⟨es,rfl,hok⟩:=Kerb.ents_of hall
  rw [Kerb.map_toEntry]
  simp only [Zh] at hlen ⊢
  refine loop_rounds (fun q:Nat×Int×Bool=>[Zv n,Zv i,Zz Zw 0,Zz Zw 0,Zz Zw q.2.1,Zu q.2.2,Zd 9 (es.map Yq),Zz Zw (es.length:Int),Zz Zw (q.1:Int)])
   (fun q=>q.1≤es.length∧((q.2.2=false∧(es.take q.1).countP (Zk n i)=0)∨(q.2.2=true∧(es.take q.1).countP (Zk n i)=1∧q.2.1=(es.findIdx (Zk n i):Int)))) (fun q=>es.length-q.1)
   (fun r=>∃ (a b c:Int) (d:Bool) (j:Nat),r.2=[Zv n,Zv i,Zz Zw a,Zz Zw b,Zz Zw c,Zu d,Zd 9 (es.map Yq),Zz Zw (es.length:Int),Zz Zw (j:Int)]∧((r.1 = .ret∧(a,b)=Xk es n i)∨(r.1 = .exit 0∧((d=false∧(0,8)=Xk es n i)∨(d=true∧(c,0)=Xk es n i))))) (0,0,false) ⟨Yv _,.inl ⟨rfl,rfl⟩⟩ rfl ?_ ?_
  ·rintro ⟨j,c,d⟩ ⟨hj,hinv⟩
   simp only at hj hinv
   simp only [↓A0,A0]
   rcases Wb j es.length with h | h
   ·have hc:=Kerb.count_take (p:=Zk n i) h
    have hle:=Kerb.count_le (p:=Zk n i) (es:=es) (j+1)
    rw [sel_pos (by simp;omega),chk_of (by simp;omega),Zm,Kerb.getD_ent h]
    have hx:=Kerb.find_first (p:=Zk n i) h
    generalize es.getD j Kerb.noEntry=e at hc hx
    simp only [Yq,↓A0,A0]
    rw [wrap_i64 (by omega) (by omega)]
    by_cases h1:e.name=n
    ·by_cases h2:e.inst=i
     ·have hp:Zk n i e=true:=by simp [Zk,h1,h2]
      rw [hp,cond_true] at hc
      rw [sel_neg (by simp [h1]),sel_neg (by simp [h2])]
      rcases hinv with ⟨rfl,h0⟩ | ⟨rfl,h0,h3⟩
      ·refine ⟨_,rfl,(j+1,(j:Int),true),rfl,⟨by simp only;omega,.inr ⟨rfl,by simp only;omega,by rw [hx h0 hp]⟩⟩,by simp only;omega⟩
      ·refine ⟨_,rfl,0,9,c,true,j,rfl,.inl ⟨rfl,?_⟩⟩
       unfold Xk
       rw [if_neg (by omega),if_pos (by omega)]
     ·have hp:Zk n i e=false:=by simp [Zk,h2]
      rw [hp,cond_false] at hc
      rw [sel_neg (by simp [h1]),sel_pos (by simpa using h2)]
      exact ⟨_,rfl,(j+1,c,d),rfl,⟨by simp only;omega,by simp only;rw [hc];simpa using hinv⟩,by simp only;omega⟩
    ·have hp:Zk n i e=false:=by simp [Zk,h1]
     rw [hp,cond_false] at hc
     rw [sel_pos (by simpa using h1)]
     exact ⟨_,rfl,(j+1,c,d),rfl,⟨by simp only;omega,by simp only;rw [hc];simpa using hinv⟩,by simp only;omega⟩
   ·rw [sel_neg (by simp;omega)]
    rw [Xz h] at hinv
    refine ⟨_,rfl,0,0,c,d,j,rfl,.inr ⟨rfl,?_⟩⟩
    unfold Xk
    rcases hinv with ⟨rfl,h0⟩ | ⟨rfl,h0,rfl⟩
    ·exact .inl ⟨rfl,by rw [if_pos h0]⟩
    ·exact .inr ⟨rfl,by rw [if_neg (by omega),if_neg (by omega)]⟩
  ·rintro ⟨e,l⟩ ⟨a,b,c,d,j,rfl,⟨rfl,h⟩ | ⟨rfl,⟨rfl,h⟩ | ⟨rfl,h⟩⟩⟩
   ·rw [← h];rfl
   ·rw [← h];rfl
   ·rw [← h];rfl
 ·cases h
theorem w26:Walked Tryz.prog G 26 1 sp26:=by
 refine ⟨Tryz.f26,Tryz.func26,by decide +kernel,rfl,fun xs bl r h=> ?_⟩
 unfold sp26 at h
 split at h
 ·rename_i rl els n i
  obtain ⟨hpre,h2⟩:=chk_inv h;cases h2
  refine Eq.trans (b:=(Zj (loopM (fun (st:List AV)=>cStr st fun b r=>cStr r fun b_1 r=>cStr r fun b_2 r=>cSl 9 r fun b_3 r=>cInt .i64 r fun n r=>cInt .i64 r fun n_1 r=>cInt .i64 r fun n_2 r=>let t0:Option (List AV ⊕ Ex×List AV):=some (Yf [Zv b,Zv b_1,Zv b_2,Zd 9 b_3,Zz .i64 n,Zz .i64 n_1,Zz .i64 (Zy .i64 (n_2+1))]);onNil r (sel (decide (n_2<(↑(Zx b_3):Int))) (chk (decide (0≤n_2)&&decide (n_2<(↑(Zx b_3):Int))&&true) (Yh (Zb b_3 (Zq n_2) Yy) fun cs=>cStr cs fun b_4 r=>cStr r fun b_5 r=>cInt .u64 r fun n r=>cInt .i64 r fun n r=>cInt .i64 r fun n r=>cInt .i64 r fun n r=>cInt .i64 r fun n r=>cInt .i64 r fun n r=>cInt .i64 r fun n r=>onNil r (sel (b_4==b) (chk (decide (0≤n_2)&&decide (n_2<(↑(Zx b_3):Int))&&true) (Yh (Zb b_3 (Zq n_2) Yy) fun cs=>cStr cs fun b_6 r=>cStr r fun b_7 r=>cInt .u64 r fun n r=>cInt .i64 r fun n r=>cInt .i64 r fun n r=>cInt .i64 r fun n r=>cInt .i64 r fun n r=>cInt .i64 r fun n r=>cInt .i64 r fun n r=>onNil r (sel (b_7==b_1) (some (Yf [Zv b,Zv b_1,Zv b_2,Zd 9 b_3,Zz .i64 n_2,Zz .i64 (Zy .i64 (n_1+1)),Zz .i64 (Zy .i64 (n_2+1))])) t0))) t0))) (some (Yg (Yj 0,[Zv b,Zv b_1,Zv b_2,Zd 9 b_3,Zz .i64 n,Zz .i64 n_1,Zz .i64 n_2]))))) [Zv n,Zv i,Zv rl,Zd 9 els,Zz .i64 0,Zz .i64 0,Zz .i64 0]) fun (r:Ex×List AV)=>cStr (Zn r) fun b r_1=>cStr r_1 fun b r_2=>cStr r_2 fun b r_3=>cSl 9 r_3 fun b r_4=>cInt .i64 r_4 fun n r_5=>cInt .i64 r_5 fun n_1 r_6=>cInt .i64 r_6 fun n_2 r_7=>onNil r_7 (exK r.1 none fun (j:Nat)=>sel (Xb j 0) (sel (n_1==0) (some (Ym [Zz .i64 0,Zz .i64 8],[])) (sel (decide (n_1>1)) (some (Ym [Zz .i64 0,Zz .i64 9],[])) (some (Ym [Zz .i64 n,Zz .i64 0],[])))) none):Option (AV×Blocks))) (by kernel_rfl) ?_
  try dsimp only [cStr,cBs,cBool,cU8,cInt,cSl,l63]
  simp only [Zf,decide_eq_true_eq] at hpre
  obtain ⟨hall,hlen⟩:=hpre
  obtain ⟨es,rfl,hok⟩:=Kerb.ents_of hall
  rw [Kerb.map_toEntry]
  simp only [Zh] at hlen
  refine loop_rounds (fun q:Nat×Int=>[Zv n,Zv i,Zv rl,Zd 9 (es.map Yq),Zz Zw q.2,Zz Zw ((es.take q.1).countP (Zk n i):Int),Zz Zw (q.1:Int)])
   (fun q=>q.1≤es.length∧((es.take q.1).countP (Zk n i)=1→q.2=(es.findIdx (Zk n i):Int))) (fun q=>es.length-q.1)
   (fun r=>∃ c:Int,r=(.exit 0,[Zv n,Zv i,Zv rl,Zd 9 (es.map Yq),Zz Zw c,Zz Zw (es.countP (Zk n i):Int),Zz Zw (es.length:Int)])∧(es.countP (Zk n i)=1→c=(es.findIdx (Zk n i):Int))) (0,0) ⟨Yv _,fun h=>by simp at h⟩ rfl ?_ ?_
  ·rintro ⟨j,c⟩ ⟨hj,hinv⟩
   simp only at hj hinv
   simp only [↓A0,A0,Zh]
   rcases Wb j es.length with h | h
   ·have hc:=Kerb.count_take (p:=Zk n i) h
    have hle:=Kerb.count_le (p:=Zk n i) (es:=es) (j+1)
    have hcl:=List.countP_le_length (p:=Zk n i) (l:=es)
    have hx:=Kerb.find_first (p:=Zk n i) h
    have hg:(List.map Yq es).getD j Yy=(es.getD j Kerb.noEntry).av:=Kerb.getD_ent h
    rw [sel_pos (by simp;omega),chk_of (by simp;omega),Zm,hg]
    generalize es.getD j Kerb.noEntry=e at hc hx
    simp only [Yq,↓A0,A0]
    rw [wrap_i64 (n:=(j:Int)+1) (by omega) (by omega),wrap_i64 (by omega) (by omega),chk_of (by simp;omega)]
    by_cases h1:e.name=n
    ·by_cases h2:e.inst=i
     ·have hp:Zk n i e=true:=by simp [Zk,h1,h2]
      rw [hp,cond_true] at hc
      rw [sel_pos (by simp [h1]),sel_pos (by simp [h2])]
      refine ⟨_,rfl,(j+1,(j:Int)),by simp [hc],⟨by simp only;omega,fun h0=> ?_⟩,by simp only;omega⟩
      simp only at h0 ⊢
      rw [hx (by omega) hp]
     ·have hp:Zk n i e=false:=by simp [Zk,h2]
      rw [hp,cond_false] at hc
      rw [sel_pos (by simp [h1]),sel_neg (by simpa using h2)]
      exact ⟨_,rfl,(j+1,c),by simp [hc],⟨by simp only;omega,by simp only;rw [hc];simpa using hinv⟩,by simp only;omega⟩
    ·have hp:Zk n i e=false:=by simp [Zk,h1]
     rw [hp,cond_false] at hc
     rw [sel_neg (by simpa using h1)]
     exact ⟨_,rfl,(j+1,c),by simp [hc],⟨by simp only;omega,by simp only;rw [hc];simpa using hinv⟩,by simp only;omega⟩
   ·rw [sel_neg (by simp;omega)]
    have hj2:j=es.length:=by omega
    subst hj2
    rw [Xz h] at hinv ⊢
    exact ⟨_,rfl,c,rfl,hinv⟩
  ·rintro _ ⟨c,rfl,h⟩
   simp only [↓A0,A0]
   unfold Xk
   rw [sel_pos (Yn _)]
   generalize es.countP (Zk n i)=q at h ⊢
   by_cases h0:q=0
   ·rw [sel_pos (by simp [h0]),if_pos h0]
   by_cases h1:1<q
   ·rw [sel_neg (by simp;omega),sel_pos (by simp;omega),if_neg h0,if_pos h1]
   ·rw [sel_neg (by simp;omega),sel_neg (by simp;omega),if_neg h0,if_neg h1,h (by omega)]
 ·cases h
theorem w28:Walked Tryz.prog G 28 1 sp28:=by
 refine ⟨Tryz.f28,Tryz.func28,by decide +kernel,rfl,fun xs bl r h=> ?_⟩
 unfold sp28 at h
 split at h
 ·rename_i r t
  cases h
  refine Eq.trans (b:=(some (Wq [Zv [(107:UInt8),(114:UInt8),(98:UInt8),(116:UInt8),(103:UInt8),(116:UInt8)],Zv t,Zv r],[]):Option (AV×Blocks))) (by kernel_rfl) ?_
  rfl
 ·cases h
theorem w39:Walked Tryz.prog G 39 1 sp39:=by
 refine ⟨Tryz.f39,Tryz.func39,by decide +kernel,rfl,fun xs bl r h=> ?_⟩
 unfold sp39 at h
 split at h
 ·rename_i n l pos
  obtain ⟨hpre,h2⟩:=chk_inv h;cases h2
  show runFnH (G.env 39 1) G.rts (G.own 39) Tryz.f39 _ _ [0]=_
  refine Eq.trans (b:=(sel (decide (pos≥(↑(Zx l):Int))) (some (Zz .i64 0,[[Yd l,Zz .i64 pos]])) (sel (decide (n≤0)) (some (Zz .i64 0,[[Yd l,Zz .i64 pos]])) (chk (decide (0≤pos)&&decide (pos<(↑(Zx l):Int))) (chk (!n==0) (some (Zz .i64 (Yu (Zy .i64 (↑(Xj (Zb l (Zq pos) (0:UInt8))):Int)) n),[[Yd l,Zz .i64 (Zy .i64 (pos+1))]]))))):Option (AV×Blocks))) (by kernel_rfl) ?_
  simp only [Zf,decide_eq_true_eq] at hpre
  unfold Wm Wf
  by_cases h1:(l.length:Int)≤pos
  ·simp [sel,h1]
   omega
  by_cases h2:n≤0
  ·simp [sel,h1,h2]
   omega
  have h3:¬ n=0:=by omega
  have hb:=(l.getD pos.toNat 0).toNat_lt
  rw [sel_neg (by simp;omega),sel_neg (by simp;omega),chk_of (by simp;omega),chk_of (by simpa using h3),if_neg (by omega),if_neg (by omega),wrap_i64 (by omega) (by omega),wrap_i64 (by omega) (by omega),Xw (by omega),Int.toNat_of_nonneg (by omega)]
 ·cases h
theorem w40:Walked Tryz.prog G 40 1 sp40:=by
 refine ⟨Tryz.f40,Tryz.func40,by decide +kernel,rfl,fun xs bl r h=> ?_⟩
 unfold sp40 at h
 split at h
 ·cases h
  refine Eq.trans (b:=(some (Zd 1 [Zv [(65:UInt8),(84:UInt8),(72:UInt8)],Zv [(66:UInt8),(79:UInt8),(83:UInt8)],Zv [(67:UInt8),(65:UInt8),(77:UInt8)]],[]):Option (AV×Blocks))) (by kernel_rfl) ?_
  rfl
 ·cases h
theorem w42:Walked Tryz.prog G 42 1 sp42:=by
 refine ⟨Tryz.f42,Tryz.func42,by decide +kernel,rfl,fun xs bl r h=> ?_⟩
 unfold sp42 at h
 split at h
 ·rename_i c n
  cases h
  refine Eq.trans (b:=(sel (!c==1) (sel (!c==2) (some (Zz .u64 0,[])) (sel (decide (n<1)) (some (Zz .u64 0,[])) (sel (decide (n>4294967295)) (some (Zz .u64 0,[])) (some (Zz .u64 (Zy .u64 (↑(BitVec.toNat (BitVec.ofInt (Zp .u64) (Zy .u64 (Zy .u64 c*2 ^ min (Zq 56) (Zp .u64))) ||| BitVec.ofInt (Zp .u64) (Zy .u64 n))):Int)),[]))))) (sel (decide (n<1)) (some (Zz .u64 0,[])) (sel (decide (n>4294967295)) (some (Zz .u64 0,[])) (some (Zz .u64 (Zy .u64 (↑(BitVec.toNat (BitVec.ofInt (Zp .u64) (Zy .u64 (Zy .u64 c*2 ^ min (Zq 56) (Zp .u64))) ||| BitVec.ofInt (Zp .u64) (Zy .u64 n))):Int)),[])))):Option (AV×Blocks))) (by kernel_rfl) ?_
  unfold Vv Vz
  by_cases hc:c=1∨c=2
  case neg =>
   have q1:(c==(1:Int))=false:=by simp;omega
   have q2:(c==(2:Int))=false:=by simp;omega
   rw [q1,q2]
   rfl
  by_cases hn:1≤n∧n≤4294967295
  case neg =>
   have q:(decide (1≤n)&&decide (n≤4294967295))=false:=by
    rw [Bool.eq_false_iff]
    simp
    omega
   rw [q,Bool.and_false]
   have key:(sel (decide (n<(1:Int))) (some (Zz .u64 (0:Int),([]:Blocks))) (sel (decide (n>(4294967295:Int))) (some (Zz .u64 (0:Int),[])) (some (Zz Xx (Zy Xx ((BitVec.toNat (BitVec.ofInt (Zp Xx) (Zy Xx (Zy Xx c*(2:Int) ^ min (Zq (56:Int)) (Zp Xx))) ||| BitVec.ofInt (Zp Xx) (Zy Xx n)):Nat):Int)),[]))))=some (Zz .u64 0,[]):=by
    by_cases hl:n<1
    ·rw [sel_pos (by simpa using hl)]
    ·rw [sel_neg (by simpa using hl),sel_pos (by simp;omega)]
   rcases hc with rfl | rfl
   ·rw [sel_neg (by decide)];exact key
   ·rw [sel_pos (by decide),sel_neg (by decide)];exact key
  have q:(decide (1≤n)&&decide (n≤4294967295))=true:=by simp;omega
  have q2:(c==(1:Int)||c==(2:Int))=true:=by simpa using hc
  rw [q,q2,Kerb.key_make hc hn.1 hn.2]
  rcases hc with rfl | rfl
  ·rw [sel_neg (by decide),sel_neg (by simp;omega),sel_neg (by simp;omega)]
   rfl
  ·rw [sel_pos (by decide),sel_neg (by decide),sel_neg (by simp;omega),sel_neg (by simp;omega)]
   rfl
 ·cases h
theorem w45:Walked Tryz.prog G 45 1 sp45:=by
 refine ⟨Tryz.f45,Tryz.func45,by decide +kernel,rfl,fun xs bl r h=> ?_⟩
 unfold sp45 at h
 split at h
 ·rename_i b how
  obtain ⟨hpre,h2⟩:=chk_inv h;cases h2
  refine Eq.trans (b:=(let t0:Int:=Yu (Zy .i64 (Zy .u16 (Xm how 8))) (↑(Zx b):Int);chk (room (Zx b) 1) (sel ((↑(Zx b):Int)==0) (some (Yd b,[])) (chk (!(↑(Zx b):Int)==0) (sel (Yu how 4==0) (chk (decide (0≤t0)&&decide (t0<(↑(Zx b):Int))) (chk (Nat.blt (Zq t0) (Zx b)&&true&&true&&true) (chk (decide (0≤Zy .u64 (Yu how 7))) (chk (decide (0≤t0)&&decide (t0<(↑(Zx b):Int))) (chk (Nat.blt (Zq t0) (Zx b)&&true&&true&&true&&true) (some (Yd (List.set b (Zq t0) (Xv (Zq (Zy .u8 (↑(BitVec.toNat (BitVec.ofInt (Zp .u8) (↑(Xj (Zb b (Zq t0) (0:UInt8))):Int) ^^^ BitVec.ofInt (Zp .u8) (↑(Xj (Xv (Zq (Zy .u8 ((↑(Xj (1:UInt8)):Int)*2 ^ min (Zq (Zy .u64 (Yu how 7))) 8))))):Int))):Int))))),[]))))))) (sel (Yu how 4==1) (chk (decide (0≤t0)&&decide (t0≤(↑(Zx b):Int))&&Nat.blt 0 (Zx b)&&true) (chk (decide (0≤Zy .i64 (t0+1))&&decide (Zy .i64 (t0+1)≤(↑(Zx b):Int))&&Nat.blt 0 (Zx b)&&true) (chk (Nat.blt 0 (Zx b)&&true&&true&&true&&room (Zq t0+(Zx b-Zq (Zy .i64 (t0+1)))) 1) (some (Yd (List.take (Zq t0) b++List.drop (Zq (Zy .i64 (t0+1))) b),[]))))) (sel (Yu how 4==2) (chk (room (Zx b+Zx [Xv (Zq (Zy .u8 how))]) 1) (some (Yd (b++[Xv (Zq (Zy .u8 how))]),[]))) (some (Yd b,[]))))))):Option (AV×Blocks))) (by kernel_rfl) ?_
  try dsimp only [cStr,cBs,cBool,cU8,cInt,cSl,l63]
  simp only [Zf,decide_eq_true_eq] at hpre
  obtain ⟨⟨hb,h0⟩,h1⟩:=hpre
  rw [chk_of (Yk (by omega))]
  unfold Kerb.spoil
  by_cases hn:b=[]
  ·subst hn;rfl
  have hpos:0<b.length:=List.length_pos_iff.2 hn
  rw [if_neg hn,sel_neg (by simp;omega),chk_of (by simp;omega)]
  have e:Yu (Zy Zw (Zy IntKind.u16 (Xm how (8:Int)))) (b.length:Int)=Kerb.spoilAt b how:=rfl
  rw [e]
  obtain ⟨ha,hc⟩:=Kerb.spoilAt_bd h0 h1 hpos
  generalize Kerb.spoilAt b how=a at ha hc ⊢
  have hd:(decide ((0:Int)≤a)&&decide (a<(b.length:Int)))=true:=by simp;omega
  have hbl:Nat.blt a.toNat b.length=true:=Nat.ble_eq_true_of_le (by omega)
  have hbl0:Nat.blt 0 b.length=true:=Nat.ble_eq_true_of_le (by omega)
  have h7:decide ((0:Int)≤Zy Xx (Yu how (7:Int)))=true:=by rw [Kerb.wrap_u64];simp;omega
  by_cases c0:Yu how 4=0
  ·rw [if_pos c0,sel_pos (by simpa using c0),chk_of hd,chk_of (by rw [hbl];rfl),chk_of h7,chk_of hd,chk_of (by rw [hbl];rfl)]
  rw [if_neg c0,sel_neg (by simpa using c0)]
  by_cases c1:Yu how 4=1
  ·rw [if_pos c1,sel_pos (by simpa using c1),wrap_i64 (n:=a+1) (by omega) (by omega),chk_of (by rw [hbl0];simp;omega),chk_of (by rw [hbl0];simp;omega),chk_of (by rw [hbl0,Yk (by omega)];rfl)]
  rw [if_neg c1,sel_neg (by simpa using c1)]
  by_cases c2:Yu how 4=2
  ·rw [if_pos c2,sel_pos (by simpa using c2),chk_of (Yk (by simp;omega))]
  ·rw [if_neg c2,sel_neg (by simpa using c2)]
 ·cases h
theorem w49:Walked Tryz.prog G 49 1 sp49:=by
 refine ⟨Tryz.f49,Tryz.func49,by decide +kernel,rfl,fun xs bl r h=> ?_⟩
 unfold sp49 at h
 split at h
 ·rename_i n m
  cases h
  refine Eq.trans (b:=(sel (decide (n≥0)) (some (Zu (decide (n≤m)),[])) (some (Zu false,[])):Option (AV×Blocks))) (by kernel_rfl) ?_
  by_cases h:0≤n<;>simp [sel,Yx,h]
 ·cases h
theorem w52:Walked Tryz.prog G 52 1 sp52:=by
 refine ⟨Tryz.f52,Tryz.func52,by decide +kernel,rfl,fun xs bl r h=> ?_⟩
 unfold sp52 at h
 split at h
 ·rename_i b s
  obtain ⟨hpre,h2⟩:=chk_inv h;cases h2
  refine Eq.trans (b:=(chk (room (Zx b) 1) (chk (room (Zx b+Zx s) 1) (chk (room (Zx (b++s)+Zx [(0:UInt8)]) 1) (some (Yd (b++s++[(0:UInt8)]),[])))):Option (AV×Blocks))) (by kernel_rfl) ?_
  simp only [decide_eq_true_eq] at hpre
  rw [chk_of (Yk (by omega)),chk_of (Yk (by omega)),chk_of (Yk (by simp;omega))]
  simp [Wv]
 ·cases h
theorem w59:Walked Tryz.prog G 59 1 sp59:=by
 refine ⟨Tryz.f59,Tryz.func59,by decide +kernel,rfl,fun xs bl r h=> ?_⟩
 unfold sp59 at h
 split at h
 ·rename_i a b
  cases h
  refine Eq.trans (b:=(some (Zu (a==b),[]):Option (AV×Blocks))) (by kernel_rfl) ?_
  rfl
 ·cases h
theorem w68:Walked Tryz.prog G 68 1 sp68:=by
 refine ⟨Tryz.f68,Tryz.func68,by decide +kernel,rfl,fun xs bl r h=> ?_⟩
 unfold sp68 at h
 split at h
 ·rename_i x y z
  cases h
  refine Eq.trans (b:=(some (Zu (x==[(107:UInt8),(114:UInt8),(98:UInt8),(116:UInt8),(103:UInt8),(116:UInt8)]),[]):Option (AV×Blocks))) (by kernel_rfl) ?_
  rfl
 ·cases h
theorem w74:Walked Tryz.prog G 74 1 sp74:=by
 refine ⟨Tryz.f74,Tryz.func74,by decide +kernel,rfl,fun xs bl r h=> ?_⟩
 unfold sp74 at h
 split at h
 ·rename_i k
  cases h
  refine Eq.trans (b:=(sel (k==1) (some (Zu true,[])) (some (Zu (k==2),[])):Option (AV×Blocks))) (by kernel_rfl) ?_
  unfold Vv
  cases (k==(1:Int))<;>rfl
 ·cases h
theorem w75:Walked Tryz.prog G 75 1 sp75:=by
 refine ⟨Tryz.f75,Tryz.func75,by decide +kernel,rfl,fun xs bl r h=> ?_⟩
 unfold sp75 at h
 split at h
 ·rename_i k
  cases h
  refine Eq.trans (b:=(sel (decide (k≥1)) (some (Zu (decide (k≤4294967295)),[])) (some (Zu false,[])):Option (AV×Blocks))) (by kernel_rfl) ?_
  by_cases h:1≤k<;>simp [sel,Vz,h]
 ·cases h
theorem w80:Walked Tryz.prog G 80 1 sp80:=by
 refine ⟨Tryz.f80,Tryz.func80,by decide +kernel,rfl,fun xs bl r h=> ?_⟩
 unfold sp80 at h
 split at h
 ·rename_i k little
  cases h
  refine Eq.trans (b:=(sel (decide (k<1)) (some (Yd [],[])) (sel (decide (k>10)) (some (Yd [],[])) (sel little (some (Yd [(4:UInt8),Xv (Zq (Zy .u8 (Zy .i64 (Zy .i64 (2*k)+1))))],[])) (some (Yd [(4:UInt8),Xv (Zq (Zy .u8 (Zy .i64 (2*k))))],[])))):Option (AV×Blocks))) (by kernel_rfl) ?_
  by_cases h:1≤k∧k≤10
  ·have hk:k=1∨k=2∨k=3∨k=4∨k=5∨k=6∨k=7∨k=8∨k=9∨k=10:=by omega
   rcases hk with rfl | rfl | rfl | rfl | rfl | rfl | rfl | rfl | rfl | rfl<;>cases little<;>rfl
  ·have hk:Wx k=false:=by simp [Wx];omega
   by_cases h1:k<1
   ·simp [sel,Wd,hk,h1]
   ·have h2:10<k:=by omega
    simp [sel,Wd,hk,h1,h2]
 ·cases h
theorem w81:Walked Tryz.prog G 81 1 sp81:=by
 refine ⟨Tryz.f81,Tryz.func81,by decide +kernel,rfl,fun xs bl r h=> ?_⟩
 unfold sp81 at h
 split at h
 ·rename_i s bad
  obtain ⟨hpre,h2⟩:=chk_inv h;cases h2
  refine Eq.trans (b:=(Zj (loopM (fun (st:List AV)=>cStr st fun b r=>cStr r fun b_1 r=>cBool r fun b_2 r=>cInt .i64 r fun n r=>let t0:Int:=(↑(Xj (Zb b (Zq n) (0:UInt8))):Int);let t1:Option (List AV ⊕ Ex×List AV):=some (Yg (Ex.ret,[Zv b,Zv b_1,Zu false,Zz .i64 n]));onNil r (sel (decide (n<(↑(Zx b):Int))) (chk (decide (0≤n)&&decide (n<(↑(Zx b):Int))) (sel (decide (t0<(↑(Xj (33:UInt8)):Int))) t1 (chk (decide (0≤n)&&decide (n<(↑(Zx b):Int))) (sel (decide (t0>(↑(Xj (126:UInt8)):Int))) t1 (Zj (loopM (fun (st:List AV)=>cStr st fun b r=>cStr r fun b_3 r=>cBool r fun b_4 r=>cInt .i64 r fun n r=>cInt .i64 r fun n_1 r=>onNil r (sel (decide (n_1<(↑(Zx b_3):Int))) (chk (decide (0≤n)&&decide (n<(↑(Zx b):Int))) (chk (decide (0≤n_1)&&decide (n_1<(↑(Zx b_3):Int))) (sel (Zb b (Zq n) (0:UInt8)==Zb b_3 (Zq n_1) (0:UInt8)) (some (Yg (Ex.ret,[Zv b,Zv b_3,Zu false,Zz .i64 n,Zz .i64 n_1]))) (some (Yf [Zv b,Zv b_3,Zu b_4,Zz .i64 n,Zz .i64 (Zy .i64 (n_1+1))]))))) (some (Yg (Yj 2,[Zv b,Zv b_3,Zu b_4,Zz .i64 n,Zz .i64 n_1]))))) [Zv b,Zv b_1,Zu b_2,Zz .i64 n,Zz .i64 0]) fun (r:Ex×List AV)=>cStr (Zn r) fun b r_1=>cStr r_1 fun b_3 r_2=>cBool r_2 fun b_4 r_3=>cInt .i64 r_3 fun n r_4=>cInt .i64 r_4 fun n_1 r_5=>onNil r_5 (exK r.1 (some (Yg (Ex.ret,[Zv b,Zv b_3,Zu b_4,Zz .i64 n]))) fun (j:Nat)=>sel (Xb j 2) (some (Yf [Zv b,Zv b_3,Zu b_4,Zz .i64 (Zy .i64 (n+1))])) none)))))) (some (Yg (Yj 0,[Zv b,Zv b_1,Zu b_2,Zz .i64 n]))))) [Zv s,Zv bad,Zu false,Zz .i64 0]) fun (r:Ex×List AV)=>cStr (Zn r) fun b r_1=>cStr r_1 fun b_1 r_2=>cBool r_2 fun b_2 r_3=>cInt .i64 r_3 fun n r_4=>onNil r_4 (exK r.1 (some (Zu b_2,[])) fun (j:Nat)=>sel (Xb j 0) (some (Zu (decide ((↑(Zx b):Int)≤39)),[])) none):Option (AV×Blocks))) (by kernel_rfl) ?_
  try dsimp only [cStr,cBs,cBool,cU8,cInt,cSl,l63]
  simp only [Zf,decide_eq_true_eq] at hpre
  refine loop_rounds (fun i:Nat=>[Zv s,Zv bad,Zu false,Zz Zw (i:Int)]) (fun i=>i≤s.length∧Xf s bad=Xf (s.drop i) bad) (fun i=>s.length-i)
   (fun r=>∃ i:Nat,r.2=[Zv s,Zv bad,Zu false,Zz Zw (i:Int)]∧((r.1 = .ret∧Xf s bad=false)∨(r.1 = .exit 0∧Xf s bad=true))) 0 ⟨Yv _,rfl⟩ rfl ?_ ?_
  ·rintro i ⟨hi,hp⟩
   simp only [A0]
   by_cases hlt:i<s.length
   ·have hc:(decide ((0:Int)≤(i:Int))&&decide ((i:Int)<(s.length:Int)))=true:=by simp;omega
    have hd:=Kerb.drop_all_cons hlt
    rw [sel_pos (by simp;omega),chk_of hc,Zm]
    have hpr:Xf (s.drop i) bad=(Kerb.okB bad (s.getD i 0)&&Xf (s.drop (i+1)) bad):=by rw [hd];rfl
    generalize hcc:s.getD i 0=c at *
    by_cases h1:c.toNat<33
    ·rw [sel_pos (by simp;omega)]
     exact ⟨_,rfl,i,rfl,.inl ⟨rfl,by rw [hp,hpr];simp [Kerb.okB,h1]⟩⟩
    rw [sel_neg (by simp;omega),chk_of hc]
    by_cases h2:126<c.toNat
    ·rw [sel_pos (by simp;omega)]
     exact ⟨_,rfl,i,rfl,.inl ⟨rfl,by rw [hp,hpr];simp [Kerb.okB,h2]⟩⟩
    rw [sel_neg (by simp;omega)]
    refine loop_ex (fun j:Nat=>[Zv s,Zv bad,Zu false,Zz Zw (i:Int),Zz Zw (j:Int)]) (fun j=>j≤bad.length∧(c∈bad↔c∈bad.drop j)) (fun j=>bad.length-j)
     (fun r=>∃ j:Nat,r.2=[Zv s,Zv bad,Zu false,Zz Zw (i:Int),Zz Zw (j:Int)]∧((r.1 = .ret∧c∈bad)∨(r.1 = .exit 2∧c ∉ bad))) 0 ⟨Yv _,by simp⟩ rfl ?_ ?_
    ·rintro j ⟨hj,hm⟩
     simp only [A0]
     by_cases hjl:j<bad.length
     ·have hdj:=Kerb.drop_all_cons hjl
      rw [sel_pos (by simp;omega),chk_of hc,chk_of (by simp;omega),Zm,Zm,hcc]
      rw [hdj,List.mem_cons] at hm
      by_cases h3:c=bad.getD j 0
      ·rw [sel_pos (by simpa using h3)]
       exact ⟨_,rfl,j,rfl,.inl ⟨rfl,hm.2 (.inl h3)⟩⟩
      ·rw [sel_neg (by simpa using h3),wrap_i64 (by omega) (by omega)]
       exact ⟨_,rfl,j+1,rfl,⟨by omega,hm.trans ⟨fun h=>h.resolve_left h3,.inr⟩⟩,by dsimp only;omega⟩
     ·rw [sel_neg (by simp;omega)]
      refine ⟨_,rfl,j,rfl,.inr ⟨rfl,?_⟩⟩
      rw [hm,Xy (by omega)];simp
    ·rintro ⟨e,l⟩ ⟨j,rfl,⟨rfl,h3⟩ | ⟨rfl,h3⟩⟩
     ·simp only [A0]
      exact ⟨_,rfl,i,rfl,.inl ⟨rfl,by rw [hp,hpr];simp [Kerb.okB,h3]⟩⟩
     ·simp only [A0]
      rw [sel_pos (Yn _),wrap_i64 (by omega) (by omega)]
      exact ⟨_,rfl,i+1,rfl,⟨by omega,by rw [hp,hpr];simp [Kerb.okB,h1,h2,h3]⟩,by dsimp only;omega⟩
   ·rw [sel_neg (by simp;omega)]
    exact ⟨_,rfl,i,rfl,.inr ⟨rfl,by rw [hp,Xy (by omega)];rfl⟩⟩
  ·rintro ⟨e,l⟩ ⟨i,rfl,⟨rfl,hp⟩ | ⟨rfl,hp⟩⟩
   ·simp only [A0,hp]
    rfl
   ·simp only [A0,hp]
    rw [sel_pos (Yn _),decide_eq_decide.2 (show ((s.length:Int)≤39)↔s.length≤39 from by omega)]
    rfl
 ·cases h
theorem w82:Walked Tryz.prog G 82 1 sp82:=by
 refine ⟨Tryz.f82,Tryz.func82,by decide +kernel,rfl,fun xs bl r h=> ?_⟩
 unfold sp82 at h
 split at h
 ·rename_i b n k little
  obtain ⟨hpre,h2⟩:=chk_inv h;cases h2
  refine Eq.trans (b:=(chk (room (Zx b) 1) (Zj (loopM (fun (st:List AV)=>cInt .i64 st fun n r=>cInt .i64 r fun n_1 r=>cBool r fun b r=>onCons r fun x r=>Wy x fun b_1=>cInt .i64 r fun n_2 r=>let t1:Int:=Zy .u64 (Zy .i64 (8*Zy .i64 (Zy .i64 (n_1-1)-n_2)));let t2:List UInt8:=[Xv (Zq (Zy .u8 (Int.fdiv (Zy .u64 n) (2 ^ min (Zq (Zy .u64 (Zy .i64 (8*n_2)))) (Zp .u64)))))];let t0:List UInt8:=[Xv (Zq (Zy .u8 (Int.fdiv (Zy .u64 n) (2 ^ min (Zq t1) (Zp .u64)))))];onNil r (sel (decide (n_2<n_1)) (sel b (chk (decide (0≤Zy .u64 (Zy .i64 (8*n_2)))) (chk (room (Zx b_1+Zx t2) 1) (some (Yf [Zz .i64 n,Zz .i64 n_1,Zu b,Yw (b_1++t2),Zz .i64 (Zy .i64 (n_2+1))])))) (chk (decide (0≤t1)) (chk (room (Zx b_1+Zx t0) 1) (some (Yf [Zz .i64 n,Zz .i64 n_1,Zu b,Yw (b_1++t0),Zz .i64 (Zy .i64 (n_2+1))]))))) (some (Yg (Yj 0,[Zz .i64 n,Zz .i64 n_1,Zu b,Yw b_1,Zz .i64 n_2]))))) [Zz .i64 n,Zz .i64 k,Zu little,Yw b,Zz .i64 0]) fun (r:Ex×List AV)=>cInt .i64 (Zn r) fun n r_1=>cInt .i64 r_1 fun n r_2=>cBool r_2 fun b r_3=>onCons r_3 fun x r_4=>Wy x fun b=>cInt .i64 r_4 fun n r_5=>onNil r_5 (exK r.1 none fun (j:Nat)=>sel (Xb j 0) (some (Yw b,[])) none)):Option (AV×Blocks))) (by kernel_rfl) ?_
  try dsimp only [cStr,cBs,cBool,cU8,cInt,cSl,l63]
  simp only [Zf,decide_eq_true_eq] at hpre
  obtain ⟨hk,hb⟩:=hpre
  have hk4:k.toNat≤4∧0≤k:=by omega
  rw [chk_of (Yk (by omega))]
  refine loop_rounds (fun i:Nat=>[Zz Zw n,Zz Zw k,Zu little,Yw (b++(Xh n k.toNat little).take i),Zz Zw (i:Int)]) (fun i=>i≤k.toNat) (fun i=>k.toNat-i)
   (fun r=>r=(Yj 0,[Zz Zw n,Zz Zw k,Zu little,Yw (b++Xh n k.toNat little),Zz Zw k])) 0 (Yv _) (by simp) ?_ ?_
  ·intro i hi
   simp only [A0]
   by_cases hlt:i<k.toNat
   ·have hs:=Kerb.take_succ_getD (l:=Xh n k.toNat little) (i:=i) (by rw [Yb];omega)
    have hg:=Kerb.putN_getD n k.toNat little hlt
    have hl:((Xh n k.toNat little).take i).length=i:=by simp [Yb];omega
    rw [sel_pos (by simp;omega)]
    have hw:∀ j:Nat,j<4→Zy Xx (Zy Zw (8*(j:Int)))=((8*j:Nat):Int):=fun j hj=>by
     rw [wrap_i64 (by omega) (by omega),Kerb.wrap_u64];omega
    have hm:∀ j:Nat,j<4→min (Zq ((8*j:Nat):Int)) (Zp Xx)=8*j:=fun j hj=>by
     have:Zp Xx=64:=rfl
     rw [this];omega
    cases little
    ·have e:Zy Zw (Zy Zw (k-1)-(i:Int))=((k.toNat-1-i:Nat):Int):=by
      rw [wrap_i64 (n:=k-1) (by omega) (by omega),wrap_i64 (by omega) (by omega)];omega
     rw [sel_neg rfl,e,hw _ (by omega),hm _ (by omega),Kerb.ubyte n (by omega),chk_of (by simp;omega),chk_of (Yk (by simp [hl];omega)),wrap_i64 (by omega) (by omega)]
     refine ⟨_,rfl,i+1,?_,by omega,by dsimp only;omega⟩
     dsimp only
     rw [hs,hg,← Wz]
     rfl
    ·rw [sel_pos rfl,hw _ (by omega),hm _ (by omega),Kerb.ubyte n (by omega),chk_of (by simp;omega),chk_of (Yk (by simp [hl];omega)),wrap_i64 (by omega) (by omega)]
     refine ⟨_,rfl,i+1,?_,by omega,by dsimp only;omega⟩
     dsimp only
     rw [hs,hg,← Wz]
     rfl
   ·rw [sel_neg (by simp;omega)]
    refine ⟨_,rfl,?_⟩
    show _=_
    rw [Xz (by rw [Yb];omega),show (i:Int)=k from by omega]
  ·rintro r rfl
   simp only [A0]
   rw [sel_pos (Yn _)]
 ·cases h
theorem w84:Walked Tryz.prog G 84 1 sp84:=by
 refine ⟨Tryz.f84,Tryz.func84,by decide +kernel,rfl,fun xs bl r h=> ?_⟩
 unfold sp84 at h
 split at h
 ·rename_i k els
  obtain ⟨hpre,h2⟩:=chk_inv h;cases h2
  refine Eq.trans (b:=(Zj (loopM (fun (st:List AV)=>cInt .i64 st fun n r=>cBool r fun b r=>cSl 1 r fun b_1 r=>cInt .i64 r fun n_1 r=>cInt .i64 r fun n_2 r=>onNil r (sel (decide (n_2<n_1)) (chk (decide (0≤n_2)&&decide (n_2<(↑(Zx b_1):Int))&&true) (Xu .i64 (Zb b_1 (Zq n_2) Yy) fun n_3=>sel (n_3==n) (some (Yg (Ex.ret,[Zz .i64 n,Zu true,Zd 1 b_1,Zz .i64 n_1,Zz .i64 n_2]))) (some (Yf [Zz .i64 n,Zu b,Zd 1 b_1,Zz .i64 n_1,Zz .i64 (Zy .i64 (n_2+1))])))) (some (Yg (Yj 0,[Zz .i64 n,Zu b,Zd 1 b_1,Zz .i64 n_1,Zz .i64 n_2]))))) [Zz .i64 k,Zu false,Zd 1 els,Zz .i64 (↑(Zx els):Int),Zz .i64 0]) fun (r:Ex×List AV)=>cInt .i64 (Zn r) fun n r_1=>cBool r_1 fun b r_2=>cSl 1 r_2 fun b_1 r_3=>cInt .i64 r_3 fun n r_4=>cInt .i64 r_4 fun n r_5=>onNil r_5 (exK r.1 (some (Zu b,[])) fun (j:Nat)=>sel (Xb j 0) (some (Zu false,[])) none):Option (AV×Blocks))) (by kernel_rfl) ?_
  try dsimp only [cStr,cBs,cBool,cU8,cInt,cSl,l63]
  simp only [Zf,decide_eq_true_eq] at hpre
  obtain ⟨ha,hl⟩:=hpre
  have hil:=Kerb.ints_len ha
  refine loop_rounds (fun i:Nat=>[Zz Zw k,Zu false,Zd 1 els,Zz Zw (els.length:Int),Zz Zw (i:Int)]) (fun i=>i≤els.length∧(k∈intsIn els↔k∈(intsIn els).drop i)) (fun i=>els.length-i)
   (fun r=>∃ (i:Nat) (x:Bool),r.2=[Zz Zw k,Zu x,Zd 1 els,Zz Zw (els.length:Int),Zz Zw (i:Int)]∧((r.1 = .ret∧x=true∧k∈intsIn els)∨(r.1 = .exit 0∧k ∉ intsIn els))) 0 ⟨Yv _,by simp⟩ rfl ?_ ?_
  ·rintro i ⟨hi,hm⟩
   simp only [A0]
   by_cases hlt:i<els.length
   ·obtain ⟨n,h1,h2⟩:=Kerb.ints_get ha hlt
    rw [sel_pos (by simp;omega),chk_of (by simp;omega),Zm,h1,onInt_int]
    rw [h2,List.mem_cons] at hm
    by_cases h3:n=k
    ·rw [sel_pos (by simpa using h3)]
     exact ⟨_,rfl,i,true,rfl,.inl ⟨rfl,rfl,hm.2 (.inl h3.symm)⟩⟩
    ·rw [sel_neg (by simpa using h3),wrap_i64 (by omega) (by omega)]
     exact ⟨_,rfl,i+1,rfl,⟨by omega,hm.trans ⟨fun h=>h.resolve_left fun e=>h3 e.symm,.inr⟩⟩,by dsimp only;omega⟩
   ·rw [sel_neg (by simp;omega)]
    refine ⟨_,rfl,i,false,rfl,.inr ⟨rfl,?_⟩⟩
    rw [hm,Xy (by omega)];simp
  ·rintro ⟨e,l⟩ ⟨i,x,rfl,⟨rfl,rfl,h⟩ | ⟨rfl,h⟩⟩
   ·simp [onCons,Xu,Vk,AV.onSl,onNil,exK,h]
   ·simp [onCons,Xu,Vk,AV.onSl,onNil,exK,h,sel]
 ·cases h
theorem w87:Walked Tryz.prog G 87 1 sp87:=by
 refine ⟨Tryz.f87,Tryz.func87,by decide +kernel,rfl,fun xs bl r h=> ?_⟩
 unfold sp87 at h
 split at h
 ·rename_i b pos n
  obtain ⟨hpre,h2⟩:=chk_inv h;cases h2
  refine Eq.trans (b:=(sel (decide (pos<0)) (some (Zz .i64 104,[])) (sel (decide (pos>(↑(Zx b):Int))) (some (Zz .i64 104,[])) (sel (decide (n<0)) (some (Zz .i64 104,[])) (sel (decide (n>Zy .i64 ((↑(Zx b):Int)-pos))) (some (Zz .i64 101,[])) (some (Zz .i64 0,[]))))):Option (AV×Blocks))) (by kernel_rfl) ?_
  simp only [decide_eq_true_eq] at hpre
  unfold Kerb.room
  by_cases h1:pos<0
  ·simp [sel,h1]
  by_cases h2:(b.length:Int)<pos
  ·simp [sel,h1,h2]
  by_cases h3:n<0
  ·simp [sel,h1,h2,h3]
  rw [sel_neg (by simp;omega),sel_neg (by simp;omega),sel_neg (by simp;omega),wrap_i64 (by omega) (by omega),if_neg (by omega)]
  by_cases h4:(b.length:Int)-pos<n
  ·rw [sel_pos (by simp;omega),if_pos h4]
  ·rw [sel_neg (by simp;omega),if_neg h4]
 ·cases h
theorem w92:Walked Tryz.prog G 92 1 sp92:=by
 refine ⟨Tryz.f92,Tryz.func92,by decide +kernel,rfl,fun xs bl r h=> ?_⟩
 unfold sp92 at h
 split at h
 ·rename_i n m
  cases h
  refine Eq.trans (b:=(sel (decide (n≥0)) (some (Zu (decide (n≤m)),[])) (some (Zu false,[])):Option (AV×Blocks))) (by kernel_rfl) ?_
  by_cases h:0≤n<;>simp [sel,Yx,h]
 ·cases h
theorem w99:Walked Tryz.prog G 99 1 sp99:=by
 refine ⟨Tryz.f99,Tryz.func99,by decide +kernel,rfl,fun xs bl r h=> ?_⟩
 unfold sp99 at h
 split at h
 ·rename_i n
  cases h
  refine Eq.trans (b:=(sel (decide (n≥0)) (some (Zu (decide (n≤4294967295)),[])) (some (Zu false,[])):Option (AV×Blocks))) (by kernel_rfl) ?_
  by_cases h:0≤n<;>simp [sel,Yx,h]
 ·cases h
theorem w101:Walked Tryz.prog G 101 1 sp101:=by
 refine ⟨Tryz.f101,Tryz.func101,by decide +kernel,rfl,fun xs bl r h=> ?_⟩
 unfold sp101 at h
 split at h
 ·rename_i ali b1 b2 b3 aad ak alf ais asv ain rl
  cases h
  refine Eq.trans (b:=(some (Wq [Zv asv,Zv ain,Zv rl],[]):Option (AV×Blocks))) (by kernel_rfl) ?_
  rfl
 ·cases h
theorem w105:Walked Tryz.prog G 105 1 sp105:=by
 refine ⟨Tryz.f105,Tryz.func105,by decide +kernel,rfl,fun xs bl r h=> ?_⟩
 unfold sp105 at h
 split at h
 ·rename_i n l m
  cases h
  refine Eq.trans (b:=(sel (decide (n≥l)) (some (Zu (decide (n≤m)),[])) (some (Zu false,[])):Option (AV×Blocks))) (by kernel_rfl) ?_
  by_cases h:l≤n
  ·rw [sel_pos (by simpa using h)];simp [h]
  ·rw [sel_neg (by simpa using h)];simp [h]
 ·cases h
theorem w107:Walked Tryz.prog G 107 1 sp107:=by
 refine ⟨Tryz.f107,Tryz.func107,by decide +kernel,rfl,fun xs bl r h=> ?_⟩
 unfold sp107 at h
 split at h
 ·rename_i code
  cases h
  refine Eq.trans (b:=(sel (decide (code<1)) (some (Zv [(114:UInt8),(101:UInt8),(113:UInt8),(117:UInt8),(101:UInt8),(115:UInt8),(116:UInt8),(32:UInt8),(114:UInt8),(101:UInt8),(102:UInt8),(117:UInt8),(115:UInt8),(101:UInt8),(100:UInt8)],[])) (sel (decide (code>10)) (some (Zv [(114:UInt8),(101:UInt8),(113:UInt8),(117:UInt8),(101:UInt8),(115:UInt8),(116:UInt8),(32:UInt8),(114:UInt8),(101:UInt8),(102:UInt8),(117:UInt8),(115:UInt8),(101:UInt8),(100:UInt8)],[])) (chk (decide (0≤Zy .i64 (code-1))&&decide (Zy .i64 (code-1)<(↑(10:Nat):Int))&&true&&true&&true) (Wu (Zb [Zv [(99:UInt8),(108:UInt8),(105:UInt8),(101:UInt8),(110:UInt8),(116:UInt8),(32:UInt8),(101:UInt8),(120:UInt8),(112:UInt8),(105:UInt8),(114:UInt8),(101:UInt8),(100:UInt8)],Zv [(115:UInt8),(101:UInt8),(114:UInt8),(118:UInt8),(105:UInt8),(99:UInt8),(101:UInt8),(32:UInt8),(101:UInt8),(120:UInt8),(112:UInt8),(105:UInt8),(114:UInt8),(101:UInt8),(100:UInt8)],Zv [(110:UInt8),(111:UInt8),(32:UInt8),(108:UInt8),(105:UInt8),(102:UInt8),(101:UInt8),(116:UInt8),(105:UInt8),(109:UInt8),(101:UInt8),(32:UInt8),(108:UInt8),(101:UInt8),(102:UInt8),(116:UInt8)],Zv [(112:UInt8),(114:UInt8),(111:UInt8),(116:UInt8),(111:UInt8),(99:UInt8),(111:UInt8),(108:UInt8),(32:UInt8),(118:UInt8),(101:UInt8),(114:UInt8),(115:UInt8),(105:UInt8),(111:UInt8),(110:UInt8)],Zv [(110:UInt8),(111:UInt8),(116:UInt8),(32:UInt8),(97:UInt8),(32:UInt8),(99:UInt8),(108:UInt8),(105:UInt8),(101:UInt8),(110:UInt8),(116:UInt8)],Zv [(110:UInt8),(111:UInt8),(116:UInt8),(32:UInt8),(97:UInt8),(32:UInt8),(115:UInt8),(101:UInt8),(114:UInt8),(118:UInt8),(105:UInt8),(99:UInt8),(101:UInt8)],Zv [(98:UInt8),(121:UInt8),(116:UInt8),(101:UInt8),(32:UInt8),(111:UInt8),(114:UInt8),(100:UInt8),(101:UInt8),(114:UInt8)],Zv [(112:UInt8),(114:UInt8),(105:UInt8),(110:UInt8),(99:UInt8),(105:UInt8),(112:UInt8),(97:UInt8),(108:UInt8),(32:UInt8),(117:UInt8),(110:UInt8),(107:UInt8),(110:UInt8),(111:UInt8),(119:UInt8),(110:UInt8)],Zv [(112:UInt8),(114:UInt8),(105:UInt8),(110:UInt8),(99:UInt8),(105:UInt8),(112:UInt8),(97:UInt8),(108:UInt8),(32:UInt8),(110:UInt8),(111:UInt8),(116:UInt8),(32:UInt8),(117:UInt8),(110:UInt8),(105:UInt8),(113:UInt8),(117:UInt8),(101:UInt8)],Zv [(110:UInt8),(111:UInt8),(32:UInt8),(107:UInt8),(101:UInt8),(121:UInt8)]] (Zq (Zy .i64 (code-1))) Yy) fun b=>some (Zv b,[])))):Option (AV×Blocks))) (by kernel_rfl) ?_
  unfold Kerb.message
  by_cases h:code<1
  ·rw [sel_pos (by simpa using h),if_pos (.inl h)]
   rfl
  by_cases h2:10<code
  ·rw [sel_neg (by simpa using h),sel_pos (by simp;omega),if_pos (.inr h2)]
   rfl
  have hc:code=1∨code=2∨code=3∨code=4∨code=5∨code=6∨code=7∨code=8∨code=9∨code=10:=by omega
  rcases hc with rfl | rfl | rfl | rfl | rfl | rfl | rfl | rfl | rfl | rfl<;>rfl
 ·cases h
theorem w112:Walked Tryz.prog G 112 1 sp112:=by
 refine ⟨Tryz.f112,Tryz.func112,by decide +kernel,rfl,fun xs bl r h=> ?_⟩
 unfold sp112 at h
 split at h
 ·rename_i xls a b
  obtain ⟨hpre,h2⟩:=chk_inv h;cases h2
  refine Eq.trans (b:=(Zj (loopM (fun (st:List AV)=>cSl 4 st fun b r=>cStr r fun b_1 r=>cStr r fun b_2 r=>cInt .i64 r fun n r=>cBool r fun b_3 r=>cSl 4 r fun b_4 r=>cInt .i64 r fun n_1 r=>cInt .i64 r fun n_2 r=>let t2:List AV:=[Zd 4 b_4,Zz .i64 n_1,Zz .i64 (Zy .i64 (n_2+1))];let t0:Option (List AV ⊕ Ex×List AV):=some (Yf (Zd 4 b::Zv b_1::Zv b_2::Zz .i64 n::Zu b_3::t2));let t1:Option (List AV ⊕ Ex×List AV):=some (Yf (Zd 4 b::Zv b_1::Zv b_2::Zz .i64 n_2::Zu true::t2));onNil r (sel (decide (n_2<n_1)) (chk (decide (0≤n_2)&&decide (n_2<(↑(Zx b_4):Int))&&true) (Yh (Zb b_4 (Zq n_2) Yy) fun cs=>cStr cs fun b_5 r=>cStr r fun b_6 r=>cInt .i64 r fun n_3 r=>cInt .u64 r fun n_4 r=>onNil r (sel (!b_5==b_1) t0 (sel (!b_6==b_2) t0 (sel (!b_3) t1 (chk (decide (0≤n)&&decide (n<(↑(Zx b):Int))&&true) (Yh (Zb b (Zq n) Yy) fun cs=>cStr cs fun b r=>cStr r fun b r=>cInt .i64 r fun n r=>cInt .u64 r fun n_5 r=>onNil r (sel (decide (n_3>n)) t1 t0)))))))) (some (Yg (Yj 0,[Zd 4 b,Zv b_1,Zv b_2,Zz .i64 n,Zu b_3,Zd 4 b_4,Zz .i64 n_1,Zz .i64 n_2]))))) [Zd 4 xls,Zv a,Zv b,Zz .i64 0,Zu false,Zd 4 xls,Zz .i64 (↑(Zx xls):Int),Zz .i64 0]) fun (r:Ex×List AV)=>cSl 4 (Zn r) fun b r_1=>cStr r_1 fun b r_2=>cStr r_2 fun b r_3=>cInt .i64 r_3 fun n r_4=>cBool r_4 fun b r_5=>cSl 4 r_5 fun b_1 r_6=>cInt .i64 r_6 fun n_1 r_7=>cInt .i64 r_7 fun n_2 r_8=>onNil r_8 (exK r.1 none fun (j:Nat)=>sel (Xb j 0) (some (Ym [Zz .i64 n,Zu b],[])) none):Option (AV×Blocks))) (by kernel_rfl) ?_
  try dsimp only [cStr,cBs,cBool,cU8,cInt,cSl,l63]
  simp only [Zf,decide_eq_true_eq] at hpre
  obtain ⟨hall,hlen⟩:=hpre
  obtain ⟨cs,rfl⟩:=Kerb.cross_of hall
  rw [Kerb.map_toCross,Kerb.find_crossR]
  simp only [Zh] at hlen ⊢
  refine loop_rounds (fun q:Nat×Int×Bool=>[Zd 4 (cs.map Zg),Zv a,Zv b,Zz Zw q.2.1,Zu q.2.2,Zd 4 (cs.map Zg),Zz Zw (cs.length:Int),Zz Zw (q.1:Int)])
   (fun q=>q.1≤cs.length∧(q.2.1,q.2.2)=Kerb.crossR (Wg cs a b q.1)) (fun q=>cs.length-q.1)
   (fun r=>∃ (c:Int) (d:Bool),r=(Yj 0,[Zd 4 (cs.map Zg),Zv a,Zv b,Zz Zw c,Zu d,Zd 4 (cs.map Zg),Zz Zw (cs.length:Int),Zz Zw (cs.length:Int)])∧(c,d)=Kerb.crossR (Wg cs a b cs.length)) (0,0,false) ⟨Yv _,rfl⟩ rfl ?_ ?_
  ·rintro ⟨j,c,d⟩ ⟨hj,hinv⟩
   simp only at hj hinv
   simp only [↓A0,A0]
   rcases Wb j cs.length with h | h
   ·obtain ⟨x,hx⟩:∃ x,cs.getD j Xq=x:=⟨_,rfl⟩
    have hs:=Kerb.cross_step cs a b j hx
    rw [sel_pos (by simp;omega),chk_of (by simp;omega),Zm,Kerb.getD_cross h,hx]
    simp only [Zg,↓A0,A0]
    rw [wrap_i64 (by omega) (by omega)]
    have keep:Wg cs a b (j+1)=Wg cs a b j→Round (fun q:Nat×Int×Bool=>[Zd 4 (cs.map Zg),Zv a,Zv b,Zz Zw q.2.1,Zu q.2.2,Zd 4 (cs.map Zg),Zz Zw (cs.length:Int),Zz Zw (q.1:Int)]) (fun q=>q.1≤cs.length∧(q.2.1,q.2.2)=Kerb.crossR (Wg cs a b q.1)) (fun q=>cs.length-q.1) (fun r=>∃ (c:Int) (d:Bool),r=(Yj 0,[Zd 4 (cs.map Zg),Zv a,Zv b,Zz Zw c,Zu d,Zd 4 (cs.map Zg),Zz Zw (cs.length:Int),Zz Zw (cs.length:Int)])∧(c,d)=Kerb.crossR (Wg cs a b cs.length)) (j,c,d) (Yf [Zd 4 (cs.map Zg),Zv a,Zv b,Zz Zw c,Zu d,Zd 4 (cs.map Zg),Zz Zw (cs.length:Int),Zz Zw ((j:Int)+1)]):=fun e =>
     ⟨(j+1,c,d),rfl,⟨by simp only;omega,by simp only;rw [e];exact hinv⟩,by simp only;omega⟩
    by_cases h1:x.source=a
    case neg =>
     rw [sel_pos (by simpa using h1)]
     rw [show (x.source==a)=false from by simpa using h1,Bool.false_and,cond_false] at hs
     exact ⟨_,rfl,keep hs⟩
    rw [sel_neg (by simp [h1])]
    rw [show (x.source==a)=true from by simpa using h1,Bool.true_and] at hs
    by_cases h2:x.target=b
    case neg =>
     rw [sel_pos (by simpa using h2)]
     rw [show (x.target==b)=false from by simpa using h2,Bool.false_and,cond_false] at hs
     exact ⟨_,rfl,keep hs⟩
    rw [sel_neg (by simp [h2])]
    rw [show (x.target==b)=true from by simpa using h2,Bool.true_and] at hs
    cases hc:Wg cs a b j with
    | none =>
     rw [hc] at hs hinv
     cases hinv
     exact ⟨_,rfl,(j+1,(j:Int),true),rfl,⟨by simp only;omega,by simp only;rw [hs];rfl⟩,by simp only;omega⟩
    | some k =>
     rw [hc] at hs hinv
     cases hinv
     have hk:=Kerb.crossAt_lt hc
     have hkv:(cs.getD k Xq).kvno<x.kvno↔x.kvno>(cs.getD k Xq).kvno:=Iff.rfl
     rw [sel_neg (by simp),chk_of (by simp;omega),Zm,Kerb.getD_cross (by omega)]
     simp only [Zg,↓A0,A0]
     by_cases h3:(cs.getD k Xq).kvno<x.kvno
     ·rw [sel_pos (by simpa using h3)]
      dsimp only at hs
      rw [show decide ((cs.getD k Xq).kvno<x.kvno)=true from by simpa using h3,cond_true] at hs
      exact ⟨_,rfl,(j+1,(j:Int),true),rfl,⟨by simp only;omega,by simp only;rw [hs];rfl⟩,by simp only;omega⟩
     ·rw [sel_neg (by simpa using h3)]
      dsimp only at hs
      rw [show decide ((cs.getD k Xq).kvno<x.kvno)=false from by simpa using h3,cond_false] at hs
      exact ⟨_,rfl,keep (hs.trans hc.symm)⟩
   ·rw [sel_neg (by simp;omega)]
    have hj2:j=cs.length:=by omega
    subst hj2
    exact ⟨_,rfl,c,d,rfl,hinv⟩
  ·rintro _ ⟨c,d,rfl,h⟩
   rw [← h]
   rfl
 ·cases h
theorem w122:Walked Tryz.prog G 122 1 sp122:=by
 refine ⟨Tryz.f122,Tryz.func122,by decide +kernel,rfl,fun xs bl r h=> ?_⟩
 unfold sp122 at h
 split at h
 ·rename_i k
  obtain ⟨hpre,h2⟩:=chk_inv h;cases h2
  refine Eq.trans (b:=(Zj (loopM (fun (st:List AV)=>cInt .u64 st fun n r=>onCons r fun x r=>Wy x fun b=>cInt .i64 r fun n_1 r=>let t0:List UInt8:=[Xv (Zq (Zy .u8 (Int.fdiv n (2 ^ min (Zq (Zy .u64 (Zy .i64 (8*n_1)))) (Zp .u64)))))];onNil r (sel (decide (n_1≥0)) (chk (decide (0≤Zy .u64 (Zy .i64 (8*n_1)))) (chk (room (Zx b+Zx t0) 1) (some (Yf [Zz .u64 n,Yw (b++t0),Zz .i64 (Zy .i64 (n_1-1))])))) (some (Yg (Yj 0,[Zz .u64 n,Yw b,Zz .i64 n_1]))))) [Zz .u64 k,Yw [],Zz .i64 7]) fun (r:Ex×List AV)=>cInt .u64 (Zn r) fun n r_1=>onCons r_1 fun x r_2=>Wy x fun b=>cInt .i64 r_2 fun n r_3=>onNil r_3 (exK r.1 none fun (j:Nat)=>sel (Xb j 0) (some (Yd b,[])) none):Option (AV×Blocks))) (by kernel_rfl) ?_
  try dsimp only [cStr,cBs,cBool,cU8,cInt,cSl,l63]
  refine loop_unroll 9 (Yj 0,[Zz Xx k,Yw [Xn k 56,Xn k 48,Xn k 40,Xn k 32,Xn k 24,Xn k 16,Xn k 8,Xn k 0],Zz Zw (-1)]) (by kernel_rfl) ?_
  simp only [A0]
  rw [sel_pos (Yn _)]
  simp [Kerb.bfd_eq,Kerb.keyBytes,Kerb.byteAt,List.range_succ]
 ·cases h
theorem w123:Walked Tryz.prog G 123 1 sp123:=by
 refine ⟨Tryz.f123,Tryz.func123,by decide +kernel,rfl,fun xs bl r h=> ?_⟩
 unfold sp123 at h
 split at h
 ·rename_i b
  obtain ⟨hpre,h2⟩:=chk_inv h;cases h2
  refine Eq.trans (b:=(chk (room (Zx b) 1) (Zj (loopM (fun (st:List AV)=>onCons st fun x r=>Wy x fun b=>onNil r (sel (!Yu (↑(Zx b):Int) 8==0) (chk (room (Zx b+Zx [(0:UInt8)]) 1) (some (Yf [Yw (b++[(0:UInt8)])]))) (some (Yg (Yj 0,[Yw b]))))) [Yw b]) fun (r:Ex×List AV)=>onCons (Zn r) fun x r_1=>Wy x fun b=>onNil r_1 (exK r.1 none fun (j:Nat)=>sel (Xb j 0) (some (Yw b,[])) none)):Option (AV×Blocks))) (by kernel_rfl) ?_
  have hb:=of_decide_eq_true hpre
  rw [chk_of (Yk (by omega))]
  refine loop_rounds (fun i:Nat=>[Yw (b++List.replicate i 0)]) (fun i=>i≤(8-b.length % 8) % 8) (fun i=>(8-b.length % 8) % 8-i)
   (fun r=>r=(Yj 0,[Yw (Kerb.pad b)])) 0 (by omega) (by simp) ?_ ?_
  ·intro i hi
   simp only [A0]
   have e:Yu ((b++List.replicate i 0).length:Int) 8=(((b.length+i) % 8:Nat):Int):=by
    rw [Xw (by omega)]
    simp
   rw [e]
   by_cases hlt:i<(8-b.length % 8) % 8
   ·rw [sel_pos (by simp;omega),chk_of (Yk (by simp;omega))]
    refine ⟨_,rfl,i+1,?_,by omega,by dsimp only;omega⟩
    dsimp only
    rw [List.replicate_succ',Wz]
   ·rw [sel_neg (by simp;omega)]
    refine ⟨_,rfl,?_⟩
    show _=_
    rw [Kerb.pad,show i=(8-b.length % 8) % 8 from by omega]
  rintro r rfl
  simp only [A0]
  rw [sel_pos (Yn _)]
 ·cases h
theorem w126:Walked Tryz.prog G 126 1 sp126:=by
 refine ⟨Tryz.f126,Tryz.func126,by decide +kernel,rfl,fun xs bl r h=> ?_⟩
 unfold sp126 at h
 split at h
 ·rename_i k
  cases h
  refine Eq.trans (b:=(sel (decide (k≥1)) (some (Zu (decide (k≤10)),[])) (some (Zu false,[])):Option (AV×Blocks))) (by kernel_rfl) ?_
  by_cases h:1≤k<;>simp [sel,Wx,h]
 ·cases h
theorem w133:Walked Tryz.prog G 133 1 sp133:=by
 refine ⟨Tryz.f133,Tryz.func133,by decide +kernel,rfl,fun xs bl r h=> ?_⟩
 unfold sp133 at h
 split at h
 ·rename_i x y z v k
  cases h
  refine Eq.trans (b:=(some (Wq [Zv x,Zv y,Zv z,Zz .i64 v],[]):Option (AV×Blocks))) (by kernel_rfl) ?_
  rfl
 ·cases h
theorem w134:Walked Tryz.prog G 134 1 sp134:=by
 refine ⟨Tryz.f134,Tryz.func134,by decide +kernel,rfl,fun xs bl r h=> ?_⟩
 unfold sp134 at h
 split at h
 ·rename_i mls a1 a2 a3 at_ atk
  obtain ⟨hpre,h2⟩:=chk_inv h;cases h2
  refine Eq.trans (b:=(Zj (loopM (fun (st:List AV)=>cStr st fun b r=>cStr r fun b_1 r=>cStr r fun b_2 r=>cInt .i64 r fun n r=>cInt .i64 r fun n_1 r=>cBool r fun b_3 r=>cSl 5 r fun b_4 r=>cInt .i64 r fun n_2 r=>cInt .i64 r fun n_3 r=>onNil r (sel (decide (n_3<n_2)) (chk (decide (0≤n_3)&&decide (n_3<(↑(Zx b_4):Int))&&true) (Yh (Zb b_4 (Zq n_3) Yy) fun cs=>cStr cs fun b_5 r=>cStr r fun b_6 r=>cStr r fun b_7 r=>cInt .i64 r fun n_4 r=>cInt .i64 r fun n_5 r=>onNil r (sel (b_5==b&&(b_6==b_1&&(b_7==b_2&&(n_4==n&&n_5==n_1)))) (some (Yg (Ex.ret,[Zv b,Zv b_1,Zv b_2,Zz .i64 n,Zz .i64 n_1,Zu true,Zd 5 b_4,Zz .i64 n_2,Zz .i64 n_3]))) (some (Yf [Zv b,Zv b_1,Zv b_2,Zz .i64 n,Zz .i64 n_1,Zu b_3,Zd 5 b_4,Zz .i64 n_2,Zz .i64 (Zy .i64 (n_3+1))]))))) (some (Yg (Yj 0,[Zv b,Zv b_1,Zv b_2,Zz .i64 n,Zz .i64 n_1,Zu b_3,Zd 5 b_4,Zz .i64 n_2,Zz .i64 n_3]))))) [Zv a1,Zv a2,Zv a3,Zz .i64 at_,Zz .i64 atk,Zu false,Zd 5 mls,Zz .i64 (↑(Zx mls):Int),Zz .i64 0]) fun (r:Ex×List AV)=>cStr (Zn r) fun b r_1=>cStr r_1 fun b r_2=>cStr r_2 fun b r_3=>cInt .i64 r_3 fun n r_4=>cInt .i64 r_4 fun n r_5=>cBool r_5 fun b r_6=>cSl 5 r_6 fun b_1 r_7=>cInt .i64 r_7 fun n r_8=>cInt .i64 r_8 fun n r_9=>onNil r_9 (exK r.1 (some (Zu b,[])) fun (j:Nat)=>sel (Xb j 0) (some (Zu false,[])) none):Option (AV×Blocks))) (by kernel_rfl) ?_
  try dsimp only [cStr,cBs,cBool,cU8,cInt,cSl,l63]
  simp only [Zf,decide_eq_true_eq] at hpre
  obtain ⟨hall,hlen⟩:=hpre
  obtain ⟨cs,rfl,hok⟩:=Kerb.marks_of hall
  rw [Kerb.map_toMark]
  simp only [Zh] at hlen ⊢
  refine loop_rounds (fun i:Nat=>[Zv a1,Zv a2,Zv a3,Zz Zw at_,Zz Zw atk,Zu false,Zd 5 (cs.map Kerb.Mark.av),Zz Zw (cs.length:Int),Zz Zw (i:Int)]) (fun i=>i≤cs.length∧Kerb.hasMark cs ⟨⟨a1,a2,a3⟩,at_,atk⟩=Kerb.hasMark (cs.drop i) ⟨⟨a1,a2,a3⟩,at_,atk⟩) (fun i=>cs.length-i)
   (fun r=>∃ (i:Nat) (q:Bool),r.2=[Zv a1,Zv a2,Zv a3,Zz Zw at_,Zz Zw atk,Zu q,Zd 5 (cs.map Kerb.Mark.av),Zz Zw (cs.length:Int),Zz Zw (i:Int)]∧((r.1 = .ret∧q=true∧Kerb.hasMark cs ⟨⟨a1,a2,a3⟩,at_,atk⟩=true)∨(r.1 = .exit 0∧Kerb.hasMark cs ⟨⟨a1,a2,a3⟩,at_,atk⟩=false))) 0 ⟨Yv _,by simp⟩ rfl ?_ ?_
  ·rintro i ⟨hi,hp⟩
   simp only [↓A0,A0,Zh]
   by_cases hlt:i<cs.length
   ·rw [sel_pos (by simp;omega),chk_of (by simp;omega),Zm,Wp (d:=Kerb.noMark) hlt]
    obtain ⟨c,hc⟩:∃ c,cs.getD i Kerb.noMark=c:=⟨_,rfl⟩
    have hd:=Kerb.hasMark_step (m:=⟨⟨a1,a2,a3⟩,at_,atk⟩) hlt hc
    rw [hc]
    simp only [Kerb.Mark.av,↓A0,A0]
    rw [wrap_i64 (by omega) (by omega)]
    show ∃ y,sel (Kerb.Mark.eqb c ⟨⟨a1,a2,a3⟩,at_,atk⟩) _ _=some y∧_
    cases he:Kerb.Mark.eqb c ⟨⟨a1,a2,a3⟩,at_,atk⟩
    ·rw [he,Bool.false_or] at hd
     exact ⟨_,rfl,i+1,rfl,⟨by omega,hp.trans hd⟩,by dsimp only;omega⟩
    ·rw [he,Bool.true_or] at hd
     exact ⟨_,rfl,i,_,rfl,.inl ⟨rfl,rfl,hp.trans hd⟩⟩
   ·rw [sel_neg (by simp;omega)]
    refine ⟨_,rfl,i,_,rfl,.inr ⟨rfl,?_⟩⟩
    rw [hp,Xy (by omega)]
    rfl
  ·rintro ⟨e,l⟩ ⟨i,q,rfl,⟨rfl,rfl,h⟩ | ⟨rfl,h⟩⟩
   ·simp only [↓A0,A0,h]
   ·simp only [↓A0,A0,h]
    rw [sel_pos (Yn _)]
 ·cases h
theorem w136:Walked Tryz.prog G 136 1 sp136:=by
 refine ⟨Tryz.f136,Tryz.func136,by decide +kernel,rfl,fun xs bl r h=> ?_⟩
 unfold sp136 at h
 split at h
 ·rename_i n
  cases h
  refine Eq.trans (b:=(sel (decide (n≥0)) (some (Zu (decide (n≤4294967295)),[])) (some (Zu false,[])):Option (AV×Blocks))) (by kernel_rfl) ?_
  by_cases h:0≤n<;>simp [sel,Yx,h]
 ·cases h
theorem w137:Walked Tryz.prog G 137 1 sp137:=by
 refine ⟨Tryz.f137,Tryz.func137,by decide +kernel,rfl,fun xs bl r h=> ?_⟩
 unfold sp137 at h
 split at h
 ·rename_i n
  cases h
  refine Eq.trans (b:=(sel (decide (n≥0)) (some (Zu (decide (n≤255)),[])) (some (Zu false,[])):Option (AV×Blocks))) (by kernel_rfl) ?_
  by_cases h:0≤n<;>simp [sel,Yx,h]
 ·cases h
theorem w138:Walked Tryz.prog G 138 1 sp138:=by
 refine ⟨Tryz.f138,Tryz.func138,by decide +kernel,rfl,fun xs bl r h=> ?_⟩
 unfold sp138 at h
 split at h
 ·rename_i n m
  cases h
  refine Eq.trans (b:=(sel (decide (n≥0)) (some (Zu (decide (n≤m)),[])) (some (Zu false,[])):Option (AV×Blocks))) (by kernel_rfl) ?_
  by_cases h:0≤n<;>simp [sel,Yx,h]
 ·cases h
theorem w146:Walked Tryz.prog G 146 1 sp146:=by
 refine ⟨Tryz.f146,Tryz.func146,by decide +kernel,rfl,fun xs bl r h=> ?_⟩
 unfold sp146 at h
 split at h
 ·rename_i n els
  obtain ⟨hpre,h2⟩:=chk_inv h;cases h2
  refine Eq.trans (b:=(Zj (loopM (fun (st:List AV)=>onCons st fun x r=>Xu .i64 x fun n=>onCons r fun x r=>AV.onSl 1 x fun b=>onCons r fun x r=>Xu .i64 x fun n_1=>onCons r fun x r=>Xu .i64 x fun n_2=>onNil r (sel (decide (n_2<n_1)) (chk (decide (0≤n_2)&&decide (n_2<(↑(Zx b):Int))&&true) (Xu .i64 (Zb b (Zq n_2) Yy) fun n_3=>sel (decide (n_3<n)) (some (Yf [Zz .i64 n_3,Zd 1 b,Zz .i64 n_1,Zz .i64 (Zy .i64 (n_2+1))])) (some (Yf [Zz .i64 n,Zd 1 b,Zz .i64 n_1,Zz .i64 (Zy .i64 (n_2+1))])))) (some (Yg (Yj 0,[Zz .i64 n,Zd 1 b,Zz .i64 n_1,Zz .i64 n_2]))))) [Zz .i64 n,Zd 1 els,Zz .i64 (↑(Zx els):Int),Zz .i64 0]) fun (r:Ex×List AV)=>onCons (Zn r) fun x r_1=>Xu .i64 x fun n=>onCons r_1 fun x r_2=>AV.onSl 1 x fun b=>onCons r_2 fun x r_3=>Xu .i64 x fun n_1=>onCons r_3 fun x r_4=>Xu .i64 x fun n_2=>onNil r_4 (exK r.1 none fun (j:Nat)=>sel (Xb j 0) (some (Zz .i64 n,[])) none):Option (AV×Blocks))) (by kernel_rfl) ?_
  simp only [Zf,decide_eq_true_eq] at hpre
  obtain ⟨ha,hl⟩:=hpre
  have hil:=Kerb.ints_len ha
  refine loop_rounds (fun i:Nat=>[Zz Zw (Wh n ((intsIn els).take i)),Zd 1 els,Zz Zw (els.length:Int),Zz Zw (i:Int)]) (fun i=>i≤els.length) (fun i=>els.length-i)
   (fun r=>r=(.exit 0,[Zz Zw (Wh n (intsIn els)),Zd 1 els,Zz Zw (els.length:Int),Zz Zw (els.length:Int)])) 0 (Yv _) rfl ?_ ?_
  ·intro i hi
   simp only [↓A0,A0]
   rcases Wb i els.length with h | h
   ·obtain ⟨m,h1,h2⟩:=Kerb.ints_get ha h
    rw [sel_pos (by simp;omega),chk_of (by simp;omega),Zm,h1,onInt_int]
    have ht:(intsIn els).take (i+1)=(intsIn els).take i++[m]:=by
     have h4:i<(intsIn els).length:=by omega
     rw [List.take_succ_eq_append_getElem h4]
     rw [List.drop_eq_getElem_cons h4] at h2
     rw [(List.cons.inj h2).1]
    have hs:Wh n ((intsIn els).take (i+1))=Kerb.imin (Wh n ((intsIn els).take i)) m:=by rw [ht];simp [Wh]
    rw [wrap_i64 (by omega) (by omega)]
    unfold Kerb.imin at hs
    by_cases hm:m<Wh n ((intsIn els).take i)
    ·rw [sel_pos (by simpa using hm)]
     rw [if_pos hm] at hs
     exact ⟨_,rfl,i+1,by dsimp only;rw [hs];rfl,by omega,by dsimp only;omega⟩
    ·rw [sel_neg (by simpa using hm)]
     rw [if_neg hm] at hs
     exact ⟨_,rfl,i+1,by dsimp only;rw [hs];rfl,by omega,by dsimp only;omega⟩
   ·have h1:i=els.length:=by omega
    subst h1
    rw [sel_neg (by simp)]
    refine ⟨_,rfl,?_⟩
    show _=_
    rw [Xz (by omega)]
  ·rintro _ rfl
   rfl
 ·cases h
theorem w148:Walked Tryz.prog G 148 1 sp148:=by
 refine ⟨Tryz.f148,Tryz.func148,by decide +kernel,rfl,fun xs bl r h=> ?_⟩
 unfold sp148 at h
 split at h
 ·rename_i k
  obtain ⟨hpre,h2⟩:=chk_inv h;cases h2
  refine Eq.trans (b:=(Zj (loopM (fun (st:List AV)=>cInt .u64 st fun n r=>onCons r fun x r=>Wy x fun b=>cInt .i64 r fun n_1 r=>cInt .i64 r fun n_2 r=>let t0:Int:=Zy .i64 (8*Zy .i64 (7-n_2));onNil r (sel (decide (n_2<n_1)) (chk (decide (0≤t0)) (chk (decide (0≤n_2)&&decide (n_2<(↑(Zx b):Int))) (chk (Nat.blt (Zq n_2) (Zx b)&&true&&true&&true&&true) (some (Yf [Zz .u64 n,Yw (List.set b (Zq n_2) (Xv (Zq (Zy .u8 (Int.fdiv n (2 ^ min (Zq t0) (Zp .u64))))))),Zz .i64 n_1,Zz .i64 (Zy .i64 (n_2+1))]))))) (some (Yg (Yj 0,[Zz .u64 n,Yw b,Zz .i64 n_1,Zz .i64 n_2]))))) [Zz .u64 k,Yw (List.replicate (Zq 8) (0:UInt8)),Zz .i64 (↑(Zx (List.replicate (Zq 8) (0:UInt8))):Int),Zz .i64 0]) fun (r:Ex×List AV)=>cInt .u64 (Zn r) fun n r_1=>onCons r_1 fun x r_2=>Wy x fun b=>cInt .i64 r_2 fun n r_3=>cInt .i64 r_3 fun n r_4=>onNil r_4 (exK r.1 none fun (j:Nat)=>sel (Xb j 0) (some (Yd b,[])) none):Option (AV×Blocks))) (by kernel_rfl) ?_
  try dsimp only [cStr,cBs,cBool,cU8,cInt,cSl,l63]
  refine loop_unroll 9 (Yj 0,[Zz Xx k,Yw [Xn k 56,Xn k 48,Xn k 40,Xn k 32,Xn k 24,Xn k 16,Xn k 8,Xn k 0],Zz Zw 8,Zz Zw 8]) (by kernel_rfl) ?_
  simp only [A0]
  rw [sel_pos (Yn _)]
  simp [Kerb.bfd_eq,Kerb.keyBytes,Kerb.byteAt,List.range_succ]
 ·cases h
theorem w150:Walked Tryz.prog G 150 1 sp150:=by
 refine ⟨Tryz.f150,Tryz.func150,by decide +kernel,rfl,fun xs bl r h=> ?_⟩
 unfold sp150 at h
 split at h
 ·rename_i k
  cases h
  refine Eq.trans (b:=(sel (decide (k≥1)) (some (Zu (decide (k≤10)),[])) (some (Zu false,[])):Option (AV×Blocks))) (by kernel_rfl) ?_
  by_cases h:1≤k<;>simp [sel,Wx,h]
 ·cases h
theorem w154:Walked Tryz.prog G 154 1 sp154:=by
 refine ⟨Tryz.f154,Tryz.func154,by decide +kernel,rfl,fun xs bl r h=> ?_⟩
 unfold sp154 at h
 split at h
 ·rename_i n m
  cases h
  refine Eq.trans (b:=(sel (decide (n≥0)) (some (Zu (decide (n≤m)),[])) (some (Zu false,[])):Option (AV×Blocks))) (by kernel_rfl) ?_
  by_cases h:0≤n<;>simp [sel,Yx,h]
 ·cases h
theorem w155:Walked Tryz.prog G 155 1 sp155:=by
 refine ⟨Tryz.f155,Tryz.func155,by decide +kernel,rfl,fun xs bl r h=> ?_⟩
 unfold sp155 at h
 split at h
 ·rename_i n m
  cases h
  refine Eq.trans (b:=(sel (decide (n≥0)) (some (Zu (decide (n≤m)),[])) (some (Zu false,[])):Option (AV×Blocks))) (by kernel_rfl) ?_
  by_cases h:0≤n<;>simp [sel,Yx,h]
 ·cases h
theorem w162:Walked Tryz.prog G 162 1 sp162:=by
 refine ⟨Tryz.f162,Tryz.func162,by decide +kernel,rfl,fun xs bl r h=> ?_⟩
 unfold sp162 at h
 split at h
 ·rename_i n m
  cases h
  refine Eq.trans (b:=(sel (decide (n≥0)) (some (Zu (decide (n≤m)),[])) (some (Zu false,[])):Option (AV×Blocks))) (by kernel_rfl) ?_
  by_cases h:0≤n<;>simp [sel,Yx,h]
 ·cases h
theorem w163:Walked Tryz.prog G 163 1 sp163:=by
 refine ⟨Tryz.f163,Tryz.func163,by decide +kernel,rfl,fun xs bl r h=> ?_⟩
 unfold sp163 at h
 split at h
 ·rename_i n m
  cases h
  refine Eq.trans (b:=(sel (decide (n≥0)) (some (Zu (decide (n≤m)),[])) (some (Zu false,[])):Option (AV×Blocks))) (by kernel_rfl) ?_
  by_cases h:0≤n<;>simp [sel,Yx,h]
 ·cases h
theorem w19:Walked Tryz.prog G 19 2 sp19:=by
 refine ⟨Tryz.f19,Tryz.func19,by decide +kernel,rfl,fun xs bl r h=> ?_⟩
 unfold sp19 at h
 split at h
 ·rename_i n
  obtain ⟨hpre,h2⟩:=chk_inv h;cases h2
  refine Eq.trans (b:=(chk (decide (0≤Yu n 3)&&decide (Yu n 3<(↑(Zx [Zv [(65:UInt8),(84:UInt8),(72:UInt8)],Zv [(66:UInt8),(79:UInt8),(83:UInt8)],Zv [(67:UInt8),(65:UInt8),(77:UInt8)]]):Int))&&true) (Wu (Zb [Zv [(65:UInt8),(84:UInt8),(72:UInt8)],Zv [(66:UInt8),(79:UInt8),(83:UInt8)],Zv [(67:UInt8),(65:UInt8),(77:UInt8)]] (Zq (Yu n 3)) Yy) fun b=>some (Zv b,[])):Option (AV×Blocks))) (by kernel_rfl) ?_
  have hn:0≤n:=by first | exact of_decide_eq_true hpre | (simp only [Zf,decide_eq_true_eq] at hpre;exact hpre.1)
  have ht:Yu n 3=n % 3:=Xw hn
  have hcase:n % 3=0∨n % 3=1∨n % 3=2:=by omega
  rcases hcase with e | e | e<;>simp [ht,e,chk,Wu,Vq]
 ·cases h
theorem w27:Walked Tryz.prog G 27 2 sp27:=by
 refine ⟨Tryz.f27,Tryz.func27,by decide +kernel,rfl,fun xs bl r h=> ?_⟩
 unfold sp27 at h
 split at h
 ·rename_i k
  obtain ⟨hpre,h2⟩:=chk_inv h;cases h2
  refine Eq.trans (b:=(sel (!k==0) (some (Zu ((bif Vv (Zy .i64 (Int.fdiv k (2 ^ min (Zq 56) (Zp .u64))))&&Vz (Zy .i64 (Zy .u64 (↑(BitVec.toNat (BitVec.ofInt (Zp .u64) k &&& BitVec.ofInt (Zp .u64) 72057594037927935)):Int))) then Zy .i64 (Int.fdiv k (2 ^ min (Zq 56) (Zp .u64)))*72057594037927936+Zy .i64 (Zy .u64 (↑(BitVec.toNat (BitVec.ofInt (Zp .u64) k &&& BitVec.ofInt (Zp .u64) 72057594037927935)):Int)) else 0)==k),[])) (some (Zu false,[])):Option (AV×Blocks))) (by kernel_rfl) ?_
  simp only [Zf,decide_eq_true_eq] at hpre
  obtain ⟨h0,h1⟩:=hpre
  rw [Kerb.key_hi h0 h1,Kerb.key_lo h0 h1,Kerb.key_sum]
  by_cases hk:k=0
  ·subst hk;rfl
  rw [sel_pos (by simpa using hk)]
  unfold Wk
  cases Vv (Kerb.keyClass k)&&Vz (Kerb.keySerial k)
  ·have q:((0:Int)==k)=false:=by simp;omega
   simp only [cond_false,q]
  ·simp only [cond_true,BEq.rfl]
 ·cases h
theorem w41:Walked Tryz.prog G 41 2 sp41:=by
 refine ⟨Tryz.f41,Tryz.func41,by decide +kernel,rfl,fun xs bl r h=> ?_⟩
 unfold sp41 at h
 split at h
 ·rename_i k
  obtain ⟨hpre,h2⟩:=chk_inv h;cases h2
  refine Eq.trans (b:=(sel (!Vv (Zy .i64 (Int.fdiv k (2 ^ min (Zq 56) (Zp .u64))))) (some (Ym [Zz .i64 0,Zz .i64 0,Zu false],[])) (sel (!Vz (Zy .i64 (Zy .u64 (↑(BitVec.toNat (BitVec.ofInt (Zp .u64) k &&& BitVec.ofInt (Zp .u64) 72057594037927935)):Int)))) (some (Ym [Zz .i64 0,Zz .i64 0,Zu false],[])) (some (Ym [Zz .i64 (Zy .i64 (Int.fdiv k (2 ^ min (Zq 56) (Zp .u64)))),Zz .i64 (Zy .i64 (Zy .u64 (↑(BitVec.toNat (BitVec.ofInt (Zp .u64) k &&& BitVec.ofInt (Zp .u64) 72057594037927935)):Int))),Zu true],[]))):Option (AV×Blocks))) (by kernel_rfl) ?_
  simp only [Zf,decide_eq_true_eq] at hpre
  obtain ⟨h0,h1⟩:=hpre
  rw [Kerb.key_hi h0 h1,Kerb.key_lo h0 h1]
  unfold Wk
  cases Vv (Kerb.keyClass k)
  ·rfl
  cases Vz (Kerb.keySerial k)<;>rfl
 ·cases h
theorem w47:Walked Tryz.prog G 47 2 sp47:=by
 refine ⟨Tryz.f47,Tryz.func47,by decide +kernel,rfl,fun xs bl r h=> ?_⟩
 unfold sp47 at h
 split at h
 ·rename_i s
  obtain ⟨hpre,h2⟩:=chk_inv h;cases h2
  refine Eq.trans (b:=(sel (decide ((↑(Zx s):Int)>0)) (Zj (chk (decide (Zx s≤9223372036854775807)&&true) (some (Zu (Xf s [(46:UInt8),(64:UInt8)]&&decide (Zx s≤39)),[]))) fun (r:AV×Blocks)=>onNilB (Zn r) (Vk (Yp r) fun b=>some (Zu b,[]))) (some (Zu false,[])):Option (AV×Blocks))) (by kernel_rfl) ?_
  simp only [A0]
  rw [chk_of (by rw [hpre];rfl)]
  simp only [Kerb.validName]
  cases s with
  | nil=>rfl
  | cons x r =>
   rw [sel_pos (by first | (simp;done) | (simp;omega)),Bool.and_comm]
   rfl
 ·cases h
theorem w48:Walked Tryz.prog G 48 2 sp48:=by
 refine ⟨Tryz.f48,Tryz.func48,by decide +kernel,rfl,fun xs bl r h=> ?_⟩
 unfold sp48 at h
 split at h
 ·rename_i s
  obtain ⟨hpre,h2⟩:=chk_inv h;cases h2
  refine Eq.trans (b:=(Zj (chk (decide (Zx s≤9223372036854775807)&&true) (some (Zu (Xf s [(64:UInt8)]&&decide (Zx s≤39)),[]))) fun (r:AV×Blocks)=>onNilB (Zn r) (Vk (Yp r) fun b=>some (Zu b,[])):Option (AV×Blocks))) (by kernel_rfl) ?_
  simp only [A0]
  rw [chk_of (by rw [hpre];rfl),Bool.and_comm]
  rfl
 ·cases h
theorem w50:Walked Tryz.prog G 50 2 sp50:=by
 refine ⟨Tryz.f50,Tryz.func50,by decide +kernel,rfl,fun xs bl r h=> ?_⟩
 unfold sp50 at h
 split at h
 ·rename_i b n
  obtain ⟨hpre,h2⟩:=chk_inv h;cases h2
  refine Eq.trans (b:=(Zj (chk (decide (Zx b≤70368744177664)) (some (Yw (b++Xh n (Zq 1) false),[]))) fun (r:AV×Blocks)=>onNilB (Zn r) (Wy (Yp r) fun l=>some (Yw l,[])):Option (AV×Blocks))) (by kernel_rfl) ?_
  simp only [decide_eq_true_eq] at hpre
  simp only [A0]
  rw [chk_of (by simp;omega)]
  rfl
 ·cases h
theorem w51:Walked Tryz.prog G 51 2 sp51:=by
 refine ⟨Tryz.f51,Tryz.func51,by decide +kernel,rfl,fun xs bl r h=> ?_⟩
 unfold sp51 at h
 split at h
 ·rename_i b n little
  obtain ⟨hpre,h2⟩:=chk_inv h;cases h2
  refine Eq.trans (b:=(Zj (chk (decide (Zx b≤70368744177664)) (some (Yw (b++Xh n (Zq 4) little),[]))) fun (r:AV×Blocks)=>onNilB (Zn r) (Wy (Yp r) fun l=>some (Yw l,[])):Option (AV×Blocks))) (by kernel_rfl) ?_
  simp only [decide_eq_true_eq] at hpre
  simp only [A0]
  rw [chk_of (by simp;omega)]
  rfl
 ·cases h
theorem w60:Walked Tryz.prog G 60 2 sp60:=by
 refine ⟨Tryz.f60,Tryz.func60,by decide +kernel,rfl,fun xs bl r h=> ?_⟩
 unfold sp60 at h
 split at h
 ·rename_i m1 m2 m3 kls sz fl mls sk
  obtain ⟨hpre,h2⟩:=chk_inv h;cases h2
  refine Eq.trans (b:=(Zj (chk (decide (Zx kls≤1000000)) (some (Xd kls,[]))) fun (r:AV×Blocks)=>onNilB (Zn r) (Vj (Yp r) fun l=>Zj (chk (decide (Zx mls≤1000000)) (some (Xd mls,[]))) fun (r:AV×Blocks)=>onNilB (Zn r) (Vj (Yp r) fun l_1=>some (Wq [Zv m1,Zv m2,Zv m3,Zd 5 l,Zz .i64 sz,Zz .i64 fl,Zd 5 l_1,Zz .i64 sk],[]))):Option (AV×Blocks))) (by kernel_rfl) ?_
  simp only [Zf,decide_eq_true_eq] at hpre
  simp only [hpre,decide_true,↓A0,A0]
 ·cases h
theorem w79:Walked Tryz.prog G 79 2 sp79:=by
 refine ⟨Tryz.f79,Tryz.func79,by decide +kernel,rfl,fun xs bl r h=> ?_⟩
 unfold sp79 at h
 split at h
 ·rename_i s
  obtain ⟨hpre,h2⟩:=chk_inv h;cases h2
  refine Eq.trans (b:=(sel (decide ((↑(Zx s):Int)>0)) (Zj (chk (decide (Zx s≤9223372036854775807)&&true) (some (Zu (Xf s [(64:UInt8)]&&decide (Zx s≤39)),[]))) fun (r:AV×Blocks)=>onNilB (Zn r) (Vk (Yp r) fun b=>some (Zu b,[]))) (some (Zu false,[])):Option (AV×Blocks))) (by kernel_rfl) ?_
  simp only [A0]
  rw [chk_of (by rw [hpre];rfl)]
  simp only [Kerb.validRealm]
  cases s with
  | nil=>rfl
  | cons x r =>
   rw [sel_pos (by first | (simp;done) | (simp;omega)),Bool.and_comm]
   rfl
 ·cases h
theorem w83:Walked Tryz.prog G 83 2 sp83:=by
 refine ⟨Tryz.f83,Tryz.func83,by decide +kernel,rfl,fun xs bl r h=> ?_⟩
 unfold sp83 at h
 split at h
 ·rename_i b
  cases h
  refine Eq.trans (b:=(sel (decide ((↑(Zx b):Int)<2)) (some (Ym [Zz .i64 0,Zu false,Zz .i64 101],[])) (chk (decide (0<(↑(Zx b):Int))) (sel (!Zb b (Zq 0) (0:UInt8)==(4:UInt8)) (some (Ym [Zz .i64 0,Zu false,Zz .i64 39],[])) (chk (decide (1<(↑(Zx b):Int))) (sel (!Wx (Zy .i64 (Xm (Zy .i64 (↑(Xj (Zb b (Zq 1) (0:UInt8))):Int)) 2))) (some (Ym [Zz .i64 0,Zu false,Zz .i64 40],[])) (chk (decide (1<(↑(Zx b):Int))) (some (Ym [Zz .i64 (Zy .i64 (Xm (Zy .i64 (↑(Xj (Zb b (Zq 1) (0:UInt8))):Int)) 2)),Zu (Xv (Zq (Yu (↑(Xj (Zb b (Zq 1) (0:UInt8))):Int) (↑(Xj (2:UInt8)):Int)))==(1:UInt8)),Zz .i64 0],[]))))))):Option (AV×Blocks))) (by kernel_rfl) ?_
  unfold Wj
  by_cases h1:b.length<2
  ·rw [sel_pos (by simp;omega)]
   simp [h1]
  rw [sel_neg (by simp;omega),chk_of (by simp;omega),if_neg h1]
  by_cases h2:b.getD 0 0=4
  ·have hb:=(b.getD 1 0).toNat_lt
   have e:Zy Zw (Xm (Zy Zw ((b.getD (Zq 1) 0).toNat:Int)) 2)=(((b.getD 1 0).toNat / 2:Nat):Int):=by
    rw [show Zq 1=1 from rfl,wrap_i64 (n:=((b.getD 1 0).toNat:Int)) (by omega) (by omega),Xg (by omega),wrap_i64 (by omega) (by omega)];omega
   have e2:(Xv (Zq (Yu ((b.getD (Zq 1) 0).toNat:Int) ((2:UInt8).toNat:Int)))==1)=decide ((b.getD 1 0).toNat % 2=1):=by
    rw [show Zq 1=1 from rfl,Xw (by omega)]
    have e3:Zq (((b.getD 1 0).toNat:Int) % ((2:UInt8).toNat:Int))=(b.getD 1 0).toNat % 2:=by
     show Zq (((b.getD 1 0).toNat:Int) % 2)=_
     omega
    rw [e3]
    rcases Nat.mod_two_eq_zero_or_one (b.getD 1 0).toNat with h | h<;>rw [h]<;>rfl
   rw [sel_neg (by simp [h2] at *;exact h2),chk_of (by simp;omega),if_neg (by simpa using h2),e,e2]
   cases hk:Wx (((b.getD 1 0).toNat / 2:Nat):Int)
   ·rfl
   ·rw [Vp,sel_false,chk_of (by simp;omega)]
    rfl
  ·rw [sel_pos (by simpa using h2),if_pos (by simpa using h2)]
 ·cases h
theorem w85:Walked Tryz.prog G 85 2 sp85:=by
 refine ⟨Tryz.f85,Tryz.func85,by decide +kernel,rfl,fun xs bl r h=> ?_⟩
 unfold sp85 at h
 split at h
 ·rename_i b pos n
  obtain ⟨hpre,h2⟩:=chk_inv h;cases h2
  refine Eq.trans (b:=(Zj (chk (decide (Zx b≤4611686018427387904)) (some (Zz .i64 (Kerb.room b pos n),[]))) fun (r:AV×Blocks)=>onNilB (Zn r) (Xu .i64 (Yp r) fun n_1=>sel (!n_1==0) (some (Ym [Yd [],Zz .i64 0,Zz .i64 n_1],[])) (chk (decide (0≤pos)&&decide (pos≤Zy .i64 (pos+n))&&decide (Zy .i64 (pos+n)≤(↑(Zx b):Int))) (Zj (chk (decide (Zx (List.drop (Zq pos) (List.take (Zq (Zy .i64 (pos+n))) b))≤140737488355328)) (some (Yd (List.drop (Zq pos) (List.take (Zq (Zy .i64 (pos+n))) b)),[]))) fun (r:AV×Blocks)=>onNilB (Zn r) (AV.onBs (Yp r) fun b=>some (Ym [Yd b,Zz .i64 (Zy .i64 (pos+n)),Zz .i64 0],[]))))):Option (AV×Blocks))) (by kernel_rfl) ?_
  have hb:=of_decide_eq_true hpre
  simp only [A0]
  rw [chk_of (by simp;omega)]
  unfold Kerb.bytes
  by_cases hr:Kerb.room b pos n=0
  ·obtain ⟨q1,q2,q3,q4⟩:=Kerb.room_zero.1 hr
   have e:List.drop (Zq pos) (List.take (Zq (pos+n)) b)=Kerb.cut b pos n:=by
    rw [show Zq (pos+n)=pos.toNat+n.toNat by omega,List.drop_take,show pos.toNat+n.toNat-pos.toNat=n.toNat by omega]
    rfl
   have hc:=Kerb.cut_length hr
   rw [sel_neg (by simp [hr]),if_pos hr,wrap_i64 (by omega) (by omega),e,chk_of (by simp;omega),chk_of (by simp;omega)]
  ·rw [sel_pos (by simpa using hr),if_neg hr]
 ·cases h
theorem w86:Walked Tryz.prog G 86 2 sp86:=by
 refine ⟨Tryz.f86,Tryz.func86,by decide +kernel,rfl,fun xs bl r h=> ?_⟩
 unfold sp86 at h
 split at h
 ·rename_i b pos k little
  obtain ⟨hpre,h2⟩:=chk_inv h;cases h2
  refine Eq.trans (b:=(Zj (chk (decide (Zx b≤4611686018427387904)) (some (Zz .i64 (Kerb.room b pos k),[]))) (kI .i64 fun n=>sel (!n==0) (some (Ym [Zz .i64 0,Zz .i64 0,Zz .i64 n],[])) (Zj (loopM (fun (st:List AV)=>cBs st fun b r=>cInt .i64 r fun n r=>cInt .i64 r fun n_1 r=>cBool r fun b_1 r=>cInt .i64 r fun n_2 r=>let t0:BitVec (Zp .i64):=BitVec.ofInt (Zp .i64) (Zy .i64 (n_2*2 ^ min (Zq 8) (Zp .i64)));cInt .i64 r fun n_3 r=>cInt .i64 r fun n_4 r=>let t1:Int:=Zy .i64 (n+Zy .i64 (Zy .i64 (n_1-1)-n_4));onNil r (sel (decide (n_4<n_3)) (sel b_1 (chk (decide (0≤t1)&&decide (t1<(↑(Zx b):Int))) (some (Yf [Yd b,Zz .i64 n,Zz .i64 n_1,Zu b_1,Zz .i64 (Zy .i64 (↑(BitVec.toNat (t0 ||| BitVec.ofInt (Zp .i64) (Zy .i64 (↑(Xj (Zb b (Zq t1) (0:UInt8))):Int)))):Int)),Zz .i64 n_3,Zz .i64 (Zy .i64 (n_4+1))]))) (chk (decide (0≤Zy .i64 (n+n_4))&&decide (Zy .i64 (n+n_4)<(↑(Zx b):Int))) (some (Yf [Yd b,Zz .i64 n,Zz .i64 n_1,Zu b_1,Zz .i64 (Zy .i64 (↑(BitVec.toNat (t0 ||| BitVec.ofInt (Zp .i64) (Zy .i64 (↑(Xj (Zb b (Zq (Zy .i64 (n+n_4))) (0:UInt8))):Int)))):Int)),Zz .i64 n_3,Zz .i64 (Zy .i64 (n_4+1))])))) (some (Yg (Yj 0,[Yd b,Zz .i64 n,Zz .i64 n_1,Zu b_1,Zz .i64 n_2,Zz .i64 n_3,Zz .i64 n_4]))))) [Yd b,Zz .i64 pos,Zz .i64 k,Zu little,Zz .i64 0,Zz .i64 k,Zz .i64 0]) fun (r:Ex×List AV)=>cBs (Zn r) fun b r_1=>cInt .i64 r_1 fun n r_2=>cInt .i64 r_2 fun n_1 r_3=>cBool r_3 fun b r_4=>cInt .i64 r_4 fun n_2 r_5=>cInt .i64 r_5 fun n_3 r_6=>cInt .i64 r_6 fun n_4 r_7=>onNil r_7 (exK r.1 none fun (j:Nat)=>sel (Xb j 0) (some (Ym [Zz .i64 n_2,Zz .i64 (Zy .i64 (n+n_1)),Zz .i64 0],[])) none))):Option (AV×Blocks))) (by kernel_rfl) ?_
  delta kI
  try dsimp only [cStr,cBs,cBool,cU8,cInt,cSl,l63]
  simp only [Zf,decide_eq_true_eq] at hpre
  obtain ⟨⟨hb,hk0⟩,hk4⟩:=hpre
  simp only [A0]
  rw [chk_of (by simpa using hb)]
  unfold Kerb.get
  by_cases hr:Kerb.room b pos k=0
  ·rw [sel_neg (by simp [hr]),if_pos hr]
   obtain ⟨q1,q2,q3,q4⟩:=Kerb.room_zero.1 hr
   have hcl:=Kerb.cut_length hr
   obtain ⟨L,hL⟩:∃ L,L=cond little (Kerb.cut b pos k).reverse (Kerb.cut b pos k):=⟨_,rfl⟩
   have hLl:L.length=k.toNat:=by rw [hL];cases little<;>simp [hcl]
   rw [← hL]
   refine loop_rounds (fun i:Nat=>[Yd b,Zz Zw pos,Zz Zw k,Zu little,Zz Zw (Kerb.valB (L.take i)),Zz Zw k,Zz Zw (i:Int)]) (fun i=>i≤k.toNat) (fun i=>k.toNat-i)
    (fun r=>r=(Yj 0,[Yd b,Zz Zw pos,Zz Zw k,Zu little,Zz Zw (Kerb.valB L),Zz Zw k,Zz Zw k])) 0 (Yv _) rfl ?_ ?_
   ·intro i hi
    simp only [A0]
    by_cases hlt:i<k.toNat
    ·rw [sel_pos (by simp;omega)]
     have hv:=Kerb.valB_bd (l:=L.take i) (by simp;omega)
     have hs:=Kerb.valB_take (l:=L) (i:=i) (by omega)
     have hgd:L.getD i 0=b.getD (cond little (pos.toNat+(k.toNat-1-i)) (pos.toNat+i)) 0:=by
      rw [hL]
      cases little
      ·exact Kerb.cut_getD hlt
      ·show (Kerb.cut b pos k).reverse.getD i 0=_
       rw [Kerb.getD_reverse (by omega),hcl,Kerb.cut_getD (by omega)];rfl
     cases little
     ·rw [sel_neg rfl,wrap_i64 (n:=pos+(i:Int)) (by omega) (by omega),chk_of (by simp;omega),show (pos+(i:Int)).toNat=pos.toNat+i from by omega]
      rw [Kerb.shl8_or _ hv.1 (by omega),wrap_i64 (n:=(i:Int)+1) (by omega) (by omega)]
      refine ⟨_,rfl,i+1,?_,by omega,by dsimp only;omega⟩
      dsimp only
      rw [hs,hgd];rfl
     ·rw [sel_pos rfl,wrap_i64 (n:=k-1) (by omega) (by omega),wrap_i64 (n:=k-1-(i:Int)) (by omega) (by omega),wrap_i64 (n:=pos+(k-1-(i:Int))) (by omega) (by omega),chk_of (by simp;omega),show (pos+(k-1-(i:Int))).toNat=pos.toNat+(k.toNat-1-i) from by omega]
      rw [Kerb.shl8_or _ hv.1 (by omega),wrap_i64 (n:=(i:Int)+1) (by omega) (by omega)]
      refine ⟨_,rfl,i+1,?_,by omega,by dsimp only;omega⟩
      dsimp only
      rw [hs,hgd];rfl
    ·rw [sel_neg (by simp;omega)]
     refine ⟨_,rfl,?_⟩
     show _=_
     rw [Xz (by omega),show (i:Int)=k from by omega]
   ·rintro r rfl
    simp only [A0]
    rw [sel_pos (Yn _),wrap_i64 (by omega) (by omega)]
  ·rw [sel_pos (by simpa using hr),if_neg hr]
 ·cases h
theorem w88:Walked Tryz.prog G 88 2 sp88:=by
 refine ⟨Tryz.f88,Tryz.func88,by decide +kernel,rfl,fun xs bl r h=> ?_⟩
 unfold sp88 at h
 split at h
 ·rename_i s c
  cases h
  refine Eq.trans (b:=(some (Zz .i64 (Kerb.indexOf c s),[]):Option (AV×Blocks))) (by kernel_rfl) ?_
  rfl
 ·cases h
theorem w103:Walked Tryz.prog G 103 2 sp103:=by
 refine ⟨Tryz.f103,Tryz.func103,by decide +kernel,rfl,fun xs bl r h=> ?_⟩
 unfold sp103 at h
 split at h
 ·rename_i a b s
  cases h
  refine Eq.trans (b:=(sel (!Yx a 4294967295) (some (Zu false,[])) (sel (!Yx b 4294967295) (some (Zu false,[])) (sel (!Yx s 4294967295) (some (Zu false,[])) (sel (decide (Zy .i64 (a-b)≤s)) (some (Zu (decide (Zy .i64 (b-a)≤s)),[])) (some (Zu false,[]))))):Option (AV×Blocks))) (by kernel_rfl) ?_
  unfold Kerb.near
  cases h1:Yx a 4294967295
  ·rfl
  cases h2:Yx b 4294967295
  ·rfl
  have a1:=Kerb.within_iff.1 h1
  have a2:=Kerb.within_iff.1 h2
  simp only [Vp,sel_false,Bool.and_self,Bool.true_and]
  rw [wrap_i64 (n:=a-b) (by omega) (by omega),wrap_i64 (n:=b-a) (by omega) (by omega)]
  cases h3:Yx s 4294967295
  ·rfl
  cases decide (a-b≤s)<;>rfl
 ·cases h
theorem w106:Walked Tryz.prog G 106 2 sp106:=by
 refine ⟨Tryz.f106,Tryz.func106,by decide +kernel,rfl,fun xs bl r h=> ?_⟩
 unfold sp106 at h
 split at h
 ·rename_i sz fl mls a1 a2 a3 at_ atk
  obtain ⟨hpre,h2⟩:=chk_inv h;cases h2
  refine Eq.trans (b:=(Zj (chk (List.all mls Kerb.isMark&&decide (Zx mls≤1000000)) (some (Zu (Kerb.hasMark (List.map Kerb.toMark mls) (Kerb.Mark.mk (Kerb.Prin.mk a1 a2 a3) at_ atk)),[]))) fun (r:AV×Blocks)=>onNilB (Zn r) (Vk (Yp r) fun b=>some (Zu b,[])):Option (AV×Blocks))) (by kernel_rfl) ?_
  simp only [hpre,↓A0,A0]
 ·cases h
theorem w114:Walked Tryz.prog G 114 2 sp114:=by
 refine ⟨Tryz.f114,Tryz.func114,by decide +kernel,rfl,fun xs bl r h=> ?_⟩
 unfold sp114 at h
 split at h
 ·rename_i i l
  cases h
  refine Eq.trans (b:=(sel (!Yx i 4294967295) (some (Zz .i64 0,[])) (sel (!Yx l 255) (some (Zz .i64 0,[])) (some (Zz .i64 (Zy .i64 (i+Zy .i64 (300*Zy .i64 (l+1)))),[]))):Option (AV×Blocks))) (by kernel_rfl) ?_
  unfold Kerb.tEnd
  cases h1:Yx i 4294967295
  ·rfl
  cases h2:Yx l 255
  ·rfl
  have a1:=Kerb.within_iff.1 h1
  have a2:=Kerb.within_iff.1 h2
  simp only [Vp,sel_false,Bool.and_self,if_true]
  rw [wrap_i64 (n:=l+1) (by omega) (by omega),wrap_i64 (n:=300*(l+1)) (by omega) (by omega),wrap_i64 (by omega) (by omega)]
 ·cases h
theorem w121:Walked Tryz.prog G 121 2 sp121:=by
 refine ⟨Tryz.f121,Tryz.func121,by decide +kernel,rfl,fun xs bl r h=> ?_⟩
 unfold sp121 at h
 split at h
 ·rename_i b x y z
  obtain ⟨hpre,h2⟩:=chk_inv h;cases h2
  refine Eq.trans (b:=(Zj (chk (decide (Zx b+Zx x≤70368744177664)) (some (Yd (Wv b x),[]))) fun (r:AV×Blocks)=>onNilB (Zn r) (AV.onBs (Yp r) fun b=>Zj (chk (decide (Zx b+Zx y≤70368744177664)) (some (Yd (Wv b y),[]))) fun (r:AV×Blocks)=>onNilB (Zn r) (AV.onBs (Yp r) fun b=>Zj (chk (decide (Zx b+Zx z≤70368744177664)) (some (Yd (Wv b z),[]))) fun (r:AV×Blocks)=>onNilB (Zn r) (AV.onBs (Yp r) fun b=>some (Yd b,[])))):Option (AV×Blocks))) (by kernel_rfl) ?_
  simp only [decide_eq_true_eq] at hpre
  simp only [A0]
  rw [chk_of (by simp;omega),chk_of (by simp [Wv];omega),chk_of (by simp [Wv];omega)]
  rfl
 ·cases h
theorem w128:Walked Tryz.prog G 128 2 sp128:=by
 refine ⟨Tryz.f128,Tryz.func128,by decide +kernel,rfl,fun xs bl r h=> ?_⟩
 unfold sp128 at h
 split at h
 ·rename_i k little
  cases h
  refine Eq.trans (b:=(sel (!Wx k) (some (Yd [],[])) (sel little (some (Yd [(4:UInt8),Xv (Zq (Zy .u8 (Zy .i64 (Zy .i64 (2*k)+1))))],[])) (some (Yd [(4:UInt8),Xv (Zq (Zy .u8 (Zy .i64 (2*k))))],[]))):Option (AV×Blocks))) (by kernel_rfl) ?_
  by_cases h:1≤k∧k≤10
  ·have hk:k=1∨k=2∨k=3∨k=4∨k=5∨k=6∨k=7∨k=8∨k=9∨k=10:=by omega
   rcases hk with rfl | rfl | rfl | rfl | rfl | rfl | rfl | rfl | rfl | rfl<;>cases little<;>rfl
  ·have hk:Wx k=false:=by simp [Wx];omega
   by_cases h1:k<1
   ·simp [sel,Wd,hk,h1]
   ·have h2:10<k:=by omega
    simp [sel,Wd,hk,h1,h2]
 ·cases h
theorem w129:Walked Tryz.prog G 129 2 sp129:=by
 refine ⟨Tryz.f129,Tryz.func129,by decide +kernel,rfl,fun xs bl r h=> ?_⟩
 unfold sp129 at h
 split at h
 ·rename_i els
  obtain ⟨hpre,h2⟩:=chk_inv h;cases h2
  refine Eq.trans (b:=(Zj (loopM (fun (st:List AV)=>cSl 1 st fun b r=>cInt .i64 r fun n r=>cSl 1 r fun b_1 r=>cInt .i64 r fun n_1 r=>cInt .i64 r fun n_2 r=>onNil r (sel (decide (n_2<n_1)) (chk (decide (0≤n_2)&&decide (n_2<(↑(Zx b_1):Int))&&true) (AV.onBs (Zb b_1 (Zq n_2) Yy) fun b_2=>sel (decide (Zy .i64 (n+(↑(Zx b_2):Int))<0)) none (some (Yf [Zd 1 b,Zz .i64 (Zy .i64 (n+(↑(Zx b_2):Int))),Zd 1 b_1,Zz .i64 n_1,Zz .i64 (Zy .i64 (n_2+1))])))) (some (Yg (Yj 0,[Zd 1 b,Zz .i64 n,Zd 1 b_1,Zz .i64 n_1,Zz .i64 n_2]))))) [Zd 1 els,Zz .i64 0,Zd 1 els,Zz .i64 (↑(Zx els):Int),Zz .i64 0]) fun (r:Ex×List AV)=>cSl 1 (Zn r) fun b r_1=>cInt .i64 r_1 fun n r_2=>cSl 1 r_2 fun b_1 r_3=>cInt .i64 r_3 fun n_1 r_4=>cInt .i64 r_4 fun n_2 r_5=>onNil r_5 (exK r.1 none fun (j:Nat)=>sel (Xb j 0) (Zj (chk (decide (0≤n)&&decide (n≤140737488355328)) (some (Yw [],[]))) (kO fun l=>Zj (loopM (fun (st:List AV)=>onCons st fun x r=>Wy x fun b=>cSl 1 r fun b_2 r=>cInt .i64 r fun n r=>cInt .i64 r fun n_3 r=>onNil r (sel (decide (n_3<n)) (chk (decide (0≤n_3)&&decide (n_3<(↑(Zx b_2):Int))&&true) (AV.onBs (Zb b_2 (Zq n_3) Yy) fun b_3=>chk (room (Zx b+Zx b_3) 1) (some (Yf [Yw (b++b_3),Zd 1 b_2,Zz .i64 n,Zz .i64 (Zy .i64 (n_3+1))])))) (some (Yg (Yj 2,[Yw b,Zd 1 b_2,Zz .i64 n,Zz .i64 n_3]))))) [Yw l,Zd 1 b,Zz .i64 (↑(Zx b):Int),Zz .i64 0]) fun (r:Ex×List AV)=>onCons (Zn r) fun x r_6=>Wy x fun b=>cSl 1 r_6 fun b_2 r_7=>cInt .i64 r_7 fun n r_8=>cInt .i64 r_8 fun n r_9=>onNil r_9 (exK r.1 none fun (j:Nat)=>sel (Xb j 2) (some (Yw b,[])) none))) none):Option (AV×Blocks))) (by kernel_rfl) ?_
  delta kO
  try dsimp only [cStr,cBs,cBool,cU8,cInt,cSl,l63]
  simp only [Zf,decide_eq_true_eq] at hpre
  obtain ⟨⟨ha,hl⟩,hbig⟩:=hpre
  refine loop_rounds (fun i:Nat=>[Zd 1 els,Zz Zw ((catB (els.take i)).length:Int),Zd 1 els,Zz Zw (els.length:Int),Zz Zw (i:Int)]) (fun i=>i≤els.length) (fun i=>els.length-i)
   (fun r=>r=(Yj 0,[Zd 1 els,Zz Zw ((catB els).length:Int),Zd 1 els,Zz Zw (els.length:Int),Zz Zw (els.length:Int)])) 0 (Yv _) rfl ?_ ?_
  ·intro i hi
   simp only [A0]
   by_cases hlt:i<els.length
   ·obtain ⟨l,h1,h2,h3⟩:=Kerb.cat_step ha hlt
    rw [sel_pos (by simp;omega),chk_of (by simp;omega),Zm,h1,onBs_bs,wrap_i64 (n:=((catB (els.take i)).length:Int)+(l.length:Int)) (by omega) (by omega),sel_neg (by simp;omega),wrap_i64 (by omega) (by omega)]
    refine ⟨_,rfl,i+1,?_,by omega,by dsimp only;omega⟩
    dsimp only
    rw [h2,Vu,Int.natCast_add]
    rfl
   ·rw [sel_neg (by simp;omega)]
    refine ⟨_,rfl,?_⟩
    show _=_
    rw [Xz (by omega),show i=els.length from by omega]
  rintro r rfl
  simp only [A0]
  rw [sel_pos (Yn _),chk_of (by simp;omega)]
  refine loop_rounds (fun i:Nat=>[Yw (catB (els.take i)),Zd 1 els,Zz Zw (els.length:Int),Zz Zw (i:Int)]) (fun i=>i≤els.length) (fun i=>els.length-i)
   (fun r=>r=(Yj 2,[Yw (catB els),Zd 1 els,Zz Zw (els.length:Int),Zz Zw (els.length:Int)])) 0 (Yv _) rfl ?_ ?_
  ·intro i hi
   simp only [A0]
   by_cases hlt:i<els.length
   ·obtain ⟨l,h1,h2,h3⟩:=Kerb.cat_step ha hlt
    rw [sel_pos (by simp;omega),chk_of (by simp;omega),Zm,h1,onBs_bs,chk_of (Yk (by omega)),wrap_i64 (by omega) (by omega)]
    refine ⟨_,rfl,i+1,?_,by omega,by dsimp only;omega⟩
    dsimp only
    rw [h2]
    rfl
   ·rw [sel_neg (by simp;omega)]
    refine ⟨_,rfl,?_⟩
    show _=_
    rw [Xz (by omega),show i=els.length from by omega]
  rintro r rfl
  simp only [A0]
  rw [sel_pos (Yn _)]
 ·cases h
theorem w132:Walked Tryz.prog G 132 2 sp132:=by
 refine ⟨Tryz.f132,Tryz.func132,by decide +kernel,rfl,fun xs bl r h=> ?_⟩
 unfold sp132 at h
 split at h
 ·rename_i kls x y z v
  obtain ⟨hpre,h2⟩:=chk_inv h;cases h2
  refine Eq.trans (b:=(Zj (loopM (fun (st:List AV)=>cSl 5 st fun b r=>cStr r fun b_1 r=>cStr r fun b_2 r=>cStr r fun b_3 r=>cInt .i64 r fun n r=>cInt .i64 r fun n_1 r=>cSl 5 r fun b_4 r=>cInt .i64 r fun n_2 r=>cInt .i64 r fun n_3 r=>onNil r (sel (decide (n_3<n_2)) (chk (decide (0≤n_3)&&decide (n_3<(↑(Zx b_4):Int))&&true) (Yh (Zb b_4 (Zq n_3) Yy) fun cs=>cStr cs fun b_5 r=>cStr r fun b_6 r=>cStr r fun b_7 r=>cInt .i64 r fun n_4 r=>cInt .u64 r fun n_5 r=>onNil r (sel (b_5==b_1&&(b_6==b_2&&(b_7==b_3&&n_4==n))) (some (Yg (Ex.ret,[Zd 5 b,Zv b_1,Zv b_2,Zv b_3,Zz .i64 n,Zz .i64 n_3,Zd 5 b_4,Zz .i64 n_2,Zz .i64 n_3]))) (some (Yf [Zd 5 b,Zv b_1,Zv b_2,Zv b_3,Zz .i64 n,Zz .i64 n_1,Zd 5 b_4,Zz .i64 n_2,Zz .i64 (Zy .i64 (n_3+1))]))))) (some (Yg (Yj 0,[Zd 5 b,Zv b_1,Zv b_2,Zv b_3,Zz .i64 n,Zz .i64 n_1,Zd 5 b_4,Zz .i64 n_2,Zz .i64 n_3]))))) [Zd 5 kls,Zv x,Zv y,Zv z,Zz .i64 v,Zz .i64 0,Zd 5 kls,Zz .i64 (↑(Zx kls):Int),Zz .i64 0]) fun (r:Ex×List AV)=>cSl 5 (Zn r) fun b r_1=>cStr r_1 fun b_1 r_2=>cStr r_2 fun b_2 r_3=>cStr r_3 fun b_3 r_4=>cInt .i64 r_4 fun n r_5=>cInt .i64 r_5 fun n r_6=>cSl 5 r_6 fun b_4 r_7=>cInt .i64 r_7 fun n_1 r_8=>cInt .i64 r_8 fun n_2 r_9=>onNil r_9 (exK r.1 (some (Zz .i64 n,[])) fun (j:Nat)=>sel (Xb j 0) (some (Zz .i64 (↑(Zx b):Int),[])) none):Option (AV×Blocks))) (by kernel_rfl) ?_
  try dsimp only [cStr,cBs,cBool,cU8,cInt,cSl,l63]
  simp only [Zf,decide_eq_true_eq] at hpre
  obtain ⟨hall,hlen⟩:=hpre
  obtain ⟨cs,rfl,hok⟩:=Kerb.skeys_of hall
  rw [Kerb.map_toSKey]
  simp only [Zh] at hlen ⊢
  refine loop_rounds (fun i:Nat=>[Zd 5 (cs.map Yz),Zv x,Zv y,Zv z,Zz Zw v,Zz Zw 0,Zd 5 (cs.map Yz),Zz Zw (cs.length:Int),Zz Zw (i:Int)]) (fun i=>i≤cs.length∧Kerb.skAt cs ⟨x,y,z⟩ v=i+Kerb.skAt (cs.drop i) ⟨x,y,z⟩ v) (fun i=>cs.length-i)
   (fun r=>∃ (i:Nat) (n:Int),r.2=[Zd 5 (cs.map Yz),Zv x,Zv y,Zv z,Zz Zw v,Zz Zw n,Zd 5 (cs.map Yz),Zz Zw (cs.length:Int),Zz Zw (i:Int)]∧((r.1 = .ret∧n=(Kerb.skAt cs ⟨x,y,z⟩ v:Nat))∨(r.1 = .exit 0∧Kerb.skAt cs ⟨x,y,z⟩ v=cs.length))) 0 ⟨Yv _,by simp⟩ rfl ?_ ?_
  ·rintro i ⟨hi,hp⟩
   simp only [↓A0,A0]
   by_cases hlt:i<cs.length
   ·rw [sel_pos (by simp;omega),chk_of (by simp;omega),Zm,Wp (d:=Vx) hlt]
    have hd:=Kerb.drop_row (d:=Vx) hlt
    generalize cs.getD i Vx=c at hd
    simp only [Yz,↓A0,A0]
    have he0:(c.service.name==x&&(c.service.inst==y&&(c.service.realm==z&&c.kvno==v)))=Kerb.SKey.is ⟨x,y,z⟩ v c:=by
     simp only [Kerb.SKey.is,Kerb.Prin.eqb,Bool.and_assoc]
    rw [he0]
    cases he:Kerb.SKey.is ⟨x,y,z⟩ v c
    ·rw [sel_false,wrap_i64 (by omega) (by omega)]
     refine ⟨_,rfl,i+1,rfl,⟨by omega,?_⟩,by dsimp only;omega⟩
     rw [hp,hd]
     simp only [Kerb.skAt,List.findIdx_cons,he,cond_false]
     omega
    ·rw [sel_true]
     refine ⟨_,rfl,i,_,rfl,.inl ⟨rfl,?_⟩⟩
     rw [hp,hd]
     simp only [Kerb.skAt,List.findIdx_cons,he,cond_true]
     omega
   ·rw [sel_neg (by simp;omega)]
    refine ⟨_,rfl,i,_,rfl,.inr ⟨rfl,?_⟩⟩
    rw [hp,Xy (by omega)]
    simp [Kerb.skAt];omega
  ·rintro ⟨e,l⟩ ⟨i,n,rfl,⟨rfl,h⟩ | ⟨rfl,h⟩⟩
   ·simp only [↓A0,A0,h]
   ·simp only [↓A0,A0,h,Zh]
    rw [sel_pos (Yn _)]
 ·cases h
theorem w147:Walked Tryz.prog G 147 2 sp147:=by
 refine ⟨Tryz.f147,Tryz.func147,by decide +kernel,rfl,fun xs bl r h=> ?_⟩
 unfold sp147 at h
 split at h
 ·rename_i n
  obtain ⟨hpre,h2⟩:=chk_inv h;cases h2
  refine Eq.trans (b:=(sel (decide (n<300)) (some (Ym [Zz .i64 0,Zu false],[])) (some (Ym [Zz .i64 (Wh (Zy .i64 (Zy .i64 (Xm n 300)-1)) [255]),Zu true],[])):Option (AV×Blocks))) (by kernel_rfl) ?_
  simp only [Zf,decide_eq_true_eq] at hpre
  by_cases h:n<300
  ·rw [sel_pos (by simpa using h)];simp [h]
  rw [sel_neg (by simpa using h)]
  have e1:Zy .i64 (Xm n 300)=Xm n 300:=by rw [Xg (by omega)];exact wrap_i64 (by omega) (by omega)
  have e2:Zy .i64 (Xm n 300-1)=Xm n 300-1:=by rw [Xg (by omega)];exact wrap_i64 (by omega) (by omega)
  have e3:∀ q,Wh q (intsIn [Zz Zw 255])=Kerb.imin q 255:=fun q=>rfl
  try simp only [e3]
  simp only [e1,e2,h,decide_false,Bool.not_false,chk_true,some_bind]
  rfl
 ·cases h
theorem w158:Walked Tryz.prog G 158 2 sp158:=by
 refine ⟨Tryz.f158,Tryz.func158,by decide +kernel,rfl,fun xs bl r h=> ?_⟩
 unfold sp158 at h
 split at h
 ·rename_i s c
  cases h
  refine Eq.trans (b:=(some (Zz .i64 (Kerb.indexOf c s),[]):Option (AV×Blocks))) (by kernel_rfl) ?_
  rfl
 ·cases h
theorem w10:Walked Tryz.prog G 10 3 sp10:=by
 refine ⟨Tryz.f10,Tryz.func10,by decide +kernel,rfl,fun xs bl r h=> ?_⟩
 unfold sp10 at h
 split at h
 ·rename_i rl els xls
  obtain ⟨hpre,h2⟩:=chk_inv h;cases h2
  refine Eq.trans (b:=(let t1:AV:=Zv [(107:UInt8),(114:UInt8),(98:UInt8),(116:UInt8),(103:UInt8),(116:UInt8)];let t2:Int×Int:=Xk (List.map Kerb.toEntry els) [(107:UInt8),(114:UInt8),(98:UInt8),(116:UInt8),(103:UInt8),(116:UInt8)] rl;let t0:Option (AV×Blocks):=Zj (loopM (fun (st:List AV)=>cSl 4 st fun b r=>cStr r fun b_1 r=>cSl 9 r fun b_2 r=>onCons r fun x r=>Vj x fun b_3=>cInt .i64 r fun n r=>onNil r (sel (decide (n<(↑(Zx b):Int))) (chk (decide (0≤n)&&decide (n<(↑(Zx b):Int))&&true) (Yh (Zb b (Zq n) Yy) fun cs=>cStr cs fun b_4 r=>cStr r fun b_5 r=>cInt .i64 r fun n_1 r=>cInt .u64 r fun n_2 r=>onNil r (sel (b_5==b_1) (chk (decide (0≤n)&&decide (n<(↑(Zx b):Int))&&true) (Yh (Zb b (Zq n) Yy) fun cs=>cStr cs fun b_6 r=>cStr r fun b_7 r=>cInt .i64 r fun n_3 r=>cInt .u64 r fun n_4 r=>onNil r (chk (decide (0≤n)&&decide (n<(↑(Zx b):Int))&&true) (Yh (Zb b (Zq n) Yy) fun cs=>cStr cs fun b_8 r=>cStr r fun b_9 r=>cInt .i64 r fun n_5 r=>cInt .u64 r fun n_6 r=>onNil r (chk (decide (0≤n)&&decide (n<(↑(Zx b):Int))&&true) (Yh (Zb b (Zq n) Yy) fun cs=>cStr cs fun b_10 r=>cStr r fun b_11 r=>cInt .i64 r fun n_7 r=>cInt .u64 r fun n_8 r=>onNil r (chk (room (Zx b_3+Zx [Wq [t1,Zv b_1,Zv b_6,Zz .i64 n_5,Zz .u64 n_8]]) (nat_lit 64)) (some (Yf [Zd 4 b,Zv b_1,Zd 9 b_2,Xd (b_3++[Wq [t1,Zv b_1,Zv b_6,Zz .i64 n_5,Zz .u64 n_8]]),Zz .i64 (Zy .i64 (n+1))]))))))))) (some (Yf [Zd 4 b,Zv b_1,Zd 9 b_2,Xd b_3,Zz .i64 (Zy .i64 (n+1))]))))) (some (Yg (Yj 0,[Zd 4 b,Zv b_1,Zd 9 b_2,Xd b_3,Zz .i64 n]))))) [Zd 4 xls,Zv rl,Zd 9 els,Xd [],Zz .i64 0]) fun (r:Ex×List AV)=>cSl 4 (Zn r) fun b r_1=>cStr r_1 fun b r_2=>cSl 9 r_2 fun b r_3=>onCons r_3 fun x r_4=>Vj x fun b=>cInt .i64 r_4 fun n r_5=>onNil r_5 (exK r.1 none fun (j:Nat)=>sel (Xb j 0) (some (Zd 5 b,[])) none);Zj (chk (List.all els Kerb.isEntry&&decide (Zx els≤1000000)) (some (Ym [Zz .i64 (Yp t2),Zz .i64 (Zn t2)],[]))) (kT fun vs=>cInt .i64 vs fun n r=>let t3:Bool:=decide (0≤n)&&decide (n<(↑(Zx els):Int))&&true;cInt .i64 r fun n_1 r=>onNil r (sel (n_1==0) (chk t3 (Yh (Zb els (Zq n) Yy) fun cs=>cStr cs fun b r=>cStr r fun b r=>cInt .u64 r fun n_2 r=>cInt .i64 r fun n_3 r=>cInt .i64 r fun n_4 r=>cInt .i64 r fun n_5 r=>cInt .i64 r fun n_6 r=>cInt .i64 r fun n_7 r=>cInt .i64 r fun n_8 r=>onNil r (Zj (chk (decide (0≤n_2)&&decide (n_2<18446744073709551616)) (some (Zu (Wk n_2),[]))) (kL fun b=>sel b (chk t3 (Yh (Zb els (Zq n) Yy) fun cs=>cStr cs fun b r=>cStr r fun b r=>cInt .u64 r fun n_9 r=>cInt .i64 r fun n_10 r=>cInt .i64 r fun n_11 r=>cInt .i64 r fun n_12 r=>cInt .i64 r fun n_13 r=>cInt .i64 r fun n_14 r=>cInt .i64 r fun n_15 r=>onNil r (chk t3 (Yh (Zb els (Zq n) Yy) fun cs=>cStr cs fun b r=>cStr r fun b r=>cInt .u64 r fun n r=>let t4:List AV:=[Wq [t1,Zv rl,Zv rl,Zz .i64 n_10,Zz .u64 n]];cInt .i64 r fun n r=>cInt .i64 r fun n r=>cInt .i64 r fun n r=>cInt .i64 r fun n r=>cInt .i64 r fun n r=>cInt .i64 r fun n r=>onNil r (chk (room (Zx t4) (nat_lit 64)) (Zj (loopM (fun (st:List AV)=>cSl 4 st fun b r=>cStr r fun b_1 r=>cSl 9 r fun b_2 r=>onCons r fun x r=>Vj x fun b_3=>cInt .i64 r fun n r=>let t5:Bool:=decide (0≤n)&&decide (n<(↑(Zx b):Int))&&true;onNil r (sel (decide (n<(↑(Zx b):Int))) (chk t5 (Yh (Zb b (Zq n) Yy) fun cs=>cStr cs fun b_4 r=>cStr r fun b_5 r=>cInt .i64 r fun n_16 r=>cInt .u64 r fun n_17 r=>onNil r (sel (b_5==b_1) (chk t5 (Yh (Zb b (Zq n) Yy) fun cs=>cStr cs fun b_6 r=>cStr r fun b_7 r=>cInt .i64 r fun n_18 r=>cInt .u64 r fun n_19 r=>onNil r (chk t5 (Yh (Zb b (Zq n) Yy) fun cs=>cStr cs fun b_8 r=>cStr r fun b_9 r=>cInt .i64 r fun n_20 r=>cInt .u64 r fun n_21 r=>onNil r (chk t5 (Yh (Zb b (Zq n) Yy) fun cs=>cStr cs fun b_10 r=>cStr r fun b_11 r=>cInt .i64 r fun n_22 r=>cInt .u64 r fun n_23 r=>let t6:List AV:=[Wq [t1,Zv b_1,Zv b_6,Zz .i64 n_20,Zz .u64 n_23]];onNil r (chk (room (Zx b_3+Zx t6) (nat_lit 64)) (some (Yf [Zd 4 b,Zv b_1,Zd 9 b_2,Xd (b_3++t6),Zz .i64 (Zy .i64 (n+1))]))))))))) (some (Yf [Zd 4 b,Zv b_1,Zd 9 b_2,Xd b_3,Zz .i64 (Zy .i64 (n+1))]))))) (some (Yg (Yj 0,[Zd 4 b,Zv b_1,Zd 9 b_2,Xd b_3,Zz .i64 n]))))) [Zd 4 xls,Zv rl,Zd 9 els,Xd t4,Zz .i64 0]) fun (r:Ex×List AV)=>cSl 4 (Zn r) fun b r_1=>cStr r_1 fun b r_2=>cSl 9 r_2 fun b r_3=>onCons r_3 fun x r_4=>Vj x fun b=>cInt .i64 r_4 fun n r_5=>onNil r_5 (exK r.1 none fun (j:Nat)=>sel (Xb j 0) (some (Zd 5 b,[])) none))))))) t0)))) t0)):Option (AV×Blocks))) (by kernel_rfl) ?_
  delta kT kL
  try dsimp only [cStr,cBs,cBool,cU8,cInt,cSl,l63]
  simp only [Zf,decide_eq_true_eq] at hpre
  obtain ⟨⟨⟨⟨ea,el⟩,xa⟩,xl⟩,lr⟩:=hpre
  obtain ⟨es,rfl,hok⟩:=Kerb.ents_of ea
  obtain ⟨cs,rfl,hcs⟩:=Kerb.cross_okof xa
  simp only [Zh] at el xl
  have r64:∀ {m:Nat},m≤1000002→Go.Abs.room m 64=true:=fun h=>by simp [Go.Abs.room];omega
  have hkr:([107,114,98,116,103,116]:List UInt8)=Kerb.krbtgt:=rfl
  obtain ⟨D,hD⟩:∃ D,Kerb.Db.mk rl es=D:=⟨_,rfl⟩
  have hDr:D.realm=rl:=by rw [← hD]
  have hDe:D.entries=es:=by rw [← hD]
  simp (config:={maxSteps:=10000000}) only [Kerb.map_toEntry,Kerb.map_toCross,Zh,hD,ea,el,decide_true,Bool.and_self,↓sInt,↓sU8,↓sBool,↓sStr,↓sBs,↓sSl,↓sAgg,↓sTup,↓sCons,↓sNil,↓sNilB,↓sChk,↓sChkBind,↓sSome,↓sOwnL,↓sConsB,↓sOwnB]
  obtain ⟨j,hj⟩:∃ j,(Xk es [107,114,98,116,103,116] rl).1=j:=⟨_,rfl⟩
  have hG:∀ H,Kerb.homeKeys D=H→Kerb.grantKeys D cs=H++Ww rl cs:=fun H h=>by unfold Kerb.grantKeys;rw [h,hDr]
  rw [hj]
  by_cases g1:(Xk es [107,114,98,116,103,116] rl).2=0
  case neg =>
   rw [sel_neg (by simpa using g1),hG [] (by unfold Kerb.homeKeys;rw [hDr,hDe,if_neg (fun h=>g1 h.1)])]
   refine loop_rounds (fun i:Nat=>[Zd 4 (cs.map Zg),Zv rl,Zd 9 (es.map Yq),Xd (([]++Ww rl (cs.take i)).map Yz),Zz Zw (i:Int)]) (fun i=>i≤cs.length) (fun i=>cs.length-i) (fun r=>r=(Yj 0,(fun i:Nat=>[Zd 4 (cs.map Zg),Zv rl,Zd 9 (es.map Yq),Xd (([]++Ww rl (cs.take i)).map Yz),Zz Zw (i:Int)]) cs.length)) 0 (Yv _) rfl ?_ ?_
   ·intro i hi
    simp (config:={maxSteps:=10000000}) only [Zh,↓sInt,↓sU8,↓sBool,↓sStr,↓sBs,↓sSl,↓sAgg,↓sTup,↓sCons,↓sNil,↓sNilB,↓sChk,↓sChkBind,↓sSome,↓sOwnL,↓sConsB,↓sOwnB]
    rcases Wb i cs.length with h1 | h1
    case inr =>
     have:i=cs.length:=by omega
     subst this
     rw [sel_neg (by simp)]
     exact ⟨_,rfl,rfl⟩
    rw [sel_pos (by simp;omega)]
    obtain ⟨c,hc⟩:∃ c,cs.getD i Xq=c:=⟨_,rfl⟩
    have hg:(cs.map Zg).getD i Yy=c.av:=by rw [Wp (d:=Xq) h1,hc]
    have hk:(decide ((0:Int)≤(i:Int))&&decide ((i:Int)<(cs.length:Int))&&true)=true:=by simp;omega
    have hs:=Kerb.crossKeys_step (r:=rl) h1 hc
    have hl1:=Kerb.crossKeys_len rl (cs.take i)
    have hl2:(cs.take i).length≤1000000:=by rw [List.length_take];omega
    rw [wrap_i64 (by omega) (by omega)]
    simp (config:={maxSteps:=10000000}) only [hk,hg,Zm,Zg,↓sInt,↓sU8,↓sBool,↓sStr,↓sBs,↓sSl,↓sAgg,↓sTup,↓sCons,↓sNil,↓sNilB,↓sChk,↓sChkBind,↓sSome,↓sOwnL,↓sConsB,↓sOwnB]
    by_cases h2:c.target=rl
    ·rw [if_pos h2] at hs
     rw [sel_pos (by simpa using h2)]
     have hlen:([]:List Kerb.SKey).length≤1:=by first | exact Yv _ | exact Nat.le_refl _
     rw [chk_of (r64 (by simp only [Zh,Vu,Wn,Vw];omega))]
     refine ⟨_,rfl,i+1,?_,by omega,by dsimp only;omega⟩
     dsimp only
     rw [hs,← Wz,List.map_append (l₂:=[Vy rl c])]
     first | rfl | (rw [h2];rfl) | (simp only [List.map_cons,List.map_nil,Vy,Yz,Kerb.tgs,h2])
    ·rw [if_neg h2,List.append_nil] at hs
     rw [sel_neg (by simpa using h2)]
     refine ⟨_,rfl,i+1,?_,by omega,by dsimp only;omega⟩
     dsimp only
     rw [hs]
     rfl
   ·rintro _ rfl
    simp (config:={maxSteps:=10000000}) only [List.take_length,↓sInt,↓sU8,↓sBool,↓sStr,↓sBs,↓sSl,↓sAgg,↓sTup,↓sCons,↓sNil,↓sNilB,↓sChk,↓sChkBind,↓sSome,↓sOwnL,↓sConsB,↓sOwnB]
    rfl
  rw [sel_pos (by simpa using g1)]
  obtain ⟨i0,i1⟩:=Kerb.findEnt_lt g1
  rw [hj] at i0 i1
  have hgj:(es.map Yq).getD j.toNat Yy=(Kerb.entAt D j).av:=by
   rw [Kerb.getD_ent i1]
   unfold Kerb.entAt
   rw [hDe]
  have hkj:(decide ((0:Int)≤j)&&decide (j<(es.length:Int))&&true)=true:=by simp;omega
  have hEo:(Kerb.entAt D j).ok:=by
   unfold Kerb.entAt
   rw [hDe]
   exact hok _ (Kerb.mem_row (d:=Kerb.noEntry) i1)
  have hj2:(Xk D.entries Kerb.krbtgt D.realm).1=j:=by rw [hDr,hDe];exact hj
  have g12:(Xk D.entries Kerb.krbtgt D.realm).2=0:=by rw [hDr,hDe];exact g1
  obtain ⟨E,hE⟩:∃ E,Kerb.entAt D j=E:=⟨_,rfl⟩
  rw [hE] at hgj hEo
  have hKy:=Kerb.isU64_iff.1 hEo.2.2.1
  have hky:(decide ((0:Int)≤E.key)&&decide (E.key<18446744073709551616))=true:=by simp;omega
  simp (config:={maxSteps:=10000000}) only [hkj,hgj,hky,Yq,↓sInt,↓sU8,↓sBool,↓sStr,↓sBs,↓sSl,↓sAgg,↓sTup,↓sCons,↓sNil,↓sNilB,↓sChk,↓sChkBind,↓sSome,↓sOwnL,↓sConsB,↓sOwnB]
  cases g2:Wk E.key
  ·rw [sel_false,hG [] (by unfold Kerb.homeKeys;rw [if_neg (fun h=>by have h2:=h.2;rw [hj2,hE,g2] at h2;cases h2)])]
   refine loop_rounds (fun i:Nat=>[Zd 4 (cs.map Zg),Zv rl,Zd 9 (es.map Yq),Xd (([]++Ww rl (cs.take i)).map Yz),Zz Zw (i:Int)]) (fun i=>i≤cs.length) (fun i=>cs.length-i) (fun r=>r=(Yj 0,(fun i:Nat=>[Zd 4 (cs.map Zg),Zv rl,Zd 9 (es.map Yq),Xd (([]++Ww rl (cs.take i)).map Yz),Zz Zw (i:Int)]) cs.length)) 0 (Yv _) rfl ?_ ?_
   ·intro i hi
    simp (config:={maxSteps:=10000000}) only [Zh,↓sInt,↓sU8,↓sBool,↓sStr,↓sBs,↓sSl,↓sAgg,↓sTup,↓sCons,↓sNil,↓sNilB,↓sChk,↓sChkBind,↓sSome,↓sOwnL,↓sConsB,↓sOwnB]
    rcases Wb i cs.length with h1 | h1
    case inr =>
     have:i=cs.length:=by omega
     subst this
     rw [sel_neg (by simp)]
     exact ⟨_,rfl,rfl⟩
    rw [sel_pos (by simp;omega)]
    obtain ⟨c,hc⟩:∃ c,cs.getD i Xq=c:=⟨_,rfl⟩
    have hg:(cs.map Zg).getD i Yy=c.av:=by rw [Wp (d:=Xq) h1,hc]
    have hk:(decide ((0:Int)≤(i:Int))&&decide ((i:Int)<(cs.length:Int))&&true)=true:=by simp;omega
    have hs:=Kerb.crossKeys_step (r:=rl) h1 hc
    have hl1:=Kerb.crossKeys_len rl (cs.take i)
    have hl2:(cs.take i).length≤1000000:=by rw [List.length_take];omega
    rw [wrap_i64 (by omega) (by omega)]
    simp (config:={maxSteps:=10000000}) only [hk,hg,Zm,Zg,↓sInt,↓sU8,↓sBool,↓sStr,↓sBs,↓sSl,↓sAgg,↓sTup,↓sCons,↓sNil,↓sNilB,↓sChk,↓sChkBind,↓sSome,↓sOwnL,↓sConsB,↓sOwnB]
    by_cases h2:c.target=rl
    ·rw [if_pos h2] at hs
     rw [sel_pos (by simpa using h2)]
     have hlen:([]:List Kerb.SKey).length≤1:=by first | exact Yv _ | exact Nat.le_refl _
     rw [chk_of (r64 (by simp only [Zh,Vu,Wn,Vw];omega))]
     refine ⟨_,rfl,i+1,?_,by omega,by dsimp only;omega⟩
     dsimp only
     rw [hs,← Wz,List.map_append (l₂:=[Vy rl c])]
     first | rfl | (rw [h2];rfl) | (simp only [List.map_cons,List.map_nil,Vy,Yz,Kerb.tgs,h2])
    ·rw [if_neg h2,List.append_nil] at hs
     rw [sel_neg (by simpa using h2)]
     refine ⟨_,rfl,i+1,?_,by omega,by dsimp only;omega⟩
     dsimp only
     rw [hs]
     rfl
   ·rintro _ rfl
    simp (config:={maxSteps:=10000000}) only [List.take_length,↓sInt,↓sU8,↓sBool,↓sStr,↓sBs,↓sSl,↓sAgg,↓sTup,↓sCons,↓sNil,↓sNilB,↓sChk,↓sChkBind,↓sSome,↓sOwnL,↓sConsB,↓sOwnB]
    rfl
  ·rw [sel_true,hG [Kerb.SKey.mk (Kerb.tgs rl rl) E.kvno E.key] (by unfold Kerb.homeKeys;rw [if_pos ⟨g12,by rw [hj2,hE];exact g2⟩,hj2,hE,hDr])]
   rw [chk_of (r64 (by simp only [Wn,Vw];omega))]
   refine loop_rounds (fun i:Nat=>[Zd 4 (cs.map Zg),Zv rl,Zd 9 (es.map Yq),Xd (([Kerb.SKey.mk (Kerb.tgs rl rl) E.kvno E.key]++Ww rl (cs.take i)).map Yz),Zz Zw (i:Int)]) (fun i=>i≤cs.length) (fun i=>cs.length-i) (fun r=>r=(Yj 0,(fun i:Nat=>[Zd 4 (cs.map Zg),Zv rl,Zd 9 (es.map Yq),Xd (([Kerb.SKey.mk (Kerb.tgs rl rl) E.kvno E.key]++Ww rl (cs.take i)).map Yz),Zz Zw (i:Int)]) cs.length)) 0 (Yv _) rfl ?_ ?_
   ·intro i hi
    simp (config:={maxSteps:=10000000}) only [Zh,↓sInt,↓sU8,↓sBool,↓sStr,↓sBs,↓sSl,↓sAgg,↓sTup,↓sCons,↓sNil,↓sNilB,↓sChk,↓sChkBind,↓sSome,↓sOwnL,↓sConsB,↓sOwnB]
    rcases Wb i cs.length with h1 | h1
    case inr =>
     have:i=cs.length:=by omega
     subst this
     rw [sel_neg (by simp)]
     exact ⟨_,rfl,rfl⟩
    rw [sel_pos (by simp;omega)]
    obtain ⟨c,hc⟩:∃ c,cs.getD i Xq=c:=⟨_,rfl⟩
    have hg:(cs.map Zg).getD i Yy=c.av:=by rw [Wp (d:=Xq) h1,hc]
    have hk:(decide ((0:Int)≤(i:Int))&&decide ((i:Int)<(cs.length:Int))&&true)=true:=by simp;omega
    have hs:=Kerb.crossKeys_step (r:=rl) h1 hc
    have hl1:=Kerb.crossKeys_len rl (cs.take i)
    have hl2:(cs.take i).length≤1000000:=by rw [List.length_take];omega
    rw [wrap_i64 (by omega) (by omega)]
    simp (config:={maxSteps:=10000000}) only [hk,hg,Zm,Zg,↓sInt,↓sU8,↓sBool,↓sStr,↓sBs,↓sSl,↓sAgg,↓sTup,↓sCons,↓sNil,↓sNilB,↓sChk,↓sChkBind,↓sSome,↓sOwnL,↓sConsB,↓sOwnB]
    by_cases h2:c.target=rl
    ·rw [if_pos h2] at hs
     rw [sel_pos (by simpa using h2)]
     have hlen:([Kerb.SKey.mk (Kerb.tgs rl rl) E.kvno E.key]:List Kerb.SKey).length≤1:=by first | exact Yv _ | exact Nat.le_refl _
     rw [chk_of (r64 (by simp only [Zh,Vu,Wn,Vw];omega))]
     refine ⟨_,rfl,i+1,?_,by omega,by dsimp only;omega⟩
     dsimp only
     rw [hs,← Wz,List.map_append (l₂:=[Vy rl c])]
     first | rfl | (rw [h2];rfl) | (simp only [List.map_cons,List.map_nil,Vy,Yz,Kerb.tgs,h2])
    ·rw [if_neg h2,List.append_nil] at hs
     rw [sel_neg (by simpa using h2)]
     refine ⟨_,rfl,i+1,?_,by omega,by dsimp only;omega⟩
     dsimp only
     rw [hs]
     rfl
   ·rintro _ rfl
    simp (config:={maxSteps:=10000000}) only [List.take_length,↓sInt,↓sU8,↓sBool,↓sStr,↓sBs,↓sSl,↓sAgg,↓sTup,↓sCons,↓sNil,↓sNilB,↓sChk,↓sChkBind,↓sSome,↓sOwnL,↓sConsB,↓sOwnB]
    rfl
 ·cases h
theorem w12:Walked Tryz.prog G 12 3 sp12:=by
 refine ⟨Tryz.f12,Tryz.func12,by decide +kernel,rfl,fun xs bl r h=> ?_⟩
 unfold sp12 at h
 split at h
 ·rename_i n m
  obtain ⟨hpre,h2⟩:=chk_inv h;cases h2
  refine Eq.trans (b:=(Zj (chk (decide (0≤m)) (some (Zv (Vq m),[]))) fun (r:AV×Blocks)=>onNilB (Zn r) (Wu (Yp r) fun b=>Zj (chk (decide (0≤n)) (some (Zv (Vq n),[]))) fun (r:AV×Blocks)=>onNilB (Zn r) (Wu (Yp r) fun b_1=>some (Wq [Zv [(107:UInt8),(114:UInt8),(98:UInt8),(116:UInt8),(103:UInt8),(116:UInt8)],Zv b,Zv b_1],[]))):Option (AV×Blocks))) (by kernel_rfl) ?_
  simp only [Zf,decide_eq_true_eq] at hpre
  obtain ⟨h0,h1⟩:=hpre
  simp only [h0,h1,decide_true,↓A0,A0]
  rfl
 ·cases h
theorem w14:Walked Tryz.prog G 14 3 sp14:=by
 refine ⟨Tryz.f14,Tryz.func14,by decide +kernel,rfl,fun xs bl r h=> ?_⟩
 unfold sp14 at h
 split at h
 ·rename_i n
  obtain ⟨hpre,h2⟩:=chk_inv h;cases h2
  refine Eq.trans (b:=(chk (decide (0≤Yu n 3)&&decide (Yu n 3<(↑(Zx [Wq [Zv [(109:UInt8),(97:UInt8),(105:UInt8),(108:UInt8)],Zv [],Zv []],Wq [Zv [(110:UInt8),(102:UInt8),(115:UInt8)],Zv [(104:UInt8),(111:UInt8),(109:UInt8),(101:UInt8)],Zv []],Wq [Zv [(107:UInt8),(114:UInt8),(98:UInt8),(116:UInt8),(103:UInt8),(116:UInt8)],Zv [(65:UInt8),(84:UInt8),(72:UInt8)],Zv []]]):Int))&&true) (Yh (Zb [Wq [Zv [(109:UInt8),(97:UInt8),(105:UInt8),(108:UInt8)],Zv [],Zv []],Wq [Zv [(110:UInt8),(102:UInt8),(115:UInt8)],Zv [(104:UInt8),(111:UInt8),(109:UInt8),(101:UInt8)],Zv []],Wq [Zv [(107:UInt8),(114:UInt8),(98:UInt8),(116:UInt8),(103:UInt8),(116:UInt8)],Zv [(65:UInt8),(84:UInt8),(72:UInt8)],Zv []]] (Zq (Yu n 3)) Yy) fun cs=>onCons cs fun x r=>Wu x fun b=>onCons r fun x r=>Wu x fun b_1=>onCons r fun x r=>Wu x fun b_2=>onNil r (Zj (chk (decide (0≤Zy .i64 (Xm n 3))) (some (Zv (Vq (Zy .i64 (Xm n 3))),[]))) fun (r:AV×Blocks)=>onNilB (Zn r) (Wu (Yp r) fun b_3=>some (Wq [Zv b,Zv b_1,Zv b_3],[])))):Option (AV×Blocks))) (by kernel_rfl) ?_
  have hn:0≤n:=by first | exact of_decide_eq_true hpre | (simp only [Zf,decide_eq_true_eq] at hpre;exact hpre.1)
  have ht:Yu n 3=n % 3:=Xw hn
  have hcase:n % 3=0∨n % 3=1∨n % 3=2:=by omega
  simp only [Zf,decide_eq_true_eq] at hpre
  have hd:Xm n 3=n / 3:=Xg hn
  rw [hd,wrap_i64 (by omega) (by omega)]
  have hq:decide ((0:Int)≤n / 3)=true:=by simp;omega
  rcases hcase with e | e | e<;>simp [ht,e,chk,Wu,Yh,onCons,onNil,Kerb.service,hq,onNilB]<;>omega
 ·cases h
theorem w18:Walked Tryz.prog G 18 3 sp18:=by
 refine ⟨Tryz.f18,Tryz.func18,by decide +kernel,rfl,fun xs bl r h=> ?_⟩
 unfold sp18 at h
 split at h
 ·rename_i l
  obtain ⟨hpre,h2⟩:=chk_inv h;cases h2
  refine Eq.trans (b:=(Zj (loopM (fun (st:List AV)=>cBs st fun b r=>cInt .i64 r fun n r=>onCons r fun x r=>Vj x fun b_1=>let t0:Option (List AV ⊕ Ex×List AV):=some (Yg (Yj 0,[Yd b,Zz .i64 n,Xd b_1]));onNil r (sel (decide (n<(↑(Zx b):Int))) (sel (decide ((↑(Zx b_1):Int)<25)) (Zj (chk (decide (Zx b≤4611686018427387904)&&decide (0≤n)) (some (Zz .i64 (Wm b n 3),[[Yd b,Zz .i64 (Wf b n 3)]]))) fun (r:AV×Blocks)=>onConsB (Zn r) fun (x:List AV) (r_1:List (List AV))=>cBs x fun b r_2=>cInt .i64 r_2 fun n r_3=>onNil r_3 (onNilB r_1 (Xu .i64 (Yp r) fun n_1=>Zj (chk (decide (0≤n_1)) (some (Zv (Vq n_1),[]))) (kS fun b_2=>Zj (chk (decide (Zx b≤4611686018427387904)&&decide (0≤n)) (some (Zz .i64 (Wm b n 3),[[Yd b,Zz .i64 (Wf b n 3)]]))) fun (r:AV×Blocks)=>onConsB (Zn r) fun (x:List AV) (r_4:List (List AV))=>cBs x fun b r_5=>cInt .i64 r_5 fun n r_6=>onNil r_6 (onNilB r_4 (Xu .i64 (Yp r) fun n_2=>Zj (chk (decide (0≤n_2)) (some (Zv (Vq n_2),[]))) (kS fun b_3=>Zj (chk (decide (Zx b≤4611686018427387904)&&decide (0≤n)) (some (Zz .i64 (Wm b n 4),[[Yd b,Zz .i64 (Wf b n 4)]]))) fun (r:AV×Blocks)=>onConsB (Zn r) fun (x:List AV) (r_7:List (List AV))=>cBs x fun b r_8=>cInt .i64 r_8 fun n r_9=>onNil r_9 (onNilB r_7 (Xu .i64 (Yp r) fun n_3=>Zj (chk (decide (Zx b≤4611686018427387904)&&decide (0≤n)) (some (Zz .i64 (Wm b n 9),[[Yd b,Zz .i64 (Wf b n 9)]]))) fun (r:AV×Blocks)=>onConsB (Zn r) fun (x:List AV) (r_10:List (List AV))=>cBs x fun b r_11=>cInt .i64 r_11 fun n r_12=>onNil r_12 (onNilB r_10 (Xu .i64 (Yp r) fun n_4=>Zj (chk (decide (0≤Zy .i64 (100+n_4))&&decide (Zy .i64 (100+n_4)≤1000)) (some (Zz .u64 (Kerb.long (Zy .i64 (100+n_4))),[]))) (kI .u64 fun n_5=>let t1:List AV:=[Wq [Zv b_2,Zv b_3,Zz .i64 n_3,Zz .u64 n_5]];chk (room (Zx b_1+Zx t1) (nat_lit 48)) (some (Yf [Yd b,Zz .i64 n,Xd (b_1++t1)])))))))))))))) t0) t0)) [Yd l,Zz .i64 0,Xd []]) fun (r:Ex×List AV)=>cBs (Zn r) fun b r_1=>cInt .i64 r_1 fun n r_2=>onCons r_2 fun x r_3=>Vj x fun b=>onNil r_3 (exK r.1 none fun (j:Nat)=>sel (Xb j 0) (some (Zd 4 b,[])) none):Option (AV×Blocks))) (by kernel_rfl) ?_
  delta kS kI
  try dsimp only [cStr,cBs,cBool,cU8,cInt,cSl,l63]
  have hl:=of_decide_eq_true hpre
  have c:decide (l.length≤4611686018427387904)=true:=by simp;omega
  have r48:∀ {m:Nat},m≤1000→Go.Abs.room m 48=true:=fun h=>by simp [Go.Abs.room];omega
  refine loop_rounds (fun q:Nat×Int×List Kerb.Cross=>[Yd l,Zz Zw q.2.1,Xd (q.2.2.map Zg)]) (fun q=>(l.length:Int)<q.1+q.2.1∧0≤q.2.1∧q.2.2.length≤25∧Kerb.crossLoop l q.1 q.2.1 q.2.2=Kerb.dataCross l) (fun q=>q.1)
   (fun r=>∃ p:Int,r=(Yj 0,[Yd l,Zz Zw p,Xd ((Kerb.dataCross l).map Zg)])) (l.length+1,0,[]) ⟨by dsimp only;omega,by simp,by simp,rfl⟩ rfl ?_ ?_
  ·rintro ⟨f,p,acc⟩ ⟨hf,hp,ha,he⟩
   dsimp only at hf hp ha he
   simp (config:={maxSteps:=10000000}) only [Zh,↓sInt,↓sU8,↓sBool,↓sStr,↓sBs,↓sSl,↓sAgg,↓sTup,↓sCons,↓sNil,↓sNilB,↓sChk,↓sChkBind,↓sSome,↓sOwnL,↓sConsB,↓sOwnB]
   have h0:∀ n,Wf l p n=Wf l p n:=fun _=>rfl
   have cp:decide ((0:Int)≤p)=true:=by simpa using hp
   by_cases h1:p<l.length
   case neg =>
    rw [sel_neg (by simpa using h1)]
    have hk:acc=Kerb.dataCross l:=by
     cases f with
     | zero=>exact he
     | succ g=>rw [← he];unfold Kerb.crossLoop;rw [if_neg (by omega)]
    exact ⟨_,rfl,p,by rw [← hk]⟩
   rw [sel_pos (by simpa using h1)]
   by_cases h2:acc.length<25
   case neg =>
    rw [sel_neg (by simp;omega)]
    have hk:acc=Kerb.dataCross l:=by
     cases f with
     | zero=>exact he
     | succ g=>rw [← he];unfold Kerb.crossLoop;rw [if_neg (by omega)]
    exact ⟨_,rfl,p,by rw [← hk]⟩
   rw [sel_pos (by simp;omega)]
   have hw:∀ q,Zy .i64 (100+Wm l q 9)=100+Wm l q 9:=fun q=>by have:=Kerb.next_bd l q 9;exact wrap_i64 (by omega) (by omega)
   have hw2:∀ q,decide ((0:Int)≤100+Wm l q 9)=true:=fun q=>by have:=Kerb.next_bd l q 9;simp;omega
   have hw3:∀ q,decide (100+Wm l q 9≤1000)=true:=fun q=>by have:=Kerb.next_bd l q 9;simp;omega
   obtain ⟨g,rfl⟩:∃ g,f=g+1:=⟨f-1,by omega⟩
   unfold Kerb.crossLoop at he
   rw [if_pos ⟨h1,h2⟩] at he
   have hg:=Kerb.cr4_gt hp h1
   simp (config:={maxSteps:=10000000}) only [c,cp,Kerb.next_dec,Kerb.next_dec62,Kerb.next_dec1000,Kerb.nextPos_dec,Kerb.realm_lenB,hw,hw2,hw3,Bool.and_self,Wn,Vw,↓sInt,↓sU8,↓sBool,↓sStr,↓sBs,↓sSl,↓sAgg,↓sTup,↓sCons,↓sNil,↓sNilB,↓sChk,↓sChkBind,↓sSome,↓sOwnL,↓sConsB,↓sOwnB]
   rw [chk_of (r48 (by omega))]
   refine ⟨_,rfl,(g,Kerb.cr4 l p,acc++[Kerb.dataCr l p]),?_,⟨by dsimp only;push_cast at hf;omega,by dsimp only;omega,by dsimp only;simp;omega,he⟩,by simp⟩
   dsimp only
   rw [List.map_append]
   rfl
  ·rintro _ ⟨p,rfl⟩
   simp only [↓A0,A0]
   rw [sel_pos (Yn _)]
 ·cases h
theorem w22:Walked Tryz.prog G 22 3 sp22:=by
 refine ⟨Tryz.f22,Tryz.func22,by decide +kernel,rfl,fun xs bl r h=> ?_⟩
 unfold sp22 at h
 split at h
 ·rename_i n
  obtain ⟨hpre,h2⟩:=chk_inv h;cases h2
  refine Eq.trans (b:=(chk (decide (0≤Yu n 3)&&decide (Yu n 3<(↑(Zx [Zv [(97:UInt8),(110:UInt8),(110:UInt8)],Zv [(98:UInt8),(111:UInt8),(98:UInt8)],Zv [(99:UInt8),(97:UInt8),(116:UInt8)]]):Int))&&true) (Wu (Zb [Zv [(97:UInt8),(110:UInt8),(110:UInt8)],Zv [(98:UInt8),(111:UInt8),(98:UInt8)],Zv [(99:UInt8),(97:UInt8),(116:UInt8)]] (Zq (Yu n 3)) Yy) fun b=>Zj (chk (decide (0≤Zy .i64 (Xm n 3))) (some (Zv (Vq (Zy .i64 (Xm n 3))),[]))) fun (r:AV×Blocks)=>onNilB (Zn r) (Wu (Yp r) fun b_1=>some (Wq [Zv b,Zv [],Zv b_1],[]))):Option (AV×Blocks))) (by kernel_rfl) ?_
  have hn:0≤n:=by first | exact of_decide_eq_true hpre | (simp only [Zf,decide_eq_true_eq] at hpre;exact hpre.1)
  have ht:Yu n 3=n % 3:=Xw hn
  have hcase:n % 3=0∨n % 3=1∨n % 3=2:=by omega
  simp only [Zf,decide_eq_true_eq] at hpre
  have hd:Xm n 3=n / 3:=Xg hn
  rw [hd,wrap_i64 (by omega) (by omega)]
  have hq:decide ((0:Int)≤n / 3)=true:=by simp;omega
  rcases hcase with e | e | e<;>simp [ht,e,chk,Wu,Kerb.user,hq,onNilB]<;>omega
 ·cases h
theorem w25:Walked Tryz.prog G 25 3 sp25:=by
 refine ⟨Tryz.f25,Tryz.func25,by decide +kernel,rfl,fun xs bl r h=> ?_⟩
 unfold sp25 at h
 split at h
 ·rename_i k
  obtain ⟨hpre,h2⟩:=chk_inv h;cases h2
  refine Eq.trans (b:=(Zj (chk (decide (0≤k)&&decide (k<18446744073709551616)) (some (Ym [Zz .i64 (bif Wk k then Kerb.keyClass k else 0),Zz .i64 (bif Wk k then Kerb.keySerial k else 0),Zu (Wk k)],[]))) fun (r:AV×Blocks)=>onNilB (Zn r) (AV.onTup (Yp r) fun vs=>onCons vs fun x r=>Xu .i64 x fun n=>onCons r fun x r=>Xu .i64 x fun n=>onCons r fun x r=>Vk x fun b=>onNil r (some (Zu b,[]))):Option (AV×Blocks))) (by kernel_rfl) ?_
  simp only [A0]
  rw [chk_of hpre]
 ·cases h
theorem w46:Walked Tryz.prog G 46 3 sp46:=by
 refine ⟨Tryz.f46,Tryz.func46,by decide +kernel,rfl,fun xs bl r h=> ?_⟩
 unfold sp46 at h
 split at h
 ·rename_i li mu kv rl tk au
  obtain ⟨hpre,h2⟩:=chk_inv h;cases h2
  refine Eq.trans (b:=(Zj (chk (l63 rl) (some (Zu (Kerb.validRealm rl),[]))) (kL fun b=>sel (!b) (some (Ym [Yd [],Zz .i64 103],[])) (sel (!Yx kv 255) (some (Ym [Yd [],Zz .i64 104],[])) (sel (decide ((↑(Zx tk):Int)>255)) (some (Ym [Yd [],Zz .i64 105],[])) (sel (decide ((↑(Zx au):Int)>255)) (some (Ym [Yd [],Zz .i64 105],[])) (sel mu (Zj (chk (decide (Zx (Wd 4 li)≤70368744177664)) (some (Yw (Wd 4 li++Xh kv 1 false),[]))) (kO fun l=>Zj (chk (decide (Zx l+Zx rl≤70368744177664)) (some (Yd (Wv l rl),[]))) (kB fun b=>Zj (chk (decide (Zx b≤70368744177664)) (some (Yw (b++Xh (↑(Zx tk):Int) 1 false),[]))) (kO fun l=>Zj (chk (decide (Zx l≤70368744177664)) (some (Yw (l++Xh (↑(Zx au):Int) 1 false),[]))) (kO fun l=>chk (room (Zx l+Zx tk) 1) (chk (room (Zx (l++tk)+Zx au) 1) (some (Ym [Yd (l++tk++au),Zz .i64 0],[])))))))) (Zj (chk (decide (Zx (Wd 3 li)≤70368744177664)) (some (Yw (Wd 3 li++Xh kv 1 false),[]))) (kO fun l=>Zj (chk (decide (Zx l+Zx rl≤70368744177664)) (some (Yd (Wv l rl),[]))) (kB fun b=>Zj (chk (decide (Zx b≤70368744177664)) (some (Yw (b++Xh (↑(Zx tk):Int) 1 false),[]))) (kO fun l=>Zj (chk (decide (Zx l≤70368744177664)) (some (Yw (l++Xh (↑(Zx au):Int) 1 false),[]))) (kO fun l=>chk (room (Zx l+Zx tk) 1) (chk (room (Zx (l++tk)+Zx au) 1) (some (Ym [Yd (l++tk++au),Zz .i64 0],[]))))))))))))):Option (AV×Blocks))) (by kernel_rfl) ?_
  delta kB kO kL
  try dsimp only [cStr,cBs,cBool,cU8,cInt,cSl,l63]
  simp only [A0,Kerb.Client.av,Kerb.Cache.av,Kerb.Cred.av,hpre]
  unfold Kerb.encodeAp
  simp only
  cases h1:Kerb.validRealm rl
  ·rfl
  rw [Vp,sel_false,if_neg (by simp)]
  cases h2:Yx kv 255
  ·rfl
  rw [Vp,sel_false,if_neg (by simp)]
  by_cases h3:255<tk.length
  ·rw [sel_pos (by simp;omega),if_pos (.inl h3)]
  rw [sel_neg (by simp;omega)]
  by_cases h4:255<au.length
  ·rw [sel_pos (by simp;omega),if_pos (.inr h4)]
  rw [sel_neg (by simp;omega),if_neg (by omega)]
  have l1:=Kerb.validRealm_len h1
  have g3:=Kerb.header_len 3 li
  have g4:=Kerb.header_len 4 li
  cases mu
  ·rw [sel_false,chk_of (by simp;omega),chk_of (by simp [Yb];omega),chk_of (by simp [Yb,Xp];omega),chk_of (by simp [Yb,Xp];omega),chk_of (Yk (by simp [Yb,Xp];omega)),chk_of (Yk (by simp [Yb,Xp];omega))]
   rfl
  ·rw [sel_true,chk_of (by simp;omega),chk_of (by simp [Yb];omega),chk_of (by simp [Yb,Xp];omega),chk_of (by simp [Yb,Xp];omega),chk_of (Yk (by simp [Yb,Xp];omega)),chk_of (Yk (by simp [Yb,Xp];omega))]
   rfl
 ·cases h
theorem w53:Walked Tryz.prog G 53 3 sp53:=by
 refine ⟨Tryz.f53,Tryz.func53,by decide +kernel,rfl,fun xs bl r h=> ?_⟩
 unfold sp53 at h
 split at h
 ·rename_i b els
  obtain ⟨hpre,h2⟩:=chk_inv h;cases h2
  refine Eq.trans (b:=(sel (!Kerb.Head.err (Wj b)==0) (some (Ym [Zu false,Zz .i64 (Kerb.Head.err (Wj b))],[])) (Zj (chk (allInts els&&decide (Zx els≤1000)) (some (Zu (List.contains (intsIn els) (Kerb.Head.kind (Wj b))),[]))) fun (r:AV×Blocks)=>onNilB (Zn r) (Vk (Yp r) fun b_1=>sel (!b_1) (some (Ym [Zu false,Zz .i64 40],[])) (some (Ym [Zu (Kerb.Head.little (Wj b)),Zz .i64 0],[])))):Option (AV×Blocks))) (by kernel_rfl) ?_
  simp only [A0]
  unfold Kerb.headIs
  by_cases h:(Wj b).err=0
  ·rw [sel_neg (by simp [h]),chk_of hpre]
   cases hc:(intsIn els).contains (Wj b).kind<;>simp [sel,h,hc]
  ·rw [sel_pos (by simpa using h)]
   simp [h]
 ·cases h
theorem w55:Walked Tryz.prog G 55 3 sp55:=by
 refine ⟨Tryz.f55,Tryz.func55,by decide +kernel,rfl,fun xs bl r h=> ?_⟩
 unfold sp55 at h
 split at h
 ·rename_i b pos little
  obtain ⟨hpre,h2⟩:=chk_inv h;cases h2
  refine Eq.trans (b:=(Zj (chk (decide (Zx b≤4611686018427387904)&&true&&true) (some (Ym [Zz .i64 (Kerb.Got.val (Kerb.get b pos 4 little)),Zz .i64 (Kerb.Got.next (Kerb.get b pos 4 little)),Zz .i64 (Kerb.Got.err (Kerb.get b pos 4 little))],[]))) fun (r:AV×Blocks)=>onNilB (Zn r) (AV.onTup (Yp r) fun vs=>onCons vs fun x r=>Xu .i64 x fun n=>onCons r fun x r=>Xu .i64 x fun n_1=>onCons r fun x r=>Xu .i64 x fun n_2=>onNil r (some (Ym [Zz .i64 n,Zz .i64 n_1,Zz .i64 n_2],[]))):Option (AV×Blocks))) (by kernel_rfl) ?_
  simp only [A0]
  rw [chk_of (by rw [hpre];rfl)]
 ·cases h
end Go.Proofs.YtljhmpcfjfcgiaaGreatDoor
