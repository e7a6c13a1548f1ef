/- What the functions of this seat compute. -/
import Derived.Test.YtlhambpafcdkbaaGreatDoorTab
import Derived.Test.YtlhambpafcdkbaaGreatDoorKerbPlain
import Derived.Test.YtlhambpafcdkbaaGreatDoorAbsStep
import Derived.Test.YtlhambpafcdkbaaGreatDoorKerbCli3
import Derived.Test.YtlhambpafcdkbaaGreatDoorKerbCli4
import Derived.Test.YtlhambpafcdkbaaGreatDoorKerbCli5
import Derived.Test.YtlhambpafcdkbaaGreatDoorKerbSrvL
import Derived.Test.YtlhambpafcdkbaaGreatDoorKerbKac2
import Derived.Test.YtlhambpafcdkbaaGreatDoorKerbKac4
import Derived.Test.YtlhambpafcdkbaaGreatDoorKerbSrvB
import Derived.Test.YtlhambpafcdkbaaGreatDoorKerbVerL
import Derived.Test.YtlhambpafcdkbaaGreatDoorKerbVerL
import Derived.Test.YtlhambpafcdkbaaGreatDoorKerbAuthL
open Go.Abs.AV renaming int→Zz,bool→Zu,str→Zq,tup→Zg,ownB→Zh,onInt→Yx,bs→Yv,sl→Yu,onOwnB→Yg,onStr→Xf,undef→Xh,onBool→Ww,onTup→Wm
open Go.IntKind renaming wrap→Zy,i64→Zw,bits→Zk,u64→Yd
open List renaming length→Zx,take_of_length_le→Zn,getD→Yz,append→Wz,take→Wx,replicate→Wv,drop→Wq,drop_eq_nil_of_le→Wk
open Int renaming toNat→Zv,tmod→Zb,toNat_natCast→Yy,tdiv_eq_ediv_of_nonneg→Yp,tmod_eq_emod_of_nonneg→Xy,tdiv→Xu
open Option renaming bind→Zj
open Kerb.Entry renaming named→Zp,av→Wu
open Prod renaming snd→Zd,fst→Yw
open Bool renaming and_eq_true→Zf
open Kerb renaming indexOf→Zm,readHead→Yk,room_ok→Xz,text→Xx,room→Xw,within→Xq,keyValid→Xj,printable→Xk,least→Xp,get→Xd,bfd→Xb,imin→Xm,isKind→Wy,putText→Wp,crossAt→Wd,putN→Wg,bytes→Wb,isSerial→Wn,noCross→Wh,isClass→Vz,findEnt→Vy
open UInt8 renaming toNat→Yq,ofNat→Yj
open Go.Abs.Ex renaming exit→Yf
open Nat renaming beq_refl→Yb,zero_le→Xv,beq→Xn
open Kerb.Cross renaming av→Yn
open Sum renaming inr→Ym,inl→Yh
open Kerb.GotB renaming err→Xg,next→Wj,val→Wf
open Kerb.Got renaming next→Vx,val→Vw,err→Vv
namespace Go.Proofs.YtlhambpafcdkbaaGreatDoor
open Go Go.Abs Go.Proofs
set_option linter.unusedVariables false
set_option linter.unusedSimpArgs false
set_option maxRecDepth 100000
theorem w6:Walked Tryz.prog G 6 1 sp6:=by
 refine ⟨Tryz.f6,Tryz.func6,by decide +kernel,rfl,fun xs bl r h=> ?_⟩
 unfold sp6 at h
 split at h
 ·rename_i n
  obtain ⟨hpre,h2⟩:=chk_inv h;cases h2
  refine Eq.trans (b:=(some (Zz .u64 (Zy .u64 (↑(BitVec.toNat (BitVec.ofInt (Zk .u64) 144115188075855872 ||| BitVec.ofInt (Zk .u64) (Zy .u64 (Zy .i64 (1+n))))):Int)),[]):Option (AV×Blocks))) (by kernel_rfl) ?_
  rfl
 ·cases h
theorem w11:Walked Tryz.prog G 11 1 sp11:=by
 refine ⟨Tryz.f11,Tryz.func11,by decide +kernel,rfl,fun xs bl r h=> ?_⟩
 unfold sp11 at h
 split at h
 ·rename_i rl els n i
  obtain ⟨hpre,h2⟩:=chk_inv h;cases h2
  refine Eq.trans (b:=(Zj (loopM (fun (st:List AV)=>cStr st fun b r=>cStr r fun b_1 r=>cStr r fun b_2 r=>cSl 9 r fun b_3 r=>cInt .i64 r fun n r=>cInt .i64 r fun n_1 r=>cInt .i64 r fun n_2 r=>let t0:Option (List AV ⊕ Ex×List AV):=some (Yh [Zq b,Zq b_1,Zq b_2,Yu 9 b_3,Zz .i64 n,Zz .i64 n_1,Zz .i64 (Zy .i64 (n_2+1))]);onNil r (sel (decide (n_2<(↑(Zx b_3):Int))) (chk (decide (0≤n_2)&&decide (n_2<(↑(Zx b_3):Int))&&true) (AV.onAgg (Yz b_3 (Zv n_2) Xh) fun cs=>cStr cs fun b_4 r=>cStr r fun b_5 r=>cInt .u64 r fun n r=>cInt .i64 r fun n r=>cInt .i64 r fun n r=>cInt .i64 r fun n r=>cInt .i64 r fun n r=>cInt .i64 r fun n r=>cInt .i64 r fun n r=>onNil r (sel (b_4==b) (chk (decide (0≤n_2)&&decide (n_2<(↑(Zx b_3):Int))&&true) (AV.onAgg (Yz b_3 (Zv n_2) Xh) fun cs=>cStr cs fun b_6 r=>cStr r fun b_7 r=>cInt .u64 r fun n r=>cInt .i64 r fun n r=>cInt .i64 r fun n r=>cInt .i64 r fun n r=>cInt .i64 r fun n r=>cInt .i64 r fun n r=>cInt .i64 r fun n r=>onNil r (sel (b_7==b_1) (some (Yh [Zq b,Zq b_1,Zq b_2,Yu 9 b_3,Zz .i64 n_2,Zz .i64 (Zy .i64 (n_1+1)),Zz .i64 (Zy .i64 (n_2+1))])) t0))) t0))) (some (Ym (Yf 0,[Zq b,Zq b_1,Zq b_2,Yu 9 b_3,Zz .i64 n,Zz .i64 n_1,Zz .i64 n_2]))))) [Zq n,Zq i,Zq rl,Yu 9 els,Zz .i64 0,Zz .i64 0,Zz .i64 0]) fun (r:Ex×List AV)=>cStr (Zd r) fun b r_1=>cStr r_1 fun b r_2=>cStr r_2 fun b r_3=>cSl 9 r_3 fun b r_4=>cInt .i64 r_4 fun n r_5=>cInt .i64 r_5 fun n_1 r_6=>cInt .i64 r_6 fun n_2 r_7=>onNil r_7 (exK r.1 none fun (j:Nat)=>sel (Xn j 0) (sel (n_1==0) (some (Zg [Zz .i64 0,Zz .i64 8],[])) (sel (decide (n_1>1)) (some (Zg [Zz .i64 0,Zz .i64 9],[])) (some (Zg [Zz .i64 n,Zz .i64 0],[])))) none):Option (AV×Blocks))) (by kernel_rfl) ?_
  try dsimp only [cStr,cBs,cBool,cU8,cInt,cSl,l63]
  simp only [Zf,decide_eq_true_eq] at hpre
  obtain ⟨hall,hlen⟩:=hpre
  obtain ⟨es,rfl,hok⟩:=Kerb.ents_of hall
  rw [Kerb.map_toEntry]
  simp only [List.length_map] at hlen
  refine loop_rounds (fun q:Nat×Int=>[Zq n,Zq i,Zq rl,Yu 9 (es.map Wu),Zz Zw q.2,Zz Zw ((es.take q.1).countP (Zp n i):Int),Zz Zw (q.1:Int)])
   (fun q=>q.1≤es.length∧((es.take q.1).countP (Zp n i)=1→q.2=(es.findIdx (Zp n i):Int))) (fun q=>es.length-q.1)
   (fun r=>∃ c:Int,r=(.exit 0,[Zq n,Zq i,Zq rl,Yu 9 (es.map Wu),Zz Zw c,Zz Zw (es.countP (Zp n i):Int),Zz Zw (es.length:Int)])∧(es.countP (Zp n i)=1→c=(es.findIdx (Zp n i):Int))) (0,0) ⟨Xv _,fun h=>by simp at h⟩ rfl ?_ ?_
  ·rintro ⟨j,c⟩ ⟨hj,hinv⟩
   simp only at hj hinv
   simp only [↓A0,A0,List.length_map]
   rcases Nat.lt_or_ge j es.length with h | h
   ·have hc:=Kerb.count_take (p:=Zp n i) h
    have hle:=Kerb.count_le (p:=Zp n i) (es:=es) (j+1)
    have hcl:=List.countP_le_length (p:=Zp n i) (l:=es)
    have hx:=Kerb.find_first (p:=Zp n i) h
    have hg:(List.map Wu es).getD j Xh=(es.getD j Kerb.noEntry).av:=Kerb.getD_ent h
    rw [sel_pos (by simp;omega),chk_of (by simp;omega),Yy,hg]
    generalize es.getD j Kerb.noEntry=e at hc hx
    simp only [Wu,↓A0,A0]
    rw [wrap_i64 (n:=(j:Int)+1) (by omega) (by omega),wrap_i64 (by omega) (by omega),chk_of (by simp;omega)]
    by_cases h1:e.name=n
    ·by_cases h2:e.inst=i
     ·have hp:Zp n i e=true:=by simp [Zp,h1,h2]
      rw [hp,cond_true] at hc
      rw [sel_pos (by simp [h1]),sel_pos (by simp [h2])]
      refine ⟨_,rfl,(j+1,(j:Int)),by simp [hc],⟨by simp only;omega,fun h0=> ?_⟩,by simp only;omega⟩
      simp only at h0 ⊢
      rw [hx (by omega) hp]
     ·have hp:Zp n i e=false:=by simp [Zp,h2]
      rw [hp,cond_false] at hc
      rw [sel_pos (by simp [h1]),sel_neg (by simpa using h2)]
      exact ⟨_,rfl,(j+1,c),by simp [hc],⟨by simp only;omega,by simp only;rw [hc];simpa using hinv⟩,by simp only;omega⟩
    ·have hp:Zp n i e=false:=by simp [Zp,h1]
     rw [hp,cond_false] at hc
     rw [sel_neg (by simpa using h1)]
     exact ⟨_,rfl,(j+1,c),by simp [hc],⟨by simp only;omega,by simp only;rw [hc];simpa using hinv⟩,by simp only;omega⟩
   ·rw [sel_neg (by simp;omega)]
    have hj2:j=es.length:=by omega
    subst hj2
    rw [Zn h] at hinv ⊢
    exact ⟨_,rfl,c,rfl,hinv⟩
  ·rintro _ ⟨c,rfl,h⟩
   simp only [↓A0,A0]
   unfold Vy
   rw [sel_pos (Yb _)]
   generalize es.countP (Zp n i)=q at h ⊢
   by_cases h0:q=0
   ·rw [sel_pos (by simp [h0]),if_pos h0]
   by_cases h1:1<q
   ·rw [sel_neg (by simp;omega),sel_pos (by simp;omega),if_neg h0,if_pos h1]
   ·rw [sel_neg (by simp;omega),sel_neg (by simp;omega),if_neg h0,if_neg h1,h (by omega)]
 ·cases h
theorem w19:Walked Tryz.prog G 19 1 sp19:=by
 refine ⟨Tryz.f19,Tryz.func19,by decide +kernel,rfl,fun xs bl r h=> ?_⟩
 unfold sp19 at h
 split at h
 ·rename_i n
  obtain ⟨hpre,h2⟩:=chk_inv h;cases h2
  refine Eq.trans (b:=(some (Zz .u64 (Zy .u64 (↑(BitVec.toNat (BitVec.ofInt (Zk .u64) 72057594037927936 ||| BitVec.ofInt (Zk .u64) (Zy .u64 (Zy .i64 (1+n))))):Int)),[]):Option (AV×Blocks))) (by kernel_rfl) ?_
  rfl
 ·cases h
theorem w31:Walked Tryz.prog G 31 1 sp31:=by
 refine ⟨Tryz.f31,Tryz.func31,by decide +kernel,rfl,fun xs bl r h=> ?_⟩
 unfold sp31 at h
 split at h
 ·rename_i b how
  obtain ⟨hpre,h2⟩:=chk_inv h;cases h2
  refine Eq.trans (b:=(let t0:Int:=Zb (Zy .i64 (Zy .u16 (Xu how 8))) (↑(Zx b):Int);chk (room (Zx b) 1) (sel ((↑(Zx b):Int)==0) (some (Yv b,[])) (chk (!(↑(Zx b):Int)==0) (sel (Zb how 4==0) (chk (decide (0≤t0)&&decide (t0<(↑(Zx b):Int))) (chk (Nat.blt (Zv t0) (Zx b)&&true&&true&&true) (chk (decide (0≤Zy .u64 (Zb how 7))) (chk (decide (0≤t0)&&decide (t0<(↑(Zx b):Int))) (chk (Nat.blt (Zv t0) (Zx b)&&true&&true&&true&&true) (some (Yv (List.set b (Zv t0) (Yj (Zv (Zy .u8 (↑(BitVec.toNat (BitVec.ofInt (Zk .u8) (↑(Yq (Yz b (Zv t0) (0:UInt8))):Int) ^^^ BitVec.ofInt (Zk .u8) (↑(Yq (Yj (Zv (Zy .u8 ((↑(Yq (1:UInt8)):Int)*2 ^ min (Zv (Zy .u64 (Zb how 7))) 8))))):Int))):Int))))),[]))))))) (sel (Zb how 4==1) (chk (decide (0≤t0)&&decide (t0≤(↑(Zx b):Int))&&Nat.blt 0 (Zx b)&&true) (chk (decide (0≤Zy .i64 (t0+1))&&decide (Zy .i64 (t0+1)≤(↑(Zx b):Int))&&Nat.blt 0 (Zx b)&&true) (chk (Nat.blt 0 (Zx b)&&true&&true&&true&&room (Zv t0+(Zx b-Zv (Zy .i64 (t0+1)))) 1) (some (Yv (Wx (Zv t0) b++Wq (Zv (Zy .i64 (t0+1))) b),[]))))) (sel (Zb how 4==2) (chk (room (Zx b+Zx [Yj (Zv (Zy .u8 how))]) 1) (some (Yv (b++[Yj (Zv (Zy .u8 how))]),[]))) (some (Yv b,[]))))))):Option (AV×Blocks))) (by kernel_rfl) ?_
  try dsimp only [cStr,cBs,cBool,cU8,cInt,cSl,l63]
  simp only [Zf,decide_eq_true_eq] at hpre
  obtain ⟨⟨hb,h0⟩,h1⟩:=hpre
  rw [chk_of (Xz (by omega))]
  unfold Kerb.spoil
  by_cases hn:b=[]
  ·subst hn;rfl
  have hpos:0<b.length:=List.length_pos_iff.2 hn
  rw [if_neg hn,sel_neg (by simp;omega),chk_of (by simp;omega)]
  have e:Zb (Zy Zw (Zy IntKind.u16 (Xu how (8:Int)))) (b.length:Int)=Kerb.spoilAt b how:=rfl
  rw [e]
  obtain ⟨ha,hc⟩:=Kerb.spoilAt_bd h0 h1 hpos
  generalize Kerb.spoilAt b how=a at ha hc ⊢
  have hd:(decide ((0:Int)≤a)&&decide (a<(b.length:Int)))=true:=by simp;omega
  have hbl:Nat.blt a.toNat b.length=true:=Nat.ble_eq_true_of_le (by omega)
  have hbl0:Nat.blt 0 b.length=true:=Nat.ble_eq_true_of_le (by omega)
  have h7:decide ((0:Int)≤Zy Yd (Zb how (7:Int)))=true:=by rw [Kerb.wrap_u64];simp;omega
  by_cases c0:Zb how 4=0
  ·rw [if_pos c0,sel_pos (by simpa using c0),chk_of hd,chk_of (by rw [hbl];rfl),chk_of h7,chk_of hd,chk_of (by rw [hbl];rfl)]
  rw [if_neg c0,sel_neg (by simpa using c0)]
  by_cases c1:Zb how 4=1
  ·rw [if_pos c1,sel_pos (by simpa using c1),wrap_i64 (n:=a+1) (by omega) (by omega),chk_of (by rw [hbl0];simp;omega),chk_of (by rw [hbl0];simp;omega),chk_of (by rw [hbl0,Xz (by omega)];rfl)]
  rw [if_neg c1,sel_neg (by simpa using c1)]
  by_cases c2:Zb how 4=2
  ·rw [if_pos c2,sel_pos (by simpa using c2),chk_of (Xz (by simp;omega))]
  ·rw [if_neg c2,sel_neg (by simpa using c2)]
 ·cases h
theorem w47:Walked Tryz.prog G 47 1 sp47:=by
 refine ⟨Tryz.f47,Tryz.func47,by decide +kernel,rfl,fun xs bl r h=> ?_⟩
 unfold sp47 at h
 split at h
 ·rename_i n m
  cases h
  refine Eq.trans (b:=(sel (decide (n≥0)) (some (Zu (decide (n≤m)),[])) (some (Zu false,[])):Option (AV×Blocks))) (by kernel_rfl) ?_
  by_cases h:0≤n<;>simp [sel,Xq,h]
 ·cases h
theorem w49:Walked Tryz.prog G 49 1 sp49:=by
 refine ⟨Tryz.f49,Tryz.func49,by decide +kernel,rfl,fun xs bl r h=> ?_⟩
 unfold sp49 at h
 split at h
 ·rename_i k little
  cases h
  refine Eq.trans (b:=(sel (decide (k<1)) (some (Yv [],[])) (sel (decide (k>10)) (some (Yv [],[])) (sel little (some (Yv [(4:UInt8),Yj (Zv (Zy .u8 (Zy .i64 (Zy .i64 (2*k)+1))))],[])) (some (Yv [(4:UInt8),Yj (Zv (Zy .u8 (Zy .i64 (2*k))))],[])))):Option (AV×Blocks))) (by kernel_rfl) ?_
  by_cases h:1≤k∧k≤10
  ·have hk:k=1∨k=2∨k=3∨k=4∨k=5∨k=6∨k=7∨k=8∨k=9∨k=10:=by omega
   rcases hk with rfl | rfl | rfl | rfl | rfl | rfl | rfl | rfl | rfl | rfl<;>cases little<;>rfl
  ·have hk:Wy k=false:=by simp [Wy];omega
   by_cases h1:k<1
   ·simp [sel,Kerb.header,hk,h1]
   ·have h2:10<k:=by omega
    simp [sel,Kerb.header,hk,h1,h2]
 ·cases h
theorem w52:Walked Tryz.prog G 52 1 sp52:=by
 refine ⟨Tryz.f52,Tryz.func52,by decide +kernel,rfl,fun xs bl r h=> ?_⟩
 unfold sp52 at h
 split at h
 ·rename_i b s
  obtain ⟨hpre,h2⟩:=chk_inv h;cases h2
  refine Eq.trans (b:=(chk (room (Zx b) 1) (chk (room (Zx b+Zx s) 1) (chk (room (Zx (b++s)+Zx [(0:UInt8)]) 1) (some (Zh (b++s++[(0:UInt8)]),[])))):Option (AV×Blocks))) (by kernel_rfl) ?_
  simp only [decide_eq_true_eq] at hpre
  rw [chk_of (Xz (by omega)),chk_of (Xz (by omega)),chk_of (Xz (by simp;omega))]
  simp [Wp]
 ·cases h
theorem w61:Walked Tryz.prog G 61 1 sp61:=by
 refine ⟨Tryz.f61,Tryz.func61,by decide +kernel,rfl,fun xs bl r h=> ?_⟩
 unfold sp61 at h
 split at h
 ·rename_i a b
  cases h
  refine Eq.trans (b:=(some (Zu (a==b),[]):Option (AV×Blocks))) (by kernel_rfl) ?_
  rfl
 ·cases h
theorem w63:Walked Tryz.prog G 63 1 sp63:=by
 refine ⟨Tryz.f63,Tryz.func63,by decide +kernel,rfl,fun xs bl r h=> ?_⟩
 unfold sp63 at h
 split at h
 ·rename_i code
  cases h
  refine Eq.trans (b:=(sel (decide (code<1)) (some (Zq [(114:UInt8),(101:UInt8),(113:UInt8),(117:UInt8),(101:UInt8),(115:UInt8),(116:UInt8),(32:UInt8),(114:UInt8),(101:UInt8),(102:UInt8),(117:UInt8),(115:UInt8),(101:UInt8),(100:UInt8)],[])) (sel (decide (code>10)) (some (Zq [(114:UInt8),(101:UInt8),(113:UInt8),(117:UInt8),(101:UInt8),(115:UInt8),(116:UInt8),(32:UInt8),(114:UInt8),(101:UInt8),(102:UInt8),(117:UInt8),(115:UInt8),(101:UInt8),(100:UInt8)],[])) (chk (decide (0≤Zy .i64 (code-1))&&decide (Zy .i64 (code-1)<(↑(10:Nat):Int))&&true&&true&&true) (Xf (Yz [Zq [(99:UInt8),(108:UInt8),(105:UInt8),(101:UInt8),(110:UInt8),(116:UInt8),(32:UInt8),(101:UInt8),(120:UInt8),(112:UInt8),(105:UInt8),(114:UInt8),(101:UInt8),(100:UInt8)],Zq [(115:UInt8),(101:UInt8),(114:UInt8),(118:UInt8),(105:UInt8),(99:UInt8),(101:UInt8),(32:UInt8),(101:UInt8),(120:UInt8),(112:UInt8),(105:UInt8),(114:UInt8),(101:UInt8),(100:UInt8)],Zq [(110:UInt8),(111:UInt8),(32:UInt8),(108:UInt8),(105:UInt8),(102:UInt8),(101:UInt8),(116:UInt8),(105:UInt8),(109:UInt8),(101:UInt8),(32:UInt8),(108:UInt8),(101:UInt8),(102:UInt8),(116:UInt8)],Zq [(112:UInt8),(114:UInt8),(111:UInt8),(116:UInt8),(111:UInt8),(99:UInt8),(111:UInt8),(108:UInt8),(32:UInt8),(118:UInt8),(101:UInt8),(114:UInt8),(115:UInt8),(105:UInt8),(111:UInt8),(110:UInt8)],Zq [(110:UInt8),(111:UInt8),(116:UInt8),(32:UInt8),(97:UInt8),(32:UInt8),(99:UInt8),(108:UInt8),(105:UInt8),(101:UInt8),(110:UInt8),(116:UInt8)],Zq [(110:UInt8),(111:UInt8),(116:UInt8),(32:UInt8),(97:UInt8),(32:UInt8),(115:UInt8),(101:UInt8),(114:UInt8),(118:UInt8),(105:UInt8),(99:UInt8),(101:UInt8)],Zq [(98:UInt8),(121:UInt8),(116:UInt8),(101:UInt8),(32:UInt8),(111:UInt8),(114:UInt8),(100:UInt8),(101:UInt8),(114:UInt8)],Zq [(112:UInt8),(114:UInt8),(105:UInt8),(110:UInt8),(99:UInt8),(105:UInt8),(112:UInt8),(97:UInt8),(108:UInt8),(32:UInt8),(117:UInt8),(110:UInt8),(107:UInt8),(110:UInt8),(111:UInt8),(119:UInt8),(110:UInt8)],Zq [(112:UInt8),(114:UInt8),(105:UInt8),(110:UInt8),(99:UInt8),(105:UInt8),(112:UInt8),(97:UInt8),(108:UInt8),(32:UInt8),(110:UInt8),(111:UInt8),(116:UInt8),(32:UInt8),(117:UInt8),(110:UInt8),(105:UInt8),(113:UInt8),(117:UInt8),(101:UInt8)],Zq [(110:UInt8),(111:UInt8),(32:UInt8),(107:UInt8),(101:UInt8),(121:UInt8)]] (Zv (Zy .i64 (code-1))) Xh) fun b=>some (Zq b,[])))):Option (AV×Blocks))) (by kernel_rfl) ?_
  unfold Kerb.message
  by_cases h:code<1
  ·rw [sel_pos (by simpa using h),if_pos (.inl h)]
   rfl
  by_cases h2:10<code
  ·rw [sel_neg (by simpa using h),sel_pos (by simp;omega),if_pos (.inr h2)]
   rfl
  have hc:code=1∨code=2∨code=3∨code=4∨code=5∨code=6∨code=7∨code=8∨code=9∨code=10:=by omega
  rcases hc with rfl | rfl | rfl | rfl | rfl | rfl | rfl | rfl | rfl | rfl<;>rfl
 ·cases h
theorem w66:Walked Tryz.prog G 66 1 sp66:=by
 refine ⟨Tryz.f66,Tryz.func66,by decide +kernel,rfl,fun xs bl r h=> ?_⟩
 unfold sp66 at h
 split at h
 ·rename_i x y z
  cases h
  refine Eq.trans (b:=(some (Zu (x==[(107:UInt8),(114:UInt8),(98:UInt8),(116:UInt8),(103:UInt8),(116:UInt8)]),[]):Option (AV×Blocks))) (by kernel_rfl) ?_
  rfl
 ·cases h
theorem w68:Walked Tryz.prog G 68 1 sp68:=by
 refine ⟨Tryz.f68,Tryz.func68,by decide +kernel,rfl,fun xs bl r h=> ?_⟩
 unfold sp68 at h
 split at h
 ·rename_i xls a b
  obtain ⟨hpre,h2⟩:=chk_inv h;cases h2
  refine Eq.trans (b:=(Zj (loopM (fun (st:List AV)=>cSl 4 st fun b r=>cStr r fun b_1 r=>cStr r fun b_2 r=>cInt .i64 r fun n r=>cBool r fun b_3 r=>cSl 4 r fun b_4 r=>cInt .i64 r fun n_1 r=>cInt .i64 r fun n_2 r=>let t2:List AV:=[Yu 4 b_4,Zz .i64 n_1,Zz .i64 (Zy .i64 (n_2+1))];let t0:Option (List AV ⊕ Ex×List AV):=some (Yh (Yu 4 b::Zq b_1::Zq b_2::Zz .i64 n::Zu b_3::t2));let t1:Option (List AV ⊕ Ex×List AV):=some (Yh (Yu 4 b::Zq b_1::Zq b_2::Zz .i64 n_2::Zu true::t2));onNil r (sel (decide (n_2<n_1)) (chk (decide (0≤n_2)&&decide (n_2<(↑(Zx b_4):Int))&&true) (AV.onAgg (Yz b_4 (Zv n_2) Xh) fun cs=>cStr cs fun b_5 r=>cStr r fun b_6 r=>cInt .i64 r fun n_3 r=>cInt .u64 r fun n_4 r=>onNil r (sel (!b_5==b_1) t0 (sel (!b_6==b_2) t0 (sel (!b_3) t1 (chk (decide (0≤n)&&decide (n<(↑(Zx b):Int))&&true) (AV.onAgg (Yz b (Zv n) Xh) fun cs=>cStr cs fun b r=>cStr r fun b r=>cInt .i64 r fun n r=>cInt .u64 r fun n_5 r=>onNil r (sel (decide (n_3>n)) t1 t0)))))))) (some (Ym (Yf 0,[Yu 4 b,Zq b_1,Zq b_2,Zz .i64 n,Zu b_3,Yu 4 b_4,Zz .i64 n_1,Zz .i64 n_2]))))) [Yu 4 xls,Zq a,Zq b,Zz .i64 0,Zu false,Yu 4 xls,Zz .i64 (↑(Zx xls):Int),Zz .i64 0]) fun (r:Ex×List AV)=>cSl 4 (Zd r) fun b r_1=>cStr r_1 fun b r_2=>cStr r_2 fun b r_3=>cInt .i64 r_3 fun n r_4=>cBool r_4 fun b r_5=>cSl 4 r_5 fun b_1 r_6=>cInt .i64 r_6 fun n_1 r_7=>cInt .i64 r_7 fun n_2 r_8=>onNil r_8 (exK r.1 none fun (j:Nat)=>sel (Xn j 0) (some (Zg [Zz .i64 n,Zu b],[])) none):Option (AV×Blocks))) (by kernel_rfl) ?_
  try dsimp only [cStr,cBs,cBool,cU8,cInt,cSl,l63]
  simp only [Zf,decide_eq_true_eq] at hpre
  obtain ⟨hall,hlen⟩:=hpre
  obtain ⟨cs,rfl⟩:=Kerb.cross_of hall
  rw [Kerb.map_toCross,Kerb.find_crossR]
  simp only [List.length_map] at hlen ⊢
  refine loop_rounds (fun q:Nat×Int×Bool=>[Yu 4 (cs.map Yn),Zq a,Zq b,Zz Zw q.2.1,Zu q.2.2,Yu 4 (cs.map Yn),Zz Zw (cs.length:Int),Zz Zw (q.1:Int)])
   (fun q=>q.1≤cs.length∧(q.2.1,q.2.2)=Kerb.crossR (Wd cs a b q.1)) (fun q=>cs.length-q.1)
   (fun r=>∃ (c:Int) (d:Bool),r=(Yf 0,[Yu 4 (cs.map Yn),Zq a,Zq b,Zz Zw c,Zu d,Yu 4 (cs.map Yn),Zz Zw (cs.length:Int),Zz Zw (cs.length:Int)])∧(c,d)=Kerb.crossR (Wd cs a b cs.length)) (0,0,false) ⟨Xv _,rfl⟩ rfl ?_ ?_
  ·rintro ⟨j,c,d⟩ ⟨hj,hinv⟩
   simp only at hj hinv
   simp only [↓A0,A0]
   rcases Nat.lt_or_ge j cs.length with h | h
   ·obtain ⟨x,hx⟩:∃ x,cs.getD j Wh=x:=⟨_,rfl⟩
    have hs:=Kerb.cross_step cs a b j hx
    rw [sel_pos (by simp;omega),chk_of (by simp;omega),Yy,Kerb.getD_cross h,hx]
    simp only [Yn,↓A0,A0]
    rw [wrap_i64 (by omega) (by omega)]
    have keep:Wd cs a b (j+1)=Wd cs a b j→Round (fun q:Nat×Int×Bool=>[Yu 4 (cs.map Yn),Zq a,Zq b,Zz Zw q.2.1,Zu q.2.2,Yu 4 (cs.map Yn),Zz Zw (cs.length:Int),Zz Zw (q.1:Int)]) (fun q=>q.1≤cs.length∧(q.2.1,q.2.2)=Kerb.crossR (Wd cs a b q.1)) (fun q=>cs.length-q.1) (fun r=>∃ (c:Int) (d:Bool),r=(Yf 0,[Yu 4 (cs.map Yn),Zq a,Zq b,Zz Zw c,Zu d,Yu 4 (cs.map Yn),Zz Zw (cs.length:Int),Zz Zw (cs.length:Int)])∧(c,d)=Kerb.crossR (Wd cs a b cs.length)) (j,c,d) (Yh [Yu 4 (cs.map Yn),Zq a,Zq b,Zz Zw c,Zu d,Yu 4 (cs.map Yn),Zz Zw (cs.length:Int),Zz Zw ((j:Int)+1)]):=fun e =>
     ⟨(j+1,c,d),rfl,⟨by simp only;omega,by simp only;rw [e];exact hinv⟩,by simp only;omega⟩
    by_cases h1:x.source=a
    case neg =>
     rw [sel_pos (by simpa using h1)]
     rw [show (x.source==a)=false from by simpa using h1,Bool.false_and,cond_false] at hs
     exact ⟨_,rfl,keep hs⟩
    rw [sel_neg (by simp [h1])]
    rw [show (x.source==a)=true from by simpa using h1,Bool.true_and] at hs
    by_cases h2:x.target=b
    case neg =>
     rw [sel_pos (by simpa using h2)]
     rw [show (x.target==b)=false from by simpa using h2,Bool.false_and,cond_false] at hs
     exact ⟨_,rfl,keep hs⟩
    rw [sel_neg (by simp [h2])]
    rw [show (x.target==b)=true from by simpa using h2,Bool.true_and] at hs
    cases hc:Wd cs a b j with
    | none =>
     rw [hc] at hs hinv
     cases hinv
     exact ⟨_,rfl,(j+1,(j:Int),true),rfl,⟨by simp only;omega,by simp only;rw [hs];rfl⟩,by simp only;omega⟩
    | some k =>
     rw [hc] at hs hinv
     cases hinv
     have hk:=Kerb.crossAt_lt hc
     have hkv:(cs.getD k Wh).kvno<x.kvno↔x.kvno>(cs.getD k Wh).kvno:=Iff.rfl
     rw [sel_neg (by simp),chk_of (by simp;omega),Yy,Kerb.getD_cross (by omega)]
     simp only [Yn,↓A0,A0]
     by_cases h3:(cs.getD k Wh).kvno<x.kvno
     ·rw [sel_pos (by simpa using h3)]
      dsimp only at hs
      rw [show decide ((cs.getD k Wh).kvno<x.kvno)=true from by simpa using h3,cond_true] at hs
      exact ⟨_,rfl,(j+1,(j:Int),true),rfl,⟨by simp only;omega,by simp only;rw [hs];rfl⟩,by simp only;omega⟩
     ·rw [sel_neg (by simpa using h3)]
      dsimp only at hs
      rw [show decide ((cs.getD k Wh).kvno<x.kvno)=false from by simpa using h3,cond_false] at hs
      exact ⟨_,rfl,keep (hs.trans hc.symm)⟩
   ·rw [sel_neg (by simp;omega)]
    have hj2:j=cs.length:=by omega
    subst hj2
    exact ⟨_,rfl,c,d,rfl,hinv⟩
  ·rintro _ ⟨c,d,rfl,h⟩
   rw [← h]
   rfl
 ·cases h
theorem w74:Walked Tryz.prog G 74 1 sp74:=by
 refine ⟨Tryz.f74,Tryz.func74,by decide +kernel,rfl,fun xs bl r h=> ?_⟩
 unfold sp74 at h
 split at h
 ·rename_i r t
  cases h
  refine Eq.trans (b:=(some (AV.agg [Zq [(107:UInt8),(114:UInt8),(98:UInt8),(116:UInt8),(103:UInt8),(116:UInt8)],Zq t,Zq r],[]):Option (AV×Blocks))) (by kernel_rfl) ?_
  rfl
 ·cases h
theorem w78:Walked Tryz.prog G 78 1 sp78:=by
 refine ⟨Tryz.f78,Tryz.func78,by decide +kernel,rfl,fun xs bl r h=> ?_⟩
 unfold sp78 at h
 split at h
 ·rename_i b
  cases h
  refine Eq.trans (b:=(let t0:Int:=Zy .i64 (↑(Yq (Yj (Zv (Zy .u8 (Xu (↑(Yq (Yz b (Zv 1) (0:UInt8))):Int) (↑(Yq (2:UInt8)):Int)))))):Int);let t1:Option (AV×Blocks):=some (Zg [Zz .i64 0,Zu false,Zz .i64 40],[]);sel (decide ((↑(Zx b):Int)<2)) (some (Zg [Zz .i64 0,Zu false,Zz .i64 101],[])) (chk (decide (0<(↑(Zx b):Int))) (sel (!Yz b (Zv 0) (0:UInt8)==(4:UInt8)) (some (Zg [Zz .i64 0,Zu false,Zz .i64 39],[])) (chk (decide (1<(↑(Zx b):Int))) (sel (decide (t0<1)) t1 (sel (decide (t0>10)) t1 (chk (decide (1<(↑(Zx b):Int))) (some (Zg [Zz .i64 t0,Zu (Yj (Zv (Zb (↑(Yq (Yz b (Zv 1) (0:UInt8))):Int) (↑(Yq (2:UInt8)):Int)))==(1:UInt8)),Zz .i64 0],[])))))))):Option (AV×Blocks))) (by kernel_rfl) ?_
  try dsimp only [cStr,cBs,cBool,cU8,cInt,cSl,l63]
  unfold Yk
  by_cases h1:b.length<2
  ·rw [sel_pos (by simp;omega)]
   simp [h1]
  rw [sel_neg (by simp;omega),chk_of (by simp;omega),if_neg h1]
  by_cases h2:b.getD 0 0=4
  ·have hb:=(b.getD 1 0).toNat_lt
   have e:Zy Zw ((Yj (Zv (Zy IntKind.u8 (Xu ((b.getD (Zv 1) 0).toNat:Int) ((2:UInt8).toNat:Int))))).toNat:Int)=(((b.getD 1 0).toNat / 2:Nat):Int):=by
    rw [show Zv 1=1 from rfl,show ((2:UInt8).toNat:Int)=2 from rfl,Yp (by omega),Kerb.wrap_u8]
    have e3:Zv (((b.getD 1 0).toNat:Int) / 2 % 256)=(b.getD 1 0).toNat / 2:=by omega
    rw [e3,UInt8.toNat_ofNat_of_lt' (by show _<256;omega),wrap_i64 (by omega) (by omega)]
   have e2:(Yj (Zv (Zb ((b.getD (Zv 1) 0).toNat:Int) ((2:UInt8).toNat:Int)))==1)=decide ((b.getD 1 0).toNat % 2=1):=by
    rw [show Zv 1=1 from rfl,Xy (by omega)]
    have e3:Zv (((b.getD 1 0).toNat:Int) % ((2:UInt8).toNat:Int))=(b.getD 1 0).toNat % 2:=by
     show Zv (((b.getD 1 0).toNat:Int) % 2)=_
     omega
    rw [e3]
    rcases Nat.mod_two_eq_zero_or_one (b.getD 1 0).toNat with h | h<;>rw [h]<;>rfl
   rw [sel_neg (by simp [h2] at *;exact h2),chk_of (by simp;omega),if_neg (by simpa using h2),e,e2]
   generalize (b.getD 1 0).toNat / 2=m
   unfold Wy
   by_cases h3:1≤m
   case neg =>
    rw [sel_pos (by simp;omega),if_neg (by simp;omega)]
   by_cases h4:m≤10
   case neg =>
    rw [sel_neg (by simp;omega),sel_pos (by simp;omega),if_neg (by simp;omega)]
   rw [sel_neg (by simp;omega),sel_neg (by simp;omega),chk_of (by simp;omega),if_pos (by simp;omega)]
  ·rw [sel_pos (by simpa using h2),if_pos (by simpa using h2)]
 ·cases h
theorem w80:Walked Tryz.prog G 80 1 sp80:=by
 refine ⟨Tryz.f80,Tryz.func80,by decide +kernel,rfl,fun xs bl r h=> ?_⟩
 unfold sp80 at h
 split at h
 ·rename_i nx e B at_ li bad
  cases h
  show runFnH (G.env 80 1) G.rts (G.own 80) Tryz.f80 _ _ [0]=_
  refine Eq.trans (b:=(sel bad (some (Zg [],[[Yv B,Zz .i64 at_,Zu li,Zu true]])) (sel (!e==0) (some (Zg [],[[Yv B,Zz .i64 at_,Zu li,Zu true]])) (some (Zg [],[[Yv B,Zz .i64 nx,Zu li,Zu bad]]))):Option (AV×Blocks))) (by kernel_rfl) ?_
  cases bad
  ·cases (e==0)<;>rfl
  ·rfl
 ·cases h
theorem w82:Walked Tryz.prog G 82 1 sp82:=by
 refine ⟨Tryz.f82,Tryz.func82,by decide +kernel,rfl,fun xs bl r h=> ?_⟩
 unfold sp82 at h
 split at h
 ·rename_i b pos
  obtain ⟨hpre,h2⟩:=chk_inv h;cases h2
  refine Eq.trans (b:=(let t0:Option (AV×Blocks):=some (Zg [Zq [],Zz .i64 0,Zz .i64 104],[]);sel (decide (pos<0)) t0 (sel (decide (pos>(↑(Zx b):Int))) t0 (Zj (loopM (fun (st:List AV)=>cBs st fun b r=>cInt .i64 r fun n r=>cStr r fun b_1 r=>cInt .i64 r fun n_1 r=>cInt .i64 r fun n_2 r=>cInt .i64 r fun n_3 r=>onNil r (sel (decide (n_3≤39)) (sel (decide (Zy .i64 (n+n_3)≥(↑(Zx b):Int))) (some (Ym (Ex.ret,[Yv b,Zz .i64 n,Zq [],Zz .i64 0,Zz .i64 101,Zz .i64 n_3]))) (chk (decide (0≤Zy .i64 (n+n_3))&&decide (Zy .i64 (n+n_3)<(↑(Zx b):Int))) (sel (Yz b (Zv (Zy .i64 (n+n_3))) (0:UInt8)==(0:UInt8)) (chk (decide (0≤n)&&decide (n≤Zy .i64 (n+n_3))&&decide (Zy .i64 (n+n_3)≤(↑(Zx b):Int))) (some (Ym (Ex.ret,[Yv b,Zz .i64 n,Zq (Wq (Zv n) (Wx (Zv (Zy .i64 (n+n_3))) b)),Zz .i64 (Zy .i64 (Zy .i64 (n+n_3)+1)),Zz .i64 0,Zz .i64 n_3])))) (some (Yh [Yv b,Zz .i64 n,Zq b_1,Zz .i64 n_1,Zz .i64 n_2,Zz .i64 (Zy .i64 (n_3+1))]))))) (some (Ym (Yf 0,[Yv b,Zz .i64 n,Zq b_1,Zz .i64 n_1,Zz .i64 n_2,Zz .i64 n_3]))))) [Yv b,Zz .i64 pos,Zq [],Zz .i64 0,Zz .i64 0,Zz .i64 0]) fun (r:Ex×List AV)=>cBs (Zd r) fun b r_1=>cInt .i64 r_1 fun n r_2=>cStr r_2 fun b r_3=>cInt .i64 r_3 fun n r_4=>cInt .i64 r_4 fun n_1 r_5=>cInt .i64 r_5 fun n_2 r_6=>onNil r_6 (exK r.1 (some (Zg [Zq b,Zz .i64 n,Zz .i64 n_1],[])) fun (j:Nat)=>sel (Xn j 0) (some (Zg [Zq [],Zz .i64 0,Zz .i64 105],[])) none))):Option (AV×Blocks))) (by kernel_rfl) ?_
  try dsimp only [cStr,cBs,cBool,cU8,cInt,cSl,l63]
  have hb:=of_decide_eq_true hpre
  unfold Xx
  by_cases h1:pos<0
  ·rw [sel_pos (by simpa using h1),if_neg (by rw [Kerb.room_zero];omega)]
  rw [sel_neg (by simpa using h1)]
  by_cases h2:(b.length:Int)<pos
  ·rw [sel_pos (by simpa using h2),if_neg (by rw [Kerb.room_zero];omega)]
  rw [sel_neg (by simpa using h2),if_pos (Kerb.room_zero.2 (by omega))]
  obtain ⟨R,hR⟩:∃ R,R=b.drop pos.toNat:=⟨_,rfl⟩
  have hRl:R.length=b.length-pos.toNat:=by rw [hR];simp
  rw [← hR]
  obtain ⟨T,hT⟩:∃ T,T=R.take 40:=⟨_,rfl⟩
  rw [← hT]
  have hix:=Kerb.indexOf_nonneg 0 T
  refine loop_rounds (fun i:Nat=>[Yv b,Zz Zw pos,Zq [],Zz Zw 0,Zz Zw 0,Zz Zw (i:Int)]) (fun i=>i≤40∧i≤R.length∧(0:UInt8) ∉ R.take i) (fun i=>40-i)
   (fun r=>∃ (i:Nat) (v:List UInt8) (nx e:Int),r.2=[Yv b,Zz Zw pos,Zq v,Zz Zw nx,Zz Zw e,Zz Zw (i:Int)] ∧
    ((r.1 = .ret∧v=[]∧nx=0∧e=101∧Zm 0 T<0∧T.length≠40)∨(r.1 = .ret∧Zm 0 T=i∧v=T.take i∧nx=pos+i+1∧e=0)∨(r.1 = .exit 0∧Zm 0 T<0∧T.length=40))) 0 ⟨by omega,by omega,by simp⟩ rfl ?_ ?_
  ·rintro i ⟨hi,hir,h0⟩
   simp only [A0]
   by_cases hlt:i≤39
   case neg =>
    have e40:i=40:=by omega
    subst e40
    rw [sel_neg (by decide)]
    refine ⟨_,rfl,40,[],0,0,rfl,.inr (.inr ⟨rfl,?_,?_⟩)⟩
    ·rw [← hT] at h0;have:=mt hix.1 h0;omega
    ·rw [hT];simp;omega
   rw [sel_pos (by simp;omega),wrap_i64 (n:=pos+(i:Int)) (by omega) (by omega)]
   by_cases hend:(b.length:Int)≤pos+i
   ·rw [sel_pos (by simpa using hend)]
    have hTR:T=R.take i:=by rw [hT,Zn (by omega),Zn (by omega)]
    refine ⟨_,rfl,i,[],0,101,rfl,.inl ⟨rfl,rfl,rfl,rfl,?_,?_⟩⟩
    ·rw [← hTR] at h0;have:=mt hix.1 h0;omega
    ·rw [hTR];simp;omega
   have hiR:i<R.length:=by omega
   have hd:=Kerb.drop_all_cons hiR
   have hbi:b.getD (pos+(i:Int)).toNat 0=R.getD i 0:=by
    rw [show (pos+(i:Int)).toNat=pos.toNat+i by omega,hR]
    simp [List.getD_eq_getElem?_getD]
   rw [sel_neg (by simpa using hend),chk_of (by simp;omega),hbi]
   by_cases hz:R.getD i 0=0
   ·rw [sel_pos (by rw [hz];rfl),chk_of (by simp;omega),wrap_i64 (by omega) (by omega)]
    have hTi:T.take i=R.take i:=by rw [hT,List.take_take,Nat.min_eq_left (by omega)]
    have hTe:T=R.take i++0::(R.drop (i+1)).take (39-i):=by
     rw [hT]
     have:R=R.take i++(0::R.drop (i+1)):=by rw [← hz,← hd,List.take_append_drop]
     have hl:(R.take i).length=i:=by simp;omega
     calc R.take 40=(R.take i++(0::R.drop (i+1))).take 40:=by rw [← this]
      _=_:=by rw [List.take_append,hl,Zn (by omega),show 40-i=(39-i)+1 by omega,List.take_succ_cons]
    have hidx:Zm 0 T=i:=by
     rw [hTe,Kerb.indexOf_append h0];simp;omega
    refine ⟨_,rfl,i,_,_,0,rfl,.inr (.inl ⟨rfl,hidx,?_,rfl,rfl⟩)⟩
    rw [hTi,hR,show (pos+(i:Int)).toNat=pos.toNat+i by omega,List.drop_take,show pos.toNat+i-pos.toNat=i by omega]
   ·rw [sel_neg (beq_eq_false_iff_ne.2 hz),wrap_i64 (by omega) (by omega)]
    refine ⟨_,rfl,i+1,rfl,⟨by omega,by omega,?_⟩,by dsimp only;omega⟩
    rw [Kerb.take_succ_getD hiR]
    simp only [List.mem_append,List.mem_singleton,not_or]
    exact ⟨h0,fun e=>hz e.symm⟩
  ·rintro ⟨e,l⟩ ⟨i,v,nx,er,rfl,⟨rfl,rfl,rfl,rfl,g1,g2⟩ | ⟨rfl,g1,rfl,rfl,rfl⟩ | ⟨rfl,g1,g2⟩⟩
   ·simp only [A0]
    rw [if_neg (by omega),if_neg g2]
   ·simp only [A0]
    rw [if_pos (by omega),g1,Yy]
   ·simp only [A0]
    rw [if_neg (by omega),if_pos g2,sel_pos (Yb _)]
 ·cases h
theorem w84:Walked Tryz.prog G 84 1 sp84:=by
 refine ⟨Tryz.f84,Tryz.func84,by decide +kernel,rfl,fun xs bl r h=> ?_⟩
 unfold sp84 at h
 split at h
 ·rename_i b pos n
  obtain ⟨hpre,h2⟩:=chk_inv h;cases h2
  refine Eq.trans (b:=(sel (decide (pos<0)) (some (Zg [Yv [],Zz .i64 0,Zz .i64 104],[])) (sel (decide (pos>(↑(Zx b):Int))) (some (Zg [Yv [],Zz .i64 0,Zz .i64 104],[])) (sel (decide (n<0)) (some (Zg [Yv [],Zz .i64 0,Zz .i64 104],[])) (sel (decide (n>Zy .i64 ((↑(Zx b):Int)-pos))) (some (Zg [Yv [],Zz .i64 0,Zz .i64 101],[])) (chk (decide (0≤pos)&&decide (pos≤Zy .i64 (pos+n))&&decide (Zy .i64 (pos+n)≤(↑(Zx b):Int))) (chk (room (Zx (Wq (Zv pos) (Wx (Zv (Zy .i64 (pos+n))) b))) 1) (some (Zg [Yv (Wq (Zv pos) (Wx (Zv (Zy .i64 (pos+n))) b)),Zz .i64 (Zy .i64 (pos+n)),Zz .i64 0],[]))))))):Option (AV×Blocks))) (by kernel_rfl) ?_
  have hb:=of_decide_eq_true hpre
  unfold Wb
  by_cases h1:pos<0
  ·have e:Xw b pos n=104:=by unfold Xw;rw [if_pos (by omega)]
   rw [sel_pos (by simpa using h1),e]
   rfl
  rw [sel_neg (by simpa using h1)]
  by_cases h2:(b.length:Int)<pos
  ·have e:Xw b pos n=104:=by unfold Xw;rw [if_pos (by omega)]
   rw [sel_pos (by simpa using h2),e]
   rfl
  rw [sel_neg (by simpa using h2)]
  by_cases h3:n<0
  ·have e:Xw b pos n=104:=by unfold Xw;rw [if_pos (by omega)]
   rw [sel_pos (by simpa using h3),e]
   rfl
  rw [sel_neg (by simpa using h3),wrap_i64 (n:=(b.length:Int)-pos) (by omega) (by omega)]
  by_cases h4:(b.length:Int)-pos<n
  ·have e:Xw b pos n=101:=by unfold Xw;rw [if_neg (by omega),if_pos h4]
   rw [sel_pos (by simpa using h4),e]
   rfl
  have hr:Xw b pos n=0:=Kerb.room_zero.2 (by omega)
  have e:Wq (Zv pos) (Wx (Zv (pos+n)) b)=Kerb.cut b pos n:=by
   rw [show Zv (pos+n)=pos.toNat+n.toNat by omega,List.drop_take,show pos.toNat+n.toNat-pos.toNat=n.toNat by omega]
   rfl
  have hc:=Kerb.cut_length hr
  rw [sel_neg (by simpa using h4),if_pos hr,wrap_i64 (by omega) (by omega),e,chk_of (by simp;omega),chk_of (Xz (by omega))]
 ·cases h
theorem w88:Walked Tryz.prog G 88 1 sp88:=by
 refine ⟨Tryz.f88,Tryz.func88,by decide +kernel,rfl,fun xs bl r h=> ?_⟩
 unfold sp88 at h
 split at h
 ·rename_i k
  obtain ⟨hpre,h2⟩:=chk_inv h;cases h2
  refine Eq.trans (b:=(Zj (loopM (fun (st:List AV)=>cInt .u64 st fun n r=>onCons r fun x r=>Yg x fun b=>cInt .i64 r fun n_1 r=>let t0:List UInt8:=[Yj (Zv (Zy .u8 (Int.fdiv n (2 ^ min (Zv (Zy .u64 (Zy .i64 (8*n_1)))) (Zk .u64)))))];onNil r (sel (decide (n_1≥0)) (chk (decide (0≤Zy .u64 (Zy .i64 (8*n_1)))) (chk (room (Zx b+Zx t0) 1) (some (Yh [Zz .u64 n,Zh (b++t0),Zz .i64 (Zy .i64 (n_1-1))])))) (some (Ym (Yf 0,[Zz .u64 n,Zh b,Zz .i64 n_1]))))) [Zz .u64 k,Zh [],Zz .i64 7]) fun (r:Ex×List AV)=>cInt .u64 (Zd r) fun n r_1=>onCons r_1 fun x r_2=>Yg x fun b=>cInt .i64 r_2 fun n r_3=>onNil r_3 (exK r.1 none fun (j:Nat)=>sel (Xn j 0) (some (Yv b,[])) none):Option (AV×Blocks))) (by kernel_rfl) ?_
  try dsimp only [cStr,cBs,cBool,cU8,cInt,cSl,l63]
  refine loop_unroll 9 (Yf 0,[Zz Yd k,Zh [Xb k 56,Xb k 48,Xb k 40,Xb k 32,Xb k 24,Xb k 16,Xb k 8,Xb k 0],Zz Zw (-1)]) (by kernel_rfl) ?_
  simp only [A0]
  rw [sel_pos (Yb _)]
  simp [Kerb.bfd_eq,Kerb.keyBytes,Kerb.byteAt,List.range_succ]
 ·cases h
theorem w89:Walked Tryz.prog G 89 1 sp89:=by
 refine ⟨Tryz.f89,Tryz.func89,by decide +kernel,rfl,fun xs bl r h=> ?_⟩
 unfold sp89 at h
 split at h
 ·rename_i b
  obtain ⟨hpre,h2⟩:=chk_inv h;cases h2
  refine Eq.trans (b:=(chk (room (Zx b) 1) (Zj (loopM (fun (st:List AV)=>onCons st fun x r=>Yg x fun b=>onNil r (sel (!Zb (↑(Zx b):Int) 8==0) (chk (room (Zx b+Zx [(0:UInt8)]) 1) (some (Yh [Zh (b++[(0:UInt8)])]))) (some (Ym (Yf 0,[Zh b]))))) [Zh b]) fun (r:Ex×List AV)=>onCons (Zd r) fun x r_1=>Yg x fun b=>onNil r_1 (exK r.1 none fun (j:Nat)=>sel (Xn j 0) (some (Zh b,[])) none)):Option (AV×Blocks))) (by kernel_rfl) ?_
  have hb:=of_decide_eq_true hpre
  rw [chk_of (Xz (by omega))]
  refine loop_rounds (fun i:Nat=>[Zh (b++Wv i 0)]) (fun i=>i≤(8-b.length % 8) % 8) (fun i=>(8-b.length % 8) % 8-i)
   (fun r=>r=(Yf 0,[Zh (Kerb.pad b)])) 0 (by omega) (by simp) ?_ ?_
  ·intro i hi
   simp only [A0]
   have e:Zb ((b++Wv i 0).length:Int) 8=(((b.length+i) % 8:Nat):Int):=by
    rw [Xy (by omega)]
    simp
   rw [e]
   by_cases hlt:i<(8-b.length % 8) % 8
   ·rw [sel_pos (by simp;omega),chk_of (Xz (by simp;omega))]
    refine ⟨_,rfl,i+1,?_,by omega,by dsimp only;omega⟩
    dsimp only
    rw [List.replicate_succ',List.append_assoc]
   ·rw [sel_neg (by simp;omega)]
    refine ⟨_,rfl,?_⟩
    show _=_
    rw [Kerb.pad,show i=(8-b.length % 8) % 8 from by omega]
  rintro r rfl
  simp only [A0]
  rw [sel_pos (Yb _)]
 ·cases h
theorem w92:Walked Tryz.prog G 92 1 sp92:=by
 refine ⟨Tryz.f92,Tryz.func92,by decide +kernel,rfl,fun xs bl r h=> ?_⟩
 unfold sp92 at h
 split at h
 ·rename_i s bad
  obtain ⟨hpre,h2⟩:=chk_inv h;cases h2
  refine Eq.trans (b:=(Zj (loopM (fun (st:List AV)=>cStr st fun b r=>cStr r fun b_1 r=>cBool r fun b_2 r=>cInt .i64 r fun n r=>let t0:Int:=(↑(Yq (Yz b (Zv n) (0:UInt8))):Int);let t1:Option (List AV ⊕ Ex×List AV):=some (Ym (Ex.ret,[Zq b,Zq b_1,Zu false,Zz .i64 n]));onNil r (sel (decide (n<(↑(Zx b):Int))) (chk (decide (0≤n)&&decide (n<(↑(Zx b):Int))) (sel (decide (t0<(↑(Yq (33:UInt8)):Int))) t1 (chk (decide (0≤n)&&decide (n<(↑(Zx b):Int))) (sel (decide (t0>(↑(Yq (126:UInt8)):Int))) t1 (Zj (loopM (fun (st:List AV)=>cStr st fun b r=>cStr r fun b_3 r=>cBool r fun b_4 r=>cInt .i64 r fun n r=>cInt .i64 r fun n_1 r=>onNil r (sel (decide (n_1<(↑(Zx b_3):Int))) (chk (decide (0≤n)&&decide (n<(↑(Zx b):Int))) (chk (decide (0≤n_1)&&decide (n_1<(↑(Zx b_3):Int))) (sel (Yz b (Zv n) (0:UInt8)==Yz b_3 (Zv n_1) (0:UInt8)) (some (Ym (Ex.ret,[Zq b,Zq b_3,Zu false,Zz .i64 n,Zz .i64 n_1]))) (some (Yh [Zq b,Zq b_3,Zu b_4,Zz .i64 n,Zz .i64 (Zy .i64 (n_1+1))]))))) (some (Ym (Yf 2,[Zq b,Zq b_3,Zu b_4,Zz .i64 n,Zz .i64 n_1]))))) [Zq b,Zq b_1,Zu b_2,Zz .i64 n,Zz .i64 0]) fun (r:Ex×List AV)=>cStr (Zd r) fun b r_1=>cStr r_1 fun b_3 r_2=>cBool r_2 fun b_4 r_3=>cInt .i64 r_3 fun n r_4=>cInt .i64 r_4 fun n_1 r_5=>onNil r_5 (exK r.1 (some (Ym (Ex.ret,[Zq b,Zq b_3,Zu b_4,Zz .i64 n]))) fun (j:Nat)=>sel (Xn j 2) (some (Yh [Zq b,Zq b_3,Zu b_4,Zz .i64 (Zy .i64 (n+1))])) none)))))) (some (Ym (Yf 0,[Zq b,Zq b_1,Zu b_2,Zz .i64 n]))))) [Zq s,Zq bad,Zu false,Zz .i64 0]) fun (r:Ex×List AV)=>cStr (Zd r) fun b r_1=>cStr r_1 fun b_1 r_2=>cBool r_2 fun b_2 r_3=>cInt .i64 r_3 fun n r_4=>onNil r_4 (exK r.1 (some (Zu b_2,[])) fun (j:Nat)=>sel (Xn j 0) (some (Zu (decide ((↑(Zx b):Int)≤39)),[])) none):Option (AV×Blocks))) (by kernel_rfl) ?_
  try dsimp only [cStr,cBs,cBool,cU8,cInt,cSl,l63]
  simp only [Zf,decide_eq_true_eq] at hpre
  refine loop_rounds (fun i:Nat=>[Zq s,Zq bad,Zu false,Zz Zw (i:Int)]) (fun i=>i≤s.length∧Xk s bad=Xk (s.drop i) bad) (fun i=>s.length-i)
   (fun r=>∃ i:Nat,r.2=[Zq s,Zq bad,Zu false,Zz Zw (i:Int)]∧((r.1 = .ret∧Xk s bad=false)∨(r.1 = .exit 0∧Xk s bad=true))) 0 ⟨Xv _,rfl⟩ rfl ?_ ?_
  ·rintro i ⟨hi,hp⟩
   simp only [A0]
   by_cases hlt:i<s.length
   ·have hc:(decide ((0:Int)≤(i:Int))&&decide ((i:Int)<(s.length:Int)))=true:=by simp;omega
    have hd:=Kerb.drop_all_cons hlt
    rw [sel_pos (by simp;omega),chk_of hc,Yy]
    have hpr:Xk (s.drop i) bad=(Kerb.okB bad (s.getD i 0)&&Xk (s.drop (i+1)) bad):=by rw [hd];rfl
    generalize hcc:s.getD i 0=c at *
    by_cases h1:c.toNat<33
    ·rw [sel_pos (by simp;omega)]
     exact ⟨_,rfl,i,rfl,.inl ⟨rfl,by rw [hp,hpr];simp [Kerb.okB,h1]⟩⟩
    rw [sel_neg (by simp;omega),chk_of hc]
    by_cases h2:126<c.toNat
    ·rw [sel_pos (by simp;omega)]
     exact ⟨_,rfl,i,rfl,.inl ⟨rfl,by rw [hp,hpr];simp [Kerb.okB,h2]⟩⟩
    rw [sel_neg (by simp;omega)]
    refine loop_ex (fun j:Nat=>[Zq s,Zq bad,Zu false,Zz Zw (i:Int),Zz Zw (j:Int)]) (fun j=>j≤bad.length∧(c∈bad↔c∈bad.drop j)) (fun j=>bad.length-j)
     (fun r=>∃ j:Nat,r.2=[Zq s,Zq bad,Zu false,Zz Zw (i:Int),Zz Zw (j:Int)]∧((r.1 = .ret∧c∈bad)∨(r.1 = .exit 2∧c ∉ bad))) 0 ⟨Xv _,by simp⟩ rfl ?_ ?_
    ·rintro j ⟨hj,hm⟩
     simp only [A0]
     by_cases hjl:j<bad.length
     ·have hdj:=Kerb.drop_all_cons hjl
      rw [sel_pos (by simp;omega),chk_of hc,chk_of (by simp;omega),Yy,Yy,hcc]
      rw [hdj,List.mem_cons] at hm
      by_cases h3:c=bad.getD j 0
      ·rw [sel_pos (by simpa using h3)]
       exact ⟨_,rfl,j,rfl,.inl ⟨rfl,hm.2 (.inl h3)⟩⟩
      ·rw [sel_neg (by simpa using h3),wrap_i64 (by omega) (by omega)]
       exact ⟨_,rfl,j+1,rfl,⟨by omega,hm.trans ⟨fun h=>h.resolve_left h3,.inr⟩⟩,by dsimp only;omega⟩
     ·rw [sel_neg (by simp;omega)]
      refine ⟨_,rfl,j,rfl,.inr ⟨rfl,?_⟩⟩
      rw [hm,Wk (by omega)];simp
    ·rintro ⟨e,l⟩ ⟨j,rfl,⟨rfl,h3⟩ | ⟨rfl,h3⟩⟩
     ·simp only [A0]
      exact ⟨_,rfl,i,rfl,.inl ⟨rfl,by rw [hp,hpr];simp [Kerb.okB,h3]⟩⟩
     ·simp only [A0]
      rw [sel_pos (Yb _),wrap_i64 (by omega) (by omega)]
      exact ⟨_,rfl,i+1,rfl,⟨by omega,by rw [hp,hpr];simp [Kerb.okB,h1,h2,h3]⟩,by dsimp only;omega⟩
   ·rw [sel_neg (by simp;omega)]
    exact ⟨_,rfl,i,rfl,.inr ⟨rfl,by rw [hp,Wk (by omega)];rfl⟩⟩
  ·rintro ⟨e,l⟩ ⟨i,rfl,⟨rfl,hp⟩ | ⟨rfl,hp⟩⟩
   ·simp only [A0,hp]
    rfl
   ·simp only [A0,hp]
    rw [sel_pos (Yb _),decide_eq_decide.2 (show ((s.length:Int)≤39)↔s.length≤39 from by omega)]
    rfl
 ·cases h
theorem w93:Walked Tryz.prog G 93 1 sp93:=by
 refine ⟨Tryz.f93,Tryz.func93,by decide +kernel,rfl,fun xs bl r h=> ?_⟩
 unfold sp93 at h
 split at h
 ·rename_i b n k little
  obtain ⟨hpre,h2⟩:=chk_inv h;cases h2
  refine Eq.trans (b:=(chk (room (Zx b) 1) (Zj (loopM (fun (st:List AV)=>cInt .i64 st fun n r=>cInt .i64 r fun n_1 r=>cBool r fun b r=>onCons r fun x r=>Yg x fun b_1=>cInt .i64 r fun n_2 r=>let t1:Int:=Zy .u64 (Zy .i64 (8*Zy .i64 (Zy .i64 (n_1-1)-n_2)));let t2:List UInt8:=[Yj (Zv (Zy .u8 (Int.fdiv (Zy .u64 n) (2 ^ min (Zv (Zy .u64 (Zy .i64 (8*n_2)))) (Zk .u64)))))];let t0:List UInt8:=[Yj (Zv (Zy .u8 (Int.fdiv (Zy .u64 n) (2 ^ min (Zv t1) (Zk .u64)))))];onNil r (sel (decide (n_2<n_1)) (sel b (chk (decide (0≤Zy .u64 (Zy .i64 (8*n_2)))) (chk (room (Zx b_1+Zx t2) 1) (some (Yh [Zz .i64 n,Zz .i64 n_1,Zu b,Zh (b_1++t2),Zz .i64 (Zy .i64 (n_2+1))])))) (chk (decide (0≤t1)) (chk (room (Zx b_1+Zx t0) 1) (some (Yh [Zz .i64 n,Zz .i64 n_1,Zu b,Zh (b_1++t0),Zz .i64 (Zy .i64 (n_2+1))]))))) (some (Ym (Yf 0,[Zz .i64 n,Zz .i64 n_1,Zu b,Zh b_1,Zz .i64 n_2]))))) [Zz .i64 n,Zz .i64 k,Zu little,Zh b,Zz .i64 0]) fun (r:Ex×List AV)=>cInt .i64 (Zd r) fun n r_1=>cInt .i64 r_1 fun n r_2=>cBool r_2 fun b r_3=>onCons r_3 fun x r_4=>Yg x fun b=>cInt .i64 r_4 fun n r_5=>onNil r_5 (exK r.1 none fun (j:Nat)=>sel (Xn j 0) (some (Zh b,[])) none)):Option (AV×Blocks))) (by kernel_rfl) ?_
  try dsimp only [cStr,cBs,cBool,cU8,cInt,cSl,l63]
  simp only [Zf,decide_eq_true_eq] at hpre
  obtain ⟨hk,hb⟩:=hpre
  have hk4:k.toNat≤4∧0≤k:=by omega
  rw [chk_of (Xz (by omega))]
  refine loop_rounds (fun i:Nat=>[Zz Zw n,Zz Zw k,Zu little,Zh (b++(Wg n k.toNat little).take i),Zz Zw (i:Int)]) (fun i=>i≤k.toNat) (fun i=>k.toNat-i)
   (fun r=>r=(Yf 0,[Zz Zw n,Zz Zw k,Zu little,Zh (b++Wg n k.toNat little),Zz Zw k])) 0 (Xv _) (by simp) ?_ ?_
  ·intro i hi
   simp only [A0]
   by_cases hlt:i<k.toNat
   ·have hs:=Kerb.take_succ_getD (l:=Wg n k.toNat little) (i:=i) (by rw [Kerb.putN_len];omega)
    have hg:=Kerb.putN_getD n k.toNat little hlt
    have hl:((Wg n k.toNat little).take i).length=i:=by simp [Kerb.putN_len];omega
    rw [sel_pos (by simp;omega)]
    have hw:∀ j:Nat,j<4→Zy Yd (Zy Zw (8*(j:Int)))=((8*j:Nat):Int):=fun j hj=>by
     rw [wrap_i64 (by omega) (by omega),Kerb.wrap_u64];omega
    have hm:∀ j:Nat,j<4→min (Zv ((8*j:Nat):Int)) (Zk Yd)=8*j:=fun j hj=>by
     have:Zk Yd=64:=rfl
     rw [this];omega
    cases little
    ·have e:Zy Zw (Zy Zw (k-1)-(i:Int))=((k.toNat-1-i:Nat):Int):=by
      rw [wrap_i64 (n:=k-1) (by omega) (by omega),wrap_i64 (by omega) (by omega)];omega
     rw [sel_neg rfl,e,hw _ (by omega),hm _ (by omega),Kerb.ubyte n (by omega),chk_of (by simp;omega),chk_of (Xz (by simp [hl];omega)),wrap_i64 (by omega) (by omega)]
     refine ⟨_,rfl,i+1,?_,by omega,by dsimp only;omega⟩
     dsimp only
     rw [hs,hg,← List.append_assoc]
     rfl
    ·rw [sel_pos rfl,hw _ (by omega),hm _ (by omega),Kerb.ubyte n (by omega),chk_of (by simp;omega),chk_of (Xz (by simp [hl];omega)),wrap_i64 (by omega) (by omega)]
     refine ⟨_,rfl,i+1,?_,by omega,by dsimp only;omega⟩
     dsimp only
     rw [hs,hg,← List.append_assoc]
     rfl
   ·rw [sel_neg (by simp;omega)]
    refine ⟨_,rfl,?_⟩
    show _=_
    rw [Zn (by rw [Kerb.putN_len];omega),show (i:Int)=k from by omega]
  ·rintro r rfl
   simp only [A0]
   rw [sel_pos (Yb _)]
 ·cases h
theorem w94:Walked Tryz.prog G 94 1 sp94:=by
 refine ⟨Tryz.f94,Tryz.func94,by decide +kernel,rfl,fun xs bl r h=> ?_⟩
 unfold sp94 at h
 split at h
 ·cases h
  refine Eq.trans (b:=(some (Yu 1 [Zq [(65:UInt8),(84:UInt8),(72:UInt8)],Zq [(66:UInt8),(79:UInt8),(83:UInt8)],Zq [(67:UInt8),(65:UInt8),(77:UInt8)]],[]):Option (AV×Blocks))) (by kernel_rfl) ?_
  rfl
 ·cases h
theorem w96:Walked Tryz.prog G 96 1 sp96:=by
 refine ⟨Tryz.f96,Tryz.func96,by decide +kernel,rfl,fun xs bl r h=> ?_⟩
 unfold sp96 at h
 split at h
 ·rename_i k els
  obtain ⟨hpre,h2⟩:=chk_inv h;cases h2
  refine Eq.trans (b:=(Zj (loopM (fun (st:List AV)=>cInt .i64 st fun n r=>cBool r fun b r=>cSl 1 r fun b_1 r=>cInt .i64 r fun n_1 r=>cInt .i64 r fun n_2 r=>onNil r (sel (decide (n_2<n_1)) (chk (decide (0≤n_2)&&decide (n_2<(↑(Zx b_1):Int))&&true) (Yx .i64 (Yz b_1 (Zv n_2) Xh) fun n_3=>sel (n_3==n) (some (Ym (Ex.ret,[Zz .i64 n,Zu true,Yu 1 b_1,Zz .i64 n_1,Zz .i64 n_2]))) (some (Yh [Zz .i64 n,Zu b,Yu 1 b_1,Zz .i64 n_1,Zz .i64 (Zy .i64 (n_2+1))])))) (some (Ym (Yf 0,[Zz .i64 n,Zu b,Yu 1 b_1,Zz .i64 n_1,Zz .i64 n_2]))))) [Zz .i64 k,Zu false,Yu 1 els,Zz .i64 (↑(Zx els):Int),Zz .i64 0]) fun (r:Ex×List AV)=>cInt .i64 (Zd r) fun n r_1=>cBool r_1 fun b r_2=>cSl 1 r_2 fun b_1 r_3=>cInt .i64 r_3 fun n r_4=>cInt .i64 r_4 fun n r_5=>onNil r_5 (exK r.1 (some (Zu b,[])) fun (j:Nat)=>sel (Xn j 0) (some (Zu false,[])) none):Option (AV×Blocks))) (by kernel_rfl) ?_
  try dsimp only [cStr,cBs,cBool,cU8,cInt,cSl,l63]
  simp only [Zf,decide_eq_true_eq] at hpre
  obtain ⟨ha,hl⟩:=hpre
  have hil:=Kerb.ints_len ha
  refine loop_rounds (fun i:Nat=>[Zz Zw k,Zu false,Yu 1 els,Zz Zw (els.length:Int),Zz Zw (i:Int)]) (fun i=>i≤els.length∧(k∈intsIn els↔k∈(intsIn els).drop i)) (fun i=>els.length-i)
   (fun r=>∃ (i:Nat) (x:Bool),r.2=[Zz Zw k,Zu x,Yu 1 els,Zz Zw (els.length:Int),Zz Zw (i:Int)]∧((r.1 = .ret∧x=true∧k∈intsIn els)∨(r.1 = .exit 0∧k ∉ intsIn els))) 0 ⟨Xv _,by simp⟩ rfl ?_ ?_
  ·rintro i ⟨hi,hm⟩
   simp only [A0]
   by_cases hlt:i<els.length
   ·obtain ⟨n,h1,h2⟩:=Kerb.ints_get ha hlt
    rw [sel_pos (by simp;omega),chk_of (by simp;omega),Yy,h1,onInt_int]
    rw [h2,List.mem_cons] at hm
    by_cases h3:n=k
    ·rw [sel_pos (by simpa using h3)]
     exact ⟨_,rfl,i,true,rfl,.inl ⟨rfl,rfl,hm.2 (.inl h3.symm)⟩⟩
    ·rw [sel_neg (by simpa using h3),wrap_i64 (by omega) (by omega)]
     exact ⟨_,rfl,i+1,rfl,⟨by omega,hm.trans ⟨fun h=>h.resolve_left fun e=>h3 e.symm,.inr⟩⟩,by dsimp only;omega⟩
   ·rw [sel_neg (by simp;omega)]
    refine ⟨_,rfl,i,false,rfl,.inr ⟨rfl,?_⟩⟩
    rw [hm,Wk (by omega)];simp
  ·rintro ⟨e,l⟩ ⟨i,x,rfl,⟨rfl,rfl,h⟩ | ⟨rfl,h⟩⟩
   ·simp [onCons,Yx,Ww,AV.onSl,onNil,exK,h]
   ·simp [onCons,Yx,Ww,AV.onSl,onNil,exK,h,sel]
 ·cases h
theorem w99:Walked Tryz.prog G 99 1 sp99:=by
 refine ⟨Tryz.f99,Tryz.func99,by decide +kernel,rfl,fun xs bl r h=> ?_⟩
 unfold sp99 at h
 split at h
 ·rename_i b pos n
  obtain ⟨hpre,h2⟩:=chk_inv h;cases h2
  refine Eq.trans (b:=(sel (decide (pos<0)) (some (Zz .i64 104,[])) (sel (decide (pos>(↑(Zx b):Int))) (some (Zz .i64 104,[])) (sel (decide (n<0)) (some (Zz .i64 104,[])) (sel (decide (n>Zy .i64 ((↑(Zx b):Int)-pos))) (some (Zz .i64 101,[])) (some (Zz .i64 0,[]))))):Option (AV×Blocks))) (by kernel_rfl) ?_
  simp only [decide_eq_true_eq] at hpre
  unfold Xw
  by_cases h1:pos<0
  ·simp [sel,h1]
  by_cases h2:(b.length:Int)<pos
  ·simp [sel,h1,h2]
  by_cases h3:n<0
  ·simp [sel,h1,h2,h3]
  rw [sel_neg (by simp;omega),sel_neg (by simp;omega),sel_neg (by simp;omega),wrap_i64 (by omega) (by omega),if_neg (by omega)]
  by_cases h4:(b.length:Int)-pos<n
  ·rw [sel_pos (by simp;omega),if_pos h4]
  ·rw [sel_neg (by simp;omega),if_neg h4]
 ·cases h
theorem w103:Walked Tryz.prog G 103 1 sp103:=by
 refine ⟨Tryz.f103,Tryz.func103,by decide +kernel,rfl,fun xs bl r h=> ?_⟩
 unfold sp103 at h
 split at h
 ·rename_i n m
  cases h
  refine Eq.trans (b:=(sel (decide (n≥0)) (some (Zu (decide (n≤m)),[])) (some (Zu false,[])):Option (AV×Blocks))) (by kernel_rfl) ?_
  by_cases h:0≤n<;>simp [sel,Xq,h]
 ·cases h
theorem w110:Walked Tryz.prog G 110 1 sp110:=by
 refine ⟨Tryz.f110,Tryz.func110,by decide +kernel,rfl,fun xs bl r h=> ?_⟩
 unfold sp110 at h
 split at h
 ·rename_i rl els n i
  obtain ⟨hpre,h2⟩:=chk_inv h;cases h2
  refine Eq.trans (b:=(Zj (loopM (fun (st:List AV)=>cStr st fun b r=>cStr r fun b_1 r=>cInt .i64 r fun n r=>cInt .i64 r fun n_1 r=>cInt .i64 r fun n_2 r=>cBool r fun b_2 r=>cSl 9 r fun b_3 r=>cInt .i64 r fun n_3 r=>cInt .i64 r fun n_4 r=>let t1:List AV:=[Zz .i64 n_2,Zu b_2,Yu 9 b_3,Zz .i64 n_3,Zz .i64 n_4];let t2:List AV:=[Yu 9 b_3,Zz .i64 n_3,Zz .i64 (Zy .i64 (n_4+1))];let t0:Option (List AV ⊕ Ex×List AV):=some (Yh (Zq b::Zq b_1::Zz .i64 n::Zz .i64 n_1::Zz .i64 n_2::Zu b_2::t2));onNil r (sel (decide (n_4<n_3)) (chk (decide (0≤n_4)&&decide (n_4<(↑(Zx b_3):Int))&&true) (AV.onAgg (Yz b_3 (Zv n_4) Xh) fun cs=>cStr cs fun b_4 r=>cStr r fun b_5 r=>cInt .u64 r fun n_5 r=>cInt .i64 r fun n_6 r=>cInt .i64 r fun n_7 r=>cInt .i64 r fun n_8 r=>cInt .i64 r fun n_9 r=>cInt .i64 r fun n_10 r=>cInt .i64 r fun n_11 r=>onNil r (sel (!b_4==b) t0 (sel (!b_5==b_1) t0 (sel b_2 (some (Ym (Ex.ret,Zq b::Zq b_1::Zz .i64 0::Zz .i64 9::t1))) (some (Yh (Zq b::Zq b_1::Zz .i64 n::Zz .i64 n_1::Zz .i64 n_4::Zu true::t2)))))))) (some (Ym (Yf 0,Zq b::Zq b_1::Zz .i64 n::Zz .i64 n_1::t1))))) [Zq n,Zq i,Zz .i64 0,Zz .i64 0,Zz .i64 0,Zu false,Yu 9 els,Zz .i64 (↑(Zx els):Int),Zz .i64 0]) fun (r:Ex×List AV)=>cStr (Zd r) fun b r_1=>cStr r_1 fun b r_2=>cInt .i64 r_2 fun n r_3=>cInt .i64 r_3 fun n_1 r_4=>cInt .i64 r_4 fun n_2 r_5=>cBool r_5 fun b r_6=>cSl 9 r_6 fun b_1 r_7=>cInt .i64 r_7 fun n_3 r_8=>cInt .i64 r_8 fun n_4 r_9=>onNil r_9 (exK r.1 (some (Zg [Zz .i64 n,Zz .i64 n_1],[])) fun (j:Nat)=>sel (Xn j 0) (sel (!b) (some (Zg [Zz .i64 0,Zz .i64 8],[])) (some (Zg [Zz .i64 n_2,Zz .i64 0],[]))) none):Option (AV×Blocks))) (by kernel_rfl) ?_
  try dsimp only [cStr,cBs,cBool,cU8,cInt,cSl,l63]
  simp only [Zf,decide_eq_true_eq] at hpre
  obtain ⟨hall,hlen⟩:=hpre
  obtain ⟨es,rfl,hok⟩:=Kerb.ents_of hall
  rw [Kerb.map_toEntry]
  simp only [List.length_map] at hlen ⊢
  refine loop_rounds (fun q:Nat×Int×Bool=>[Zq n,Zq i,Zz Zw 0,Zz Zw 0,Zz Zw q.2.1,Zu q.2.2,Yu 9 (es.map Wu),Zz Zw (es.length:Int),Zz Zw (q.1:Int)])
   (fun q=>q.1≤es.length∧((q.2.2=false∧(es.take q.1).countP (Zp n i)=0)∨(q.2.2=true∧(es.take q.1).countP (Zp n i)=1∧q.2.1=(es.findIdx (Zp n i):Int)))) (fun q=>es.length-q.1)
   (fun r=>∃ (a b c:Int) (d:Bool) (j:Nat),r.2=[Zq n,Zq i,Zz Zw a,Zz Zw b,Zz Zw c,Zu d,Yu 9 (es.map Wu),Zz Zw (es.length:Int),Zz Zw (j:Int)]∧((r.1 = .ret∧(a,b)=Vy es n i)∨(r.1 = .exit 0∧((d=false∧(0,8)=Vy es n i)∨(d=true∧(c,0)=Vy es n i))))) (0,0,false) ⟨Xv _,.inl ⟨rfl,rfl⟩⟩ rfl ?_ ?_
  ·rintro ⟨j,c,d⟩ ⟨hj,hinv⟩
   simp only at hj hinv
   simp only [↓A0,A0]
   rcases Nat.lt_or_ge j es.length with h | h
   ·have hc:=Kerb.count_take (p:=Zp n i) h
    have hle:=Kerb.count_le (p:=Zp n i) (es:=es) (j+1)
    rw [sel_pos (by simp;omega),chk_of (by simp;omega),Yy,Kerb.getD_ent h]
    have hx:=Kerb.find_first (p:=Zp n i) h
    generalize es.getD j Kerb.noEntry=e at hc hx
    simp only [Wu,↓A0,A0]
    rw [wrap_i64 (by omega) (by omega)]
    by_cases h1:e.name=n
    ·by_cases h2:e.inst=i
     ·have hp:Zp n i e=true:=by simp [Zp,h1,h2]
      rw [hp,cond_true] at hc
      rw [sel_neg (by simp [h1]),sel_neg (by simp [h2])]
      rcases hinv with ⟨rfl,h0⟩ | ⟨rfl,h0,h3⟩
      ·refine ⟨_,rfl,(j+1,(j:Int),true),rfl,⟨by simp only;omega,.inr ⟨rfl,by simp only;omega,by rw [hx h0 hp]⟩⟩,by simp only;omega⟩
      ·refine ⟨_,rfl,0,9,c,true,j,rfl,.inl ⟨rfl,?_⟩⟩
       unfold Vy
       rw [if_neg (by omega),if_pos (by omega)]
     ·have hp:Zp n i e=false:=by simp [Zp,h2]
      rw [hp,cond_false] at hc
      rw [sel_neg (by simp [h1]),sel_pos (by simpa using h2)]
      exact ⟨_,rfl,(j+1,c,d),rfl,⟨by simp only;omega,by simp only;rw [hc];simpa using hinv⟩,by simp only;omega⟩
    ·have hp:Zp n i e=false:=by simp [Zp,h1]
     rw [hp,cond_false] at hc
     rw [sel_pos (by simpa using h1)]
     exact ⟨_,rfl,(j+1,c,d),rfl,⟨by simp only;omega,by simp only;rw [hc];simpa using hinv⟩,by simp only;omega⟩
   ·rw [sel_neg (by simp;omega)]
    rw [Zn h] at hinv
    refine ⟨_,rfl,0,0,c,d,j,rfl,.inr ⟨rfl,?_⟩⟩
    unfold Vy
    rcases hinv with ⟨rfl,h0⟩ | ⟨rfl,h0,rfl⟩
    ·exact .inl ⟨rfl,by rw [if_pos h0]⟩
    ·exact .inr ⟨rfl,by rw [if_neg (by omega),if_neg (by omega)]⟩
  ·rintro ⟨e,l⟩ ⟨a,b,c,d,j,rfl,⟨rfl,h⟩ | ⟨rfl,⟨rfl,h⟩ | ⟨rfl,h⟩⟩⟩
   ·rw [← h];rfl
   ·rw [← h];rfl
   ·rw [← h];rfl
 ·cases h
theorem w112:Walked Tryz.prog G 112 1 sp112:=by
 refine ⟨Tryz.f112,Tryz.func112,by decide +kernel,rfl,fun xs bl r h=> ?_⟩
 unfold sp112 at h
 split at h
 ·rename_i n els
  obtain ⟨hpre,h2⟩:=chk_inv h;cases h2
  refine Eq.trans (b:=(Zj (loopM (fun (st:List AV)=>onCons st fun x r=>Yx .i64 x fun n=>onCons r fun x r=>AV.onSl 1 x fun b=>onCons r fun x r=>Yx .i64 x fun n_1=>onCons r fun x r=>Yx .i64 x fun n_2=>onNil r (sel (decide (n_2<n_1)) (chk (decide (0≤n_2)&&decide (n_2<(↑(Zx b):Int))&&true) (Yx .i64 (Yz b (Zv n_2) Xh) fun n_3=>sel (decide (n_3<n)) (some (Yh [Zz .i64 n_3,Yu 1 b,Zz .i64 n_1,Zz .i64 (Zy .i64 (n_2+1))])) (some (Yh [Zz .i64 n,Yu 1 b,Zz .i64 n_1,Zz .i64 (Zy .i64 (n_2+1))])))) (some (Ym (Yf 0,[Zz .i64 n,Yu 1 b,Zz .i64 n_1,Zz .i64 n_2]))))) [Zz .i64 n,Yu 1 els,Zz .i64 (↑(Zx els):Int),Zz .i64 0]) fun (r:Ex×List AV)=>onCons (Zd r) fun x r_1=>Yx .i64 x fun n=>onCons r_1 fun x r_2=>AV.onSl 1 x fun b=>onCons r_2 fun x r_3=>Yx .i64 x fun n_1=>onCons r_3 fun x r_4=>Yx .i64 x fun n_2=>onNil r_4 (exK r.1 none fun (j:Nat)=>sel (Xn j 0) (some (Zz .i64 n,[])) none):Option (AV×Blocks))) (by kernel_rfl) ?_
  simp only [Zf,decide_eq_true_eq] at hpre
  obtain ⟨ha,hl⟩:=hpre
  have hil:=Kerb.ints_len ha
  refine loop_rounds (fun i:Nat=>[Zz Zw (Xp n ((intsIn els).take i)),Yu 1 els,Zz Zw (els.length:Int),Zz Zw (i:Int)]) (fun i=>i≤els.length) (fun i=>els.length-i)
   (fun r=>r=(.exit 0,[Zz Zw (Xp n (intsIn els)),Yu 1 els,Zz Zw (els.length:Int),Zz Zw (els.length:Int)])) 0 (Xv _) rfl ?_ ?_
  ·intro i hi
   simp only [↓A0,A0]
   rcases Nat.lt_or_ge i els.length with h | h
   ·obtain ⟨m,h1,h2⟩:=Kerb.ints_get ha h
    rw [sel_pos (by simp;omega),chk_of (by simp;omega),Yy,h1,onInt_int]
    have ht:(intsIn els).take (i+1)=(intsIn els).take i++[m]:=by
     have h4:i<(intsIn els).length:=by omega
     rw [List.take_succ_eq_append_getElem h4]
     rw [List.drop_eq_getElem_cons h4] at h2
     rw [(List.cons.inj h2).1]
    have hs:Xp n ((intsIn els).take (i+1))=Xm (Xp n ((intsIn els).take i)) m:=by rw [ht];simp [Xp]
    rw [wrap_i64 (by omega) (by omega)]
    unfold Xm at hs
    by_cases hm:m<Xp n ((intsIn els).take i)
    ·rw [sel_pos (by simpa using hm)]
     rw [if_pos hm] at hs
     exact ⟨_,rfl,i+1,by dsimp only;rw [hs];rfl,by omega,by dsimp only;omega⟩
    ·rw [sel_neg (by simpa using hm)]
     rw [if_neg hm] at hs
     exact ⟨_,rfl,i+1,by dsimp only;rw [hs];rfl,by omega,by dsimp only;omega⟩
   ·have h1:i=els.length:=by omega
    subst h1
    rw [sel_neg (by simp)]
    refine ⟨_,rfl,?_⟩
    show _=_
    rw [Zn (by omega)]
  ·rintro _ rfl
   rfl
 ·cases h
theorem w113:Walked Tryz.prog G 113 1 sp113:=by
 refine ⟨Tryz.f113,Tryz.func113,by decide +kernel,rfl,fun xs bl r h=> ?_⟩
 unfold sp113 at h
 split at h
 ·rename_i n
  cases h
  refine Eq.trans (b:=(sel (decide (n≥0)) (some (Zu (decide (n≤4294967295)),[])) (some (Zu false,[])):Option (AV×Blocks))) (by kernel_rfl) ?_
  by_cases h:0≤n<;>simp [sel,Xq,h]
 ·cases h
theorem w115:Walked Tryz.prog G 115 1 sp115:=by
 refine ⟨Tryz.f115,Tryz.func115,by decide +kernel,rfl,fun xs bl r h=> ?_⟩
 unfold sp115 at h
 split at h
 ·rename_i k
  cases h
  refine Eq.trans (b:=(sel (k==1) (some (Zu true,[])) (some (Zu (k==2),[])):Option (AV×Blocks))) (by kernel_rfl) ?_
  unfold Vz
  cases (k==(1:Int))<;>rfl
 ·cases h
theorem w116:Walked Tryz.prog G 116 1 sp116:=by
 refine ⟨Tryz.f116,Tryz.func116,by decide +kernel,rfl,fun xs bl r h=> ?_⟩
 unfold sp116 at h
 split at h
 ·rename_i k
  cases h
  refine Eq.trans (b:=(sel (decide (k≥1)) (some (Zu (decide (k≤4294967295)),[])) (some (Zu false,[])):Option (AV×Blocks))) (by kernel_rfl) ?_
  by_cases h:1≤k<;>simp [sel,Wn,h]
 ·cases h
theorem w119:Walked Tryz.prog G 119 1 sp119:=by
 refine ⟨Tryz.f119,Tryz.func119,by decide +kernel,rfl,fun xs bl r h=> ?_⟩
 unfold sp119 at h
 split at h
 ·rename_i k
  obtain ⟨hpre,h2⟩:=chk_inv h;cases h2
  refine Eq.trans (b:=(Zj (loopM (fun (st:List AV)=>cInt .u64 st fun n r=>onCons r fun x r=>Yg x fun b=>cInt .i64 r fun n_1 r=>cInt .i64 r fun n_2 r=>let t0:Int:=Zy .i64 (8*Zy .i64 (7-n_2));onNil r (sel (decide (n_2<n_1)) (chk (decide (0≤t0)) (chk (decide (0≤n_2)&&decide (n_2<(↑(Zx b):Int))) (chk (Nat.blt (Zv n_2) (Zx b)&&true&&true&&true&&true) (some (Yh [Zz .u64 n,Zh (List.set b (Zv n_2) (Yj (Zv (Zy .u8 (Int.fdiv n (2 ^ min (Zv t0) (Zk .u64))))))),Zz .i64 n_1,Zz .i64 (Zy .i64 (n_2+1))]))))) (some (Ym (Yf 0,[Zz .u64 n,Zh b,Zz .i64 n_1,Zz .i64 n_2]))))) [Zz .u64 k,Zh (Wv (Zv 8) (0:UInt8)),Zz .i64 (↑(Zx (Wv (Zv 8) (0:UInt8))):Int),Zz .i64 0]) fun (r:Ex×List AV)=>cInt .u64 (Zd r) fun n r_1=>onCons r_1 fun x r_2=>Yg x fun b=>cInt .i64 r_2 fun n r_3=>cInt .i64 r_3 fun n r_4=>onNil r_4 (exK r.1 none fun (j:Nat)=>sel (Xn j 0) (some (Yv b,[])) none):Option (AV×Blocks))) (by kernel_rfl) ?_
  try dsimp only [cStr,cBs,cBool,cU8,cInt,cSl,l63]
  refine loop_unroll 9 (Yf 0,[Zz Yd k,Zh [Xb k 56,Xb k 48,Xb k 40,Xb k 32,Xb k 24,Xb k 16,Xb k 8,Xb k 0],Zz Zw 8,Zz Zw 8]) (by kernel_rfl) ?_
  simp only [A0]
  rw [sel_pos (Yb _)]
  simp [Kerb.bfd_eq,Kerb.keyBytes,Kerb.byteAt,List.range_succ]
 ·cases h
theorem w121:Walked Tryz.prog G 121 1 sp121:=by
 refine ⟨Tryz.f121,Tryz.func121,by decide +kernel,rfl,fun xs bl r h=> ?_⟩
 unfold sp121 at h
 split at h
 ·rename_i n
  cases h
  refine Eq.trans (b:=(sel (decide (n≥0)) (some (Zu (decide (n≤255)),[])) (some (Zu false,[])):Option (AV×Blocks))) (by kernel_rfl) ?_
  by_cases h:0≤n<;>simp [sel,Xq,h]
 ·cases h
theorem w122:Walked Tryz.prog G 122 1 sp122:=by
 refine ⟨Tryz.f122,Tryz.func122,by decide +kernel,rfl,fun xs bl r h=> ?_⟩
 unfold sp122 at h
 split at h
 ·rename_i k
  cases h
  refine Eq.trans (b:=(sel (decide (k≥1)) (some (Zu (decide (k≤10)),[])) (some (Zu false,[])):Option (AV×Blocks))) (by kernel_rfl) ?_
  by_cases h:1≤k<;>simp [sel,Wy,h]
 ·cases h
theorem w125:Walked Tryz.prog G 125 1 sp125:=by
 refine ⟨Tryz.f125,Tryz.func125,by decide +kernel,rfl,fun xs bl r h=> ?_⟩
 unfold sp125 at h
 split at h
 ·rename_i c n
  cases h
  refine Eq.trans (b:=(sel (!c==1) (sel (!c==2) (some (Zz .u64 0,[])) (sel (decide (n<1)) (some (Zz .u64 0,[])) (sel (decide (n>4294967295)) (some (Zz .u64 0,[])) (some (Zz .u64 (Zy .u64 (↑(BitVec.toNat (BitVec.ofInt (Zk .u64) (Zy .u64 (Zy .u64 c*2 ^ min (Zv 56) (Zk .u64))) ||| BitVec.ofInt (Zk .u64) (Zy .u64 n))):Int)),[]))))) (sel (decide (n<1)) (some (Zz .u64 0,[])) (sel (decide (n>4294967295)) (some (Zz .u64 0,[])) (some (Zz .u64 (Zy .u64 (↑(BitVec.toNat (BitVec.ofInt (Zk .u64) (Zy .u64 (Zy .u64 c*2 ^ min (Zv 56) (Zk .u64))) ||| BitVec.ofInt (Zk .u64) (Zy .u64 n))):Int)),[])))):Option (AV×Blocks))) (by kernel_rfl) ?_
  unfold Vz Wn
  by_cases hc:c=1∨c=2
  case neg =>
   have q1:(c==(1:Int))=false:=by simp;omega
   have q2:(c==(2:Int))=false:=by simp;omega
   rw [q1,q2]
   rfl
  by_cases hn:1≤n∧n≤4294967295
  case neg =>
   have q:(decide (1≤n)&&decide (n≤4294967295))=false:=by
    rw [Bool.eq_false_iff]
    simp
    omega
   rw [q,Bool.and_false]
   have key:(sel (decide (n<(1:Int))) (some (Zz .u64 (0:Int),([]:Blocks))) (sel (decide (n>(4294967295:Int))) (some (Zz .u64 (0:Int),[])) (some (Zz Yd (Zy Yd ((BitVec.toNat (BitVec.ofInt (Zk Yd) (Zy Yd (Zy Yd c*(2:Int) ^ min (Zv (56:Int)) (Zk Yd))) ||| BitVec.ofInt (Zk Yd) (Zy Yd n)):Nat):Int)),[]))))=some (Zz .u64 0,[]):=by
    by_cases hl:n<1
    ·rw [sel_pos (by simpa using hl)]
    ·rw [sel_neg (by simpa using hl),sel_pos (by simp;omega)]
   rcases hc with rfl | rfl
   ·rw [sel_neg (by decide)];exact key
   ·rw [sel_pos (by decide),sel_neg (by decide)];exact key
  have q:(decide (1≤n)&&decide (n≤4294967295))=true:=by simp;omega
  have q2:(c==(1:Int)||c==(2:Int))=true:=by simpa using hc
  rw [q,q2,Kerb.key_make hc hn.1 hn.2]
  rcases hc with rfl | rfl
  ·rw [sel_neg (by decide),sel_neg (by simp;omega),sel_neg (by simp;omega)]
   rfl
  ·rw [sel_pos (by decide),sel_neg (by decide),sel_neg (by simp;omega),sel_neg (by simp;omega)]
   rfl
 ·cases h
theorem w127:Walked Tryz.prog G 127 1 sp127:=by
 refine ⟨Tryz.f127,Tryz.func127,by decide +kernel,rfl,fun xs bl r h=> ?_⟩
 unfold sp127 at h
 split at h
 ·rename_i k
  cases h
  refine Eq.trans (b:=(sel (decide (k≥1)) (some (Zu (decide (k≤10)),[])) (some (Zu false,[])):Option (AV×Blocks))) (by kernel_rfl) ?_
  by_cases h:1≤k<;>simp [sel,Wy,h]
 ·cases h
theorem w135:Walked Tryz.prog G 135 1 sp135:=by
 refine ⟨Tryz.f135,Tryz.func135,by decide +kernel,rfl,fun xs bl r h=> ?_⟩
 unfold sp135 at h
 split at h
 ·rename_i n m
  cases h
  refine Eq.trans (b:=(sel (decide (n≥0)) (some (Zu (decide (n≤m)),[])) (some (Zu false,[])):Option (AV×Blocks))) (by kernel_rfl) ?_
  by_cases h:0≤n<;>simp [sel,Xq,h]
 ·cases h
theorem w137:Walked Tryz.prog G 137 1 sp137:=by
 refine ⟨Tryz.f137,Tryz.func137,by decide +kernel,rfl,fun xs bl r h=> ?_⟩
 unfold sp137 at h
 split at h
 ·rename_i n m
  cases h
  refine Eq.trans (b:=(sel (decide (n≥0)) (some (Zu (decide (n≤m)),[])) (some (Zu false,[])):Option (AV×Blocks))) (by kernel_rfl) ?_
  by_cases h:0≤n<;>simp [sel,Xq,h]
 ·cases h
theorem w32:Walked Tryz.prog G 32 2 sp32:=by
 refine ⟨Tryz.f32,Tryz.func32,by decide +kernel,rfl,fun xs bl r h=> ?_⟩
 unfold sp32 at h
 split at h
 ·rename_i b els
  obtain ⟨hpre,h2⟩:=chk_inv h;cases h2
  refine Eq.trans (b:=(sel (!Kerb.Head.err (Yk b)==0) (some (Zg [Zu false,Zz .i64 (Kerb.Head.err (Yk b))],[])) (Zj (loopM (fun (st:List AV)=>cSl 1 st fun b r=>cBool r fun b_1 r=>cInt .i64 r fun n r=>cInt .i64 r fun n_1 r=>cBool r fun b_2 r=>cInt .i64 r fun n_2 r=>onNil r (sel (decide (n_2<(↑(Zx b):Int))) (chk (decide (0≤n_2)&&decide (n_2<(↑(Zx b):Int))&&true) (Yx .i64 (Yz b (Zv n_2) Xh) fun n_3=>sel (n_3==n_1) (some (Ym (Ex.ret,[Yu 1 b,Zu b_2,Zz .i64 0,Zz .i64 n_1,Zu b_2,Zz .i64 n_2]))) (some (Yh [Yu 1 b,Zu b_1,Zz .i64 n,Zz .i64 n_1,Zu b_2,Zz .i64 (Zy .i64 (n_2+1))])))) (some (Ym (Yf 0,[Yu 1 b,Zu b_1,Zz .i64 n,Zz .i64 n_1,Zu b_2,Zz .i64 n_2]))))) [Yu 1 els,Zu false,Zz .i64 0,Zz .i64 (Kerb.Head.kind (Yk b)),Zu (Kerb.Head.little (Yk b)),Zz .i64 0]) fun (r:Ex×List AV)=>cSl 1 (Zd r) fun b r_1=>cBool r_1 fun b r_2=>cInt .i64 r_2 fun n r_3=>cInt .i64 r_3 fun n_1 r_4=>cBool r_4 fun b_1 r_5=>cInt .i64 r_5 fun n_2 r_6=>onNil r_6 (exK r.1 (some (Zg [Zu b,Zz .i64 n],[])) fun (j:Nat)=>sel (Xn j 0) (some (Zg [Zu false,Zz .i64 40],[])) none)):Option (AV×Blocks))) (by kernel_rfl) ?_
  try dsimp only [cStr,cBs,cBool,cU8,cInt,cSl,l63]
  simp only [Zf,decide_eq_true_eq] at hpre
  obtain ⟨ha,hl⟩:=hpre
  have hil:=Kerb.ints_len ha
  unfold Kerb.headIs
  by_cases he:(Yk b).err=0
  case neg =>
   rw [sel_pos (by simpa using he),if_pos he]
  rw [sel_neg (by simp [he]),if_neg (by simpa using he)]
  generalize (Yk b).kind=k
  generalize (Yk b).little=lt
  refine loop_rounds (fun i:Nat=>[Yu 1 els,Zu false,Zz Zw 0,Zz Zw k,Zu lt,Zz Zw (i:Int)]) (fun i=>i≤els.length∧(k∈intsIn els↔k∈(intsIn els).drop i)) (fun i=>els.length-i)
   (fun r=>∃ (i:Nat) (x:Bool),r.2=[Yu 1 els,Zu x,Zz Zw 0,Zz Zw k,Zu lt,Zz Zw (i:Int)]∧((r.1 = .ret∧x=lt∧k∈intsIn els)∨(r.1 = .exit 0∧k ∉ intsIn els))) 0 ⟨Xv _,by simp⟩ rfl ?_ ?_
  ·rintro i ⟨hi,hm⟩
   simp only [A0]
   by_cases hlt:i<els.length
   ·obtain ⟨n,h1,h2⟩:=Kerb.ints_get ha hlt
    rw [sel_pos (by simp;omega),chk_of (by simp;omega),Yy,h1,onInt_int]
    rw [h2,List.mem_cons] at hm
    by_cases h3:n=k
    ·rw [sel_pos (by simpa using h3)]
     exact ⟨_,rfl,i,lt,rfl,.inl ⟨rfl,rfl,hm.2 (.inl h3.symm)⟩⟩
    ·rw [sel_neg (by simpa using h3),wrap_i64 (by omega) (by omega)]
     exact ⟨_,rfl,i+1,rfl,⟨by omega,hm.trans ⟨fun h=>h.resolve_left fun e=>h3 e.symm,.inr⟩⟩,by dsimp only;omega⟩
   ·rw [sel_neg (by simp;omega)]
    refine ⟨_,rfl,i,false,rfl,.inr ⟨rfl,?_⟩⟩
    rw [hm,Wk (by omega)];simp
  ·rintro ⟨e,l⟩ ⟨i,x,rfl,⟨rfl,rfl,h⟩ | ⟨rfl,h⟩⟩
   ·simp only [A0]
    rw [if_pos (by simpa using h)]
   ·simp only [A0]
    rw [if_neg (by simpa using h),sel_pos (Yb _)]
 ·cases h
theorem w36:Walked Tryz.prog G 36 2 sp36:=by
 refine ⟨Tryz.f36,Tryz.func36,by decide +kernel,rfl,fun xs bl r h=> ?_⟩
 unfold sp36 at h
 split at h
 ·rename_i B at_ li bad
  obtain ⟨hpre,h2⟩:=chk_inv h;cases h2
  show runFnH (G.env 36 2) G.rts (G.own 36) Tryz.f36 _ _ [0]=_
  refine Eq.trans (b:=(Zj (chk (decide (Zx B≤140737488355328)) (some (Zg [Zq (Wf (Xx B at_)),Zz .i64 (Wj (Xx B at_)),Zz .i64 (Xg (Xx B at_))],[]))) fun (r:AV×Blocks)=>onNilB (Zd r) (Wm (Yw r) fun vs=>onCons vs fun x r=>Xf x fun b=>onCons r fun x r=>Yx .i64 x fun n=>onCons r fun x r=>Yx .i64 x fun n_1=>onNil r (some (Zq b,[[Yv B,Zz .i64 (bif bad || !n_1==0 then at_ else n),Zu li,Zu (bad || !n_1==0)]]))):Option (AV×Blocks))) (by kernel_rfl) ?_
  simp only [A0]
  rw [chk_of hpre]
 ·cases h
theorem w38:Walked Tryz.prog G 38 2 sp38:=by
 refine ⟨Tryz.f38,Tryz.func38,by decide +kernel,rfl,fun xs bl r h=> ?_⟩
 unfold sp38 at h
 split at h
 ·rename_i n B at_ li bad
  obtain ⟨hpre,h2⟩:=chk_inv h;cases h2
  show runFnH (G.env 38 2) G.rts (G.own 38) Tryz.f38 _ _ [0]=_
  refine Eq.trans (b:=(Zj (chk (decide (Zx B≤140737488355328)) (some (Zg [Yv (Wf (Wb B at_ n)),Zz .i64 (Wj (Wb B at_ n)),Zz .i64 (Xg (Wb B at_ n))],[]))) fun (r:AV×Blocks)=>onNilB (Zd r) (Wm (Yw r) fun vs=>onCons vs fun x r=>AV.onBs x fun b=>onCons r fun x r=>Yx .i64 x fun n=>onCons r fun x r=>Yx .i64 x fun n_1=>onNil r (some (Yv b,[[Yv B,Zz .i64 (bif bad || !n_1==0 then at_ else n),Zu li,Zu (bad || !n_1==0)]]))):Option (AV×Blocks))) (by kernel_rfl) ?_
  simp only [A0]
  rw [chk_of hpre]
 ·cases h
theorem w45:Walked Tryz.prog G 45 2 sp45:=by
 refine ⟨Tryz.f45,Tryz.func45,by decide +kernel,rfl,fun xs bl r h=> ?_⟩
 unfold sp45 at h
 split at h
 ·rename_i s
  obtain ⟨hpre,h2⟩:=chk_inv h;cases h2
  refine Eq.trans (b:=(sel (decide ((↑(Zx s):Int)>0)) (Zj (chk (decide (Zx s≤9223372036854775807)&&true) (some (Zu (Xk s [(46:UInt8),(64:UInt8)]&&decide (Zx s≤39)),[]))) fun (r:AV×Blocks)=>onNilB (Zd r) (Ww (Yw r) fun b=>some (Zu b,[]))) (some (Zu false,[])):Option (AV×Blocks))) (by kernel_rfl) ?_
  simp only [A0]
  rw [chk_of (by rw [hpre];rfl)]
  simp only [Kerb.validName]
  cases s with
  | nil=>rfl
  | cons x r =>
   rw [sel_pos (by first | (simp;done) | (simp;omega)),Bool.and_comm]
   rfl
 ·cases h
theorem w46:Walked Tryz.prog G 46 2 sp46:=by
 refine ⟨Tryz.f46,Tryz.func46,by decide +kernel,rfl,fun xs bl r h=> ?_⟩
 unfold sp46 at h
 split at h
 ·rename_i s
  obtain ⟨hpre,h2⟩:=chk_inv h;cases h2
  refine Eq.trans (b:=(Zj (chk (decide (Zx s≤9223372036854775807)&&true) (some (Zu (Xk s [(64:UInt8)]&&decide (Zx s≤39)),[]))) fun (r:AV×Blocks)=>onNilB (Zd r) (Ww (Yw r) fun b=>some (Zu b,[])):Option (AV×Blocks))) (by kernel_rfl) ?_
  simp only [A0]
  rw [chk_of (by rw [hpre];rfl),Bool.and_comm]
  rfl
 ·cases h
theorem w48:Walked Tryz.prog G 48 2 sp48:=by
 refine ⟨Tryz.f48,Tryz.func48,by decide +kernel,rfl,fun xs bl r h=> ?_⟩
 unfold sp48 at h
 split at h
 ·rename_i b x y z
  obtain ⟨hpre,h2⟩:=chk_inv h;cases h2
  refine Eq.trans (b:=(Zj (chk (decide (Zx b+Zx x≤70368744177664)) (some (Zh (Wp b x),[]))) fun (r:AV×Blocks)=>onNilB (Zd r) (Yg (Yw r) fun l=>Zj (chk (decide (Zx l+Zx y≤70368744177664)) (some (Zh (Wp l y),[]))) fun (r:AV×Blocks)=>onNilB (Zd r) (Yg (Yw r) fun l=>Zj (chk (decide (Zx l+Zx z≤70368744177664)) (some (Zh (Wp l z),[]))) fun (r:AV×Blocks)=>onNilB (Zd r) (Yg (Yw r) fun l=>some (Yv l,[])))):Option (AV×Blocks))) (by kernel_rfl) ?_
  simp only [decide_eq_true_eq] at hpre
  simp only [A0]
  rw [chk_of (by simp;omega),chk_of (by simp [Wp];omega),chk_of (by simp [Wp];omega)]
  rfl
 ·cases h
theorem w50:Walked Tryz.prog G 50 2 sp50:=by
 refine ⟨Tryz.f50,Tryz.func50,by decide +kernel,rfl,fun xs bl r h=> ?_⟩
 unfold sp50 at h
 split at h
 ·rename_i b n
  obtain ⟨hpre,h2⟩:=chk_inv h;cases h2
  refine Eq.trans (b:=(Zj (chk (decide (Zx b≤70368744177664)) (some (Zh (b++Wg n (Zv 1) false),[]))) fun (r:AV×Blocks)=>onNilB (Zd r) (Yg (Yw r) fun l=>some (Zh l,[])):Option (AV×Blocks))) (by kernel_rfl) ?_
  simp only [decide_eq_true_eq] at hpre
  simp only [A0]
  rw [chk_of (by simp;omega)]
  rfl
 ·cases h
theorem w51:Walked Tryz.prog G 51 2 sp51:=by
 refine ⟨Tryz.f51,Tryz.func51,by decide +kernel,rfl,fun xs bl r h=> ?_⟩
 unfold sp51 at h
 split at h
 ·rename_i b n little
  obtain ⟨hpre,h2⟩:=chk_inv h;cases h2
  refine Eq.trans (b:=(Zj (chk (decide (Zx b≤70368744177664)) (some (Zh (b++Wg n (Zv 4) little),[]))) fun (r:AV×Blocks)=>onNilB (Zd r) (Yg (Yw r) fun l=>some (Zh l,[])):Option (AV×Blocks))) (by kernel_rfl) ?_
  simp only [decide_eq_true_eq] at hpre
  simp only [A0]
  rw [chk_of (by simp;omega)]
  rfl
 ·cases h
theorem w53:Walked Tryz.prog G 53 2 sp53:=by
 refine ⟨Tryz.f53,Tryz.func53,by decide +kernel,rfl,fun xs bl r h=> ?_⟩
 unfold sp53 at h
 split at h
 ·rename_i n
  obtain ⟨hpre,h2⟩:=chk_inv h;cases h2
  refine Eq.trans (b:=(chk (decide (0≤Zb n 3)&&decide (Zb n 3<(↑(Zx [Zq [(65:UInt8),(84:UInt8),(72:UInt8)],Zq [(66:UInt8),(79:UInt8),(83:UInt8)],Zq [(67:UInt8),(65:UInt8),(77:UInt8)]]):Int))&&true) (Xf (Yz [Zq [(65:UInt8),(84:UInt8),(72:UInt8)],Zq [(66:UInt8),(79:UInt8),(83:UInt8)],Zq [(67:UInt8),(65:UInt8),(77:UInt8)]] (Zv (Zb n 3)) Xh) fun b=>some (Zq b,[])):Option (AV×Blocks))) (by kernel_rfl) ?_
  have hn:0≤n:=by first | exact of_decide_eq_true hpre | (simp only [Zf,decide_eq_true_eq] at hpre;exact hpre.1)
  have ht:Zb n 3=n % 3:=Xy hn
  have hcase:n % 3=0∨n % 3=1∨n % 3=2:=by omega
  rcases hcase with e | e | e<;>simp [ht,e,chk,Xf,Kerb.realm]
 ·cases h
theorem w71:Walked Tryz.prog G 71 2 sp71:=by
 refine ⟨Tryz.f71,Tryz.func71,by decide +kernel,rfl,fun xs bl r h=> ?_⟩
 unfold sp71 at h
 split at h
 ·rename_i k
  obtain ⟨hpre,h2⟩:=chk_inv h;cases h2
  refine Eq.trans (b:=(sel (!Vz (Zy .i64 (Int.fdiv k (2 ^ min (Zv 56) (Zk .u64))))) (some (Zg [Zz .i64 0,Zz .i64 0,Zu false],[])) (sel (!Wn (Zy .i64 (Zy .u64 (↑(BitVec.toNat (BitVec.ofInt (Zk .u64) k &&& BitVec.ofInt (Zk .u64) 72057594037927935)):Int)))) (some (Zg [Zz .i64 0,Zz .i64 0,Zu false],[])) (some (Zg [Zz .i64 (Zy .i64 (Int.fdiv k (2 ^ min (Zv 56) (Zk .u64)))),Zz .i64 (Zy .i64 (Zy .u64 (↑(BitVec.toNat (BitVec.ofInt (Zk .u64) k &&& BitVec.ofInt (Zk .u64) 72057594037927935)):Int))),Zu true],[]))):Option (AV×Blocks))) (by kernel_rfl) ?_
  simp only [Zf,decide_eq_true_eq] at hpre
  obtain ⟨h0,h1⟩:=hpre
  rw [Kerb.key_hi h0 h1,Kerb.key_lo h0 h1]
  unfold Xj
  cases Vz (Kerb.keyClass k)
  ·rfl
  cases Wn (Kerb.keySerial k)<;>rfl
 ·cases h
theorem w75:Walked Tryz.prog G 75 2 sp75:=by
 refine ⟨Tryz.f75,Tryz.func75,by decide +kernel,rfl,fun xs bl r h=> ?_⟩
 unfold sp75 at h
 split at h
 ·rename_i i l
  cases h
  refine Eq.trans (b:=(sel (!Xq i 4294967295) (some (Zz .i64 0,[])) (sel (!Xq l 255) (some (Zz .i64 0,[])) (some (Zz .i64 (Zy .i64 (i+Zy .i64 (300*Zy .i64 (l+1)))),[]))):Option (AV×Blocks))) (by kernel_rfl) ?_
  unfold Kerb.tEnd
  cases h1:Xq i 4294967295
  ·rfl
  cases h2:Xq l 255
  ·rfl
  have a1:=Kerb.within_iff.1 h1
  have a2:=Kerb.within_iff.1 h2
  simp only [Bool.not_true,sel_false,Bool.and_self,if_true]
  rw [wrap_i64 (n:=l+1) (by omega) (by omega),wrap_i64 (n:=300*(l+1)) (by omega) (by omega),wrap_i64 (by omega) (by omega)]
 ·cases h
theorem w85:Walked Tryz.prog G 85 2 sp85:=by
 refine ⟨Tryz.f85,Tryz.func85,by decide +kernel,rfl,fun xs bl r h=> ?_⟩
 unfold sp85 at h
 split at h
 ·rename_i b n little
  obtain ⟨hpre,h2⟩:=chk_inv h;cases h2
  refine Eq.trans (b:=(Zj (chk (decide (Zx b≤70368744177664)) (some (Zh (b++Wg n (Zv 2) little),[]))) fun (r:AV×Blocks)=>onNilB (Zd r) (Yg (Yw r) fun l=>some (Zh l,[])):Option (AV×Blocks))) (by kernel_rfl) ?_
  simp only [decide_eq_true_eq] at hpre
  simp only [A0]
  rw [chk_of (by simp;omega)]
  rfl
 ·cases h
theorem w86:Walked Tryz.prog G 86 2 sp86:=by
 refine ⟨Tryz.f86,Tryz.func86,by decide +kernel,rfl,fun xs bl r h=> ?_⟩
 unfold sp86 at h
 split at h
 ·rename_i k
  obtain ⟨hpre,h2⟩:=chk_inv h;cases h2
  refine Eq.trans (b:=(sel (!k==0) (some (Zu ((bif Vz (Zy .i64 (Int.fdiv k (2 ^ min (Zv 56) (Zk .u64))))&&Wn (Zy .i64 (Zy .u64 (↑(BitVec.toNat (BitVec.ofInt (Zk .u64) k &&& BitVec.ofInt (Zk .u64) 72057594037927935)):Int))) then Zy .i64 (Int.fdiv k (2 ^ min (Zv 56) (Zk .u64)))*72057594037927936+Zy .i64 (Zy .u64 (↑(BitVec.toNat (BitVec.ofInt (Zk .u64) k &&& BitVec.ofInt (Zk .u64) 72057594037927935)):Int)) else 0)==k),[])) (some (Zu false,[])):Option (AV×Blocks))) (by kernel_rfl) ?_
  simp only [Zf,decide_eq_true_eq] at hpre
  obtain ⟨h0,h1⟩:=hpre
  rw [Kerb.key_hi h0 h1,Kerb.key_lo h0 h1,Kerb.key_sum]
  by_cases hk:k=0
  ·subst hk;rfl
  rw [sel_pos (by simpa using hk)]
  unfold Xj
  cases Vz (Kerb.keyClass k)&&Wn (Kerb.keySerial k)
  ·have q:((0:Int)==k)=false:=by simp;omega
   simp only [cond_false,q]
  ·simp only [cond_true,BEq.rfl]
 ·cases h
theorem w91:Walked Tryz.prog G 91 2 sp91:=by
 refine ⟨Tryz.f91,Tryz.func91,by decide +kernel,rfl,fun xs bl r h=> ?_⟩
 unfold sp91 at h
 split at h
 ·rename_i s
  obtain ⟨hpre,h2⟩:=chk_inv h;cases h2
  refine Eq.trans (b:=(sel (decide ((↑(Zx s):Int)>0)) (Zj (chk (decide (Zx s≤9223372036854775807)&&true) (some (Zu (Xk s [(64:UInt8)]&&decide (Zx s≤39)),[]))) fun (r:AV×Blocks)=>onNilB (Zd r) (Ww (Yw r) fun b=>some (Zu b,[]))) (some (Zu false,[])):Option (AV×Blocks))) (by kernel_rfl) ?_
  simp only [A0]
  rw [chk_of (by rw [hpre];rfl)]
  simp only [Kerb.validRealm]
  cases s with
  | nil=>rfl
  | cons x r =>
   rw [sel_pos (by first | (simp;done) | (simp;omega)),Bool.and_comm]
   rfl
 ·cases h
theorem w95:Walked Tryz.prog G 95 2 sp95:=by
 refine ⟨Tryz.f95,Tryz.func95,by decide +kernel,rfl,fun xs bl r h=> ?_⟩
 unfold sp95 at h
 split at h
 ·rename_i b
  cases h
  refine Eq.trans (b:=(sel (decide ((↑(Zx b):Int)<2)) (some (Zg [Zz .i64 0,Zu false,Zz .i64 101],[])) (chk (decide (0<(↑(Zx b):Int))) (sel (!Yz b (Zv 0) (0:UInt8)==(4:UInt8)) (some (Zg [Zz .i64 0,Zu false,Zz .i64 39],[])) (chk (decide (1<(↑(Zx b):Int))) (sel (!Wy (Zy .i64 (Xu (Zy .i64 (↑(Yq (Yz b (Zv 1) (0:UInt8))):Int)) 2))) (some (Zg [Zz .i64 0,Zu false,Zz .i64 40],[])) (chk (decide (1<(↑(Zx b):Int))) (some (Zg [Zz .i64 (Zy .i64 (Xu (Zy .i64 (↑(Yq (Yz b (Zv 1) (0:UInt8))):Int)) 2)),Zu (Yj (Zv (Zb (↑(Yq (Yz b (Zv 1) (0:UInt8))):Int) (↑(Yq (2:UInt8)):Int)))==(1:UInt8)),Zz .i64 0],[]))))))):Option (AV×Blocks))) (by kernel_rfl) ?_
  unfold Yk
  by_cases h1:b.length<2
  ·rw [sel_pos (by simp;omega)]
   simp [h1]
  rw [sel_neg (by simp;omega),chk_of (by simp;omega),if_neg h1]
  by_cases h2:b.getD 0 0=4
  ·have hb:=(b.getD 1 0).toNat_lt
   have e:Zy Zw (Xu (Zy Zw ((b.getD (Zv 1) 0).toNat:Int)) 2)=(((b.getD 1 0).toNat / 2:Nat):Int):=by
    rw [show Zv 1=1 from rfl,wrap_i64 (n:=((b.getD 1 0).toNat:Int)) (by omega) (by omega),Yp (by omega),wrap_i64 (by omega) (by omega)];omega
   have e2:(Yj (Zv (Zb ((b.getD (Zv 1) 0).toNat:Int) ((2:UInt8).toNat:Int)))==1)=decide ((b.getD 1 0).toNat % 2=1):=by
    rw [show Zv 1=1 from rfl,Xy (by omega)]
    have e3:Zv (((b.getD 1 0).toNat:Int) % ((2:UInt8).toNat:Int))=(b.getD 1 0).toNat % 2:=by
     show Zv (((b.getD 1 0).toNat:Int) % 2)=_
     omega
    rw [e3]
    rcases Nat.mod_two_eq_zero_or_one (b.getD 1 0).toNat with h | h<;>rw [h]<;>rfl
   rw [sel_neg (by simp [h2] at *;exact h2),chk_of (by simp;omega),if_neg (by simpa using h2),e,e2]
   cases hk:Wy (((b.getD 1 0).toNat / 2:Nat):Int)
   ·rfl
   ·rw [Bool.not_true,sel_false,chk_of (by simp;omega)]
    rfl
  ·rw [sel_pos (by simpa using h2),if_pos (by simpa using h2)]
 ·cases h
theorem w98:Walked Tryz.prog G 98 2 sp98:=by
 refine ⟨Tryz.f98,Tryz.func98,by decide +kernel,rfl,fun xs bl r h=> ?_⟩
 unfold sp98 at h
 split at h
 ·rename_i b pos k little
  obtain ⟨hpre,h2⟩:=chk_inv h;cases h2
  refine Eq.trans (b:=(Zj (chk (decide (Zx b≤4611686018427387904)) (some (Zz .i64 (Xw b pos k),[]))) (kI .i64 fun n=>sel (!n==0) (some (Zg [Zz .i64 0,Zz .i64 0,Zz .i64 n],[])) (Zj (loopM (fun (st:List AV)=>cBs st fun b r=>cInt .i64 r fun n r=>cInt .i64 r fun n_1 r=>cBool r fun b_1 r=>cInt .i64 r fun n_2 r=>let t0:BitVec (Zk .i64):=BitVec.ofInt (Zk .i64) (Zy .i64 (n_2*2 ^ min (Zv 8) (Zk .i64)));cInt .i64 r fun n_3 r=>cInt .i64 r fun n_4 r=>let t1:Int:=Zy .i64 (n+Zy .i64 (Zy .i64 (n_1-1)-n_4));onNil r (sel (decide (n_4<n_3)) (sel b_1 (chk (decide (0≤t1)&&decide (t1<(↑(Zx b):Int))) (some (Yh [Yv b,Zz .i64 n,Zz .i64 n_1,Zu b_1,Zz .i64 (Zy .i64 (↑(BitVec.toNat (t0 ||| BitVec.ofInt (Zk .i64) (Zy .i64 (↑(Yq (Yz b (Zv t1) (0:UInt8))):Int)))):Int)),Zz .i64 n_3,Zz .i64 (Zy .i64 (n_4+1))]))) (chk (decide (0≤Zy .i64 (n+n_4))&&decide (Zy .i64 (n+n_4)<(↑(Zx b):Int))) (some (Yh [Yv b,Zz .i64 n,Zz .i64 n_1,Zu b_1,Zz .i64 (Zy .i64 (↑(BitVec.toNat (t0 ||| BitVec.ofInt (Zk .i64) (Zy .i64 (↑(Yq (Yz b (Zv (Zy .i64 (n+n_4))) (0:UInt8))):Int)))):Int)),Zz .i64 n_3,Zz .i64 (Zy .i64 (n_4+1))])))) (some (Ym (Yf 0,[Yv b,Zz .i64 n,Zz .i64 n_1,Zu b_1,Zz .i64 n_2,Zz .i64 n_3,Zz .i64 n_4]))))) [Yv b,Zz .i64 pos,Zz .i64 k,Zu little,Zz .i64 0,Zz .i64 k,Zz .i64 0]) fun (r:Ex×List AV)=>cBs (Zd r) fun b r_1=>cInt .i64 r_1 fun n r_2=>cInt .i64 r_2 fun n_1 r_3=>cBool r_3 fun b r_4=>cInt .i64 r_4 fun n_2 r_5=>cInt .i64 r_5 fun n_3 r_6=>cInt .i64 r_6 fun n_4 r_7=>onNil r_7 (exK r.1 none fun (j:Nat)=>sel (Xn j 0) (some (Zg [Zz .i64 n_2,Zz .i64 (Zy .i64 (n+n_1)),Zz .i64 0],[])) none))):Option (AV×Blocks))) (by kernel_rfl) ?_
  delta kI
  try dsimp only [cStr,cBs,cBool,cU8,cInt,cSl,l63]
  simp only [Zf,decide_eq_true_eq] at hpre
  obtain ⟨⟨hb,hk0⟩,hk4⟩:=hpre
  simp only [A0]
  rw [chk_of (by simpa using hb)]
  unfold Xd
  by_cases hr:Xw b pos k=0
  ·rw [sel_neg (by simp [hr]),if_pos hr]
   obtain ⟨q1,q2,q3,q4⟩:=Kerb.room_zero.1 hr
   have hcl:=Kerb.cut_length hr
   obtain ⟨L,hL⟩:∃ L,L=cond little (Kerb.cut b pos k).reverse (Kerb.cut b pos k):=⟨_,rfl⟩
   have hLl:L.length=k.toNat:=by rw [hL];cases little<;>simp [hcl]
   rw [← hL]
   refine loop_rounds (fun i:Nat=>[Yv b,Zz Zw pos,Zz Zw k,Zu little,Zz Zw (Kerb.valB (L.take i)),Zz Zw k,Zz Zw (i:Int)]) (fun i=>i≤k.toNat) (fun i=>k.toNat-i)
    (fun r=>r=(Yf 0,[Yv b,Zz Zw pos,Zz Zw k,Zu little,Zz Zw (Kerb.valB L),Zz Zw k,Zz Zw k])) 0 (Xv _) rfl ?_ ?_
   ·intro i hi
    simp only [A0]
    by_cases hlt:i<k.toNat
    ·rw [sel_pos (by simp;omega)]
     have hv:=Kerb.valB_bd (l:=L.take i) (by simp;omega)
     have hs:=Kerb.valB_take (l:=L) (i:=i) (by omega)
     have hgd:L.getD i 0=b.getD (cond little (pos.toNat+(k.toNat-1-i)) (pos.toNat+i)) 0:=by
      rw [hL]
      cases little
      ·exact Kerb.cut_getD hlt
      ·show (Kerb.cut b pos k).reverse.getD i 0=_
       rw [Kerb.getD_reverse (by omega),hcl,Kerb.cut_getD (by omega)];rfl
     cases little
     ·rw [sel_neg rfl,wrap_i64 (n:=pos+(i:Int)) (by omega) (by omega),chk_of (by simp;omega),show (pos+(i:Int)).toNat=pos.toNat+i from by omega]
      rw [Kerb.shl8_or _ hv.1 (by omega),wrap_i64 (n:=(i:Int)+1) (by omega) (by omega)]
      refine ⟨_,rfl,i+1,?_,by omega,by dsimp only;omega⟩
      dsimp only
      rw [hs,hgd];rfl
     ·rw [sel_pos rfl,wrap_i64 (n:=k-1) (by omega) (by omega),wrap_i64 (n:=k-1-(i:Int)) (by omega) (by omega),wrap_i64 (n:=pos+(k-1-(i:Int))) (by omega) (by omega),chk_of (by simp;omega),show (pos+(k-1-(i:Int))).toNat=pos.toNat+(k.toNat-1-i) from by omega]
      rw [Kerb.shl8_or _ hv.1 (by omega),wrap_i64 (n:=(i:Int)+1) (by omega) (by omega)]
      refine ⟨_,rfl,i+1,?_,by omega,by dsimp only;omega⟩
      dsimp only
      rw [hs,hgd];rfl
    ·rw [sel_neg (by simp;omega)]
     refine ⟨_,rfl,?_⟩
     show _=_
     rw [Zn (by omega),show (i:Int)=k from by omega]
   ·rintro r rfl
    simp only [A0]
    rw [sel_pos (Yb _),wrap_i64 (by omega) (by omega)]
  ·rw [sel_pos (by simpa using hr),if_neg hr]
 ·cases h
theorem w100:Walked Tryz.prog G 100 2 sp100:=by
 refine ⟨Tryz.f100,Tryz.func100,by decide +kernel,rfl,fun xs bl r h=> ?_⟩
 unfold sp100 at h
 split at h
 ·rename_i s c
  cases h
  refine Eq.trans (b:=(some (Zz .i64 (Zm c s),[]):Option (AV×Blocks))) (by kernel_rfl) ?_
  rfl
 ·cases h
theorem w104:Walked Tryz.prog G 104 2 sp104:=by
 refine ⟨Tryz.f104,Tryz.func104,by decide +kernel,rfl,fun xs bl r h=> ?_⟩
 unfold sp104 at h
 split at h
 ·rename_i k little
  cases h
  refine Eq.trans (b:=(sel (!Wy k) (some (Yv [],[])) (sel little (some (Yv [(4:UInt8),Yj (Zv (Zy .u8 (Zy .i64 (Zy .i64 (2*k)+1))))],[])) (some (Yv [(4:UInt8),Yj (Zv (Zy .u8 (Zy .i64 (2*k))))],[]))):Option (AV×Blocks))) (by kernel_rfl) ?_
  by_cases h:1≤k∧k≤10
  ·have hk:k=1∨k=2∨k=3∨k=4∨k=5∨k=6∨k=7∨k=8∨k=9∨k=10:=by omega
   rcases hk with rfl | rfl | rfl | rfl | rfl | rfl | rfl | rfl | rfl | rfl<;>cases little<;>rfl
  ·have hk:Wy k=false:=by simp [Wy];omega
   by_cases h1:k<1
   ·simp [sel,Kerb.header,hk,h1]
   ·have h2:10<k:=by omega
    simp [sel,Kerb.header,hk,h1,h2]
 ·cases h
theorem w114:Walked Tryz.prog G 114 2 sp114:=by
 refine ⟨Tryz.f114,Tryz.func114,by decide +kernel,rfl,fun xs bl r h=> ?_⟩
 unfold sp114 at h
 split at h
 ·rename_i n
  obtain ⟨hpre,h2⟩:=chk_inv h;cases h2
  refine Eq.trans (b:=(sel (decide (n<300)) (some (Zg [Zz .i64 0,Zu false],[])) (some (Zg [Zz .i64 (Xp (Zy .i64 (Zy .i64 (Xu n 300)-1)) [255]),Zu true],[])):Option (AV×Blocks))) (by kernel_rfl) ?_
  simp only [Zf,decide_eq_true_eq] at hpre
  by_cases h:n<300
  ·rw [sel_pos (by simpa using h)];simp [h]
  rw [sel_neg (by simpa using h)]
  have e1:Zy .i64 (Xu n 300)=Xu n 300:=by rw [Yp (by omega)];exact wrap_i64 (by omega) (by omega)
  have e2:Zy .i64 (Xu n 300-1)=Xu n 300-1:=by rw [Yp (by omega)];exact wrap_i64 (by omega) (by omega)
  have e3:∀ q,Xp q (intsIn [Zz Zw 255])=Xm q 255:=fun q=>rfl
  try simp only [e3]
  simp only [e1,e2,h,decide_false,Bool.not_false,chk_true,some_bind]
  rfl
 ·cases h
theorem w118:Walked Tryz.prog G 118 2 sp118:=by
 refine ⟨Tryz.f118,Tryz.func118,by decide +kernel,rfl,fun xs bl r h=> ?_⟩
 unfold sp118 at h
 split at h
 ·rename_i els
  obtain ⟨hpre,h2⟩:=chk_inv h;cases h2
  refine Eq.trans (b:=(Zj (loopM (fun (st:List AV)=>cSl 1 st fun b r=>cInt .i64 r fun n r=>cSl 1 r fun b_1 r=>cInt .i64 r fun n_1 r=>cInt .i64 r fun n_2 r=>onNil r (sel (decide (n_2<n_1)) (chk (decide (0≤n_2)&&decide (n_2<(↑(Zx b_1):Int))&&true) (AV.onBs (Yz b_1 (Zv n_2) Xh) fun b_2=>sel (decide (Zy .i64 (n+(↑(Zx b_2):Int))<0)) none (some (Yh [Yu 1 b,Zz .i64 (Zy .i64 (n+(↑(Zx b_2):Int))),Yu 1 b_1,Zz .i64 n_1,Zz .i64 (Zy .i64 (n_2+1))])))) (some (Ym (Yf 0,[Yu 1 b,Zz .i64 n,Yu 1 b_1,Zz .i64 n_1,Zz .i64 n_2]))))) [Yu 1 els,Zz .i64 0,Yu 1 els,Zz .i64 (↑(Zx els):Int),Zz .i64 0]) fun (r:Ex×List AV)=>cSl 1 (Zd r) fun b r_1=>cInt .i64 r_1 fun n r_2=>cSl 1 r_2 fun b_1 r_3=>cInt .i64 r_3 fun n_1 r_4=>cInt .i64 r_4 fun n_2 r_5=>onNil r_5 (exK r.1 none fun (j:Nat)=>sel (Xn j 0) (Zj (chk (decide (0≤n)&&decide (n≤140737488355328)) (some (Zh [],[]))) (kO fun l=>Zj (loopM (fun (st:List AV)=>onCons st fun x r=>Yg x fun b=>cSl 1 r fun b_2 r=>cInt .i64 r fun n r=>cInt .i64 r fun n_3 r=>onNil r (sel (decide (n_3<n)) (chk (decide (0≤n_3)&&decide (n_3<(↑(Zx b_2):Int))&&true) (AV.onBs (Yz b_2 (Zv n_3) Xh) fun b_3=>chk (room (Zx b+Zx b_3) 1) (some (Yh [Zh (b++b_3),Yu 1 b_2,Zz .i64 n,Zz .i64 (Zy .i64 (n_3+1))])))) (some (Ym (Yf 2,[Zh b,Yu 1 b_2,Zz .i64 n,Zz .i64 n_3]))))) [Zh l,Yu 1 b,Zz .i64 (↑(Zx b):Int),Zz .i64 0]) fun (r:Ex×List AV)=>onCons (Zd r) fun x r_6=>Yg x fun b=>cSl 1 r_6 fun b_2 r_7=>cInt .i64 r_7 fun n r_8=>cInt .i64 r_8 fun n r_9=>onNil r_9 (exK r.1 none fun (j:Nat)=>sel (Xn j 2) (some (Zh b,[])) none))) none):Option (AV×Blocks))) (by kernel_rfl) ?_
  delta kO
  try dsimp only [cStr,cBs,cBool,cU8,cInt,cSl,l63]
  simp only [Zf,decide_eq_true_eq] at hpre
  obtain ⟨⟨ha,hl⟩,hbig⟩:=hpre
  refine loop_rounds (fun i:Nat=>[Yu 1 els,Zz Zw ((catB (els.take i)).length:Int),Yu 1 els,Zz Zw (els.length:Int),Zz Zw (i:Int)]) (fun i=>i≤els.length) (fun i=>els.length-i)
   (fun r=>r=(Yf 0,[Yu 1 els,Zz Zw ((catB els).length:Int),Yu 1 els,Zz Zw (els.length:Int),Zz Zw (els.length:Int)])) 0 (Xv _) rfl ?_ ?_
  ·intro i hi
   simp only [A0]
   by_cases hlt:i<els.length
   ·obtain ⟨l,h1,h2,h3⟩:=Kerb.cat_step ha hlt
    rw [sel_pos (by simp;omega),chk_of (by simp;omega),Yy,h1,onBs_bs,wrap_i64 (n:=((catB (els.take i)).length:Int)+(l.length:Int)) (by omega) (by omega),sel_neg (by simp;omega),wrap_i64 (by omega) (by omega)]
    refine ⟨_,rfl,i+1,?_,by omega,by dsimp only;omega⟩
    dsimp only
    rw [h2,List.length_append,Int.natCast_add]
    rfl
   ·rw [sel_neg (by simp;omega)]
    refine ⟨_,rfl,?_⟩
    show _=_
    rw [Zn (by omega),show i=els.length from by omega]
  rintro r rfl
  simp only [A0]
  rw [sel_pos (Yb _),chk_of (by simp;omega)]
  refine loop_rounds (fun i:Nat=>[Zh (catB (els.take i)),Yu 1 els,Zz Zw (els.length:Int),Zz Zw (i:Int)]) (fun i=>i≤els.length) (fun i=>els.length-i)
   (fun r=>r=(Yf 2,[Zh (catB els),Yu 1 els,Zz Zw (els.length:Int),Zz Zw (els.length:Int)])) 0 (Xv _) rfl ?_ ?_
  ·intro i hi
   simp only [A0]
   by_cases hlt:i<els.length
   ·obtain ⟨l,h1,h2,h3⟩:=Kerb.cat_step ha hlt
    rw [sel_pos (by simp;omega),chk_of (by simp;omega),Yy,h1,onBs_bs,chk_of (Xz (by omega)),wrap_i64 (by omega) (by omega)]
    refine ⟨_,rfl,i+1,?_,by omega,by dsimp only;omega⟩
    dsimp only
    rw [h2]
    rfl
   ·rw [sel_neg (by simp;omega)]
    refine ⟨_,rfl,?_⟩
    show _=_
    rw [Zn (by omega),show i=els.length from by omega]
  rintro r rfl
  simp only [A0]
  rw [sel_pos (Yb _)]
 ·cases h
theorem w124:Walked Tryz.prog G 124 2 sp124:=by
 refine ⟨Tryz.f124,Tryz.func124,by decide +kernel,rfl,fun xs bl r h=> ?_⟩
 unfold sp124 at h
 split at h
 ·rename_i b pos k little
  obtain ⟨hpre,h2⟩:=chk_inv h;cases h2
  refine Eq.trans (b:=(Zj (chk (decide (Zx b≤140737488355328)) (some (Zg [Yv (Wf (Wb b pos k)),Zz .i64 (Wj (Wb b pos k)),Zz .i64 (Xg (Wb b pos k))],[]))) (kT fun vs=>cBs vs fun b r=>cInt .i64 r fun n r=>cInt .i64 r fun n_1 r=>onNil r (sel (!n_1==0) (some (Zg [Zz .i64 0,Zz .i64 0,Zz .i64 n_1],[])) (Zj (loopM (fun (st:List AV)=>cInt .i64 st fun n r=>cBool r fun b r=>cBs r fun b_1 r=>cInt .i64 r fun n_2 r=>cInt .i64 r fun n_3 r=>let t0:BitVec (Zk .i64):=BitVec.ofInt (Zk .i64) (Zy .i64 (n_3*2 ^ min (Zv 8) (Zk .i64)));cInt .i64 r fun n_4 r=>let t1:Int:=Zy .i64 (Zy .i64 (n-1)-n_4);onNil r (sel (decide (n_4<n)) (sel b (chk (decide (0≤t1)&&decide (t1<(↑(Zx b_1):Int))) (some (Yh [Zz .i64 n,Zu b,Yv b_1,Zz .i64 n_2,Zz .i64 (Zy .i64 (↑(BitVec.toNat (t0 ||| BitVec.ofInt (Zk .i64) (Zy .i64 (↑(Yq (Yz b_1 (Zv t1) (0:UInt8))):Int)))):Int)),Zz .i64 (Zy .i64 (n_4+1))]))) (chk (decide (0≤n_4)&&decide (n_4<(↑(Zx b_1):Int))) (some (Yh [Zz .i64 n,Zu b,Yv b_1,Zz .i64 n_2,Zz .i64 (Zy .i64 (↑(BitVec.toNat (t0 ||| BitVec.ofInt (Zk .i64) (Zy .i64 (↑(Yq (Yz b_1 (Zv n_4) (0:UInt8))):Int)))):Int)),Zz .i64 (Zy .i64 (n_4+1))])))) (some (Ym (Yf 0,[Zz .i64 n,Zu b,Yv b_1,Zz .i64 n_2,Zz .i64 n_3,Zz .i64 n_4]))))) [Zz .i64 k,Zu little,Yv b,Zz .i64 n,Zz .i64 0,Zz .i64 0]) fun (r:Ex×List AV)=>cInt .i64 (Zd r) fun n r_1=>cBool r_1 fun b r_2=>cBs r_2 fun b r_3=>cInt .i64 r_3 fun n r_4=>cInt .i64 r_4 fun n_2 r_5=>cInt .i64 r_5 fun n_3 r_6=>onNil r_6 (exK r.1 none fun (j:Nat)=>sel (Xn j 0) (some (Zg [Zz .i64 n_2,Zz .i64 n,Zz .i64 0],[])) none)))):Option (AV×Blocks))) (by kernel_rfl) ?_
  delta kT
  try dsimp only [cStr,cBs,cBool,cU8,cInt,cSl,l63]
  simp only [Zf,decide_eq_true_eq] at hpre
  obtain ⟨⟨hb,hk0⟩,hk4⟩:=hpre
  simp only [A0]
  rw [chk_of (by simpa using hb)]
  unfold Xd Wb
  by_cases hr:Xw b pos k=0
  case neg =>
   rw [if_neg hr,if_neg hr,sel_pos (by simpa using hr)]
  rw [if_pos hr,if_pos hr,sel_neg (by simp)]
  obtain ⟨q1,q2,q3,q4⟩:=Kerb.room_zero.1 hr
  have hcl:=Kerb.cut_length hr
  obtain ⟨C,hC⟩:∃ C,C=Kerb.cut b pos k:=⟨_,rfl⟩
  rw [← hC] at hcl ⊢
  obtain ⟨L,hL⟩:∃ L,L=cond little C.reverse C:=⟨_,rfl⟩
  have hLl:L.length=k.toNat:=by rw [hL];cases little<;>simp [hcl]
  rw [← hL]
  refine loop_rounds (fun i:Nat=>[Zz Zw k,Zu little,Yv C,Zz Zw (pos+k),Zz Zw (Kerb.valB (L.take i)),Zz Zw (i:Int)]) (fun i=>i≤k.toNat) (fun i=>k.toNat-i)
   (fun r=>r=(Yf 0,[Zz Zw k,Zu little,Yv C,Zz Zw (pos+k),Zz Zw (Kerb.valB L),Zz Zw k])) 0 (Xv _) rfl ?_ ?_
  ·intro i hi
   simp only [A0]
   by_cases hlt:i<k.toNat
   ·rw [sel_pos (by simp;omega)]
    have hv:=Kerb.valB_bd (l:=L.take i) (by simp;omega)
    have hs:=Kerb.valB_take (l:=L) (i:=i) (by omega)
    have hgd:L.getD i 0=C.getD (cond little (k.toNat-1-i) i) 0:=by
     rw [hL]
     cases little
     ·rfl
     ·show C.reverse.getD i 0=_
      rw [Kerb.getD_reverse (by omega),hcl];rfl
    cases little
    ·rw [sel_neg rfl,chk_of (by simp;omega),Yy]
     rw [Kerb.shl8_or _ hv.1 (by omega),wrap_i64 (n:=(i:Int)+1) (by omega) (by omega)]
     refine ⟨_,rfl,i+1,?_,by omega,by dsimp only;omega⟩
     dsimp only
     rw [hs,hgd];rfl
    ·rw [sel_pos rfl,wrap_i64 (n:=k-1) (by omega) (by omega),wrap_i64 (n:=k-1-(i:Int)) (by omega) (by omega),chk_of (by simp;omega),show (k-1-(i:Int)).toNat=k.toNat-1-i from by omega]
     rw [Kerb.shl8_or _ hv.1 (by omega),wrap_i64 (n:=(i:Int)+1) (by omega) (by omega)]
     refine ⟨_,rfl,i+1,?_,by omega,by dsimp only;omega⟩
     dsimp only
     rw [hs,hgd];rfl
   ·rw [sel_neg (by simp;omega)]
    refine ⟨_,rfl,?_⟩
    show _=_
    rw [Zn (by omega),show (i:Int)=k from by omega]
  ·rintro r rfl
   simp only [A0]
   rw [sel_pos (Yb _)]
 ·cases h
theorem w131:Walked Tryz.prog G 131 2 sp131:=by
 refine ⟨Tryz.f131,Tryz.func131,by decide +kernel,rfl,fun xs bl r h=> ?_⟩
 unfold sp131 at h
 split at h
 ·rename_i s c
  cases h
  refine Eq.trans (b:=(some (Zz .i64 (Zm c s),[]):Option (AV×Blocks))) (by kernel_rfl) ?_
  rfl
 ·cases h
theorem w16:Walked Tryz.prog G 16 3 sp16:=by
 refine ⟨Tryz.f16,Tryz.func16,by decide +kernel,rfl,fun xs bl r h=> ?_⟩
 unfold sp16 at h
 split at h
 ·rename_i n
  obtain ⟨hpre,h2⟩:=chk_inv h;cases h2
  refine Eq.trans (b:=(chk (decide (0≤Zb n 3)&&decide (Zb n 3<(↑(Zx [Zq [(97:UInt8),(110:UInt8),(110:UInt8)],Zq [(98:UInt8),(111:UInt8),(98:UInt8)],Zq [(99:UInt8),(97:UInt8),(116:UInt8)]]):Int))&&true) (Xf (Yz [Zq [(97:UInt8),(110:UInt8),(110:UInt8)],Zq [(98:UInt8),(111:UInt8),(98:UInt8)],Zq [(99:UInt8),(97:UInt8),(116:UInt8)]] (Zv (Zb n 3)) Xh) fun b=>Zj (chk (decide (0≤Zy .i64 (Xu n 3))) (some (Zq (Kerb.realm (Zy .i64 (Xu n 3))),[]))) fun (r:AV×Blocks)=>onNilB (Zd r) (Xf (Yw r) fun b_1=>some (AV.agg [Zq b,Zq [],Zq b_1],[]))):Option (AV×Blocks))) (by kernel_rfl) ?_
  have hn:0≤n:=by first | exact of_decide_eq_true hpre | (simp only [Zf,decide_eq_true_eq] at hpre;exact hpre.1)
  have ht:Zb n 3=n % 3:=Xy hn
  have hcase:n % 3=0∨n % 3=1∨n % 3=2:=by omega
  simp only [Zf,decide_eq_true_eq] at hpre
  have hd:Xu n 3=n / 3:=Yp hn
  rw [hd,wrap_i64 (by omega) (by omega)]
  have hq:decide ((0:Int)≤n / 3)=true:=by simp;omega
  rcases hcase with e | e | e<;>simp [ht,e,chk,Xf,Kerb.user,hq,onNilB]<;>omega
 ·cases h
theorem w18:Walked Tryz.prog G 18 3 sp18:=by
 refine ⟨Tryz.f18,Tryz.func18,by decide +kernel,rfl,fun xs bl r h=> ?_⟩
 unfold sp18 at h
 split at h
 ·rename_i n
  obtain ⟨hpre,h2⟩:=chk_inv h;cases h2
  refine Eq.trans (b:=(chk (decide (0≤Zb n 3)&&decide (Zb n 3<(↑(Zx [AV.agg [Zq [(109:UInt8),(97:UInt8),(105:UInt8),(108:UInt8)],Zq [],Zq []],AV.agg [Zq [(110:UInt8),(102:UInt8),(115:UInt8)],Zq [(104:UInt8),(111:UInt8),(109:UInt8),(101:UInt8)],Zq []],AV.agg [Zq [(107:UInt8),(114:UInt8),(98:UInt8),(116:UInt8),(103:UInt8),(116:UInt8)],Zq [(65:UInt8),(84:UInt8),(72:UInt8)],Zq []]]):Int))&&true) (AV.onAgg (Yz [AV.agg [Zq [(109:UInt8),(97:UInt8),(105:UInt8),(108:UInt8)],Zq [],Zq []],AV.agg [Zq [(110:UInt8),(102:UInt8),(115:UInt8)],Zq [(104:UInt8),(111:UInt8),(109:UInt8),(101:UInt8)],Zq []],AV.agg [Zq [(107:UInt8),(114:UInt8),(98:UInt8),(116:UInt8),(103:UInt8),(116:UInt8)],Zq [(65:UInt8),(84:UInt8),(72:UInt8)],Zq []]] (Zv (Zb n 3)) Xh) fun cs=>onCons cs fun x r=>Xf x fun b=>onCons r fun x r=>Xf x fun b_1=>onCons r fun x r=>Xf x fun b_2=>onNil r (Zj (chk (decide (0≤Zy .i64 (Xu n 3))) (some (Zq (Kerb.realm (Zy .i64 (Xu n 3))),[]))) fun (r:AV×Blocks)=>onNilB (Zd r) (Xf (Yw r) fun b_3=>some (AV.agg [Zq b,Zq b_1,Zq b_3],[])))):Option (AV×Blocks))) (by kernel_rfl) ?_
  have hn:0≤n:=by first | exact of_decide_eq_true hpre | (simp only [Zf,decide_eq_true_eq] at hpre;exact hpre.1)
  have ht:Zb n 3=n % 3:=Xy hn
  have hcase:n % 3=0∨n % 3=1∨n % 3=2:=by omega
  simp only [Zf,decide_eq_true_eq] at hpre
  have hd:Xu n 3=n / 3:=Yp hn
  rw [hd,wrap_i64 (by omega) (by omega)]
  have hq:decide ((0:Int)≤n / 3)=true:=by simp;omega
  rcases hcase with e | e | e<;>simp [ht,e,chk,Xf,AV.onAgg,onCons,onNil,Kerb.service,hq,onNilB]<;>omega
 ·cases h
theorem w27:Walked Tryz.prog G 27 3 sp27:=by
 refine ⟨Tryz.f27,Tryz.func27,by decide +kernel,rfl,fun xs bl r h=> ?_⟩
 unfold sp27 at h
 split at h
 ·rename_i k
  obtain ⟨hpre,h2⟩:=chk_inv h;cases h2
  refine Eq.trans (b:=(Zj (chk (decide (0≤k)&&decide (k<18446744073709551616)) (some (Zg [Zz .i64 (bif Xj k then Kerb.keyClass k else 0),Zz .i64 (bif Xj k then Kerb.keySerial k else 0),Zu (Xj k)],[]))) fun (r:AV×Blocks)=>onNilB (Zd r) (Wm (Yw r) fun vs=>onCons vs fun x r=>Yx .i64 x fun n=>onCons r fun x r=>Yx .i64 x fun n_1=>onCons r fun x r=>Ww x fun b=>onNil r (some (Zz .i64 n,[]))):Option (AV×Blocks))) (by kernel_rfl) ?_
  simp only [hpre,↓A0,A0]
  rfl
 ·cases h
theorem w30:Walked Tryz.prog G 30 3 sp30:=by
 refine ⟨Tryz.f30,Tryz.func30,by decide +kernel,rfl,fun xs bl r h=> ?_⟩
 unfold sp30 at h
 split at h
 ·rename_i n m
  obtain ⟨hpre,h2⟩:=chk_inv h;cases h2
  refine Eq.trans (b:=(Zj (chk (decide (0≤m)) (some (Zq (Kerb.realm m),[]))) fun (r:AV×Blocks)=>onNilB (Zd r) (Xf (Yw r) fun b=>Zj (chk (decide (0≤n)) (some (Zq (Kerb.realm n),[]))) fun (r:AV×Blocks)=>onNilB (Zd r) (Xf (Yw r) fun b_1=>some (AV.agg [Zq [(107:UInt8),(114:UInt8),(98:UInt8),(116:UInt8),(103:UInt8),(116:UInt8)],Zq b,Zq b_1],[]))):Option (AV×Blocks))) (by kernel_rfl) ?_
  simp only [Zf,decide_eq_true_eq] at hpre
  obtain ⟨h0,h1⟩:=hpre
  simp only [h0,h1,decide_true,↓A0,A0]
  rfl
 ·cases h
theorem w33:Walked Tryz.prog G 33 3 sp33:=by
 refine ⟨Tryz.f33,Tryz.func33,by decide +kernel,rfl,fun xs bl r h=> ?_⟩
 unfold sp33 at h
 split at h
 ·rename_i B at_ li bad
  obtain ⟨hpre,h2⟩:=chk_inv h;cases h2
  show runFnH (G.env 33 3) G.rts (G.own 33) Tryz.f33 _ _ [0]=_
  refine Eq.trans (b:=(Zj (chk (decide (Zx B≤140737488355328)) (some (Zq (Wf (Xx B at_)),[[Yv B,Zz .i64 (bif bad || !Xg (Xx B at_)==0 then at_ else Wj (Xx B at_)),Zu li,Zu (bad || !Xg (Xx B at_)==0)]]))) fun (r:AV×Blocks)=>onConsB (Zd r) fun (x:List AV) (r_1:List (List AV))=>cBs x fun b r_2=>cInt .i64 r_2 fun n r_3=>cBool r_3 fun b_1 r_4=>cBool r_4 fun b_2 r_5=>onNil r_5 (onNilB r_1 (Xf (Yw r) fun b_3=>Zj (chk (decide (Zx b≤140737488355328)) (some (Zq (Wf (Xx b n)),[[Yv b,Zz .i64 (bif b_2 || !Xg (Xx b n)==0 then n else Wj (Xx b n)),Zu b_1,Zu (b_2 || !Xg (Xx b n)==0)]]))) fun (r:AV×Blocks)=>onConsB (Zd r) fun (x:List AV) (r_6:List (List AV))=>cBs x fun b r_7=>cInt .i64 r_7 fun n r_8=>cBool r_8 fun b_4 r_9=>cBool r_9 fun b_5 r_10=>onNil r_10 (onNilB r_6 (Xf (Yw r) fun b_6=>Zj (chk (decide (Zx b≤140737488355328)) (some (Zq (Wf (Xx b n)),[[Yv b,Zz .i64 (bif b_5 || !Xg (Xx b n)==0 then n else Wj (Xx b n)),Zu b_4,Zu (b_5 || !Xg (Xx b n)==0)]]))) fun (r:AV×Blocks)=>onConsB (Zd r) fun (x:List AV) (r_11:List (List AV))=>cBs x fun b r_12=>cInt .i64 r_12 fun n r_13=>cBool r_13 fun b_7 r_14=>cBool r_14 fun b_8 r_15=>onNil r_15 (onNilB r_11 (Xf (Yw r) fun b_9=>some (AV.agg [Zq b_3,Zq b_6,Zq b_9],[[Yv b,Zz .i64 n,Zu b_7,Zu b_8]]))))))):Option (AV×Blocks))) (by kernel_rfl) ?_
  try dsimp only [cStr,cBs,cBool,cU8,cInt,cSl,l63]
  simp only [A0]
  rw [chk_of hpre,chk_of hpre,chk_of hpre]
  rfl
 ·cases h
theorem w41:Walked Tryz.prog G 41 3 sp41:=by
 refine ⟨Tryz.f41,Tryz.func41,by decide +kernel,rfl,fun xs bl r h=> ?_⟩
 unfold sp41 at h
 split at h
 ·rename_i b
  obtain ⟨hpre,h2⟩:=chk_inv h;cases h2
  refine Eq.trans (b:=(sel (!(↑(Zx b):Int)==8) (some (Zg [Zz .u64 0,Zu false],[])) (Zj (loopM (fun (st:List AV)=>cBs st fun b r=>cInt .u64 r fun n r=>cInt .i64 r fun n_1 r=>onNil r (sel (decide (n_1<8)) (chk (decide (0≤n_1)&&decide (n_1<(↑(Zx b):Int))) (some (Yh [Yv b,Zz .u64 (Zy .u64 (↑(BitVec.toNat (BitVec.ofInt (Zk .u64) (Zy .u64 (n*2 ^ min (Zv 8) (Zk .u64))) ||| BitVec.ofInt (Zk .u64) (Zy .u64 (↑(Yq (Yz b (Zv n_1) (0:UInt8))):Int)))):Int)),Zz .i64 (Zy .i64 (n_1+1))]))) (some (Ym (Yf 0,[Yv b,Zz .u64 n,Zz .i64 n_1]))))) [Yv b,Zz .u64 0,Zz .i64 0]) fun (r:Ex×List AV)=>cBs (Zd r) fun b r_1=>cInt .u64 r_1 fun n r_2=>cInt .i64 r_2 fun n_1 r_3=>onNil r_3 (exK r.1 none fun (j:Nat)=>sel (Xn j 0) (Zj (chk (decide (0≤n)&&decide (n<18446744073709551616)) (some (Zu (Xj n),[]))) (kL fun b=>sel (!b) (some (Zg [Zz .u64 0,Zu false],[])) (some (Zg [Zz .u64 n,Zu true],[])))) none)):Option (AV×Blocks))) (by kernel_rfl) ?_
  delta kL
  try dsimp only [cStr,cBs,cBool,cU8,cInt,cSl,l63]
  have hb:=of_decide_eq_true hpre
  unfold Kerb.keyRead
  by_cases h8:b.length=8
  case neg =>
   rw [sel_pos (by simp;omega),if_neg (by omega)]
  rw [sel_neg (by simp [h8])]
  refine loop_rounds (fun i:Nat=>[Yv b,Zz Yd (Kerb.valB (b.take i)),Zz Zw (i:Int)]) (fun i=>i≤8) (fun i=>8-i)
   (fun r=>r=(Yf 0,[Yv b,Zz Yd (Kerb.valB b),Zz Zw 8])) 0 (by omega) rfl ?_ ?_
  ·intro i hi
   simp only [A0]
   by_cases hlt:i<8
   ·have hv:=Kerb.valB_take (l:=b) (i:=i) (by omega)
    have hbd:=Kerb.valB_bd7 (l:=b.take i) (by simp;omega)
    rw [sel_pos (by simp;omega),chk_of (by simp;omega),Yy,Kerb.shl8_oru _ hbd.1 hbd.2,wrap_i64 (by omega) (by omega),← hv]
    exact ⟨_,rfl,i+1,rfl,by omega,by dsimp only;omega⟩
   ·rw [sel_neg (by simp;omega)]
    refine ⟨_,rfl,?_⟩
    show _=_
    rw [Zn (by omega),show i=8 from by omega]
    rfl
  rintro r rfl
  have hbd:=Kerb.valB_bd8 (l:=b) (by omega)
  simp only [A0]
  rw [sel_pos (Yb _),chk_of (by simp;omega)]
  cases hv:Xj (Kerb.valB b)
  ·rw [if_neg (by simp)]
   rfl
  ·rw [if_pos ⟨h8,rfl⟩]
   rfl
 ·cases h
theorem w44:Walked Tryz.prog G 44 3 sp44:=by
 refine ⟨Tryz.f44,Tryz.func44,by decide +kernel,rfl,fun xs bl r h=> ?_⟩
 unfold sp44 at h
 split at h
 ·rename_i a b c
  obtain ⟨hpre,h2⟩:=chk_inv h;cases h2
  refine Eq.trans (b:=(Zj (chk (decide (Zx a≤9223372036854775807)) (some (Zu (Kerb.validName a),[]))) fun (r:AV×Blocks)=>onNilB (Zd r) (Ww (Yw r) fun b_1=>sel b_1 (Zj (chk (decide (Zx b≤9223372036854775807)) (some (Zu (Kerb.validInst b),[]))) fun (r:AV×Blocks)=>onNilB (Zd r) (Ww (Yw r) fun b=>sel b (Zj (chk (decide (Zx c≤9223372036854775807)) (some (Zu (Kerb.validRealm c),[]))) fun (r:AV×Blocks)=>onNilB (Zd r) (Ww (Yw r) fun b=>some (Zu b,[]))) (some (Zu false,[])))) (some (Zu false,[]))):Option (AV×Blocks))) (by kernel_rfl) ?_
  simp only [Zf,decide_eq_true_eq] at hpre
  simp only [A0]
  rw [chk_of (by simp;omega),chk_of (by simp;omega),chk_of (by simp;omega)]
  simp only [Kerb.Prin.valid]
  cases Kerb.validName a<;>cases Kerb.validInst b<;>rfl
 ·cases h
theorem w55:Walked Tryz.prog G 55 3 sp55:=by
 refine ⟨Tryz.f55,Tryz.func55,by decide +kernel,rfl,fun xs bl r h=> ?_⟩
 unfold sp55 at h
 split at h
 ·rename_i b els
  obtain ⟨hpre,h2⟩:=chk_inv h;cases h2
  refine Eq.trans (b:=(sel (!Kerb.Head.err (Yk b)==0) (some (Zg [Zu false,Zz .i64 (Kerb.Head.err (Yk b))],[])) (Zj (chk (allInts els&&decide (Zx els≤1000)) (some (Zu (List.contains (intsIn els) (Kerb.Head.kind (Yk b))),[]))) fun (r:AV×Blocks)=>onNilB (Zd r) (Ww (Yw r) fun b_1=>sel (!b_1) (some (Zg [Zu false,Zz .i64 40],[])) (some (Zg [Zu (Kerb.Head.little (Yk b)),Zz .i64 0],[])))):Option (AV×Blocks))) (by kernel_rfl) ?_
  simp only [A0]
  unfold Kerb.headIs
  by_cases h:(Yk b).err=0
  ·rw [sel_neg (by simp [h]),chk_of hpre]
   cases hc:(intsIn els).contains (Yk b).kind<;>simp [sel,h,hc]
  ·rw [sel_pos (by simpa using h)]
   simp [h]
 ·cases h
theorem w57:Walked Tryz.prog G 57 3 sp57:=by
 refine ⟨Tryz.f57,Tryz.func57,by decide +kernel,rfl,fun xs bl r h=> ?_⟩
 unfold sp57 at h
 split at h
 ·rename_i b pos little
  obtain ⟨hpre,h2⟩:=chk_inv h;cases h2
  refine Eq.trans (b:=(Zj (chk (decide (Zx b≤4611686018427387904)&&true&&true) (some (Zg [Zz .i64 (Vw (Xd b pos 4 little)),Zz .i64 (Vx (Xd b pos 4 little)),Zz .i64 (Vv (Xd b pos 4 little))],[]))) fun (r:AV×Blocks)=>onNilB (Zd r) (Wm (Yw r) fun vs=>onCons vs fun x r=>Yx .i64 x fun n=>onCons r fun x r=>Yx .i64 x fun n_1=>onCons r fun x r=>Yx .i64 x fun n_2=>onNil r (some (Zg [Zz .i64 n,Zz .i64 n_1,Zz .i64 n_2],[]))):Option (AV×Blocks))) (by kernel_rfl) ?_
  simp only [A0]
  rw [chk_of (by rw [hpre];rfl)]
 ·cases h
theorem w58:Walked Tryz.prog G 58 3 sp58:=by
 refine ⟨Tryz.f58,Tryz.func58,by decide +kernel,rfl,fun xs bl r h=> ?_⟩
 unfold sp58 at h
 split at h
 ·rename_i b pos
  obtain ⟨hpre,h2⟩:=chk_inv h;cases h2
  refine Eq.trans (b:=(Zj (chk (decide (Zx b≤4611686018427387904)&&true&&true) (some (Zg [Zz .i64 (Vw (Xd b pos 1 false)),Zz .i64 (Vx (Xd b pos 1 false)),Zz .i64 (Vv (Xd b pos 1 false))],[]))) fun (r:AV×Blocks)=>onNilB (Zd r) (Wm (Yw r) fun vs=>onCons vs fun x r=>Yx .i64 x fun n=>onCons r fun x r=>Yx .i64 x fun n_1=>onCons r fun x r=>Yx .i64 x fun n_2=>onNil r (some (Zg [Zz .i64 n,Zz .i64 n_1,Zz .i64 n_2],[]))):Option (AV×Blocks))) (by kernel_rfl) ?_
  simp only [A0]
  rw [chk_of (by rw [hpre];rfl)]
 ·cases h
theorem w59:Walked Tryz.prog G 59 3 sp59:=by
 refine ⟨Tryz.f59,Tryz.func59,by decide +kernel,rfl,fun xs bl r h=> ?_⟩
 unfold sp59 at h
 split at h
 ·rename_i b pos
  obtain ⟨hpre,h2⟩:=chk_inv h;cases h2
  refine Eq.trans (b:=(let t5:List UInt8:=Wq (Zv pos) (Wx (Zv (↑(Zx b):Int)) b);let t6:Option (AV×Blocks):=some (Zg [Zq [],Zz .i64 0,Zz .i64 105],[]);let t7:Option (AV×Blocks):=some (Zg [Zq [],Zz .i64 0,Zz .i64 101],[]);let t1:Int:=Zm (0:UInt8) t5;let t2:Int:=(↑(Zx t5):Int);let t4:List UInt8:=Wq (Zv (↑(0:Nat):Int)) (Wx (Zv 40) t5);let t0:Int:=Zm (0:UInt8) t4;let t3:Int:=(↑(Zx t4):Int);Zj (chk (decide (Zx b≤4611686018427387904)) (some (Zz .i64 (Xw b pos 0),[]))) (kI .i64 fun n=>sel (!n==0) (some (Zg [Zq [],Zz .i64 0,Zz .i64 n],[])) (chk (decide (0≤pos)&&decide (pos≤(↑(Zx b):Int))&&decide ((↑(Zx b):Int)≤(↑(Zx b):Int))) (sel (decide (t2>40)) (chk (decide (40≤t2)) (sel (decide (t0≥0)) (chk (decide ((↑(0:Nat):Int)≤t0)&&decide (t0≤t3)) (some (Zg [Zq (Wq (Zv (↑(0:Nat):Int)) (Wx (Zv t0) t4)),Zz .i64 (Zy .i64 (Zy .i64 (pos+t0)+1)),Zz .i64 0],[]))) (sel (t3==40) t6 t7))) (sel (decide (t1≥0)) (chk (decide ((↑(0:Nat):Int)≤t1)&&decide (t1≤t2)) (some (Zg [Zq (Wq (Zv (↑(0:Nat):Int)) (Wx (Zv t1) t5)),Zz .i64 (Zy .i64 (Zy .i64 (pos+t1)+1)),Zz .i64 0],[]))) (sel (t2==40) t6 t7))))):Option (AV×Blocks))) (by kernel_rfl) ?_
  delta kI
  try dsimp only [cStr,cBs,cBool,cU8,cInt,cSl,l63]
  simp only [decide_eq_true_eq] at hpre
  simp only [A0]
  rw [chk_of (by simpa using hpre)]
  have ht:(Wx (Zv (b.length:Int)) b)=b:=by simp
  rw [ht]
  unfold Xx
  by_cases hr:Xw b pos 0=0
  case neg =>
   have h104:Xw b pos 0=104:=by
    unfold Xw at hr ⊢
    split at hr
    ·rw [if_pos (by assumption)]
    ·split at hr<;>omega
   rw [sel_pos (by simpa using hr),if_neg hr,h104]
  obtain ⟨q1,q2,_,_⟩:=Kerb.room_zero.1 hr
  rw [sel_neg (by simp [hr]),if_pos hr,chk_of (by simp;omega)]
  obtain ⟨R,hR⟩:∃ R,R=b.drop pos.toNat:=⟨_,rfl⟩
  have hRl:R.length=b.length-pos.toNat:=by rw [hR];simp
  rw [← hR]
  obtain ⟨T,hT⟩:∃ T,T=R.take 40:=⟨_,rfl⟩
  have hix:=Kerb.indexOf_bd 0 T
  have key:(sel (decide (Zm (0:UInt8) T≥(0:Int)))
    (chk (decide (((0:Nat):Int)≤Zm (0:UInt8) T)&&decide (Zm (0:UInt8) T≤(T.length:Int)))
     (some (Zg [Zq (Wq (Zv ((0:Nat):Int)) (Wx (Zv (Zm (0:UInt8) T)) T)),Zz Zw (Zy Zw (Zy Zw (pos+Zm (0:UInt8) T)+(1:Int))),Zz Zw (0:Int)],([]:Blocks))))
    (sel (((T.length:Int))==(40:Int)) (some (Zg [Zq [],Zz Zw (0:Int),Zz Zw (105:Int)],[]))
     (some (Zg [Zq [],Zz Zw (0:Int),Zz Zw (101:Int)],[])))) =
    some (Zg [Zq (if 0≤Zm 0 T then (⟨T.take (Zm 0 T).toNat,pos+Zm 0 T+1,0⟩:Kerb.GotB) else if T.length=40 then ⟨[],0,105⟩ else ⟨[],0,101⟩).val,
     Zz Zw (if 0≤Zm 0 T then (⟨T.take (Zm 0 T).toNat,pos+Zm 0 T+1,0⟩:Kerb.GotB) else if T.length=40 then ⟨[],0,105⟩ else ⟨[],0,101⟩).next,
     Zz Zw (if 0≤Zm 0 T then (⟨T.take (Zm 0 T).toNat,pos+Zm 0 T+1,0⟩:Kerb.GotB) else if T.length=40 then ⟨[],0,105⟩ else ⟨[],0,101⟩).err],[]):=by
   have hTl:T.length≤b.length-pos.toNat:=by rw [hT];simp;omega
   by_cases hi:0≤Zm 0 T
   ·rw [sel_pos (by simpa using hi),chk_of (by simp;omega),if_pos hi,wrap_i64 (n:=pos+Zm 0 T) (by omega) (by omega),wrap_i64 (by omega) (by omega)]
    rfl
   ·rw [sel_neg (by simp;omega),if_neg hi]
    by_cases h40:T.length=40
    ·rw [sel_pos (by simp [h40]),if_pos h40]
    ·rw [sel_neg (by simp;omega),if_neg h40]
  by_cases hlong:40<R.length
  ·rw [sel_pos (by simp;omega),chk_of (by simp;omega)]
   have e1:Wq (Zv ((0:Nat):Int)) (Wx (Zv (40:Int)) R)=T:=by rw [hT];rfl
   rw [e1]
   rw [← hT]
   exact key
  ·rw [sel_neg (by simp;omega)]
   have e1:R=T:=by rw [hT,Zn (by omega)]
   rw [← hT,e1]
   exact key
 ·cases h
theorem w70:Walked Tryz.prog G 70 3 sp70:=by
 refine ⟨Tryz.f70,Tryz.func70,by decide +kernel,rfl,fun xs bl r h=> ?_⟩
 unfold sp70 at h
 split at h
 ·rename_i n w els
  obtain ⟨hpre,h2⟩:=chk_inv h;cases h2
  refine Eq.trans (b:=(sel (!Xq n 4294967295) (some (Zg [Zz .i64 0,Zu false],[])) (sel (decide (Xp w [255]<0)) (some (Zg [Zz .i64 0,Zu false],[])) (Zj (chk (allInts els&&decide (Zx els≤1000000)) (some (Zz .i64 (Xp (Kerb.tEnd n (Xp w [255])) (intsIn els)),[]))) fun (r:AV×Blocks)=>onNilB (Zd r) (Yx .i64 (Yw r) fun n_1=>sel (decide (n_1<n)) (some (Zg [Zz .i64 0,Zu false],[])) (Zj (chk (decide ((-9223372036854775808:Int)≤Zy .i64 (n_1-n))&&decide (Zy .i64 (n_1-n)≤9223372036854775807)) (some (Zg [Zz .i64 (bif decide (Zy .i64 (n_1-n)<300) then 0 else Kerb.fromSec (Zy .i64 (n_1-n))),Zu !decide (Zy .i64 (n_1-n)<300)],[]))) fun (r:AV×Blocks)=>onNilB (Zd r) (Wm (Yw r) fun vs=>onCons vs fun x r=>Yx .i64 x fun n=>onCons r fun x r=>Ww x fun b=>onNil r (some (Zg [Zz .i64 n,Zu b],[]))))))):Option (AV×Blocks))) (by kernel_rfl) ?_
  simp only [Zf,decide_eq_true_eq] at hpre
  obtain ⟨⟨ha,hl⟩,hi⟩:=hpre
  have hl0:Xp w [255]=Xm w 255:=rfl
  simp only [hl0,ha,hl,decide_true,Bool.and_self,↓A0,A0]
  unfold Kerb.grantLife
  cases hn:Xq n 4294967295
  ·rfl
  rw [sel_neg (by rfl)]
  have n1:=Kerb.within_iff.1 hn
  by_cases hw:w<0
  ·have h5:Xm w 255<0:=by unfold Xm;split<;>omega
   rw [sel_pos (by simpa using h5),if_pos (by simp [hw])]
  have hm:0≤Xm w 255∧Xm w 255≤255:=by unfold Xm;split<;>omega
  rw [sel_neg (by simp;omega),if_neg (by simp [hw])]
  have ht:Kerb.tEnd n (Xm w 255)=n+300*(Xm w 255+1):=by
   unfold Kerb.tEnd
   rw [if_pos (by rw [hn,Kerb.within_iff.2 hm];rfl)]
  rw [ht]
  have hle:=Kerb.least_le (intsIn els) (n+300*(Xm w 255+1))
  generalize Xp (n+300*(Xm w 255+1)) (intsIn els)=L at hle ⊢
  by_cases h1:L<n
  ·rw [sel_pos (by simpa using h1),if_pos (by omega)]
  rw [sel_neg (by simpa using h1),wrap_i64 (by omega) (by omega),chk_of (by simp;omega)]
  by_cases h2:L-n<300
  ·rw [if_pos h2,show decide (L-n<300)=true from by simpa using h2];rfl
  ·rw [if_neg h2,show decide (L-n<300)=false from by simpa using h2]
   unfold Kerb.fromSec
   rw [Yp (by omega)]
   rfl
 ·cases h
theorem w79:Walked Tryz.prog G 79 3 sp79:=by
 refine ⟨Tryz.f79,Tryz.func79,by decide +kernel,rfl,fun xs bl r h=> ?_⟩
 unfold sp79 at h
 split at h
 ·rename_i b pos little
  obtain ⟨hpre,h2⟩:=chk_inv h;cases h2
  refine Eq.trans (b:=(Zj (chk (decide (Zx b≤140737488355328)&&true&&true) (some (Zg [Zz .i64 (Vw (Xd b pos 4 little)),Zz .i64 (Vx (Xd b pos 4 little)),Zz .i64 (Vv (Xd b pos 4 little))],[]))) fun (r:AV×Blocks)=>onNilB (Zd r) (Wm (Yw r) fun vs=>onCons vs fun x r=>Yx .i64 x fun n=>onCons r fun x r=>Yx .i64 x fun n_1=>onCons r fun x r=>Yx .i64 x fun n_2=>onNil r (some (Zg [Zz .i64 n,Zz .i64 n_1,Zz .i64 n_2],[]))):Option (AV×Blocks))) (by kernel_rfl) ?_
  simp only [A0]
  rw [chk_of (by rw [hpre];rfl)]
 ·cases h
theorem w81:Walked Tryz.prog G 81 3 sp81:=by
 refine ⟨Tryz.f81,Tryz.func81,by decide +kernel,rfl,fun xs bl r h=> ?_⟩
 unfold sp81 at h
 split at h
 ·rename_i b pos
  obtain ⟨hpre,h2⟩:=chk_inv h;cases h2
  refine Eq.trans (b:=(Zj (chk (decide (Zx b≤140737488355328)&&true&&true) (some (Zg [Zz .i64 (Vw (Xd b pos 1 false)),Zz .i64 (Vx (Xd b pos 1 false)),Zz .i64 (Vv (Xd b pos 1 false))],[]))) fun (r:AV×Blocks)=>onNilB (Zd r) (Wm (Yw r) fun vs=>onCons vs fun x r=>Yx .i64 x fun n=>onCons r fun x r=>Yx .i64 x fun n_1=>onCons r fun x r=>Yx .i64 x fun n_2=>onNil r (some (Zg [Zz .i64 n,Zz .i64 n_1,Zz .i64 n_2],[]))):Option (AV×Blocks))) (by kernel_rfl) ?_
  simp only [A0]
  rw [chk_of (by rw [hpre];rfl)]
 ·cases h
theorem w83:Walked Tryz.prog G 83 3 sp83:=by
 refine ⟨Tryz.f83,Tryz.func83,by decide +kernel,rfl,fun xs bl r h=> ?_⟩
 unfold sp83 at h
 split at h
 ·rename_i b pos little
  obtain ⟨hpre,h2⟩:=chk_inv h;cases h2
  refine Eq.trans (b:=(Zj (chk (decide (Zx b≤140737488355328)&&true&&true) (some (Zg [Zz .i64 (Vw (Xd b pos 2 little)),Zz .i64 (Vx (Xd b pos 2 little)),Zz .i64 (Vv (Xd b pos 2 little))],[]))) fun (r:AV×Blocks)=>onNilB (Zd r) (Wm (Yw r) fun vs=>onCons vs fun x r=>Yx .i64 x fun n=>onCons r fun x r=>Yx .i64 x fun n_1=>onCons r fun x r=>Yx .i64 x fun n_2=>onNil r (some (Zg [Zz .i64 n,Zz .i64 n_1,Zz .i64 n_2],[]))):Option (AV×Blocks))) (by kernel_rfl) ?_
  simp only [A0]
  rw [chk_of (by rw [hpre];rfl)]
 ·cases h
theorem w87:Walked Tryz.prog G 87 3 sp87:=by
 refine ⟨Tryz.f87,Tryz.func87,by decide +kernel,rfl,fun xs bl r h=> ?_⟩
 unfold sp87 at h
 split at h
 ·rename_i b little
  obtain ⟨hpre,h2⟩:=chk_inv h;cases h2
  refine Eq.trans (b:=(sel little (Zj (chk (decide (Zx b≤70368744177664)) (some (Zh (b++Wg 1 1 false),[]))) fun (r:AV×Blocks)=>onNilB (Zd r) (Yg (Yw r) fun l=>some (Zh l,[]))) (Zj (chk (decide (Zx b≤70368744177664)) (some (Zh (b++Wg 0 1 false),[]))) fun (r:AV×Blocks)=>onNilB (Zd r) (Yg (Yw r) fun l=>some (Zh l,[]))):Option (AV×Blocks))) (by kernel_rfl) ?_
  simp only [A0]
  rw [chk_of hpre,chk_of hpre]
  cases little<;>rfl
 ·cases h
theorem w108:Walked Tryz.prog G 108 3 sp108:=by
 refine ⟨Tryz.f108,Tryz.func108,by decide +kernel,rfl,fun xs bl r h=> ?_⟩
 unfold sp108 at h
 split at h
 ·rename_i b s
  obtain ⟨hpre,h2⟩:=chk_inv h;cases h2
  refine Eq.trans (b:=(Zj (chk (decide (Zx (Wz b (Wz s ((0:UInt8)::Wz [] [])))≤140737488355328)&&decide (Zx [Yv b,Yv s,Yv [(0:UInt8)]]≤1000)) (some (Zh (Wz b (Wz s ((0:UInt8)::Wz [] []))),[]))) fun (r:AV×Blocks)=>onNilB (Zd r) (Yg (Yw r) fun l=>some (Yv l,[])):Option (AV×Blocks))) (by kernel_rfl) ?_
  simp only [decide_eq_true_eq] at hpre
  simp only [A0]
  rw [chk_of (by simp;omega)]
  simp [Wp]
 ·cases h
theorem w109:Walked Tryz.prog G 109 3 sp109:=by
 refine ⟨Tryz.f109,Tryz.func109,by decide +kernel,rfl,fun xs bl r h=> ?_⟩
 unfold sp109 at h
 split at h
 ·rename_i s c
  cases h
  refine Eq.trans (b:=(some (Zz .i64 (Zm c s),[]):Option (AV×Blocks))) (by kernel_rfl) ?_
  rfl
 ·cases h
theorem w111:Walked Tryz.prog G 111 3 sp111:=by
 refine ⟨Tryz.f111,Tryz.func111,by decide +kernel,rfl,fun xs bl r h=> ?_⟩
 unfold sp111 at h
 split at h
 ·rename_i k
  obtain ⟨hpre,h2⟩:=chk_inv h;cases h2
  refine Eq.trans (b:=(Zj (chk (decide (0≤k)&&decide (k<18446744073709551616)) (some (Zg [Zz .i64 (bif Xj k then Kerb.keyClass k else 0),Zz .i64 (bif Xj k then Kerb.keySerial k else 0),Zu (Xj k)],[]))) fun (r:AV×Blocks)=>onNilB (Zd r) (Wm (Yw r) fun vs=>onCons vs fun x r=>Yx .i64 x fun n=>onCons r fun x r=>Yx .i64 x fun n=>onCons r fun x r=>Ww x fun b=>onNil r (some (Zu b,[]))):Option (AV×Blocks))) (by kernel_rfl) ?_
  simp only [A0]
  rw [chk_of hpre]
 ·cases h
theorem w120:Walked Tryz.prog G 120 3 sp120:=by
 refine ⟨Tryz.f120,Tryz.func120,by decide +kernel,rfl,fun xs bl r h=> ?_⟩
 unfold sp120 at h
 split at h
 ·rename_i b
  obtain ⟨hpre,h2⟩:=chk_inv h;cases h2
  refine Eq.trans (b:=(chk (decide (0≤Zb (Zy .i64 (8-Zb (↑(Zx b):Int) 8)) 8)&&decide (Zb (Zy .i64 (8-Zb (↑(Zx b):Int) 8)) 8≤Zb (Zy .i64 (8-Zb (↑(Zx b):Int) 8)) 8)&&decide (Zb (Zy .i64 (8-Zb (↑(Zx b):Int) 8)) 8≤140737488355328)) (Zj (chk (decide (Zx (Wz b (Wz (Wv (Zv (Zb (Zy .i64 (8-Zb (↑(Zx b):Int) 8)) 8)) (0:UInt8)) []))≤140737488355328)&&decide (Zx [Yv b,Yv (Wv (Zv (Zb (Zy .i64 (8-Zb (↑(Zx b):Int) 8)) 8)) (0:UInt8))]≤1000)) (some (Zh (Wz b (Wz (Wv (Zv (Zb (Zy .i64 (8-Zb (↑(Zx b):Int) 8)) 8)) (0:UInt8)) [])),[]))) fun (r:AV×Blocks)=>onNilB (Zd r) (Yg (Yw r) fun l=>some (Yv l,[]))):Option (AV×Blocks))) (by kernel_rfl) ?_
  have hb:=of_decide_eq_true hpre
  rw [Kerb.pad_eq hb]
  simp only [A0]
  rw [chk_of (by simp;omega),chk_of (by simp;omega)]
  simp [Kerb.pad]
  omega
 ·cases h
end Go.Proofs.YtlhambpafcdkbaaGreatDoor
