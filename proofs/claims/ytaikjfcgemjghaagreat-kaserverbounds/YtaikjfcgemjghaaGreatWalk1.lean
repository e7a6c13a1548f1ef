/- What the functions of this seat compute. -/
import Derived.Test.YtaikjfcgemjghaaGreatTab
import Derived.Test.YtaikjfcgemjghaaGreatKerbPlain
import Derived.Test.YtaikjfcgemjghaaGreatAbsStep
import Derived.Test.YtaikjfcgemjghaaGreatKerbKaPlain
import Derived.Test.YtaikjfcgemjghaaGreatKerbKaRef
import Derived.Test.YtaikjfcgemjghaaGreatKerbCli3
import Derived.Test.YtaikjfcgemjghaaGreatKerbCli4
import Derived.Test.YtaikjfcgemjghaaGreatKerbCli5
import Derived.Test.YtaikjfcgemjghaaGreatKerbSrvL
import Derived.Test.YtaikjfcgemjghaaGreatKerbKac2
import Derived.Test.YtaikjfcgemjghaaGreatKerbSrvP
import Derived.Test.YtaikjfcgemjghaaGreatKerbSrvB
open Go.Abs.AV renaming int→Zz,bool→Zv,str→Zq,tup→Zb,ownB→Zn,bs→Zm,sl→Yx,onInt→Xy,undef→Xn,onStr→Xm,onOwnB→Wz,onBool→Wp,agg→Vw
open Go.IntKind renaming wrap→Zy,i64→Zw,bits→Zk,u64→Yb
open List renaming length→Zx,take_of_length_le→Yz,getD→Yy,length_map→Wy,drop_eq_nil_of_le→Wv,take→Wh,drop→Vz
open Int renaming toNat→Zu,toNat_natCast→Zh,tmod→Yq,tmod_eq_emod_of_nonneg→Yd,tdiv_eq_ediv_of_nonneg→Xz,tdiv→Xq,fdiv→Vx
open Option renaming bind→Zj
open Kerb.Entry renaming named→Zp,av→Xh
open Bool renaming and_eq_true→Zd,not_true→Yk
open Kerb renaming within→Zf,room_ok→Yv,putN_len→Yu,keyValid→Xx,isKind→Xw,text→Xu,room→Xj,putN→Xk,printable→Xp,bfd→Xf,readHead→Xb,bytes→Ww,crossAt→Wu,least→Wj,isSerial→Wk,putText→Wd,noCross→Wf,isClass→Wg,indexOf→Wb,findEnt→Wn,timed→Vy,header→Vv
open Prod renaming snd→Zg,fst→Yp
open UInt8 renaming ofNat→Yw,toNat→Yj
open Go.Abs.Ex renaming exit→Yf
open Sum renaming inr→Yg,inl→Yn
open Nat renaming beq_refl→Ym,zero_le→Xv,beq→Xg,blt→Wm
open Kerb.Cross renaming av→Yh
open Kerb.GotB renaming err→Xd,next→Wx,val→Wq
namespace Go.Proofs.YtaikjfcgemjghaaGreat
open Go Go.Abs Go.Proofs
set_option linter.unusedVariables false
set_option linter.unusedSimpArgs false
set_option maxRecDepth 100000
theorem w13:Walked Tryz.prog G 13 1 sp13:=by
 refine ⟨Tryz.f13,Tryz.func13,by decide +kernel,rfl,fun xs bl r h=> ?_⟩
 unfold sp13 at h
 split at h
 ·rename_i n
  obtain ⟨hpre,h2⟩:=chk_inv h;cases h2
  refine Eq.trans (b:=(some (Zz .u64 (Zy .u64 (↑(BitVec.toNat (BitVec.ofInt (Zk .u64) 72057594037927936 ||| BitVec.ofInt (Zk .u64) (Zy .u64 (Zy .i64 (1+n))))):Int)),[]):Option (AV×Blocks))) (by kernel_rfl) ?_
  rfl
 ·cases h
theorem w16:Walked Tryz.prog G 16 1 sp16:=by
 refine ⟨Tryz.f16,Tryz.func16,by decide +kernel,rfl,fun xs bl r h=> ?_⟩
 unfold sp16 at h
 split at h
 ·rename_i n
  obtain ⟨hpre,h2⟩:=chk_inv h;cases h2
  refine Eq.trans (b:=(some (Zz .u64 (Zy .u64 (↑(BitVec.toNat (BitVec.ofInt (Zk .u64) 144115188075855872 ||| BitVec.ofInt (Zk .u64) (Zy .u64 (Zy .i64 (1+n))))):Int)),[]):Option (AV×Blocks))) (by kernel_rfl) ?_
  rfl
 ·cases h
theorem w31:Walked Tryz.prog G 31 1 sp31:=by
 refine ⟨Tryz.f31,Tryz.func31,by decide +kernel,rfl,fun xs bl r h=> ?_⟩
 unfold sp31 at h
 split at h
 ·rename_i rl els n i
  obtain ⟨hpre,h2⟩:=chk_inv h;cases h2
  refine Eq.trans (b:=(Zj (loopM (fun (st:List AV)=>cStr st fun b r=>cStr r fun b_1 r=>cStr r fun b_2 r=>cSl 9 r fun b_3 r=>cInt .i64 r fun n r=>cInt .i64 r fun n_1 r=>cInt .i64 r fun n_2 r=>let t0:Option (List AV ⊕ Ex×List AV):=some (Yn [Zq b,Zq b_1,Zq b_2,Yx 9 b_3,Zz .i64 n,Zz .i64 n_1,Zz .i64 (Zy .i64 (n_2+1))]);onNil r (sel (decide (n_2<(↑(Zx b_3):Int))) (chk (decide (0≤n_2)&&decide (n_2<(↑(Zx b_3):Int))&&true) (AV.onAgg (Yy b_3 (Zu n_2) Xn) fun cs=>cStr cs fun b_4 r=>cStr r fun b_5 r=>cInt .u64 r fun n r=>cInt .i64 r fun n r=>cInt .i64 r fun n r=>cInt .i64 r fun n r=>cInt .i64 r fun n r=>cInt .i64 r fun n r=>cInt .i64 r fun n r=>onNil r (sel (b_4==b) (chk (decide (0≤n_2)&&decide (n_2<(↑(Zx b_3):Int))&&true) (AV.onAgg (Yy b_3 (Zu n_2) Xn) fun cs=>cStr cs fun b_6 r=>cStr r fun b_7 r=>cInt .u64 r fun n r=>cInt .i64 r fun n r=>cInt .i64 r fun n r=>cInt .i64 r fun n r=>cInt .i64 r fun n r=>cInt .i64 r fun n r=>cInt .i64 r fun n r=>onNil r (sel (b_7==b_1) (some (Yn [Zq b,Zq b_1,Zq b_2,Yx 9 b_3,Zz .i64 n_2,Zz .i64 (Zy .i64 (n_1+1)),Zz .i64 (Zy .i64 (n_2+1))])) t0))) t0))) (some (Yg (Yf 0,[Zq b,Zq b_1,Zq b_2,Yx 9 b_3,Zz .i64 n,Zz .i64 n_1,Zz .i64 n_2]))))) [Zq n,Zq i,Zq rl,Yx 9 els,Zz .i64 0,Zz .i64 0,Zz .i64 0]) fun (r:Ex×List AV)=>cStr (Zg r) fun b r_1=>cStr r_1 fun b r_2=>cStr r_2 fun b r_3=>cSl 9 r_3 fun b r_4=>cInt .i64 r_4 fun n r_5=>cInt .i64 r_5 fun n_1 r_6=>cInt .i64 r_6 fun n_2 r_7=>onNil r_7 (exK r.1 none fun (j:Nat)=>sel (Xg j 0) (sel (n_1==0) (some (Zb [Zz .i64 0,Zz .i64 8],[])) (sel (decide (n_1>1)) (some (Zb [Zz .i64 0,Zz .i64 9],[])) (some (Zb [Zz .i64 n,Zz .i64 0],[])))) none):Option (AV×Blocks))) (by kernel_rfl) ?_
  try dsimp only [cStr,cBs,cBool,cU8,cInt,cSl,l63]
  simp only [Zd,decide_eq_true_eq] at hpre
  obtain ⟨hall,hlen⟩:=hpre
  obtain ⟨es,rfl,hok⟩:=Kerb.ents_of hall
  rw [Kerb.map_toEntry]
  simp only [Wy] at hlen
  refine loop_rounds (fun q:Nat×Int=>[Zq n,Zq i,Zq rl,Yx 9 (es.map Xh),Zz Zw q.2,Zz Zw ((es.take q.1).countP (Zp n i):Int),Zz Zw (q.1:Int)])
   (fun q=>q.1≤es.length∧((es.take q.1).countP (Zp n i)=1→q.2=(es.findIdx (Zp n i):Int))) (fun q=>es.length-q.1)
   (fun r=>∃ c:Int,r=(.exit 0,[Zq n,Zq i,Zq rl,Yx 9 (es.map Xh),Zz Zw c,Zz Zw (es.countP (Zp n i):Int),Zz Zw (es.length:Int)])∧(es.countP (Zp n i)=1→c=(es.findIdx (Zp n i):Int))) (0,0) ⟨Xv _,fun h=>by simp at h⟩ rfl ?_ ?_
  ·rintro ⟨j,c⟩ ⟨hj,hinv⟩
   simp only at hj hinv
   simp only [↓A0,A0,Wy]
   rcases Nat.lt_or_ge j es.length with h | h
   ·have hc:=Kerb.count_take (p:=Zp n i) h
    have hle:=Kerb.count_le (p:=Zp n i) (es:=es) (j+1)
    have hcl:=List.countP_le_length (p:=Zp n i) (l:=es)
    have hx:=Kerb.find_first (p:=Zp n i) h
    have hg:(List.map Xh es).getD j Xn=(es.getD j Kerb.noEntry).av:=Kerb.getD_ent h
    rw [sel_pos (by simp;omega),chk_of (by simp;omega),Zh,hg]
    generalize es.getD j Kerb.noEntry=e at hc hx
    simp only [Xh,↓A0,A0]
    rw [wrap_i64 (n:=(j:Int)+1) (by omega) (by omega),wrap_i64 (by omega) (by omega),chk_of (by simp;omega)]
    by_cases h1:e.name=n
    ·by_cases h2:e.inst=i
     ·have hp:Zp n i e=true:=by simp [Zp,h1,h2]
      rw [hp,cond_true] at hc
      rw [sel_pos (by simp [h1]),sel_pos (by simp [h2])]
      refine ⟨_,rfl,(j+1,(j:Int)),by simp [hc],⟨by simp only;omega,fun h0=> ?_⟩,by simp only;omega⟩
      simp only at h0 ⊢
      rw [hx (by omega) hp]
     ·have hp:Zp n i e=false:=by simp [Zp,h2]
      rw [hp,cond_false] at hc
      rw [sel_pos (by simp [h1]),sel_neg (by simpa using h2)]
      exact ⟨_,rfl,(j+1,c),by simp [hc],⟨by simp only;omega,by simp only;rw [hc];simpa using hinv⟩,by simp only;omega⟩
    ·have hp:Zp n i e=false:=by simp [Zp,h1]
     rw [hp,cond_false] at hc
     rw [sel_neg (by simpa using h1)]
     exact ⟨_,rfl,(j+1,c),by simp [hc],⟨by simp only;omega,by simp only;rw [hc];simpa using hinv⟩,by simp only;omega⟩
   ·rw [sel_neg (by simp;omega)]
    have hj2:j=es.length:=by omega
    subst hj2
    rw [Yz h] at hinv ⊢
    exact ⟨_,rfl,c,rfl,hinv⟩
  ·rintro _ ⟨c,rfl,h⟩
   simp only [↓A0,A0]
   unfold Wn
   rw [sel_pos (Ym _)]
   generalize es.countP (Zp n i)=q at h ⊢
   by_cases h0:q=0
   ·rw [sel_pos (by simp [h0]),if_pos h0]
   by_cases h1:1<q
   ·rw [sel_neg (by simp;omega),sel_pos (by simp;omega),if_neg h0,if_pos h1]
   ·rw [sel_neg (by simp;omega),sel_neg (by simp;omega),if_neg h0,if_neg h1,h (by omega)]
 ·cases h
theorem w65:Walked Tryz.prog G 65 1 sp65:=by
 refine ⟨Tryz.f65,Tryz.func65,by decide +kernel,rfl,fun xs bl r h=> ?_⟩
 unfold sp65 at h
 split at h
 ·rename_i b how
  obtain ⟨hpre,h2⟩:=chk_inv h;cases h2
  refine Eq.trans (b:=(let t0:Int:=Yq (Zy .i64 (Zy .u16 (Xq how 8))) (↑(Zx b):Int);chk (room (Zx b) 1) (sel ((↑(Zx b):Int)==0) (some (Zm b,[])) (chk (!(↑(Zx b):Int)==0) (sel (Yq how 4==0) (chk (decide (0≤t0)&&decide (t0<(↑(Zx b):Int))) (chk (Wm (Zu t0) (Zx b)&&true&&true&&true) (chk (decide (0≤Zy .u64 (Yq how 7))) (chk (decide (0≤t0)&&decide (t0<(↑(Zx b):Int))) (chk (Wm (Zu t0) (Zx b)&&true&&true&&true&&true) (some (Zm (List.set b (Zu t0) (Yw (Zu (Zy .u8 (↑(BitVec.toNat (BitVec.ofInt (Zk .u8) (↑(Yj (Yy b (Zu t0) (0:UInt8))):Int) ^^^ BitVec.ofInt (Zk .u8) (↑(Yj (Yw (Zu (Zy .u8 ((↑(Yj (1:UInt8)):Int)*2 ^ min (Zu (Zy .u64 (Yq how 7))) 8))))):Int))):Int))))),[]))))))) (sel (Yq how 4==1) (chk (decide (0≤t0)&&decide (t0≤(↑(Zx b):Int))&&Wm 0 (Zx b)&&true) (chk (decide (0≤Zy .i64 (t0+1))&&decide (Zy .i64 (t0+1)≤(↑(Zx b):Int))&&Wm 0 (Zx b)&&true) (chk (Wm 0 (Zx b)&&true&&true&&true&&room (Zu t0+(Zx b-Zu (Zy .i64 (t0+1)))) 1) (some (Zm (Wh (Zu t0) b++Vz (Zu (Zy .i64 (t0+1))) b),[]))))) (sel (Yq how 4==2) (chk (room (Zx b+Zx [Yw (Zu (Zy .u8 how))]) 1) (some (Zm (b++[Yw (Zu (Zy .u8 how))]),[]))) (some (Zm b,[]))))))):Option (AV×Blocks))) (by kernel_rfl) ?_
  try dsimp only [cStr,cBs,cBool,cU8,cInt,cSl,l63]
  simp only [Zd,decide_eq_true_eq] at hpre
  obtain ⟨⟨hb,h0⟩,h1⟩:=hpre
  rw [chk_of (Yv (by omega))]
  unfold Kerb.spoil
  by_cases hn:b=[]
  ·subst hn;rfl
  have hpos:0<b.length:=List.length_pos_iff.2 hn
  rw [if_neg hn,sel_neg (by simp;omega),chk_of (by simp;omega)]
  have e:Yq (Zy Zw (Zy IntKind.u16 (Xq how (8:Int)))) (b.length:Int)=Kerb.spoilAt b how:=rfl
  rw [e]
  obtain ⟨ha,hc⟩:=Kerb.spoilAt_bd h0 h1 hpos
  generalize Kerb.spoilAt b how=a at ha hc ⊢
  have hd:(decide ((0:Int)≤a)&&decide (a<(b.length:Int)))=true:=by simp;omega
  have hbl:Wm a.toNat b.length=true:=Nat.ble_eq_true_of_le (by omega)
  have hbl0:Wm 0 b.length=true:=Nat.ble_eq_true_of_le (by omega)
  have h7:decide ((0:Int)≤Zy Yb (Yq how (7:Int)))=true:=by rw [Kerb.wrap_u64];simp;omega
  by_cases c0:Yq how 4=0
  ·rw [if_pos c0,sel_pos (by simpa using c0),chk_of hd,chk_of (by rw [hbl];rfl),chk_of h7,chk_of hd,chk_of (by rw [hbl];rfl)]
  rw [if_neg c0,sel_neg (by simpa using c0)]
  by_cases c1:Yq how 4=1
  ·rw [if_pos c1,sel_pos (by simpa using c1),wrap_i64 (n:=a+1) (by omega) (by omega),chk_of (by rw [hbl0];simp;omega),chk_of (by rw [hbl0];simp;omega),chk_of (by rw [hbl0,Yv (by omega)];rfl)]
  rw [if_neg c1,sel_neg (by simpa using c1)]
  by_cases c2:Yq how 4=2
  ·rw [if_pos c2,sel_pos (by simpa using c2),chk_of (Yv (by simp;omega))]
  ·rw [if_neg c2,sel_neg (by simpa using c2)]
 ·cases h
theorem w71:Walked Tryz.prog G 71 1 sp71:=by
 refine ⟨Tryz.f71,Tryz.func71,by decide +kernel,rfl,fun xs bl r h=> ?_⟩
 unfold sp71 at h
 split at h
 ·rename_i n
  cases h
  refine Eq.trans (b:=(sel (n==1) (some (Zv true,[])) (some (Zv (n==3),[])):Option (AV×Blocks))) (by kernel_rfl) ?_
  cases (n==1)<;>rfl
 ·cases h
theorem w87:Walked Tryz.prog G 87 1 sp87:=by
 refine ⟨Tryz.f87,Tryz.func87,by decide +kernel,rfl,fun xs bl r h=> ?_⟩
 unfold sp87 at h
 split at h
 ·cases h
  refine Eq.trans (b:=(some (Yx 1 [Zq [(65:UInt8),(84:UInt8),(72:UInt8)],Zq [(66:UInt8),(79:UInt8),(83:UInt8)],Zq [(67:UInt8),(65:UInt8),(77:UInt8)]],[]):Option (AV×Blocks))) (by kernel_rfl) ?_
  rfl
 ·cases h
theorem w93:Walked Tryz.prog G 93 1 sp93:=by
 refine ⟨Tryz.f93,Tryz.func93,by decide +kernel,rfl,fun xs bl r h=> ?_⟩
 unfold sp93 at h
 split at h
 ·rename_i r t
  cases h
  refine Eq.trans (b:=(some (Vw [Zq [(107:UInt8),(114:UInt8),(98:UInt8),(116:UInt8),(103:UInt8),(116:UInt8)],Zq t,Zq r],[]):Option (AV×Blocks))) (by kernel_rfl) ?_
  rfl
 ·cases h
theorem w121:Walked Tryz.prog G 121 1 sp121:=by
 refine ⟨Tryz.f121,Tryz.func121,by decide +kernel,rfl,fun xs bl r h=> ?_⟩
 unfold sp121 at h
 split at h
 ·rename_i a b
  cases h
  refine Eq.trans (b:=(some (Zv (a==b),[]):Option (AV×Blocks))) (by kernel_rfl) ?_
  rfl
 ·cases h
theorem w124:Walked Tryz.prog G 124 1 sp124:=by
 refine ⟨Tryz.f124,Tryz.func124,by decide +kernel,rfl,fun xs bl r h=> ?_⟩
 unfold sp124 at h
 split at h
 ·rename_i n els
  obtain ⟨hpre,h2⟩:=chk_inv h;cases h2
  refine Eq.trans (b:=(Zj (loopM (fun (st:List AV)=>onCons st fun x r=>Xy .i64 x fun n=>onCons r fun x r=>AV.onSl 1 x fun b=>onCons r fun x r=>Xy .i64 x fun n_1=>onCons r fun x r=>Xy .i64 x fun n_2=>onNil r (sel (decide (n_2<n_1)) (chk (decide (0≤n_2)&&decide (n_2<(↑(Zx b):Int))&&true) (Xy .i64 (Yy b (Zu n_2) Xn) fun n_3=>sel (decide (n_3<n)) (some (Yn [Zz .i64 n_3,Yx 1 b,Zz .i64 n_1,Zz .i64 (Zy .i64 (n_2+1))])) (some (Yn [Zz .i64 n,Yx 1 b,Zz .i64 n_1,Zz .i64 (Zy .i64 (n_2+1))])))) (some (Yg (Yf 0,[Zz .i64 n,Yx 1 b,Zz .i64 n_1,Zz .i64 n_2]))))) [Zz .i64 n,Yx 1 els,Zz .i64 (↑(Zx els):Int),Zz .i64 0]) fun (r:Ex×List AV)=>onCons (Zg r) fun x r_1=>Xy .i64 x fun n=>onCons r_1 fun x r_2=>AV.onSl 1 x fun b=>onCons r_2 fun x r_3=>Xy .i64 x fun n_1=>onCons r_3 fun x r_4=>Xy .i64 x fun n_2=>onNil r_4 (exK r.1 none fun (j:Nat)=>sel (Xg j 0) (some (Zz .i64 n,[])) none):Option (AV×Blocks))) (by kernel_rfl) ?_
  simp only [Zd,decide_eq_true_eq] at hpre
  obtain ⟨ha,hl⟩:=hpre
  have hil:=Kerb.ints_len ha
  refine loop_rounds (fun i:Nat=>[Zz Zw (Wj n ((intsIn els).take i)),Yx 1 els,Zz Zw (els.length:Int),Zz Zw (i:Int)]) (fun i=>i≤els.length) (fun i=>els.length-i)
   (fun r=>r=(.exit 0,[Zz Zw (Wj n (intsIn els)),Yx 1 els,Zz Zw (els.length:Int),Zz Zw (els.length:Int)])) 0 (Xv _) rfl ?_ ?_
  ·intro i hi
   simp only [↓A0,A0]
   rcases Nat.lt_or_ge i els.length with h | h
   ·obtain ⟨m,h1,h2⟩:=Kerb.ints_get ha h
    rw [sel_pos (by simp;omega),chk_of (by simp;omega),Zh,h1,onInt_int]
    have ht:(intsIn els).take (i+1)=(intsIn els).take i++[m]:=by
     have h4:i<(intsIn els).length:=by omega
     rw [List.take_succ_eq_append_getElem h4]
     rw [List.drop_eq_getElem_cons h4] at h2
     rw [(List.cons.inj h2).1]
    have hs:Wj n ((intsIn els).take (i+1))=Kerb.imin (Wj n ((intsIn els).take i)) m:=by rw [ht];simp [Wj]
    rw [wrap_i64 (by omega) (by omega)]
    unfold Kerb.imin at hs
    by_cases hm:m<Wj n ((intsIn els).take i)
    ·rw [sel_pos (by simpa using hm)]
     rw [if_pos hm] at hs
     exact ⟨_,rfl,i+1,by dsimp only;rw [hs];rfl,by omega,by dsimp only;omega⟩
    ·rw [sel_neg (by simpa using hm)]
     rw [if_neg hm] at hs
     exact ⟨_,rfl,i+1,by dsimp only;rw [hs];rfl,by omega,by dsimp only;omega⟩
   ·have h1:i=els.length:=by omega
    subst h1
    rw [sel_neg (by simp)]
    refine ⟨_,rfl,?_⟩
    show _=_
    rw [Yz (by omega)]
  ·rintro _ rfl
   rfl
 ·cases h
theorem w132:Walked Tryz.prog G 132 1 sp132:=by
 refine ⟨Tryz.f132,Tryz.func132,by decide +kernel,rfl,fun xs bl r h=> ?_⟩
 unfold sp132 at h
 split at h
 ·rename_i n m
  cases h
  refine Eq.trans (b:=(sel (decide (n≥0)) (some (Zv (decide (n≤m)),[])) (some (Zv false,[])):Option (AV×Blocks))) (by kernel_rfl) ?_
  by_cases h:0≤n<;>simp [sel,Zf,h]
 ·cases h
theorem w135:Walked Tryz.prog G 135 1 sp135:=by
 refine ⟨Tryz.f135,Tryz.func135,by decide +kernel,rfl,fun xs bl r h=> ?_⟩
 unfold sp135 at h
 split at h
 ·rename_i k
  obtain ⟨hpre,h2⟩:=chk_inv h;cases h2
  refine Eq.trans (b:=(Zj (loopM (fun (st:List AV)=>cInt .u64 st fun n r=>onCons r fun x r=>Wz x fun b=>cInt .i64 r fun n_1 r=>let t0:List UInt8:=[Yw (Zu (Zy .u8 (Vx n (2 ^ min (Zu (Zy .u64 (Zy .i64 (8*n_1)))) (Zk .u64)))))];onNil r (sel (decide (n_1≥0)) (chk (decide (0≤Zy .u64 (Zy .i64 (8*n_1)))) (chk (room (Zx b+Zx t0) 1) (some (Yn [Zz .u64 n,Zn (b++t0),Zz .i64 (Zy .i64 (n_1-1))])))) (some (Yg (Yf 0,[Zz .u64 n,Zn b,Zz .i64 n_1]))))) [Zz .u64 k,Zn [],Zz .i64 7]) fun (r:Ex×List AV)=>cInt .u64 (Zg r) fun n r_1=>onCons r_1 fun x r_2=>Wz x fun b=>cInt .i64 r_2 fun n r_3=>onNil r_3 (exK r.1 none fun (j:Nat)=>sel (Xg j 0) (some (Zm b,[])) none):Option (AV×Blocks))) (by kernel_rfl) ?_
  try dsimp only [cStr,cBs,cBool,cU8,cInt,cSl,l63]
  refine loop_unroll 9 (Yf 0,[Zz Yb k,Zn [Xf k 56,Xf k 48,Xf k 40,Xf k 32,Xf k 24,Xf k 16,Xf k 8,Xf k 0],Zz Zw (-1)]) (by kernel_rfl) ?_
  simp only [A0]
  rw [sel_pos (Ym _)]
  simp [Kerb.bfd_eq,Kerb.keyBytes,Kerb.byteAt,List.range_succ]
 ·cases h
theorem w136:Walked Tryz.prog G 136 1 sp136:=by
 refine ⟨Tryz.f136,Tryz.func136,by decide +kernel,rfl,fun xs bl r h=> ?_⟩
 unfold sp136 at h
 split at h
 ·rename_i b
  obtain ⟨hpre,h2⟩:=chk_inv h;cases h2
  refine Eq.trans (b:=(chk (room (Zx b) 1) (Zj (loopM (fun (st:List AV)=>onCons st fun x r=>Wz x fun b=>onNil r (sel (!Yq (↑(Zx b):Int) 8==0) (chk (room (Zx b+Zx [(0:UInt8)]) 1) (some (Yn [Zn (b++[(0:UInt8)])]))) (some (Yg (Yf 0,[Zn b]))))) [Zn b]) fun (r:Ex×List AV)=>onCons (Zg r) fun x r_1=>Wz x fun b=>onNil r_1 (exK r.1 none fun (j:Nat)=>sel (Xg j 0) (some (Zn b,[])) none)):Option (AV×Blocks))) (by kernel_rfl) ?_
  have hb:=of_decide_eq_true hpre
  rw [chk_of (Yv (by omega))]
  refine loop_rounds (fun i:Nat=>[Zn (b++List.replicate i 0)]) (fun i=>i≤(8-b.length % 8) % 8) (fun i=>(8-b.length % 8) % 8-i)
   (fun r=>r=(Yf 0,[Zn (Kerb.pad b)])) 0 (by omega) (by simp) ?_ ?_
  ·intro i hi
   simp only [A0]
   have e:Yq ((b++List.replicate i 0).length:Int) 8=(((b.length+i) % 8:Nat):Int):=by
    rw [Yd (by omega)]
    simp
   rw [e]
   by_cases hlt:i<(8-b.length % 8) % 8
   ·rw [sel_pos (by simp;omega),chk_of (Yv (by simp;omega))]
    refine ⟨_,rfl,i+1,?_,by omega,by dsimp only;omega⟩
    dsimp only
    rw [List.replicate_succ',List.append_assoc]
   ·rw [sel_neg (by simp;omega)]
    refine ⟨_,rfl,?_⟩
    show _=_
    rw [Kerb.pad,show i=(8-b.length % 8) % 8 from by omega]
  rintro r rfl
  simp only [A0]
  rw [sel_pos (Ym _)]
 ·cases h
theorem w141:Walked Tryz.prog G 141 1 sp141:=by
 refine ⟨Tryz.f141,Tryz.func141,by decide +kernel,rfl,fun xs bl r h=> ?_⟩
 unfold sp141 at h
 split at h
 ·rename_i k little
  cases h
  refine Eq.trans (b:=(sel (decide (k<1)) (some (Zm [],[])) (sel (decide (k>10)) (some (Zm [],[])) (sel little (some (Zm [(4:UInt8),Yw (Zu (Zy .u8 (Zy .i64 (Zy .i64 (2*k)+1))))],[])) (some (Zm [(4:UInt8),Yw (Zu (Zy .u8 (Zy .i64 (2*k))))],[])))):Option (AV×Blocks))) (by kernel_rfl) ?_
  by_cases h:1≤k∧k≤10
  ·have hk:k=1∨k=2∨k=3∨k=4∨k=5∨k=6∨k=7∨k=8∨k=9∨k=10:=by omega
   rcases hk with rfl | rfl | rfl | rfl | rfl | rfl | rfl | rfl | rfl | rfl<;>cases little<;>rfl
  ·have hk:Xw k=false:=by simp [Xw];omega
   by_cases h1:k<1
   ·simp [sel,Vv,hk,h1]
   ·have h2:10<k:=by omega
    simp [sel,Vv,hk,h1,h2]
 ·cases h
theorem w143:Walked Tryz.prog G 143 1 sp143:=by
 refine ⟨Tryz.f143,Tryz.func143,by decide +kernel,rfl,fun xs bl r h=> ?_⟩
 unfold sp143 at h
 split at h
 ·rename_i b s
  obtain ⟨hpre,h2⟩:=chk_inv h;cases h2
  refine Eq.trans (b:=(chk (room (Zx b) 1) (chk (room (Zx b+Zx s) 1) (chk (room (Zx (b++s)+Zx [(0:UInt8)]) 1) (some (Zm (b++s++[(0:UInt8)]),[])))):Option (AV×Blocks))) (by kernel_rfl) ?_
  simp only [decide_eq_true_eq] at hpre
  rw [chk_of (Yv (by omega)),chk_of (Yv (by omega)),chk_of (Yv (by simp;omega))]
  simp [Wd]
 ·cases h
theorem w161:Walked Tryz.prog G 161 1 sp161:=by
 refine ⟨Tryz.f161,Tryz.func161,by decide +kernel,rfl,fun xs bl r h=> ?_⟩
 unfold sp161 at h
 split at h
 ·rename_i b
  cases h
  refine Eq.trans (b:=(let t0:Int:=Zy .i64 (↑(Yj (Yw (Zu (Zy .u8 (Xq (↑(Yj (Yy b (Zu 1) (0:UInt8))):Int) (↑(Yj (2:UInt8)):Int)))))):Int);let t1:Option (AV×Blocks):=some (Zb [Zz .i64 0,Zv false,Zz .i64 40],[]);sel (decide ((↑(Zx b):Int)<2)) (some (Zb [Zz .i64 0,Zv false,Zz .i64 101],[])) (chk (decide (0<(↑(Zx b):Int))) (sel (!Yy b (Zu 0) (0:UInt8)==(4:UInt8)) (some (Zb [Zz .i64 0,Zv false,Zz .i64 39],[])) (chk (decide (1<(↑(Zx b):Int))) (sel (decide (t0<1)) t1 (sel (decide (t0>10)) t1 (chk (decide (1<(↑(Zx b):Int))) (some (Zb [Zz .i64 t0,Zv (Yw (Zu (Yq (↑(Yj (Yy b (Zu 1) (0:UInt8))):Int) (↑(Yj (2:UInt8)):Int)))==(1:UInt8)),Zz .i64 0],[])))))))):Option (AV×Blocks))) (by kernel_rfl) ?_
  try dsimp only [cStr,cBs,cBool,cU8,cInt,cSl,l63]
  unfold Xb
  by_cases h1:b.length<2
  ·rw [sel_pos (by simp;omega)]
   simp [h1]
  rw [sel_neg (by simp;omega),chk_of (by simp;omega),if_neg h1]
  by_cases h2:b.getD 0 0=4
  ·have hb:=(b.getD 1 0).toNat_lt
   have e:Zy Zw ((Yw (Zu (Zy IntKind.u8 (Xq ((b.getD (Zu 1) 0).toNat:Int) ((2:UInt8).toNat:Int))))).toNat:Int)=(((b.getD 1 0).toNat / 2:Nat):Int):=by
    rw [show Zu 1=1 from rfl,show ((2:UInt8).toNat:Int)=2 from rfl,Xz (by omega),Kerb.wrap_u8]
    have e3:Zu (((b.getD 1 0).toNat:Int) / 2 % 256)=(b.getD 1 0).toNat / 2:=by omega
    rw [e3,UInt8.toNat_ofNat_of_lt' (by show _<256;omega),wrap_i64 (by omega) (by omega)]
   have e2:(Yw (Zu (Yq ((b.getD (Zu 1) 0).toNat:Int) ((2:UInt8).toNat:Int)))==1)=decide ((b.getD 1 0).toNat % 2=1):=by
    rw [show Zu 1=1 from rfl,Yd (by omega)]
    have e3:Zu (((b.getD 1 0).toNat:Int) % ((2:UInt8).toNat:Int))=(b.getD 1 0).toNat % 2:=by
     show Zu (((b.getD 1 0).toNat:Int) % 2)=_
     omega
    rw [e3]
    rcases Nat.mod_two_eq_zero_or_one (b.getD 1 0).toNat with h | h<;>rw [h]<;>rfl
   rw [sel_neg (by simp [h2] at *;exact h2),chk_of (by simp;omega),if_neg (by simpa using h2),e,e2]
   generalize (b.getD 1 0).toNat / 2=m
   unfold Xw
   by_cases h3:1≤m
   case neg =>
    rw [sel_pos (by simp;omega),if_neg (by simp;omega)]
   by_cases h4:m≤10
   case neg =>
    rw [sel_neg (by simp;omega),sel_pos (by simp;omega),if_neg (by simp;omega)]
   rw [sel_neg (by simp;omega),sel_neg (by simp;omega),chk_of (by simp;omega),if_pos (by simp;omega)]
  ·rw [sel_pos (by simpa using h2),if_pos (by simpa using h2)]
 ·cases h
theorem w163:Walked Tryz.prog G 163 1 sp163:=by
 refine ⟨Tryz.f163,Tryz.func163,by decide +kernel,rfl,fun xs bl r h=> ?_⟩
 unfold sp163 at h
 split at h
 ·rename_i nx e B at_ li bad
  cases h
  show runFnH (G.env 163 1) G.rts (G.own 163) Tryz.f163 _ _ [0]=_
  refine Eq.trans (b:=(sel bad (some (Zb [],[[Zm B,Zz .i64 at_,Zv li,Zv true]])) (sel (!e==0) (some (Zb [],[[Zm B,Zz .i64 at_,Zv li,Zv true]])) (some (Zb [],[[Zm B,Zz .i64 nx,Zv li,Zv bad]]))):Option (AV×Blocks))) (by kernel_rfl) ?_
  cases bad
  ·cases (e==0)<;>rfl
  ·rfl
 ·cases h
theorem w164:Walked Tryz.prog G 164 1 sp164:=by
 refine ⟨Tryz.f164,Tryz.func164,by decide +kernel,rfl,fun xs bl r h=> ?_⟩
 unfold sp164 at h
 split at h
 ·rename_i b pos
  obtain ⟨hpre,h2⟩:=chk_inv h;cases h2
  refine Eq.trans (b:=(let t0:Option (AV×Blocks):=some (Zb [Zq [],Zz .i64 0,Zz .i64 104],[]);sel (decide (pos<0)) t0 (sel (decide (pos>(↑(Zx b):Int))) t0 (Zj (loopM (fun (st:List AV)=>cBs st fun b r=>cInt .i64 r fun n r=>cStr r fun b_1 r=>cInt .i64 r fun n_1 r=>cInt .i64 r fun n_2 r=>cInt .i64 r fun n_3 r=>onNil r (sel (decide (n_3≤39)) (sel (decide (Zy .i64 (n+n_3)≥(↑(Zx b):Int))) (some (Yg (Ex.ret,[Zm b,Zz .i64 n,Zq [],Zz .i64 0,Zz .i64 101,Zz .i64 n_3]))) (chk (decide (0≤Zy .i64 (n+n_3))&&decide (Zy .i64 (n+n_3)<(↑(Zx b):Int))) (sel (Yy b (Zu (Zy .i64 (n+n_3))) (0:UInt8)==(0:UInt8)) (chk (decide (0≤n)&&decide (n≤Zy .i64 (n+n_3))&&decide (Zy .i64 (n+n_3)≤(↑(Zx b):Int))) (some (Yg (Ex.ret,[Zm b,Zz .i64 n,Zq (Vz (Zu n) (Wh (Zu (Zy .i64 (n+n_3))) b)),Zz .i64 (Zy .i64 (Zy .i64 (n+n_3)+1)),Zz .i64 0,Zz .i64 n_3])))) (some (Yn [Zm b,Zz .i64 n,Zq b_1,Zz .i64 n_1,Zz .i64 n_2,Zz .i64 (Zy .i64 (n_3+1))]))))) (some (Yg (Yf 0,[Zm b,Zz .i64 n,Zq b_1,Zz .i64 n_1,Zz .i64 n_2,Zz .i64 n_3]))))) [Zm b,Zz .i64 pos,Zq [],Zz .i64 0,Zz .i64 0,Zz .i64 0]) fun (r:Ex×List AV)=>cBs (Zg r) fun b r_1=>cInt .i64 r_1 fun n r_2=>cStr r_2 fun b r_3=>cInt .i64 r_3 fun n r_4=>cInt .i64 r_4 fun n_1 r_5=>cInt .i64 r_5 fun n_2 r_6=>onNil r_6 (exK r.1 (some (Zb [Zq b,Zz .i64 n,Zz .i64 n_1],[])) fun (j:Nat)=>sel (Xg j 0) (some (Zb [Zq [],Zz .i64 0,Zz .i64 105],[])) none))):Option (AV×Blocks))) (by kernel_rfl) ?_
  try dsimp only [cStr,cBs,cBool,cU8,cInt,cSl,l63]
  have hb:=of_decide_eq_true hpre
  unfold Xu
  by_cases h1:pos<0
  ·rw [sel_pos (by simpa using h1),if_neg (by rw [Kerb.room_zero];omega)]
  rw [sel_neg (by simpa using h1)]
  by_cases h2:(b.length:Int)<pos
  ·rw [sel_pos (by simpa using h2),if_neg (by rw [Kerb.room_zero];omega)]
  rw [sel_neg (by simpa using h2),if_pos (Kerb.room_zero.2 (by omega))]
  obtain ⟨R,hR⟩:∃ R,R=b.drop pos.toNat:=⟨_,rfl⟩
  have hRl:R.length=b.length-pos.toNat:=by rw [hR];simp
  rw [← hR]
  obtain ⟨T,hT⟩:∃ T,T=R.take 40:=⟨_,rfl⟩
  rw [← hT]
  have hix:=Kerb.indexOf_nonneg 0 T
  refine loop_rounds (fun i:Nat=>[Zm b,Zz Zw pos,Zq [],Zz Zw 0,Zz Zw 0,Zz Zw (i:Int)]) (fun i=>i≤40∧i≤R.length∧(0:UInt8) ∉ R.take i) (fun i=>40-i)
   (fun r=>∃ (i:Nat) (v:List UInt8) (nx e:Int),r.2=[Zm b,Zz Zw pos,Zq v,Zz Zw nx,Zz Zw e,Zz Zw (i:Int)] ∧
    ((r.1 = .ret∧v=[]∧nx=0∧e=101∧Wb 0 T<0∧T.length≠40)∨(r.1 = .ret∧Wb 0 T=i∧v=T.take i∧nx=pos+i+1∧e=0)∨(r.1 = .exit 0∧Wb 0 T<0∧T.length=40))) 0 ⟨by omega,by omega,by simp⟩ rfl ?_ ?_
  ·rintro i ⟨hi,hir,h0⟩
   simp only [A0]
   by_cases hlt:i≤39
   case neg =>
    have e40:i=40:=by omega
    subst e40
    rw [sel_neg (by decide)]
    refine ⟨_,rfl,40,[],0,0,rfl,.inr (.inr ⟨rfl,?_,?_⟩)⟩
    ·rw [← hT] at h0;have:=mt hix.1 h0;omega
    ·rw [hT];simp;omega
   rw [sel_pos (by simp;omega),wrap_i64 (n:=pos+(i:Int)) (by omega) (by omega)]
   by_cases hend:(b.length:Int)≤pos+i
   ·rw [sel_pos (by simpa using hend)]
    have hTR:T=R.take i:=by rw [hT,Yz (by omega),Yz (by omega)]
    refine ⟨_,rfl,i,[],0,101,rfl,.inl ⟨rfl,rfl,rfl,rfl,?_,?_⟩⟩
    ·rw [← hTR] at h0;have:=mt hix.1 h0;omega
    ·rw [hTR];simp;omega
   have hiR:i<R.length:=by omega
   have hd:=Kerb.drop_all_cons hiR
   have hbi:b.getD (pos+(i:Int)).toNat 0=R.getD i 0:=by
    rw [show (pos+(i:Int)).toNat=pos.toNat+i by omega,hR]
    simp [List.getD_eq_getElem?_getD]
   rw [sel_neg (by simpa using hend),chk_of (by simp;omega),hbi]
   by_cases hz:R.getD i 0=0
   ·rw [sel_pos (by rw [hz];rfl),chk_of (by simp;omega),wrap_i64 (by omega) (by omega)]
    have hTi:T.take i=R.take i:=by rw [hT,List.take_take,Nat.min_eq_left (by omega)]
    have hTe:T=R.take i++0::(R.drop (i+1)).take (39-i):=by
     rw [hT]
     have:R=R.take i++(0::R.drop (i+1)):=by rw [← hz,← hd,List.take_append_drop]
     have hl:(R.take i).length=i:=by simp;omega
     calc R.take 40=(R.take i++(0::R.drop (i+1))).take 40:=by rw [← this]
      _=_:=by rw [List.take_append,hl,Yz (by omega),show 40-i=(39-i)+1 by omega,List.take_succ_cons]
    have hidx:Wb 0 T=i:=by
     rw [hTe,Kerb.indexOf_append h0];simp;omega
    refine ⟨_,rfl,i,_,_,0,rfl,.inr (.inl ⟨rfl,hidx,?_,rfl,rfl⟩)⟩
    rw [hTi,hR,show (pos+(i:Int)).toNat=pos.toNat+i by omega,List.drop_take,show pos.toNat+i-pos.toNat=i by omega]
   ·rw [sel_neg (beq_eq_false_iff_ne.2 hz),wrap_i64 (by omega) (by omega)]
    refine ⟨_,rfl,i+1,rfl,⟨by omega,by omega,?_⟩,by dsimp only;omega⟩
    rw [Kerb.take_succ_getD hiR]
    simp only [List.mem_append,List.mem_singleton,not_or]
    exact ⟨h0,fun e=>hz e.symm⟩
  ·rintro ⟨e,l⟩ ⟨i,v,nx,er,rfl,⟨rfl,rfl,rfl,rfl,g1,g2⟩ | ⟨rfl,g1,rfl,rfl,rfl⟩ | ⟨rfl,g1,g2⟩⟩
   ·simp only [A0]
    rw [if_neg (by omega),if_neg g2]
   ·simp only [A0]
    rw [if_pos (by omega),g1,Zh]
   ·simp only [A0]
    rw [if_neg (by omega),if_pos g2,sel_pos (Ym _)]
 ·cases h
theorem w165:Walked Tryz.prog G 165 1 sp165:=by
 refine ⟨Tryz.f165,Tryz.func165,by decide +kernel,rfl,fun xs bl r h=> ?_⟩
 unfold sp165 at h
 split at h
 ·rename_i b pos n
  obtain ⟨hpre,h2⟩:=chk_inv h;cases h2
  refine Eq.trans (b:=(sel (decide (pos<0)) (some (Zb [Zm [],Zz .i64 0,Zz .i64 104],[])) (sel (decide (pos>(↑(Zx b):Int))) (some (Zb [Zm [],Zz .i64 0,Zz .i64 104],[])) (sel (decide (n<0)) (some (Zb [Zm [],Zz .i64 0,Zz .i64 104],[])) (sel (decide (n>Zy .i64 ((↑(Zx b):Int)-pos))) (some (Zb [Zm [],Zz .i64 0,Zz .i64 101],[])) (chk (decide (0≤pos)&&decide (pos≤Zy .i64 (pos+n))&&decide (Zy .i64 (pos+n)≤(↑(Zx b):Int))) (chk (room (Zx (Vz (Zu pos) (Wh (Zu (Zy .i64 (pos+n))) b))) 1) (some (Zb [Zm (Vz (Zu pos) (Wh (Zu (Zy .i64 (pos+n))) b)),Zz .i64 (Zy .i64 (pos+n)),Zz .i64 0],[]))))))):Option (AV×Blocks))) (by kernel_rfl) ?_
  have hb:=of_decide_eq_true hpre
  unfold Ww
  by_cases h1:pos<0
  ·have e:Xj b pos n=104:=by unfold Xj;rw [if_pos (by omega)]
   rw [sel_pos (by simpa using h1),e]
   rfl
  rw [sel_neg (by simpa using h1)]
  by_cases h2:(b.length:Int)<pos
  ·have e:Xj b pos n=104:=by unfold Xj;rw [if_pos (by omega)]
   rw [sel_pos (by simpa using h2),e]
   rfl
  rw [sel_neg (by simpa using h2)]
  by_cases h3:n<0
  ·have e:Xj b pos n=104:=by unfold Xj;rw [if_pos (by omega)]
   rw [sel_pos (by simpa using h3),e]
   rfl
  rw [sel_neg (by simpa using h3),wrap_i64 (n:=(b.length:Int)-pos) (by omega) (by omega)]
  by_cases h4:(b.length:Int)-pos<n
  ·have e:Xj b pos n=101:=by unfold Xj;rw [if_neg (by omega),if_pos h4]
   rw [sel_pos (by simpa using h4),e]
   rfl
  have hr:Xj b pos n=0:=Kerb.room_zero.2 (by omega)
  have e:Vz (Zu pos) (Wh (Zu (pos+n)) b)=Kerb.cut b pos n:=by
   rw [show Zu (pos+n)=pos.toNat+n.toNat by omega,List.drop_take,show pos.toNat+n.toNat-pos.toNat=n.toNat by omega]
   rfl
  have hc:=Kerb.cut_length hr
  rw [sel_neg (by simpa using h4),if_pos hr,wrap_i64 (by omega) (by omega),e,chk_of (by simp;omega),chk_of (Yv (by omega))]
 ·cases h
theorem w167:Walked Tryz.prog G 167 1 sp167:=by
 refine ⟨Tryz.f167,Tryz.func167,by decide +kernel,rfl,fun xs bl r h=> ?_⟩
 unfold sp167 at h
 split at h
 ·rename_i s bad
  obtain ⟨hpre,h2⟩:=chk_inv h;cases h2
  refine Eq.trans (b:=(Zj (loopM (fun (st:List AV)=>cStr st fun b r=>cStr r fun b_1 r=>cBool r fun b_2 r=>cInt .i64 r fun n r=>let t0:Int:=(↑(Yj (Yy b (Zu n) (0:UInt8))):Int);let t1:Option (List AV ⊕ Ex×List AV):=some (Yg (Ex.ret,[Zq b,Zq b_1,Zv false,Zz .i64 n]));onNil r (sel (decide (n<(↑(Zx b):Int))) (chk (decide (0≤n)&&decide (n<(↑(Zx b):Int))) (sel (decide (t0<(↑(Yj (33:UInt8)):Int))) t1 (chk (decide (0≤n)&&decide (n<(↑(Zx b):Int))) (sel (decide (t0>(↑(Yj (126:UInt8)):Int))) t1 (Zj (loopM (fun (st:List AV)=>cStr st fun b r=>cStr r fun b_3 r=>cBool r fun b_4 r=>cInt .i64 r fun n r=>cInt .i64 r fun n_1 r=>onNil r (sel (decide (n_1<(↑(Zx b_3):Int))) (chk (decide (0≤n)&&decide (n<(↑(Zx b):Int))) (chk (decide (0≤n_1)&&decide (n_1<(↑(Zx b_3):Int))) (sel (Yy b (Zu n) (0:UInt8)==Yy b_3 (Zu n_1) (0:UInt8)) (some (Yg (Ex.ret,[Zq b,Zq b_3,Zv false,Zz .i64 n,Zz .i64 n_1]))) (some (Yn [Zq b,Zq b_3,Zv b_4,Zz .i64 n,Zz .i64 (Zy .i64 (n_1+1))]))))) (some (Yg (Yf 2,[Zq b,Zq b_3,Zv b_4,Zz .i64 n,Zz .i64 n_1]))))) [Zq b,Zq b_1,Zv b_2,Zz .i64 n,Zz .i64 0]) fun (r:Ex×List AV)=>cStr (Zg r) fun b r_1=>cStr r_1 fun b_3 r_2=>cBool r_2 fun b_4 r_3=>cInt .i64 r_3 fun n r_4=>cInt .i64 r_4 fun n_1 r_5=>onNil r_5 (exK r.1 (some (Yg (Ex.ret,[Zq b,Zq b_3,Zv b_4,Zz .i64 n]))) fun (j:Nat)=>sel (Xg j 2) (some (Yn [Zq b,Zq b_3,Zv b_4,Zz .i64 (Zy .i64 (n+1))])) none)))))) (some (Yg (Yf 0,[Zq b,Zq b_1,Zv b_2,Zz .i64 n]))))) [Zq s,Zq bad,Zv false,Zz .i64 0]) fun (r:Ex×List AV)=>cStr (Zg r) fun b r_1=>cStr r_1 fun b_1 r_2=>cBool r_2 fun b_2 r_3=>cInt .i64 r_3 fun n r_4=>onNil r_4 (exK r.1 (some (Zv b_2,[])) fun (j:Nat)=>sel (Xg j 0) (some (Zv (decide ((↑(Zx b):Int)≤39)),[])) none):Option (AV×Blocks))) (by kernel_rfl) ?_
  try dsimp only [cStr,cBs,cBool,cU8,cInt,cSl,l63]
  simp only [Zd,decide_eq_true_eq] at hpre
  refine loop_rounds (fun i:Nat=>[Zq s,Zq bad,Zv false,Zz Zw (i:Int)]) (fun i=>i≤s.length∧Xp s bad=Xp (s.drop i) bad) (fun i=>s.length-i)
   (fun r=>∃ i:Nat,r.2=[Zq s,Zq bad,Zv false,Zz Zw (i:Int)]∧((r.1 = .ret∧Xp s bad=false)∨(r.1 = .exit 0∧Xp s bad=true))) 0 ⟨Xv _,rfl⟩ rfl ?_ ?_
  ·rintro i ⟨hi,hp⟩
   simp only [A0]
   by_cases hlt:i<s.length
   ·have hc:(decide ((0:Int)≤(i:Int))&&decide ((i:Int)<(s.length:Int)))=true:=by simp;omega
    have hd:=Kerb.drop_all_cons hlt
    rw [sel_pos (by simp;omega),chk_of hc,Zh]
    have hpr:Xp (s.drop i) bad=(Kerb.okB bad (s.getD i 0)&&Xp (s.drop (i+1)) bad):=by rw [hd];rfl
    generalize hcc:s.getD i 0=c at *
    by_cases h1:c.toNat<33
    ·rw [sel_pos (by simp;omega)]
     exact ⟨_,rfl,i,rfl,.inl ⟨rfl,by rw [hp,hpr];simp [Kerb.okB,h1]⟩⟩
    rw [sel_neg (by simp;omega),chk_of hc]
    by_cases h2:126<c.toNat
    ·rw [sel_pos (by simp;omega)]
     exact ⟨_,rfl,i,rfl,.inl ⟨rfl,by rw [hp,hpr];simp [Kerb.okB,h2]⟩⟩
    rw [sel_neg (by simp;omega)]
    refine loop_ex (fun j:Nat=>[Zq s,Zq bad,Zv false,Zz Zw (i:Int),Zz Zw (j:Int)]) (fun j=>j≤bad.length∧(c∈bad↔c∈bad.drop j)) (fun j=>bad.length-j)
     (fun r=>∃ j:Nat,r.2=[Zq s,Zq bad,Zv false,Zz Zw (i:Int),Zz Zw (j:Int)]∧((r.1 = .ret∧c∈bad)∨(r.1 = .exit 2∧c ∉ bad))) 0 ⟨Xv _,by simp⟩ rfl ?_ ?_
    ·rintro j ⟨hj,hm⟩
     simp only [A0]
     by_cases hjl:j<bad.length
     ·have hdj:=Kerb.drop_all_cons hjl
      rw [sel_pos (by simp;omega),chk_of hc,chk_of (by simp;omega),Zh,Zh,hcc]
      rw [hdj,List.mem_cons] at hm
      by_cases h3:c=bad.getD j 0
      ·rw [sel_pos (by simpa using h3)]
       exact ⟨_,rfl,j,rfl,.inl ⟨rfl,hm.2 (.inl h3)⟩⟩
      ·rw [sel_neg (by simpa using h3),wrap_i64 (by omega) (by omega)]
       exact ⟨_,rfl,j+1,rfl,⟨by omega,hm.trans ⟨fun h=>h.resolve_left h3,.inr⟩⟩,by dsimp only;omega⟩
     ·rw [sel_neg (by simp;omega)]
      refine ⟨_,rfl,j,rfl,.inr ⟨rfl,?_⟩⟩
      rw [hm,Wv (by omega)];simp
    ·rintro ⟨e,l⟩ ⟨j,rfl,⟨rfl,h3⟩ | ⟨rfl,h3⟩⟩
     ·simp only [A0]
      exact ⟨_,rfl,i,rfl,.inl ⟨rfl,by rw [hp,hpr];simp [Kerb.okB,h3]⟩⟩
     ·simp only [A0]
      rw [sel_pos (Ym _),wrap_i64 (by omega) (by omega)]
      exact ⟨_,rfl,i+1,rfl,⟨by omega,by rw [hp,hpr];simp [Kerb.okB,h1,h2,h3]⟩,by dsimp only;omega⟩
   ·rw [sel_neg (by simp;omega)]
    exact ⟨_,rfl,i,rfl,.inr ⟨rfl,by rw [hp,Wv (by omega)];rfl⟩⟩
  ·rintro ⟨e,l⟩ ⟨i,rfl,⟨rfl,hp⟩ | ⟨rfl,hp⟩⟩
   ·simp only [A0,hp]
    rfl
   ·simp only [A0,hp]
    rw [sel_pos (Ym _),decide_eq_decide.2 (show ((s.length:Int)≤39)↔s.length≤39 from by omega)]
    rfl
 ·cases h
theorem w174:Walked Tryz.prog G 174 1 sp174:=by
 refine ⟨Tryz.f174,Tryz.func174,by decide +kernel,rfl,fun xs bl r h=> ?_⟩
 unfold sp174 at h
 split at h
 ·rename_i k
  cases h
  refine Eq.trans (b:=(sel (k==1) (some (Zv true,[])) (some (Zv (k==2),[])):Option (AV×Blocks))) (by kernel_rfl) ?_
  unfold Wg
  cases (k==(1:Int))<;>rfl
 ·cases h
theorem w175:Walked Tryz.prog G 175 1 sp175:=by
 refine ⟨Tryz.f175,Tryz.func175,by decide +kernel,rfl,fun xs bl r h=> ?_⟩
 unfold sp175 at h
 split at h
 ·rename_i k
  cases h
  refine Eq.trans (b:=(sel (decide (k≥1)) (some (Zv (decide (k≤4294967295)),[])) (some (Zv false,[])):Option (AV×Blocks))) (by kernel_rfl) ?_
  by_cases h:1≤k<;>simp [sel,Wk,h]
 ·cases h
theorem w176:Walked Tryz.prog G 176 1 sp176:=by
 refine ⟨Tryz.f176,Tryz.func176,by decide +kernel,rfl,fun xs bl r h=> ?_⟩
 unfold sp176 at h
 split at h
 ·rename_i n
  cases h
  refine Eq.trans (b:=(sel (decide (n≥0)) (some (Zv (decide (n≤4294967295)),[])) (some (Zv false,[])):Option (AV×Blocks))) (by kernel_rfl) ?_
  by_cases h:0≤n<;>simp [sel,Zf,h]
 ·cases h
theorem w177:Walked Tryz.prog G 177 1 sp177:=by
 refine ⟨Tryz.f177,Tryz.func177,by decide +kernel,rfl,fun xs bl r h=> ?_⟩
 unfold sp177 at h
 split at h
 ·rename_i n
  cases h
  refine Eq.trans (b:=(sel (decide (n≥0)) (some (Zv (decide (n≤255)),[])) (some (Zv false,[])):Option (AV×Blocks))) (by kernel_rfl) ?_
  by_cases h:0≤n<;>simp [sel,Zf,h]
 ·cases h
theorem w180:Walked Tryz.prog G 180 1 sp180:=by
 refine ⟨Tryz.f180,Tryz.func180,by decide +kernel,rfl,fun xs bl r h=> ?_⟩
 unfold sp180 at h
 split at h
 ·rename_i l
  cases h
  refine Eq.trans (b:=(sel (l==[(103:UInt8),(84:UInt8),(71:UInt8),(83:UInt8)]) (some (Zv true,[])) (some (Zv (l==[(103:UInt8),(84:UInt8),(75:UInt8),(84:UInt8)]),[])):Option (AV×Blocks))) (by kernel_rfl) ?_
  unfold Vy
  show sel (l==Kerb.lGet) _ (some (Zv (l==Kerb.lTicket),[]))=_
  cases (l==Kerb.lGet)<;>rfl
 ·cases h
theorem w181:Walked Tryz.prog G 181 1 sp181:=by
 refine ⟨Tryz.f181,Tryz.func181,by decide +kernel,rfl,fun xs bl r h=> ?_⟩
 unfold sp181 at h
 split at h
 ·rename_i k
  obtain ⟨hpre,h2⟩:=chk_inv h;cases h2
  refine Eq.trans (b:=(Zj (loopM (fun (st:List AV)=>cInt .u64 st fun n r=>onCons r fun x r=>Wz x fun b=>cInt .i64 r fun n_1 r=>cInt .i64 r fun n_2 r=>let t0:Int:=Zy .i64 (8*Zy .i64 (7-n_2));onNil r (sel (decide (n_2<n_1)) (chk (decide (0≤t0)) (chk (decide (0≤n_2)&&decide (n_2<(↑(Zx b):Int))) (chk (Wm (Zu n_2) (Zx b)&&true&&true&&true&&true) (some (Yn [Zz .u64 n,Zn (List.set b (Zu n_2) (Yw (Zu (Zy .u8 (Vx n (2 ^ min (Zu t0) (Zk .u64))))))),Zz .i64 n_1,Zz .i64 (Zy .i64 (n_2+1))]))))) (some (Yg (Yf 0,[Zz .u64 n,Zn b,Zz .i64 n_1,Zz .i64 n_2]))))) [Zz .u64 k,Zn (List.replicate (Zu 8) (0:UInt8)),Zz .i64 (↑(Zx (List.replicate (Zu 8) (0:UInt8))):Int),Zz .i64 0]) fun (r:Ex×List AV)=>cInt .u64 (Zg r) fun n r_1=>onCons r_1 fun x r_2=>Wz x fun b=>cInt .i64 r_2 fun n r_3=>cInt .i64 r_3 fun n r_4=>onNil r_4 (exK r.1 none fun (j:Nat)=>sel (Xg j 0) (some (Zm b,[])) none):Option (AV×Blocks))) (by kernel_rfl) ?_
  try dsimp only [cStr,cBs,cBool,cU8,cInt,cSl,l63]
  refine loop_unroll 9 (Yf 0,[Zz Yb k,Zn [Xf k 56,Xf k 48,Xf k 40,Xf k 32,Xf k 24,Xf k 16,Xf k 8,Xf k 0],Zz Zw 8,Zz Zw 8]) (by kernel_rfl) ?_
  simp only [A0]
  rw [sel_pos (Ym _)]
  simp [Kerb.bfd_eq,Kerb.keyBytes,Kerb.byteAt,List.range_succ]
 ·cases h
theorem w183:Walked Tryz.prog G 183 1 sp183:=by
 refine ⟨Tryz.f183,Tryz.func183,by decide +kernel,rfl,fun xs bl r h=> ?_⟩
 unfold sp183 at h
 split at h
 ·rename_i k
  cases h
  refine Eq.trans (b:=(sel (decide (k≥1)) (some (Zv (decide (k≤10)),[])) (some (Zv false,[])):Option (AV×Blocks))) (by kernel_rfl) ?_
  by_cases h:1≤k<;>simp [sel,Xw,h]
 ·cases h
theorem w197:Walked Tryz.prog G 197 1 sp197:=by
 refine ⟨Tryz.f197,Tryz.func197,by decide +kernel,rfl,fun xs bl r h=> ?_⟩
 unfold sp197 at h
 split at h
 ·rename_i k els
  obtain ⟨hpre,h2⟩:=chk_inv h;cases h2
  refine Eq.trans (b:=(Zj (loopM (fun (st:List AV)=>cInt .i64 st fun n r=>cBool r fun b r=>cSl 1 r fun b_1 r=>cInt .i64 r fun n_1 r=>cInt .i64 r fun n_2 r=>onNil r (sel (decide (n_2<n_1)) (chk (decide (0≤n_2)&&decide (n_2<(↑(Zx b_1):Int))&&true) (Xy .i64 (Yy b_1 (Zu n_2) Xn) fun n_3=>sel (n_3==n) (some (Yg (Ex.ret,[Zz .i64 n,Zv true,Yx 1 b_1,Zz .i64 n_1,Zz .i64 n_2]))) (some (Yn [Zz .i64 n,Zv b,Yx 1 b_1,Zz .i64 n_1,Zz .i64 (Zy .i64 (n_2+1))])))) (some (Yg (Yf 0,[Zz .i64 n,Zv b,Yx 1 b_1,Zz .i64 n_1,Zz .i64 n_2]))))) [Zz .i64 k,Zv false,Yx 1 els,Zz .i64 (↑(Zx els):Int),Zz .i64 0]) fun (r:Ex×List AV)=>cInt .i64 (Zg r) fun n r_1=>cBool r_1 fun b r_2=>cSl 1 r_2 fun b_1 r_3=>cInt .i64 r_3 fun n r_4=>cInt .i64 r_4 fun n r_5=>onNil r_5 (exK r.1 (some (Zv b,[])) fun (j:Nat)=>sel (Xg j 0) (some (Zv false,[])) none):Option (AV×Blocks))) (by kernel_rfl) ?_
  try dsimp only [cStr,cBs,cBool,cU8,cInt,cSl,l63]
  simp only [Zd,decide_eq_true_eq] at hpre
  obtain ⟨ha,hl⟩:=hpre
  have hil:=Kerb.ints_len ha
  refine loop_rounds (fun i:Nat=>[Zz Zw k,Zv false,Yx 1 els,Zz Zw (els.length:Int),Zz Zw (i:Int)]) (fun i=>i≤els.length∧(k∈intsIn els↔k∈(intsIn els).drop i)) (fun i=>els.length-i)
   (fun r=>∃ (i:Nat) (x:Bool),r.2=[Zz Zw k,Zv x,Yx 1 els,Zz Zw (els.length:Int),Zz Zw (i:Int)]∧((r.1 = .ret∧x=true∧k∈intsIn els)∨(r.1 = .exit 0∧k ∉ intsIn els))) 0 ⟨Xv _,by simp⟩ rfl ?_ ?_
  ·rintro i ⟨hi,hm⟩
   simp only [A0]
   by_cases hlt:i<els.length
   ·obtain ⟨n,h1,h2⟩:=Kerb.ints_get ha hlt
    rw [sel_pos (by simp;omega),chk_of (by simp;omega),Zh,h1,onInt_int]
    rw [h2,List.mem_cons] at hm
    by_cases h3:n=k
    ·rw [sel_pos (by simpa using h3)]
     exact ⟨_,rfl,i,true,rfl,.inl ⟨rfl,rfl,hm.2 (.inl h3.symm)⟩⟩
    ·rw [sel_neg (by simpa using h3),wrap_i64 (by omega) (by omega)]
     exact ⟨_,rfl,i+1,rfl,⟨by omega,hm.trans ⟨fun h=>h.resolve_left fun e=>h3 e.symm,.inr⟩⟩,by dsimp only;omega⟩
   ·rw [sel_neg (by simp;omega)]
    refine ⟨_,rfl,i,false,rfl,.inr ⟨rfl,?_⟩⟩
    rw [hm,Wv (by omega)];simp
  ·rintro ⟨e,l⟩ ⟨i,x,rfl,⟨rfl,rfl,h⟩ | ⟨rfl,h⟩⟩
   ·simp [onCons,Xy,Wp,AV.onSl,onNil,exK,h]
   ·simp [onCons,Xy,Wp,AV.onSl,onNil,exK,h,sel]
 ·cases h
theorem w199:Walked Tryz.prog G 199 1 sp199:=by
 refine ⟨Tryz.f199,Tryz.func199,by decide +kernel,rfl,fun xs bl r h=> ?_⟩
 unfold sp199 at h
 split at h
 ·rename_i nx e B at_ bad
  cases h
  show runFnH (G.env 199 1) G.rts (G.own 199) Tryz.f199 _ _ [0]=_
  refine Eq.trans (b:=(sel bad (some (Zv false,[[Zm B,Zz .i64 at_,Zv true]])) (sel (!e==0) (some (Zv false,[[Zm B,Zz .i64 at_,Zv true]])) (some (Zv true,[[Zm B,Zz .i64 nx,Zv bad]]))):Option (AV×Blocks))) (by kernel_rfl) ?_
  cases bad
  ·cases (e==0)<;>rfl
  ·rfl
 ·cases h
theorem w202:Walked Tryz.prog G 202 1 sp202:=by
 refine ⟨Tryz.f202,Tryz.func202,by decide +kernel,rfl,fun xs bl r h=> ?_⟩
 unfold sp202 at h
 split at h
 ·rename_i n
  cases h
  refine Eq.trans (b:=(sel (n==1) (some (Zv true,[])) (sel (n==2) (some (Zv true,[])) (some (Zv (n==3),[]))):Option (AV×Blocks))) (by kernel_rfl) ?_
  unfold Kerb.kaOp
  cases (n==1)
  ·cases (n==2)<;>rfl
  ·rfl
 ·cases h
theorem w203:Walked Tryz.prog G 203 1 sp203:=by
 refine ⟨Tryz.f203,Tryz.func203,by decide +kernel,rfl,fun xs bl r h=> ?_⟩
 unfold sp203 at h
 split at h
 ·rename_i n m
  cases h
  refine Eq.trans (b:=(sel (decide (n≥0)) (some (Zv (decide (n≤m)),[])) (some (Zv false,[])):Option (AV×Blocks))) (by kernel_rfl) ?_
  by_cases h:0≤n<;>simp [sel,Zf,h]
 ·cases h
theorem w206:Walked Tryz.prog G 206 1 sp206:=by
 refine ⟨Tryz.f206,Tryz.func206,by decide +kernel,rfl,fun xs bl r h=> ?_⟩
 unfold sp206 at h
 split at h
 ·rename_i l
  cases h
  refine Eq.trans (b:=(sel (l==[(116:UInt8),(103:UInt8),(115:UInt8),(84:UInt8)]) (some (Zv true,[])) (some (Zv (l==[(116:UInt8),(107:UInt8),(116:UInt8),(71:UInt8)]),[])):Option (AV×Blocks))) (by kernel_rfl) ?_
  unfold Kerb.ticketed
  show sel (l==Kerb.lGot) _ (some (Zv (l==Kerb.lGiven),[]))=_
  cases (l==Kerb.lGot)<;>rfl
 ·cases h
theorem w211:Walked Tryz.prog G 211 1 sp211:=by
 refine ⟨Tryz.f211,Tryz.func211,by decide +kernel,rfl,fun xs bl r h=> ?_⟩
 unfold sp211 at h
 split at h
 ·rename_i c n
  cases h
  refine Eq.trans (b:=(sel (!c==1) (sel (!c==2) (some (Zz .u64 0,[])) (sel (decide (n<1)) (some (Zz .u64 0,[])) (sel (decide (n>4294967295)) (some (Zz .u64 0,[])) (some (Zz .u64 (Zy .u64 (↑(BitVec.toNat (BitVec.ofInt (Zk .u64) (Zy .u64 (Zy .u64 c*2 ^ min (Zu 56) (Zk .u64))) ||| BitVec.ofInt (Zk .u64) (Zy .u64 n))):Int)),[]))))) (sel (decide (n<1)) (some (Zz .u64 0,[])) (sel (decide (n>4294967295)) (some (Zz .u64 0,[])) (some (Zz .u64 (Zy .u64 (↑(BitVec.toNat (BitVec.ofInt (Zk .u64) (Zy .u64 (Zy .u64 c*2 ^ min (Zu 56) (Zk .u64))) ||| BitVec.ofInt (Zk .u64) (Zy .u64 n))):Int)),[])))):Option (AV×Blocks))) (by kernel_rfl) ?_
  unfold Wg Wk
  by_cases hc:c=1∨c=2
  case neg =>
   have q1:(c==(1:Int))=false:=by simp;omega
   have q2:(c==(2:Int))=false:=by simp;omega
   rw [q1,q2]
   rfl
  by_cases hn:1≤n∧n≤4294967295
  case neg =>
   have q:(decide (1≤n)&&decide (n≤4294967295))=false:=by
    rw [Bool.eq_false_iff]
    simp
    omega
   rw [q,Bool.and_false]
   have key:(sel (decide (n<(1:Int))) (some (Zz .u64 (0:Int),([]:Blocks))) (sel (decide (n>(4294967295:Int))) (some (Zz .u64 (0:Int),[])) (some (Zz Yb (Zy Yb ((BitVec.toNat (BitVec.ofInt (Zk Yb) (Zy Yb (Zy Yb c*(2:Int) ^ min (Zu (56:Int)) (Zk Yb))) ||| BitVec.ofInt (Zk Yb) (Zy Yb n)):Nat):Int)),[]))))=some (Zz .u64 0,[]):=by
    by_cases hl:n<1
    ·rw [sel_pos (by simpa using hl)]
    ·rw [sel_neg (by simpa using hl),sel_pos (by simp;omega)]
   rcases hc with rfl | rfl
   ·rw [sel_neg (by decide)];exact key
   ·rw [sel_pos (by decide),sel_neg (by decide)];exact key
  have q:(decide (1≤n)&&decide (n≤4294967295))=true:=by simp;omega
  have q2:(c==(1:Int)||c==(2:Int))=true:=by simpa using hc
  rw [q,q2,Kerb.key_make hc hn.1 hn.2]
  rcases hc with rfl | rfl
  ·rw [sel_neg (by decide),sel_neg (by simp;omega),sel_neg (by simp;omega)]
   rfl
  ·rw [sel_pos (by decide),sel_neg (by decide),sel_neg (by simp;omega),sel_neg (by simp;omega)]
   rfl
 ·cases h
theorem w212:Walked Tryz.prog G 212 1 sp212:=by
 refine ⟨Tryz.f212,Tryz.func212,by decide +kernel,rfl,fun xs bl r h=> ?_⟩
 unfold sp212 at h
 split at h
 ·rename_i b n k little
  obtain ⟨hpre,h2⟩:=chk_inv h;cases h2
  refine Eq.trans (b:=(chk (room (Zx b) 1) (Zj (loopM (fun (st:List AV)=>cInt .i64 st fun n r=>cInt .i64 r fun n_1 r=>cBool r fun b r=>onCons r fun x r=>Wz x fun b_1=>cInt .i64 r fun n_2 r=>let t1:Int:=Zy .u64 (Zy .i64 (8*Zy .i64 (Zy .i64 (n_1-1)-n_2)));let t2:List UInt8:=[Yw (Zu (Zy .u8 (Vx (Zy .u64 n) (2 ^ min (Zu (Zy .u64 (Zy .i64 (8*n_2)))) (Zk .u64)))))];let t0:List UInt8:=[Yw (Zu (Zy .u8 (Vx (Zy .u64 n) (2 ^ min (Zu t1) (Zk .u64)))))];onNil r (sel (decide (n_2<n_1)) (sel b (chk (decide (0≤Zy .u64 (Zy .i64 (8*n_2)))) (chk (room (Zx b_1+Zx t2) 1) (some (Yn [Zz .i64 n,Zz .i64 n_1,Zv b,Zn (b_1++t2),Zz .i64 (Zy .i64 (n_2+1))])))) (chk (decide (0≤t1)) (chk (room (Zx b_1+Zx t0) 1) (some (Yn [Zz .i64 n,Zz .i64 n_1,Zv b,Zn (b_1++t0),Zz .i64 (Zy .i64 (n_2+1))]))))) (some (Yg (Yf 0,[Zz .i64 n,Zz .i64 n_1,Zv b,Zn b_1,Zz .i64 n_2]))))) [Zz .i64 n,Zz .i64 k,Zv little,Zn b,Zz .i64 0]) fun (r:Ex×List AV)=>cInt .i64 (Zg r) fun n r_1=>cInt .i64 r_1 fun n r_2=>cBool r_2 fun b r_3=>onCons r_3 fun x r_4=>Wz x fun b=>cInt .i64 r_4 fun n r_5=>onNil r_5 (exK r.1 none fun (j:Nat)=>sel (Xg j 0) (some (Zn b,[])) none)):Option (AV×Blocks))) (by kernel_rfl) ?_
  try dsimp only [cStr,cBs,cBool,cU8,cInt,cSl,l63]
  simp only [Zd,decide_eq_true_eq] at hpre
  obtain ⟨hk,hb⟩:=hpre
  have hk4:k.toNat≤4∧0≤k:=by omega
  rw [chk_of (Yv (by omega))]
  refine loop_rounds (fun i:Nat=>[Zz Zw n,Zz Zw k,Zv little,Zn (b++(Xk n k.toNat little).take i),Zz Zw (i:Int)]) (fun i=>i≤k.toNat) (fun i=>k.toNat-i)
   (fun r=>r=(Yf 0,[Zz Zw n,Zz Zw k,Zv little,Zn (b++Xk n k.toNat little),Zz Zw k])) 0 (Xv _) (by simp) ?_ ?_
  ·intro i hi
   simp only [A0]
   by_cases hlt:i<k.toNat
   ·have hs:=Kerb.take_succ_getD (l:=Xk n k.toNat little) (i:=i) (by rw [Yu];omega)
    have hg:=Kerb.putN_getD n k.toNat little hlt
    have hl:((Xk n k.toNat little).take i).length=i:=by simp [Yu];omega
    rw [sel_pos (by simp;omega)]
    have hw:∀ j:Nat,j<4→Zy Yb (Zy Zw (8*(j:Int)))=((8*j:Nat):Int):=fun j hj=>by
     rw [wrap_i64 (by omega) (by omega),Kerb.wrap_u64];omega
    have hm:∀ j:Nat,j<4→min (Zu ((8*j:Nat):Int)) (Zk Yb)=8*j:=fun j hj=>by
     have:Zk Yb=64:=rfl
     rw [this];omega
    cases little
    ·have e:Zy Zw (Zy Zw (k-1)-(i:Int))=((k.toNat-1-i:Nat):Int):=by
      rw [wrap_i64 (n:=k-1) (by omega) (by omega),wrap_i64 (by omega) (by omega)];omega
     rw [sel_neg rfl,e,hw _ (by omega),hm _ (by omega),Kerb.ubyte n (by omega),chk_of (by simp;omega),chk_of (Yv (by simp [hl];omega)),wrap_i64 (by omega) (by omega)]
     refine ⟨_,rfl,i+1,?_,by omega,by dsimp only;omega⟩
     dsimp only
     rw [hs,hg,← List.append_assoc]
     rfl
    ·rw [sel_pos rfl,hw _ (by omega),hm _ (by omega),Kerb.ubyte n (by omega),chk_of (by simp;omega),chk_of (Yv (by simp [hl];omega)),wrap_i64 (by omega) (by omega)]
     refine ⟨_,rfl,i+1,?_,by omega,by dsimp only;omega⟩
     dsimp only
     rw [hs,hg,← List.append_assoc]
     rfl
   ·rw [sel_neg (by simp;omega)]
    refine ⟨_,rfl,?_⟩
    show _=_
    rw [Yz (by rw [Yu];omega),show (i:Int)=k from by omega]
  ·rintro r rfl
   simp only [A0]
   rw [sel_pos (Ym _)]
 ·cases h
theorem w222:Walked Tryz.prog G 222 1 sp222:=by
 refine ⟨Tryz.f222,Tryz.func222,by decide +kernel,rfl,fun xs bl r h=> ?_⟩
 unfold sp222 at h
 split at h
 ·rename_i x y z
  cases h
  refine Eq.trans (b:=(some (Zv (x==[(107:UInt8),(114:UInt8),(98:UInt8),(116:UInt8),(103:UInt8),(116:UInt8)]),[]):Option (AV×Blocks))) (by kernel_rfl) ?_
  rfl
 ·cases h
theorem w223:Walked Tryz.prog G 223 1 sp223:=by
 refine ⟨Tryz.f223,Tryz.func223,by decide +kernel,rfl,fun xs bl r h=> ?_⟩
 unfold sp223 at h
 split at h
 ·rename_i xls a b
  obtain ⟨hpre,h2⟩:=chk_inv h;cases h2
  refine Eq.trans (b:=(Zj (loopM (fun (st:List AV)=>cSl 4 st fun b r=>cStr r fun b_1 r=>cStr r fun b_2 r=>cInt .i64 r fun n r=>cBool r fun b_3 r=>cSl 4 r fun b_4 r=>cInt .i64 r fun n_1 r=>cInt .i64 r fun n_2 r=>let t2:List AV:=[Yx 4 b_4,Zz .i64 n_1,Zz .i64 (Zy .i64 (n_2+1))];let t0:Option (List AV ⊕ Ex×List AV):=some (Yn (Yx 4 b::Zq b_1::Zq b_2::Zz .i64 n::Zv b_3::t2));let t1:Option (List AV ⊕ Ex×List AV):=some (Yn (Yx 4 b::Zq b_1::Zq b_2::Zz .i64 n_2::Zv true::t2));onNil r (sel (decide (n_2<n_1)) (chk (decide (0≤n_2)&&decide (n_2<(↑(Zx b_4):Int))&&true) (AV.onAgg (Yy b_4 (Zu n_2) Xn) fun cs=>cStr cs fun b_5 r=>cStr r fun b_6 r=>cInt .i64 r fun n_3 r=>cInt .u64 r fun n_4 r=>onNil r (sel (!b_5==b_1) t0 (sel (!b_6==b_2) t0 (sel (!b_3) t1 (chk (decide (0≤n)&&decide (n<(↑(Zx b):Int))&&true) (AV.onAgg (Yy b (Zu n) Xn) fun cs=>cStr cs fun b r=>cStr r fun b r=>cInt .i64 r fun n r=>cInt .u64 r fun n_5 r=>onNil r (sel (decide (n_3>n)) t1 t0)))))))) (some (Yg (Yf 0,[Yx 4 b,Zq b_1,Zq b_2,Zz .i64 n,Zv b_3,Yx 4 b_4,Zz .i64 n_1,Zz .i64 n_2]))))) [Yx 4 xls,Zq a,Zq b,Zz .i64 0,Zv false,Yx 4 xls,Zz .i64 (↑(Zx xls):Int),Zz .i64 0]) fun (r:Ex×List AV)=>cSl 4 (Zg r) fun b r_1=>cStr r_1 fun b r_2=>cStr r_2 fun b r_3=>cInt .i64 r_3 fun n r_4=>cBool r_4 fun b r_5=>cSl 4 r_5 fun b_1 r_6=>cInt .i64 r_6 fun n_1 r_7=>cInt .i64 r_7 fun n_2 r_8=>onNil r_8 (exK r.1 none fun (j:Nat)=>sel (Xg j 0) (some (Zb [Zz .i64 n,Zv b],[])) none):Option (AV×Blocks))) (by kernel_rfl) ?_
  try dsimp only [cStr,cBs,cBool,cU8,cInt,cSl,l63]
  simp only [Zd,decide_eq_true_eq] at hpre
  obtain ⟨hall,hlen⟩:=hpre
  obtain ⟨cs,rfl⟩:=Kerb.cross_of hall
  rw [Kerb.map_toCross,Kerb.find_crossR]
  simp only [Wy] at hlen ⊢
  refine loop_rounds (fun q:Nat×Int×Bool=>[Yx 4 (cs.map Yh),Zq a,Zq b,Zz Zw q.2.1,Zv q.2.2,Yx 4 (cs.map Yh),Zz Zw (cs.length:Int),Zz Zw (q.1:Int)])
   (fun q=>q.1≤cs.length∧(q.2.1,q.2.2)=Kerb.crossR (Wu cs a b q.1)) (fun q=>cs.length-q.1)
   (fun r=>∃ (c:Int) (d:Bool),r=(Yf 0,[Yx 4 (cs.map Yh),Zq a,Zq b,Zz Zw c,Zv d,Yx 4 (cs.map Yh),Zz Zw (cs.length:Int),Zz Zw (cs.length:Int)])∧(c,d)=Kerb.crossR (Wu cs a b cs.length)) (0,0,false) ⟨Xv _,rfl⟩ rfl ?_ ?_
  ·rintro ⟨j,c,d⟩ ⟨hj,hinv⟩
   simp only at hj hinv
   simp only [↓A0,A0]
   rcases Nat.lt_or_ge j cs.length with h | h
   ·obtain ⟨x,hx⟩:∃ x,cs.getD j Wf=x:=⟨_,rfl⟩
    have hs:=Kerb.cross_step cs a b j hx
    rw [sel_pos (by simp;omega),chk_of (by simp;omega),Zh,Kerb.getD_cross h,hx]
    simp only [Yh,↓A0,A0]
    rw [wrap_i64 (by omega) (by omega)]
    have keep:Wu cs a b (j+1)=Wu cs a b j→Round (fun q:Nat×Int×Bool=>[Yx 4 (cs.map Yh),Zq a,Zq b,Zz Zw q.2.1,Zv q.2.2,Yx 4 (cs.map Yh),Zz Zw (cs.length:Int),Zz Zw (q.1:Int)]) (fun q=>q.1≤cs.length∧(q.2.1,q.2.2)=Kerb.crossR (Wu cs a b q.1)) (fun q=>cs.length-q.1) (fun r=>∃ (c:Int) (d:Bool),r=(Yf 0,[Yx 4 (cs.map Yh),Zq a,Zq b,Zz Zw c,Zv d,Yx 4 (cs.map Yh),Zz Zw (cs.length:Int),Zz Zw (cs.length:Int)])∧(c,d)=Kerb.crossR (Wu cs a b cs.length)) (j,c,d) (Yn [Yx 4 (cs.map Yh),Zq a,Zq b,Zz Zw c,Zv d,Yx 4 (cs.map Yh),Zz Zw (cs.length:Int),Zz Zw ((j:Int)+1)]):=fun e =>
     ⟨(j+1,c,d),rfl,⟨by simp only;omega,by simp only;rw [e];exact hinv⟩,by simp only;omega⟩
    by_cases h1:x.source=a
    case neg =>
     rw [sel_pos (by simpa using h1)]
     rw [show (x.source==a)=false from by simpa using h1,Bool.false_and,cond_false] at hs
     exact ⟨_,rfl,keep hs⟩
    rw [sel_neg (by simp [h1])]
    rw [show (x.source==a)=true from by simpa using h1,Bool.true_and] at hs
    by_cases h2:x.target=b
    case neg =>
     rw [sel_pos (by simpa using h2)]
     rw [show (x.target==b)=false from by simpa using h2,Bool.false_and,cond_false] at hs
     exact ⟨_,rfl,keep hs⟩
    rw [sel_neg (by simp [h2])]
    rw [show (x.target==b)=true from by simpa using h2,Bool.true_and] at hs
    cases hc:Wu cs a b j with
    | none =>
     rw [hc] at hs hinv
     cases hinv
     exact ⟨_,rfl,(j+1,(j:Int),true),rfl,⟨by simp only;omega,by simp only;rw [hs];rfl⟩,by simp only;omega⟩
    | some k =>
     rw [hc] at hs hinv
     cases hinv
     have hk:=Kerb.crossAt_lt hc
     have hkv:(cs.getD k Wf).kvno<x.kvno↔x.kvno>(cs.getD k Wf).kvno:=Iff.rfl
     rw [sel_neg (by simp),chk_of (by simp;omega),Zh,Kerb.getD_cross (by omega)]
     simp only [Yh,↓A0,A0]
     by_cases h3:(cs.getD k Wf).kvno<x.kvno
     ·rw [sel_pos (by simpa using h3)]
      dsimp only at hs
      rw [show decide ((cs.getD k Wf).kvno<x.kvno)=true from by simpa using h3,cond_true] at hs
      exact ⟨_,rfl,(j+1,(j:Int),true),rfl,⟨by simp only;omega,by simp only;rw [hs];rfl⟩,by simp only;omega⟩
     ·rw [sel_neg (by simpa using h3)]
      dsimp only at hs
      rw [show decide ((cs.getD k Wf).kvno<x.kvno)=false from by simpa using h3,cond_false] at hs
      exact ⟨_,rfl,keep (hs.trans hc.symm)⟩
   ·rw [sel_neg (by simp;omega)]
    have hj2:j=cs.length:=by omega
    subst hj2
    exact ⟨_,rfl,c,d,rfl,hinv⟩
  ·rintro _ ⟨c,d,rfl,h⟩
   rw [← h]
   rfl
 ·cases h
theorem w226:Walked Tryz.prog G 226 1 sp226:=by
 refine ⟨Tryz.f226,Tryz.func226,by decide +kernel,rfl,fun xs bl r h=> ?_⟩
 unfold sp226 at h
 split at h
 ·rename_i n
  obtain ⟨hpre,h2⟩:=chk_inv h;cases h2
  refine Eq.trans (b:=(some (Zz .i64 (Yq (Zy .i64 (n+1)) 4294967296),[]):Option (AV×Blocks))) (by kernel_rfl) ?_
  simp only [Zd,decide_eq_true_eq] at hpre
  rw [wrap_i64 (by omega) (by omega),Yd (by omega)]
  rfl
 ·cases h
theorem w237:Walked Tryz.prog G 237 1 sp237:=by
 refine ⟨Tryz.f237,Tryz.func237,by decide +kernel,rfl,fun xs bl r h=> ?_⟩
 unfold sp237 at h
 split at h
 ·rename_i k
  cases h
  refine Eq.trans (b:=(sel (decide (k≥1)) (some (Zv (decide (k≤10)),[])) (some (Zv false,[])):Option (AV×Blocks))) (by kernel_rfl) ?_
  by_cases h:1≤k<;>simp [sel,Xw,h]
 ·cases h
theorem w242:Walked Tryz.prog G 242 1 sp242:=by
 refine ⟨Tryz.f242,Tryz.func242,by decide +kernel,rfl,fun xs bl r h=> ?_⟩
 unfold sp242 at h
 split at h
 ·rename_i b pos n
  obtain ⟨hpre,h2⟩:=chk_inv h;cases h2
  refine Eq.trans (b:=(sel (decide (pos<0)) (some (Zz .i64 104,[])) (sel (decide (pos>(↑(Zx b):Int))) (some (Zz .i64 104,[])) (sel (decide (n<0)) (some (Zz .i64 104,[])) (sel (decide (n>Zy .i64 ((↑(Zx b):Int)-pos))) (some (Zz .i64 101,[])) (some (Zz .i64 0,[]))))):Option (AV×Blocks))) (by kernel_rfl) ?_
  simp only [decide_eq_true_eq] at hpre
  unfold Xj
  by_cases h1:pos<0
  ·simp [sel,h1]
  by_cases h2:(b.length:Int)<pos
  ·simp [sel,h1,h2]
  by_cases h3:n<0
  ·simp [sel,h1,h2,h3]
  rw [sel_neg (by simp;omega),sel_neg (by simp;omega),sel_neg (by simp;omega),wrap_i64 (by omega) (by omega),if_neg (by omega)]
  by_cases h4:(b.length:Int)-pos<n
  ·rw [sel_pos (by simp;omega),if_pos h4]
  ·rw [sel_neg (by simp;omega),if_neg h4]
 ·cases h
theorem w247:Walked Tryz.prog G 247 1 sp247:=by
 refine ⟨Tryz.f247,Tryz.func247,by decide +kernel,rfl,fun xs bl r h=> ?_⟩
 unfold sp247 at h
 split at h
 ·rename_i n m
  cases h
  refine Eq.trans (b:=(sel (decide (n≥0)) (some (Zv (decide (n≤m)),[])) (some (Zv false,[])):Option (AV×Blocks))) (by kernel_rfl) ?_
  by_cases h:0≤n<;>simp [sel,Zf,h]
 ·cases h
theorem w252:Walked Tryz.prog G 252 1 sp252:=by
 refine ⟨Tryz.f252,Tryz.func252,by decide +kernel,rfl,fun xs bl r h=> ?_⟩
 unfold sp252 at h
 split at h
 ·rename_i rl els n i
  obtain ⟨hpre,h2⟩:=chk_inv h;cases h2
  refine Eq.trans (b:=(Zj (loopM (fun (st:List AV)=>cStr st fun b r=>cStr r fun b_1 r=>cInt .i64 r fun n r=>cInt .i64 r fun n_1 r=>cInt .i64 r fun n_2 r=>cBool r fun b_2 r=>cSl 9 r fun b_3 r=>cInt .i64 r fun n_3 r=>cInt .i64 r fun n_4 r=>let t1:List AV:=[Zz .i64 n_2,Zv b_2,Yx 9 b_3,Zz .i64 n_3,Zz .i64 n_4];let t2:List AV:=[Yx 9 b_3,Zz .i64 n_3,Zz .i64 (Zy .i64 (n_4+1))];let t0:Option (List AV ⊕ Ex×List AV):=some (Yn (Zq b::Zq b_1::Zz .i64 n::Zz .i64 n_1::Zz .i64 n_2::Zv b_2::t2));onNil r (sel (decide (n_4<n_3)) (chk (decide (0≤n_4)&&decide (n_4<(↑(Zx b_3):Int))&&true) (AV.onAgg (Yy b_3 (Zu n_4) Xn) fun cs=>cStr cs fun b_4 r=>cStr r fun b_5 r=>cInt .u64 r fun n_5 r=>cInt .i64 r fun n_6 r=>cInt .i64 r fun n_7 r=>cInt .i64 r fun n_8 r=>cInt .i64 r fun n_9 r=>cInt .i64 r fun n_10 r=>cInt .i64 r fun n_11 r=>onNil r (sel (!b_4==b) t0 (sel (!b_5==b_1) t0 (sel b_2 (some (Yg (Ex.ret,Zq b::Zq b_1::Zz .i64 0::Zz .i64 9::t1))) (some (Yn (Zq b::Zq b_1::Zz .i64 n::Zz .i64 n_1::Zz .i64 n_4::Zv true::t2)))))))) (some (Yg (Yf 0,Zq b::Zq b_1::Zz .i64 n::Zz .i64 n_1::t1))))) [Zq n,Zq i,Zz .i64 0,Zz .i64 0,Zz .i64 0,Zv false,Yx 9 els,Zz .i64 (↑(Zx els):Int),Zz .i64 0]) fun (r:Ex×List AV)=>cStr (Zg r) fun b r_1=>cStr r_1 fun b r_2=>cInt .i64 r_2 fun n r_3=>cInt .i64 r_3 fun n_1 r_4=>cInt .i64 r_4 fun n_2 r_5=>cBool r_5 fun b r_6=>cSl 9 r_6 fun b_1 r_7=>cInt .i64 r_7 fun n_3 r_8=>cInt .i64 r_8 fun n_4 r_9=>onNil r_9 (exK r.1 (some (Zb [Zz .i64 n,Zz .i64 n_1],[])) fun (j:Nat)=>sel (Xg j 0) (sel (!b) (some (Zb [Zz .i64 0,Zz .i64 8],[])) (some (Zb [Zz .i64 n_2,Zz .i64 0],[]))) none):Option (AV×Blocks))) (by kernel_rfl) ?_
  try dsimp only [cStr,cBs,cBool,cU8,cInt,cSl,l63]
  simp only [Zd,decide_eq_true_eq] at hpre
  obtain ⟨hall,hlen⟩:=hpre
  obtain ⟨es,rfl,hok⟩:=Kerb.ents_of hall
  rw [Kerb.map_toEntry]
  simp only [Wy] at hlen ⊢
  refine loop_rounds (fun q:Nat×Int×Bool=>[Zq n,Zq i,Zz Zw 0,Zz Zw 0,Zz Zw q.2.1,Zv q.2.2,Yx 9 (es.map Xh),Zz Zw (es.length:Int),Zz Zw (q.1:Int)])
   (fun q=>q.1≤es.length∧((q.2.2=false∧(es.take q.1).countP (Zp n i)=0)∨(q.2.2=true∧(es.take q.1).countP (Zp n i)=1∧q.2.1=(es.findIdx (Zp n i):Int)))) (fun q=>es.length-q.1)
   (fun r=>∃ (a b c:Int) (d:Bool) (j:Nat),r.2=[Zq n,Zq i,Zz Zw a,Zz Zw b,Zz Zw c,Zv d,Yx 9 (es.map Xh),Zz Zw (es.length:Int),Zz Zw (j:Int)]∧((r.1 = .ret∧(a,b)=Wn es n i)∨(r.1 = .exit 0∧((d=false∧(0,8)=Wn es n i)∨(d=true∧(c,0)=Wn es n i))))) (0,0,false) ⟨Xv _,.inl ⟨rfl,rfl⟩⟩ rfl ?_ ?_
  ·rintro ⟨j,c,d⟩ ⟨hj,hinv⟩
   simp only at hj hinv
   simp only [↓A0,A0]
   rcases Nat.lt_or_ge j es.length with h | h
   ·have hc:=Kerb.count_take (p:=Zp n i) h
    have hle:=Kerb.count_le (p:=Zp n i) (es:=es) (j+1)
    rw [sel_pos (by simp;omega),chk_of (by simp;omega),Zh,Kerb.getD_ent h]
    have hx:=Kerb.find_first (p:=Zp n i) h
    generalize es.getD j Kerb.noEntry=e at hc hx
    simp only [Xh,↓A0,A0]
    rw [wrap_i64 (by omega) (by omega)]
    by_cases h1:e.name=n
    ·by_cases h2:e.inst=i
     ·have hp:Zp n i e=true:=by simp [Zp,h1,h2]
      rw [hp,cond_true] at hc
      rw [sel_neg (by simp [h1]),sel_neg (by simp [h2])]
      rcases hinv with ⟨rfl,h0⟩ | ⟨rfl,h0,h3⟩
      ·refine ⟨_,rfl,(j+1,(j:Int),true),rfl,⟨by simp only;omega,.inr ⟨rfl,by simp only;omega,by rw [hx h0 hp]⟩⟩,by simp only;omega⟩
      ·refine ⟨_,rfl,0,9,c,true,j,rfl,.inl ⟨rfl,?_⟩⟩
       unfold Wn
       rw [if_neg (by omega),if_pos (by omega)]
     ·have hp:Zp n i e=false:=by simp [Zp,h2]
      rw [hp,cond_false] at hc
      rw [sel_neg (by simp [h1]),sel_pos (by simpa using h2)]
      exact ⟨_,rfl,(j+1,c,d),rfl,⟨by simp only;omega,by simp only;rw [hc];simpa using hinv⟩,by simp only;omega⟩
    ·have hp:Zp n i e=false:=by simp [Zp,h1]
     rw [hp,cond_false] at hc
     rw [sel_pos (by simpa using h1)]
     exact ⟨_,rfl,(j+1,c,d),rfl,⟨by simp only;omega,by simp only;rw [hc];simpa using hinv⟩,by simp only;omega⟩
   ·rw [sel_neg (by simp;omega)]
    rw [Yz h] at hinv
    refine ⟨_,rfl,0,0,c,d,j,rfl,.inr ⟨rfl,?_⟩⟩
    unfold Wn
    rcases hinv with ⟨rfl,h0⟩ | ⟨rfl,h0,rfl⟩
    ·exact .inl ⟨rfl,by rw [if_pos h0]⟩
    ·exact .inr ⟨rfl,by rw [if_neg (by omega),if_neg (by omega)]⟩
  ·rintro ⟨e,l⟩ ⟨a,b,c,d,j,rfl,⟨rfl,h⟩ | ⟨rfl,⟨rfl,h⟩ | ⟨rfl,h⟩⟩⟩
   ·rw [← h];rfl
   ·rw [← h];rfl
   ·rw [← h];rfl
 ·cases h
theorem w254:Walked Tryz.prog G 254 1 sp254:=by
 refine ⟨Tryz.f254,Tryz.func254,by decide +kernel,rfl,fun xs bl r h=> ?_⟩
 unfold sp254 at h
 split at h
 ·rename_i n m
  cases h
  refine Eq.trans (b:=(sel (decide (n≥0)) (some (Zv (decide (n≤m)),[])) (some (Zv false,[])):Option (AV×Blocks))) (by kernel_rfl) ?_
  by_cases h:0≤n<;>simp [sel,Zf,h]
 ·cases h
theorem w255:Walked Tryz.prog G 255 1 sp255:=by
 refine ⟨Tryz.f255,Tryz.func255,by decide +kernel,rfl,fun xs bl r h=> ?_⟩
 unfold sp255 at h
 split at h
 ·rename_i n m
  cases h
  refine Eq.trans (b:=(Zj (loopM (fun (st:List AV)=>cInt .i64 st fun n r=>cInt .i64 r fun n_1 r=>cSl 1 r fun b r=>cInt .i64 r fun n_2 r=>cInt .i64 r fun n_3 r=>let t0:List AV:=[Zz .i64 n_1,Yx 1 b,Zz .i64 n_2,Zz .i64 n_3];onNil r (sel (decide (n_3<n_2)) (chk (decide (0≤n_3)&&decide (n_3<(↑(Zx b):Int))&&true) (Xy .i64 (Yy b (Zu n_3) Xn) fun n_4=>sel (!n_4==n_1) (some (Yg (Ex.ret,Zz .i64 n_4::t0))) (some (Yn [Zz .i64 n,Zz .i64 n_1,Yx 1 b,Zz .i64 n_2,Zz .i64 (Zy .i64 (n_3+1))])))) (some (Yg (Yf 0,Zz .i64 n::t0))))) [Zz .i64 0,Zz .i64 0,Yx 1 [Zz .i64 n,Zz .i64 m],Zz .i64 (↑(Zx [Zz .i64 n,Zz .i64 m]):Int),Zz .i64 0]) fun (r:Ex×List AV)=>cInt .i64 (Zg r) fun n r_1=>cInt .i64 r_1 fun n_1 r_2=>cSl 1 r_2 fun b r_3=>cInt .i64 r_3 fun n_2 r_4=>cInt .i64 r_4 fun n_3 r_5=>onNil r_5 (exK r.1 (some (Zz .i64 n,[])) fun (j:Nat)=>sel (Xg j 0) (some (Zz .i64 n_1,[])) none):Option (AV×Blocks))) (by kernel_rfl) ?_
  try dsimp only [cStr,cBs,cBool,cU8,cInt,cSl,l63]
  refine loop_rounds (fun i:Nat=>[Zz Zw 0,Zz Zw 0,Yx 1 [Zz Zw n,Zz Zw m],Zz Zw 2,Zz Zw (i:Int)]) (fun i=>i≤2∧(0<i→n=0)∧(1<i→m=0)) (fun i=>2-i)
   (fun r=>∃ (a:Int) (i:Nat),r.2=[Zz Zw a,Zz Zw 0,Yx 1 [Zz Zw n,Zz Zw m],Zz Zw 2,Zz Zw (i:Int)]∧((r.1 = .ret∧a=if n=0 then m else n)∨(r.1 = .exit 0∧n=0∧m=0))) 0 ⟨by decide,by simp,by simp⟩ rfl ?_ ?_
  ·rintro i ⟨hi,h0,h1⟩
   simp only [↓A0,A0,List.length_cons,List.length_nil]
   have step:∀ (q:Int),(q=0→(i+1≤2∧(0<i+1→n=0)∧(1<i+1→m=0)))→(q≠0→q=if n=0 then m else n)→(i:Int)<2→∃ y,sel (!(q==0)) (some (Yg (Ex.ret,[Zz Zw q,Zz Zw 0,Yx 1 [Zz Zw n,Zz Zw m],Zz Zw 2,Zz Zw (i:Int)]))) (some (Yn [Zz Zw 0,Zz Zw 0,Yx 1 [Zz Zw n,Zz Zw m],Zz Zw 2,Zz Zw (Zy .i64 ((i:Int)+1))]))=some y∧Round (fun i:Nat=>[Zz Zw 0,Zz Zw 0,Yx 1 [Zz Zw n,Zz Zw m],Zz Zw 2,Zz Zw (i:Int)]) (fun i=>i≤2∧(0<i→n=0)∧(1<i→m=0)) (fun i=>2-i) (fun r=>∃ (a:Int) (i:Nat),r.2=[Zz Zw a,Zz Zw 0,Yx 1 [Zz Zw n,Zz Zw m],Zz Zw 2,Zz Zw (i:Int)]∧((r.1 = .ret∧a=if n=0 then m else n)∨(r.1 = .exit 0∧n=0∧m=0))) i y:=by
    intro q e1 e2 e3
    by_cases hq:q=0
    ·rw [sel_neg (by simp [hq]),wrap_i64 (by omega) (by omega)]
     exact ⟨_,rfl,i+1,rfl,e1 hq,by dsimp only;omega⟩
    ·rw [sel_pos (by simpa using hq)]
     exact ⟨_,rfl,q,i,rfl,.inl ⟨rfl,e2 hq⟩⟩
   rcases Nat.lt_or_ge i 2 with h | h
   ·rw [sel_pos (by simp;omega),chk_of (by simp;omega),Zh]
    have hc:i=0∨i=1:=by omega
    rcases hc with rfl | rfl
    ·show ∃ y,Xy Zw (Zz Zw n) _=some y∧_
     rw [onInt_int]
     exact step n (fun e=>⟨by omega,fun _=>e,fun h=>by omega⟩) (fun e=>by rw [if_neg e]) (by omega)
    ·show ∃ y,Xy Zw (Zz Zw m) _=some y∧_
     rw [onInt_int]
     exact step m (fun e=>⟨by omega,fun _=>h0 (by omega),fun _=>e⟩) (fun e=>by rw [if_pos (h0 (by omega))]) (by omega)
   ·rw [sel_neg (by simp;omega)]
    exact ⟨_,rfl,0,i,rfl,.inr ⟨rfl,h0 (by omega),h1 (by omega)⟩⟩
  ·rintro ⟨e,l⟩ ⟨a,i,rfl,⟨rfl,rfl⟩ | ⟨rfl,rfl,rfl⟩⟩
   ·rfl
   ·rfl
 ·cases h
theorem w262:Walked Tryz.prog G 262 1 sp262:=by
 refine ⟨Tryz.f262,Tryz.func262,by decide +kernel,rfl,fun xs bl r h=> ?_⟩
 unfold sp262 at h
 split at h
 ·rename_i n m
  cases h
  refine Eq.trans (b:=(sel (decide (n≥0)) (some (Zv (decide (n≤m)),[])) (some (Zv false,[])):Option (AV×Blocks))) (by kernel_rfl) ?_
  by_cases h:0≤n<;>simp [sel,Zf,h]
 ·cases h
theorem w267:Walked Tryz.prog G 267 1 sp267:=by
 refine ⟨Tryz.f267,Tryz.func267,by decide +kernel,rfl,fun xs bl r h=> ?_⟩
 unfold sp267 at h
 split at h
 ·rename_i n m
  cases h
  refine Eq.trans (b:=(sel (decide (n≥0)) (some (Zv (decide (n≤m)),[])) (some (Zv false,[])):Option (AV×Blocks))) (by kernel_rfl) ?_
  by_cases h:0≤n<;>simp [sel,Zf,h]
 ·cases h
theorem w35:Walked Tryz.prog G 35 2 sp35:=by
 refine ⟨Tryz.f35,Tryz.func35,by decide +kernel,rfl,fun xs bl r h=> ?_⟩
 unfold sp35 at h
 split at h
 ·rename_i n
  obtain ⟨hpre,h2⟩:=chk_inv h;cases h2
  refine Eq.trans (b:=(chk (decide (0≤Yq n 3)&&decide (Yq n 3<(↑(Zx [Zq [(65:UInt8),(84:UInt8),(72:UInt8)],Zq [(66:UInt8),(79:UInt8),(83:UInt8)],Zq [(67:UInt8),(65:UInt8),(77:UInt8)]]):Int))&&true) (Xm (Yy [Zq [(65:UInt8),(84:UInt8),(72:UInt8)],Zq [(66:UInt8),(79:UInt8),(83:UInt8)],Zq [(67:UInt8),(65:UInt8),(77:UInt8)]] (Zu (Yq n 3)) Xn) fun b=>some (Zq b,[])):Option (AV×Blocks))) (by kernel_rfl) ?_
  have hn:0≤n:=by first | exact of_decide_eq_true hpre | (simp only [Zd,decide_eq_true_eq] at hpre;exact hpre.1)
  have ht:Yq n 3=n % 3:=Yd hn
  have hcase:n % 3=0∨n % 3=1∨n % 3=2:=by omega
  rcases hcase with e | e | e<;>simp [ht,e,chk,Xm,Kerb.realm]
 ·cases h
theorem w54:Walked Tryz.prog G 54 2 sp54:=by
 refine ⟨Tryz.f54,Tryz.func54,by decide +kernel,rfl,fun xs bl r h=> ?_⟩
 unfold sp54 at h
 split at h
 ·rename_i n
  obtain ⟨hpre,h2⟩:=chk_inv h;cases h2
  refine Eq.trans (b:=(sel (decide (n<300)) (some (Zb [Zz .i64 0,Zv false],[])) (some (Zb [Zz .i64 (Wj (Zy .i64 (Zy .i64 (Xq n 300)-1)) [255]),Zv true],[])):Option (AV×Blocks))) (by kernel_rfl) ?_
  simp only [Zd,decide_eq_true_eq] at hpre
  by_cases h:n<300
  ·rw [sel_pos (by simpa using h)];simp [h]
  rw [sel_neg (by simpa using h)]
  have e1:Zy .i64 (Xq n 300)=Xq n 300:=by rw [Xz (by omega)];exact wrap_i64 (by omega) (by omega)
  have e2:Zy .i64 (Xq n 300-1)=Xq n 300-1:=by rw [Xz (by omega)];exact wrap_i64 (by omega) (by omega)
  have e3:∀ q,Wj q (intsIn [Zz Zw 255])=Kerb.imin q 255:=fun q=>rfl
  try simp only [e3]
  simp only [e1,e2,h,decide_false,Bool.not_false,chk_true,some_bind]
  rfl
 ·cases h
theorem w69:Walked Tryz.prog G 69 2 sp69:=by
 refine ⟨Tryz.f69,Tryz.func69,by decide +kernel,rfl,fun xs bl r h=> ?_⟩
 unfold sp69 at h
 split at h
 ·rename_i b els
  obtain ⟨hpre,h2⟩:=chk_inv h;cases h2
  refine Eq.trans (b:=(sel (!Kerb.Head.err (Xb b)==0) (some (Zb [Zv false,Zz .i64 (Kerb.Head.err (Xb b))],[])) (Zj (loopM (fun (st:List AV)=>cSl 1 st fun b r=>cBool r fun b_1 r=>cInt .i64 r fun n r=>cInt .i64 r fun n_1 r=>cBool r fun b_2 r=>cInt .i64 r fun n_2 r=>onNil r (sel (decide (n_2<(↑(Zx b):Int))) (chk (decide (0≤n_2)&&decide (n_2<(↑(Zx b):Int))&&true) (Xy .i64 (Yy b (Zu n_2) Xn) fun n_3=>sel (n_3==n_1) (some (Yg (Ex.ret,[Yx 1 b,Zv b_2,Zz .i64 0,Zz .i64 n_1,Zv b_2,Zz .i64 n_2]))) (some (Yn [Yx 1 b,Zv b_1,Zz .i64 n,Zz .i64 n_1,Zv b_2,Zz .i64 (Zy .i64 (n_2+1))])))) (some (Yg (Yf 0,[Yx 1 b,Zv b_1,Zz .i64 n,Zz .i64 n_1,Zv b_2,Zz .i64 n_2]))))) [Yx 1 els,Zv false,Zz .i64 0,Zz .i64 (Kerb.Head.kind (Xb b)),Zv (Kerb.Head.little (Xb b)),Zz .i64 0]) fun (r:Ex×List AV)=>cSl 1 (Zg r) fun b r_1=>cBool r_1 fun b r_2=>cInt .i64 r_2 fun n r_3=>cInt .i64 r_3 fun n_1 r_4=>cBool r_4 fun b_1 r_5=>cInt .i64 r_5 fun n_2 r_6=>onNil r_6 (exK r.1 (some (Zb [Zv b,Zz .i64 n],[])) fun (j:Nat)=>sel (Xg j 0) (some (Zb [Zv false,Zz .i64 40],[])) none)):Option (AV×Blocks))) (by kernel_rfl) ?_
  try dsimp only [cStr,cBs,cBool,cU8,cInt,cSl,l63]
  simp only [Zd,decide_eq_true_eq] at hpre
  obtain ⟨ha,hl⟩:=hpre
  have hil:=Kerb.ints_len ha
  unfold Kerb.headIs
  by_cases he:(Xb b).err=0
  case neg =>
   rw [sel_pos (by simpa using he),if_pos he]
  rw [sel_neg (by simp [he]),if_neg (by simpa using he)]
  generalize (Xb b).kind=k
  generalize (Xb b).little=lt
  refine loop_rounds (fun i:Nat=>[Yx 1 els,Zv false,Zz Zw 0,Zz Zw k,Zv lt,Zz Zw (i:Int)]) (fun i=>i≤els.length∧(k∈intsIn els↔k∈(intsIn els).drop i)) (fun i=>els.length-i)
   (fun r=>∃ (i:Nat) (x:Bool),r.2=[Yx 1 els,Zv x,Zz Zw 0,Zz Zw k,Zv lt,Zz Zw (i:Int)]∧((r.1 = .ret∧x=lt∧k∈intsIn els)∨(r.1 = .exit 0∧k ∉ intsIn els))) 0 ⟨Xv _,by simp⟩ rfl ?_ ?_
  ·rintro i ⟨hi,hm⟩
   simp only [A0]
   by_cases hlt:i<els.length
   ·obtain ⟨n,h1,h2⟩:=Kerb.ints_get ha hlt
    rw [sel_pos (by simp;omega),chk_of (by simp;omega),Zh,h1,onInt_int]
    rw [h2,List.mem_cons] at hm
    by_cases h3:n=k
    ·rw [sel_pos (by simpa using h3)]
     exact ⟨_,rfl,i,lt,rfl,.inl ⟨rfl,rfl,hm.2 (.inl h3.symm)⟩⟩
    ·rw [sel_neg (by simpa using h3),wrap_i64 (by omega) (by omega)]
     exact ⟨_,rfl,i+1,rfl,⟨by omega,hm.trans ⟨fun h=>h.resolve_left fun e=>h3 e.symm,.inr⟩⟩,by dsimp only;omega⟩
   ·rw [sel_neg (by simp;omega)]
    refine ⟨_,rfl,i,false,rfl,.inr ⟨rfl,?_⟩⟩
    rw [hm,Wv (by omega)];simp
  ·rintro ⟨e,l⟩ ⟨i,x,rfl,⟨rfl,rfl,h⟩ | ⟨rfl,h⟩⟩
   ·simp only [A0]
    rw [if_pos (by simpa using h)]
   ·simp only [A0]
    rw [if_neg (by simpa using h),sel_pos (Ym _)]
 ·cases h
theorem w73:Walked Tryz.prog G 73 2 sp73:=by
 refine ⟨Tryz.f73,Tryz.func73,by decide +kernel,rfl,fun xs bl r h=> ?_⟩
 unfold sp73 at h
 split at h
 ·rename_i B at_ li bad
  obtain ⟨hpre,h2⟩:=chk_inv h;cases h2
  show runFnH (G.env 73 2) G.rts (G.own 73) Tryz.f73 _ _ [0]=_
  refine Eq.trans (b:=(Zj (chk (decide (Zx B≤140737488355328)) (some (Zb [Zq (Wq (Xu B at_)),Zz .i64 (Wx (Xu B at_)),Zz .i64 (Xd (Xu B at_))],[]))) fun (r:AV×Blocks)=>onNilB (Zg r) (AV.onTup (Yp r) fun vs=>onCons vs fun x r=>Xm x fun b=>onCons r fun x r=>Xy .i64 x fun n=>onCons r fun x r=>Xy .i64 x fun n_1=>onNil r (some (Zq b,[[Zm B,Zz .i64 (bif bad || !n_1==0 then at_ else n),Zv li,Zv (bad || !n_1==0)]]))):Option (AV×Blocks))) (by kernel_rfl) ?_
  simp only [A0]
  rw [chk_of hpre]
 ·cases h
theorem w74:Walked Tryz.prog G 74 2 sp74:=by
 refine ⟨Tryz.f74,Tryz.func74,by decide +kernel,rfl,fun xs bl r h=> ?_⟩
 unfold sp74 at h
 split at h
 ·rename_i n B at_ li bad
  obtain ⟨hpre,h2⟩:=chk_inv h;cases h2
  show runFnH (G.env 74 2) G.rts (G.own 74) Tryz.f74 _ _ [0]=_
  refine Eq.trans (b:=(Zj (chk (decide (Zx B≤140737488355328)) (some (Zb [Zm (Wq (Ww B at_ n)),Zz .i64 (Wx (Ww B at_ n)),Zz .i64 (Xd (Ww B at_ n))],[]))) fun (r:AV×Blocks)=>onNilB (Zg r) (AV.onTup (Yp r) fun vs=>onCons vs fun x r=>AV.onBs x fun b=>onCons r fun x r=>Xy .i64 x fun n=>onCons r fun x r=>Xy .i64 x fun n_1=>onNil r (some (Zm b,[[Zm B,Zz .i64 (bif bad || !n_1==0 then at_ else n),Zv li,Zv (bad || !n_1==0)]]))):Option (AV×Blocks))) (by kernel_rfl) ?_
  simp only [A0]
  rw [chk_of hpre]
 ·cases h
theorem w76:Walked Tryz.prog G 76 2 sp76:=by
 refine ⟨Tryz.f76,Tryz.func76,by decide +kernel,rfl,fun xs bl r h=> ?_⟩
 unfold sp76 at h
 split at h
 ·rename_i s
  obtain ⟨hpre,h2⟩:=chk_inv h;cases h2
  refine Eq.trans (b:=(sel (decide ((↑(Zx s):Int)>0)) (Zj (chk (decide (Zx s≤9223372036854775807)&&true) (some (Zv (Xp s [(64:UInt8)]&&decide (Zx s≤39)),[]))) fun (r:AV×Blocks)=>onNilB (Zg r) (Wp (Yp r) fun b=>some (Zv b,[]))) (some (Zv false,[])):Option (AV×Blocks))) (by kernel_rfl) ?_
  simp only [A0]
  rw [chk_of (by rw [hpre];rfl)]
  simp only [Kerb.validRealm]
  cases s with
  | nil=>rfl
  | cons x r =>
   rw [sel_pos (by first | (simp;done) | (simp;omega)),Bool.and_comm]
   rfl
 ·cases h
theorem w91:Walked Tryz.prog G 91 2 sp91:=by
 refine ⟨Tryz.f91,Tryz.func91,by decide +kernel,rfl,fun xs bl r h=> ?_⟩
 unfold sp91 at h
 split at h
 ·rename_i k
  obtain ⟨hpre,h2⟩:=chk_inv h;cases h2
  refine Eq.trans (b:=(sel (!Wg (Zy .i64 (Vx k (2 ^ min (Zu 56) (Zk .u64))))) (some (Zb [Zz .i64 0,Zz .i64 0,Zv false],[])) (sel (!Wk (Zy .i64 (Zy .u64 (↑(BitVec.toNat (BitVec.ofInt (Zk .u64) k &&& BitVec.ofInt (Zk .u64) 72057594037927935)):Int)))) (some (Zb [Zz .i64 0,Zz .i64 0,Zv false],[])) (some (Zb [Zz .i64 (Zy .i64 (Vx k (2 ^ min (Zu 56) (Zk .u64)))),Zz .i64 (Zy .i64 (Zy .u64 (↑(BitVec.toNat (BitVec.ofInt (Zk .u64) k &&& BitVec.ofInt (Zk .u64) 72057594037927935)):Int))),Zv true],[]))):Option (AV×Blocks))) (by kernel_rfl) ?_
  simp only [Zd,decide_eq_true_eq] at hpre
  obtain ⟨h0,h1⟩:=hpre
  rw [Kerb.key_hi h0 h1,Kerb.key_lo h0 h1]
  unfold Xx
  cases Wg (Kerb.keyClass k)
  ·rfl
  cases Wk (Kerb.keySerial k)<;>rfl
 ·cases h
theorem w92:Walked Tryz.prog G 92 2 sp92:=by
 refine ⟨Tryz.f92,Tryz.func92,by decide +kernel,rfl,fun xs bl r h=> ?_⟩
 unfold sp92 at h
 split at h
 ·rename_i i l
  cases h
  refine Eq.trans (b:=(sel (!Zf i 4294967295) (some (Zz .i64 0,[])) (sel (!Zf l 255) (some (Zz .i64 0,[])) (some (Zz .i64 (Zy .i64 (i+Zy .i64 (300*Zy .i64 (l+1)))),[]))):Option (AV×Blocks))) (by kernel_rfl) ?_
  unfold Kerb.tEnd
  cases h1:Zf i 4294967295
  ·rfl
  cases h2:Zf l 255
  ·rfl
  have a1:=Kerb.within_iff.1 h1
  have a2:=Kerb.within_iff.1 h2
  simp only [Yk,sel_false,Bool.and_self,if_true]
  rw [wrap_i64 (n:=l+1) (by omega) (by omega),wrap_i64 (n:=300*(l+1)) (by omega) (by omega),wrap_i64 (by omega) (by omega)]
 ·cases h
theorem w133:Walked Tryz.prog G 133 2 sp133:=by
 refine ⟨Tryz.f133,Tryz.func133,by decide +kernel,rfl,fun xs bl r h=> ?_⟩
 unfold sp133 at h
 split at h
 ·rename_i k
  obtain ⟨hpre,h2⟩:=chk_inv h;cases h2
  refine Eq.trans (b:=(sel (!k==0) (some (Zv ((bif Wg (Zy .i64 (Vx k (2 ^ min (Zu 56) (Zk .u64))))&&Wk (Zy .i64 (Zy .u64 (↑(BitVec.toNat (BitVec.ofInt (Zk .u64) k &&& BitVec.ofInt (Zk .u64) 72057594037927935)):Int))) then Zy .i64 (Vx k (2 ^ min (Zu 56) (Zk .u64)))*72057594037927936+Zy .i64 (Zy .u64 (↑(BitVec.toNat (BitVec.ofInt (Zk .u64) k &&& BitVec.ofInt (Zk .u64) 72057594037927935)):Int)) else 0)==k),[])) (some (Zv false,[])):Option (AV×Blocks))) (by kernel_rfl) ?_
  simp only [Zd,decide_eq_true_eq] at hpre
  obtain ⟨h0,h1⟩:=hpre
  rw [Kerb.key_hi h0 h1,Kerb.key_lo h0 h1,Kerb.key_sum]
  by_cases hk:k=0
  ·subst hk;rfl
  rw [sel_pos (by simpa using hk)]
  unfold Xx
  cases Wg (Kerb.keyClass k)&&Wk (Kerb.keySerial k)
  ·have q:((0:Int)==k)=false:=by simp;omega
   simp only [cond_false,q]
  ·simp only [cond_true,BEq.rfl]
 ·cases h
theorem w134:Walked Tryz.prog G 134 2 sp134:=by
 refine ⟨Tryz.f134,Tryz.func134,by decide +kernel,rfl,fun xs bl r h=> ?_⟩
 unfold sp134 at h
 split at h
 ·rename_i b n little
  obtain ⟨hpre,h2⟩:=chk_inv h;cases h2
  refine Eq.trans (b:=(Zj (chk (decide (Zx b≤70368744177664)) (some (Zn (b++Xk n (Zu 4) little),[]))) fun (r:AV×Blocks)=>onNilB (Zg r) (Wz (Yp r) fun l=>some (Zn l,[])):Option (AV×Blocks))) (by kernel_rfl) ?_
  simp only [decide_eq_true_eq] at hpre
  simp only [A0]
  rw [chk_of (by simp;omega)]
  rfl
 ·cases h
theorem w138:Walked Tryz.prog G 138 2 sp138:=by
 refine ⟨Tryz.f138,Tryz.func138,by decide +kernel,rfl,fun xs bl r h=> ?_⟩
 unfold sp138 at h
 split at h
 ·rename_i s
  obtain ⟨hpre,h2⟩:=chk_inv h;cases h2
  refine Eq.trans (b:=(sel (decide ((↑(Zx s):Int)>0)) (Zj (chk (decide (Zx s≤9223372036854775807)&&true) (some (Zv (Xp s [(46:UInt8),(64:UInt8)]&&decide (Zx s≤39)),[]))) fun (r:AV×Blocks)=>onNilB (Zg r) (Wp (Yp r) fun b=>some (Zv b,[]))) (some (Zv false,[])):Option (AV×Blocks))) (by kernel_rfl) ?_
  simp only [A0]
  rw [chk_of (by rw [hpre];rfl)]
  simp only [Kerb.validName]
  cases s with
  | nil=>rfl
  | cons x r =>
   rw [sel_pos (by first | (simp;done) | (simp;omega)),Bool.and_comm]
   rfl
 ·cases h
theorem w139:Walked Tryz.prog G 139 2 sp139:=by
 refine ⟨Tryz.f139,Tryz.func139,by decide +kernel,rfl,fun xs bl r h=> ?_⟩
 unfold sp139 at h
 split at h
 ·rename_i s
  obtain ⟨hpre,h2⟩:=chk_inv h;cases h2
  refine Eq.trans (b:=(Zj (chk (decide (Zx s≤9223372036854775807)&&true) (some (Zv (Xp s [(64:UInt8)]&&decide (Zx s≤39)),[]))) fun (r:AV×Blocks)=>onNilB (Zg r) (Wp (Yp r) fun b=>some (Zv b,[])):Option (AV×Blocks))) (by kernel_rfl) ?_
  simp only [A0]
  rw [chk_of (by rw [hpre];rfl),Bool.and_comm]
  rfl
 ·cases h
theorem w140:Walked Tryz.prog G 140 2 sp140:=by
 refine ⟨Tryz.f140,Tryz.func140,by decide +kernel,rfl,fun xs bl r h=> ?_⟩
 unfold sp140 at h
 split at h
 ·rename_i b n
  obtain ⟨hpre,h2⟩:=chk_inv h;cases h2
  refine Eq.trans (b:=(Zj (chk (decide (Zx b≤70368744177664)) (some (Zn (b++Xk n (Zu 1) false),[]))) fun (r:AV×Blocks)=>onNilB (Zg r) (Wz (Yp r) fun l=>some (Zn l,[])):Option (AV×Blocks))) (by kernel_rfl) ?_
  simp only [decide_eq_true_eq] at hpre
  simp only [A0]
  rw [chk_of (by simp;omega)]
  rfl
 ·cases h
theorem w142:Walked Tryz.prog G 142 2 sp142:=by
 refine ⟨Tryz.f142,Tryz.func142,by decide +kernel,rfl,fun xs bl r h=> ?_⟩
 unfold sp142 at h
 split at h
 ·rename_i b x y z
  obtain ⟨hpre,h2⟩:=chk_inv h;cases h2
  refine Eq.trans (b:=(Zj (chk (decide (Zx b+Zx x≤70368744177664)) (some (Zm (Wd b x),[]))) fun (r:AV×Blocks)=>onNilB (Zg r) (AV.onBs (Yp r) fun b=>Zj (chk (decide (Zx b+Zx y≤70368744177664)) (some (Zm (Wd b y),[]))) fun (r:AV×Blocks)=>onNilB (Zg r) (AV.onBs (Yp r) fun b=>Zj (chk (decide (Zx b+Zx z≤70368744177664)) (some (Zm (Wd b z),[]))) fun (r:AV×Blocks)=>onNilB (Zg r) (AV.onBs (Yp r) fun b=>some (Zm b,[])))):Option (AV×Blocks))) (by kernel_rfl) ?_
  simp only [decide_eq_true_eq] at hpre
  simp only [A0]
  rw [chk_of (by simp;omega),chk_of (by simp [Wd];omega),chk_of (by simp [Wd];omega)]
  rfl
 ·cases h
theorem w144:Walked Tryz.prog G 144 2 sp144:=by
 refine ⟨Tryz.f144,Tryz.func144,by decide +kernel,rfl,fun xs bl r h=> ?_⟩
 unfold sp144 at h
 split at h
 ·rename_i b n little
  obtain ⟨hpre,h2⟩:=chk_inv h;cases h2
  refine Eq.trans (b:=(Zj (chk (decide (Zx b≤70368744177664)) (some (Zn (b++Xk n (Zu 2) little),[]))) fun (r:AV×Blocks)=>onNilB (Zg r) (Wz (Yp r) fun l=>some (Zn l,[])):Option (AV×Blocks))) (by kernel_rfl) ?_
  simp only [decide_eq_true_eq] at hpre
  simp only [A0]
  rw [chk_of (by simp;omega)]
  rfl
 ·cases h
theorem w185:Walked Tryz.prog G 185 2 sp185:=by
 refine ⟨Tryz.f185,Tryz.func185,by decide +kernel,rfl,fun xs bl r h=> ?_⟩
 unfold sp185 at h
 split at h
 ·rename_i k little
  cases h
  refine Eq.trans (b:=(sel (!Xw k) (some (Zm [],[])) (sel little (some (Zm [(4:UInt8),Yw (Zu (Zy .u8 (Zy .i64 (Zy .i64 (2*k)+1))))],[])) (some (Zm [(4:UInt8),Yw (Zu (Zy .u8 (Zy .i64 (2*k))))],[]))):Option (AV×Blocks))) (by kernel_rfl) ?_
  by_cases h:1≤k∧k≤10
  ·have hk:k=1∨k=2∨k=3∨k=4∨k=5∨k=6∨k=7∨k=8∨k=9∨k=10:=by omega
   rcases hk with rfl | rfl | rfl | rfl | rfl | rfl | rfl | rfl | rfl | rfl<;>cases little<;>rfl
  ·have hk:Xw k=false:=by simp [Xw];omega
   by_cases h1:k<1
   ·simp [sel,Vv,hk,h1]
   ·have h2:10<k:=by omega
    simp [sel,Vv,hk,h1,h2]
 ·cases h
theorem w196:Walked Tryz.prog G 196 2 sp196:=by
 refine ⟨Tryz.f196,Tryz.func196,by decide +kernel,rfl,fun xs bl r h=> ?_⟩
 unfold sp196 at h
 split at h
 ·rename_i b
  cases h
  refine Eq.trans (b:=(sel (decide ((↑(Zx b):Int)<2)) (some (Zb [Zz .i64 0,Zv false,Zz .i64 101],[])) (chk (decide (0<(↑(Zx b):Int))) (sel (!Yy b (Zu 0) (0:UInt8)==(4:UInt8)) (some (Zb [Zz .i64 0,Zv false,Zz .i64 39],[])) (chk (decide (1<(↑(Zx b):Int))) (sel (!Xw (Zy .i64 (Xq (Zy .i64 (↑(Yj (Yy b (Zu 1) (0:UInt8))):Int)) 2))) (some (Zb [Zz .i64 0,Zv false,Zz .i64 40],[])) (chk (decide (1<(↑(Zx b):Int))) (some (Zb [Zz .i64 (Zy .i64 (Xq (Zy .i64 (↑(Yj (Yy b (Zu 1) (0:UInt8))):Int)) 2)),Zv (Yw (Zu (Yq (↑(Yj (Yy b (Zu 1) (0:UInt8))):Int) (↑(Yj (2:UInt8)):Int)))==(1:UInt8)),Zz .i64 0],[]))))))):Option (AV×Blocks))) (by kernel_rfl) ?_
  unfold Xb
  by_cases h1:b.length<2
  ·rw [sel_pos (by simp;omega)]
   simp [h1]
  rw [sel_neg (by simp;omega),chk_of (by simp;omega),if_neg h1]
  by_cases h2:b.getD 0 0=4
  ·have hb:=(b.getD 1 0).toNat_lt
   have e:Zy Zw (Xq (Zy Zw ((b.getD (Zu 1) 0).toNat:Int)) 2)=(((b.getD 1 0).toNat / 2:Nat):Int):=by
    rw [show Zu 1=1 from rfl,wrap_i64 (n:=((b.getD 1 0).toNat:Int)) (by omega) (by omega),Xz (by omega),wrap_i64 (by omega) (by omega)];omega
   have e2:(Yw (Zu (Yq ((b.getD (Zu 1) 0).toNat:Int) ((2:UInt8).toNat:Int)))==1)=decide ((b.getD 1 0).toNat % 2=1):=by
    rw [show Zu 1=1 from rfl,Yd (by omega)]
    have e3:Zu (((b.getD 1 0).toNat:Int) % ((2:UInt8).toNat:Int))=(b.getD 1 0).toNat % 2:=by
     show Zu (((b.getD 1 0).toNat:Int) % 2)=_
     omega
    rw [e3]
    rcases Nat.mod_two_eq_zero_or_one (b.getD 1 0).toNat with h | h<;>rw [h]<;>rfl
   rw [sel_neg (by simp [h2] at *;exact h2),chk_of (by simp;omega),if_neg (by simpa using h2),e,e2]
   cases hk:Xw (((b.getD 1 0).toNat / 2:Nat):Int)
   ·rfl
   ·rw [Yk,sel_false,chk_of (by simp;omega)]
    rfl
  ·rw [sel_pos (by simpa using h2),if_pos (by simpa using h2)]
 ·cases h
theorem w200:Walked Tryz.prog G 200 2 sp200:=by
 refine ⟨Tryz.f200,Tryz.func200,by decide +kernel,rfl,fun xs bl r h=> ?_⟩
 unfold sp200 at h
 split at h
 ·rename_i b pos n
  obtain ⟨hpre,h2⟩:=chk_inv h;cases h2
  refine Eq.trans (b:=(Zj (chk (decide (Zx b≤4611686018427387904)) (some (Zz .i64 (Xj b pos n),[]))) fun (r:AV×Blocks)=>onNilB (Zg r) (Xy .i64 (Yp r) fun n_1=>sel (!n_1==0) (some (Zb [Zm [],Zz .i64 0,Zz .i64 n_1],[])) (chk (decide (0≤pos)&&decide (pos≤Zy .i64 (pos+n))&&decide (Zy .i64 (pos+n)≤(↑(Zx b):Int))) (Zj (chk (decide (Zx (Vz (Zu pos) (Wh (Zu (Zy .i64 (pos+n))) b))≤140737488355328)) (some (Zm (Vz (Zu pos) (Wh (Zu (Zy .i64 (pos+n))) b)),[]))) fun (r:AV×Blocks)=>onNilB (Zg r) (AV.onBs (Yp r) fun b=>some (Zb [Zm b,Zz .i64 (Zy .i64 (pos+n)),Zz .i64 0],[]))))):Option (AV×Blocks))) (by kernel_rfl) ?_
  have hb:=of_decide_eq_true hpre
  simp only [A0]
  rw [chk_of (by simp;omega)]
  unfold Ww
  by_cases hr:Xj b pos n=0
  ·obtain ⟨q1,q2,q3,q4⟩:=Kerb.room_zero.1 hr
   have e:Vz (Zu pos) (Wh (Zu (pos+n)) b)=Kerb.cut b pos n:=by
    rw [show Zu (pos+n)=pos.toNat+n.toNat by omega,List.drop_take,show pos.toNat+n.toNat-pos.toNat=n.toNat by omega]
    rfl
   have hc:=Kerb.cut_length hr
   rw [sel_neg (by simp [hr]),if_pos hr,wrap_i64 (by omega) (by omega),e,chk_of (by simp;omega),chk_of (by simp;omega)]
  ·rw [sel_pos (by simpa using hr),if_neg hr]
 ·cases h
theorem w221:Walked Tryz.prog G 221 2 sp221:=by
 refine ⟨Tryz.f221,Tryz.func221,by decide +kernel,rfl,fun xs bl r h=> ?_⟩
 unfold sp221 at h
 split at h
 ·rename_i a b s
  cases h
  refine Eq.trans (b:=(sel (!Zf a 4294967295) (some (Zv false,[])) (sel (!Zf b 4294967295) (some (Zv false,[])) (sel (!Zf s 4294967295) (some (Zv false,[])) (sel (decide (Zy .i64 (a-b)≤s)) (some (Zv (decide (Zy .i64 (b-a)≤s)),[])) (some (Zv false,[]))))):Option (AV×Blocks))) (by kernel_rfl) ?_
  unfold Kerb.near
  cases h1:Zf a 4294967295
  ·rfl
  cases h2:Zf b 4294967295
  ·rfl
  have a1:=Kerb.within_iff.1 h1
  have a2:=Kerb.within_iff.1 h2
  simp only [Yk,sel_false,Bool.and_self,Bool.true_and]
  rw [wrap_i64 (n:=a-b) (by omega) (by omega),wrap_i64 (n:=b-a) (by omega) (by omega)]
  cases h3:Zf s 4294967295
  ·rfl
  cases decide (a-b≤s)<;>rfl
 ·cases h
theorem w231:Walked Tryz.prog G 231 2 sp231:=by
 refine ⟨Tryz.f231,Tryz.func231,by decide +kernel,rfl,fun xs bl r h=> ?_⟩
 unfold sp231 at h
 split at h
 ·rename_i rl els i en ei ek ev ex em ea ef et
  obtain ⟨hpre,h2⟩:=chk_inv h;cases h2
  refine Eq.trans (b:=(let t0:List AV:=[Zq en,Zq ei,Zz .u64 ek,Zz .i64 ev,Zz .i64 ex,Zz .i64 em,Zz .i64 ea,Zz .i64 ef,Zz .i64 et];Zj (chk (decide (Zx els≤1000000)) (some (AV.ownL els,[]))) fun (r:AV×Blocks)=>onNilB (Zg r) (AV.onOwnL (Yp r) fun l=>chk (decide (0≤i)&&decide (i<(↑(Zx l):Int))&&true) (chk (Wm (Zu i) (Zx l)&&true&&true) (AV.onAgg (Yy l (Zu i) Xn) fun cs=>cStr cs fun b r=>cStr r fun b r=>cInt .u64 r fun n r=>cInt .i64 r fun n r=>cInt .i64 r fun n r=>cInt .i64 r fun n r=>cInt .i64 r fun n r=>cInt .i64 r fun n r=>cInt .i64 r fun n r=>onNil r (chk (Zx t0==nat_lit 9&&true&&true&&true&&Wm (Zu i) (Zx l)) (some (Vw [Zq rl,Yx 9 (List.set l (Zu i) (Vw t0))],[])))))):Option (AV×Blocks))) (by kernel_rfl) ?_
  try dsimp only [cStr,cBs,cBool,cU8,cInt,cSl,l63]
  simp only [Zd,decide_eq_true_eq] at hpre
  obtain ⟨⟨⟨hall,hlen⟩,h0⟩,h1⟩:=hpre
  obtain ⟨es,rfl,hok⟩:=Kerb.ents_of hall
  rw [Kerb.map_toEntry]
  simp only [Wy] at hlen h1
  have hj:i.toNat<es.length:=by omega
  simp only [Wy,hlen,decide_true,↓A0,A0]
  try simp only [Wy]
  have hb:Wm i.toNat es.length=true:=by simp [hj]
  rw [chk_of (by simp;omega),chk_of (by rw [hb];rfl),Kerb.getD_ent hj]
  simp only [Xh,↓A0,A0]
  rw [chk_of (by rw [hb];rfl)]
  show some _=some _
  unfold Kerb.setEnt
  dsimp only
  rw [← Kerb.set_ent]
  rfl
 ·cases h
theorem w233:Walked Tryz.prog G 233 2 sp233:=by
 refine ⟨Tryz.f233,Tryz.func233,by decide +kernel,rfl,fun xs bl r h=> ?_⟩
 unfold sp233 at h
 split at h
 ·rename_i b pos k little
  obtain ⟨hpre,h2⟩:=chk_inv h;cases h2
  refine Eq.trans (b:=(Zj (chk (decide (Zx b≤140737488355328)) (some (Zb [Zm (Wq (Ww b pos k)),Zz .i64 (Wx (Ww b pos k)),Zz .i64 (Xd (Ww b pos k))],[]))) (kT fun vs=>cBs vs fun b r=>cInt .i64 r fun n r=>cInt .i64 r fun n_1 r=>onNil r (sel (!n_1==0) (some (Zb [Zz .i64 0,Zz .i64 0,Zz .i64 n_1],[])) (Zj (loopM (fun (st:List AV)=>cInt .i64 st fun n r=>cBool r fun b r=>cBs r fun b_1 r=>cInt .i64 r fun n_2 r=>cInt .i64 r fun n_3 r=>let t0:BitVec (Zk .i64):=BitVec.ofInt (Zk .i64) (Zy .i64 (n_3*2 ^ min (Zu 8) (Zk .i64)));cInt .i64 r fun n_4 r=>let t1:Int:=Zy .i64 (Zy .i64 (n-1)-n_4);onNil r (sel (decide (n_4<n)) (sel b (chk (decide (0≤t1)&&decide (t1<(↑(Zx b_1):Int))) (some (Yn [Zz .i64 n,Zv b,Zm b_1,Zz .i64 n_2,Zz .i64 (Zy .i64 (↑(BitVec.toNat (t0 ||| BitVec.ofInt (Zk .i64) (Zy .i64 (↑(Yj (Yy b_1 (Zu t1) (0:UInt8))):Int)))):Int)),Zz .i64 (Zy .i64 (n_4+1))]))) (chk (decide (0≤n_4)&&decide (n_4<(↑(Zx b_1):Int))) (some (Yn [Zz .i64 n,Zv b,Zm b_1,Zz .i64 n_2,Zz .i64 (Zy .i64 (↑(BitVec.toNat (t0 ||| BitVec.ofInt (Zk .i64) (Zy .i64 (↑(Yj (Yy b_1 (Zu n_4) (0:UInt8))):Int)))):Int)),Zz .i64 (Zy .i64 (n_4+1))])))) (some (Yg (Yf 0,[Zz .i64 n,Zv b,Zm b_1,Zz .i64 n_2,Zz .i64 n_3,Zz .i64 n_4]))))) [Zz .i64 k,Zv little,Zm b,Zz .i64 n,Zz .i64 0,Zz .i64 0]) fun (r:Ex×List AV)=>cInt .i64 (Zg r) fun n r_1=>cBool r_1 fun b r_2=>cBs r_2 fun b r_3=>cInt .i64 r_3 fun n r_4=>cInt .i64 r_4 fun n_2 r_5=>cInt .i64 r_5 fun n_3 r_6=>onNil r_6 (exK r.1 none fun (j:Nat)=>sel (Xg j 0) (some (Zb [Zz .i64 n_2,Zz .i64 n,Zz .i64 0],[])) none)))):Option (AV×Blocks))) (by kernel_rfl) ?_
  delta kT
  try dsimp only [cStr,cBs,cBool,cU8,cInt,cSl,l63]
  simp only [Zd,decide_eq_true_eq] at hpre
  obtain ⟨⟨hb,hk0⟩,hk4⟩:=hpre
  simp only [A0]
  rw [chk_of (by simpa using hb)]
  unfold Kerb.get Ww
  by_cases hr:Xj b pos k=0
  case neg =>
   rw [if_neg hr,if_neg hr,sel_pos (by simpa using hr)]
  rw [if_pos hr,if_pos hr,sel_neg (by simp)]
  obtain ⟨q1,q2,q3,q4⟩:=Kerb.room_zero.1 hr
  have hcl:=Kerb.cut_length hr
  obtain ⟨C,hC⟩:∃ C,C=Kerb.cut b pos k:=⟨_,rfl⟩
  rw [← hC] at hcl ⊢
  obtain ⟨L,hL⟩:∃ L,L=cond little C.reverse C:=⟨_,rfl⟩
  have hLl:L.length=k.toNat:=by rw [hL];cases little<;>simp [hcl]
  rw [← hL]
  refine loop_rounds (fun i:Nat=>[Zz Zw k,Zv little,Zm C,Zz Zw (pos+k),Zz Zw (Kerb.valB (L.take i)),Zz Zw (i:Int)]) (fun i=>i≤k.toNat) (fun i=>k.toNat-i)
   (fun r=>r=(Yf 0,[Zz Zw k,Zv little,Zm C,Zz Zw (pos+k),Zz Zw (Kerb.valB L),Zz Zw k])) 0 (Xv _) rfl ?_ ?_
  ·intro i hi
   simp only [A0]
   by_cases hlt:i<k.toNat
   ·rw [sel_pos (by simp;omega)]
    have hv:=Kerb.valB_bd (l:=L.take i) (by simp;omega)
    have hs:=Kerb.valB_take (l:=L) (i:=i) (by omega)
    have hgd:L.getD i 0=C.getD (cond little (k.toNat-1-i) i) 0:=by
     rw [hL]
     cases little
     ·rfl
     ·show C.reverse.getD i 0=_
      rw [Kerb.getD_reverse (by omega),hcl];rfl
    cases little
    ·rw [sel_neg rfl,chk_of (by simp;omega),Zh]
     rw [Kerb.shl8_or _ hv.1 (by omega),wrap_i64 (n:=(i:Int)+1) (by omega) (by omega)]
     refine ⟨_,rfl,i+1,?_,by omega,by dsimp only;omega⟩
     dsimp only
     rw [hs,hgd];rfl
    ·rw [sel_pos rfl,wrap_i64 (n:=k-1) (by omega) (by omega),wrap_i64 (n:=k-1-(i:Int)) (by omega) (by omega),chk_of (by simp;omega),show (k-1-(i:Int)).toNat=k.toNat-1-i from by omega]
     rw [Kerb.shl8_or _ hv.1 (by omega),wrap_i64 (n:=(i:Int)+1) (by omega) (by omega)]
     refine ⟨_,rfl,i+1,?_,by omega,by dsimp only;omega⟩
     dsimp only
     rw [hs,hgd];rfl
   ·rw [sel_neg (by simp;omega)]
    refine ⟨_,rfl,?_⟩
    show _=_
    rw [Yz (by omega),show (i:Int)=k from by omega]
  ·rintro r rfl
   simp only [A0]
   rw [sel_pos (Ym _)]
 ·cases h
theorem w236:Walked Tryz.prog G 236 2 sp236:=by
 refine ⟨Tryz.f236,Tryz.func236,by decide +kernel,rfl,fun xs bl r h=> ?_⟩
 unfold sp236 at h
 split at h
 ·rename_i els
  obtain ⟨hpre,h2⟩:=chk_inv h;cases h2
  refine Eq.trans (b:=(Zj (loopM (fun (st:List AV)=>cSl 1 st fun b r=>cInt .i64 r fun n r=>cSl 1 r fun b_1 r=>cInt .i64 r fun n_1 r=>cInt .i64 r fun n_2 r=>onNil r (sel (decide (n_2<n_1)) (chk (decide (0≤n_2)&&decide (n_2<(↑(Zx b_1):Int))&&true) (AV.onBs (Yy b_1 (Zu n_2) Xn) fun b_2=>sel (decide (Zy .i64 (n+(↑(Zx b_2):Int))<0)) none (some (Yn [Yx 1 b,Zz .i64 (Zy .i64 (n+(↑(Zx b_2):Int))),Yx 1 b_1,Zz .i64 n_1,Zz .i64 (Zy .i64 (n_2+1))])))) (some (Yg (Yf 0,[Yx 1 b,Zz .i64 n,Yx 1 b_1,Zz .i64 n_1,Zz .i64 n_2]))))) [Yx 1 els,Zz .i64 0,Yx 1 els,Zz .i64 (↑(Zx els):Int),Zz .i64 0]) fun (r:Ex×List AV)=>cSl 1 (Zg r) fun b r_1=>cInt .i64 r_1 fun n r_2=>cSl 1 r_2 fun b_1 r_3=>cInt .i64 r_3 fun n_1 r_4=>cInt .i64 r_4 fun n_2 r_5=>onNil r_5 (exK r.1 none fun (j:Nat)=>sel (Xg j 0) (Zj (chk (decide (0≤n)&&decide (n≤140737488355328)) (some (Zn [],[]))) (kO fun l=>Zj (loopM (fun (st:List AV)=>onCons st fun x r=>Wz x fun b=>cSl 1 r fun b_2 r=>cInt .i64 r fun n r=>cInt .i64 r fun n_3 r=>onNil r (sel (decide (n_3<n)) (chk (decide (0≤n_3)&&decide (n_3<(↑(Zx b_2):Int))&&true) (AV.onBs (Yy b_2 (Zu n_3) Xn) fun b_3=>chk (room (Zx b+Zx b_3) 1) (some (Yn [Zn (b++b_3),Yx 1 b_2,Zz .i64 n,Zz .i64 (Zy .i64 (n_3+1))])))) (some (Yg (Yf 2,[Zn b,Yx 1 b_2,Zz .i64 n,Zz .i64 n_3]))))) [Zn l,Yx 1 b,Zz .i64 (↑(Zx b):Int),Zz .i64 0]) fun (r:Ex×List AV)=>onCons (Zg r) fun x r_6=>Wz x fun b=>cSl 1 r_6 fun b_2 r_7=>cInt .i64 r_7 fun n r_8=>cInt .i64 r_8 fun n r_9=>onNil r_9 (exK r.1 none fun (j:Nat)=>sel (Xg j 2) (some (Zn b,[])) none))) none):Option (AV×Blocks))) (by kernel_rfl) ?_
  delta kO
  try dsimp only [cStr,cBs,cBool,cU8,cInt,cSl,l63]
  simp only [Zd,decide_eq_true_eq] at hpre
  obtain ⟨⟨ha,hl⟩,hbig⟩:=hpre
  refine loop_rounds (fun i:Nat=>[Yx 1 els,Zz Zw ((catB (els.take i)).length:Int),Yx 1 els,Zz Zw (els.length:Int),Zz Zw (i:Int)]) (fun i=>i≤els.length) (fun i=>els.length-i)
   (fun r=>r=(Yf 0,[Yx 1 els,Zz Zw ((catB els).length:Int),Yx 1 els,Zz Zw (els.length:Int),Zz Zw (els.length:Int)])) 0 (Xv _) rfl ?_ ?_
  ·intro i hi
   simp only [A0]
   by_cases hlt:i<els.length
   ·obtain ⟨l,h1,h2,h3⟩:=Kerb.cat_step ha hlt
    rw [sel_pos (by simp;omega),chk_of (by simp;omega),Zh,h1,onBs_bs,wrap_i64 (n:=((catB (els.take i)).length:Int)+(l.length:Int)) (by omega) (by omega),sel_neg (by simp;omega),wrap_i64 (by omega) (by omega)]
    refine ⟨_,rfl,i+1,?_,by omega,by dsimp only;omega⟩
    dsimp only
    rw [h2,List.length_append,Int.natCast_add]
    rfl
   ·rw [sel_neg (by simp;omega)]
    refine ⟨_,rfl,?_⟩
    show _=_
    rw [Yz (by omega),show i=els.length from by omega]
  rintro r rfl
  simp only [A0]
  rw [sel_pos (Ym _),chk_of (by simp;omega)]
  refine loop_rounds (fun i:Nat=>[Zn (catB (els.take i)),Yx 1 els,Zz Zw (els.length:Int),Zz Zw (i:Int)]) (fun i=>i≤els.length) (fun i=>els.length-i)
   (fun r=>r=(Yf 2,[Zn (catB els),Yx 1 els,Zz Zw (els.length:Int),Zz Zw (els.length:Int)])) 0 (Xv _) rfl ?_ ?_
  ·intro i hi
   simp only [A0]
   by_cases hlt:i<els.length
   ·obtain ⟨l,h1,h2,h3⟩:=Kerb.cat_step ha hlt
    rw [sel_pos (by simp;omega),chk_of (by simp;omega),Zh,h1,onBs_bs,chk_of (Yv (by omega)),wrap_i64 (by omega) (by omega)]
    refine ⟨_,rfl,i+1,?_,by omega,by dsimp only;omega⟩
    dsimp only
    rw [h2]
    rfl
   ·rw [sel_neg (by simp;omega)]
    refine ⟨_,rfl,?_⟩
    show _=_
    rw [Yz (by omega),show i=els.length from by omega]
  rintro r rfl
  simp only [A0]
  rw [sel_pos (Ym _)]
 ·cases h
theorem w241:Walked Tryz.prog G 241 2 sp241:=by
 refine ⟨Tryz.f241,Tryz.func241,by decide +kernel,rfl,fun xs bl r h=> ?_⟩
 unfold sp241 at h
 split at h
 ·rename_i b pos k little
  obtain ⟨hpre,h2⟩:=chk_inv h;cases h2
  refine Eq.trans (b:=(Zj (chk (decide (Zx b≤4611686018427387904)) (some (Zz .i64 (Xj b pos k),[]))) (kI .i64 fun n=>sel (!n==0) (some (Zb [Zz .i64 0,Zz .i64 0,Zz .i64 n],[])) (Zj (loopM (fun (st:List AV)=>cBs st fun b r=>cInt .i64 r fun n r=>cInt .i64 r fun n_1 r=>cBool r fun b_1 r=>cInt .i64 r fun n_2 r=>let t0:BitVec (Zk .i64):=BitVec.ofInt (Zk .i64) (Zy .i64 (n_2*2 ^ min (Zu 8) (Zk .i64)));cInt .i64 r fun n_3 r=>cInt .i64 r fun n_4 r=>let t1:Int:=Zy .i64 (n+Zy .i64 (Zy .i64 (n_1-1)-n_4));onNil r (sel (decide (n_4<n_3)) (sel b_1 (chk (decide (0≤t1)&&decide (t1<(↑(Zx b):Int))) (some (Yn [Zm b,Zz .i64 n,Zz .i64 n_1,Zv b_1,Zz .i64 (Zy .i64 (↑(BitVec.toNat (t0 ||| BitVec.ofInt (Zk .i64) (Zy .i64 (↑(Yj (Yy b (Zu t1) (0:UInt8))):Int)))):Int)),Zz .i64 n_3,Zz .i64 (Zy .i64 (n_4+1))]))) (chk (decide (0≤Zy .i64 (n+n_4))&&decide (Zy .i64 (n+n_4)<(↑(Zx b):Int))) (some (Yn [Zm b,Zz .i64 n,Zz .i64 n_1,Zv b_1,Zz .i64 (Zy .i64 (↑(BitVec.toNat (t0 ||| BitVec.ofInt (Zk .i64) (Zy .i64 (↑(Yj (Yy b (Zu (Zy .i64 (n+n_4))) (0:UInt8))):Int)))):Int)),Zz .i64 n_3,Zz .i64 (Zy .i64 (n_4+1))])))) (some (Yg (Yf 0,[Zm b,Zz .i64 n,Zz .i64 n_1,Zv b_1,Zz .i64 n_2,Zz .i64 n_3,Zz .i64 n_4]))))) [Zm b,Zz .i64 pos,Zz .i64 k,Zv little,Zz .i64 0,Zz .i64 k,Zz .i64 0]) fun (r:Ex×List AV)=>cBs (Zg r) fun b r_1=>cInt .i64 r_1 fun n r_2=>cInt .i64 r_2 fun n_1 r_3=>cBool r_3 fun b r_4=>cInt .i64 r_4 fun n_2 r_5=>cInt .i64 r_5 fun n_3 r_6=>cInt .i64 r_6 fun n_4 r_7=>onNil r_7 (exK r.1 none fun (j:Nat)=>sel (Xg j 0) (some (Zb [Zz .i64 n_2,Zz .i64 (Zy .i64 (n+n_1)),Zz .i64 0],[])) none))):Option (AV×Blocks))) (by kernel_rfl) ?_
  delta kI
  try dsimp only [cStr,cBs,cBool,cU8,cInt,cSl,l63]
  simp only [Zd,decide_eq_true_eq] at hpre
  obtain ⟨⟨hb,hk0⟩,hk4⟩:=hpre
  simp only [A0]
  rw [chk_of (by simpa using hb)]
  unfold Kerb.get
  by_cases hr:Xj b pos k=0
  ·rw [sel_neg (by simp [hr]),if_pos hr]
   obtain ⟨q1,q2,q3,q4⟩:=Kerb.room_zero.1 hr
   have hcl:=Kerb.cut_length hr
   obtain ⟨L,hL⟩:∃ L,L=cond little (Kerb.cut b pos k).reverse (Kerb.cut b pos k):=⟨_,rfl⟩
   have hLl:L.length=k.toNat:=by rw [hL];cases little<;>simp [hcl]
   rw [← hL]
   refine loop_rounds (fun i:Nat=>[Zm b,Zz Zw pos,Zz Zw k,Zv little,Zz Zw (Kerb.valB (L.take i)),Zz Zw k,Zz Zw (i:Int)]) (fun i=>i≤k.toNat) (fun i=>k.toNat-i)
    (fun r=>r=(Yf 0,[Zm b,Zz Zw pos,Zz Zw k,Zv little,Zz Zw (Kerb.valB L),Zz Zw k,Zz Zw k])) 0 (Xv _) rfl ?_ ?_
   ·intro i hi
    simp only [A0]
    by_cases hlt:i<k.toNat
    ·rw [sel_pos (by simp;omega)]
     have hv:=Kerb.valB_bd (l:=L.take i) (by simp;omega)
     have hs:=Kerb.valB_take (l:=L) (i:=i) (by omega)
     have hgd:L.getD i 0=b.getD (cond little (pos.toNat+(k.toNat-1-i)) (pos.toNat+i)) 0:=by
      rw [hL]
      cases little
      ·exact Kerb.cut_getD hlt
      ·show (Kerb.cut b pos k).reverse.getD i 0=_
       rw [Kerb.getD_reverse (by omega),hcl,Kerb.cut_getD (by omega)];rfl
     cases little
     ·rw [sel_neg rfl,wrap_i64 (n:=pos+(i:Int)) (by omega) (by omega),chk_of (by simp;omega),show (pos+(i:Int)).toNat=pos.toNat+i from by omega]
      rw [Kerb.shl8_or _ hv.1 (by omega),wrap_i64 (n:=(i:Int)+1) (by omega) (by omega)]
      refine ⟨_,rfl,i+1,?_,by omega,by dsimp only;omega⟩
      dsimp only
      rw [hs,hgd];rfl
     ·rw [sel_pos rfl,wrap_i64 (n:=k-1) (by omega) (by omega),wrap_i64 (n:=k-1-(i:Int)) (by omega) (by omega),wrap_i64 (n:=pos+(k-1-(i:Int))) (by omega) (by omega),chk_of (by simp;omega),show (pos+(k-1-(i:Int))).toNat=pos.toNat+(k.toNat-1-i) from by omega]
      rw [Kerb.shl8_or _ hv.1 (by omega),wrap_i64 (n:=(i:Int)+1) (by omega) (by omega)]
      refine ⟨_,rfl,i+1,?_,by omega,by dsimp only;omega⟩
      dsimp only
      rw [hs,hgd];rfl
    ·rw [sel_neg (by simp;omega)]
     refine ⟨_,rfl,?_⟩
     show _=_
     rw [Yz (by omega),show (i:Int)=k from by omega]
   ·rintro r rfl
    simp only [A0]
    rw [sel_pos (Ym _),wrap_i64 (by omega) (by omega)]
  ·rw [sel_pos (by simpa using hr),if_neg hr]
 ·cases h
theorem w248:Walked Tryz.prog G 248 2 sp248:=by
 refine ⟨Tryz.f248,Tryz.func248,by decide +kernel,rfl,fun xs bl r h=> ?_⟩
 unfold sp248 at h
 split at h
 ·rename_i s c
  cases h
  refine Eq.trans (b:=(some (Zz .i64 (Wb c s),[]):Option (AV×Blocks))) (by kernel_rfl) ?_
  rfl
 ·cases h
theorem w259:Walked Tryz.prog G 259 2 sp259:=by
 refine ⟨Tryz.f259,Tryz.func259,by decide +kernel,rfl,fun xs bl r h=> ?_⟩
 unfold sp259 at h
 split at h
 ·rename_i s c
  cases h
  refine Eq.trans (b:=(some (Zz .i64 (Wb c s),[]):Option (AV×Blocks))) (by kernel_rfl) ?_
  rfl
 ·cases h
theorem w263:Walked Tryz.prog G 263 2 sp263:=by
 refine ⟨Tryz.f263,Tryz.func263,by decide +kernel,rfl,fun xs bl r h=> ?_⟩
 unfold sp263 at h
 split at h
 ·rename_i a b
  cases h
  refine Eq.trans (b:=(some (Zz .i64 (Kerb.cmpB a b),[]):Option (AV×Blocks))) (by kernel_rfl) ?_
  rfl
 ·cases h
theorem w11:Walked Tryz.prog G 11 3 sp11:=by
 refine ⟨Tryz.f11,Tryz.func11,by decide +kernel,rfl,fun xs bl r h=> ?_⟩
 unfold sp11 at h
 split at h
 ·rename_i n
  obtain ⟨hpre,h2⟩:=chk_inv h;cases h2
  refine Eq.trans (b:=(chk (decide (0≤Yq n 3)&&decide (Yq n 3<(↑(Zx [Zq [(97:UInt8),(110:UInt8),(110:UInt8)],Zq [(98:UInt8),(111:UInt8),(98:UInt8)],Zq [(99:UInt8),(97:UInt8),(116:UInt8)]]):Int))&&true) (Xm (Yy [Zq [(97:UInt8),(110:UInt8),(110:UInt8)],Zq [(98:UInt8),(111:UInt8),(98:UInt8)],Zq [(99:UInt8),(97:UInt8),(116:UInt8)]] (Zu (Yq n 3)) Xn) fun b=>Zj (chk (decide (0≤Zy .i64 (Xq n 3))) (some (Zq (Kerb.realm (Zy .i64 (Xq n 3))),[]))) fun (r:AV×Blocks)=>onNilB (Zg r) (Xm (Yp r) fun b_1=>some (Vw [Zq b,Zq [],Zq b_1],[]))):Option (AV×Blocks))) (by kernel_rfl) ?_
  have hn:0≤n:=by first | exact of_decide_eq_true hpre | (simp only [Zd,decide_eq_true_eq] at hpre;exact hpre.1)
  have ht:Yq n 3=n % 3:=Yd hn
  have hcase:n % 3=0∨n % 3=1∨n % 3=2:=by omega
  simp only [Zd,decide_eq_true_eq] at hpre
  have hd:Xq n 3=n / 3:=Xz hn
  rw [hd,wrap_i64 (by omega) (by omega)]
  have hq:decide ((0:Int)≤n / 3)=true:=by simp;omega
  rcases hcase with e | e | e<;>simp [ht,e,chk,Xm,Kerb.user,hq,onNilB]<;>omega
 ·cases h
theorem w18:Walked Tryz.prog G 18 3 sp18:=by
 refine ⟨Tryz.f18,Tryz.func18,by decide +kernel,rfl,fun xs bl r h=> ?_⟩
 unfold sp18 at h
 split at h
 ·rename_i n
  obtain ⟨hpre,h2⟩:=chk_inv h;cases h2
  refine Eq.trans (b:=(chk (decide (0≤Yq n 3)&&decide (Yq n 3<(↑(Zx [Vw [Zq [(109:UInt8),(97:UInt8),(105:UInt8),(108:UInt8)],Zq [],Zq []],Vw [Zq [(110:UInt8),(102:UInt8),(115:UInt8)],Zq [(104:UInt8),(111:UInt8),(109:UInt8),(101:UInt8)],Zq []],Vw [Zq [(107:UInt8),(114:UInt8),(98:UInt8),(116:UInt8),(103:UInt8),(116:UInt8)],Zq [(65:UInt8),(84:UInt8),(72:UInt8)],Zq []]]):Int))&&true) (AV.onAgg (Yy [Vw [Zq [(109:UInt8),(97:UInt8),(105:UInt8),(108:UInt8)],Zq [],Zq []],Vw [Zq [(110:UInt8),(102:UInt8),(115:UInt8)],Zq [(104:UInt8),(111:UInt8),(109:UInt8),(101:UInt8)],Zq []],Vw [Zq [(107:UInt8),(114:UInt8),(98:UInt8),(116:UInt8),(103:UInt8),(116:UInt8)],Zq [(65:UInt8),(84:UInt8),(72:UInt8)],Zq []]] (Zu (Yq n 3)) Xn) fun cs=>onCons cs fun x r=>Xm x fun b=>onCons r fun x r=>Xm x fun b_1=>onCons r fun x r=>Xm x fun b_2=>onNil r (Zj (chk (decide (0≤Zy .i64 (Xq n 3))) (some (Zq (Kerb.realm (Zy .i64 (Xq n 3))),[]))) fun (r:AV×Blocks)=>onNilB (Zg r) (Xm (Yp r) fun b_3=>some (Vw [Zq b,Zq b_1,Zq b_3],[])))):Option (AV×Blocks))) (by kernel_rfl) ?_
  have hn:0≤n:=by first | exact of_decide_eq_true hpre | (simp only [Zd,decide_eq_true_eq] at hpre;exact hpre.1)
  have ht:Yq n 3=n % 3:=Yd hn
  have hcase:n % 3=0∨n % 3=1∨n % 3=2:=by omega
  simp only [Zd,decide_eq_true_eq] at hpre
  have hd:Xq n 3=n / 3:=Xz hn
  rw [hd,wrap_i64 (by omega) (by omega)]
  have hq:decide ((0:Int)≤n / 3)=true:=by simp;omega
  rcases hcase with e | e | e<;>simp [ht,e,chk,Xm,AV.onAgg,onCons,onNil,Kerb.service,hq,onNilB]<;>omega
 ·cases h
theorem w40:Walked Tryz.prog G 40 3 sp40:=by
 refine ⟨Tryz.f40,Tryz.func40,by decide +kernel,rfl,fun xs bl r h=> ?_⟩
 unfold sp40 at h
 split at h
 ·rename_i k
  obtain ⟨hpre,h2⟩:=chk_inv h;cases h2
  refine Eq.trans (b:=(Zj (chk (decide (0≤k)&&decide (k<18446744073709551616)) (some (Zb [Zz .i64 (bif Xx k then Kerb.keyClass k else 0),Zz .i64 (bif Xx k then Kerb.keySerial k else 0),Zv (Xx k)],[]))) fun (r:AV×Blocks)=>onNilB (Zg r) (AV.onTup (Yp r) fun vs=>onCons vs fun x r=>Xy .i64 x fun n=>onCons r fun x r=>Xy .i64 x fun n=>onCons r fun x r=>Wp x fun b=>onNil r (some (Zv b,[]))):Option (AV×Blocks))) (by kernel_rfl) ?_
  simp only [A0]
  rw [chk_of hpre]
 ·cases h
theorem w60:Walked Tryz.prog G 60 3 sp60:=by
 refine ⟨Tryz.f60,Tryz.func60,by decide +kernel,rfl,fun xs bl r h=> ?_⟩
 unfold sp60 at h
 split at h
 ·rename_i lb t st en k
  obtain ⟨hpre,h2⟩:=chk_inv h;cases h2
  refine Eq.trans (b:=(let t5:Option (AV×Blocks):=some (Zb [Zn [],Zz .i64 104],[]);let t6:Option (AV×Blocks):=some (Zb [Zn [],Zz .i64 108],[]);let t7:Bool:=lb==[(103:UInt8),(84:UInt8),(75:UInt8),(84:UInt8)];let t8:Option (AV×Blocks):=chk (decide (Zx lb≤70368744177664)) (some (Zn (lb++Xk t 4 false),[]));let t4:Option (AV×Blocks):=Zj t8 (kO fun l=>sel t7 (Zj (chk (decide (Zx l≤70368744177664)) (some (Zn (l++Xk st 4 false),[]))) (kO fun l=>Zj (chk (decide (Zx l≤70368744177664)) (some (Zn (l++Xk en 4 false),[]))) (kO fun l=>Zj (chk (decide (Zx l≤70368744177664)) (some (Zn (Kerb.pad l),[]))) (kO fun l=>some (Zb [Zn l,Zz .i64 0],[]))))) (Zj (chk (decide (0≤k)&&decide (k<18446744073709551616)) (some (Zm (Kerb.keyBytes k),[]))) (kB fun b=>chk (room (Zx l+Zx b) 1) (Zj (chk (decide (Zx (l++b)≤70368744177664)) (some (Zn (Kerb.pad (l++b)),[]))) (kO fun l=>some (Zb [Zn l,Zz .i64 0],[]))))));let t3:Option (AV×Blocks):=sel (!t7) (sel (!st==0) t6 (sel (!en==0) t6 t4)) t4;let t2:Option (AV×Blocks):=sel t7 (sel (!k==0) t6 t3) t3;let t1:Option (AV×Blocks):=sel (!t7) (Zj (chk (decide (0≤k)&&decide (k<18446744073709551616)) (some (Zv (Xx k),[]))) (kL fun b=>sel (!b) (some (Zb [Zn [],Zz .i64 10],[])) t2)) t2;let t0:Option (AV×Blocks):=sel (!Zf t 4294967295) t5 (sel t7 (sel (!Zf st 4294967295) t5 (sel (!Zf en 4294967295) t5 t1)) t1);sel (lb==[(103:UInt8),(84:UInt8),(71:UInt8),(83:UInt8)]) (sel (!Zf t 4294967295) t5 (sel (!Zf st 4294967295) t5 (sel (!Zf en 4294967295) t5 (sel (!k==0) t6 (Zj t8 (kO fun l=>Zj (chk (decide (Zx l≤70368744177664)) (some (Zn (l++Xk st 4 false),[]))) (kO fun l=>Zj (chk (decide (Zx l≤70368744177664)) (some (Zn (l++Xk en 4 false),[]))) (kO fun l=>Zj (chk (decide (Zx l≤70368744177664)) (some (Zn (Kerb.pad l),[]))) (kO fun l=>some (Zb [Zn l,Zz .i64 0],[])))))))))) (sel (!t7) (sel (!lb==[(67:UInt8),(80:UInt8),(87:UInt8),(108:UInt8)]) (some (Zb [Zn [],Zz .i64 80],[])) t0) t0):Option (AV×Blocks))) (by kernel_rfl) ?_
  delta kB kO kL
  try dsimp only [cStr,cBs,cBool,cU8,cInt,cSl,l63]
  have eGet:([103,84,71,83]:List UInt8)=Kerb.lGet:=rfl
  have eTick:([103,84,75,84]:List UInt8)=Kerb.lTicket:=rfl
  have eChg:([67,80,87,108]:List UInt8)=Kerb.lChange:=rfl
  have eDone:([67,80,87,100]:List UInt8)=Kerb.lDone:=rfl
  have eGot:([116,103,115,84]:List UInt8)=Kerb.lGot:=rfl
  have eGiven:([116,107,116,71]:List UInt8)=Kerb.lGiven:=rfl
  simp only [A0,eChg,eGet,eTick,hpre]
  unfold Kerb.encodeKaSecret
  simp only
  cases hg:(lb==Kerb.lGet)
  case true =>
   have ht:Vy lb=true:=by simp [Vy,hg]
   have hl:lb.length=4:=by rw [eq_of_beq hg];rfl
   simp only [ht,sel_true,Yk,Bool.false_and]
   rw [if_neg (by simp)]
   cases h1:Zf t 4294967295
   ·rfl
   rw [Yk,sel_false,if_neg (by simp),if_pos trivial]
   cases h2:Zf st 4294967295
   ·rfl
   rw [Yk,sel_false]
   cases h3:Zf en 4294967295
   ·rfl
   rw [Yk,sel_false,if_neg (by simp)]
   by_cases h4:k=0
   case neg=>rw [sel_pos (by simpa using h4),if_pos h4]
   rw [sel_neg (by simp [h4]),if_neg (by simp [h4]),chk_of (by simp;omega),chk_of (by simp [Yu];omega),chk_of (by simp [Yu];omega),chk_of (by simp [Yu];omega)]
  cases hk:(lb==Kerb.lTicket)
  case true =>
   have ht:Vy lb=true:=by simp [Vy,hk]
   have hl:lb.length=4:=by rw [eq_of_beq hk];rfl
   simp only [ht,sel_true,sel_false,Yk,Bool.false_and]
   rw [if_neg (by simp)]
   cases h1:Zf t 4294967295
   ·rfl
   rw [Yk,sel_false,if_neg (by simp),if_pos trivial]
   cases h2:Zf st 4294967295
   ·rfl
   rw [Yk,sel_false]
   cases h3:Zf en 4294967295
   ·rfl
   rw [Yk,sel_false,if_neg (by simp)]
   by_cases h4:k=0
   case neg=>rw [sel_pos (by simpa using h4),if_pos h4]
   rw [sel_neg (by simp [h4]),if_neg (by simp [h4]),chk_of (by simp;omega),chk_of (by simp [Yu];omega),chk_of (by simp [Yu];omega),chk_of (by simp [Yu];omega)]
  have ht:Vy lb=false:=by simp [Vy,hg,hk]
  simp only [ht,sel_true,sel_false,Bool.not_false,Bool.true_and]
  cases hc:(lb==Kerb.lChange)
  ·rfl
  have hl:lb.length=4:=by rw [eq_of_beq hc];rfl
  rw [Yk,sel_false,if_neg (by simp)]
  cases h1:Zf t 4294967295
  ·rfl
  rw [Yk,sel_false,if_neg (by simp),if_neg (by simp)]
  cases h2:Xx k
  ·rfl
  rw [Yk,sel_false,if_neg (by simp)]
  by_cases h3:st=0
  case neg=>rw [sel_pos (by simpa using h3),if_pos (.inl h3)]
  rw [sel_neg (by simp [h3])]
  by_cases h4:en=0
  case neg=>rw [sel_pos (by simpa using h4),if_pos (.inr h4)]
  rw [sel_neg (by simp [h4]),if_neg (by simp [h3,h4]),chk_of (by simp;omega),chk_of (Yv (by simp [Yu,Kerb.keyBytes_len];omega)),chk_of (by simp [Yu,Kerb.keyBytes_len];omega)]
 ·cases h
theorem w62:Walked Tryz.prog G 62 3 sp62:=by
 refine ⟨Tryz.f62,Tryz.func62,by decide +kernel,rfl,fun xs bl r h=> ?_⟩
 unfold sp62 at h
 split at h
 ·rename_i n m
  obtain ⟨hpre,h2⟩:=chk_inv h;cases h2
  refine Eq.trans (b:=(Zj (chk (decide (0≤m)) (some (Zq (Kerb.realm m),[]))) fun (r:AV×Blocks)=>onNilB (Zg r) (Xm (Yp r) fun b=>Zj (chk (decide (0≤n)) (some (Zq (Kerb.realm n),[]))) fun (r:AV×Blocks)=>onNilB (Zg r) (Xm (Yp r) fun b_1=>some (Vw [Zq [(107:UInt8),(114:UInt8),(98:UInt8),(116:UInt8),(103:UInt8),(116:UInt8)],Zq b,Zq b_1],[]))):Option (AV×Blocks))) (by kernel_rfl) ?_
  simp only [Zd,decide_eq_true_eq] at hpre
  obtain ⟨h0,h1⟩:=hpre
  simp only [h0,h1,decide_true,↓A0,A0]
  rfl
 ·cases h
theorem w63:Walked Tryz.prog G 63 3 sp63:=by
 refine ⟨Tryz.f63,Tryz.func63,by decide +kernel,rfl,fun xs bl r h=> ?_⟩
 unfold sp63 at h
 split at h
 ·rename_i kd k bd
  obtain ⟨hpre,h2⟩:=chk_inv h;cases h2
  refine Eq.trans (b:=(let t0:List UInt8:=[Yw (Zu (Zy .u8 (Vx (↑(Zx bd):Int) (2 ^ min (Zu 8) (Zk .i64))))),Yw (Zu (Zy .u8 (↑(Zx bd):Int)))];let t1:List UInt8:=[(66:UInt8),Yw (Zu (Zy .u8 kd))];sel (decide (kd<1)) (some (Zb [Zm [],Zz .i64 104],[])) (sel (decide (kd>10)) (some (Zb [Zm [],Zz .i64 104],[])) (Zj (chk (decide (0≤k)&&decide (k<18446744073709551616)) (some (Zv (Xx k),[]))) (kL fun b=>sel (!b) (some (Zb [Zm [],Zz .i64 10],[])) (sel (decide ((↑(Zx bd):Int)>1000)) (some (Zb [Zm [],Zz .i64 105],[])) (Zj (chk (decide (0≤k)&&decide (k<18446744073709551616)) (some (Zm (Kerb.keyBytes k),[]))) (kB fun b=>chk (room (Zx t1+Zx b) 1) (chk (room (Zx (t1++b)+Zx t0) 1) (chk (room (Zx (t1++b++t0)+Zx bd) 1) (some (Zb [Zm (t1++b++t0++bd),Zz .i64 0],[])))))))))):Option (AV×Blocks))) (by kernel_rfl) ?_
  delta kB kL
  try dsimp only [cStr,cBs,cBool,cU8,cInt,cSl,l63]
  simp only [A0,Kerb.Client.av,Kerb.Cache.av,Kerb.Cred.av,hpre]
  unfold Kerb.makeBox
  by_cases k1:1≤kd
  case neg =>
   rw [sel_pos (by simp;omega),if_pos (by simp [Xw];omega)]
  by_cases k2:kd≤10
  case neg =>
   rw [sel_neg (by simp;omega),sel_pos (by simp;omega),if_pos (by simp [Xw];omega)]
  rw [sel_neg (by simp;omega),sel_neg (by simp;omega),if_neg (by simp [Xw];omega)]
  cases h2:Xx k
  ·rfl
  rw [Yk,sel_false,if_neg (by simp)]
  by_cases h3:1000<bd.length
  ·rw [sel_pos (by simp;omega),if_pos h3]
  have lk:=Kerb.keyBytes_len k
  rw [sel_neg (by simp;omega),if_neg h3,chk_of (Yv (by simp;omega)),chk_of (Yv (by simp;omega)),chk_of (Yv (by simp;omega)),Kerb.two_bytes,Kerb.wrap_u8,Int.emod_eq_of_lt (by omega) (by omega)]
 ·cases h
theorem w72:Walked Tryz.prog G 72 3 sp72:=by
 refine ⟨Tryz.f72,Tryz.func72,by decide +kernel,rfl,fun xs bl r h=> ?_⟩
 unfold sp72 at h
 split at h
 ·rename_i B at_ li bad
  obtain ⟨hpre,h2⟩:=chk_inv h;cases h2
  show runFnH (G.env 72 3) G.rts (G.own 72) Tryz.f72 _ _ [0]=_
  refine Eq.trans (b:=(Zj (chk (decide (Zx B≤140737488355328)) (some (Zq (Wq (Xu B at_)),[[Zm B,Zz .i64 (bif bad || !Xd (Xu B at_)==0 then at_ else Wx (Xu B at_)),Zv li,Zv (bad || !Xd (Xu B at_)==0)]]))) fun (r:AV×Blocks)=>onConsB (Zg r) fun (x:List AV) (r_1:List (List AV))=>cBs x fun b r_2=>cInt .i64 r_2 fun n r_3=>cBool r_3 fun b_1 r_4=>cBool r_4 fun b_2 r_5=>onNil r_5 (onNilB r_1 (Xm (Yp r) fun b_3=>Zj (chk (decide (Zx b≤140737488355328)) (some (Zq (Wq (Xu b n)),[[Zm b,Zz .i64 (bif b_2 || !Xd (Xu b n)==0 then n else Wx (Xu b n)),Zv b_1,Zv (b_2 || !Xd (Xu b n)==0)]]))) fun (r:AV×Blocks)=>onConsB (Zg r) fun (x:List AV) (r_6:List (List AV))=>cBs x fun b r_7=>cInt .i64 r_7 fun n r_8=>cBool r_8 fun b_4 r_9=>cBool r_9 fun b_5 r_10=>onNil r_10 (onNilB r_6 (Xm (Yp r) fun b_6=>Zj (chk (decide (Zx b≤140737488355328)) (some (Zq (Wq (Xu b n)),[[Zm b,Zz .i64 (bif b_5 || !Xd (Xu b n)==0 then n else Wx (Xu b n)),Zv b_4,Zv (b_5 || !Xd (Xu b n)==0)]]))) fun (r:AV×Blocks)=>onConsB (Zg r) fun (x:List AV) (r_11:List (List AV))=>cBs x fun b r_12=>cInt .i64 r_12 fun n r_13=>cBool r_13 fun b_7 r_14=>cBool r_14 fun b_8 r_15=>onNil r_15 (onNilB r_11 (Xm (Yp r) fun b_9=>some (Vw [Zq b_3,Zq b_6,Zq b_9],[[Zm b,Zz .i64 n,Zv b_7,Zv b_8]]))))))):Option (AV×Blocks))) (by kernel_rfl) ?_
  try dsimp only [cStr,cBs,cBool,cU8,cInt,cSl,l63]
  simp only [A0]
  rw [chk_of hpre,chk_of hpre,chk_of hpre]
  rfl
 ·cases h
theorem w79:Walked Tryz.prog G 79 3 sp79:=by
 refine ⟨Tryz.f79,Tryz.func79,by decide +kernel,rfl,fun xs bl r h=> ?_⟩
 unfold sp79 at h
 split at h
 ·rename_i op cd bx
  cases h
  refine Eq.trans (b:=(let t2:List UInt8:=Vv 9 false++Xk (Zy .i64 (op+128)) 1 false;let t1:Nat:=Zx t2;let t0:Option (AV×Blocks):=Zj (chk (decide (t1≤70368744177664)) (some (Zn (t2++Xk cd 1 false),[]))) (kO fun l=>Zj (chk (decide (Zx l≤70368744177664)) (some (Zn (l++Xk (↑(Zx bx):Int) 2 false),[]))) (kO fun l=>chk (room (Zx l+Zx bx) 1) (some (Zb [Zm (l++bx),Zz .i64 0],[]))));sel (decide (op<1)) (some (Zb [Zm [],Zz .i64 40],[])) (sel (decide (op>3)) (some (Zb [Zm [],Zz .i64 40],[])) (sel (decide (cd<0)) (some (Zb [Zm [],Zz .i64 104],[])) (sel (decide (cd>99)) (some (Zb [Zm [],Zz .i64 104],[])) (sel (decide ((↑(Zx bx):Int)>1012)) (some (Zb [Zm [],Zz .i64 105],[])) (sel (!cd==0) (sel (decide ((↑(Zx bx):Int)>0)) (some (Zb [Zm [],Zz .i64 108],[])) t0) t0))))):Option (AV×Blocks))) (by kernel_rfl) ?_
  delta kO
  try dsimp only [cStr,cBs,cBool,cU8,cInt,cSl,l63]
  simp only [A0]
  have hl9:(Vv 9 false).length=2:=rfl
  unfold Kerb.encodeKaReply
  simp only
  by_cases h0:1≤op∧op≤3
  case neg =>
   have e:Kerb.kaOp op=false:=by simp [Kerb.kaOp];omega
   rw [e]
   by_cases h1:op<1
   ·rw [sel_pos (by simpa using h1)];rfl
   ·rw [sel_neg (by simpa using h1),sel_pos (by simp;omega)];rfl
  have e:Kerb.kaOp op=true:=by simp [Kerb.kaOp];omega
  rw [e,sel_neg (by simp;omega),sel_neg (by simp;omega),if_neg (by simp)]
  by_cases h1:0≤cd∧cd≤99
  case neg =>
   have e:Zf cd 99=false:=by simp [Zf];omega
   rw [e]
   by_cases h2:cd<0
   ·rw [sel_pos (by simpa using h2)];rfl
   ·rw [sel_neg (by simpa using h2),sel_pos (by simp;omega)];rfl
  have e:Zf cd 99=true:=by simp [Zf];omega
  rw [e,sel_neg (by simp;omega),sel_neg (by simp;omega),if_neg (by simp)]
  by_cases h2:1012<bx.length
  ·rw [sel_pos (by simp;omega),if_pos h2]
  rw [sel_neg (by simp;omega),if_neg h2,wrap_i64 (by omega) (by omega)]
  by_cases h3:cd=0
  ·rw [sel_neg (by simp [h3]),if_neg (by simp [h3]),chk_of (by simp [Yu,hl9]),chk_of (by simp [Yu,hl9]),chk_of (Yv (by simp [Yu,hl9];omega))]
   rfl
  rw [sel_pos (by simpa using h3)]
  by_cases h4:bx=[]
  ·rw [sel_neg (by simp [h4]),if_neg (by simp [h4]),chk_of (by simp [Yu,hl9]),chk_of (by simp [Yu,hl9]),chk_of (Yv (by simp [Yu,hl9];omega))]
   rfl
  ·rw [sel_pos (by have:=List.length_pos_iff.2 h4;simp;omega),if_pos ⟨h3,h4⟩]
 ·cases h
theorem w82:Walked Tryz.prog G 82 3 sp82:=by
 refine ⟨Tryz.f82,Tryz.func82,by decide +kernel,rfl,fun xs bl r h=> ?_⟩
 unfold sp82 at h
 split at h
 ·rename_i b
  obtain ⟨hpre,h2⟩:=chk_inv h;cases h2
  refine Eq.trans (b:=(sel (!(↑(Zx b):Int)==8) (some (Zb [Zz .u64 0,Zv false],[])) (Zj (loopM (fun (st:List AV)=>cBs st fun b r=>cInt .u64 r fun n r=>cInt .i64 r fun n_1 r=>onNil r (sel (decide (n_1<8)) (chk (decide (0≤n_1)&&decide (n_1<(↑(Zx b):Int))) (some (Yn [Zm b,Zz .u64 (Zy .u64 (↑(BitVec.toNat (BitVec.ofInt (Zk .u64) (Zy .u64 (n*2 ^ min (Zu 8) (Zk .u64))) ||| BitVec.ofInt (Zk .u64) (Zy .u64 (↑(Yj (Yy b (Zu n_1) (0:UInt8))):Int)))):Int)),Zz .i64 (Zy .i64 (n_1+1))]))) (some (Yg (Yf 0,[Zm b,Zz .u64 n,Zz .i64 n_1]))))) [Zm b,Zz .u64 0,Zz .i64 0]) fun (r:Ex×List AV)=>cBs (Zg r) fun b r_1=>cInt .u64 r_1 fun n r_2=>cInt .i64 r_2 fun n_1 r_3=>onNil r_3 (exK r.1 none fun (j:Nat)=>sel (Xg j 0) (Zj (chk (decide (0≤n)&&decide (n<18446744073709551616)) (some (Zv (Xx n),[]))) (kL fun b=>sel (!b) (some (Zb [Zz .u64 0,Zv false],[])) (some (Zb [Zz .u64 n,Zv true],[])))) none)):Option (AV×Blocks))) (by kernel_rfl) ?_
  delta kL
  try dsimp only [cStr,cBs,cBool,cU8,cInt,cSl,l63]
  have hb:=of_decide_eq_true hpre
  unfold Kerb.keyRead
  by_cases h8:b.length=8
  case neg =>
   rw [sel_pos (by simp;omega),if_neg (by omega)]
  rw [sel_neg (by simp [h8])]
  refine loop_rounds (fun i:Nat=>[Zm b,Zz Yb (Kerb.valB (b.take i)),Zz Zw (i:Int)]) (fun i=>i≤8) (fun i=>8-i)
   (fun r=>r=(Yf 0,[Zm b,Zz Yb (Kerb.valB b),Zz Zw 8])) 0 (by omega) rfl ?_ ?_
  ·intro i hi
   simp only [A0]
   by_cases hlt:i<8
   ·have hv:=Kerb.valB_take (l:=b) (i:=i) (by omega)
    have hbd:=Kerb.valB_bd7 (l:=b.take i) (by simp;omega)
    rw [sel_pos (by simp;omega),chk_of (by simp;omega),Zh,Kerb.shl8_oru _ hbd.1 hbd.2,wrap_i64 (by omega) (by omega),← hv]
    exact ⟨_,rfl,i+1,rfl,by omega,by dsimp only;omega⟩
   ·rw [sel_neg (by simp;omega)]
    refine ⟨_,rfl,?_⟩
    show _=_
    rw [Yz (by omega),show i=8 from by omega]
    rfl
  rintro r rfl
  have hbd:=Kerb.valB_bd8 (l:=b) (by omega)
  simp only [A0]
  rw [sel_pos (Ym _),chk_of (by simp;omega)]
  cases hv:Xx (Kerb.valB b)
  ·rw [if_neg (by simp)]
   rfl
  ·rw [if_pos ⟨h8,rfl⟩]
   rfl
 ·cases h
theorem w88:Walked Tryz.prog G 88 3 sp88:=by
 refine ⟨Tryz.f88,Tryz.func88,by decide +kernel,rfl,fun xs bl r h=> ?_⟩
 unfold sp88 at h
 split at h
 ·rename_i a b c
  obtain ⟨hpre,h2⟩:=chk_inv h;cases h2
  refine Eq.trans (b:=(Zj (chk (decide (Zx a≤9223372036854775807)) (some (Zv (Kerb.validName a),[]))) fun (r:AV×Blocks)=>onNilB (Zg r) (Wp (Yp r) fun b_1=>sel b_1 (Zj (chk (decide (Zx b≤9223372036854775807)) (some (Zv (Kerb.validInst b),[]))) fun (r:AV×Blocks)=>onNilB (Zg r) (Wp (Yp r) fun b=>sel b (Zj (chk (decide (Zx c≤9223372036854775807)) (some (Zv (Kerb.validRealm c),[]))) fun (r:AV×Blocks)=>onNilB (Zg r) (Wp (Yp r) fun b=>some (Zv b,[]))) (some (Zv false,[])))) (some (Zv false,[]))):Option (AV×Blocks))) (by kernel_rfl) ?_
  simp only [Zd,decide_eq_true_eq] at hpre
  simp only [A0]
  rw [chk_of (by simp;omega),chk_of (by simp;omega),chk_of (by simp;omega)]
  simp only [Kerb.Prin.valid]
  cases Kerb.validName a<;>cases Kerb.validInst b<;>rfl
 ·cases h
end Go.Proofs.YtaikjfcgemjghaaGreat
