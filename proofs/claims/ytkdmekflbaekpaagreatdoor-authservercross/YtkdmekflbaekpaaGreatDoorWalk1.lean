/- What the functions of this seat compute. -/
import Derived.Test.YtkdmekflbaekpaaGreatDoorTab
import Derived.Test.YtkdmekflbaekpaaGreatDoorKerbPlain
import Derived.Test.YtkdmekflbaekpaaGreatDoorAbsStep
import Derived.Test.YtkdmekflbaekpaaGreatDoorKerbCli3
import Derived.Test.YtkdmekflbaekpaaGreatDoorKerbCli4
import Derived.Test.YtkdmekflbaekpaaGreatDoorKerbCli5
import Derived.Test.YtkdmekflbaekpaaGreatDoorKerbSrvL
import Derived.Test.YtkdmekflbaekpaaGreatDoorKerbKac2
import Derived.Test.YtkdmekflbaekpaaGreatDoorKerbKac4
import Derived.Test.YtkdmekflbaekpaaGreatDoorKerbSrvB
import Derived.Test.YtkdmekflbaekpaaGreatDoorKerbVerL
import Derived.Test.YtkdmekflbaekpaaGreatDoorKerbVerL
import Derived.Test.YtkdmekflbaekpaaGreatDoorKerbAuthL
open Go.Abs.AV renaming int→Zz,bool→Zv,str→Zq,tup→Zf,bs→Yz,onInt→Yy,sl→Yw,ownB→Yu,undef→Xk,onStr→Xp,onOwnB→Xh,onBool→Wv,onTup→Vx,onAgg→Vw
open Go.IntKind renaming wrap→Zy,i64→Zw,bits→Zk,u64→Yh
open List renaming length→Zx,getD→Zn,take_of_length_le→Zh,append→Wy,replicate→Wu,take→Wq,drop→Wk,drop_eq_nil_of_le→Wp,length_map→Wh
open Int renaming toNat→Zu,toNat_natCast→Zm,tmod→Yv,tmod_eq_emod_of_nonneg→Yd,tdiv_eq_ediv_of_nonneg→Yf,tdiv→Xm
open Option renaming bind→Zj
open Prod renaming snd→Zp,fst→Yx
open Bool renaming and_eq_true→Zd
open Kerb renaming indexOf→Zg,readHead→Yp,crossAt→Yg,text→Xy,room→Xx,within→Xv,keyValid→Xu,printable→Xq,least→Xj,room_ok→Xf,noCross→Xg,bfd→Xb,imin→Wz,isKind→Wx,get→Ww,putText→Wd,nextPos→Wf,next→Wb,bytes→Wn,isSerial→Wm,isClass→Vz,realm→Vy
open Kerb.Cross renaming av→Zb
open Kerb.Entry renaming named→Yq
open Go.Abs.Ex renaming exit→Yj
open UInt8 renaming toNat→Yk,ofNat→Xz
open Nat renaming beq_refl→Yb,zero_le→Xw,beq→Xn
open Sum renaming inl→Yn,inr→Ym
open Kerb.GotB renaming err→Xd,next→Wj,val→Wg
namespace Go.Proofs.YtkdmekflbaekpaaGreatDoor
open Go Go.Abs Go.Proofs
set_option linter.unusedVariables false
set_option linter.unusedSimpArgs false
set_option maxRecDepth 100000
theorem w11:Walked Tryz.prog G 11 1 sp11:=by
 refine ⟨Tryz.f11,Tryz.func11,by decide +kernel,rfl,fun xs bl r h=> ?_⟩
 unfold sp11 at h
 split at h
 ·rename_i n
  obtain ⟨hpre,h2⟩:=chk_inv h;cases h2
  refine Eq.trans (b:=(some (Zz .u64 (Zy .u64 (↑(BitVec.toNat (BitVec.ofInt (Zk .u64) 144115188075855872 ||| BitVec.ofInt (Zk .u64) (Zy .u64 (Zy .i64 (1+n))))):Int)),[]):Option (AV×Blocks))) (by kernel_rfl) ?_
  rfl
 ·cases h
theorem w12:Walked Tryz.prog G 12 1 sp12:=by
 refine ⟨Tryz.f12,Tryz.func12,by decide +kernel,rfl,fun xs bl r h=> ?_⟩
 unfold sp12 at h
 split at h
 ·rename_i xls a b
  obtain ⟨hpre,h2⟩:=chk_inv h;cases h2
  refine Eq.trans (b:=(Zj (loopM (fun (st:List AV)=>cSl 4 st fun b r=>cStr r fun b_1 r=>cStr r fun b_2 r=>cInt .i64 r fun n r=>cInt .i64 r fun n_1 r=>let t0:Option (List AV ⊕ Ex×List AV):=some (Yn [Yw 4 b,Zq b_1,Zq b_2,Zz .i64 n,Zz .i64 (Zy .i64 (n_1+1))]);let t1:Bool:=decide (0≤n_1)&&decide (n_1<(↑(Zx b):Int))&&true;let t2:Option (List AV ⊕ Ex×List AV):=some (Yn [Yw 4 b,Zq b_1,Zq b_2,Zz .i64 n_1,Zz .i64 (Zy .i64 (n_1+1))]);onNil r (sel (decide (n_1<(↑(Zx b):Int))) (chk t1 (Vw (Zn b (Zu n_1) Xk) fun cs=>cStr cs fun b_3 r=>cStr r fun b_4 r=>cInt .i64 r fun n_2 r=>cInt .u64 r fun n_3 r=>onNil r (sel (b_3==b_1) (chk t1 (Vw (Zn b (Zu n_1) Xk) fun cs=>cStr cs fun b_5 r=>cStr r fun b_6 r=>cInt .i64 r fun n_4 r=>cInt .u64 r fun n_5 r=>onNil r (sel (b_6==b_2) (sel (decide (n<0)) t2 (chk t1 (Vw (Zn b (Zu n_1) Xk) fun cs=>cStr cs fun b_7 r=>cStr r fun b_8 r=>cInt .i64 r fun n_6 r=>cInt .u64 r fun n_7 r=>onNil r (chk (decide (0≤n)&&decide (n<(↑(Zx b):Int))&&true) (Vw (Zn b (Zu n) Xk) fun cs=>cStr cs fun b r=>cStr r fun b r=>cInt .i64 r fun n r=>cInt .u64 r fun n_8 r=>onNil r (sel (decide (n_6>n)) t2 t0)))))) t0))) t0))) (some (Ym (Yj 0,[Yw 4 b,Zq b_1,Zq b_2,Zz .i64 n,Zz .i64 n_1]))))) [Yw 4 xls,Zq a,Zq b,Zz .i64 (-1:Int),Zz .i64 0]) fun (r:Ex×List AV)=>cSl 4 (Zp r) fun b r_1=>cStr r_1 fun b r_2=>cStr r_2 fun b r_3=>cInt .i64 r_3 fun n r_4=>cInt .i64 r_4 fun n_1 r_5=>onNil r_5 (exK r.1 none fun (j:Nat)=>sel (Xn j 0) (sel (decide (n<0)) (some (Zf [Zz .i64 0,Zv false],[])) (some (Zf [Zz .i64 n,Zv true],[]))) none):Option (AV×Blocks))) (by kernel_rfl) ?_
  try dsimp only [cStr,cBs,cBool,cU8,cInt,cSl,l63]
  simp only [Zd,decide_eq_true_eq] at hpre
  obtain ⟨hall,hlen⟩:=hpre
  obtain ⟨cs,rfl⟩:=Kerb.cross_of hall
  rw [Kerb.map_toCross,Kerb.find_crossR]
  simp only [Wh] at hlen ⊢
  refine loop_rounds (fun q:Nat×Int=>[Yw 4 (cs.map Zb),Zq a,Zq b,Zz Zw q.2,Zz Zw (q.1:Int)])
   (fun q=>q.1≤cs.length∧q.2=Kerb.crossI (Yg cs a b q.1)) (fun q=>cs.length-q.1)
   (fun r=>r=(Yj 0,[Yw 4 (cs.map Zb),Zq a,Zq b,Zz Zw (Kerb.crossI (Yg cs a b cs.length)),Zz Zw (cs.length:Int)])) (0,-1) ⟨Xw _,rfl⟩ rfl ?_ ?_
  ·rintro ⟨j,c⟩ ⟨hj,hinv⟩
   simp only at hj hinv
   simp only [↓A0,A0,Wh]
   rcases Nat.lt_or_ge j cs.length with h | h
   ·obtain ⟨x,hx⟩:∃ x,cs.getD j Xg=x:=⟨_,rfl⟩
    have hs:=Kerb.cross_step cs a b j hx
    have hk1:(decide ((0:Int)≤(j:Int))&&decide ((j:Int)<(cs.length:Int))&&true)=true:=by simp;omega
    have hg:(List.map Zb cs).getD j Xk=x.av:=by rw [Kerb.getD_cross h,hx]
    rw [sel_pos (by simp;omega)]
    simp only [hk1,Zm,hg,Zb,↓A0,A0]
    rw [wrap_i64 (by omega) (by omega)]
    have keep:Yg cs a b (j+1)=Yg cs a b j→Round (fun q:Nat×Int=>[Yw 4 (cs.map Zb),Zq a,Zq b,Zz Zw q.2,Zz Zw (q.1:Int)]) (fun q=>q.1≤cs.length∧q.2=Kerb.crossI (Yg cs a b q.1)) (fun q=>cs.length-q.1) (fun r=>r=(Yj 0,[Yw 4 (cs.map Zb),Zq a,Zq b,Zz Zw (Kerb.crossI (Yg cs a b cs.length)),Zz Zw (cs.length:Int)])) (j,c) (Yn [Yw 4 (cs.map Zb),Zq a,Zq b,Zz Zw c,Zz Zw ((j:Int)+1)]):=fun e =>
     ⟨(j+1,c),rfl,⟨by simp only;omega,by simp only;rw [e];exact hinv⟩,by simp only;omega⟩
    by_cases h1:x.source=a
    case neg =>
     rw [sel_neg (by simpa using h1)]
     rw [show (x.source==a)=false from by simpa using h1,Bool.false_and,cond_false] at hs
     exact ⟨_,rfl,keep hs⟩
    rw [sel_pos (by simp [h1])]
    rw [show (x.source==a)=true from by simpa using h1,Bool.true_and] at hs
    by_cases h2:x.target=b
    case neg =>
     rw [sel_neg (by simpa using h2)]
     rw [show (x.target==b)=false from by simpa using h2,Bool.false_and,cond_false] at hs
     exact ⟨_,rfl,keep hs⟩
    rw [sel_pos (by simp [h2])]
    rw [show (x.target==b)=true from by simpa using h2,Bool.true_and] at hs
    cases hc:Yg cs a b j with
    | none =>
     rw [hc] at hs hinv
     subst hinv
     rw [sel_pos (by simp [Kerb.crossI])]
     exact ⟨_,rfl,(j+1,(j:Int)),rfl,⟨by simp only;omega,by simp only;rw [hs];rfl⟩,by simp only;omega⟩
    | some k =>
     rw [hc] at hs hinv
     have hk:=Kerb.crossAt_lt hc
     have hck:c=(k:Int):=hinv
     rw [sel_neg (by simp;omega),chk_of (by simp;omega)]
     rw [hck,Zm,Kerb.getD_cross (by omega),← hck]
     simp only [Zb,↓A0,A0]
     dsimp only at hs
     by_cases h3:(cs.getD k Xg).kvno<x.kvno
     ·rw [sel_pos (by simpa using h3)]
      rw [show decide ((cs.getD k Xg).kvno<x.kvno)=true from by simpa using h3,cond_true] at hs
      exact ⟨_,rfl,(j+1,(j:Int)),rfl,⟨by simp only;omega,by simp only;rw [hs];rfl⟩,by simp only;omega⟩
     ·rw [sel_neg (by simpa using h3)]
      rw [show decide ((cs.getD k Xg).kvno<x.kvno)=false from by simpa using h3,cond_false] at hs
      exact ⟨_,rfl,keep (hs.trans hc.symm)⟩
   ·rw [sel_neg (by simp;omega)]
    have hj2:j=cs.length:=by omega
    subst hj2
    rw [hinv]
    exact ⟨_,rfl,rfl⟩
  ·rintro _ rfl
   simp only [↓A0,A0]
   rw [sel_pos (Yb _)]
   cases Yg cs a b cs.length with
   | none=>rfl
   | some k=>exact sel_neg (decide_eq_false (Int.not_lt.2 (Int.natCast_nonneg k))) _ _
 ·cases h
theorem w16:Walked Tryz.prog G 16 1 sp16:=by
 refine ⟨Tryz.f16,Tryz.func16,by decide +kernel,rfl,fun xs bl r h=> ?_⟩
 unfold sp16 at h
 split at h
 ·rename_i n
  obtain ⟨hpre,h2⟩:=chk_inv h;cases h2
  refine Eq.trans (b:=(some (Zz .u64 (Zy .u64 (↑(BitVec.toNat (BitVec.ofInt (Zk .u64) 72057594037927936 ||| BitVec.ofInt (Zk .u64) (Zy .u64 (Zy .i64 (1+n))))):Int)),[]):Option (AV×Blocks))) (by kernel_rfl) ?_
  rfl
 ·cases h
theorem w22:Walked Tryz.prog G 22 1 sp22:=by
 refine ⟨Tryz.f22,Tryz.func22,by decide +kernel,rfl,fun xs bl r h=> ?_⟩
 unfold sp22 at h
 split at h
 ·rename_i n m
  cases h
  refine Eq.trans (b:=(sel (decide (n≥0)) (some (Zv (decide (n≤m)),[])) (some (Zv false,[])):Option (AV×Blocks))) (by kernel_rfl) ?_
  by_cases h:0≤n<;>simp [sel,Xv,h]
 ·cases h
theorem w24:Walked Tryz.prog G 24 1 sp24:=by
 refine ⟨Tryz.f24,Tryz.func24,by decide +kernel,rfl,fun xs bl r h=> ?_⟩
 unfold sp24 at h
 split at h
 ·rename_i k little
  cases h
  refine Eq.trans (b:=(sel (decide (k<1)) (some (Yz [],[])) (sel (decide (k>10)) (some (Yz [],[])) (sel little (some (Yz [(4:UInt8),Xz (Zu (Zy .u8 (Zy .i64 (Zy .i64 (2*k)+1))))],[])) (some (Yz [(4:UInt8),Xz (Zu (Zy .u8 (Zy .i64 (2*k))))],[])))):Option (AV×Blocks))) (by kernel_rfl) ?_
  by_cases h:1≤k∧k≤10
  ·have hk:k=1∨k=2∨k=3∨k=4∨k=5∨k=6∨k=7∨k=8∨k=9∨k=10:=by omega
   rcases hk with rfl | rfl | rfl | rfl | rfl | rfl | rfl | rfl | rfl | rfl<;>cases little<;>rfl
  ·have hk:Wx k=false:=by simp [Wx];omega
   by_cases h1:k<1
   ·simp [sel,Kerb.header,hk,h1]
   ·have h2:10<k:=by omega
    simp [sel,Kerb.header,hk,h1,h2]
 ·cases h
theorem w27:Walked Tryz.prog G 27 1 sp27:=by
 refine ⟨Tryz.f27,Tryz.func27,by decide +kernel,rfl,fun xs bl r h=> ?_⟩
 unfold sp27 at h
 split at h
 ·rename_i b s
  obtain ⟨hpre,h2⟩:=chk_inv h;cases h2
  refine Eq.trans (b:=(chk (room (Zx b) 1) (chk (room (Zx b+Zx s) 1) (chk (room (Zx (b++s)+Zx [(0:UInt8)]) 1) (some (Yz (b++s++[(0:UInt8)]),[])))):Option (AV×Blocks))) (by kernel_rfl) ?_
  simp only [decide_eq_true_eq] at hpre
  rw [chk_of (Xf (by omega)),chk_of (Xf (by omega)),chk_of (Xf (by simp;omega))]
  simp [Wd]
 ·cases h
theorem w45:Walked Tryz.prog G 45 1 sp45:=by
 refine ⟨Tryz.f45,Tryz.func45,by decide +kernel,rfl,fun xs bl r h=> ?_⟩
 unfold sp45 at h
 split at h
 ·rename_i l pos
  cases h
  show runFnH (G.env 45 1) G.rts (G.own 45) Tryz.f45 _ _ [0]=_
  refine Eq.trans (b:=(some (Zv (decide (pos<(↑(Zx l):Int))),[[Yz l,Zz .i64 pos]]):Option (AV×Blocks))) (by kernel_rfl) ?_
  rfl
 ·cases h
theorem w46:Walked Tryz.prog G 46 1 sp46:=by
 refine ⟨Tryz.f46,Tryz.func46,by decide +kernel,rfl,fun xs bl r h=> ?_⟩
 unfold sp46 at h
 split at h
 ·rename_i n l pos
  obtain ⟨hpre,h2⟩:=chk_inv h;cases h2
  show runFnH (G.env 46 1) G.rts (G.own 46) Tryz.f46 _ _ [0]=_
  refine Eq.trans (b:=(sel (decide (pos≥(↑(Zx l):Int))) (some (Zz .i64 0,[[Yz l,Zz .i64 pos]])) (sel (decide (n≤0)) (some (Zz .i64 0,[[Yz l,Zz .i64 pos]])) (chk (decide (0≤pos)&&decide (pos<(↑(Zx l):Int))) (chk (!n==0) (some (Zz .i64 (Yv (Zy .i64 (↑(Yk (Zn l (Zu pos) (0:UInt8))):Int)) n),[[Yz l,Zz .i64 (Zy .i64 (pos+1))]]))))):Option (AV×Blocks))) (by kernel_rfl) ?_
  simp only [Zd,decide_eq_true_eq] at hpre
  unfold Wb Wf
  by_cases h1:(l.length:Int)≤pos
  ·simp [sel,h1]
   omega
  by_cases h2:n≤0
  ·simp [sel,h1,h2]
   omega
  have h3:¬ n=0:=by omega
  have hb:=(l.getD pos.toNat 0).toNat_lt
  rw [sel_neg (by simp;omega),sel_neg (by simp;omega),chk_of (by simp;omega),chk_of (by simpa using h3),if_neg (by omega),if_neg (by omega),wrap_i64 (by omega) (by omega),wrap_i64 (by omega) (by omega),Yd (by omega),Int.toNat_of_nonneg (by omega)]
 ·cases h
theorem w47:Walked Tryz.prog G 47 1 sp47:=by
 refine ⟨Tryz.f47,Tryz.func47,by decide +kernel,rfl,fun xs bl r h=> ?_⟩
 unfold sp47 at h
 split at h
 ·cases h
  refine Eq.trans (b:=(some (Yw 1 [Zq [(65:UInt8),(84:UInt8),(72:UInt8)],Zq [(66:UInt8),(79:UInt8),(83:UInt8)],Zq [(67:UInt8),(65:UInt8),(77:UInt8)]],[]):Option (AV×Blocks))) (by kernel_rfl) ?_
  rfl
 ·cases h
theorem w49:Walked Tryz.prog G 49 1 sp49:=by
 refine ⟨Tryz.f49,Tryz.func49,by decide +kernel,rfl,fun xs bl r h=> ?_⟩
 unfold sp49 at h
 split at h
 ·rename_i s bad
  obtain ⟨hpre,h2⟩:=chk_inv h;cases h2
  refine Eq.trans (b:=(Zj (loopM (fun (st:List AV)=>cStr st fun b r=>cStr r fun b_1 r=>cBool r fun b_2 r=>cInt .i64 r fun n r=>let t0:Int:=(↑(Yk (Zn b (Zu n) (0:UInt8))):Int);let t1:Option (List AV ⊕ Ex×List AV):=some (Ym (Ex.ret,[Zq b,Zq b_1,Zv false,Zz .i64 n]));onNil r (sel (decide (n<(↑(Zx b):Int))) (chk (decide (0≤n)&&decide (n<(↑(Zx b):Int))) (sel (decide (t0<(↑(Yk (33:UInt8)):Int))) t1 (chk (decide (0≤n)&&decide (n<(↑(Zx b):Int))) (sel (decide (t0>(↑(Yk (126:UInt8)):Int))) t1 (Zj (loopM (fun (st:List AV)=>cStr st fun b r=>cStr r fun b_3 r=>cBool r fun b_4 r=>cInt .i64 r fun n r=>cInt .i64 r fun n_1 r=>onNil r (sel (decide (n_1<(↑(Zx b_3):Int))) (chk (decide (0≤n)&&decide (n<(↑(Zx b):Int))) (chk (decide (0≤n_1)&&decide (n_1<(↑(Zx b_3):Int))) (sel (Zn b (Zu n) (0:UInt8)==Zn b_3 (Zu n_1) (0:UInt8)) (some (Ym (Ex.ret,[Zq b,Zq b_3,Zv false,Zz .i64 n,Zz .i64 n_1]))) (some (Yn [Zq b,Zq b_3,Zv b_4,Zz .i64 n,Zz .i64 (Zy .i64 (n_1+1))]))))) (some (Ym (Yj 2,[Zq b,Zq b_3,Zv b_4,Zz .i64 n,Zz .i64 n_1]))))) [Zq b,Zq b_1,Zv b_2,Zz .i64 n,Zz .i64 0]) fun (r:Ex×List AV)=>cStr (Zp r) fun b r_1=>cStr r_1 fun b_3 r_2=>cBool r_2 fun b_4 r_3=>cInt .i64 r_3 fun n r_4=>cInt .i64 r_4 fun n_1 r_5=>onNil r_5 (exK r.1 (some (Ym (Ex.ret,[Zq b,Zq b_3,Zv b_4,Zz .i64 n]))) fun (j:Nat)=>sel (Xn j 2) (some (Yn [Zq b,Zq b_3,Zv b_4,Zz .i64 (Zy .i64 (n+1))])) none)))))) (some (Ym (Yj 0,[Zq b,Zq b_1,Zv b_2,Zz .i64 n]))))) [Zq s,Zq bad,Zv false,Zz .i64 0]) fun (r:Ex×List AV)=>cStr (Zp r) fun b r_1=>cStr r_1 fun b_1 r_2=>cBool r_2 fun b_2 r_3=>cInt .i64 r_3 fun n r_4=>onNil r_4 (exK r.1 (some (Zv b_2,[])) fun (j:Nat)=>sel (Xn j 0) (some (Zv (decide ((↑(Zx b):Int)≤39)),[])) none):Option (AV×Blocks))) (by kernel_rfl) ?_
  try dsimp only [cStr,cBs,cBool,cU8,cInt,cSl,l63]
  simp only [Zd,decide_eq_true_eq] at hpre
  refine loop_rounds (fun i:Nat=>[Zq s,Zq bad,Zv false,Zz Zw (i:Int)]) (fun i=>i≤s.length∧Xq s bad=Xq (s.drop i) bad) (fun i=>s.length-i)
   (fun r=>∃ i:Nat,r.2=[Zq s,Zq bad,Zv false,Zz Zw (i:Int)]∧((r.1 = .ret∧Xq s bad=false)∨(r.1 = .exit 0∧Xq s bad=true))) 0 ⟨Xw _,rfl⟩ rfl ?_ ?_
  ·rintro i ⟨hi,hp⟩
   simp only [A0]
   by_cases hlt:i<s.length
   ·have hc:(decide ((0:Int)≤(i:Int))&&decide ((i:Int)<(s.length:Int)))=true:=by simp;omega
    have hd:=Kerb.drop_all_cons hlt
    rw [sel_pos (by simp;omega),chk_of hc,Zm]
    have hpr:Xq (s.drop i) bad=(Kerb.okB bad (s.getD i 0)&&Xq (s.drop (i+1)) bad):=by rw [hd];rfl
    generalize hcc:s.getD i 0=c at *
    by_cases h1:c.toNat<33
    ·rw [sel_pos (by simp;omega)]
     exact ⟨_,rfl,i,rfl,.inl ⟨rfl,by rw [hp,hpr];simp [Kerb.okB,h1]⟩⟩
    rw [sel_neg (by simp;omega),chk_of hc]
    by_cases h2:126<c.toNat
    ·rw [sel_pos (by simp;omega)]
     exact ⟨_,rfl,i,rfl,.inl ⟨rfl,by rw [hp,hpr];simp [Kerb.okB,h2]⟩⟩
    rw [sel_neg (by simp;omega)]
    refine loop_ex (fun j:Nat=>[Zq s,Zq bad,Zv false,Zz Zw (i:Int),Zz Zw (j:Int)]) (fun j=>j≤bad.length∧(c∈bad↔c∈bad.drop j)) (fun j=>bad.length-j)
     (fun r=>∃ j:Nat,r.2=[Zq s,Zq bad,Zv false,Zz Zw (i:Int),Zz Zw (j:Int)]∧((r.1 = .ret∧c∈bad)∨(r.1 = .exit 2∧c ∉ bad))) 0 ⟨Xw _,by simp⟩ rfl ?_ ?_
    ·rintro j ⟨hj,hm⟩
     simp only [A0]
     by_cases hjl:j<bad.length
     ·have hdj:=Kerb.drop_all_cons hjl
      rw [sel_pos (by simp;omega),chk_of hc,chk_of (by simp;omega),Zm,Zm,hcc]
      rw [hdj,List.mem_cons] at hm
      by_cases h3:c=bad.getD j 0
      ·rw [sel_pos (by simpa using h3)]
       exact ⟨_,rfl,j,rfl,.inl ⟨rfl,hm.2 (.inl h3)⟩⟩
      ·rw [sel_neg (by simpa using h3),wrap_i64 (by omega) (by omega)]
       exact ⟨_,rfl,j+1,rfl,⟨by omega,hm.trans ⟨fun h=>h.resolve_left h3,.inr⟩⟩,by dsimp only;omega⟩
     ·rw [sel_neg (by simp;omega)]
      refine ⟨_,rfl,j,rfl,.inr ⟨rfl,?_⟩⟩
      rw [hm,Wp (by omega)];simp
    ·rintro ⟨e,l⟩ ⟨j,rfl,⟨rfl,h3⟩ | ⟨rfl,h3⟩⟩
     ·simp only [A0]
      exact ⟨_,rfl,i,rfl,.inl ⟨rfl,by rw [hp,hpr];simp [Kerb.okB,h3]⟩⟩
     ·simp only [A0]
      rw [sel_pos (Yb _),wrap_i64 (by omega) (by omega)]
      exact ⟨_,rfl,i+1,rfl,⟨by omega,by rw [hp,hpr];simp [Kerb.okB,h1,h2,h3]⟩,by dsimp only;omega⟩
   ·rw [sel_neg (by simp;omega)]
    exact ⟨_,rfl,i,rfl,.inr ⟨rfl,by rw [hp,Wp (by omega)];rfl⟩⟩
  ·rintro ⟨e,l⟩ ⟨i,rfl,⟨rfl,hp⟩ | ⟨rfl,hp⟩⟩
   ·simp only [A0,hp]
    rfl
   ·simp only [A0,hp]
    rw [sel_pos (Yb _),decide_eq_decide.2 (show ((s.length:Int)≤39)↔s.length≤39 from by omega)]
    rfl
 ·cases h
theorem w50:Walked Tryz.prog G 50 1 sp50:=by
 refine ⟨Tryz.f50,Tryz.func50,by decide +kernel,rfl,fun xs bl r h=> ?_⟩
 unfold sp50 at h
 split at h
 ·rename_i b n k little
  obtain ⟨hpre,h2⟩:=chk_inv h;cases h2
  refine Eq.trans (b:=(chk (room (Zx b) 1) (Zj (loopM (fun (st:List AV)=>cInt .i64 st fun n r=>cInt .i64 r fun n_1 r=>cBool r fun b r=>onCons r fun x r=>Xh x fun b_1=>cInt .i64 r fun n_2 r=>let t1:Int:=Zy .u64 (Zy .i64 (8*Zy .i64 (Zy .i64 (n_1-1)-n_2)));let t2:List UInt8:=[Xz (Zu (Zy .u8 (Int.fdiv (Zy .u64 n) (2 ^ min (Zu (Zy .u64 (Zy .i64 (8*n_2)))) (Zk .u64)))))];let t0:List UInt8:=[Xz (Zu (Zy .u8 (Int.fdiv (Zy .u64 n) (2 ^ min (Zu t1) (Zk .u64)))))];onNil r (sel (decide (n_2<n_1)) (sel b (chk (decide (0≤Zy .u64 (Zy .i64 (8*n_2)))) (chk (room (Zx b_1+Zx t2) 1) (some (Yn [Zz .i64 n,Zz .i64 n_1,Zv b,Yu (b_1++t2),Zz .i64 (Zy .i64 (n_2+1))])))) (chk (decide (0≤t1)) (chk (room (Zx b_1+Zx t0) 1) (some (Yn [Zz .i64 n,Zz .i64 n_1,Zv b,Yu (b_1++t0),Zz .i64 (Zy .i64 (n_2+1))]))))) (some (Ym (Yj 0,[Zz .i64 n,Zz .i64 n_1,Zv b,Yu b_1,Zz .i64 n_2]))))) [Zz .i64 n,Zz .i64 k,Zv little,Yu b,Zz .i64 0]) fun (r:Ex×List AV)=>cInt .i64 (Zp r) fun n r_1=>cInt .i64 r_1 fun n r_2=>cBool r_2 fun b r_3=>onCons r_3 fun x r_4=>Xh x fun b=>cInt .i64 r_4 fun n r_5=>onNil r_5 (exK r.1 none fun (j:Nat)=>sel (Xn j 0) (some (Yu b,[])) none)):Option (AV×Blocks))) (by kernel_rfl) ?_
  try dsimp only [cStr,cBs,cBool,cU8,cInt,cSl,l63]
  simp only [Zd,decide_eq_true_eq] at hpre
  obtain ⟨hk,hb⟩:=hpre
  have hk4:k.toNat≤4∧0≤k:=by omega
  rw [chk_of (Xf (by omega))]
  refine loop_rounds (fun i:Nat=>[Zz Zw n,Zz Zw k,Zv little,Yu (b++(Kerb.putN n k.toNat little).take i),Zz Zw (i:Int)]) (fun i=>i≤k.toNat) (fun i=>k.toNat-i)
   (fun r=>r=(Yj 0,[Zz Zw n,Zz Zw k,Zv little,Yu (b++Kerb.putN n k.toNat little),Zz Zw k])) 0 (Xw _) (by simp) ?_ ?_
  ·intro i hi
   simp only [A0]
   by_cases hlt:i<k.toNat
   ·have hs:=Kerb.take_succ_getD (l:=Kerb.putN n k.toNat little) (i:=i) (by rw [Kerb.putN_len];omega)
    have hg:=Kerb.putN_getD n k.toNat little hlt
    have hl:((Kerb.putN n k.toNat little).take i).length=i:=by simp [Kerb.putN_len];omega
    rw [sel_pos (by simp;omega)]
    have hw:∀ j:Nat,j<4→Zy Yh (Zy Zw (8*(j:Int)))=((8*j:Nat):Int):=fun j hj=>by
     rw [wrap_i64 (by omega) (by omega),Kerb.wrap_u64];omega
    have hm:∀ j:Nat,j<4→min (Zu ((8*j:Nat):Int)) (Zk Yh)=8*j:=fun j hj=>by
     have:Zk Yh=64:=rfl
     rw [this];omega
    cases little
    ·have e:Zy Zw (Zy Zw (k-1)-(i:Int))=((k.toNat-1-i:Nat):Int):=by
      rw [wrap_i64 (n:=k-1) (by omega) (by omega),wrap_i64 (by omega) (by omega)];omega
     rw [sel_neg rfl,e,hw _ (by omega),hm _ (by omega),Kerb.ubyte n (by omega),chk_of (by simp;omega),chk_of (Xf (by simp [hl];omega)),wrap_i64 (by omega) (by omega)]
     refine ⟨_,rfl,i+1,?_,by omega,by dsimp only;omega⟩
     dsimp only
     rw [hs,hg,← List.append_assoc]
     rfl
    ·rw [sel_pos rfl,hw _ (by omega),hm _ (by omega),Kerb.ubyte n (by omega),chk_of (by simp;omega),chk_of (Xf (by simp [hl];omega)),wrap_i64 (by omega) (by omega)]
     refine ⟨_,rfl,i+1,?_,by omega,by dsimp only;omega⟩
     dsimp only
     rw [hs,hg,← List.append_assoc]
     rfl
   ·rw [sel_neg (by simp;omega)]
    refine ⟨_,rfl,?_⟩
    show _=_
    rw [Zh (by rw [Kerb.putN_len];omega),show (i:Int)=k from by omega]
  ·rintro r rfl
   simp only [A0]
   rw [sel_pos (Yb _)]
 ·cases h
theorem w57:Walked Tryz.prog G 57 1 sp57:=by
 refine ⟨Tryz.f57,Tryz.func57,by decide +kernel,rfl,fun xs bl r h=> ?_⟩
 unfold sp57 at h
 split at h
 ·rename_i a b
  cases h
  refine Eq.trans (b:=(some (Zv (a==b),[]):Option (AV×Blocks))) (by kernel_rfl) ?_
  rfl
 ·cases h
theorem w59:Walked Tryz.prog G 59 1 sp59:=by
 refine ⟨Tryz.f59,Tryz.func59,by decide +kernel,rfl,fun xs bl r h=> ?_⟩
 unfold sp59 at h
 split at h
 ·rename_i code
  cases h
  refine Eq.trans (b:=(sel (decide (code<1)) (some (Zq [(114:UInt8),(101:UInt8),(113:UInt8),(117:UInt8),(101:UInt8),(115:UInt8),(116:UInt8),(32:UInt8),(114:UInt8),(101:UInt8),(102:UInt8),(117:UInt8),(115:UInt8),(101:UInt8),(100:UInt8)],[])) (sel (decide (code>10)) (some (Zq [(114:UInt8),(101:UInt8),(113:UInt8),(117:UInt8),(101:UInt8),(115:UInt8),(116:UInt8),(32:UInt8),(114:UInt8),(101:UInt8),(102:UInt8),(117:UInt8),(115:UInt8),(101:UInt8),(100:UInt8)],[])) (chk (decide (0≤Zy .i64 (code-1))&&decide (Zy .i64 (code-1)<(↑(10:Nat):Int))&&true&&true&&true) (Xp (Zn [Zq [(99:UInt8),(108:UInt8),(105:UInt8),(101:UInt8),(110:UInt8),(116:UInt8),(32:UInt8),(101:UInt8),(120:UInt8),(112:UInt8),(105:UInt8),(114:UInt8),(101:UInt8),(100:UInt8)],Zq [(115:UInt8),(101:UInt8),(114:UInt8),(118:UInt8),(105:UInt8),(99:UInt8),(101:UInt8),(32:UInt8),(101:UInt8),(120:UInt8),(112:UInt8),(105:UInt8),(114:UInt8),(101:UInt8),(100:UInt8)],Zq [(110:UInt8),(111:UInt8),(32:UInt8),(108:UInt8),(105:UInt8),(102:UInt8),(101:UInt8),(116:UInt8),(105:UInt8),(109:UInt8),(101:UInt8),(32:UInt8),(108:UInt8),(101:UInt8),(102:UInt8),(116:UInt8)],Zq [(112:UInt8),(114:UInt8),(111:UInt8),(116:UInt8),(111:UInt8),(99:UInt8),(111:UInt8),(108:UInt8),(32:UInt8),(118:UInt8),(101:UInt8),(114:UInt8),(115:UInt8),(105:UInt8),(111:UInt8),(110:UInt8)],Zq [(110:UInt8),(111:UInt8),(116:UInt8),(32:UInt8),(97:UInt8),(32:UInt8),(99:UInt8),(108:UInt8),(105:UInt8),(101:UInt8),(110:UInt8),(116:UInt8)],Zq [(110:UInt8),(111:UInt8),(116:UInt8),(32:UInt8),(97:UInt8),(32:UInt8),(115:UInt8),(101:UInt8),(114:UInt8),(118:UInt8),(105:UInt8),(99:UInt8),(101:UInt8)],Zq [(98:UInt8),(121:UInt8),(116:UInt8),(101:UInt8),(32:UInt8),(111:UInt8),(114:UInt8),(100:UInt8),(101:UInt8),(114:UInt8)],Zq [(112:UInt8),(114:UInt8),(105:UInt8),(110:UInt8),(99:UInt8),(105:UInt8),(112:UInt8),(97:UInt8),(108:UInt8),(32:UInt8),(117:UInt8),(110:UInt8),(107:UInt8),(110:UInt8),(111:UInt8),(119:UInt8),(110:UInt8)],Zq [(112:UInt8),(114:UInt8),(105:UInt8),(110:UInt8),(99:UInt8),(105:UInt8),(112:UInt8),(97:UInt8),(108:UInt8),(32:UInt8),(110:UInt8),(111:UInt8),(116:UInt8),(32:UInt8),(117:UInt8),(110:UInt8),(105:UInt8),(113:UInt8),(117:UInt8),(101:UInt8)],Zq [(110:UInt8),(111:UInt8),(32:UInt8),(107:UInt8),(101:UInt8),(121:UInt8)]] (Zu (Zy .i64 (code-1))) Xk) fun b=>some (Zq b,[])))):Option (AV×Blocks))) (by kernel_rfl) ?_
  unfold Kerb.message
  by_cases h:code<1
  ·rw [sel_pos (by simpa using h),if_pos (.inl h)]
   rfl
  by_cases h2:10<code
  ·rw [sel_neg (by simpa using h),sel_pos (by simp;omega),if_pos (.inr h2)]
   rfl
  have hc:code=1∨code=2∨code=3∨code=4∨code=5∨code=6∨code=7∨code=8∨code=9∨code=10:=by omega
  rcases hc with rfl | rfl | rfl | rfl | rfl | rfl | rfl | rfl | rfl | rfl<;>rfl
 ·cases h
theorem w62:Walked Tryz.prog G 62 1 sp62:=by
 refine ⟨Tryz.f62,Tryz.func62,by decide +kernel,rfl,fun xs bl r h=> ?_⟩
 unfold sp62 at h
 split at h
 ·rename_i x y z
  cases h
  refine Eq.trans (b:=(some (Zv (x==[(107:UInt8),(114:UInt8),(98:UInt8),(116:UInt8),(103:UInt8),(116:UInt8)]),[]):Option (AV×Blocks))) (by kernel_rfl) ?_
  rfl
 ·cases h
theorem w64:Walked Tryz.prog G 64 1 sp64:=by
 refine ⟨Tryz.f64,Tryz.func64,by decide +kernel,rfl,fun xs bl r h=> ?_⟩
 unfold sp64 at h
 split at h
 ·rename_i xls a b
  obtain ⟨hpre,h2⟩:=chk_inv h;cases h2
  refine Eq.trans (b:=(Zj (loopM (fun (st:List AV)=>cSl 4 st fun b r=>cStr r fun b_1 r=>cStr r fun b_2 r=>cInt .i64 r fun n r=>cBool r fun b_3 r=>cSl 4 r fun b_4 r=>cInt .i64 r fun n_1 r=>cInt .i64 r fun n_2 r=>let t2:List AV:=[Yw 4 b_4,Zz .i64 n_1,Zz .i64 (Zy .i64 (n_2+1))];let t0:Option (List AV ⊕ Ex×List AV):=some (Yn (Yw 4 b::Zq b_1::Zq b_2::Zz .i64 n::Zv b_3::t2));let t1:Option (List AV ⊕ Ex×List AV):=some (Yn (Yw 4 b::Zq b_1::Zq b_2::Zz .i64 n_2::Zv true::t2));onNil r (sel (decide (n_2<n_1)) (chk (decide (0≤n_2)&&decide (n_2<(↑(Zx b_4):Int))&&true) (Vw (Zn b_4 (Zu n_2) Xk) fun cs=>cStr cs fun b_5 r=>cStr r fun b_6 r=>cInt .i64 r fun n_3 r=>cInt .u64 r fun n_4 r=>onNil r (sel (!b_5==b_1) t0 (sel (!b_6==b_2) t0 (sel (!b_3) t1 (chk (decide (0≤n)&&decide (n<(↑(Zx b):Int))&&true) (Vw (Zn b (Zu n) Xk) fun cs=>cStr cs fun b r=>cStr r fun b r=>cInt .i64 r fun n r=>cInt .u64 r fun n_5 r=>onNil r (sel (decide (n_3>n)) t1 t0)))))))) (some (Ym (Yj 0,[Yw 4 b,Zq b_1,Zq b_2,Zz .i64 n,Zv b_3,Yw 4 b_4,Zz .i64 n_1,Zz .i64 n_2]))))) [Yw 4 xls,Zq a,Zq b,Zz .i64 0,Zv false,Yw 4 xls,Zz .i64 (↑(Zx xls):Int),Zz .i64 0]) fun (r:Ex×List AV)=>cSl 4 (Zp r) fun b r_1=>cStr r_1 fun b r_2=>cStr r_2 fun b r_3=>cInt .i64 r_3 fun n r_4=>cBool r_4 fun b r_5=>cSl 4 r_5 fun b_1 r_6=>cInt .i64 r_6 fun n_1 r_7=>cInt .i64 r_7 fun n_2 r_8=>onNil r_8 (exK r.1 none fun (j:Nat)=>sel (Xn j 0) (some (Zf [Zz .i64 n,Zv b],[])) none):Option (AV×Blocks))) (by kernel_rfl) ?_
  try dsimp only [cStr,cBs,cBool,cU8,cInt,cSl,l63]
  simp only [Zd,decide_eq_true_eq] at hpre
  obtain ⟨hall,hlen⟩:=hpre
  obtain ⟨cs,rfl⟩:=Kerb.cross_of hall
  rw [Kerb.map_toCross,Kerb.find_crossR]
  simp only [Wh] at hlen ⊢
  refine loop_rounds (fun q:Nat×Int×Bool=>[Yw 4 (cs.map Zb),Zq a,Zq b,Zz Zw q.2.1,Zv q.2.2,Yw 4 (cs.map Zb),Zz Zw (cs.length:Int),Zz Zw (q.1:Int)])
   (fun q=>q.1≤cs.length∧(q.2.1,q.2.2)=Kerb.crossR (Yg cs a b q.1)) (fun q=>cs.length-q.1)
   (fun r=>∃ (c:Int) (d:Bool),r=(Yj 0,[Yw 4 (cs.map Zb),Zq a,Zq b,Zz Zw c,Zv d,Yw 4 (cs.map Zb),Zz Zw (cs.length:Int),Zz Zw (cs.length:Int)])∧(c,d)=Kerb.crossR (Yg cs a b cs.length)) (0,0,false) ⟨Xw _,rfl⟩ rfl ?_ ?_
  ·rintro ⟨j,c,d⟩ ⟨hj,hinv⟩
   simp only at hj hinv
   simp only [↓A0,A0]
   rcases Nat.lt_or_ge j cs.length with h | h
   ·obtain ⟨x,hx⟩:∃ x,cs.getD j Xg=x:=⟨_,rfl⟩
    have hs:=Kerb.cross_step cs a b j hx
    rw [sel_pos (by simp;omega),chk_of (by simp;omega),Zm,Kerb.getD_cross h,hx]
    simp only [Zb,↓A0,A0]
    rw [wrap_i64 (by omega) (by omega)]
    have keep:Yg cs a b (j+1)=Yg cs a b j→Round (fun q:Nat×Int×Bool=>[Yw 4 (cs.map Zb),Zq a,Zq b,Zz Zw q.2.1,Zv q.2.2,Yw 4 (cs.map Zb),Zz Zw (cs.length:Int),Zz Zw (q.1:Int)]) (fun q=>q.1≤cs.length∧(q.2.1,q.2.2)=Kerb.crossR (Yg cs a b q.1)) (fun q=>cs.length-q.1) (fun r=>∃ (c:Int) (d:Bool),r=(Yj 0,[Yw 4 (cs.map Zb),Zq a,Zq b,Zz Zw c,Zv d,Yw 4 (cs.map Zb),Zz Zw (cs.length:Int),Zz Zw (cs.length:Int)])∧(c,d)=Kerb.crossR (Yg cs a b cs.length)) (j,c,d) (Yn [Yw 4 (cs.map Zb),Zq a,Zq b,Zz Zw c,Zv d,Yw 4 (cs.map Zb),Zz Zw (cs.length:Int),Zz Zw ((j:Int)+1)]):=fun e =>
     ⟨(j+1,c,d),rfl,⟨by simp only;omega,by simp only;rw [e];exact hinv⟩,by simp only;omega⟩
    by_cases h1:x.source=a
    case neg =>
     rw [sel_pos (by simpa using h1)]
     rw [show (x.source==a)=false from by simpa using h1,Bool.false_and,cond_false] at hs
     exact ⟨_,rfl,keep hs⟩
    rw [sel_neg (by simp [h1])]
    rw [show (x.source==a)=true from by simpa using h1,Bool.true_and] at hs
    by_cases h2:x.target=b
    case neg =>
     rw [sel_pos (by simpa using h2)]
     rw [show (x.target==b)=false from by simpa using h2,Bool.false_and,cond_false] at hs
     exact ⟨_,rfl,keep hs⟩
    rw [sel_neg (by simp [h2])]
    rw [show (x.target==b)=true from by simpa using h2,Bool.true_and] at hs
    cases hc:Yg cs a b j with
    | none =>
     rw [hc] at hs hinv
     cases hinv
     exact ⟨_,rfl,(j+1,(j:Int),true),rfl,⟨by simp only;omega,by simp only;rw [hs];rfl⟩,by simp only;omega⟩
    | some k =>
     rw [hc] at hs hinv
     cases hinv
     have hk:=Kerb.crossAt_lt hc
     have hkv:(cs.getD k Xg).kvno<x.kvno↔x.kvno>(cs.getD k Xg).kvno:=Iff.rfl
     rw [sel_neg (by simp),chk_of (by simp;omega),Zm,Kerb.getD_cross (by omega)]
     simp only [Zb,↓A0,A0]
     by_cases h3:(cs.getD k Xg).kvno<x.kvno
     ·rw [sel_pos (by simpa using h3)]
      dsimp only at hs
      rw [show decide ((cs.getD k Xg).kvno<x.kvno)=true from by simpa using h3,cond_true] at hs
      exact ⟨_,rfl,(j+1,(j:Int),true),rfl,⟨by simp only;omega,by simp only;rw [hs];rfl⟩,by simp only;omega⟩
     ·rw [sel_neg (by simpa using h3)]
      dsimp only at hs
      rw [show decide ((cs.getD k Xg).kvno<x.kvno)=false from by simpa using h3,cond_false] at hs
      exact ⟨_,rfl,keep (hs.trans hc.symm)⟩
   ·rw [sel_neg (by simp;omega)]
    have hj2:j=cs.length:=by omega
    subst hj2
    exact ⟨_,rfl,c,d,rfl,hinv⟩
  ·rintro _ ⟨c,d,rfl,h⟩
   rw [← h]
   rfl
 ·cases h
theorem w70:Walked Tryz.prog G 70 1 sp70:=by
 refine ⟨Tryz.f70,Tryz.func70,by decide +kernel,rfl,fun xs bl r h=> ?_⟩
 unfold sp70 at h
 split at h
 ·rename_i r t
  cases h
  refine Eq.trans (b:=(some (AV.agg [Zq [(107:UInt8),(114:UInt8),(98:UInt8),(116:UInt8),(103:UInt8),(116:UInt8)],Zq t,Zq r],[]):Option (AV×Blocks))) (by kernel_rfl) ?_
  rfl
 ·cases h
theorem w79:Walked Tryz.prog G 79 1 sp79:=by
 refine ⟨Tryz.f79,Tryz.func79,by decide +kernel,rfl,fun xs bl r h=> ?_⟩
 unfold sp79 at h
 split at h
 ·rename_i b
  cases h
  refine Eq.trans (b:=(let t0:Int:=Zy .i64 (↑(Yk (Xz (Zu (Zy .u8 (Xm (↑(Yk (Zn b (Zu 1) (0:UInt8))):Int) (↑(Yk (2:UInt8)):Int)))))):Int);let t1:Option (AV×Blocks):=some (Zf [Zz .i64 0,Zv false,Zz .i64 40],[]);sel (decide ((↑(Zx b):Int)<2)) (some (Zf [Zz .i64 0,Zv false,Zz .i64 101],[])) (chk (decide (0<(↑(Zx b):Int))) (sel (!Zn b (Zu 0) (0:UInt8)==(4:UInt8)) (some (Zf [Zz .i64 0,Zv false,Zz .i64 39],[])) (chk (decide (1<(↑(Zx b):Int))) (sel (decide (t0<1)) t1 (sel (decide (t0>10)) t1 (chk (decide (1<(↑(Zx b):Int))) (some (Zf [Zz .i64 t0,Zv (Xz (Zu (Yv (↑(Yk (Zn b (Zu 1) (0:UInt8))):Int) (↑(Yk (2:UInt8)):Int)))==(1:UInt8)),Zz .i64 0],[])))))))):Option (AV×Blocks))) (by kernel_rfl) ?_
  try dsimp only [cStr,cBs,cBool,cU8,cInt,cSl,l63]
  unfold Yp
  by_cases h1:b.length<2
  ·rw [sel_pos (by simp;omega)]
   simp [h1]
  rw [sel_neg (by simp;omega),chk_of (by simp;omega),if_neg h1]
  by_cases h2:b.getD 0 0=4
  ·have hb:=(b.getD 1 0).toNat_lt
   have e:Zy Zw ((Xz (Zu (Zy IntKind.u8 (Xm ((b.getD (Zu 1) 0).toNat:Int) ((2:UInt8).toNat:Int))))).toNat:Int)=(((b.getD 1 0).toNat / 2:Nat):Int):=by
    rw [show Zu 1=1 from rfl,show ((2:UInt8).toNat:Int)=2 from rfl,Yf (by omega),Kerb.wrap_u8]
    have e3:Zu (((b.getD 1 0).toNat:Int) / 2 % 256)=(b.getD 1 0).toNat / 2:=by omega
    rw [e3,UInt8.toNat_ofNat_of_lt' (by show _<256;omega),wrap_i64 (by omega) (by omega)]
   have e2:(Xz (Zu (Yv ((b.getD (Zu 1) 0).toNat:Int) ((2:UInt8).toNat:Int)))==1)=decide ((b.getD 1 0).toNat % 2=1):=by
    rw [show Zu 1=1 from rfl,Yd (by omega)]
    have e3:Zu (((b.getD 1 0).toNat:Int) % ((2:UInt8).toNat:Int))=(b.getD 1 0).toNat % 2:=by
     show Zu (((b.getD 1 0).toNat:Int) % 2)=_
     omega
    rw [e3]
    rcases Nat.mod_two_eq_zero_or_one (b.getD 1 0).toNat with h | h<;>rw [h]<;>rfl
   rw [sel_neg (by simp [h2] at *;exact h2),chk_of (by simp;omega),if_neg (by simpa using h2),e,e2]
   generalize (b.getD 1 0).toNat / 2=m
   unfold Wx
   by_cases h3:1≤m
   case neg =>
    rw [sel_pos (by simp;omega),if_neg (by simp;omega)]
   by_cases h4:m≤10
   case neg =>
    rw [sel_neg (by simp;omega),sel_pos (by simp;omega),if_neg (by simp;omega)]
   rw [sel_neg (by simp;omega),sel_neg (by simp;omega),chk_of (by simp;omega),if_pos (by simp;omega)]
  ·rw [sel_pos (by simpa using h2),if_pos (by simpa using h2)]
 ·cases h
theorem w81:Walked Tryz.prog G 81 1 sp81:=by
 refine ⟨Tryz.f81,Tryz.func81,by decide +kernel,rfl,fun xs bl r h=> ?_⟩
 unfold sp81 at h
 split at h
 ·rename_i nx e B at_ li bad
  cases h
  show runFnH (G.env 81 1) G.rts (G.own 81) Tryz.f81 _ _ [0]=_
  refine Eq.trans (b:=(sel bad (some (Zf [],[[Yz B,Zz .i64 at_,Zv li,Zv true]])) (sel (!e==0) (some (Zf [],[[Yz B,Zz .i64 at_,Zv li,Zv true]])) (some (Zf [],[[Yz B,Zz .i64 nx,Zv li,Zv bad]]))):Option (AV×Blocks))) (by kernel_rfl) ?_
  cases bad
  ·cases (e==0)<;>rfl
  ·rfl
 ·cases h
theorem w82:Walked Tryz.prog G 82 1 sp82:=by
 refine ⟨Tryz.f82,Tryz.func82,by decide +kernel,rfl,fun xs bl r h=> ?_⟩
 unfold sp82 at h
 split at h
 ·rename_i b pos
  obtain ⟨hpre,h2⟩:=chk_inv h;cases h2
  refine Eq.trans (b:=(let t0:Option (AV×Blocks):=some (Zf [Zq [],Zz .i64 0,Zz .i64 104],[]);sel (decide (pos<0)) t0 (sel (decide (pos>(↑(Zx b):Int))) t0 (Zj (loopM (fun (st:List AV)=>cBs st fun b r=>cInt .i64 r fun n r=>cStr r fun b_1 r=>cInt .i64 r fun n_1 r=>cInt .i64 r fun n_2 r=>cInt .i64 r fun n_3 r=>onNil r (sel (decide (n_3≤39)) (sel (decide (Zy .i64 (n+n_3)≥(↑(Zx b):Int))) (some (Ym (Ex.ret,[Yz b,Zz .i64 n,Zq [],Zz .i64 0,Zz .i64 101,Zz .i64 n_3]))) (chk (decide (0≤Zy .i64 (n+n_3))&&decide (Zy .i64 (n+n_3)<(↑(Zx b):Int))) (sel (Zn b (Zu (Zy .i64 (n+n_3))) (0:UInt8)==(0:UInt8)) (chk (decide (0≤n)&&decide (n≤Zy .i64 (n+n_3))&&decide (Zy .i64 (n+n_3)≤(↑(Zx b):Int))) (some (Ym (Ex.ret,[Yz b,Zz .i64 n,Zq (Wk (Zu n) (Wq (Zu (Zy .i64 (n+n_3))) b)),Zz .i64 (Zy .i64 (Zy .i64 (n+n_3)+1)),Zz .i64 0,Zz .i64 n_3])))) (some (Yn [Yz b,Zz .i64 n,Zq b_1,Zz .i64 n_1,Zz .i64 n_2,Zz .i64 (Zy .i64 (n_3+1))]))))) (some (Ym (Yj 0,[Yz b,Zz .i64 n,Zq b_1,Zz .i64 n_1,Zz .i64 n_2,Zz .i64 n_3]))))) [Yz b,Zz .i64 pos,Zq [],Zz .i64 0,Zz .i64 0,Zz .i64 0]) fun (r:Ex×List AV)=>cBs (Zp r) fun b r_1=>cInt .i64 r_1 fun n r_2=>cStr r_2 fun b r_3=>cInt .i64 r_3 fun n r_4=>cInt .i64 r_4 fun n_1 r_5=>cInt .i64 r_5 fun n_2 r_6=>onNil r_6 (exK r.1 (some (Zf [Zq b,Zz .i64 n,Zz .i64 n_1],[])) fun (j:Nat)=>sel (Xn j 0) (some (Zf [Zq [],Zz .i64 0,Zz .i64 105],[])) none))):Option (AV×Blocks))) (by kernel_rfl) ?_
  try dsimp only [cStr,cBs,cBool,cU8,cInt,cSl,l63]
  have hb:=of_decide_eq_true hpre
  unfold Xy
  by_cases h1:pos<0
  ·rw [sel_pos (by simpa using h1),if_neg (by rw [Kerb.room_zero];omega)]
  rw [sel_neg (by simpa using h1)]
  by_cases h2:(b.length:Int)<pos
  ·rw [sel_pos (by simpa using h2),if_neg (by rw [Kerb.room_zero];omega)]
  rw [sel_neg (by simpa using h2),if_pos (Kerb.room_zero.2 (by omega))]
  obtain ⟨R,hR⟩:∃ R,R=b.drop pos.toNat:=⟨_,rfl⟩
  have hRl:R.length=b.length-pos.toNat:=by rw [hR];simp
  rw [← hR]
  obtain ⟨T,hT⟩:∃ T,T=R.take 40:=⟨_,rfl⟩
  rw [← hT]
  have hix:=Kerb.indexOf_nonneg 0 T
  refine loop_rounds (fun i:Nat=>[Yz b,Zz Zw pos,Zq [],Zz Zw 0,Zz Zw 0,Zz Zw (i:Int)]) (fun i=>i≤40∧i≤R.length∧(0:UInt8) ∉ R.take i) (fun i=>40-i)
   (fun r=>∃ (i:Nat) (v:List UInt8) (nx e:Int),r.2=[Yz b,Zz Zw pos,Zq v,Zz Zw nx,Zz Zw e,Zz Zw (i:Int)] ∧
    ((r.1 = .ret∧v=[]∧nx=0∧e=101∧Zg 0 T<0∧T.length≠40)∨(r.1 = .ret∧Zg 0 T=i∧v=T.take i∧nx=pos+i+1∧e=0)∨(r.1 = .exit 0∧Zg 0 T<0∧T.length=40))) 0 ⟨by omega,by omega,by simp⟩ rfl ?_ ?_
  ·rintro i ⟨hi,hir,h0⟩
   simp only [A0]
   by_cases hlt:i≤39
   case neg =>
    have e40:i=40:=by omega
    subst e40
    rw [sel_neg (by decide)]
    refine ⟨_,rfl,40,[],0,0,rfl,.inr (.inr ⟨rfl,?_,?_⟩)⟩
    ·rw [← hT] at h0;have:=mt hix.1 h0;omega
    ·rw [hT];simp;omega
   rw [sel_pos (by simp;omega),wrap_i64 (n:=pos+(i:Int)) (by omega) (by omega)]
   by_cases hend:(b.length:Int)≤pos+i
   ·rw [sel_pos (by simpa using hend)]
    have hTR:T=R.take i:=by rw [hT,Zh (by omega),Zh (by omega)]
    refine ⟨_,rfl,i,[],0,101,rfl,.inl ⟨rfl,rfl,rfl,rfl,?_,?_⟩⟩
    ·rw [← hTR] at h0;have:=mt hix.1 h0;omega
    ·rw [hTR];simp;omega
   have hiR:i<R.length:=by omega
   have hd:=Kerb.drop_all_cons hiR
   have hbi:b.getD (pos+(i:Int)).toNat 0=R.getD i 0:=by
    rw [show (pos+(i:Int)).toNat=pos.toNat+i by omega,hR]
    simp [List.getD_eq_getElem?_getD]
   rw [sel_neg (by simpa using hend),chk_of (by simp;omega),hbi]
   by_cases hz:R.getD i 0=0
   ·rw [sel_pos (by rw [hz];rfl),chk_of (by simp;omega),wrap_i64 (by omega) (by omega)]
    have hTi:T.take i=R.take i:=by rw [hT,List.take_take,Nat.min_eq_left (by omega)]
    have hTe:T=R.take i++0::(R.drop (i+1)).take (39-i):=by
     rw [hT]
     have:R=R.take i++(0::R.drop (i+1)):=by rw [← hz,← hd,List.take_append_drop]
     have hl:(R.take i).length=i:=by simp;omega
     calc R.take 40=(R.take i++(0::R.drop (i+1))).take 40:=by rw [← this]
      _=_:=by rw [List.take_append,hl,Zh (by omega),show 40-i=(39-i)+1 by omega,List.take_succ_cons]
    have hidx:Zg 0 T=i:=by
     rw [hTe,Kerb.indexOf_append h0];simp;omega
    refine ⟨_,rfl,i,_,_,0,rfl,.inr (.inl ⟨rfl,hidx,?_,rfl,rfl⟩)⟩
    rw [hTi,hR,show (pos+(i:Int)).toNat=pos.toNat+i by omega,List.drop_take,show pos.toNat+i-pos.toNat=i by omega]
   ·rw [sel_neg (beq_eq_false_iff_ne.2 hz),wrap_i64 (by omega) (by omega)]
    refine ⟨_,rfl,i+1,rfl,⟨by omega,by omega,?_⟩,by dsimp only;omega⟩
    rw [Kerb.take_succ_getD hiR]
    simp only [List.mem_append,List.mem_singleton,not_or]
    exact ⟨h0,fun e=>hz e.symm⟩
  ·rintro ⟨e,l⟩ ⟨i,v,nx,er,rfl,⟨rfl,rfl,rfl,rfl,g1,g2⟩ | ⟨rfl,g1,rfl,rfl,rfl⟩ | ⟨rfl,g1,g2⟩⟩
   ·simp only [A0]
    rw [if_neg (by omega),if_neg g2]
   ·simp only [A0]
    rw [if_pos (by omega),g1,Zm]
   ·simp only [A0]
    rw [if_neg (by omega),if_pos g2,sel_pos (Yb _)]
 ·cases h
theorem w84:Walked Tryz.prog G 84 1 sp84:=by
 refine ⟨Tryz.f84,Tryz.func84,by decide +kernel,rfl,fun xs bl r h=> ?_⟩
 unfold sp84 at h
 split at h
 ·rename_i k els
  obtain ⟨hpre,h2⟩:=chk_inv h;cases h2
  refine Eq.trans (b:=(Zj (loopM (fun (st:List AV)=>cInt .i64 st fun n r=>cBool r fun b r=>cSl 1 r fun b_1 r=>cInt .i64 r fun n_1 r=>cInt .i64 r fun n_2 r=>onNil r (sel (decide (n_2<n_1)) (chk (decide (0≤n_2)&&decide (n_2<(↑(Zx b_1):Int))&&true) (Yy .i64 (Zn b_1 (Zu n_2) Xk) fun n_3=>sel (n_3==n) (some (Ym (Ex.ret,[Zz .i64 n,Zv true,Yw 1 b_1,Zz .i64 n_1,Zz .i64 n_2]))) (some (Yn [Zz .i64 n,Zv b,Yw 1 b_1,Zz .i64 n_1,Zz .i64 (Zy .i64 (n_2+1))])))) (some (Ym (Yj 0,[Zz .i64 n,Zv b,Yw 1 b_1,Zz .i64 n_1,Zz .i64 n_2]))))) [Zz .i64 k,Zv false,Yw 1 els,Zz .i64 (↑(Zx els):Int),Zz .i64 0]) fun (r:Ex×List AV)=>cInt .i64 (Zp r) fun n r_1=>cBool r_1 fun b r_2=>cSl 1 r_2 fun b_1 r_3=>cInt .i64 r_3 fun n r_4=>cInt .i64 r_4 fun n r_5=>onNil r_5 (exK r.1 (some (Zv b,[])) fun (j:Nat)=>sel (Xn j 0) (some (Zv false,[])) none):Option (AV×Blocks))) (by kernel_rfl) ?_
  try dsimp only [cStr,cBs,cBool,cU8,cInt,cSl,l63]
  simp only [Zd,decide_eq_true_eq] at hpre
  obtain ⟨ha,hl⟩:=hpre
  have hil:=Kerb.ints_len ha
  refine loop_rounds (fun i:Nat=>[Zz Zw k,Zv false,Yw 1 els,Zz Zw (els.length:Int),Zz Zw (i:Int)]) (fun i=>i≤els.length∧(k∈intsIn els↔k∈(intsIn els).drop i)) (fun i=>els.length-i)
   (fun r=>∃ (i:Nat) (x:Bool),r.2=[Zz Zw k,Zv x,Yw 1 els,Zz Zw (els.length:Int),Zz Zw (i:Int)]∧((r.1 = .ret∧x=true∧k∈intsIn els)∨(r.1 = .exit 0∧k ∉ intsIn els))) 0 ⟨Xw _,by simp⟩ rfl ?_ ?_
  ·rintro i ⟨hi,hm⟩
   simp only [A0]
   by_cases hlt:i<els.length
   ·obtain ⟨n,h1,h2⟩:=Kerb.ints_get ha hlt
    rw [sel_pos (by simp;omega),chk_of (by simp;omega),Zm,h1,onInt_int]
    rw [h2,List.mem_cons] at hm
    by_cases h3:n=k
    ·rw [sel_pos (by simpa using h3)]
     exact ⟨_,rfl,i,true,rfl,.inl ⟨rfl,rfl,hm.2 (.inl h3.symm)⟩⟩
    ·rw [sel_neg (by simpa using h3),wrap_i64 (by omega) (by omega)]
     exact ⟨_,rfl,i+1,rfl,⟨by omega,hm.trans ⟨fun h=>h.resolve_left fun e=>h3 e.symm,.inr⟩⟩,by dsimp only;omega⟩
   ·rw [sel_neg (by simp;omega)]
    refine ⟨_,rfl,i,false,rfl,.inr ⟨rfl,?_⟩⟩
    rw [hm,Wp (by omega)];simp
  ·rintro ⟨e,l⟩ ⟨i,x,rfl,⟨rfl,rfl,h⟩ | ⟨rfl,h⟩⟩
   ·simp [onCons,Yy,Wv,AV.onSl,onNil,exK,h]
   ·simp [onCons,Yy,Wv,AV.onSl,onNil,exK,h,sel]
 ·cases h
theorem w87:Walked Tryz.prog G 87 1 sp87:=by
 refine ⟨Tryz.f87,Tryz.func87,by decide +kernel,rfl,fun xs bl r h=> ?_⟩
 unfold sp87 at h
 split at h
 ·rename_i b pos n
  obtain ⟨hpre,h2⟩:=chk_inv h;cases h2
  refine Eq.trans (b:=(sel (decide (pos<0)) (some (Zz .i64 104,[])) (sel (decide (pos>(↑(Zx b):Int))) (some (Zz .i64 104,[])) (sel (decide (n<0)) (some (Zz .i64 104,[])) (sel (decide (n>Zy .i64 ((↑(Zx b):Int)-pos))) (some (Zz .i64 101,[])) (some (Zz .i64 0,[]))))):Option (AV×Blocks))) (by kernel_rfl) ?_
  simp only [decide_eq_true_eq] at hpre
  unfold Xx
  by_cases h1:pos<0
  ·simp [sel,h1]
  by_cases h2:(b.length:Int)<pos
  ·simp [sel,h1,h2]
  by_cases h3:n<0
  ·simp [sel,h1,h2,h3]
  rw [sel_neg (by simp;omega),sel_neg (by simp;omega),sel_neg (by simp;omega),wrap_i64 (by omega) (by omega),if_neg (by omega)]
  by_cases h4:(b.length:Int)-pos<n
  ·rw [sel_pos (by simp;omega),if_pos h4]
  ·rw [sel_neg (by simp;omega),if_neg h4]
 ·cases h
theorem w91:Walked Tryz.prog G 91 1 sp91:=by
 refine ⟨Tryz.f91,Tryz.func91,by decide +kernel,rfl,fun xs bl r h=> ?_⟩
 unfold sp91 at h
 split at h
 ·rename_i n m
  cases h
  refine Eq.trans (b:=(sel (decide (n≥0)) (some (Zv (decide (n≤m)),[])) (some (Zv false,[])):Option (AV×Blocks))) (by kernel_rfl) ?_
  by_cases h:0≤n<;>simp [sel,Xv,h]
 ·cases h
theorem w98:Walked Tryz.prog G 98 1 sp98:=by
 refine ⟨Tryz.f98,Tryz.func98,by decide +kernel,rfl,fun xs bl r h=> ?_⟩
 unfold sp98 at h
 split at h
 ·rename_i rl els n i
  obtain ⟨hpre,h2⟩:=chk_inv h;cases h2
  refine Eq.trans (b:=(Zj (loopM (fun (st:List AV)=>cStr st fun b r=>cStr r fun b_1 r=>cInt .i64 r fun n r=>cInt .i64 r fun n_1 r=>cInt .i64 r fun n_2 r=>cBool r fun b_2 r=>cSl 9 r fun b_3 r=>cInt .i64 r fun n_3 r=>cInt .i64 r fun n_4 r=>let t1:List AV:=[Zz .i64 n_2,Zv b_2,Yw 9 b_3,Zz .i64 n_3,Zz .i64 n_4];let t2:List AV:=[Yw 9 b_3,Zz .i64 n_3,Zz .i64 (Zy .i64 (n_4+1))];let t0:Option (List AV ⊕ Ex×List AV):=some (Yn (Zq b::Zq b_1::Zz .i64 n::Zz .i64 n_1::Zz .i64 n_2::Zv b_2::t2));onNil r (sel (decide (n_4<n_3)) (chk (decide (0≤n_4)&&decide (n_4<(↑(Zx b_3):Int))&&true) (Vw (Zn b_3 (Zu n_4) Xk) fun cs=>cStr cs fun b_4 r=>cStr r fun b_5 r=>cInt .u64 r fun n_5 r=>cInt .i64 r fun n_6 r=>cInt .i64 r fun n_7 r=>cInt .i64 r fun n_8 r=>cInt .i64 r fun n_9 r=>cInt .i64 r fun n_10 r=>cInt .i64 r fun n_11 r=>onNil r (sel (!b_4==b) t0 (sel (!b_5==b_1) t0 (sel b_2 (some (Ym (Ex.ret,Zq b::Zq b_1::Zz .i64 0::Zz .i64 9::t1))) (some (Yn (Zq b::Zq b_1::Zz .i64 n::Zz .i64 n_1::Zz .i64 n_4::Zv true::t2)))))))) (some (Ym (Yj 0,Zq b::Zq b_1::Zz .i64 n::Zz .i64 n_1::t1))))) [Zq n,Zq i,Zz .i64 0,Zz .i64 0,Zz .i64 0,Zv false,Yw 9 els,Zz .i64 (↑(Zx els):Int),Zz .i64 0]) fun (r:Ex×List AV)=>cStr (Zp r) fun b r_1=>cStr r_1 fun b r_2=>cInt .i64 r_2 fun n r_3=>cInt .i64 r_3 fun n_1 r_4=>cInt .i64 r_4 fun n_2 r_5=>cBool r_5 fun b r_6=>cSl 9 r_6 fun b_1 r_7=>cInt .i64 r_7 fun n_3 r_8=>cInt .i64 r_8 fun n_4 r_9=>onNil r_9 (exK r.1 (some (Zf [Zz .i64 n,Zz .i64 n_1],[])) fun (j:Nat)=>sel (Xn j 0) (sel (!b) (some (Zf [Zz .i64 0,Zz .i64 8],[])) (some (Zf [Zz .i64 n_2,Zz .i64 0],[]))) none):Option (AV×Blocks))) (by kernel_rfl) ?_
  try dsimp only [cStr,cBs,cBool,cU8,cInt,cSl,l63]
  simp only [Zd,decide_eq_true_eq] at hpre
  obtain ⟨hall,hlen⟩:=hpre
  obtain ⟨es,rfl,hok⟩:=Kerb.ents_of hall
  rw [Kerb.map_toEntry]
  simp only [Wh] at hlen ⊢
  refine loop_rounds (fun q:Nat×Int×Bool=>[Zq n,Zq i,Zz Zw 0,Zz Zw 0,Zz Zw q.2.1,Zv q.2.2,Yw 9 (es.map Kerb.Entry.av),Zz Zw (es.length:Int),Zz Zw (q.1:Int)])
   (fun q=>q.1≤es.length∧((q.2.2=false∧(es.take q.1).countP (Yq n i)=0)∨(q.2.2=true∧(es.take q.1).countP (Yq n i)=1∧q.2.1=(es.findIdx (Yq n i):Int)))) (fun q=>es.length-q.1)
   (fun r=>∃ (a b c:Int) (d:Bool) (j:Nat),r.2=[Zq n,Zq i,Zz Zw a,Zz Zw b,Zz Zw c,Zv d,Yw 9 (es.map Kerb.Entry.av),Zz Zw (es.length:Int),Zz Zw (j:Int)]∧((r.1 = .ret∧(a,b)=Kerb.findEnt es n i)∨(r.1 = .exit 0∧((d=false∧(0,8)=Kerb.findEnt es n i)∨(d=true∧(c,0)=Kerb.findEnt es n i))))) (0,0,false) ⟨Xw _,.inl ⟨rfl,rfl⟩⟩ rfl ?_ ?_
  ·rintro ⟨j,c,d⟩ ⟨hj,hinv⟩
   simp only at hj hinv
   simp only [↓A0,A0]
   rcases Nat.lt_or_ge j es.length with h | h
   ·have hc:=Kerb.count_take (p:=Yq n i) h
    have hle:=Kerb.count_le (p:=Yq n i) (es:=es) (j+1)
    rw [sel_pos (by simp;omega),chk_of (by simp;omega),Zm,Kerb.getD_ent h]
    have hx:=Kerb.find_first (p:=Yq n i) h
    generalize es.getD j Kerb.noEntry=e at hc hx
    simp only [Kerb.Entry.av,↓A0,A0]
    rw [wrap_i64 (by omega) (by omega)]
    by_cases h1:e.name=n
    ·by_cases h2:e.inst=i
     ·have hp:Yq n i e=true:=by simp [Yq,h1,h2]
      rw [hp,cond_true] at hc
      rw [sel_neg (by simp [h1]),sel_neg (by simp [h2])]
      rcases hinv with ⟨rfl,h0⟩ | ⟨rfl,h0,h3⟩
      ·refine ⟨_,rfl,(j+1,(j:Int),true),rfl,⟨by simp only;omega,.inr ⟨rfl,by simp only;omega,by rw [hx h0 hp]⟩⟩,by simp only;omega⟩
      ·refine ⟨_,rfl,0,9,c,true,j,rfl,.inl ⟨rfl,?_⟩⟩
       unfold Kerb.findEnt
       rw [if_neg (by omega),if_pos (by omega)]
     ·have hp:Yq n i e=false:=by simp [Yq,h2]
      rw [hp,cond_false] at hc
      rw [sel_neg (by simp [h1]),sel_pos (by simpa using h2)]
      exact ⟨_,rfl,(j+1,c,d),rfl,⟨by simp only;omega,by simp only;rw [hc];simpa using hinv⟩,by simp only;omega⟩
    ·have hp:Yq n i e=false:=by simp [Yq,h1]
     rw [hp,cond_false] at hc
     rw [sel_pos (by simpa using h1)]
     exact ⟨_,rfl,(j+1,c,d),rfl,⟨by simp only;omega,by simp only;rw [hc];simpa using hinv⟩,by simp only;omega⟩
   ·rw [sel_neg (by simp;omega)]
    rw [Zh h] at hinv
    refine ⟨_,rfl,0,0,c,d,j,rfl,.inr ⟨rfl,?_⟩⟩
    unfold Kerb.findEnt
    rcases hinv with ⟨rfl,h0⟩ | ⟨rfl,h0,rfl⟩
    ·exact .inl ⟨rfl,by rw [if_pos h0]⟩
    ·exact .inr ⟨rfl,by rw [if_neg (by omega),if_neg (by omega)]⟩
  ·rintro ⟨e,l⟩ ⟨a,b,c,d,j,rfl,⟨rfl,h⟩ | ⟨rfl,⟨rfl,h⟩ | ⟨rfl,h⟩⟩⟩
   ·rw [← h];rfl
   ·rw [← h];rfl
   ·rw [← h];rfl
 ·cases h
theorem w100:Walked Tryz.prog G 100 1 sp100:=by
 refine ⟨Tryz.f100,Tryz.func100,by decide +kernel,rfl,fun xs bl r h=> ?_⟩
 unfold sp100 at h
 split at h
 ·rename_i n els
  obtain ⟨hpre,h2⟩:=chk_inv h;cases h2
  refine Eq.trans (b:=(Zj (loopM (fun (st:List AV)=>onCons st fun x r=>Yy .i64 x fun n=>onCons r fun x r=>AV.onSl 1 x fun b=>onCons r fun x r=>Yy .i64 x fun n_1=>onCons r fun x r=>Yy .i64 x fun n_2=>onNil r (sel (decide (n_2<n_1)) (chk (decide (0≤n_2)&&decide (n_2<(↑(Zx b):Int))&&true) (Yy .i64 (Zn b (Zu n_2) Xk) fun n_3=>sel (decide (n_3<n)) (some (Yn [Zz .i64 n_3,Yw 1 b,Zz .i64 n_1,Zz .i64 (Zy .i64 (n_2+1))])) (some (Yn [Zz .i64 n,Yw 1 b,Zz .i64 n_1,Zz .i64 (Zy .i64 (n_2+1))])))) (some (Ym (Yj 0,[Zz .i64 n,Yw 1 b,Zz .i64 n_1,Zz .i64 n_2]))))) [Zz .i64 n,Yw 1 els,Zz .i64 (↑(Zx els):Int),Zz .i64 0]) fun (r:Ex×List AV)=>onCons (Zp r) fun x r_1=>Yy .i64 x fun n=>onCons r_1 fun x r_2=>AV.onSl 1 x fun b=>onCons r_2 fun x r_3=>Yy .i64 x fun n_1=>onCons r_3 fun x r_4=>Yy .i64 x fun n_2=>onNil r_4 (exK r.1 none fun (j:Nat)=>sel (Xn j 0) (some (Zz .i64 n,[])) none):Option (AV×Blocks))) (by kernel_rfl) ?_
  simp only [Zd,decide_eq_true_eq] at hpre
  obtain ⟨ha,hl⟩:=hpre
  have hil:=Kerb.ints_len ha
  refine loop_rounds (fun i:Nat=>[Zz Zw (Xj n ((intsIn els).take i)),Yw 1 els,Zz Zw (els.length:Int),Zz Zw (i:Int)]) (fun i=>i≤els.length) (fun i=>els.length-i)
   (fun r=>r=(.exit 0,[Zz Zw (Xj n (intsIn els)),Yw 1 els,Zz Zw (els.length:Int),Zz Zw (els.length:Int)])) 0 (Xw _) rfl ?_ ?_
  ·intro i hi
   simp only [↓A0,A0]
   rcases Nat.lt_or_ge i els.length with h | h
   ·obtain ⟨m,h1,h2⟩:=Kerb.ints_get ha h
    rw [sel_pos (by simp;omega),chk_of (by simp;omega),Zm,h1,onInt_int]
    have ht:(intsIn els).take (i+1)=(intsIn els).take i++[m]:=by
     have h4:i<(intsIn els).length:=by omega
     rw [List.take_succ_eq_append_getElem h4]
     rw [List.drop_eq_getElem_cons h4] at h2
     rw [(List.cons.inj h2).1]
    have hs:Xj n ((intsIn els).take (i+1))=Wz (Xj n ((intsIn els).take i)) m:=by rw [ht];simp [Xj]
    rw [wrap_i64 (by omega) (by omega)]
    unfold Wz at hs
    by_cases hm:m<Xj n ((intsIn els).take i)
    ·rw [sel_pos (by simpa using hm)]
     rw [if_pos hm] at hs
     exact ⟨_,rfl,i+1,by dsimp only;rw [hs];rfl,by omega,by dsimp only;omega⟩
    ·rw [sel_neg (by simpa using hm)]
     rw [if_neg hm] at hs
     exact ⟨_,rfl,i+1,by dsimp only;rw [hs];rfl,by omega,by dsimp only;omega⟩
   ·have h1:i=els.length:=by omega
    subst h1
    rw [sel_neg (by simp)]
    refine ⟨_,rfl,?_⟩
    show _=_
    rw [Zh (by omega)]
  ·rintro _ rfl
   rfl
 ·cases h
theorem w101:Walked Tryz.prog G 101 1 sp101:=by
 refine ⟨Tryz.f101,Tryz.func101,by decide +kernel,rfl,fun xs bl r h=> ?_⟩
 unfold sp101 at h
 split at h
 ·rename_i n
  cases h
  refine Eq.trans (b:=(sel (decide (n≥0)) (some (Zv (decide (n≤4294967295)),[])) (some (Zv false,[])):Option (AV×Blocks))) (by kernel_rfl) ?_
  by_cases h:0≤n<;>simp [sel,Xv,h]
 ·cases h
theorem w103:Walked Tryz.prog G 103 1 sp103:=by
 refine ⟨Tryz.f103,Tryz.func103,by decide +kernel,rfl,fun xs bl r h=> ?_⟩
 unfold sp103 at h
 split at h
 ·rename_i k
  cases h
  refine Eq.trans (b:=(sel (k==1) (some (Zv true,[])) (some (Zv (k==2),[])):Option (AV×Blocks))) (by kernel_rfl) ?_
  unfold Vz
  cases (k==(1:Int))<;>rfl
 ·cases h
theorem w104:Walked Tryz.prog G 104 1 sp104:=by
 refine ⟨Tryz.f104,Tryz.func104,by decide +kernel,rfl,fun xs bl r h=> ?_⟩
 unfold sp104 at h
 split at h
 ·rename_i k
  cases h
  refine Eq.trans (b:=(sel (decide (k≥1)) (some (Zv (decide (k≤4294967295)),[])) (some (Zv false,[])):Option (AV×Blocks))) (by kernel_rfl) ?_
  by_cases h:1≤k<;>simp [sel,Wm,h]
 ·cases h
theorem w107:Walked Tryz.prog G 107 1 sp107:=by
 refine ⟨Tryz.f107,Tryz.func107,by decide +kernel,rfl,fun xs bl r h=> ?_⟩
 unfold sp107 at h
 split at h
 ·rename_i k
  obtain ⟨hpre,h2⟩:=chk_inv h;cases h2
  refine Eq.trans (b:=(Zj (loopM (fun (st:List AV)=>cInt .u64 st fun n r=>onCons r fun x r=>Xh x fun b=>cInt .i64 r fun n_1 r=>cInt .i64 r fun n_2 r=>let t0:Int:=Zy .i64 (8*Zy .i64 (7-n_2));onNil r (sel (decide (n_2<n_1)) (chk (decide (0≤t0)) (chk (decide (0≤n_2)&&decide (n_2<(↑(Zx b):Int))) (chk (Nat.blt (Zu n_2) (Zx b)&&true&&true&&true&&true) (some (Yn [Zz .u64 n,Yu (List.set b (Zu n_2) (Xz (Zu (Zy .u8 (Int.fdiv n (2 ^ min (Zu t0) (Zk .u64))))))),Zz .i64 n_1,Zz .i64 (Zy .i64 (n_2+1))]))))) (some (Ym (Yj 0,[Zz .u64 n,Yu b,Zz .i64 n_1,Zz .i64 n_2]))))) [Zz .u64 k,Yu (Wu (Zu 8) (0:UInt8)),Zz .i64 (↑(Zx (Wu (Zu 8) (0:UInt8))):Int),Zz .i64 0]) fun (r:Ex×List AV)=>cInt .u64 (Zp r) fun n r_1=>onCons r_1 fun x r_2=>Xh x fun b=>cInt .i64 r_2 fun n r_3=>cInt .i64 r_3 fun n r_4=>onNil r_4 (exK r.1 none fun (j:Nat)=>sel (Xn j 0) (some (Yz b,[])) none):Option (AV×Blocks))) (by kernel_rfl) ?_
  try dsimp only [cStr,cBs,cBool,cU8,cInt,cSl,l63]
  refine loop_unroll 9 (Yj 0,[Zz Yh k,Yu [Xb k 56,Xb k 48,Xb k 40,Xb k 32,Xb k 24,Xb k 16,Xb k 8,Xb k 0],Zz Zw 8,Zz Zw 8]) (by kernel_rfl) ?_
  simp only [A0]
  rw [sel_pos (Yb _)]
  simp [Kerb.bfd_eq,Kerb.keyBytes,Kerb.byteAt,List.range_succ]
 ·cases h
theorem w109:Walked Tryz.prog G 109 1 sp109:=by
 refine ⟨Tryz.f109,Tryz.func109,by decide +kernel,rfl,fun xs bl r h=> ?_⟩
 unfold sp109 at h
 split at h
 ·rename_i n
  cases h
  refine Eq.trans (b:=(sel (decide (n≥0)) (some (Zv (decide (n≤255)),[])) (some (Zv false,[])):Option (AV×Blocks))) (by kernel_rfl) ?_
  by_cases h:0≤n<;>simp [sel,Xv,h]
 ·cases h
theorem w110:Walked Tryz.prog G 110 1 sp110:=by
 refine ⟨Tryz.f110,Tryz.func110,by decide +kernel,rfl,fun xs bl r h=> ?_⟩
 unfold sp110 at h
 split at h
 ·rename_i k
  cases h
  refine Eq.trans (b:=(sel (decide (k≥1)) (some (Zv (decide (k≤10)),[])) (some (Zv false,[])):Option (AV×Blocks))) (by kernel_rfl) ?_
  by_cases h:1≤k<;>simp [sel,Wx,h]
 ·cases h
theorem w114:Walked Tryz.prog G 114 1 sp114:=by
 refine ⟨Tryz.f114,Tryz.func114,by decide +kernel,rfl,fun xs bl r h=> ?_⟩
 unfold sp114 at h
 split at h
 ·rename_i b pos n
  obtain ⟨hpre,h2⟩:=chk_inv h;cases h2
  refine Eq.trans (b:=(sel (decide (pos<0)) (some (Zf [Yz [],Zz .i64 0,Zz .i64 104],[])) (sel (decide (pos>(↑(Zx b):Int))) (some (Zf [Yz [],Zz .i64 0,Zz .i64 104],[])) (sel (decide (n<0)) (some (Zf [Yz [],Zz .i64 0,Zz .i64 104],[])) (sel (decide (n>Zy .i64 ((↑(Zx b):Int)-pos))) (some (Zf [Yz [],Zz .i64 0,Zz .i64 101],[])) (chk (decide (0≤pos)&&decide (pos≤Zy .i64 (pos+n))&&decide (Zy .i64 (pos+n)≤(↑(Zx b):Int))) (chk (room (Zx (Wk (Zu pos) (Wq (Zu (Zy .i64 (pos+n))) b))) 1) (some (Zf [Yz (Wk (Zu pos) (Wq (Zu (Zy .i64 (pos+n))) b)),Zz .i64 (Zy .i64 (pos+n)),Zz .i64 0],[]))))))):Option (AV×Blocks))) (by kernel_rfl) ?_
  have hb:=of_decide_eq_true hpre
  unfold Wn
  by_cases h1:pos<0
  ·have e:Xx b pos n=104:=by unfold Xx;rw [if_pos (by omega)]
   rw [sel_pos (by simpa using h1),e]
   rfl
  rw [sel_neg (by simpa using h1)]
  by_cases h2:(b.length:Int)<pos
  ·have e:Xx b pos n=104:=by unfold Xx;rw [if_pos (by omega)]
   rw [sel_pos (by simpa using h2),e]
   rfl
  rw [sel_neg (by simpa using h2)]
  by_cases h3:n<0
  ·have e:Xx b pos n=104:=by unfold Xx;rw [if_pos (by omega)]
   rw [sel_pos (by simpa using h3),e]
   rfl
  rw [sel_neg (by simpa using h3),wrap_i64 (n:=(b.length:Int)-pos) (by omega) (by omega)]
  by_cases h4:(b.length:Int)-pos<n
  ·have e:Xx b pos n=101:=by unfold Xx;rw [if_neg (by omega),if_pos h4]
   rw [sel_pos (by simpa using h4),e]
   rfl
  have hr:Xx b pos n=0:=Kerb.room_zero.2 (by omega)
  have e:Wk (Zu pos) (Wq (Zu (pos+n)) b)=Kerb.cut b pos n:=by
   rw [show Zu (pos+n)=pos.toNat+n.toNat by omega,List.drop_take,show pos.toNat+n.toNat-pos.toNat=n.toNat by omega]
   rfl
  have hc:=Kerb.cut_length hr
  rw [sel_neg (by simpa using h4),if_pos hr,wrap_i64 (by omega) (by omega),e,chk_of (by simp;omega),chk_of (Xf (by omega))]
 ·cases h
theorem w116:Walked Tryz.prog G 116 1 sp116:=by
 refine ⟨Tryz.f116,Tryz.func116,by decide +kernel,rfl,fun xs bl r h=> ?_⟩
 unfold sp116 at h
 split at h
 ·rename_i k
  obtain ⟨hpre,h2⟩:=chk_inv h;cases h2
  refine Eq.trans (b:=(Zj (loopM (fun (st:List AV)=>cInt .u64 st fun n r=>onCons r fun x r=>Xh x fun b=>cInt .i64 r fun n_1 r=>let t0:List UInt8:=[Xz (Zu (Zy .u8 (Int.fdiv n (2 ^ min (Zu (Zy .u64 (Zy .i64 (8*n_1)))) (Zk .u64)))))];onNil r (sel (decide (n_1≥0)) (chk (decide (0≤Zy .u64 (Zy .i64 (8*n_1)))) (chk (room (Zx b+Zx t0) 1) (some (Yn [Zz .u64 n,Yu (b++t0),Zz .i64 (Zy .i64 (n_1-1))])))) (some (Ym (Yj 0,[Zz .u64 n,Yu b,Zz .i64 n_1]))))) [Zz .u64 k,Yu [],Zz .i64 7]) fun (r:Ex×List AV)=>cInt .u64 (Zp r) fun n r_1=>onCons r_1 fun x r_2=>Xh x fun b=>cInt .i64 r_2 fun n r_3=>onNil r_3 (exK r.1 none fun (j:Nat)=>sel (Xn j 0) (some (Yz b,[])) none):Option (AV×Blocks))) (by kernel_rfl) ?_
  try dsimp only [cStr,cBs,cBool,cU8,cInt,cSl,l63]
  refine loop_unroll 9 (Yj 0,[Zz Yh k,Yu [Xb k 56,Xb k 48,Xb k 40,Xb k 32,Xb k 24,Xb k 16,Xb k 8,Xb k 0],Zz Zw (-1)]) (by kernel_rfl) ?_
  simp only [A0]
  rw [sel_pos (Yb _)]
  simp [Kerb.bfd_eq,Kerb.keyBytes,Kerb.byteAt,List.range_succ]
 ·cases h
theorem w117:Walked Tryz.prog G 117 1 sp117:=by
 refine ⟨Tryz.f117,Tryz.func117,by decide +kernel,rfl,fun xs bl r h=> ?_⟩
 unfold sp117 at h
 split at h
 ·rename_i b
  obtain ⟨hpre,h2⟩:=chk_inv h;cases h2
  refine Eq.trans (b:=(chk (room (Zx b) 1) (Zj (loopM (fun (st:List AV)=>onCons st fun x r=>Xh x fun b=>onNil r (sel (!Yv (↑(Zx b):Int) 8==0) (chk (room (Zx b+Zx [(0:UInt8)]) 1) (some (Yn [Yu (b++[(0:UInt8)])]))) (some (Ym (Yj 0,[Yu b]))))) [Yu b]) fun (r:Ex×List AV)=>onCons (Zp r) fun x r_1=>Xh x fun b=>onNil r_1 (exK r.1 none fun (j:Nat)=>sel (Xn j 0) (some (Yu b,[])) none)):Option (AV×Blocks))) (by kernel_rfl) ?_
  have hb:=of_decide_eq_true hpre
  rw [chk_of (Xf (by omega))]
  refine loop_rounds (fun i:Nat=>[Yu (b++Wu i 0)]) (fun i=>i≤(8-b.length % 8) % 8) (fun i=>(8-b.length % 8) % 8-i)
   (fun r=>r=(Yj 0,[Yu (Kerb.pad b)])) 0 (by omega) (by simp) ?_ ?_
  ·intro i hi
   simp only [A0]
   have e:Yv ((b++Wu i 0).length:Int) 8=(((b.length+i) % 8:Nat):Int):=by
    rw [Yd (by omega)]
    simp
   rw [e]
   by_cases hlt:i<(8-b.length % 8) % 8
   ·rw [sel_pos (by simp;omega),chk_of (Xf (by simp;omega))]
    refine ⟨_,rfl,i+1,?_,by omega,by dsimp only;omega⟩
    dsimp only
    rw [List.replicate_succ',List.append_assoc]
   ·rw [sel_neg (by simp;omega)]
    refine ⟨_,rfl,?_⟩
    show _=_
    rw [Kerb.pad,show i=(8-b.length % 8) % 8 from by omega]
  rintro r rfl
  simp only [A0]
  rw [sel_pos (Yb _)]
 ·cases h
theorem w119:Walked Tryz.prog G 119 1 sp119:=by
 refine ⟨Tryz.f119,Tryz.func119,by decide +kernel,rfl,fun xs bl r h=> ?_⟩
 unfold sp119 at h
 split at h
 ·rename_i k
  cases h
  refine Eq.trans (b:=(sel (decide (k≥1)) (some (Zv (decide (k≤10)),[])) (some (Zv false,[])):Option (AV×Blocks))) (by kernel_rfl) ?_
  by_cases h:1≤k<;>simp [sel,Wx,h]
 ·cases h
theorem w126:Walked Tryz.prog G 126 1 sp126:=by
 refine ⟨Tryz.f126,Tryz.func126,by decide +kernel,rfl,fun xs bl r h=> ?_⟩
 unfold sp126 at h
 split at h
 ·rename_i c n
  cases h
  refine Eq.trans (b:=(sel (!c==1) (sel (!c==2) (some (Zz .u64 0,[])) (sel (decide (n<1)) (some (Zz .u64 0,[])) (sel (decide (n>4294967295)) (some (Zz .u64 0,[])) (some (Zz .u64 (Zy .u64 (↑(BitVec.toNat (BitVec.ofInt (Zk .u64) (Zy .u64 (Zy .u64 c*2 ^ min (Zu 56) (Zk .u64))) ||| BitVec.ofInt (Zk .u64) (Zy .u64 n))):Int)),[]))))) (sel (decide (n<1)) (some (Zz .u64 0,[])) (sel (decide (n>4294967295)) (some (Zz .u64 0,[])) (some (Zz .u64 (Zy .u64 (↑(BitVec.toNat (BitVec.ofInt (Zk .u64) (Zy .u64 (Zy .u64 c*2 ^ min (Zu 56) (Zk .u64))) ||| BitVec.ofInt (Zk .u64) (Zy .u64 n))):Int)),[])))):Option (AV×Blocks))) (by kernel_rfl) ?_
  unfold Vz Wm
  by_cases hc:c=1∨c=2
  case neg =>
   have q1:(c==(1:Int))=false:=by simp;omega
   have q2:(c==(2:Int))=false:=by simp;omega
   rw [q1,q2]
   rfl
  by_cases hn:1≤n∧n≤4294967295
  case neg =>
   have q:(decide (1≤n)&&decide (n≤4294967295))=false:=by
    rw [Bool.eq_false_iff]
    simp
    omega
   rw [q,Bool.and_false]
   have key:(sel (decide (n<(1:Int))) (some (Zz .u64 (0:Int),([]:Blocks))) (sel (decide (n>(4294967295:Int))) (some (Zz .u64 (0:Int),[])) (some (Zz Yh (Zy Yh ((BitVec.toNat (BitVec.ofInt (Zk Yh) (Zy Yh (Zy Yh c*(2:Int) ^ min (Zu (56:Int)) (Zk Yh))) ||| BitVec.ofInt (Zk Yh) (Zy Yh n)):Nat):Int)),[]))))=some (Zz .u64 0,[]):=by
    by_cases hl:n<1
    ·rw [sel_pos (by simpa using hl)]
    ·rw [sel_neg (by simpa using hl),sel_pos (by simp;omega)]
   rcases hc with rfl | rfl
   ·rw [sel_neg (by decide)];exact key
   ·rw [sel_pos (by decide),sel_neg (by decide)];exact key
  have q:(decide (1≤n)&&decide (n≤4294967295))=true:=by simp;omega
  have q2:(c==(1:Int)||c==(2:Int))=true:=by simpa using hc
  rw [q,q2,Kerb.key_make hc hn.1 hn.2]
  rcases hc with rfl | rfl
  ·rw [sel_neg (by decide),sel_neg (by simp;omega),sel_neg (by simp;omega)]
   rfl
  ·rw [sel_pos (by decide),sel_neg (by decide),sel_neg (by simp;omega),sel_neg (by simp;omega)]
   rfl
 ·cases h
theorem w128:Walked Tryz.prog G 128 1 sp128:=by
 refine ⟨Tryz.f128,Tryz.func128,by decide +kernel,rfl,fun xs bl r h=> ?_⟩
 unfold sp128 at h
 split at h
 ·rename_i n m
  cases h
  refine Eq.trans (b:=(sel (decide (n≥0)) (some (Zv (decide (n≤m)),[])) (some (Zv false,[])):Option (AV×Blocks))) (by kernel_rfl) ?_
  by_cases h:0≤n<;>simp [sel,Xv,h]
 ·cases h
theorem w130:Walked Tryz.prog G 130 1 sp130:=by
 refine ⟨Tryz.f130,Tryz.func130,by decide +kernel,rfl,fun xs bl r h=> ?_⟩
 unfold sp130 at h
 split at h
 ·rename_i n m
  cases h
  refine Eq.trans (b:=(sel (decide (n≥0)) (some (Zv (decide (n≤m)),[])) (some (Zv false,[])):Option (AV×Blocks))) (by kernel_rfl) ?_
  by_cases h:0≤n<;>simp [sel,Xv,h]
 ·cases h
theorem w18:Walked Tryz.prog G 18 2 sp18:=by
 refine ⟨Tryz.f18,Tryz.func18,by decide +kernel,rfl,fun xs bl r h=> ?_⟩
 unfold sp18 at h
 split at h
 ·rename_i n
  obtain ⟨hpre,h2⟩:=chk_inv h;cases h2
  refine Eq.trans (b:=(chk (decide (0≤Yv n 3)&&decide (Yv n 3<(↑(Zx [Zq [(65:UInt8),(84:UInt8),(72:UInt8)],Zq [(66:UInt8),(79:UInt8),(83:UInt8)],Zq [(67:UInt8),(65:UInt8),(77:UInt8)]]):Int))&&true) (Xp (Zn [Zq [(65:UInt8),(84:UInt8),(72:UInt8)],Zq [(66:UInt8),(79:UInt8),(83:UInt8)],Zq [(67:UInt8),(65:UInt8),(77:UInt8)]] (Zu (Yv n 3)) Xk) fun b=>some (Zq b,[])):Option (AV×Blocks))) (by kernel_rfl) ?_
  have hn:0≤n:=by first | exact of_decide_eq_true hpre | (simp only [Zd,decide_eq_true_eq] at hpre;exact hpre.1)
  have ht:Yv n 3=n % 3:=Yd hn
  have hcase:n % 3=0∨n % 3=1∨n % 3=2:=by omega
  rcases hcase with e | e | e<;>simp [ht,e,chk,Xp,Vy]
 ·cases h
theorem w20:Walked Tryz.prog G 20 2 sp20:=by
 refine ⟨Tryz.f20,Tryz.func20,by decide +kernel,rfl,fun xs bl r h=> ?_⟩
 unfold sp20 at h
 split at h
 ·rename_i s
  obtain ⟨hpre,h2⟩:=chk_inv h;cases h2
  refine Eq.trans (b:=(sel (decide ((↑(Zx s):Int)>0)) (Zj (chk (decide (Zx s≤9223372036854775807)&&true) (some (Zv (Xq s [(46:UInt8),(64:UInt8)]&&decide (Zx s≤39)),[]))) fun (r:AV×Blocks)=>onNilB (Zp r) (Wv (Yx r) fun b=>some (Zv b,[]))) (some (Zv false,[])):Option (AV×Blocks))) (by kernel_rfl) ?_
  simp only [A0]
  rw [chk_of (by rw [hpre];rfl)]
  simp only [Kerb.validName]
  cases s with
  | nil=>rfl
  | cons x r =>
   rw [sel_pos (by first | (simp;done) | (simp;omega)),Bool.and_comm]
   rfl
 ·cases h
theorem w21:Walked Tryz.prog G 21 2 sp21:=by
 refine ⟨Tryz.f21,Tryz.func21,by decide +kernel,rfl,fun xs bl r h=> ?_⟩
 unfold sp21 at h
 split at h
 ·rename_i s
  obtain ⟨hpre,h2⟩:=chk_inv h;cases h2
  refine Eq.trans (b:=(Zj (chk (decide (Zx s≤9223372036854775807)&&true) (some (Zv (Xq s [(64:UInt8)]&&decide (Zx s≤39)),[]))) fun (r:AV×Blocks)=>onNilB (Zp r) (Wv (Yx r) fun b=>some (Zv b,[])):Option (AV×Blocks))) (by kernel_rfl) ?_
  simp only [A0]
  rw [chk_of (by rw [hpre];rfl),Bool.and_comm]
  rfl
 ·cases h
theorem w23:Walked Tryz.prog G 23 2 sp23:=by
 refine ⟨Tryz.f23,Tryz.func23,by decide +kernel,rfl,fun xs bl r h=> ?_⟩
 unfold sp23 at h
 split at h
 ·rename_i b x y z
  obtain ⟨hpre,h2⟩:=chk_inv h;cases h2
  refine Eq.trans (b:=(Zj (chk (decide (Zx b+Zx x≤70368744177664)) (some (Yz (Wd b x),[]))) fun (r:AV×Blocks)=>onNilB (Zp r) (AV.onBs (Yx r) fun b=>Zj (chk (decide (Zx b+Zx y≤70368744177664)) (some (Yz (Wd b y),[]))) fun (r:AV×Blocks)=>onNilB (Zp r) (AV.onBs (Yx r) fun b=>Zj (chk (decide (Zx b+Zx z≤70368744177664)) (some (Yz (Wd b z),[]))) fun (r:AV×Blocks)=>onNilB (Zp r) (AV.onBs (Yx r) fun b=>some (Yz b,[])))):Option (AV×Blocks))) (by kernel_rfl) ?_
  simp only [decide_eq_true_eq] at hpre
  simp only [A0]
  rw [chk_of (by simp;omega),chk_of (by simp [Wd];omega),chk_of (by simp [Wd];omega)]
  rfl
 ·cases h
theorem w25:Walked Tryz.prog G 25 2 sp25:=by
 refine ⟨Tryz.f25,Tryz.func25,by decide +kernel,rfl,fun xs bl r h=> ?_⟩
 unfold sp25 at h
 split at h
 ·rename_i b n
  obtain ⟨hpre,h2⟩:=chk_inv h;cases h2
  refine Eq.trans (b:=(Zj (chk (decide (Zx b≤70368744177664)) (some (Yu (b++Kerb.putN n (Zu 1) false),[]))) fun (r:AV×Blocks)=>onNilB (Zp r) (Xh (Yx r) fun l=>some (Yu l,[])):Option (AV×Blocks))) (by kernel_rfl) ?_
  simp only [decide_eq_true_eq] at hpre
  simp only [A0]
  rw [chk_of (by simp;omega)]
  rfl
 ·cases h
theorem w26:Walked Tryz.prog G 26 2 sp26:=by
 refine ⟨Tryz.f26,Tryz.func26,by decide +kernel,rfl,fun xs bl r h=> ?_⟩
 unfold sp26 at h
 split at h
 ·rename_i b n little
  obtain ⟨hpre,h2⟩:=chk_inv h;cases h2
  refine Eq.trans (b:=(Zj (chk (decide (Zx b≤70368744177664)) (some (Yu (b++Kerb.putN n (Zu 4) little),[]))) fun (r:AV×Blocks)=>onNilB (Zp r) (Xh (Yx r) fun l=>some (Yu l,[])):Option (AV×Blocks))) (by kernel_rfl) ?_
  simp only [decide_eq_true_eq] at hpre
  simp only [A0]
  rw [chk_of (by simp;omega)]
  rfl
 ·cases h
theorem w40:Walked Tryz.prog G 40 2 sp40:=by
 refine ⟨Tryz.f40,Tryz.func40,by decide +kernel,rfl,fun xs bl r h=> ?_⟩
 unfold sp40 at h
 split at h
 ·rename_i b els
  obtain ⟨hpre,h2⟩:=chk_inv h;cases h2
  refine Eq.trans (b:=(sel (!Kerb.Head.err (Yp b)==0) (some (Zf [Zv false,Zz .i64 (Kerb.Head.err (Yp b))],[])) (Zj (loopM (fun (st:List AV)=>cSl 1 st fun b r=>cBool r fun b_1 r=>cInt .i64 r fun n r=>cInt .i64 r fun n_1 r=>cBool r fun b_2 r=>cInt .i64 r fun n_2 r=>onNil r (sel (decide (n_2<(↑(Zx b):Int))) (chk (decide (0≤n_2)&&decide (n_2<(↑(Zx b):Int))&&true) (Yy .i64 (Zn b (Zu n_2) Xk) fun n_3=>sel (n_3==n_1) (some (Ym (Ex.ret,[Yw 1 b,Zv b_2,Zz .i64 0,Zz .i64 n_1,Zv b_2,Zz .i64 n_2]))) (some (Yn [Yw 1 b,Zv b_1,Zz .i64 n,Zz .i64 n_1,Zv b_2,Zz .i64 (Zy .i64 (n_2+1))])))) (some (Ym (Yj 0,[Yw 1 b,Zv b_1,Zz .i64 n,Zz .i64 n_1,Zv b_2,Zz .i64 n_2]))))) [Yw 1 els,Zv false,Zz .i64 0,Zz .i64 (Kerb.Head.kind (Yp b)),Zv (Kerb.Head.little (Yp b)),Zz .i64 0]) fun (r:Ex×List AV)=>cSl 1 (Zp r) fun b r_1=>cBool r_1 fun b r_2=>cInt .i64 r_2 fun n r_3=>cInt .i64 r_3 fun n_1 r_4=>cBool r_4 fun b_1 r_5=>cInt .i64 r_5 fun n_2 r_6=>onNil r_6 (exK r.1 (some (Zf [Zv b,Zz .i64 n],[])) fun (j:Nat)=>sel (Xn j 0) (some (Zf [Zv false,Zz .i64 40],[])) none)):Option (AV×Blocks))) (by kernel_rfl) ?_
  try dsimp only [cStr,cBs,cBool,cU8,cInt,cSl,l63]
  simp only [Zd,decide_eq_true_eq] at hpre
  obtain ⟨ha,hl⟩:=hpre
  have hil:=Kerb.ints_len ha
  unfold Kerb.headIs
  by_cases he:(Yp b).err=0
  case neg =>
   rw [sel_pos (by simpa using he),if_pos he]
  rw [sel_neg (by simp [he]),if_neg (by simpa using he)]
  generalize (Yp b).kind=k
  generalize (Yp b).little=lt
  refine loop_rounds (fun i:Nat=>[Yw 1 els,Zv false,Zz Zw 0,Zz Zw k,Zv lt,Zz Zw (i:Int)]) (fun i=>i≤els.length∧(k∈intsIn els↔k∈(intsIn els).drop i)) (fun i=>els.length-i)
   (fun r=>∃ (i:Nat) (x:Bool),r.2=[Yw 1 els,Zv x,Zz Zw 0,Zz Zw k,Zv lt,Zz Zw (i:Int)]∧((r.1 = .ret∧x=lt∧k∈intsIn els)∨(r.1 = .exit 0∧k ∉ intsIn els))) 0 ⟨Xw _,by simp⟩ rfl ?_ ?_
  ·rintro i ⟨hi,hm⟩
   simp only [A0]
   by_cases hlt:i<els.length
   ·obtain ⟨n,h1,h2⟩:=Kerb.ints_get ha hlt
    rw [sel_pos (by simp;omega),chk_of (by simp;omega),Zm,h1,onInt_int]
    rw [h2,List.mem_cons] at hm
    by_cases h3:n=k
    ·rw [sel_pos (by simpa using h3)]
     exact ⟨_,rfl,i,lt,rfl,.inl ⟨rfl,rfl,hm.2 (.inl h3.symm)⟩⟩
    ·rw [sel_neg (by simpa using h3),wrap_i64 (by omega) (by omega)]
     exact ⟨_,rfl,i+1,rfl,⟨by omega,hm.trans ⟨fun h=>h.resolve_left fun e=>h3 e.symm,.inr⟩⟩,by dsimp only;omega⟩
   ·rw [sel_neg (by simp;omega)]
    refine ⟨_,rfl,i,false,rfl,.inr ⟨rfl,?_⟩⟩
    rw [hm,Wp (by omega)];simp
  ·rintro ⟨e,l⟩ ⟨i,x,rfl,⟨rfl,rfl,h⟩ | ⟨rfl,h⟩⟩
   ·simp only [A0]
    rw [if_pos (by simpa using h)]
   ·simp only [A0]
    rw [if_neg (by simpa using h),sel_pos (Yb _)]
 ·cases h
theorem w43:Walked Tryz.prog G 43 2 sp43:=by
 refine ⟨Tryz.f43,Tryz.func43,by decide +kernel,rfl,fun xs bl r h=> ?_⟩
 unfold sp43 at h
 split at h
 ·rename_i B at_ li bad
  obtain ⟨hpre,h2⟩:=chk_inv h;cases h2
  show runFnH (G.env 43 2) G.rts (G.own 43) Tryz.f43 _ _ [0]=_
  refine Eq.trans (b:=(Zj (chk (decide (Zx B≤140737488355328)) (some (Zf [Zq (Wg (Xy B at_)),Zz .i64 (Wj (Xy B at_)),Zz .i64 (Xd (Xy B at_))],[]))) fun (r:AV×Blocks)=>onNilB (Zp r) (Vx (Yx r) fun vs=>onCons vs fun x r=>Xp x fun b=>onCons r fun x r=>Yy .i64 x fun n=>onCons r fun x r=>Yy .i64 x fun n_1=>onNil r (some (Zq b,[[Yz B,Zz .i64 (bif bad || !n_1==0 then at_ else n),Zv li,Zv (bad || !n_1==0)]]))):Option (AV×Blocks))) (by kernel_rfl) ?_
  simp only [A0]
  rw [chk_of hpre]
 ·cases h
theorem w48:Walked Tryz.prog G 48 2 sp48:=by
 refine ⟨Tryz.f48,Tryz.func48,by decide +kernel,rfl,fun xs bl r h=> ?_⟩
 unfold sp48 at h
 split at h
 ·rename_i s
  obtain ⟨hpre,h2⟩:=chk_inv h;cases h2
  refine Eq.trans (b:=(sel (decide ((↑(Zx s):Int)>0)) (Zj (chk (decide (Zx s≤9223372036854775807)&&true) (some (Zv (Xq s [(64:UInt8)]&&decide (Zx s≤39)),[]))) fun (r:AV×Blocks)=>onNilB (Zp r) (Wv (Yx r) fun b=>some (Zv b,[]))) (some (Zv false,[])):Option (AV×Blocks))) (by kernel_rfl) ?_
  simp only [A0]
  rw [chk_of (by rw [hpre];rfl)]
  simp only [Kerb.validRealm]
  cases s with
  | nil=>rfl
  | cons x r =>
   rw [sel_pos (by first | (simp;done) | (simp;omega)),Bool.and_comm]
   rfl
 ·cases h
theorem w67:Walked Tryz.prog G 67 2 sp67:=by
 refine ⟨Tryz.f67,Tryz.func67,by decide +kernel,rfl,fun xs bl r h=> ?_⟩
 unfold sp67 at h
 split at h
 ·rename_i k
  obtain ⟨hpre,h2⟩:=chk_inv h;cases h2
  refine Eq.trans (b:=(sel (!Vz (Zy .i64 (Int.fdiv k (2 ^ min (Zu 56) (Zk .u64))))) (some (Zf [Zz .i64 0,Zz .i64 0,Zv false],[])) (sel (!Wm (Zy .i64 (Zy .u64 (↑(BitVec.toNat (BitVec.ofInt (Zk .u64) k &&& BitVec.ofInt (Zk .u64) 72057594037927935)):Int)))) (some (Zf [Zz .i64 0,Zz .i64 0,Zv false],[])) (some (Zf [Zz .i64 (Zy .i64 (Int.fdiv k (2 ^ min (Zu 56) (Zk .u64)))),Zz .i64 (Zy .i64 (Zy .u64 (↑(BitVec.toNat (BitVec.ofInt (Zk .u64) k &&& BitVec.ofInt (Zk .u64) 72057594037927935)):Int))),Zv true],[]))):Option (AV×Blocks))) (by kernel_rfl) ?_
  simp only [Zd,decide_eq_true_eq] at hpre
  obtain ⟨h0,h1⟩:=hpre
  rw [Kerb.key_hi h0 h1,Kerb.key_lo h0 h1]
  unfold Xu
  cases Vz (Kerb.keyClass k)
  ·rfl
  cases Wm (Kerb.keySerial k)<;>rfl
 ·cases h
theorem w71:Walked Tryz.prog G 71 2 sp71:=by
 refine ⟨Tryz.f71,Tryz.func71,by decide +kernel,rfl,fun xs bl r h=> ?_⟩
 unfold sp71 at h
 split at h
 ·rename_i i l
  cases h
  refine Eq.trans (b:=(sel (!Xv i 4294967295) (some (Zz .i64 0,[])) (sel (!Xv l 255) (some (Zz .i64 0,[])) (some (Zz .i64 (Zy .i64 (i+Zy .i64 (300*Zy .i64 (l+1)))),[]))):Option (AV×Blocks))) (by kernel_rfl) ?_
  unfold Kerb.tEnd
  cases h1:Xv i 4294967295
  ·rfl
  cases h2:Xv l 255
  ·rfl
  have a1:=Kerb.within_iff.1 h1
  have a2:=Kerb.within_iff.1 h2
  simp only [Bool.not_true,sel_false,Bool.and_self,if_true]
  rw [wrap_i64 (n:=l+1) (by omega) (by omega),wrap_i64 (n:=300*(l+1)) (by omega) (by omega),wrap_i64 (by omega) (by omega)]
 ·cases h
theorem w77:Walked Tryz.prog G 77 2 sp77:=by
 refine ⟨Tryz.f77,Tryz.func77,by decide +kernel,rfl,fun xs bl r h=> ?_⟩
 unfold sp77 at h
 split at h
 ·rename_i n B at_ li bad
  obtain ⟨hpre,h2⟩:=chk_inv h;cases h2
  show runFnH (G.env 77 2) G.rts (G.own 77) Tryz.f77 _ _ [0]=_
  refine Eq.trans (b:=(Zj (chk (decide (Zx B≤140737488355328)) (some (Zf [Yz (Wg (Wn B at_ n)),Zz .i64 (Wj (Wn B at_ n)),Zz .i64 (Xd (Wn B at_ n))],[]))) fun (r:AV×Blocks)=>onNilB (Zp r) (Vx (Yx r) fun vs=>onCons vs fun x r=>AV.onBs x fun b=>onCons r fun x r=>Yy .i64 x fun n=>onCons r fun x r=>Yy .i64 x fun n_1=>onNil r (some (Yz b,[[Yz B,Zz .i64 (bif bad || !n_1==0 then at_ else n),Zv li,Zv (bad || !n_1==0)]]))):Option (AV×Blocks))) (by kernel_rfl) ?_
  simp only [A0]
  rw [chk_of hpre]
 ·cases h
theorem w83:Walked Tryz.prog G 83 2 sp83:=by
 refine ⟨Tryz.f83,Tryz.func83,by decide +kernel,rfl,fun xs bl r h=> ?_⟩
 unfold sp83 at h
 split at h
 ·rename_i b
  cases h
  refine Eq.trans (b:=(sel (decide ((↑(Zx b):Int)<2)) (some (Zf [Zz .i64 0,Zv false,Zz .i64 101],[])) (chk (decide (0<(↑(Zx b):Int))) (sel (!Zn b (Zu 0) (0:UInt8)==(4:UInt8)) (some (Zf [Zz .i64 0,Zv false,Zz .i64 39],[])) (chk (decide (1<(↑(Zx b):Int))) (sel (!Wx (Zy .i64 (Xm (Zy .i64 (↑(Yk (Zn b (Zu 1) (0:UInt8))):Int)) 2))) (some (Zf [Zz .i64 0,Zv false,Zz .i64 40],[])) (chk (decide (1<(↑(Zx b):Int))) (some (Zf [Zz .i64 (Zy .i64 (Xm (Zy .i64 (↑(Yk (Zn b (Zu 1) (0:UInt8))):Int)) 2)),Zv (Xz (Zu (Yv (↑(Yk (Zn b (Zu 1) (0:UInt8))):Int) (↑(Yk (2:UInt8)):Int)))==(1:UInt8)),Zz .i64 0],[]))))))):Option (AV×Blocks))) (by kernel_rfl) ?_
  unfold Yp
  by_cases h1:b.length<2
  ·rw [sel_pos (by simp;omega)]
   simp [h1]
  rw [sel_neg (by simp;omega),chk_of (by simp;omega),if_neg h1]
  by_cases h2:b.getD 0 0=4
  ·have hb:=(b.getD 1 0).toNat_lt
   have e:Zy Zw (Xm (Zy Zw ((b.getD (Zu 1) 0).toNat:Int)) 2)=(((b.getD 1 0).toNat / 2:Nat):Int):=by
    rw [show Zu 1=1 from rfl,wrap_i64 (n:=((b.getD 1 0).toNat:Int)) (by omega) (by omega),Yf (by omega),wrap_i64 (by omega) (by omega)];omega
   have e2:(Xz (Zu (Yv ((b.getD (Zu 1) 0).toNat:Int) ((2:UInt8).toNat:Int)))==1)=decide ((b.getD 1 0).toNat % 2=1):=by
    rw [show Zu 1=1 from rfl,Yd (by omega)]
    have e3:Zu (((b.getD 1 0).toNat:Int) % ((2:UInt8).toNat:Int))=(b.getD 1 0).toNat % 2:=by
     show Zu (((b.getD 1 0).toNat:Int) % 2)=_
     omega
    rw [e3]
    rcases Nat.mod_two_eq_zero_or_one (b.getD 1 0).toNat with h | h<;>rw [h]<;>rfl
   rw [sel_neg (by simp [h2] at *;exact h2),chk_of (by simp;omega),if_neg (by simpa using h2),e,e2]
   cases hk:Wx (((b.getD 1 0).toNat / 2:Nat):Int)
   ·rfl
   ·rw [Bool.not_true,sel_false,chk_of (by simp;omega)]
    rfl
  ·rw [sel_pos (by simpa using h2),if_pos (by simpa using h2)]
 ·cases h
theorem w86:Walked Tryz.prog G 86 2 sp86:=by
 refine ⟨Tryz.f86,Tryz.func86,by decide +kernel,rfl,fun xs bl r h=> ?_⟩
 unfold sp86 at h
 split at h
 ·rename_i b pos k little
  obtain ⟨hpre,h2⟩:=chk_inv h;cases h2
  refine Eq.trans (b:=(Zj (chk (decide (Zx b≤4611686018427387904)) (some (Zz .i64 (Xx b pos k),[]))) (kI .i64 fun n=>sel (!n==0) (some (Zf [Zz .i64 0,Zz .i64 0,Zz .i64 n],[])) (Zj (loopM (fun (st:List AV)=>cBs st fun b r=>cInt .i64 r fun n r=>cInt .i64 r fun n_1 r=>cBool r fun b_1 r=>cInt .i64 r fun n_2 r=>let t0:BitVec (Zk .i64):=BitVec.ofInt (Zk .i64) (Zy .i64 (n_2*2 ^ min (Zu 8) (Zk .i64)));cInt .i64 r fun n_3 r=>cInt .i64 r fun n_4 r=>let t1:Int:=Zy .i64 (n+Zy .i64 (Zy .i64 (n_1-1)-n_4));onNil r (sel (decide (n_4<n_3)) (sel b_1 (chk (decide (0≤t1)&&decide (t1<(↑(Zx b):Int))) (some (Yn [Yz b,Zz .i64 n,Zz .i64 n_1,Zv b_1,Zz .i64 (Zy .i64 (↑(BitVec.toNat (t0 ||| BitVec.ofInt (Zk .i64) (Zy .i64 (↑(Yk (Zn b (Zu t1) (0:UInt8))):Int)))):Int)),Zz .i64 n_3,Zz .i64 (Zy .i64 (n_4+1))]))) (chk (decide (0≤Zy .i64 (n+n_4))&&decide (Zy .i64 (n+n_4)<(↑(Zx b):Int))) (some (Yn [Yz b,Zz .i64 n,Zz .i64 n_1,Zv b_1,Zz .i64 (Zy .i64 (↑(BitVec.toNat (t0 ||| BitVec.ofInt (Zk .i64) (Zy .i64 (↑(Yk (Zn b (Zu (Zy .i64 (n+n_4))) (0:UInt8))):Int)))):Int)),Zz .i64 n_3,Zz .i64 (Zy .i64 (n_4+1))])))) (some (Ym (Yj 0,[Yz b,Zz .i64 n,Zz .i64 n_1,Zv b_1,Zz .i64 n_2,Zz .i64 n_3,Zz .i64 n_4]))))) [Yz b,Zz .i64 pos,Zz .i64 k,Zv little,Zz .i64 0,Zz .i64 k,Zz .i64 0]) fun (r:Ex×List AV)=>cBs (Zp r) fun b r_1=>cInt .i64 r_1 fun n r_2=>cInt .i64 r_2 fun n_1 r_3=>cBool r_3 fun b r_4=>cInt .i64 r_4 fun n_2 r_5=>cInt .i64 r_5 fun n_3 r_6=>cInt .i64 r_6 fun n_4 r_7=>onNil r_7 (exK r.1 none fun (j:Nat)=>sel (Xn j 0) (some (Zf [Zz .i64 n_2,Zz .i64 (Zy .i64 (n+n_1)),Zz .i64 0],[])) none))):Option (AV×Blocks))) (by kernel_rfl) ?_
  delta kI
  try dsimp only [cStr,cBs,cBool,cU8,cInt,cSl,l63]
  simp only [Zd,decide_eq_true_eq] at hpre
  obtain ⟨⟨hb,hk0⟩,hk4⟩:=hpre
  simp only [A0]
  rw [chk_of (by simpa using hb)]
  unfold Ww
  by_cases hr:Xx b pos k=0
  ·rw [sel_neg (by simp [hr]),if_pos hr]
   obtain ⟨q1,q2,q3,q4⟩:=Kerb.room_zero.1 hr
   have hcl:=Kerb.cut_length hr
   obtain ⟨L,hL⟩:∃ L,L=cond little (Kerb.cut b pos k).reverse (Kerb.cut b pos k):=⟨_,rfl⟩
   have hLl:L.length=k.toNat:=by rw [hL];cases little<;>simp [hcl]
   rw [← hL]
   refine loop_rounds (fun i:Nat=>[Yz b,Zz Zw pos,Zz Zw k,Zv little,Zz Zw (Kerb.valB (L.take i)),Zz Zw k,Zz Zw (i:Int)]) (fun i=>i≤k.toNat) (fun i=>k.toNat-i)
    (fun r=>r=(Yj 0,[Yz b,Zz Zw pos,Zz Zw k,Zv little,Zz Zw (Kerb.valB L),Zz Zw k,Zz Zw k])) 0 (Xw _) rfl ?_ ?_
   ·intro i hi
    simp only [A0]
    by_cases hlt:i<k.toNat
    ·rw [sel_pos (by simp;omega)]
     have hv:=Kerb.valB_bd (l:=L.take i) (by simp;omega)
     have hs:=Kerb.valB_take (l:=L) (i:=i) (by omega)
     have hgd:L.getD i 0=b.getD (cond little (pos.toNat+(k.toNat-1-i)) (pos.toNat+i)) 0:=by
      rw [hL]
      cases little
      ·exact Kerb.cut_getD hlt
      ·show (Kerb.cut b pos k).reverse.getD i 0=_
       rw [Kerb.getD_reverse (by omega),hcl,Kerb.cut_getD (by omega)];rfl
     cases little
     ·rw [sel_neg rfl,wrap_i64 (n:=pos+(i:Int)) (by omega) (by omega),chk_of (by simp;omega),show (pos+(i:Int)).toNat=pos.toNat+i from by omega]
      rw [Kerb.shl8_or _ hv.1 (by omega),wrap_i64 (n:=(i:Int)+1) (by omega) (by omega)]
      refine ⟨_,rfl,i+1,?_,by omega,by dsimp only;omega⟩
      dsimp only
      rw [hs,hgd];rfl
     ·rw [sel_pos rfl,wrap_i64 (n:=k-1) (by omega) (by omega),wrap_i64 (n:=k-1-(i:Int)) (by omega) (by omega),wrap_i64 (n:=pos+(k-1-(i:Int))) (by omega) (by omega),chk_of (by simp;omega),show (pos+(k-1-(i:Int))).toNat=pos.toNat+(k.toNat-1-i) from by omega]
      rw [Kerb.shl8_or _ hv.1 (by omega),wrap_i64 (n:=(i:Int)+1) (by omega) (by omega)]
      refine ⟨_,rfl,i+1,?_,by omega,by dsimp only;omega⟩
      dsimp only
      rw [hs,hgd];rfl
    ·rw [sel_neg (by simp;omega)]
     refine ⟨_,rfl,?_⟩
     show _=_
     rw [Zh (by omega),show (i:Int)=k from by omega]
   ·rintro r rfl
    simp only [A0]
    rw [sel_pos (Yb _),wrap_i64 (by omega) (by omega)]
  ·rw [sel_pos (by simpa using hr),if_neg hr]
 ·cases h
theorem w88:Walked Tryz.prog G 88 2 sp88:=by
 refine ⟨Tryz.f88,Tryz.func88,by decide +kernel,rfl,fun xs bl r h=> ?_⟩
 unfold sp88 at h
 split at h
 ·rename_i s c
  cases h
  refine Eq.trans (b:=(some (Zz .i64 (Zg c s),[]):Option (AV×Blocks))) (by kernel_rfl) ?_
  rfl
 ·cases h
theorem w92:Walked Tryz.prog G 92 2 sp92:=by
 refine ⟨Tryz.f92,Tryz.func92,by decide +kernel,rfl,fun xs bl r h=> ?_⟩
 unfold sp92 at h
 split at h
 ·rename_i k little
  cases h
  refine Eq.trans (b:=(sel (!Wx k) (some (Yz [],[])) (sel little (some (Yz [(4:UInt8),Xz (Zu (Zy .u8 (Zy .i64 (Zy .i64 (2*k)+1))))],[])) (some (Yz [(4:UInt8),Xz (Zu (Zy .u8 (Zy .i64 (2*k))))],[]))):Option (AV×Blocks))) (by kernel_rfl) ?_
  by_cases h:1≤k∧k≤10
  ·have hk:k=1∨k=2∨k=3∨k=4∨k=5∨k=6∨k=7∨k=8∨k=9∨k=10:=by omega
   rcases hk with rfl | rfl | rfl | rfl | rfl | rfl | rfl | rfl | rfl | rfl<;>cases little<;>rfl
  ·have hk:Wx k=false:=by simp [Wx];omega
   by_cases h1:k<1
   ·simp [sel,Kerb.header,hk,h1]
   ·have h2:10<k:=by omega
    simp [sel,Kerb.header,hk,h1,h2]
 ·cases h
theorem w102:Walked Tryz.prog G 102 2 sp102:=by
 refine ⟨Tryz.f102,Tryz.func102,by decide +kernel,rfl,fun xs bl r h=> ?_⟩
 unfold sp102 at h
 split at h
 ·rename_i n
  obtain ⟨hpre,h2⟩:=chk_inv h;cases h2
  refine Eq.trans (b:=(sel (decide (n<300)) (some (Zf [Zz .i64 0,Zv false],[])) (some (Zf [Zz .i64 (Xj (Zy .i64 (Zy .i64 (Xm n 300)-1)) [255]),Zv true],[])):Option (AV×Blocks))) (by kernel_rfl) ?_
  simp only [Zd,decide_eq_true_eq] at hpre
  by_cases h:n<300
  ·rw [sel_pos (by simpa using h)];simp [h]
  rw [sel_neg (by simpa using h)]
  have e1:Zy .i64 (Xm n 300)=Xm n 300:=by rw [Yf (by omega)];exact wrap_i64 (by omega) (by omega)
  have e2:Zy .i64 (Xm n 300-1)=Xm n 300-1:=by rw [Yf (by omega)];exact wrap_i64 (by omega) (by omega)
  have e3:∀ q,Xj q (intsIn [Zz Zw 255])=Wz q 255:=fun q=>rfl
  try simp only [e3]
  simp only [e1,e2,h,decide_false,Bool.not_false,chk_true,some_bind]
  rfl
 ·cases h
theorem w106:Walked Tryz.prog G 106 2 sp106:=by
 refine ⟨Tryz.f106,Tryz.func106,by decide +kernel,rfl,fun xs bl r h=> ?_⟩
 unfold sp106 at h
 split at h
 ·rename_i els
  obtain ⟨hpre,h2⟩:=chk_inv h;cases h2
  refine Eq.trans (b:=(Zj (loopM (fun (st:List AV)=>cSl 1 st fun b r=>cInt .i64 r fun n r=>cSl 1 r fun b_1 r=>cInt .i64 r fun n_1 r=>cInt .i64 r fun n_2 r=>onNil r (sel (decide (n_2<n_1)) (chk (decide (0≤n_2)&&decide (n_2<(↑(Zx b_1):Int))&&true) (AV.onBs (Zn b_1 (Zu n_2) Xk) fun b_2=>sel (decide (Zy .i64 (n+(↑(Zx b_2):Int))<0)) none (some (Yn [Yw 1 b,Zz .i64 (Zy .i64 (n+(↑(Zx b_2):Int))),Yw 1 b_1,Zz .i64 n_1,Zz .i64 (Zy .i64 (n_2+1))])))) (some (Ym (Yj 0,[Yw 1 b,Zz .i64 n,Yw 1 b_1,Zz .i64 n_1,Zz .i64 n_2]))))) [Yw 1 els,Zz .i64 0,Yw 1 els,Zz .i64 (↑(Zx els):Int),Zz .i64 0]) fun (r:Ex×List AV)=>cSl 1 (Zp r) fun b r_1=>cInt .i64 r_1 fun n r_2=>cSl 1 r_2 fun b_1 r_3=>cInt .i64 r_3 fun n_1 r_4=>cInt .i64 r_4 fun n_2 r_5=>onNil r_5 (exK r.1 none fun (j:Nat)=>sel (Xn j 0) (Zj (chk (decide (0≤n)&&decide (n≤140737488355328)) (some (Yu [],[]))) (kO fun l=>Zj (loopM (fun (st:List AV)=>onCons st fun x r=>Xh x fun b=>cSl 1 r fun b_2 r=>cInt .i64 r fun n r=>cInt .i64 r fun n_3 r=>onNil r (sel (decide (n_3<n)) (chk (decide (0≤n_3)&&decide (n_3<(↑(Zx b_2):Int))&&true) (AV.onBs (Zn b_2 (Zu n_3) Xk) fun b_3=>chk (room (Zx b+Zx b_3) 1) (some (Yn [Yu (b++b_3),Yw 1 b_2,Zz .i64 n,Zz .i64 (Zy .i64 (n_3+1))])))) (some (Ym (Yj 2,[Yu b,Yw 1 b_2,Zz .i64 n,Zz .i64 n_3]))))) [Yu l,Yw 1 b,Zz .i64 (↑(Zx b):Int),Zz .i64 0]) fun (r:Ex×List AV)=>onCons (Zp r) fun x r_6=>Xh x fun b=>cSl 1 r_6 fun b_2 r_7=>cInt .i64 r_7 fun n r_8=>cInt .i64 r_8 fun n r_9=>onNil r_9 (exK r.1 none fun (j:Nat)=>sel (Xn j 2) (some (Yu b,[])) none))) none):Option (AV×Blocks))) (by kernel_rfl) ?_
  delta kO
  try dsimp only [cStr,cBs,cBool,cU8,cInt,cSl,l63]
  simp only [Zd,decide_eq_true_eq] at hpre
  obtain ⟨⟨ha,hl⟩,hbig⟩:=hpre
  refine loop_rounds (fun i:Nat=>[Yw 1 els,Zz Zw ((catB (els.take i)).length:Int),Yw 1 els,Zz Zw (els.length:Int),Zz Zw (i:Int)]) (fun i=>i≤els.length) (fun i=>els.length-i)
   (fun r=>r=(Yj 0,[Yw 1 els,Zz Zw ((catB els).length:Int),Yw 1 els,Zz Zw (els.length:Int),Zz Zw (els.length:Int)])) 0 (Xw _) rfl ?_ ?_
  ·intro i hi
   simp only [A0]
   by_cases hlt:i<els.length
   ·obtain ⟨l,h1,h2,h3⟩:=Kerb.cat_step ha hlt
    rw [sel_pos (by simp;omega),chk_of (by simp;omega),Zm,h1,onBs_bs,wrap_i64 (n:=((catB (els.take i)).length:Int)+(l.length:Int)) (by omega) (by omega),sel_neg (by simp;omega),wrap_i64 (by omega) (by omega)]
    refine ⟨_,rfl,i+1,?_,by omega,by dsimp only;omega⟩
    dsimp only
    rw [h2,List.length_append,Int.natCast_add]
    rfl
   ·rw [sel_neg (by simp;omega)]
    refine ⟨_,rfl,?_⟩
    show _=_
    rw [Zh (by omega),show i=els.length from by omega]
  rintro r rfl
  simp only [A0]
  rw [sel_pos (Yb _),chk_of (by simp;omega)]
  refine loop_rounds (fun i:Nat=>[Yu (catB (els.take i)),Yw 1 els,Zz Zw (els.length:Int),Zz Zw (i:Int)]) (fun i=>i≤els.length) (fun i=>els.length-i)
   (fun r=>r=(Yj 2,[Yu (catB els),Yw 1 els,Zz Zw (els.length:Int),Zz Zw (els.length:Int)])) 0 (Xw _) rfl ?_ ?_
  ·intro i hi
   simp only [A0]
   by_cases hlt:i<els.length
   ·obtain ⟨l,h1,h2,h3⟩:=Kerb.cat_step ha hlt
    rw [sel_pos (by simp;omega),chk_of (by simp;omega),Zm,h1,onBs_bs,chk_of (Xf (by omega)),wrap_i64 (by omega) (by omega)]
    refine ⟨_,rfl,i+1,?_,by omega,by dsimp only;omega⟩
    dsimp only
    rw [h2]
    rfl
   ·rw [sel_neg (by simp;omega)]
    refine ⟨_,rfl,?_⟩
    show _=_
    rw [Zh (by omega),show i=els.length from by omega]
  rintro r rfl
  simp only [A0]
  rw [sel_pos (Yb _)]
 ·cases h
theorem w113:Walked Tryz.prog G 113 2 sp113:=by
 refine ⟨Tryz.f113,Tryz.func113,by decide +kernel,rfl,fun xs bl r h=> ?_⟩
 unfold sp113 at h
 split at h
 ·rename_i k
  obtain ⟨hpre,h2⟩:=chk_inv h;cases h2
  refine Eq.trans (b:=(sel (!k==0) (some (Zv ((bif Vz (Zy .i64 (Int.fdiv k (2 ^ min (Zu 56) (Zk .u64))))&&Wm (Zy .i64 (Zy .u64 (↑(BitVec.toNat (BitVec.ofInt (Zk .u64) k &&& BitVec.ofInt (Zk .u64) 72057594037927935)):Int))) then Zy .i64 (Int.fdiv k (2 ^ min (Zu 56) (Zk .u64)))*72057594037927936+Zy .i64 (Zy .u64 (↑(BitVec.toNat (BitVec.ofInt (Zk .u64) k &&& BitVec.ofInt (Zk .u64) 72057594037927935)):Int)) else 0)==k),[])) (some (Zv false,[])):Option (AV×Blocks))) (by kernel_rfl) ?_
  simp only [Zd,decide_eq_true_eq] at hpre
  obtain ⟨h0,h1⟩:=hpre
  rw [Kerb.key_hi h0 h1,Kerb.key_lo h0 h1,Kerb.key_sum]
  by_cases hk:k=0
  ·subst hk;rfl
  rw [sel_pos (by simpa using hk)]
  unfold Xu
  cases Vz (Kerb.keyClass k)&&Wm (Kerb.keySerial k)
  ·have q:((0:Int)==k)=false:=by simp;omega
   simp only [cond_false,q]
  ·simp only [cond_true,BEq.rfl]
 ·cases h
theorem w118:Walked Tryz.prog G 118 2 sp118:=by
 refine ⟨Tryz.f118,Tryz.func118,by decide +kernel,rfl,fun xs bl r h=> ?_⟩
 unfold sp118 at h
 split at h
 ·rename_i b pos k little
  obtain ⟨hpre,h2⟩:=chk_inv h;cases h2
  refine Eq.trans (b:=(Zj (chk (decide (Zx b≤140737488355328)) (some (Zf [Yz (Wg (Wn b pos k)),Zz .i64 (Wj (Wn b pos k)),Zz .i64 (Xd (Wn b pos k))],[]))) (kT fun vs=>cBs vs fun b r=>cInt .i64 r fun n r=>cInt .i64 r fun n_1 r=>onNil r (sel (!n_1==0) (some (Zf [Zz .i64 0,Zz .i64 0,Zz .i64 n_1],[])) (Zj (loopM (fun (st:List AV)=>cInt .i64 st fun n r=>cBool r fun b r=>cBs r fun b_1 r=>cInt .i64 r fun n_2 r=>cInt .i64 r fun n_3 r=>let t0:BitVec (Zk .i64):=BitVec.ofInt (Zk .i64) (Zy .i64 (n_3*2 ^ min (Zu 8) (Zk .i64)));cInt .i64 r fun n_4 r=>let t1:Int:=Zy .i64 (Zy .i64 (n-1)-n_4);onNil r (sel (decide (n_4<n)) (sel b (chk (decide (0≤t1)&&decide (t1<(↑(Zx b_1):Int))) (some (Yn [Zz .i64 n,Zv b,Yz b_1,Zz .i64 n_2,Zz .i64 (Zy .i64 (↑(BitVec.toNat (t0 ||| BitVec.ofInt (Zk .i64) (Zy .i64 (↑(Yk (Zn b_1 (Zu t1) (0:UInt8))):Int)))):Int)),Zz .i64 (Zy .i64 (n_4+1))]))) (chk (decide (0≤n_4)&&decide (n_4<(↑(Zx b_1):Int))) (some (Yn [Zz .i64 n,Zv b,Yz b_1,Zz .i64 n_2,Zz .i64 (Zy .i64 (↑(BitVec.toNat (t0 ||| BitVec.ofInt (Zk .i64) (Zy .i64 (↑(Yk (Zn b_1 (Zu n_4) (0:UInt8))):Int)))):Int)),Zz .i64 (Zy .i64 (n_4+1))])))) (some (Ym (Yj 0,[Zz .i64 n,Zv b,Yz b_1,Zz .i64 n_2,Zz .i64 n_3,Zz .i64 n_4]))))) [Zz .i64 k,Zv little,Yz b,Zz .i64 n,Zz .i64 0,Zz .i64 0]) fun (r:Ex×List AV)=>cInt .i64 (Zp r) fun n r_1=>cBool r_1 fun b r_2=>cBs r_2 fun b r_3=>cInt .i64 r_3 fun n r_4=>cInt .i64 r_4 fun n_2 r_5=>cInt .i64 r_5 fun n_3 r_6=>onNil r_6 (exK r.1 none fun (j:Nat)=>sel (Xn j 0) (some (Zf [Zz .i64 n_2,Zz .i64 n,Zz .i64 0],[])) none)))):Option (AV×Blocks))) (by kernel_rfl) ?_
  delta kT
  try dsimp only [cStr,cBs,cBool,cU8,cInt,cSl,l63]
  simp only [Zd,decide_eq_true_eq] at hpre
  obtain ⟨⟨hb,hk0⟩,hk4⟩:=hpre
  simp only [A0]
  rw [chk_of (by simpa using hb)]
  unfold Ww Wn
  by_cases hr:Xx b pos k=0
  case neg =>
   rw [if_neg hr,if_neg hr,sel_pos (by simpa using hr)]
  rw [if_pos hr,if_pos hr,sel_neg (by simp)]
  obtain ⟨q1,q2,q3,q4⟩:=Kerb.room_zero.1 hr
  have hcl:=Kerb.cut_length hr
  obtain ⟨C,hC⟩:∃ C,C=Kerb.cut b pos k:=⟨_,rfl⟩
  rw [← hC] at hcl ⊢
  obtain ⟨L,hL⟩:∃ L,L=cond little C.reverse C:=⟨_,rfl⟩
  have hLl:L.length=k.toNat:=by rw [hL];cases little<;>simp [hcl]
  rw [← hL]
  refine loop_rounds (fun i:Nat=>[Zz Zw k,Zv little,Yz C,Zz Zw (pos+k),Zz Zw (Kerb.valB (L.take i)),Zz Zw (i:Int)]) (fun i=>i≤k.toNat) (fun i=>k.toNat-i)
   (fun r=>r=(Yj 0,[Zz Zw k,Zv little,Yz C,Zz Zw (pos+k),Zz Zw (Kerb.valB L),Zz Zw k])) 0 (Xw _) rfl ?_ ?_
  ·intro i hi
   simp only [A0]
   by_cases hlt:i<k.toNat
   ·rw [sel_pos (by simp;omega)]
    have hv:=Kerb.valB_bd (l:=L.take i) (by simp;omega)
    have hs:=Kerb.valB_take (l:=L) (i:=i) (by omega)
    have hgd:L.getD i 0=C.getD (cond little (k.toNat-1-i) i) 0:=by
     rw [hL]
     cases little
     ·rfl
     ·show C.reverse.getD i 0=_
      rw [Kerb.getD_reverse (by omega),hcl];rfl
    cases little
    ·rw [sel_neg rfl,chk_of (by simp;omega),Zm]
     rw [Kerb.shl8_or _ hv.1 (by omega),wrap_i64 (n:=(i:Int)+1) (by omega) (by omega)]
     refine ⟨_,rfl,i+1,?_,by omega,by dsimp only;omega⟩
     dsimp only
     rw [hs,hgd];rfl
    ·rw [sel_pos rfl,wrap_i64 (n:=k-1) (by omega) (by omega),wrap_i64 (n:=k-1-(i:Int)) (by omega) (by omega),chk_of (by simp;omega),show (k-1-(i:Int)).toNat=k.toNat-1-i from by omega]
     rw [Kerb.shl8_or _ hv.1 (by omega),wrap_i64 (n:=(i:Int)+1) (by omega) (by omega)]
     refine ⟨_,rfl,i+1,?_,by omega,by dsimp only;omega⟩
     dsimp only
     rw [hs,hgd];rfl
   ·rw [sel_neg (by simp;omega)]
    refine ⟨_,rfl,?_⟩
    show _=_
    rw [Zh (by omega),show (i:Int)=k from by omega]
  ·rintro r rfl
   simp only [A0]
   rw [sel_pos (Yb _)]
 ·cases h
theorem w123:Walked Tryz.prog G 123 2 sp123:=by
 refine ⟨Tryz.f123,Tryz.func123,by decide +kernel,rfl,fun xs bl r h=> ?_⟩
 unfold sp123 at h
 split at h
 ·rename_i s c
  cases h
  refine Eq.trans (b:=(some (Zz .i64 (Zg c s),[]):Option (AV×Blocks))) (by kernel_rfl) ?_
  rfl
 ·cases h
theorem w7:Walked Tryz.prog G 7 3 sp7:=by
 refine ⟨Tryz.f7,Tryz.func7,by decide +kernel,rfl,fun xs bl r h=> ?_⟩
 unfold sp7 at h
 split at h
 ·rename_i n m
  obtain ⟨hpre,h2⟩:=chk_inv h;cases h2
  refine Eq.trans (b:=(Zj (chk (decide (0≤m)) (some (Zq (Vy m),[]))) fun (r:AV×Blocks)=>onNilB (Zp r) (Xp (Yx r) fun b=>Zj (chk (decide (0≤n)) (some (Zq (Vy n),[]))) fun (r:AV×Blocks)=>onNilB (Zp r) (Xp (Yx r) fun b_1=>some (AV.agg [Zq [(107:UInt8),(114:UInt8),(98:UInt8),(116:UInt8),(103:UInt8),(116:UInt8)],Zq b,Zq b_1],[]))):Option (AV×Blocks))) (by kernel_rfl) ?_
  simp only [Zd,decide_eq_true_eq] at hpre
  obtain ⟨h0,h1⟩:=hpre
  simp only [h0,h1,decide_true,↓A0,A0]
  rfl
 ·cases h
theorem w9:Walked Tryz.prog G 9 3 sp9:=by
 refine ⟨Tryz.f9,Tryz.func9,by decide +kernel,rfl,fun xs bl r h=> ?_⟩
 unfold sp9 at h
 split at h
 ·rename_i n
  obtain ⟨hpre,h2⟩:=chk_inv h;cases h2
  refine Eq.trans (b:=(chk (decide (0≤Yv n 3)&&decide (Yv n 3<(↑(Zx [Zq [(97:UInt8),(110:UInt8),(110:UInt8)],Zq [(98:UInt8),(111:UInt8),(98:UInt8)],Zq [(99:UInt8),(97:UInt8),(116:UInt8)]]):Int))&&true) (Xp (Zn [Zq [(97:UInt8),(110:UInt8),(110:UInt8)],Zq [(98:UInt8),(111:UInt8),(98:UInt8)],Zq [(99:UInt8),(97:UInt8),(116:UInt8)]] (Zu (Yv n 3)) Xk) fun b=>Zj (chk (decide (0≤Zy .i64 (Xm n 3))) (some (Zq (Vy (Zy .i64 (Xm n 3))),[]))) fun (r:AV×Blocks)=>onNilB (Zp r) (Xp (Yx r) fun b_1=>some (AV.agg [Zq b,Zq [],Zq b_1],[]))):Option (AV×Blocks))) (by kernel_rfl) ?_
  have hn:0≤n:=by first | exact of_decide_eq_true hpre | (simp only [Zd,decide_eq_true_eq] at hpre;exact hpre.1)
  have ht:Yv n 3=n % 3:=Yd hn
  have hcase:n % 3=0∨n % 3=1∨n % 3=2:=by omega
  simp only [Zd,decide_eq_true_eq] at hpre
  have hd:Xm n 3=n / 3:=Yf hn
  rw [hd,wrap_i64 (by omega) (by omega)]
  have hq:decide ((0:Int)≤n / 3)=true:=by simp;omega
  rcases hcase with e | e | e<;>simp [ht,e,chk,Xp,Kerb.user,hq,onNilB]<;>omega
 ·cases h
theorem w15:Walked Tryz.prog G 15 3 sp15:=by
 refine ⟨Tryz.f15,Tryz.func15,by decide +kernel,rfl,fun xs bl r h=> ?_⟩
 unfold sp15 at h
 split at h
 ·rename_i n
  obtain ⟨hpre,h2⟩:=chk_inv h;cases h2
  refine Eq.trans (b:=(chk (decide (0≤Yv n 3)&&decide (Yv n 3<(↑(Zx [AV.agg [Zq [(109:UInt8),(97:UInt8),(105:UInt8),(108:UInt8)],Zq [],Zq []],AV.agg [Zq [(110:UInt8),(102:UInt8),(115:UInt8)],Zq [(104:UInt8),(111:UInt8),(109:UInt8),(101:UInt8)],Zq []],AV.agg [Zq [(107:UInt8),(114:UInt8),(98:UInt8),(116:UInt8),(103:UInt8),(116:UInt8)],Zq [(65:UInt8),(84:UInt8),(72:UInt8)],Zq []]]):Int))&&true) (Vw (Zn [AV.agg [Zq [(109:UInt8),(97:UInt8),(105:UInt8),(108:UInt8)],Zq [],Zq []],AV.agg [Zq [(110:UInt8),(102:UInt8),(115:UInt8)],Zq [(104:UInt8),(111:UInt8),(109:UInt8),(101:UInt8)],Zq []],AV.agg [Zq [(107:UInt8),(114:UInt8),(98:UInt8),(116:UInt8),(103:UInt8),(116:UInt8)],Zq [(65:UInt8),(84:UInt8),(72:UInt8)],Zq []]] (Zu (Yv n 3)) Xk) fun cs=>onCons cs fun x r=>Xp x fun b=>onCons r fun x r=>Xp x fun b_1=>onCons r fun x r=>Xp x fun b_2=>onNil r (Zj (chk (decide (0≤Zy .i64 (Xm n 3))) (some (Zq (Vy (Zy .i64 (Xm n 3))),[]))) fun (r:AV×Blocks)=>onNilB (Zp r) (Xp (Yx r) fun b_3=>some (AV.agg [Zq b,Zq b_1,Zq b_3],[])))):Option (AV×Blocks))) (by kernel_rfl) ?_
  have hn:0≤n:=by first | exact of_decide_eq_true hpre | (simp only [Zd,decide_eq_true_eq] at hpre;exact hpre.1)
  have ht:Yv n 3=n % 3:=Yd hn
  have hcase:n % 3=0∨n % 3=1∨n % 3=2:=by omega
  simp only [Zd,decide_eq_true_eq] at hpre
  have hd:Xm n 3=n / 3:=Yf hn
  rw [hd,wrap_i64 (by omega) (by omega)]
  have hq:decide ((0:Int)≤n / 3)=true:=by simp;omega
  rcases hcase with e | e | e<;>simp [ht,e,chk,Xp,Vw,onCons,onNil,Kerb.service,hq,onNilB]<;>omega
 ·cases h
theorem w17:Walked Tryz.prog G 17 3 sp17:=by
 refine ⟨Tryz.f17,Tryz.func17,by decide +kernel,rfl,fun xs bl r h=> ?_⟩
 unfold sp17 at h
 split at h
 ·rename_i l
  obtain ⟨hpre,h2⟩:=chk_inv h;cases h2
  refine Eq.trans (b:=(Zj (loopM (fun (st:List AV)=>cBs st fun b r=>cInt .i64 r fun n r=>onCons r fun x r=>AV.onOwnL x fun b_1=>let t0:Option (List AV ⊕ Ex×List AV):=some (Ym (Yj 0,[Yz b,Zz .i64 n,AV.ownL b_1]));onNil r (sel (decide (n<(↑(Zx b):Int))) (sel (decide ((↑(Zx b_1):Int)<25)) (Zj (chk (decide (Zx b≤4611686018427387904)&&decide (0≤n)) (some (Zz .i64 (Wb b n 3),[[Yz b,Zz .i64 (Wf b n 3)]]))) fun (r:AV×Blocks)=>onConsB (Zp r) fun (x:List AV) (r_1:List (List AV))=>cBs x fun b r_2=>cInt .i64 r_2 fun n r_3=>onNil r_3 (onNilB r_1 (Yy .i64 (Yx r) fun n_1=>Zj (chk (decide (0≤n_1)) (some (Zq (Vy n_1),[]))) (kS fun b_2=>Zj (chk (decide (Zx b≤4611686018427387904)&&decide (0≤n)) (some (Zz .i64 (Wb b n 3),[[Yz b,Zz .i64 (Wf b n 3)]]))) fun (r:AV×Blocks)=>onConsB (Zp r) fun (x:List AV) (r_4:List (List AV))=>cBs x fun b r_5=>cInt .i64 r_5 fun n r_6=>onNil r_6 (onNilB r_4 (Yy .i64 (Yx r) fun n_2=>Zj (chk (decide (0≤n_2)) (some (Zq (Vy n_2),[]))) (kS fun b_3=>Zj (chk (decide (Zx b≤4611686018427387904)&&decide (0≤n)) (some (Zz .i64 (Wb b n 4),[[Yz b,Zz .i64 (Wf b n 4)]]))) fun (r:AV×Blocks)=>onConsB (Zp r) fun (x:List AV) (r_7:List (List AV))=>cBs x fun b r_8=>cInt .i64 r_8 fun n r_9=>onNil r_9 (onNilB r_7 (Yy .i64 (Yx r) fun n_3=>Zj (chk (decide (Zx b≤4611686018427387904)&&decide (0≤n)) (some (Zz .i64 (Wb b n 9),[[Yz b,Zz .i64 (Wf b n 9)]]))) fun (r:AV×Blocks)=>onConsB (Zp r) fun (x:List AV) (r_10:List (List AV))=>cBs x fun b r_11=>cInt .i64 r_11 fun n r_12=>onNil r_12 (onNilB r_10 (Yy .i64 (Yx r) fun n_4=>Zj (chk (decide (0≤Zy .i64 (100+n_4))&&decide (Zy .i64 (100+n_4)≤1000)) (some (Zz .u64 (Kerb.long (Zy .i64 (100+n_4))),[]))) (kI .u64 fun n_5=>let t1:List AV:=[AV.agg [Zq b_2,Zq b_3,Zz .i64 n_3,Zz .u64 n_5]];chk (room (Zx b_1+Zx t1) (nat_lit 48)) (some (Yn [Yz b,Zz .i64 n,AV.ownL (b_1++t1)])))))))))))))) t0) t0)) [Yz l,Zz .i64 0,AV.ownL []]) fun (r:Ex×List AV)=>cBs (Zp r) fun b r_1=>cInt .i64 r_1 fun n r_2=>onCons r_2 fun x r_3=>AV.onOwnL x fun b=>onNil r_3 (exK r.1 none fun (j:Nat)=>sel (Xn j 0) (some (Yw 4 b,[])) none):Option (AV×Blocks))) (by kernel_rfl) ?_
  delta kS kI
  try dsimp only [cStr,cBs,cBool,cU8,cInt,cSl,l63]
  have hl:=of_decide_eq_true hpre
  have c:decide (l.length≤4611686018427387904)=true:=by simp;omega
  have r48:∀ {m:Nat},m≤1000→Go.Abs.room m 48=true:=fun h=>by simp [Go.Abs.room];omega
  refine loop_rounds (fun q:Nat×Int×List Kerb.Cross=>[Yz l,Zz Zw q.2.1,AV.ownL (q.2.2.map Zb)]) (fun q=>(l.length:Int)<q.1+q.2.1∧0≤q.2.1∧q.2.2.length≤25∧Kerb.crossLoop l q.1 q.2.1 q.2.2=Kerb.dataCross l) (fun q=>q.1)
   (fun r=>∃ p:Int,r=(Yj 0,[Yz l,Zz Zw p,AV.ownL ((Kerb.dataCross l).map Zb)])) (l.length+1,0,[]) ⟨by dsimp only;omega,by simp,by simp,rfl⟩ rfl ?_ ?_
  ·rintro ⟨f,p,acc⟩ ⟨hf,hp,ha,he⟩
   dsimp only at hf hp ha he
   simp (config:={maxSteps:=10000000}) only [Wh,↓sInt,↓sU8,↓sBool,↓sStr,↓sBs,↓sSl,↓sAgg,↓sTup,↓sCons,↓sNil,↓sNilB,↓sChk,↓sChkBind,↓sSome,↓sOwnL,↓sConsB,↓sOwnB]
   have h0:∀ n,Wf l p n=Wf l p n:=fun _=>rfl
   have cp:decide ((0:Int)≤p)=true:=by simpa using hp
   by_cases h1:p<l.length
   case neg =>
    rw [sel_neg (by simpa using h1)]
    have hk:acc=Kerb.dataCross l:=by
     cases f with
     | zero=>exact he
     | succ g=>rw [← he];unfold Kerb.crossLoop;rw [if_neg (by omega)]
    exact ⟨_,rfl,p,by rw [← hk]⟩
   rw [sel_pos (by simpa using h1)]
   by_cases h2:acc.length<25
   case neg =>
    rw [sel_neg (by simp;omega)]
    have hk:acc=Kerb.dataCross l:=by
     cases f with
     | zero=>exact he
     | succ g=>rw [← he];unfold Kerb.crossLoop;rw [if_neg (by omega)]
    exact ⟨_,rfl,p,by rw [← hk]⟩
   rw [sel_pos (by simp;omega)]
   have hw:∀ q,Zy .i64 (100+Wb l q 9)=100+Wb l q 9:=fun q=>by have:=Kerb.next_bd l q 9;exact wrap_i64 (by omega) (by omega)
   have hw2:∀ q,decide ((0:Int)≤100+Wb l q 9)=true:=fun q=>by have:=Kerb.next_bd l q 9;simp;omega
   have hw3:∀ q,decide (100+Wb l q 9≤1000)=true:=fun q=>by have:=Kerb.next_bd l q 9;simp;omega
   obtain ⟨g,rfl⟩:∃ g,f=g+1:=⟨f-1,by omega⟩
   unfold Kerb.crossLoop at he
   rw [if_pos ⟨h1,h2⟩] at he
   have hg:=Kerb.cr4_gt hp h1
   simp (config:={maxSteps:=10000000}) only [c,cp,Kerb.next_dec,Kerb.next_dec62,Kerb.next_dec1000,Kerb.nextPos_dec,Kerb.realm_lenB,hw,hw2,hw3,Bool.and_self,List.length_cons,List.length_nil,↓sInt,↓sU8,↓sBool,↓sStr,↓sBs,↓sSl,↓sAgg,↓sTup,↓sCons,↓sNil,↓sNilB,↓sChk,↓sChkBind,↓sSome,↓sOwnL,↓sConsB,↓sOwnB]
   rw [chk_of (r48 (by omega))]
   refine ⟨_,rfl,(g,Kerb.cr4 l p,acc++[Kerb.dataCr l p]),?_,⟨by dsimp only;push_cast at hf;omega,by dsimp only;omega,by dsimp only;simp;omega,he⟩,by simp⟩
   dsimp only
   rw [List.map_append]
   rfl
  ·rintro _ ⟨p,rfl⟩
   simp only [↓A0,A0]
   rw [sel_pos (Yb _)]
 ·cases h
theorem w19:Walked Tryz.prog G 19 3 sp19:=by
 refine ⟨Tryz.f19,Tryz.func19,by decide +kernel,rfl,fun xs bl r h=> ?_⟩
 unfold sp19 at h
 split at h
 ·rename_i a b c
  obtain ⟨hpre,h2⟩:=chk_inv h;cases h2
  refine Eq.trans (b:=(Zj (chk (decide (Zx a≤9223372036854775807)) (some (Zv (Kerb.validName a),[]))) fun (r:AV×Blocks)=>onNilB (Zp r) (Wv (Yx r) fun b_1=>sel b_1 (Zj (chk (decide (Zx b≤9223372036854775807)) (some (Zv (Kerb.validInst b),[]))) fun (r:AV×Blocks)=>onNilB (Zp r) (Wv (Yx r) fun b=>sel b (Zj (chk (decide (Zx c≤9223372036854775807)) (some (Zv (Kerb.validRealm c),[]))) fun (r:AV×Blocks)=>onNilB (Zp r) (Wv (Yx r) fun b=>some (Zv b,[]))) (some (Zv false,[])))) (some (Zv false,[]))):Option (AV×Blocks))) (by kernel_rfl) ?_
  simp only [Zd,decide_eq_true_eq] at hpre
  simp only [A0]
  rw [chk_of (by simp;omega),chk_of (by simp;omega),chk_of (by simp;omega)]
  simp only [Kerb.Prin.valid]
  cases Kerb.validName a<;>cases Kerb.validInst b<;>rfl
 ·cases h
theorem w35:Walked Tryz.prog G 35 3 sp35:=by
 refine ⟨Tryz.f35,Tryz.func35,by decide +kernel,rfl,fun xs bl r h=> ?_⟩
 unfold sp35 at h
 split at h
 ·rename_i k
  obtain ⟨hpre,h2⟩:=chk_inv h;cases h2
  refine Eq.trans (b:=(Zj (chk (decide (0≤k)&&decide (k<18446744073709551616)) (some (Zf [Zz .i64 (bif Xu k then Kerb.keyClass k else 0),Zz .i64 (bif Xu k then Kerb.keySerial k else 0),Zv (Xu k)],[]))) fun (r:AV×Blocks)=>onNilB (Zp r) (Vx (Yx r) fun vs=>onCons vs fun x r=>Yy .i64 x fun n=>onCons r fun x r=>Yy .i64 x fun n_1=>onCons r fun x r=>Wv x fun b=>onNil r (some (Zz .i64 n,[]))):Option (AV×Blocks))) (by kernel_rfl) ?_
  simp only [hpre,↓A0,A0]
  rfl
 ·cases h
theorem w41:Walked Tryz.prog G 41 3 sp41:=by
 refine ⟨Tryz.f41,Tryz.func41,by decide +kernel,rfl,fun xs bl r h=> ?_⟩
 unfold sp41 at h
 split at h
 ·rename_i B at_ li bad
  obtain ⟨hpre,h2⟩:=chk_inv h;cases h2
  show runFnH (G.env 41 3) G.rts (G.own 41) Tryz.f41 _ _ [0]=_
  refine Eq.trans (b:=(Zj (chk (decide (Zx B≤140737488355328)) (some (Zq (Wg (Xy B at_)),[[Yz B,Zz .i64 (bif bad || !Xd (Xy B at_)==0 then at_ else Wj (Xy B at_)),Zv li,Zv (bad || !Xd (Xy B at_)==0)]]))) fun (r:AV×Blocks)=>onConsB (Zp r) fun (x:List AV) (r_1:List (List AV))=>cBs x fun b r_2=>cInt .i64 r_2 fun n r_3=>cBool r_3 fun b_1 r_4=>cBool r_4 fun b_2 r_5=>onNil r_5 (onNilB r_1 (Xp (Yx r) fun b_3=>Zj (chk (decide (Zx b≤140737488355328)) (some (Zq (Wg (Xy b n)),[[Yz b,Zz .i64 (bif b_2 || !Xd (Xy b n)==0 then n else Wj (Xy b n)),Zv b_1,Zv (b_2 || !Xd (Xy b n)==0)]]))) fun (r:AV×Blocks)=>onConsB (Zp r) fun (x:List AV) (r_6:List (List AV))=>cBs x fun b r_7=>cInt .i64 r_7 fun n r_8=>cBool r_8 fun b_4 r_9=>cBool r_9 fun b_5 r_10=>onNil r_10 (onNilB r_6 (Xp (Yx r) fun b_6=>Zj (chk (decide (Zx b≤140737488355328)) (some (Zq (Wg (Xy b n)),[[Yz b,Zz .i64 (bif b_5 || !Xd (Xy b n)==0 then n else Wj (Xy b n)),Zv b_4,Zv (b_5 || !Xd (Xy b n)==0)]]))) fun (r:AV×Blocks)=>onConsB (Zp r) fun (x:List AV) (r_11:List (List AV))=>cBs x fun b r_12=>cInt .i64 r_12 fun n r_13=>cBool r_13 fun b_7 r_14=>cBool r_14 fun b_8 r_15=>onNil r_15 (onNilB r_11 (Xp (Yx r) fun b_9=>some (AV.agg [Zq b_3,Zq b_6,Zq b_9],[[Yz b,Zz .i64 n,Zv b_7,Zv b_8]]))))))):Option (AV×Blocks))) (by kernel_rfl) ?_
  try dsimp only [cStr,cBs,cBool,cU8,cInt,cSl,l63]
  simp only [A0]
  rw [chk_of hpre,chk_of hpre,chk_of hpre]
  rfl
 ·cases h
theorem w51:Walked Tryz.prog G 51 3 sp51:=by
 refine ⟨Tryz.f51,Tryz.func51,by decide +kernel,rfl,fun xs bl r h=> ?_⟩
 unfold sp51 at h
 split at h
 ·rename_i b els
  obtain ⟨hpre,h2⟩:=chk_inv h;cases h2
  refine Eq.trans (b:=(sel (!Kerb.Head.err (Yp b)==0) (some (Zf [Zv false,Zz .i64 (Kerb.Head.err (Yp b))],[])) (Zj (chk (allInts els&&decide (Zx els≤1000)) (some (Zv (List.contains (intsIn els) (Kerb.Head.kind (Yp b))),[]))) fun (r:AV×Blocks)=>onNilB (Zp r) (Wv (Yx r) fun b_1=>sel (!b_1) (some (Zf [Zv false,Zz .i64 40],[])) (some (Zf [Zv (Kerb.Head.little (Yp b)),Zz .i64 0],[])))):Option (AV×Blocks))) (by kernel_rfl) ?_
  simp only [A0]
  unfold Kerb.headIs
  by_cases h:(Yp b).err=0
  ·rw [sel_neg (by simp [h]),chk_of hpre]
   cases hc:(intsIn els).contains (Yp b).kind<;>simp [sel,h,hc]
  ·rw [sel_pos (by simpa using h)]
   simp [h]
 ·cases h
theorem w53:Walked Tryz.prog G 53 3 sp53:=by
 refine ⟨Tryz.f53,Tryz.func53,by decide +kernel,rfl,fun xs bl r h=> ?_⟩
 unfold sp53 at h
 split at h
 ·rename_i b pos little
  obtain ⟨hpre,h2⟩:=chk_inv h;cases h2
  refine Eq.trans (b:=(Zj (chk (decide (Zx b≤4611686018427387904)&&true&&true) (some (Zf [Zz .i64 (Kerb.Got.val (Ww b pos 4 little)),Zz .i64 (Kerb.Got.next (Ww b pos 4 little)),Zz .i64 (Kerb.Got.err (Ww b pos 4 little))],[]))) fun (r:AV×Blocks)=>onNilB (Zp r) (Vx (Yx r) fun vs=>onCons vs fun x r=>Yy .i64 x fun n=>onCons r fun x r=>Yy .i64 x fun n_1=>onCons r fun x r=>Yy .i64 x fun n_2=>onNil r (some (Zf [Zz .i64 n,Zz .i64 n_1,Zz .i64 n_2],[]))):Option (AV×Blocks))) (by kernel_rfl) ?_
  simp only [A0]
  rw [chk_of (by rw [hpre];rfl)]
 ·cases h
theorem w54:Walked Tryz.prog G 54 3 sp54:=by
 refine ⟨Tryz.f54,Tryz.func54,by decide +kernel,rfl,fun xs bl r h=> ?_⟩
 unfold sp54 at h
 split at h
 ·rename_i b pos
  obtain ⟨hpre,h2⟩:=chk_inv h;cases h2
  refine Eq.trans (b:=(Zj (chk (decide (Zx b≤4611686018427387904)&&true&&true) (some (Zf [Zz .i64 (Kerb.Got.val (Ww b pos 1 false)),Zz .i64 (Kerb.Got.next (Ww b pos 1 false)),Zz .i64 (Kerb.Got.err (Ww b pos 1 false))],[]))) fun (r:AV×Blocks)=>onNilB (Zp r) (Vx (Yx r) fun vs=>onCons vs fun x r=>Yy .i64 x fun n=>onCons r fun x r=>Yy .i64 x fun n_1=>onCons r fun x r=>Yy .i64 x fun n_2=>onNil r (some (Zf [Zz .i64 n,Zz .i64 n_1,Zz .i64 n_2],[]))):Option (AV×Blocks))) (by kernel_rfl) ?_
  simp only [A0]
  rw [chk_of (by rw [hpre];rfl)]
 ·cases h
theorem w55:Walked Tryz.prog G 55 3 sp55:=by
 refine ⟨Tryz.f55,Tryz.func55,by decide +kernel,rfl,fun xs bl r h=> ?_⟩
 unfold sp55 at h
 split at h
 ·rename_i b pos
  obtain ⟨hpre,h2⟩:=chk_inv h;cases h2
  refine Eq.trans (b:=(let t5:List UInt8:=Wk (Zu pos) (Wq (Zu (↑(Zx b):Int)) b);let t6:Option (AV×Blocks):=some (Zf [Zq [],Zz .i64 0,Zz .i64 105],[]);let t7:Option (AV×Blocks):=some (Zf [Zq [],Zz .i64 0,Zz .i64 101],[]);let t1:Int:=Zg (0:UInt8) t5;let t2:Int:=(↑(Zx t5):Int);let t4:List UInt8:=Wk (Zu (↑(0:Nat):Int)) (Wq (Zu 40) t5);let t0:Int:=Zg (0:UInt8) t4;let t3:Int:=(↑(Zx t4):Int);Zj (chk (decide (Zx b≤4611686018427387904)) (some (Zz .i64 (Xx b pos 0),[]))) (kI .i64 fun n=>sel (!n==0) (some (Zf [Zq [],Zz .i64 0,Zz .i64 n],[])) (chk (decide (0≤pos)&&decide (pos≤(↑(Zx b):Int))&&decide ((↑(Zx b):Int)≤(↑(Zx b):Int))) (sel (decide (t2>40)) (chk (decide (40≤t2)) (sel (decide (t0≥0)) (chk (decide ((↑(0:Nat):Int)≤t0)&&decide (t0≤t3)) (some (Zf [Zq (Wk (Zu (↑(0:Nat):Int)) (Wq (Zu t0) t4)),Zz .i64 (Zy .i64 (Zy .i64 (pos+t0)+1)),Zz .i64 0],[]))) (sel (t3==40) t6 t7))) (sel (decide (t1≥0)) (chk (decide ((↑(0:Nat):Int)≤t1)&&decide (t1≤t2)) (some (Zf [Zq (Wk (Zu (↑(0:Nat):Int)) (Wq (Zu t1) t5)),Zz .i64 (Zy .i64 (Zy .i64 (pos+t1)+1)),Zz .i64 0],[]))) (sel (t2==40) t6 t7))))):Option (AV×Blocks))) (by kernel_rfl) ?_
  delta kI
  try dsimp only [cStr,cBs,cBool,cU8,cInt,cSl,l63]
  simp only [decide_eq_true_eq] at hpre
  simp only [A0]
  rw [chk_of (by simpa using hpre)]
  have ht:(Wq (Zu (b.length:Int)) b)=b:=by simp
  rw [ht]
  unfold Xy
  by_cases hr:Xx b pos 0=0
  case neg =>
   have h104:Xx b pos 0=104:=by
    unfold Xx at hr ⊢
    split at hr
    ·rw [if_pos (by assumption)]
    ·split at hr<;>omega
   rw [sel_pos (by simpa using hr),if_neg hr,h104]
  obtain ⟨q1,q2,_,_⟩:=Kerb.room_zero.1 hr
  rw [sel_neg (by simp [hr]),if_pos hr,chk_of (by simp;omega)]
  obtain ⟨R,hR⟩:∃ R,R=b.drop pos.toNat:=⟨_,rfl⟩
  have hRl:R.length=b.length-pos.toNat:=by rw [hR];simp
  rw [← hR]
  obtain ⟨T,hT⟩:∃ T,T=R.take 40:=⟨_,rfl⟩
  have hix:=Kerb.indexOf_bd 0 T
  have key:(sel (decide (Zg (0:UInt8) T≥(0:Int)))
    (chk (decide (((0:Nat):Int)≤Zg (0:UInt8) T)&&decide (Zg (0:UInt8) T≤(T.length:Int)))
     (some (Zf [Zq (Wk (Zu ((0:Nat):Int)) (Wq (Zu (Zg (0:UInt8) T)) T)),Zz Zw (Zy Zw (Zy Zw (pos+Zg (0:UInt8) T)+(1:Int))),Zz Zw (0:Int)],([]:Blocks))))
    (sel (((T.length:Int))==(40:Int)) (some (Zf [Zq [],Zz Zw (0:Int),Zz Zw (105:Int)],[]))
     (some (Zf [Zq [],Zz Zw (0:Int),Zz Zw (101:Int)],[])))) =
    some (Zf [Zq (if 0≤Zg 0 T then (⟨T.take (Zg 0 T).toNat,pos+Zg 0 T+1,0⟩:Kerb.GotB) else if T.length=40 then ⟨[],0,105⟩ else ⟨[],0,101⟩).val,
     Zz Zw (if 0≤Zg 0 T then (⟨T.take (Zg 0 T).toNat,pos+Zg 0 T+1,0⟩:Kerb.GotB) else if T.length=40 then ⟨[],0,105⟩ else ⟨[],0,101⟩).next,
     Zz Zw (if 0≤Zg 0 T then (⟨T.take (Zg 0 T).toNat,pos+Zg 0 T+1,0⟩:Kerb.GotB) else if T.length=40 then ⟨[],0,105⟩ else ⟨[],0,101⟩).err],[]):=by
   have hTl:T.length≤b.length-pos.toNat:=by rw [hT];simp;omega
   by_cases hi:0≤Zg 0 T
   ·rw [sel_pos (by simpa using hi),chk_of (by simp;omega),if_pos hi,wrap_i64 (n:=pos+Zg 0 T) (by omega) (by omega),wrap_i64 (by omega) (by omega)]
    rfl
   ·rw [sel_neg (by simp;omega),if_neg hi]
    by_cases h40:T.length=40
    ·rw [sel_pos (by simp [h40]),if_pos h40]
    ·rw [sel_neg (by simp;omega),if_neg h40]
  by_cases hlong:40<R.length
  ·rw [sel_pos (by simp;omega),chk_of (by simp;omega)]
   have e1:Wk (Zu ((0:Nat):Int)) (Wq (Zu (40:Int)) R)=T:=by rw [hT];rfl
   rw [e1]
   rw [← hT]
   exact key
  ·rw [sel_neg (by simp;omega)]
   have e1:R=T:=by rw [hT,Zh (by omega)]
   rw [← hT,e1]
   exact key
 ·cases h
theorem w66:Walked Tryz.prog G 66 3 sp66:=by
 refine ⟨Tryz.f66,Tryz.func66,by decide +kernel,rfl,fun xs bl r h=> ?_⟩
 unfold sp66 at h
 split at h
 ·rename_i n w els
  obtain ⟨hpre,h2⟩:=chk_inv h;cases h2
  refine Eq.trans (b:=(sel (!Xv n 4294967295) (some (Zf [Zz .i64 0,Zv false],[])) (sel (decide (Xj w [255]<0)) (some (Zf [Zz .i64 0,Zv false],[])) (Zj (chk (allInts els&&decide (Zx els≤1000000)) (some (Zz .i64 (Xj (Kerb.tEnd n (Xj w [255])) (intsIn els)),[]))) fun (r:AV×Blocks)=>onNilB (Zp r) (Yy .i64 (Yx r) fun n_1=>sel (decide (n_1<n)) (some (Zf [Zz .i64 0,Zv false],[])) (Zj (chk (decide ((-9223372036854775808:Int)≤Zy .i64 (n_1-n))&&decide (Zy .i64 (n_1-n)≤9223372036854775807)) (some (Zf [Zz .i64 (bif decide (Zy .i64 (n_1-n)<300) then 0 else Kerb.fromSec (Zy .i64 (n_1-n))),Zv !decide (Zy .i64 (n_1-n)<300)],[]))) fun (r:AV×Blocks)=>onNilB (Zp r) (Vx (Yx r) fun vs=>onCons vs fun x r=>Yy .i64 x fun n=>onCons r fun x r=>Wv x fun b=>onNil r (some (Zf [Zz .i64 n,Zv b],[]))))))):Option (AV×Blocks))) (by kernel_rfl) ?_
  simp only [Zd,decide_eq_true_eq] at hpre
  obtain ⟨⟨ha,hl⟩,hi⟩:=hpre
  have hl0:Xj w [255]=Wz w 255:=rfl
  simp only [hl0,ha,hl,decide_true,Bool.and_self,↓A0,A0]
  unfold Kerb.grantLife
  cases hn:Xv n 4294967295
  ·rfl
  rw [sel_neg (by rfl)]
  have n1:=Kerb.within_iff.1 hn
  by_cases hw:w<0
  ·have h5:Wz w 255<0:=by unfold Wz;split<;>omega
   rw [sel_pos (by simpa using h5),if_pos (by simp [hw])]
  have hm:0≤Wz w 255∧Wz w 255≤255:=by unfold Wz;split<;>omega
  rw [sel_neg (by simp;omega),if_neg (by simp [hw])]
  have ht:Kerb.tEnd n (Wz w 255)=n+300*(Wz w 255+1):=by
   unfold Kerb.tEnd
   rw [if_pos (by rw [hn,Kerb.within_iff.2 hm];rfl)]
  rw [ht]
  have hle:=Kerb.least_le (intsIn els) (n+300*(Wz w 255+1))
  generalize Xj (n+300*(Wz w 255+1)) (intsIn els)=L at hle ⊢
  by_cases h1:L<n
  ·rw [sel_pos (by simpa using h1),if_pos (by omega)]
  rw [sel_neg (by simpa using h1),wrap_i64 (by omega) (by omega),chk_of (by simp;omega)]
  by_cases h2:L-n<300
  ·rw [if_pos h2,show decide (L-n<300)=true from by simpa using h2];rfl
  ·rw [if_neg h2,show decide (L-n<300)=false from by simpa using h2]
   unfold Kerb.fromSec
   rw [Yf (by omega)]
   rfl
 ·cases h
theorem w76:Walked Tryz.prog G 76 3 sp76:=by
 refine ⟨Tryz.f76,Tryz.func76,by decide +kernel,rfl,fun xs bl r h=> ?_⟩
 unfold sp76 at h
 split at h
 ·rename_i b
  obtain ⟨hpre,h2⟩:=chk_inv h;cases h2
  refine Eq.trans (b:=(sel (!(↑(Zx b):Int)==8) (some (Zf [Zz .u64 0,Zv false],[])) (Zj (loopM (fun (st:List AV)=>cBs st fun b r=>cInt .u64 r fun n r=>cInt .i64 r fun n_1 r=>onNil r (sel (decide (n_1<8)) (chk (decide (0≤n_1)&&decide (n_1<(↑(Zx b):Int))) (some (Yn [Yz b,Zz .u64 (Zy .u64 (↑(BitVec.toNat (BitVec.ofInt (Zk .u64) (Zy .u64 (n*2 ^ min (Zu 8) (Zk .u64))) ||| BitVec.ofInt (Zk .u64) (Zy .u64 (↑(Yk (Zn b (Zu n_1) (0:UInt8))):Int)))):Int)),Zz .i64 (Zy .i64 (n_1+1))]))) (some (Ym (Yj 0,[Yz b,Zz .u64 n,Zz .i64 n_1]))))) [Yz b,Zz .u64 0,Zz .i64 0]) fun (r:Ex×List AV)=>cBs (Zp r) fun b r_1=>cInt .u64 r_1 fun n r_2=>cInt .i64 r_2 fun n_1 r_3=>onNil r_3 (exK r.1 none fun (j:Nat)=>sel (Xn j 0) (Zj (chk (decide (0≤n)&&decide (n<18446744073709551616)) (some (Zv (Xu n),[]))) (kL fun b=>sel (!b) (some (Zf [Zz .u64 0,Zv false],[])) (some (Zf [Zz .u64 n,Zv true],[])))) none)):Option (AV×Blocks))) (by kernel_rfl) ?_
  delta kL
  try dsimp only [cStr,cBs,cBool,cU8,cInt,cSl,l63]
  have hb:=of_decide_eq_true hpre
  unfold Kerb.keyRead
  by_cases h8:b.length=8
  case neg =>
   rw [sel_pos (by simp;omega),if_neg (by omega)]
  rw [sel_neg (by simp [h8])]
  refine loop_rounds (fun i:Nat=>[Yz b,Zz Yh (Kerb.valB (b.take i)),Zz Zw (i:Int)]) (fun i=>i≤8) (fun i=>8-i)
   (fun r=>r=(Yj 0,[Yz b,Zz Yh (Kerb.valB b),Zz Zw 8])) 0 (by omega) rfl ?_ ?_
  ·intro i hi
   simp only [A0]
   by_cases hlt:i<8
   ·have hv:=Kerb.valB_take (l:=b) (i:=i) (by omega)
    have hbd:=Kerb.valB_bd7 (l:=b.take i) (by simp;omega)
    rw [sel_pos (by simp;omega),chk_of (by simp;omega),Zm,Kerb.shl8_oru _ hbd.1 hbd.2,wrap_i64 (by omega) (by omega),← hv]
    exact ⟨_,rfl,i+1,rfl,by omega,by dsimp only;omega⟩
   ·rw [sel_neg (by simp;omega)]
    refine ⟨_,rfl,?_⟩
    show _=_
    rw [Zh (by omega),show i=8 from by omega]
    rfl
  rintro r rfl
  have hbd:=Kerb.valB_bd8 (l:=b) (by omega)
  simp only [A0]
  rw [sel_pos (Yb _),chk_of (by simp;omega)]
  cases hv:Xu (Kerb.valB b)
  ·rw [if_neg (by simp)]
   rfl
  ·rw [if_pos ⟨h8,rfl⟩]
   rfl
 ·cases h
theorem w80:Walked Tryz.prog G 80 3 sp80:=by
 refine ⟨Tryz.f80,Tryz.func80,by decide +kernel,rfl,fun xs bl r h=> ?_⟩
 unfold sp80 at h
 split at h
 ·rename_i b pos little
  obtain ⟨hpre,h2⟩:=chk_inv h;cases h2
  refine Eq.trans (b:=(Zj (chk (decide (Zx b≤140737488355328)&&true&&true) (some (Zf [Zz .i64 (Kerb.Got.val (Ww b pos 4 little)),Zz .i64 (Kerb.Got.next (Ww b pos 4 little)),Zz .i64 (Kerb.Got.err (Ww b pos 4 little))],[]))) fun (r:AV×Blocks)=>onNilB (Zp r) (Vx (Yx r) fun vs=>onCons vs fun x r=>Yy .i64 x fun n=>onCons r fun x r=>Yy .i64 x fun n_1=>onCons r fun x r=>Yy .i64 x fun n_2=>onNil r (some (Zf [Zz .i64 n,Zz .i64 n_1,Zz .i64 n_2],[]))):Option (AV×Blocks))) (by kernel_rfl) ?_
  simp only [A0]
  rw [chk_of (by rw [hpre];rfl)]
 ·cases h
theorem w96:Walked Tryz.prog G 96 3 sp96:=by
 refine ⟨Tryz.f96,Tryz.func96,by decide +kernel,rfl,fun xs bl r h=> ?_⟩
 unfold sp96 at h
 split at h
 ·rename_i b s
  obtain ⟨hpre,h2⟩:=chk_inv h;cases h2
  refine Eq.trans (b:=(Zj (chk (decide (Zx (Wy b (Wy s ((0:UInt8)::Wy [] [])))≤140737488355328)&&decide (Zx [Yz b,Yz s,Yz [(0:UInt8)]]≤1000)) (some (Yu (Wy b (Wy s ((0:UInt8)::Wy [] []))),[]))) fun (r:AV×Blocks)=>onNilB (Zp r) (Xh (Yx r) fun l=>some (Yz l,[])):Option (AV×Blocks))) (by kernel_rfl) ?_
  simp only [decide_eq_true_eq] at hpre
  simp only [A0]
  rw [chk_of (by simp;omega)]
  simp [Wd]
 ·cases h
theorem w97:Walked Tryz.prog G 97 3 sp97:=by
 refine ⟨Tryz.f97,Tryz.func97,by decide +kernel,rfl,fun xs bl r h=> ?_⟩
 unfold sp97 at h
 split at h
 ·rename_i s c
  cases h
  refine Eq.trans (b:=(some (Zz .i64 (Zg c s),[]):Option (AV×Blocks))) (by kernel_rfl) ?_
  rfl
 ·cases h
theorem w99:Walked Tryz.prog G 99 3 sp99:=by
 refine ⟨Tryz.f99,Tryz.func99,by decide +kernel,rfl,fun xs bl r h=> ?_⟩
 unfold sp99 at h
 split at h
 ·rename_i k
  obtain ⟨hpre,h2⟩:=chk_inv h;cases h2
  refine Eq.trans (b:=(Zj (chk (decide (0≤k)&&decide (k<18446744073709551616)) (some (Zf [Zz .i64 (bif Xu k then Kerb.keyClass k else 0),Zz .i64 (bif Xu k then Kerb.keySerial k else 0),Zv (Xu k)],[]))) fun (r:AV×Blocks)=>onNilB (Zp r) (Vx (Yx r) fun vs=>onCons vs fun x r=>Yy .i64 x fun n=>onCons r fun x r=>Yy .i64 x fun n=>onCons r fun x r=>Wv x fun b=>onNil r (some (Zv b,[]))):Option (AV×Blocks))) (by kernel_rfl) ?_
  simp only [A0]
  rw [chk_of hpre]
 ·cases h
theorem w108:Walked Tryz.prog G 108 3 sp108:=by
 refine ⟨Tryz.f108,Tryz.func108,by decide +kernel,rfl,fun xs bl r h=> ?_⟩
 unfold sp108 at h
 split at h
 ·rename_i b
  obtain ⟨hpre,h2⟩:=chk_inv h;cases h2
  refine Eq.trans (b:=(chk (decide (0≤Yv (Zy .i64 (8-Yv (↑(Zx b):Int) 8)) 8)&&decide (Yv (Zy .i64 (8-Yv (↑(Zx b):Int) 8)) 8≤Yv (Zy .i64 (8-Yv (↑(Zx b):Int) 8)) 8)&&decide (Yv (Zy .i64 (8-Yv (↑(Zx b):Int) 8)) 8≤140737488355328)) (Zj (chk (decide (Zx (Wy b (Wy (Wu (Zu (Yv (Zy .i64 (8-Yv (↑(Zx b):Int) 8)) 8)) (0:UInt8)) []))≤140737488355328)&&decide (Zx [Yz b,Yz (Wu (Zu (Yv (Zy .i64 (8-Yv (↑(Zx b):Int) 8)) 8)) (0:UInt8))]≤1000)) (some (Yu (Wy b (Wy (Wu (Zu (Yv (Zy .i64 (8-Yv (↑(Zx b):Int) 8)) 8)) (0:UInt8)) [])),[]))) fun (r:AV×Blocks)=>onNilB (Zp r) (Xh (Yx r) fun l=>some (Yz l,[]))):Option (AV×Blocks))) (by kernel_rfl) ?_
  have hb:=of_decide_eq_true hpre
  rw [Kerb.pad_eq hb]
  simp only [A0]
  rw [chk_of (by simp;omega),chk_of (by simp;omega)]
  simp [Kerb.pad]
  omega
 ·cases h
theorem w112:Walked Tryz.prog G 112 3 sp112:=by
 refine ⟨Tryz.f112,Tryz.func112,by decide +kernel,rfl,fun xs bl r h=> ?_⟩
 unfold sp112 at h
 split at h
 ·rename_i b pos
  obtain ⟨hpre,h2⟩:=chk_inv h;cases h2
  refine Eq.trans (b:=(Zj (chk (decide (Zx b≤140737488355328)&&true&&true) (some (Zf [Zz .i64 (Kerb.Got.val (Ww b pos 1 false)),Zz .i64 (Kerb.Got.next (Ww b pos 1 false)),Zz .i64 (Kerb.Got.err (Ww b pos 1 false))],[]))) fun (r:AV×Blocks)=>onNilB (Zp r) (Vx (Yx r) fun vs=>onCons vs fun x r=>Yy .i64 x fun n=>onCons r fun x r=>Yy .i64 x fun n_1=>onCons r fun x r=>Yy .i64 x fun n_2=>onNil r (some (Zf [Zz .i64 n,Zz .i64 n_1,Zz .i64 n_2],[]))):Option (AV×Blocks))) (by kernel_rfl) ?_
  simp only [A0]
  rw [chk_of (by rw [hpre];rfl)]
 ·cases h
end Go.Proofs.YtkdmekflbaekpaaGreatDoor
