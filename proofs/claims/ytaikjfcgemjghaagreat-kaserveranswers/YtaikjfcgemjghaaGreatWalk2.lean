/- What the functions of this seat compute. -/
import Derived.Test.YtaikjfcgemjghaaGreatTab
import Derived.Test.YtaikjfcgemjghaaGreatKerbPlain
import Derived.Test.YtaikjfcgemjghaaGreatAbsStep
import Derived.Test.YtaikjfcgemjghaaGreatKerbKaPlain
import Derived.Test.YtaikjfcgemjghaaGreatKerbKaRef
import Derived.Test.YtaikjfcgemjghaaGreatKerbCli3
import Derived.Test.YtaikjfcgemjghaaGreatKerbCli4
import Derived.Test.YtaikjfcgemjghaaGreatKerbCli5
import Derived.Test.YtaikjfcgemjghaaGreatKerbSrvL
import Derived.Test.YtaikjfcgemjghaaGreatKerbKac2
open Go.Abs.AV renaming int→Zz,str→Zw,agg→Zd,bool→Yx,bs→Yv,tup→Yu,onInt→Yk,ownB→Xv,sl→Xk,undef→Wu,u8→Wd,onStr→Wg,onTup→Vy,onBool→Vb
open Go.IntKind renaming i64→Zy,wrap→Zu,u64→Yp,bits→Yn
open Kerb renaming service→Zx,user→Zv,simpleEnt→Zp,within→Zf,dataEntPrin→Zg,u8i→Zb,nextPos→Zn,nextPos_dec→Zh,next→Yz,eq11→Yj,next_dec1000→Yd,eq3→Yb,indexOf→Ym,next_dec62→Yh,keyValid→Xz,long→Xy,next_dec→Xx,eq2→Xu,putN_len→Xq,eq10→Xp,get→Xf,putN→Xg,text→Wq,bfd→Wp,imin→Wm,room_ok→Wh,tEnd→Vw,readHead→Vv,bytes→Vg,byteAt→Vn,bfd_eq→Vm
open List renaming length→Zq,getD→Xj,append→Xd,take_of_length_le→Xb,range_succ→Wb,take→Wn,drop→Vx
open Option renaming bind→Zj
open Kerb.Entry renaming av→Zk
open Int renaming toNat→Zm,tmod→Xw,tdiv_eq_ediv_of_nonneg→Xh,toNat_natCast→Wv,tmod_eq_emod_of_nonneg→Wf,tdiv→Vk
open Prod renaming snd→Yy,fst→Yq
open Bool renaming and_self→Yw,and_eq_true→Yf,not_true→Yg,not_false→Wj
open Nat renaming beq_refl→Xn,beq→Vd
open Kerb.Prin renaming realm→Xm,name→Wx,inst→Ww
open Go.Abs.Ex renaming exit→Wz
open UInt8 renaming toNat→Wy
open Kerb.GotB renaming err→Wk,next→Vj,val→Vf
open Kerb.Got renaming next→Vz,val→Vu,err→Vq
open Sum renaming inl→Vp,inr→Vh
namespace Go.Proofs.YtaikjfcgemjghaaGreat
open Go Go.Abs Go.Proofs
set_option linter.unusedVariables false
set_option linter.unusedSimpArgs false
set_option maxRecDepth 100000
theorem w233:Walked Tryz.prog G 233 2 sp233:=by
 refine ⟨Tryz.f233,Tryz.func233,by decide +kernel,rfl,fun xs bl r h=> ?_⟩
 unfold sp233 at h
 split at h
 ·rename_i b pos k little
  obtain ⟨hpre,h2⟩:=chk_inv h;cases h2
  refine Eq.trans (b:=(Zj (chk (decide (Zq b≤140737488355328)) (some (Yu [Yv (Vf (Vg b pos k)),Zz .i64 (Vj (Vg b pos k)),Zz .i64 (Wk (Vg b pos k))],[]))) (kT fun vs=>cBs vs fun b r=>cInt .i64 r fun n r=>cInt .i64 r fun n_1 r=>onNil r (sel (!n_1==0) (some (Yu [Zz .i64 0,Zz .i64 0,Zz .i64 n_1],[])) (Zj (loopM (fun (st:List AV)=>cInt .i64 st fun n r=>cBool r fun b r=>cBs r fun b_1 r=>cInt .i64 r fun n_2 r=>cInt .i64 r fun n_3 r=>let t0:BitVec (Yn .i64):=BitVec.ofInt (Yn .i64) (Zu .i64 (n_3*2 ^ min (Zm 8) (Yn .i64)));cInt .i64 r fun n_4 r=>let t1:Int:=Zu .i64 (Zu .i64 (n-1)-n_4);onNil r (sel (decide (n_4<n)) (sel b (chk (decide (0≤t1)&&decide (t1<(↑(Zq b_1):Int))) (some (Vp [Zz .i64 n,Yx b,Yv b_1,Zz .i64 n_2,Zz .i64 (Zu .i64 (↑(BitVec.toNat (t0 ||| BitVec.ofInt (Yn .i64) (Zu .i64 (↑(Wy (Xj b_1 (Zm t1) (0:UInt8))):Int)))):Int)),Zz .i64 (Zu .i64 (n_4+1))]))) (chk (decide (0≤n_4)&&decide (n_4<(↑(Zq b_1):Int))) (some (Vp [Zz .i64 n,Yx b,Yv b_1,Zz .i64 n_2,Zz .i64 (Zu .i64 (↑(BitVec.toNat (t0 ||| BitVec.ofInt (Yn .i64) (Zu .i64 (↑(Wy (Xj b_1 (Zm n_4) (0:UInt8))):Int)))):Int)),Zz .i64 (Zu .i64 (n_4+1))])))) (some (Vh (Wz 0,[Zz .i64 n,Yx b,Yv b_1,Zz .i64 n_2,Zz .i64 n_3,Zz .i64 n_4]))))) [Zz .i64 k,Yx little,Yv b,Zz .i64 n,Zz .i64 0,Zz .i64 0]) fun (r:Ex×List AV)=>cInt .i64 (Yy r) fun n r_1=>cBool r_1 fun b r_2=>cBs r_2 fun b r_3=>cInt .i64 r_3 fun n r_4=>cInt .i64 r_4 fun n_2 r_5=>cInt .i64 r_5 fun n_3 r_6=>onNil r_6 (exK r.1 none fun (j:Nat)=>sel (Vd j 0) (some (Yu [Zz .i64 n_2,Zz .i64 n,Zz .i64 0],[])) none)))):Option (AV×Blocks))) (by kernel_rfl) ?_
  delta kT
  try dsimp only [cStr,cBs,cBool,cU8,cInt,cSl,l63]
  simp only [Yf,decide_eq_true_eq] at hpre
  obtain ⟨⟨hb,hk0⟩,hk4⟩:=hpre
  simp only [A0]
  rw [chk_of (by simpa using hb)]
  unfold Xf Vg
  by_cases hr:Kerb.room b pos k=0
  case neg =>
   rw [if_neg hr,if_neg hr,sel_pos (by simpa using hr)]
  rw [if_pos hr,if_pos hr,sel_neg (by simp)]
  obtain ⟨q1,q2,q3,q4⟩:=Kerb.room_zero.1 hr
  have hcl:=Kerb.cut_length hr
  obtain ⟨C,hC⟩:∃ C,C=Kerb.cut b pos k:=⟨_,rfl⟩
  rw [← hC] at hcl ⊢
  obtain ⟨L,hL⟩:∃ L,L=cond little C.reverse C:=⟨_,rfl⟩
  have hLl:L.length=k.toNat:=by rw [hL];cases little<;>simp [hcl]
  rw [← hL]
  refine loop_rounds (fun i:Nat=>[Zz Zy k,Yx little,Yv C,Zz Zy (pos+k),Zz Zy (Kerb.valB (L.take i)),Zz Zy (i:Int)]) (fun i=>i≤k.toNat) (fun i=>k.toNat-i)
   (fun r=>r=(Wz 0,[Zz Zy k,Yx little,Yv C,Zz Zy (pos+k),Zz Zy (Kerb.valB L),Zz Zy k])) 0 (Nat.zero_le _) rfl ?_ ?_
  ·intro i hi
   simp only [A0]
   by_cases hlt:i<k.toNat
   ·rw [sel_pos (by simp;omega)]
    have hv:=Kerb.valB_bd (l:=L.take i) (by simp;omega)
    have hs:=Kerb.valB_take (l:=L) (i:=i) (by omega)
    have hgd:L.getD i 0=C.getD (cond little (k.toNat-1-i) i) 0:=by
     rw [hL]
     cases little
     ·rfl
     ·show C.reverse.getD i 0=_
      rw [Kerb.getD_reverse (by omega),hcl];rfl
    cases little
    ·rw [sel_neg rfl,chk_of (by simp;omega),Wv]
     rw [Kerb.shl8_or _ hv.1 (by omega),wrap_i64 (n:=(i:Int)+1) (by omega) (by omega)]
     refine ⟨_,rfl,i+1,?_,by omega,by dsimp only;omega⟩
     dsimp only
     rw [hs,hgd];rfl
    ·rw [sel_pos rfl,wrap_i64 (n:=k-1) (by omega) (by omega),wrap_i64 (n:=k-1-(i:Int)) (by omega) (by omega),chk_of (by simp;omega),show (k-1-(i:Int)).toNat=k.toNat-1-i from by omega]
     rw [Kerb.shl8_or _ hv.1 (by omega),wrap_i64 (n:=(i:Int)+1) (by omega) (by omega)]
     refine ⟨_,rfl,i+1,?_,by omega,by dsimp only;omega⟩
     dsimp only
     rw [hs,hgd];rfl
   ·rw [sel_neg (by simp;omega)]
    refine ⟨_,rfl,?_⟩
    show _=_
    rw [Xb (by omega),show (i:Int)=k from by omega]
  ·rintro r rfl
   simp only [A0]
   rw [sel_pos (Xn _)]
 ·cases h
theorem w236:Walked Tryz.prog G 236 2 sp236:=by
 refine ⟨Tryz.f236,Tryz.func236,by decide +kernel,rfl,fun xs bl r h=> ?_⟩
 unfold sp236 at h
 split at h
 ·rename_i els
  obtain ⟨hpre,h2⟩:=chk_inv h;cases h2
  refine Eq.trans (b:=(Zj (loopM (fun (st:List AV)=>cSl 1 st fun b r=>cInt .i64 r fun n r=>cSl 1 r fun b_1 r=>cInt .i64 r fun n_1 r=>cInt .i64 r fun n_2 r=>onNil r (sel (decide (n_2<n_1)) (chk (decide (0≤n_2)&&decide (n_2<(↑(Zq b_1):Int))&&true) (AV.onBs (Xj b_1 (Zm n_2) Wu) fun b_2=>sel (decide (Zu .i64 (n+(↑(Zq b_2):Int))<0)) none (some (Vp [Xk 1 b,Zz .i64 (Zu .i64 (n+(↑(Zq b_2):Int))),Xk 1 b_1,Zz .i64 n_1,Zz .i64 (Zu .i64 (n_2+1))])))) (some (Vh (Wz 0,[Xk 1 b,Zz .i64 n,Xk 1 b_1,Zz .i64 n_1,Zz .i64 n_2]))))) [Xk 1 els,Zz .i64 0,Xk 1 els,Zz .i64 (↑(Zq els):Int),Zz .i64 0]) fun (r:Ex×List AV)=>cSl 1 (Yy r) fun b r_1=>cInt .i64 r_1 fun n r_2=>cSl 1 r_2 fun b_1 r_3=>cInt .i64 r_3 fun n_1 r_4=>cInt .i64 r_4 fun n_2 r_5=>onNil r_5 (exK r.1 none fun (j:Nat)=>sel (Vd j 0) (Zj (chk (decide (0≤n)&&decide (n≤140737488355328)) (some (Xv [],[]))) (kO fun l=>Zj (loopM (fun (st:List AV)=>onCons st fun x r=>AV.onOwnB x fun b=>cSl 1 r fun b_2 r=>cInt .i64 r fun n r=>cInt .i64 r fun n_3 r=>onNil r (sel (decide (n_3<n)) (chk (decide (0≤n_3)&&decide (n_3<(↑(Zq b_2):Int))&&true) (AV.onBs (Xj b_2 (Zm n_3) Wu) fun b_3=>chk (room (Zq b+Zq b_3) 1) (some (Vp [Xv (b++b_3),Xk 1 b_2,Zz .i64 n,Zz .i64 (Zu .i64 (n_3+1))])))) (some (Vh (Wz 2,[Xv b,Xk 1 b_2,Zz .i64 n,Zz .i64 n_3]))))) [Xv l,Xk 1 b,Zz .i64 (↑(Zq b):Int),Zz .i64 0]) fun (r:Ex×List AV)=>onCons (Yy r) fun x r_6=>AV.onOwnB x fun b=>cSl 1 r_6 fun b_2 r_7=>cInt .i64 r_7 fun n r_8=>cInt .i64 r_8 fun n r_9=>onNil r_9 (exK r.1 none fun (j:Nat)=>sel (Vd j 2) (some (Xv b,[])) none))) none):Option (AV×Blocks))) (by kernel_rfl) ?_
  delta kO
  try dsimp only [cStr,cBs,cBool,cU8,cInt,cSl,l63]
  simp only [Yf,decide_eq_true_eq] at hpre
  obtain ⟨⟨ha,hl⟩,hbig⟩:=hpre
  refine loop_rounds (fun i:Nat=>[Xk 1 els,Zz Zy ((catB (els.take i)).length:Int),Xk 1 els,Zz Zy (els.length:Int),Zz Zy (i:Int)]) (fun i=>i≤els.length) (fun i=>els.length-i)
   (fun r=>r=(Wz 0,[Xk 1 els,Zz Zy ((catB els).length:Int),Xk 1 els,Zz Zy (els.length:Int),Zz Zy (els.length:Int)])) 0 (Nat.zero_le _) rfl ?_ ?_
  ·intro i hi
   simp only [A0]
   by_cases hlt:i<els.length
   ·obtain ⟨l,h1,h2,h3⟩:=Kerb.cat_step ha hlt
    rw [sel_pos (by simp;omega),chk_of (by simp;omega),Wv,h1,onBs_bs,wrap_i64 (n:=((catB (els.take i)).length:Int)+(l.length:Int)) (by omega) (by omega),sel_neg (by simp;omega),wrap_i64 (by omega) (by omega)]
    refine ⟨_,rfl,i+1,?_,by omega,by dsimp only;omega⟩
    dsimp only
    rw [h2,List.length_append,Int.natCast_add]
    rfl
   ·rw [sel_neg (by simp;omega)]
    refine ⟨_,rfl,?_⟩
    show _=_
    rw [Xb (by omega),show i=els.length from by omega]
  rintro r rfl
  simp only [A0]
  rw [sel_pos (Xn _),chk_of (by simp;omega)]
  refine loop_rounds (fun i:Nat=>[Xv (catB (els.take i)),Xk 1 els,Zz Zy (els.length:Int),Zz Zy (i:Int)]) (fun i=>i≤els.length) (fun i=>els.length-i)
   (fun r=>r=(Wz 2,[Xv (catB els),Xk 1 els,Zz Zy (els.length:Int),Zz Zy (els.length:Int)])) 0 (Nat.zero_le _) rfl ?_ ?_
  ·intro i hi
   simp only [A0]
   by_cases hlt:i<els.length
   ·obtain ⟨l,h1,h2,h3⟩:=Kerb.cat_step ha hlt
    rw [sel_pos (by simp;omega),chk_of (by simp;omega),Wv,h1,onBs_bs,chk_of (Wh (by omega)),wrap_i64 (by omega) (by omega)]
    refine ⟨_,rfl,i+1,?_,by omega,by dsimp only;omega⟩
    dsimp only
    rw [h2]
    rfl
   ·rw [sel_neg (by simp;omega)]
    refine ⟨_,rfl,?_⟩
    show _=_
    rw [Xb (by omega),show i=els.length from by omega]
  rintro r rfl
  simp only [A0]
  rw [sel_pos (Xn _)]
 ·cases h
theorem w241:Walked Tryz.prog G 241 2 sp241:=by
 refine ⟨Tryz.f241,Tryz.func241,by decide +kernel,rfl,fun xs bl r h=> ?_⟩
 unfold sp241 at h
 split at h
 ·rename_i b pos k little
  obtain ⟨hpre,h2⟩:=chk_inv h;cases h2
  refine Eq.trans (b:=(Zj (chk (decide (Zq b≤4611686018427387904)) (some (Zz .i64 (Kerb.room b pos k),[]))) (kI .i64 fun n=>sel (!n==0) (some (Yu [Zz .i64 0,Zz .i64 0,Zz .i64 n],[])) (Zj (loopM (fun (st:List AV)=>cBs st fun b r=>cInt .i64 r fun n r=>cInt .i64 r fun n_1 r=>cBool r fun b_1 r=>cInt .i64 r fun n_2 r=>let t0:BitVec (Yn .i64):=BitVec.ofInt (Yn .i64) (Zu .i64 (n_2*2 ^ min (Zm 8) (Yn .i64)));cInt .i64 r fun n_3 r=>cInt .i64 r fun n_4 r=>let t1:Int:=Zu .i64 (n+Zu .i64 (Zu .i64 (n_1-1)-n_4));onNil r (sel (decide (n_4<n_3)) (sel b_1 (chk (decide (0≤t1)&&decide (t1<(↑(Zq b):Int))) (some (Vp [Yv b,Zz .i64 n,Zz .i64 n_1,Yx b_1,Zz .i64 (Zu .i64 (↑(BitVec.toNat (t0 ||| BitVec.ofInt (Yn .i64) (Zu .i64 (↑(Wy (Xj b (Zm t1) (0:UInt8))):Int)))):Int)),Zz .i64 n_3,Zz .i64 (Zu .i64 (n_4+1))]))) (chk (decide (0≤Zu .i64 (n+n_4))&&decide (Zu .i64 (n+n_4)<(↑(Zq b):Int))) (some (Vp [Yv b,Zz .i64 n,Zz .i64 n_1,Yx b_1,Zz .i64 (Zu .i64 (↑(BitVec.toNat (t0 ||| BitVec.ofInt (Yn .i64) (Zu .i64 (↑(Wy (Xj b (Zm (Zu .i64 (n+n_4))) (0:UInt8))):Int)))):Int)),Zz .i64 n_3,Zz .i64 (Zu .i64 (n_4+1))])))) (some (Vh (Wz 0,[Yv b,Zz .i64 n,Zz .i64 n_1,Yx b_1,Zz .i64 n_2,Zz .i64 n_3,Zz .i64 n_4]))))) [Yv b,Zz .i64 pos,Zz .i64 k,Yx little,Zz .i64 0,Zz .i64 k,Zz .i64 0]) fun (r:Ex×List AV)=>cBs (Yy r) fun b r_1=>cInt .i64 r_1 fun n r_2=>cInt .i64 r_2 fun n_1 r_3=>cBool r_3 fun b r_4=>cInt .i64 r_4 fun n_2 r_5=>cInt .i64 r_5 fun n_3 r_6=>cInt .i64 r_6 fun n_4 r_7=>onNil r_7 (exK r.1 none fun (j:Nat)=>sel (Vd j 0) (some (Yu [Zz .i64 n_2,Zz .i64 (Zu .i64 (n+n_1)),Zz .i64 0],[])) none))):Option (AV×Blocks))) (by kernel_rfl) ?_
  delta kI
  try dsimp only [cStr,cBs,cBool,cU8,cInt,cSl,l63]
  simp only [Yf,decide_eq_true_eq] at hpre
  obtain ⟨⟨hb,hk0⟩,hk4⟩:=hpre
  simp only [A0]
  rw [chk_of (by simpa using hb)]
  unfold Xf
  by_cases hr:Kerb.room b pos k=0
  ·rw [sel_neg (by simp [hr]),if_pos hr]
   obtain ⟨q1,q2,q3,q4⟩:=Kerb.room_zero.1 hr
   have hcl:=Kerb.cut_length hr
   obtain ⟨L,hL⟩:∃ L,L=cond little (Kerb.cut b pos k).reverse (Kerb.cut b pos k):=⟨_,rfl⟩
   have hLl:L.length=k.toNat:=by rw [hL];cases little<;>simp [hcl]
   rw [← hL]
   refine loop_rounds (fun i:Nat=>[Yv b,Zz Zy pos,Zz Zy k,Yx little,Zz Zy (Kerb.valB (L.take i)),Zz Zy k,Zz Zy (i:Int)]) (fun i=>i≤k.toNat) (fun i=>k.toNat-i)
    (fun r=>r=(Wz 0,[Yv b,Zz Zy pos,Zz Zy k,Yx little,Zz Zy (Kerb.valB L),Zz Zy k,Zz Zy k])) 0 (Nat.zero_le _) rfl ?_ ?_
   ·intro i hi
    simp only [A0]
    by_cases hlt:i<k.toNat
    ·rw [sel_pos (by simp;omega)]
     have hv:=Kerb.valB_bd (l:=L.take i) (by simp;omega)
     have hs:=Kerb.valB_take (l:=L) (i:=i) (by omega)
     have hgd:L.getD i 0=b.getD (cond little (pos.toNat+(k.toNat-1-i)) (pos.toNat+i)) 0:=by
      rw [hL]
      cases little
      ·exact Kerb.cut_getD hlt
      ·show (Kerb.cut b pos k).reverse.getD i 0=_
       rw [Kerb.getD_reverse (by omega),hcl,Kerb.cut_getD (by omega)];rfl
     cases little
     ·rw [sel_neg rfl,wrap_i64 (n:=pos+(i:Int)) (by omega) (by omega),chk_of (by simp;omega),show (pos+(i:Int)).toNat=pos.toNat+i from by omega]
      rw [Kerb.shl8_or _ hv.1 (by omega),wrap_i64 (n:=(i:Int)+1) (by omega) (by omega)]
      refine ⟨_,rfl,i+1,?_,by omega,by dsimp only;omega⟩
      dsimp only
      rw [hs,hgd];rfl
     ·rw [sel_pos rfl,wrap_i64 (n:=k-1) (by omega) (by omega),wrap_i64 (n:=k-1-(i:Int)) (by omega) (by omega),wrap_i64 (n:=pos+(k-1-(i:Int))) (by omega) (by omega),chk_of (by simp;omega),show (pos+(k-1-(i:Int))).toNat=pos.toNat+(k.toNat-1-i) from by omega]
      rw [Kerb.shl8_or _ hv.1 (by omega),wrap_i64 (n:=(i:Int)+1) (by omega) (by omega)]
      refine ⟨_,rfl,i+1,?_,by omega,by dsimp only;omega⟩
      dsimp only
      rw [hs,hgd];rfl
    ·rw [sel_neg (by simp;omega)]
     refine ⟨_,rfl,?_⟩
     show _=_
     rw [Xb (by omega),show (i:Int)=k from by omega]
   ·rintro r rfl
    simp only [A0]
    rw [sel_pos (Xn _),wrap_i64 (by omega) (by omega)]
  ·rw [sel_pos (by simpa using hr),if_neg hr]
 ·cases h
theorem w248:Walked Tryz.prog G 248 2 sp248:=by
 refine ⟨Tryz.f248,Tryz.func248,by decide +kernel,rfl,fun xs bl r h=> ?_⟩
 unfold sp248 at h
 split at h
 ·rename_i s c
  cases h
  refine Eq.trans (b:=(some (Zz .i64 (Ym c s),[]):Option (AV×Blocks))) (by kernel_rfl) ?_
  rfl
 ·cases h
theorem w259:Walked Tryz.prog G 259 2 sp259:=by
 refine ⟨Tryz.f259,Tryz.func259,by decide +kernel,rfl,fun xs bl r h=> ?_⟩
 unfold sp259 at h
 split at h
 ·rename_i s c
  cases h
  refine Eq.trans (b:=(some (Zz .i64 (Ym c s),[]):Option (AV×Blocks))) (by kernel_rfl) ?_
  rfl
 ·cases h
theorem w263:Walked Tryz.prog G 263 2 sp263:=by
 refine ⟨Tryz.f263,Tryz.func263,by decide +kernel,rfl,fun xs bl r h=> ?_⟩
 unfold sp263 at h
 split at h
 ·rename_i a b
  cases h
  refine Eq.trans (b:=(some (Zz .i64 (Kerb.cmpB a b),[]):Option (AV×Blocks))) (by kernel_rfl) ?_
  rfl
 ·cases h
theorem w11:Walked Tryz.prog G 11 3 sp11:=by
 refine ⟨Tryz.f11,Tryz.func11,by decide +kernel,rfl,fun xs bl r h=> ?_⟩
 unfold sp11 at h
 split at h
 ·rename_i n
  obtain ⟨hpre,h2⟩:=chk_inv h;cases h2
  refine Eq.trans (b:=(chk (decide (0≤Xw n 3)&&decide (Xw n 3<(↑(Zq [Zw [(97:UInt8),(110:UInt8),(110:UInt8)],Zw [(98:UInt8),(111:UInt8),(98:UInt8)],Zw [(99:UInt8),(97:UInt8),(116:UInt8)]]):Int))&&true) (Wg (Xj [Zw [(97:UInt8),(110:UInt8),(110:UInt8)],Zw [(98:UInt8),(111:UInt8),(98:UInt8)],Zw [(99:UInt8),(97:UInt8),(116:UInt8)]] (Zm (Xw n 3)) Wu) fun b=>Zj (chk (decide (0≤Zu .i64 (Vk n 3))) (some (Zw (Kerb.realm (Zu .i64 (Vk n 3))),[]))) fun (r:AV×Blocks)=>onNilB (Yy r) (Wg (Yq r) fun b_1=>some (Zd [Zw b,Zw [],Zw b_1],[]))):Option (AV×Blocks))) (by kernel_rfl) ?_
  have hn:0≤n:=by first | exact of_decide_eq_true hpre | (simp only [Yf,decide_eq_true_eq] at hpre;exact hpre.1)
  have ht:Xw n 3=n % 3:=Wf hn
  have hcase:n % 3=0∨n % 3=1∨n % 3=2:=by omega
  simp only [Yf,decide_eq_true_eq] at hpre
  have hd:Vk n 3=n / 3:=Xh hn
  rw [hd,wrap_i64 (by omega) (by omega)]
  have hq:decide ((0:Int)≤n / 3)=true:=by simp;omega
  rcases hcase with e | e | e<;>simp [ht,e,chk,Wg,Zv,hq,onNilB]<;>omega
 ·cases h
theorem w18:Walked Tryz.prog G 18 3 sp18:=by
 refine ⟨Tryz.f18,Tryz.func18,by decide +kernel,rfl,fun xs bl r h=> ?_⟩
 unfold sp18 at h
 split at h
 ·rename_i n
  obtain ⟨hpre,h2⟩:=chk_inv h;cases h2
  refine Eq.trans (b:=(chk (decide (0≤Xw n 3)&&decide (Xw n 3<(↑(Zq [Zd [Zw [(109:UInt8),(97:UInt8),(105:UInt8),(108:UInt8)],Zw [],Zw []],Zd [Zw [(110:UInt8),(102:UInt8),(115:UInt8)],Zw [(104:UInt8),(111:UInt8),(109:UInt8),(101:UInt8)],Zw []],Zd [Zw [(107:UInt8),(114:UInt8),(98:UInt8),(116:UInt8),(103:UInt8),(116:UInt8)],Zw [(65:UInt8),(84:UInt8),(72:UInt8)],Zw []]]):Int))&&true) (AV.onAgg (Xj [Zd [Zw [(109:UInt8),(97:UInt8),(105:UInt8),(108:UInt8)],Zw [],Zw []],Zd [Zw [(110:UInt8),(102:UInt8),(115:UInt8)],Zw [(104:UInt8),(111:UInt8),(109:UInt8),(101:UInt8)],Zw []],Zd [Zw [(107:UInt8),(114:UInt8),(98:UInt8),(116:UInt8),(103:UInt8),(116:UInt8)],Zw [(65:UInt8),(84:UInt8),(72:UInt8)],Zw []]] (Zm (Xw n 3)) Wu) fun cs=>onCons cs fun x r=>Wg x fun b=>onCons r fun x r=>Wg x fun b_1=>onCons r fun x r=>Wg x fun b_2=>onNil r (Zj (chk (decide (0≤Zu .i64 (Vk n 3))) (some (Zw (Kerb.realm (Zu .i64 (Vk n 3))),[]))) fun (r:AV×Blocks)=>onNilB (Yy r) (Wg (Yq r) fun b_3=>some (Zd [Zw b,Zw b_1,Zw b_3],[])))):Option (AV×Blocks))) (by kernel_rfl) ?_
  have hn:0≤n:=by first | exact of_decide_eq_true hpre | (simp only [Yf,decide_eq_true_eq] at hpre;exact hpre.1)
  have ht:Xw n 3=n % 3:=Wf hn
  have hcase:n % 3=0∨n % 3=1∨n % 3=2:=by omega
  simp only [Yf,decide_eq_true_eq] at hpre
  have hd:Vk n 3=n / 3:=Xh hn
  rw [hd,wrap_i64 (by omega) (by omega)]
  have hq:decide ((0:Int)≤n / 3)=true:=by simp;omega
  rcases hcase with e | e | e<;>simp [ht,e,chk,Wg,AV.onAgg,onCons,onNil,Zx,hq,onNilB]<;>omega
 ·cases h
theorem w40:Walked Tryz.prog G 40 3 sp40:=by
 refine ⟨Tryz.f40,Tryz.func40,by decide +kernel,rfl,fun xs bl r h=> ?_⟩
 unfold sp40 at h
 split at h
 ·rename_i k
  obtain ⟨hpre,h2⟩:=chk_inv h;cases h2
  refine Eq.trans (b:=(Zj (chk (decide (0≤k)&&decide (k<18446744073709551616)) (some (Yu [Zz .i64 (bif Xz k then Kerb.keyClass k else 0),Zz .i64 (bif Xz k then Kerb.keySerial k else 0),Yx (Xz k)],[]))) fun (r:AV×Blocks)=>onNilB (Yy r) (Vy (Yq r) fun vs=>onCons vs fun x r=>Yk .i64 x fun n=>onCons r fun x r=>Yk .i64 x fun n=>onCons r fun x r=>Vb x fun b=>onNil r (some (Yx b,[]))):Option (AV×Blocks))) (by kernel_rfl) ?_
  simp only [A0]
  rw [chk_of hpre]
 ·cases h
theorem w60:Walked Tryz.prog G 60 3 sp60:=by
 refine ⟨Tryz.f60,Tryz.func60,by decide +kernel,rfl,fun xs bl r h=> ?_⟩
 unfold sp60 at h
 split at h
 ·rename_i lb t st en k
  obtain ⟨hpre,h2⟩:=chk_inv h;cases h2
  refine Eq.trans (b:=(let t5:Option (AV×Blocks):=some (Yu [Xv [],Zz .i64 104],[]);let t6:Option (AV×Blocks):=some (Yu [Xv [],Zz .i64 108],[]);let t7:Bool:=lb==[(103:UInt8),(84:UInt8),(75:UInt8),(84:UInt8)];let t8:Option (AV×Blocks):=chk (decide (Zq lb≤70368744177664)) (some (Xv (lb++Xg t 4 false),[]));let t4:Option (AV×Blocks):=Zj t8 (kO fun l=>sel t7 (Zj (chk (decide (Zq l≤70368744177664)) (some (Xv (l++Xg st 4 false),[]))) (kO fun l=>Zj (chk (decide (Zq l≤70368744177664)) (some (Xv (l++Xg en 4 false),[]))) (kO fun l=>Zj (chk (decide (Zq l≤70368744177664)) (some (Xv (Kerb.pad l),[]))) (kO fun l=>some (Yu [Xv l,Zz .i64 0],[]))))) (Zj (chk (decide (0≤k)&&decide (k<18446744073709551616)) (some (Yv (Kerb.keyBytes k),[]))) (kB fun b=>chk (room (Zq l+Zq b) 1) (Zj (chk (decide (Zq (l++b)≤70368744177664)) (some (Xv (Kerb.pad (l++b)),[]))) (kO fun l=>some (Yu [Xv l,Zz .i64 0],[]))))));let t3:Option (AV×Blocks):=sel (!t7) (sel (!st==0) t6 (sel (!en==0) t6 t4)) t4;let t2:Option (AV×Blocks):=sel t7 (sel (!k==0) t6 t3) t3;let t1:Option (AV×Blocks):=sel (!t7) (Zj (chk (decide (0≤k)&&decide (k<18446744073709551616)) (some (Yx (Xz k),[]))) (kL fun b=>sel (!b) (some (Yu [Xv [],Zz .i64 10],[])) t2)) t2;let t0:Option (AV×Blocks):=sel (!Zf t 4294967295) t5 (sel t7 (sel (!Zf st 4294967295) t5 (sel (!Zf en 4294967295) t5 t1)) t1);sel (lb==[(103:UInt8),(84:UInt8),(71:UInt8),(83:UInt8)]) (sel (!Zf t 4294967295) t5 (sel (!Zf st 4294967295) t5 (sel (!Zf en 4294967295) t5 (sel (!k==0) t6 (Zj t8 (kO fun l=>Zj (chk (decide (Zq l≤70368744177664)) (some (Xv (l++Xg st 4 false),[]))) (kO fun l=>Zj (chk (decide (Zq l≤70368744177664)) (some (Xv (l++Xg en 4 false),[]))) (kO fun l=>Zj (chk (decide (Zq l≤70368744177664)) (some (Xv (Kerb.pad l),[]))) (kO fun l=>some (Yu [Xv l,Zz .i64 0],[])))))))))) (sel (!t7) (sel (!lb==[(67:UInt8),(80:UInt8),(87:UInt8),(108:UInt8)]) (some (Yu [Xv [],Zz .i64 80],[])) t0) t0):Option (AV×Blocks))) (by kernel_rfl) ?_
  delta kB kO kL
  try dsimp only [cStr,cBs,cBool,cU8,cInt,cSl,l63]
  have eGet:([103,84,71,83]:List UInt8)=Kerb.lGet:=rfl
  have eTick:([103,84,75,84]:List UInt8)=Kerb.lTicket:=rfl
  have eChg:([67,80,87,108]:List UInt8)=Kerb.lChange:=rfl
  have eDone:([67,80,87,100]:List UInt8)=Kerb.lDone:=rfl
  have eGot:([116,103,115,84]:List UInt8)=Kerb.lGot:=rfl
  have eGiven:([116,107,116,71]:List UInt8)=Kerb.lGiven:=rfl
  simp only [A0,eChg,eGet,eTick,hpre]
  unfold Kerb.encodeKaSecret
  simp only
  cases hg:(lb==Kerb.lGet)
  case true =>
   have ht:Kerb.timed lb=true:=by simp [Kerb.timed,hg]
   have hl:lb.length=4:=by rw [eq_of_beq hg];rfl
   simp only [ht,sel_true,Yg,Bool.false_and]
   rw [if_neg (by simp)]
   cases h1:Zf t 4294967295
   ·rfl
   rw [Yg,sel_false,if_neg (by simp),if_pos trivial]
   cases h2:Zf st 4294967295
   ·rfl
   rw [Yg,sel_false]
   cases h3:Zf en 4294967295
   ·rfl
   rw [Yg,sel_false,if_neg (by simp)]
   by_cases h4:k=0
   case neg=>rw [sel_pos (by simpa using h4),if_pos h4]
   rw [sel_neg (by simp [h4]),if_neg (by simp [h4]),chk_of (by simp;omega),chk_of (by simp [Xq];omega),chk_of (by simp [Xq];omega),chk_of (by simp [Xq];omega)]
  cases hk:(lb==Kerb.lTicket)
  case true =>
   have ht:Kerb.timed lb=true:=by simp [Kerb.timed,hk]
   have hl:lb.length=4:=by rw [eq_of_beq hk];rfl
   simp only [ht,sel_true,sel_false,Yg,Bool.false_and]
   rw [if_neg (by simp)]
   cases h1:Zf t 4294967295
   ·rfl
   rw [Yg,sel_false,if_neg (by simp),if_pos trivial]
   cases h2:Zf st 4294967295
   ·rfl
   rw [Yg,sel_false]
   cases h3:Zf en 4294967295
   ·rfl
   rw [Yg,sel_false,if_neg (by simp)]
   by_cases h4:k=0
   case neg=>rw [sel_pos (by simpa using h4),if_pos h4]
   rw [sel_neg (by simp [h4]),if_neg (by simp [h4]),chk_of (by simp;omega),chk_of (by simp [Xq];omega),chk_of (by simp [Xq];omega),chk_of (by simp [Xq];omega)]
  have ht:Kerb.timed lb=false:=by simp [Kerb.timed,hg,hk]
  simp only [ht,sel_true,sel_false,Wj,Bool.true_and]
  cases hc:(lb==Kerb.lChange)
  ·rfl
  have hl:lb.length=4:=by rw [eq_of_beq hc];rfl
  rw [Yg,sel_false,if_neg (by simp)]
  cases h1:Zf t 4294967295
  ·rfl
  rw [Yg,sel_false,if_neg (by simp),if_neg (by simp)]
  cases h2:Xz k
  ·rfl
  rw [Yg,sel_false,if_neg (by simp)]
  by_cases h3:st=0
  case neg=>rw [sel_pos (by simpa using h3),if_pos (.inl h3)]
  rw [sel_neg (by simp [h3])]
  by_cases h4:en=0
  case neg=>rw [sel_pos (by simpa using h4),if_pos (.inr h4)]
  rw [sel_neg (by simp [h4]),if_neg (by simp [h3,h4]),chk_of (by simp;omega),chk_of (Wh (by simp [Xq,Kerb.keyBytes_len];omega)),chk_of (by simp [Xq,Kerb.keyBytes_len];omega)]
 ·cases h
theorem w62:Walked Tryz.prog G 62 3 sp62:=by
 refine ⟨Tryz.f62,Tryz.func62,by decide +kernel,rfl,fun xs bl r h=> ?_⟩
 unfold sp62 at h
 split at h
 ·rename_i n m
  obtain ⟨hpre,h2⟩:=chk_inv h;cases h2
  refine Eq.trans (b:=(Zj (chk (decide (0≤m)) (some (Zw (Kerb.realm m),[]))) fun (r:AV×Blocks)=>onNilB (Yy r) (Wg (Yq r) fun b=>Zj (chk (decide (0≤n)) (some (Zw (Kerb.realm n),[]))) fun (r:AV×Blocks)=>onNilB (Yy r) (Wg (Yq r) fun b_1=>some (Zd [Zw [(107:UInt8),(114:UInt8),(98:UInt8),(116:UInt8),(103:UInt8),(116:UInt8)],Zw b,Zw b_1],[]))):Option (AV×Blocks))) (by kernel_rfl) ?_
  simp only [Yf,decide_eq_true_eq] at hpre
  obtain ⟨h0,h1⟩:=hpre
  simp only [h0,h1,decide_true,↓A0,A0]
  rfl
 ·cases h
theorem w63:Walked Tryz.prog G 63 3 sp63:=by
 refine ⟨Tryz.f63,Tryz.func63,by decide +kernel,rfl,fun xs bl r h=> ?_⟩
 unfold sp63 at h
 split at h
 ·rename_i kd k bd
  obtain ⟨hpre,h2⟩:=chk_inv h;cases h2
  refine Eq.trans (b:=(let t0:List UInt8:=[UInt8.ofNat (Zm (Zu .u8 (Int.fdiv (↑(Zq bd):Int) (2 ^ min (Zm 8) (Yn .i64))))),UInt8.ofNat (Zm (Zu .u8 (↑(Zq bd):Int)))];let t1:List UInt8:=[(66:UInt8),UInt8.ofNat (Zm (Zu .u8 kd))];sel (decide (kd<1)) (some (Yu [Yv [],Zz .i64 104],[])) (sel (decide (kd>10)) (some (Yu [Yv [],Zz .i64 104],[])) (Zj (chk (decide (0≤k)&&decide (k<18446744073709551616)) (some (Yx (Xz k),[]))) (kL fun b=>sel (!b) (some (Yu [Yv [],Zz .i64 10],[])) (sel (decide ((↑(Zq bd):Int)>1000)) (some (Yu [Yv [],Zz .i64 105],[])) (Zj (chk (decide (0≤k)&&decide (k<18446744073709551616)) (some (Yv (Kerb.keyBytes k),[]))) (kB fun b=>chk (room (Zq t1+Zq b) 1) (chk (room (Zq (t1++b)+Zq t0) 1) (chk (room (Zq (t1++b++t0)+Zq bd) 1) (some (Yu [Yv (t1++b++t0++bd),Zz .i64 0],[])))))))))):Option (AV×Blocks))) (by kernel_rfl) ?_
  delta kB kL
  try dsimp only [cStr,cBs,cBool,cU8,cInt,cSl,l63]
  simp only [A0,Kerb.Client.av,Kerb.Cache.av,Kerb.Cred.av,hpre]
  unfold Kerb.makeBox
  by_cases k1:1≤kd
  case neg =>
   rw [sel_pos (by simp;omega),if_pos (by simp [Kerb.isKind];omega)]
  by_cases k2:kd≤10
  case neg =>
   rw [sel_neg (by simp;omega),sel_pos (by simp;omega),if_pos (by simp [Kerb.isKind];omega)]
  rw [sel_neg (by simp;omega),sel_neg (by simp;omega),if_neg (by simp [Kerb.isKind];omega)]
  cases h2:Xz k
  ·rfl
  rw [Yg,sel_false,if_neg (by simp)]
  by_cases h3:1000<bd.length
  ·rw [sel_pos (by simp;omega),if_pos h3]
  have lk:=Kerb.keyBytes_len k
  rw [sel_neg (by simp;omega),if_neg h3,chk_of (Wh (by simp;omega)),chk_of (Wh (by simp;omega)),chk_of (Wh (by simp;omega)),Kerb.two_bytes,Kerb.wrap_u8,Int.emod_eq_of_lt (by omega) (by omega)]
 ·cases h
theorem w72:Walked Tryz.prog G 72 3 sp72:=by
 refine ⟨Tryz.f72,Tryz.func72,by decide +kernel,rfl,fun xs bl r h=> ?_⟩
 unfold sp72 at h
 split at h
 ·rename_i B at_ li bad
  obtain ⟨hpre,h2⟩:=chk_inv h;cases h2
  show runFnH (G.env 72 3) G.rts (G.own 72) Tryz.f72 _ _ [0]=_
  refine Eq.trans (b:=(Zj (chk (decide (Zq B≤140737488355328)) (some (Zw (Vf (Wq B at_)),[[Yv B,Zz .i64 (bif bad || !Wk (Wq B at_)==0 then at_ else Vj (Wq B at_)),Yx li,Yx (bad || !Wk (Wq B at_)==0)]]))) fun (r:AV×Blocks)=>onConsB (Yy r) fun (x:List AV) (r_1:List (List AV))=>cBs x fun b r_2=>cInt .i64 r_2 fun n r_3=>cBool r_3 fun b_1 r_4=>cBool r_4 fun b_2 r_5=>onNil r_5 (onNilB r_1 (Wg (Yq r) fun b_3=>Zj (chk (decide (Zq b≤140737488355328)) (some (Zw (Vf (Wq b n)),[[Yv b,Zz .i64 (bif b_2 || !Wk (Wq b n)==0 then n else Vj (Wq b n)),Yx b_1,Yx (b_2 || !Wk (Wq b n)==0)]]))) fun (r:AV×Blocks)=>onConsB (Yy r) fun (x:List AV) (r_6:List (List AV))=>cBs x fun b r_7=>cInt .i64 r_7 fun n r_8=>cBool r_8 fun b_4 r_9=>cBool r_9 fun b_5 r_10=>onNil r_10 (onNilB r_6 (Wg (Yq r) fun b_6=>Zj (chk (decide (Zq b≤140737488355328)) (some (Zw (Vf (Wq b n)),[[Yv b,Zz .i64 (bif b_5 || !Wk (Wq b n)==0 then n else Vj (Wq b n)),Yx b_4,Yx (b_5 || !Wk (Wq b n)==0)]]))) fun (r:AV×Blocks)=>onConsB (Yy r) fun (x:List AV) (r_11:List (List AV))=>cBs x fun b r_12=>cInt .i64 r_12 fun n r_13=>cBool r_13 fun b_7 r_14=>cBool r_14 fun b_8 r_15=>onNil r_15 (onNilB r_11 (Wg (Yq r) fun b_9=>some (Zd [Zw b_3,Zw b_6,Zw b_9],[[Yv b,Zz .i64 n,Yx b_7,Yx b_8]]))))))):Option (AV×Blocks))) (by kernel_rfl) ?_
  try dsimp only [cStr,cBs,cBool,cU8,cInt,cSl,l63]
  simp only [A0]
  rw [chk_of hpre,chk_of hpre,chk_of hpre]
  rfl
 ·cases h
theorem w77:Walked Tryz.prog G 77 3 sp77:=by
 refine ⟨Tryz.f77,Tryz.func77,by decide +kernel,rfl,fun xs bl r h=> ?_⟩
 unfold sp77 at h
 split at h
 ·rename_i en ei ek ev ex em ea ef et
  obtain ⟨hpre,h2⟩:=chk_inv h;cases h2
  refine Eq.trans (b:=(let t0:Option (AV×Blocks):=sel (!Zf ev 255) (some (Zz .i64 104,[])) (sel (!Zf ex 4294967295) (some (Zz .i64 104,[])) (sel (!Zf et 4294967295) (some (Zz .i64 104,[])) (sel (!Zf em 255) (some (Zz .i64 104,[])) (sel (!Zf ea 3) (some (Zz .i64 104,[])) (sel (!Zf ef 20) (some (Zz .i64 104,[])) (some (Zz .i64 0,[])))))));Zj (chk (l63 en) (some (Yx (Kerb.validName en),[]))) (kL fun b=>sel (!b) (some (Zz .i64 103,[])) (Zj (chk (l63 ei) (some (Yx (Kerb.validInst ei),[]))) (kL fun b=>sel (!b) (some (Zz .i64 103,[])) (sel (!ek==0) (Zj (chk (decide (0≤ek)&&decide (ek<18446744073709551616)) (some (Yx (Xz ek),[]))) (kL fun b=>sel (!b) (some (Zz .i64 10,[])) t0)) t0)))):Option (AV×Blocks))) (by kernel_rfl) ?_
  delta kL
  try dsimp only [cStr,cBs,cBool,cU8,cInt,cSl,l63]
  simp only [Yf,decide_eq_true_eq] at hpre
  obtain ⟨⟨h1,h2⟩,h3⟩:=hpre
  have h4:(decide (0≤ek)&&decide (ek<18446744073709551616))=true:=h3
  simp only [h1,h2,h4,decide_true,↓A0,A0]
  unfold Kerb.Entry.err
  dsimp only
  cases Kerb.validName en
  ·rfl
  cases Kerb.validInst ei
  ·rfl
  simp only [Yg,Wj,sel_true,sel_false]
  rw [if_neg (by simp)]
  by_cases hk:ek=0
  ·rw [sel_neg (by simp [hk]),if_neg (by simp [hk])]
   cases Zf ev 255<;>cases Zf ex 4294967295<;>cases Zf et 4294967295<;>cases Zf em 255<;>cases Zf ea 3<;>cases Zf ef 20<;>rfl
  rw [sel_pos (by simpa using hk)]
  cases hv:Xz ek
  ·rw [if_pos ⟨hk,rfl⟩];rfl
  simp only [Yg,Wj,sel_true,sel_false]
  rw [if_neg (by simp)]
  cases Zf ev 255<;>cases Zf ex 4294967295<;>cases Zf et 4294967295<;>cases Zf em 255<;>cases Zf ea 3<;>cases Zf ef 20<;>rfl
 ·cases h
theorem w79:Walked Tryz.prog G 79 3 sp79:=by
 refine ⟨Tryz.f79,Tryz.func79,by decide +kernel,rfl,fun xs bl r h=> ?_⟩
 unfold sp79 at h
 split at h
 ·rename_i op cd bx
  cases h
  refine Eq.trans (b:=(let t2:List UInt8:=Kerb.header 9 false++Xg (Zu .i64 (op+128)) 1 false;let t1:Nat:=Zq t2;let t0:Option (AV×Blocks):=Zj (chk (decide (t1≤70368744177664)) (some (Xv (t2++Xg cd 1 false),[]))) (kO fun l=>Zj (chk (decide (Zq l≤70368744177664)) (some (Xv (l++Xg (↑(Zq bx):Int) 2 false),[]))) (kO fun l=>chk (room (Zq l+Zq bx) 1) (some (Yu [Yv (l++bx),Zz .i64 0],[]))));sel (decide (op<1)) (some (Yu [Yv [],Zz .i64 40],[])) (sel (decide (op>3)) (some (Yu [Yv [],Zz .i64 40],[])) (sel (decide (cd<0)) (some (Yu [Yv [],Zz .i64 104],[])) (sel (decide (cd>99)) (some (Yu [Yv [],Zz .i64 104],[])) (sel (decide ((↑(Zq bx):Int)>1012)) (some (Yu [Yv [],Zz .i64 105],[])) (sel (!cd==0) (sel (decide ((↑(Zq bx):Int)>0)) (some (Yu [Yv [],Zz .i64 108],[])) t0) t0))))):Option (AV×Blocks))) (by kernel_rfl) ?_
  delta kO
  try dsimp only [cStr,cBs,cBool,cU8,cInt,cSl,l63]
  simp only [A0]
  have hl9:(Kerb.header 9 false).length=2:=rfl
  unfold Kerb.encodeKaReply
  simp only
  by_cases h0:1≤op∧op≤3
  case neg =>
   have e:Kerb.kaOp op=false:=by simp [Kerb.kaOp];omega
   rw [e]
   by_cases h1:op<1
   ·rw [sel_pos (by simpa using h1)];rfl
   ·rw [sel_neg (by simpa using h1),sel_pos (by simp;omega)];rfl
  have e:Kerb.kaOp op=true:=by simp [Kerb.kaOp];omega
  rw [e,sel_neg (by simp;omega),sel_neg (by simp;omega),if_neg (by simp)]
  by_cases h1:0≤cd∧cd≤99
  case neg =>
   have e:Zf cd 99=false:=by simp [Zf];omega
   rw [e]
   by_cases h2:cd<0
   ·rw [sel_pos (by simpa using h2)];rfl
   ·rw [sel_neg (by simpa using h2),sel_pos (by simp;omega)];rfl
  have e:Zf cd 99=true:=by simp [Zf];omega
  rw [e,sel_neg (by simp;omega),sel_neg (by simp;omega),if_neg (by simp)]
  by_cases h2:1012<bx.length
  ·rw [sel_pos (by simp;omega),if_pos h2]
  rw [sel_neg (by simp;omega),if_neg h2,wrap_i64 (by omega) (by omega)]
  by_cases h3:cd=0
  ·rw [sel_neg (by simp [h3]),if_neg (by simp [h3]),chk_of (by simp [Xq,hl9]),chk_of (by simp [Xq,hl9]),chk_of (Wh (by simp [Xq,hl9];omega))]
   rfl
  rw [sel_pos (by simpa using h3)]
  by_cases h4:bx=[]
  ·rw [sel_neg (by simp [h4]),if_neg (by simp [h4]),chk_of (by simp [Xq,hl9]),chk_of (by simp [Xq,hl9]),chk_of (Wh (by simp [Xq,hl9];omega))]
   rfl
  ·rw [sel_pos (by have:=List.length_pos_iff.2 h4;simp;omega),if_pos ⟨h3,h4⟩]
 ·cases h
theorem w82:Walked Tryz.prog G 82 3 sp82:=by
 refine ⟨Tryz.f82,Tryz.func82,by decide +kernel,rfl,fun xs bl r h=> ?_⟩
 unfold sp82 at h
 split at h
 ·rename_i b
  obtain ⟨hpre,h2⟩:=chk_inv h;cases h2
  refine Eq.trans (b:=(sel (!(↑(Zq b):Int)==8) (some (Yu [Zz .u64 0,Yx false],[])) (Zj (loopM (fun (st:List AV)=>cBs st fun b r=>cInt .u64 r fun n r=>cInt .i64 r fun n_1 r=>onNil r (sel (decide (n_1<8)) (chk (decide (0≤n_1)&&decide (n_1<(↑(Zq b):Int))) (some (Vp [Yv b,Zz .u64 (Zu .u64 (↑(BitVec.toNat (BitVec.ofInt (Yn .u64) (Zu .u64 (n*2 ^ min (Zm 8) (Yn .u64))) ||| BitVec.ofInt (Yn .u64) (Zu .u64 (↑(Wy (Xj b (Zm n_1) (0:UInt8))):Int)))):Int)),Zz .i64 (Zu .i64 (n_1+1))]))) (some (Vh (Wz 0,[Yv b,Zz .u64 n,Zz .i64 n_1]))))) [Yv b,Zz .u64 0,Zz .i64 0]) fun (r:Ex×List AV)=>cBs (Yy r) fun b r_1=>cInt .u64 r_1 fun n r_2=>cInt .i64 r_2 fun n_1 r_3=>onNil r_3 (exK r.1 none fun (j:Nat)=>sel (Vd j 0) (Zj (chk (decide (0≤n)&&decide (n<18446744073709551616)) (some (Yx (Xz n),[]))) (kL fun b=>sel (!b) (some (Yu [Zz .u64 0,Yx false],[])) (some (Yu [Zz .u64 n,Yx true],[])))) none)):Option (AV×Blocks))) (by kernel_rfl) ?_
  delta kL
  try dsimp only [cStr,cBs,cBool,cU8,cInt,cSl,l63]
  have hb:=of_decide_eq_true hpre
  unfold Kerb.keyRead
  by_cases h8:b.length=8
  case neg =>
   rw [sel_pos (by simp;omega),if_neg (by omega)]
  rw [sel_neg (by simp [h8])]
  refine loop_rounds (fun i:Nat=>[Yv b,Zz Yp (Kerb.valB (b.take i)),Zz Zy (i:Int)]) (fun i=>i≤8) (fun i=>8-i)
   (fun r=>r=(Wz 0,[Yv b,Zz Yp (Kerb.valB b),Zz Zy 8])) 0 (by omega) rfl ?_ ?_
  ·intro i hi
   simp only [A0]
   by_cases hlt:i<8
   ·have hv:=Kerb.valB_take (l:=b) (i:=i) (by omega)
    have hbd:=Kerb.valB_bd7 (l:=b.take i) (by simp;omega)
    rw [sel_pos (by simp;omega),chk_of (by simp;omega),Wv,Kerb.shl8_oru _ hbd.1 hbd.2,wrap_i64 (by omega) (by omega),← hv]
    exact ⟨_,rfl,i+1,rfl,by omega,by dsimp only;omega⟩
   ·rw [sel_neg (by simp;omega)]
    refine ⟨_,rfl,?_⟩
    show _=_
    rw [Xb (by omega),show i=8 from by omega]
    rfl
  rintro r rfl
  have hbd:=Kerb.valB_bd8 (l:=b) (by omega)
  simp only [A0]
  rw [sel_pos (Xn _),chk_of (by simp;omega)]
  cases hv:Xz (Kerb.valB b)
  ·rw [if_neg (by simp)]
   rfl
  ·rw [if_pos ⟨h8,rfl⟩]
   rfl
 ·cases h
theorem w88:Walked Tryz.prog G 88 3 sp88:=by
 refine ⟨Tryz.f88,Tryz.func88,by decide +kernel,rfl,fun xs bl r h=> ?_⟩
 unfold sp88 at h
 split at h
 ·rename_i a b c
  obtain ⟨hpre,h2⟩:=chk_inv h;cases h2
  refine Eq.trans (b:=(Zj (chk (decide (Zq a≤9223372036854775807)) (some (Yx (Kerb.validName a),[]))) fun (r:AV×Blocks)=>onNilB (Yy r) (Vb (Yq r) fun b_1=>sel b_1 (Zj (chk (decide (Zq b≤9223372036854775807)) (some (Yx (Kerb.validInst b),[]))) fun (r:AV×Blocks)=>onNilB (Yy r) (Vb (Yq r) fun b=>sel b (Zj (chk (decide (Zq c≤9223372036854775807)) (some (Yx (Kerb.validRealm c),[]))) fun (r:AV×Blocks)=>onNilB (Yy r) (Vb (Yq r) fun b=>some (Yx b,[]))) (some (Yx false,[])))) (some (Yx false,[]))):Option (AV×Blocks))) (by kernel_rfl) ?_
  simp only [Yf,decide_eq_true_eq] at hpre
  simp only [A0]
  rw [chk_of (by simp;omega),chk_of (by simp;omega),chk_of (by simp;omega)]
  simp only [Kerb.Prin.valid]
  cases Kerb.validName a<;>cases Kerb.validInst b<;>rfl
 ·cases h
theorem w99:Walked Tryz.prog G 99 3 sp99:=by
 refine ⟨Tryz.f99,Tryz.func99,by decide +kernel,rfl,fun xs bl r h=> ?_⟩
 unfold sp99 at h
 split at h
 ·rename_i i l n s
  cases h
  refine Eq.trans (b:=(sel (!Zf i 4294967295) (some (Zz .i64 104,[])) (sel (!Zf n 4294967295) (some (Zz .i64 104,[])) (sel (decide (l<0)) (some (Zz .i64 104,[])) (sel (decide (l>255)) (some (Zz .i64 104,[])) (sel (decide (s<0)) (some (Zz .i64 104,[])) (sel (decide (s>4294967295)) (some (Zz .i64 104,[])) (sel (decide (i>Zu .i64 (n+s))) (some (Zz .i64 33,[])) (sel (decide (n>Zu .i64 (Vw i l+s))) (some (Zz .i64 32,[])) (some (Zz .i64 0,[]))))))))):Option (AV×Blocks))) (by kernel_rfl) ?_
  unfold Kerb.stateErr
  cases h1:Zf i 4294967295
  ·rfl
  cases h2:Zf n 4294967295
  ·rfl
  cases h3:Zf l 255
  ·simp only [Yg,Wj,sel_true,sel_false]
   rw [if_pos (by simp)]
   by_cases q:l<0
   ·rw [sel_pos (by simpa using q)]
   ·rw [sel_neg (by simpa using q)]
    have:255<l:=by
     simp only [Zf,Bool.and_eq_false_iff,decide_eq_false_iff_not] at h3
     omega
    rw [sel_pos (by simpa using this)]
  cases h4:Zf s 4294967295
  ·have b3:=Kerb.within_iff.1 h3
   simp only [Yg,Wj,sel_true,sel_false]
   rw [sel_neg (by simp;omega),sel_neg (by simp;omega),if_pos (by simp)]
   by_cases q:s<0
   ·rw [sel_pos (by simpa using q)]
   ·rw [sel_neg (by simpa using q)]
    have:4294967295<s:=by
     simp only [Zf,Bool.and_eq_false_iff,decide_eq_false_iff_not] at h4
     omega
    rw [sel_pos (by simpa using this)]
  have b1:=Kerb.within_iff.1 h1
  have b2:=Kerb.within_iff.1 h2
  have b3:=Kerb.within_iff.1 h3
  have b4:=Kerb.within_iff.1 h4
  have he:Vw i l=i+300*(l+1):=by simp [Vw,h1,h3]
  simp only [Yg,sel_false,Yw,Bool.false_eq_true,if_false,he]
  rw [sel_neg (by simp;omega),sel_neg (by simp;omega),sel_neg (by simp;omega),sel_neg (by simp;omega),wrap_i64 (by omega) (by omega),wrap_i64 (by omega) (by omega)]
  by_cases h5:n+s<i
  ·rw [sel_pos (by simpa using h5),if_pos h5]
  rw [sel_neg (by simpa using h5),if_neg h5]
  by_cases h6:i+300*(l+1)+s<n
  ·rw [sel_pos (by simpa using h6),if_pos h6]
  rw [sel_neg (by simpa using h6),if_neg h6]
 ·cases h
theorem w106:Walked Tryz.prog G 106 3 sp106:=by
 refine ⟨Tryz.f106,Tryz.func106,by decide +kernel,rfl,fun xs bl r h=> ?_⟩
 unfold sp106 at h
 split at h
 ·rename_i k
  obtain ⟨hpre,h2⟩:=chk_inv h;cases h2
  refine Eq.trans (b:=(Zj (chk (decide (0≤k)&&decide (k<18446744073709551616)) (some (Yx (Xz k),[]))) fun (r:AV×Blocks)=>onNilB (Yy r) (Vb (Yq r) fun b=>sel (!b) (some (Zz .i64 0,[])) (some (Zz .i64 (Zu .i64 (Int.fdiv k (2 ^ min (Zm 56) (Yn .u64)))),[]))):Option (AV×Blocks))) (by kernel_rfl) ?_
  simp only [hpre,↓A0,A0]
  unfold Kerb.classOf
  cases hk:Xz k
  ·rfl
  simp only [Yg,Wj,sel_true,sel_false]
  simp only [Yf,decide_eq_true_eq] at hpre
  have h7:(min (Zm 56) (Yn .u64))=56:=rfl
  rw [h7,Int.fdiv_eq_ediv_of_nonneg _ (by decide),wrap_i64 (by omega) (by omega)]
  rfl
 ·cases h
theorem w109:Walked Tryz.prog G 109 3 sp109:=by
 refine ⟨Tryz.f109,Tryz.func109,by decide +kernel,rfl,fun xs bl r h=> ?_⟩
 unfold sp109 at h
 split at h
 ·rename_i rl els n i now bit xp br
  obtain ⟨hpre,h2⟩:=chk_inv h;cases h2
  refine Eq.trans (b:=(Zj (chk (List.all els Kerb.isEntry&&decide (Zq els≤1000000)) (some (Yu [Zz .i64 (Yq (Kerb.findEnt (List.map Kerb.toEntry els) n i)),Zz .i64 (Yy (Kerb.findEnt (List.map Kerb.toEntry els) n i))],[]))) (kT fun vs=>cInt .i64 vs fun n r=>cInt .i64 r fun n_1 r=>onNil r (sel (!n_1==0) (some (Yu [Zz .i64 0,Zz .i64 n_1],[])) (chk (decide (0≤n)&&decide (n<(↑(Zq els):Int))&&true) (AV.onAgg (Xj els (Zm n) Wu) fun cs=>cStr cs fun b r=>cStr r fun b r=>cInt .u64 r fun n_2 r=>cInt .i64 r fun n_3 r=>cInt .i64 r fun n_4 r=>cInt .i64 r fun n_5 r=>cInt .i64 r fun n_6 r=>let t0:Option (AV×Blocks):=sel (!Zu .i64 (↑(BitVec.toNat (BitVec.ofInt (Yn .i64) n_6 &&& BitVec.ofInt (Yn .i64) bit)):Int)==0) (some (Yu [Zz .i64 0,Zz .i64 br],[])) (some (Yu [Zz .i64 n,Zz .i64 0],[]));cInt .i64 r fun n r=>cInt .i64 r fun n r=>onNil r (Zj (chk (decide (0≤n_2)&&decide (n_2<18446744073709551616)) (some (Yx (Xz n_2),[]))) (kL fun b=>sel (!b) (some (Yu [Zz .i64 0,Zz .i64 10],[])) (sel (!n_4==0) (sel (decide (n_4≤now)) (some (Yu [Zz .i64 0,Zz .i64 xp],[])) t0) t0))))))):Option (AV×Blocks))) (by kernel_rfl) ?_
  delta kT kL
  try dsimp only [cStr,cBs,cBool,cU8,cInt,cSl,l63]
  simp only [Yf,decide_eq_true_eq] at hpre
  obtain ⟨hall,hlen⟩:=hpre
  obtain ⟨es,rfl,hok⟩:=Kerb.ents_of hall
  simp only [hall,hlen,Kerb.map_toEntry,decide_true,Yw,↓A0,A0]
  unfold Kerb.useEnt
  dsimp only
  have hf:=Kerb.find_count (es:=es) (n:=n) (i:=i)
  generalize Kerb.findEnt es n i=F at hf
  obtain ⟨j,e⟩:=F
  dsimp only at hf ⊢
  by_cases he:e=0
  case neg=>rw [sel_pos (by simpa using he),if_pos he]
  obtain ⟨_,f2,f3⟩:=hf he
  subst f2
  rw [sel_neg (by simpa using he),if_neg (by simpa using he),chk_of (by simp only [List.length_map,Bool.and_true,Yf,decide_eq_true_eq];omega),Wv,Kerb.getD_ent f3]
  have hx:=hok _ (Kerb.ent_mem f3)
  generalize es.getD (es.findIdx (Kerb.Entry.named n i)) Kerb.noEntry=x at hx
  obtain ⟨_,_,x3,_⟩:=hx
  have h4:(decide (0≤x.key)&&decide (x.key<18446744073709551616))=true:=x3
  simp only [Zk,↓A0,A0,h4]
  cases hk:Xz x.key
  ·rfl
  simp only [Yg,Wj,sel_true,sel_false]
  rw [if_neg (by simp)]
  have hb:Zu .i64 (BitVec.toNat (BitVec.ofInt (Yn .i64) x.attr &&& BitVec.ofInt (Yn .i64) bit):Int)=Kerb.bitOf x.attr bit:=rfl
  rw [hb]
  by_cases h1:x.expires=0
  ·rw [sel_neg (by simp [h1]),if_neg (by simp [h1])]
   by_cases h2:Kerb.bitOf x.attr bit=0
   ·rw [sel_neg (by simp [h2]),if_neg (by simp [h2])]
   ·rw [sel_pos (by simpa using h2),if_pos h2]
  ·rw [sel_pos (by simpa using h1)]
   by_cases h3:x.expires≤now
   ·rw [sel_pos (by simpa using h3),if_pos ⟨h1,h3⟩]
   ·rw [sel_neg (by simpa using h3),if_neg (by simp [h3])]
    by_cases h2:Kerb.bitOf x.attr bit=0
    ·rw [sel_neg (by simp [h2]),if_neg (by simp [h2])]
    ·rw [sel_pos (by simpa using h2),if_pos h2]
 ·cases h
theorem w116:Walked Tryz.prog G 116 3 sp116:=by
 refine ⟨Tryz.f116,Tryz.func116,by decide +kernel,rfl,fun xs bl r h=> ?_⟩
 unfold sp116 at h
 split at h
 ·rename_i b els
  obtain ⟨hpre,h2⟩:=chk_inv h;cases h2
  refine Eq.trans (b:=(sel (!Kerb.Head.err (Vv b)==0) (some (Yu [Yx false,Zz .i64 (Kerb.Head.err (Vv b))],[])) (Zj (chk (allInts els&&decide (Zq els≤1000)) (some (Yx (List.contains (intsIn els) (Kerb.Head.kind (Vv b))),[]))) fun (r:AV×Blocks)=>onNilB (Yy r) (Vb (Yq r) fun b_1=>sel (!b_1) (some (Yu [Yx false,Zz .i64 40],[])) (some (Yu [Yx (Kerb.Head.little (Vv b)),Zz .i64 0],[])))):Option (AV×Blocks))) (by kernel_rfl) ?_
  simp only [A0]
  unfold Kerb.headIs
  by_cases h:(Vv b).err=0
  ·rw [sel_neg (by simp [h]),chk_of hpre]
   cases hc:(intsIn els).contains (Vv b).kind<;>simp [sel,h,hc]
  ·rw [sel_pos (by simpa using h)]
   simp [h]
 ·cases h
theorem w118:Walked Tryz.prog G 118 3 sp118:=by
 refine ⟨Tryz.f118,Tryz.func118,by decide +kernel,rfl,fun xs bl r h=> ?_⟩
 unfold sp118 at h
 split at h
 ·rename_i n B at_ bad
  obtain ⟨hpre,h2⟩:=chk_inv h;cases h2
  show runFnH (G.env 118 3) G.rts (G.own 118) Tryz.f118 _ _ [0]=_
  refine Eq.trans (b:=(Zj (chk (decide (Zq B≤140737488355328)) (some (Yu [Yv (Vf (Vg B at_ n)),Zz .i64 (Vj (Vg B at_ n)),Zz .i64 (Wk (Vg B at_ n))],[]))) fun (r:AV×Blocks)=>onNilB (Yy r) (Vy (Yq r) fun vs=>onCons vs fun x r=>AV.onBs x fun b=>onCons r fun x r=>Yk .i64 x fun n=>onCons r fun x r=>Yk .i64 x fun n_1=>onNil r (sel (!!(bad || !n_1==0)) (some (Yv [],[[Yv B,Zz .i64 (bif bad || !n_1==0 then at_ else n),Yx (bad || !n_1==0)]])) (some (Yv b,[[Yv B,Zz .i64 (bif bad || !n_1==0 then at_ else n),Yx (bad || !n_1==0)]])))):Option (AV×Blocks))) (by kernel_rfl) ?_
  have hb:=of_decide_eq_true hpre
  simp only [A0]
  rw [chk_of (by simp;omega)]
  unfold Kerb.pBytes
  cases bad
  ·simp only [Bool.false_or]
   generalize hq:(!(_==(0:Int)))=q
   cases q<;>rfl
  ·rfl
 ·cases h
theorem w152:Walked Tryz.prog G 152 3 sp152:=by
 refine ⟨Tryz.f152,Tryz.func152,by decide +kernel,rfl,fun xs bl r h=> ?_⟩
 unfold sp152 at h
 split at h
 ·rename_i n w els
  obtain ⟨hpre,h2⟩:=chk_inv h;cases h2
  refine Eq.trans (b:=(sel (!Zf n 4294967295) (some (Yu [Zz .i64 0,Yx false],[])) (sel (decide (Kerb.least w [255]<0)) (some (Yu [Zz .i64 0,Yx false],[])) (Zj (chk (allInts els&&decide (Zq els≤1000000)) (some (Zz .i64 (Kerb.least (Vw n (Kerb.least w [255])) (intsIn els)),[]))) fun (r:AV×Blocks)=>onNilB (Yy r) (Yk .i64 (Yq r) fun n_1=>sel (decide (n_1<n)) (some (Yu [Zz .i64 0,Yx false],[])) (Zj (chk (decide ((-9223372036854775808:Int)≤Zu .i64 (n_1-n))&&decide (Zu .i64 (n_1-n)≤9223372036854775807)) (some (Yu [Zz .i64 (bif decide (Zu .i64 (n_1-n)<300) then 0 else Kerb.fromSec (Zu .i64 (n_1-n))),Yx !decide (Zu .i64 (n_1-n)<300)],[]))) fun (r:AV×Blocks)=>onNilB (Yy r) (Vy (Yq r) fun vs=>onCons vs fun x r=>Yk .i64 x fun n=>onCons r fun x r=>Vb x fun b=>onNil r (some (Yu [Zz .i64 n,Yx b],[]))))))):Option (AV×Blocks))) (by kernel_rfl) ?_
  simp only [Yf,decide_eq_true_eq] at hpre
  obtain ⟨⟨ha,hl⟩,hi⟩:=hpre
  have hl0:Kerb.least w [255]=Wm w 255:=rfl
  simp only [hl0,ha,hl,decide_true,Yw,↓A0,A0]
  unfold Kerb.grantLife
  cases hn:Zf n 4294967295
  ·rfl
  rw [sel_neg (by rfl)]
  have n1:=Kerb.within_iff.1 hn
  by_cases hw:w<0
  ·have h5:Wm w 255<0:=by unfold Wm;split<;>omega
   rw [sel_pos (by simpa using h5),if_pos (by simp [hw])]
  have hm:0≤Wm w 255∧Wm w 255≤255:=by unfold Wm;split<;>omega
  rw [sel_neg (by simp;omega),if_neg (by simp [hw])]
  have ht:Vw n (Wm w 255)=n+300*(Wm w 255+1):=by
   unfold Vw
   rw [if_pos (by rw [hn,Kerb.within_iff.2 hm];rfl)]
  rw [ht]
  have hle:=Kerb.least_le (intsIn els) (n+300*(Wm w 255+1))
  generalize Kerb.least (n+300*(Wm w 255+1)) (intsIn els)=L at hle ⊢
  by_cases h1:L<n
  ·rw [sel_pos (by simpa using h1),if_pos (by omega)]
  rw [sel_neg (by simpa using h1),wrap_i64 (by omega) (by omega),chk_of (by simp;omega)]
  by_cases h2:L-n<300
  ·rw [if_pos h2,show decide (L-n<300)=true from by simpa using h2];rfl
  ·rw [if_neg h2,show decide (L-n<300)=false from by simpa using h2]
   unfold Kerb.fromSec
   rw [Xh (by omega)]
   rfl
 ·cases h
theorem w153:Walked Tryz.prog G 153 3 sp153:=by
 refine ⟨Tryz.f153,Tryz.func153,by decide +kernel,rfl,fun xs bl r h=> ?_⟩
 unfold sp153 at h
 split at h
 ·rename_i k
  obtain ⟨hpre,h2⟩:=chk_inv h;cases h2
  refine Eq.trans (b:=(Zj (chk (decide (0≤k)&&decide (k<18446744073709551616)) (some (Yu [Zz .i64 (bif Xz k then Kerb.keyClass k else 0),Zz .i64 (bif Xz k then Kerb.keySerial k else 0),Yx (Xz k)],[]))) fun (r:AV×Blocks)=>onNilB (Yy r) (Vy (Yq r) fun vs=>onCons vs fun x r=>Yk .i64 x fun n=>onCons r fun x r=>Yk .i64 x fun n_1=>onCons r fun x r=>Vb x fun b=>onNil r (some (Zz .i64 n,[]))):Option (AV×Blocks))) (by kernel_rfl) ?_
  simp only [hpre,↓A0,A0]
  rfl
 ·cases h
theorem w162:Walked Tryz.prog G 162 3 sp162:=by
 refine ⟨Tryz.f162,Tryz.func162,by decide +kernel,rfl,fun xs bl r h=> ?_⟩
 unfold sp162 at h
 split at h
 ·rename_i b pos
  obtain ⟨hpre,h2⟩:=chk_inv h;cases h2
  refine Eq.trans (b:=(Zj (chk (decide (Zq b≤140737488355328)&&true&&true) (some (Yu [Zz .i64 (Vu (Xf b pos 1 false)),Zz .i64 (Vz (Xf b pos 1 false)),Zz .i64 (Vq (Xf b pos 1 false))],[]))) fun (r:AV×Blocks)=>onNilB (Yy r) (Vy (Yq r) fun vs=>onCons vs fun x r=>Yk .i64 x fun n=>onCons r fun x r=>Yk .i64 x fun n_1=>onCons r fun x r=>Yk .i64 x fun n_2=>onNil r (some (Yu [Zz .i64 n,Zz .i64 n_1,Zz .i64 n_2],[]))):Option (AV×Blocks))) (by kernel_rfl) ?_
  simp only [A0]
  rw [chk_of (by rw [hpre];rfl)]
 ·cases h
theorem w166:Walked Tryz.prog G 166 3 sp166:=by
 refine ⟨Tryz.f166,Tryz.func166,by decide +kernel,rfl,fun xs bl r h=> ?_⟩
 unfold sp166 at h
 split at h
 ·rename_i b pos little
  obtain ⟨hpre,h2⟩:=chk_inv h;cases h2
  refine Eq.trans (b:=(Zj (chk (decide (Zq b≤140737488355328)&&true&&true) (some (Yu [Zz .i64 (Vu (Xf b pos 2 little)),Zz .i64 (Vz (Xf b pos 2 little)),Zz .i64 (Vq (Xf b pos 2 little))],[]))) fun (r:AV×Blocks)=>onNilB (Yy r) (Vy (Yq r) fun vs=>onCons vs fun x r=>Yk .i64 x fun n=>onCons r fun x r=>Yk .i64 x fun n_1=>onCons r fun x r=>Yk .i64 x fun n_2=>onNil r (some (Yu [Zz .i64 n,Zz .i64 n_1,Zz .i64 n_2],[]))):Option (AV×Blocks))) (by kernel_rfl) ?_
  simp only [A0]
  rw [chk_of (by rw [hpre];rfl)]
 ·cases h
theorem w169:Walked Tryz.prog G 169 3 sp169:=by
 refine ⟨Tryz.f169,Tryz.func169,by decide +kernel,rfl,fun xs bl r h=> ?_⟩
 unfold sp169 at h
 split at h
 ·rename_i b pos little
  obtain ⟨hpre,h2⟩:=chk_inv h;cases h2
  refine Eq.trans (b:=(Zj (chk (decide (Zq b≤140737488355328)&&true&&true) (some (Yu [Zz .i64 (Vu (Xf b pos 4 little)),Zz .i64 (Vz (Xf b pos 4 little)),Zz .i64 (Vq (Xf b pos 4 little))],[]))) fun (r:AV×Blocks)=>onNilB (Yy r) (Vy (Yq r) fun vs=>onCons vs fun x r=>Yk .i64 x fun n=>onCons r fun x r=>Yk .i64 x fun n_1=>onCons r fun x r=>Yk .i64 x fun n_2=>onNil r (some (Yu [Zz .i64 n,Zz .i64 n_1,Zz .i64 n_2],[]))):Option (AV×Blocks))) (by kernel_rfl) ?_
  simp only [A0]
  rw [chk_of (by rw [hpre];rfl)]
 ·cases h
theorem w182:Walked Tryz.prog G 182 3 sp182:=by
 refine ⟨Tryz.f182,Tryz.func182,by decide +kernel,rfl,fun xs bl r h=> ?_⟩
 unfold sp182 at h
 split at h
 ·rename_i b
  obtain ⟨hpre,h2⟩:=chk_inv h;cases h2
  refine Eq.trans (b:=(chk (decide (0≤Xw (Zu .i64 (8-Xw (↑(Zq b):Int) 8)) 8)&&decide (Xw (Zu .i64 (8-Xw (↑(Zq b):Int) 8)) 8≤Xw (Zu .i64 (8-Xw (↑(Zq b):Int) 8)) 8)&&decide (Xw (Zu .i64 (8-Xw (↑(Zq b):Int) 8)) 8≤140737488355328)) (Zj (chk (decide (Zq (Xd b (Xd (List.replicate (Zm (Xw (Zu .i64 (8-Xw (↑(Zq b):Int) 8)) 8)) (0:UInt8)) []))≤140737488355328)&&decide (Zq [Yv b,Yv (List.replicate (Zm (Xw (Zu .i64 (8-Xw (↑(Zq b):Int) 8)) 8)) (0:UInt8))]≤1000)) (some (Xv (Xd b (Xd (List.replicate (Zm (Xw (Zu .i64 (8-Xw (↑(Zq b):Int) 8)) 8)) (0:UInt8)) [])),[]))) fun (r:AV×Blocks)=>onNilB (Yy r) (AV.onOwnB (Yq r) fun l=>some (Yv l,[]))):Option (AV×Blocks))) (by kernel_rfl) ?_
  have hb:=of_decide_eq_true hpre
  rw [Kerb.pad_eq hb]
  simp only [A0]
  rw [chk_of (by simp;omega),chk_of (by simp;omega)]
  simp [Kerb.pad]
  omega
 ·cases h
theorem w187:Walked Tryz.prog G 187 3 sp187:=by
 refine ⟨Tryz.f187,Tryz.func187,by decide +kernel,rfl,fun xs bl r h=> ?_⟩
 unfold sp187 at h
 split at h
 ·rename_i b s
  obtain ⟨hpre,h2⟩:=chk_inv h;cases h2
  refine Eq.trans (b:=(Zj (chk (decide (Zq (Xd b (Xd s ((0:UInt8)::Xd [] [])))≤140737488355328)&&decide (Zq [Yv b,Yv s,Yv [(0:UInt8)]]≤1000)) (some (Xv (Xd b (Xd s ((0:UInt8)::Xd [] []))),[]))) fun (r:AV×Blocks)=>onNilB (Yy r) (AV.onOwnB (Yq r) fun l=>some (Yv l,[])):Option (AV×Blocks))) (by kernel_rfl) ?_
  simp only [decide_eq_true_eq] at hpre
  simp only [A0]
  rw [chk_of (by simp;omega)]
  simp [Kerb.putText]
 ·cases h
theorem w198:Walked Tryz.prog G 198 3 sp198:=by
 refine ⟨Tryz.f198,Tryz.func198,by decide +kernel,rfl,fun xs bl r h=> ?_⟩
 unfold sp198 at h
 split at h
 ·rename_i b pos
  obtain ⟨hpre,h2⟩:=chk_inv h;cases h2
  refine Eq.trans (b:=(Zj (chk (decide (Zq b≤4611686018427387904)&&true&&true) (some (Yu [Zz .i64 (Vu (Xf b pos 1 false)),Zz .i64 (Vz (Xf b pos 1 false)),Zz .i64 (Vq (Xf b pos 1 false))],[]))) fun (r:AV×Blocks)=>onNilB (Yy r) (Vy (Yq r) fun vs=>onCons vs fun x r=>Yk .i64 x fun n=>onCons r fun x r=>Yk .i64 x fun n_1=>onCons r fun x r=>Yk .i64 x fun n_2=>onNil r (some (Yu [Zz .i64 n,Zz .i64 n_1,Zz .i64 n_2],[]))):Option (AV×Blocks))) (by kernel_rfl) ?_
  simp only [A0]
  rw [chk_of (by rw [hpre];rfl)]
 ·cases h
theorem w201:Walked Tryz.prog G 201 3 sp201:=by
 refine ⟨Tryz.f201,Tryz.func201,by decide +kernel,rfl,fun xs bl r h=> ?_⟩
 unfold sp201 at h
 split at h
 ·rename_i b pos little
  obtain ⟨hpre,h2⟩:=chk_inv h;cases h2
  refine Eq.trans (b:=(Zj (chk (decide (Zq b≤4611686018427387904)&&true&&true) (some (Yu [Zz .i64 (Vu (Xf b pos 2 little)),Zz .i64 (Vz (Xf b pos 2 little)),Zz .i64 (Vq (Xf b pos 2 little))],[]))) fun (r:AV×Blocks)=>onNilB (Yy r) (Vy (Yq r) fun vs=>onCons vs fun x r=>Yk .i64 x fun n=>onCons r fun x r=>Yk .i64 x fun n_1=>onCons r fun x r=>Yk .i64 x fun n_2=>onNil r (some (Yu [Zz .i64 n,Zz .i64 n_1,Zz .i64 n_2],[]))):Option (AV×Blocks))) (by kernel_rfl) ?_
  simp only [A0]
  rw [chk_of (by rw [hpre];rfl)]
 ·cases h
theorem w214:Walked Tryz.prog G 214 3 sp214:=by
 refine ⟨Tryz.f214,Tryz.func214,by decide +kernel,rfl,fun xs bl r h=> ?_⟩
 unfold sp214 at h
 split at h
 ·rename_i b pos
  obtain ⟨hpre,h2⟩:=chk_inv h;cases h2
  refine Eq.trans (b:=(let t5:List UInt8:=Vx (Zm pos) (Wn (Zm (↑(Zq b):Int)) b);let t6:Option (AV×Blocks):=some (Yu [Zw [],Zz .i64 0,Zz .i64 105],[]);let t7:Option (AV×Blocks):=some (Yu [Zw [],Zz .i64 0,Zz .i64 101],[]);let t1:Int:=Ym (0:UInt8) t5;let t2:Int:=(↑(Zq t5):Int);let t4:List UInt8:=Vx (Zm (↑(0:Nat):Int)) (Wn (Zm 40) t5);let t0:Int:=Ym (0:UInt8) t4;let t3:Int:=(↑(Zq t4):Int);Zj (chk (decide (Zq b≤4611686018427387904)) (some (Zz .i64 (Kerb.room b pos 0),[]))) (kI .i64 fun n=>sel (!n==0) (some (Yu [Zw [],Zz .i64 0,Zz .i64 n],[])) (chk (decide (0≤pos)&&decide (pos≤(↑(Zq b):Int))&&decide ((↑(Zq b):Int)≤(↑(Zq b):Int))) (sel (decide (t2>40)) (chk (decide (40≤t2)) (sel (decide (t0≥0)) (chk (decide ((↑(0:Nat):Int)≤t0)&&decide (t0≤t3)) (some (Yu [Zw (Vx (Zm (↑(0:Nat):Int)) (Wn (Zm t0) t4)),Zz .i64 (Zu .i64 (Zu .i64 (pos+t0)+1)),Zz .i64 0],[]))) (sel (t3==40) t6 t7))) (sel (decide (t1≥0)) (chk (decide ((↑(0:Nat):Int)≤t1)&&decide (t1≤t2)) (some (Yu [Zw (Vx (Zm (↑(0:Nat):Int)) (Wn (Zm t1) t5)),Zz .i64 (Zu .i64 (Zu .i64 (pos+t1)+1)),Zz .i64 0],[]))) (sel (t2==40) t6 t7))))):Option (AV×Blocks))) (by kernel_rfl) ?_
  delta kI
  try dsimp only [cStr,cBs,cBool,cU8,cInt,cSl,l63]
  simp only [decide_eq_true_eq] at hpre
  simp only [A0]
  rw [chk_of (by simpa using hpre)]
  have ht:(Wn (Zm (b.length:Int)) b)=b:=by simp
  rw [ht]
  unfold Wq
  by_cases hr:Kerb.room b pos 0=0
  case neg =>
   have h104:Kerb.room b pos 0=104:=by
    unfold Kerb.room at hr ⊢
    split at hr
    ·rw [if_pos (by assumption)]
    ·split at hr<;>omega
   rw [sel_pos (by simpa using hr),if_neg hr,h104]
  obtain ⟨q1,q2,_,_⟩:=Kerb.room_zero.1 hr
  rw [sel_neg (by simp [hr]),if_pos hr,chk_of (by simp;omega)]
  obtain ⟨R,hR⟩:∃ R,R=b.drop pos.toNat:=⟨_,rfl⟩
  have hRl:R.length=b.length-pos.toNat:=by rw [hR];simp
  rw [← hR]
  obtain ⟨T,hT⟩:∃ T,T=R.take 40:=⟨_,rfl⟩
  have hix:=Kerb.indexOf_bd 0 T
  have key:(sel (decide (Ym (0:UInt8) T≥(0:Int)))
    (chk (decide (((0:Nat):Int)≤Ym (0:UInt8) T)&&decide (Ym (0:UInt8) T≤(T.length:Int)))
     (some (Yu [Zw (Vx (Zm ((0:Nat):Int)) (Wn (Zm (Ym (0:UInt8) T)) T)),Zz Zy (Zu Zy (Zu Zy (pos+Ym (0:UInt8) T)+(1:Int))),Zz Zy (0:Int)],([]:Blocks))))
    (sel (((T.length:Int))==(40:Int)) (some (Yu [Zw [],Zz Zy (0:Int),Zz Zy (105:Int)],[]))
     (some (Yu [Zw [],Zz Zy (0:Int),Zz Zy (101:Int)],[])))) =
    some (Yu [Zw (if 0≤Ym 0 T then (⟨T.take (Ym 0 T).toNat,pos+Ym 0 T+1,0⟩:Kerb.GotB) else if T.length=40 then ⟨[],0,105⟩ else ⟨[],0,101⟩).val,
     Zz Zy (if 0≤Ym 0 T then (⟨T.take (Ym 0 T).toNat,pos+Ym 0 T+1,0⟩:Kerb.GotB) else if T.length=40 then ⟨[],0,105⟩ else ⟨[],0,101⟩).next,
     Zz Zy (if 0≤Ym 0 T then (⟨T.take (Ym 0 T).toNat,pos+Ym 0 T+1,0⟩:Kerb.GotB) else if T.length=40 then ⟨[],0,105⟩ else ⟨[],0,101⟩).err],[]):=by
   have hTl:T.length≤b.length-pos.toNat:=by rw [hT];simp;omega
   by_cases hi:0≤Ym 0 T
   ·rw [sel_pos (by simpa using hi),chk_of (by simp;omega),if_pos hi,wrap_i64 (n:=pos+Ym 0 T) (by omega) (by omega),wrap_i64 (by omega) (by omega)]
    rfl
   ·rw [sel_neg (by simp;omega),if_neg hi]
    by_cases h40:T.length=40
    ·rw [sel_pos (by simp [h40]),if_pos h40]
    ·rw [sel_neg (by simp;omega),if_neg h40]
  by_cases hlong:40<R.length
  ·rw [sel_pos (by simp;omega),chk_of (by simp;omega)]
   have e1:Vx (Zm ((0:Nat):Int)) (Wn (Zm (40:Int)) R)=T:=by rw [hT];rfl
   rw [e1]
   rw [← hT]
   exact key
  ·rw [sel_neg (by simp;omega)]
   have e1:R=T:=by rw [hT,Xb (by omega)]
   rw [← hT,e1]
   exact key
 ·cases h
theorem w218:Walked Tryz.prog G 218 3 sp218:=by
 refine ⟨Tryz.f218,Tryz.func218,by decide +kernel,rfl,fun xs bl r h=> ?_⟩
 unfold sp218 at h
 split at h
 ·rename_i i l n s
  cases h
  refine Eq.trans (b:=(sel (!Zf i 4294967295) (some (Zz .i64 104,[])) (sel (!Zf n 4294967295) (some (Zz .i64 104,[])) (sel (!Zf l 255) (some (Zz .i64 104,[])) (sel (!Zf s 4294967295) (some (Zz .i64 104,[])) (sel (decide (i>Zu .i64 (n+s))) (some (Zz .i64 33,[])) (sel (decide (n>Zu .i64 (Vw i l+s))) (some (Zz .i64 32,[])) (some (Zz .i64 0,[]))))))):Option (AV×Blocks))) (by kernel_rfl) ?_
  unfold Kerb.stateErr
  cases h1:Zf i 4294967295
  ·rfl
  cases h2:Zf n 4294967295
  ·rfl
  cases h3:Zf l 255
  ·rfl
  cases h4:Zf s 4294967295
  ·rfl
  have b1:=Kerb.within_iff.1 h1
  have b2:=Kerb.within_iff.1 h2
  have b3:=Kerb.within_iff.1 h3
  have b4:=Kerb.within_iff.1 h4
  have he:Vw i l=i+300*(l+1):=by simp [Vw,h1,h3]
  simp only [Yg,sel_false,Yw,Bool.false_eq_true,if_false,he]
  rw [wrap_i64 (by omega) (by omega),wrap_i64 (by omega) (by omega)]
  by_cases h5:n+s<i
  ·rw [sel_pos (by simpa using h5),if_pos h5]
  rw [sel_neg (by simpa using h5),if_neg h5]
  by_cases h6:i+300*(l+1)+s<n
  ·rw [sel_pos (by simpa using h6),if_pos h6]
  rw [sel_neg (by simpa using h6),if_neg h6]
 ·cases h
theorem w235:Walked Tryz.prog G 235 3 sp235:=by
 refine ⟨Tryz.f235,Tryz.func235,by decide +kernel,rfl,fun xs bl r h=> ?_⟩
 unfold sp235 at h
 split at h
 ·rename_i b n k little
  obtain ⟨hpre,h2⟩:=chk_inv h;cases h2
  refine Eq.trans (b:=(Zj (loopM (fun (st:List AV)=>cBs st fun b r=>cInt .i64 r fun n r=>cInt .i64 r fun n_1 r=>cBool r fun b_1 r=>cBs r fun c r=>cInt .i64 r fun n_2 r=>cInt .i64 r fun n_3 r=>let t0:Int:=Zu .i64 (Zu .i64 (n_1-1)-n_3);let t1:UInt8:=UInt8.ofNat (Zm (Zu .u8 (Int.fdiv n (2 ^ min (Zm (Zu .i64 (8*n_3))) (Yn .i64)))));onNil r (sel (decide (n_3<n_2)) (sel (!b_1) (chk (decide (0≤Zu .i64 (8*n_3))) (chk (decide (0≤t0)&&decide (t0<(↑(Zq c):Int))&&Vd (Zq c) 4&&true) (chk (Nat.blt (Zm t0) (Zq c)&&true&&true&&true&&true) (some (Vp [Yv b,Zz .i64 n,Zz .i64 n_1,Yx b_1,Yv (List.set c (Zm t0) t1),Zz .i64 n_2,Zz .i64 (Zu .i64 (n_3+1))]))))) (chk (decide (0≤Zu .i64 (8*n_3))) (chk (decide (0≤n_3)&&decide (n_3<(↑(Zq c):Int))&&Vd (Zq c) 4&&true) (chk (Nat.blt (Zm n_3) (Zq c)&&true&&true&&true&&true) (some (Vp [Yv b,Zz .i64 n,Zz .i64 n_1,Yx b_1,Yv (List.set c (Zm n_3) t1),Zz .i64 n_2,Zz .i64 (Zu .i64 (n_3+1))])))))) (some (Vh (Wz 0,[Yv b,Zz .i64 n,Zz .i64 n_1,Yx b_1,Yv c,Zz .i64 n_2,Zz .i64 n_3]))))) [Yv b,Zz .i64 n,Zz .i64 k,Yx little,Yv [(0:UInt8),(0:UInt8),(0:UInt8),(0:UInt8)],Zz .i64 k,Zz .i64 0]) fun (r:Ex×List AV)=>cBs (Yy r) fun b r_1=>cInt .i64 r_1 fun n r_2=>cInt .i64 r_2 fun n r_3=>cBool r_3 fun b_1 r_4=>cBs r_4 fun c r_5=>let t2:Nat:=Zq [Yv b,Yv (Vx (Zm (↑(0:Nat):Int)) (Wn (Zm n) c))];let t3:Nat:=Zq (Xd b (Xd (Vx (Zm (↑(0:Nat):Int)) (Wn (Zm n) c)) []));cInt .i64 r_5 fun n_1 r_6=>cInt .i64 r_6 fun n_2 r_7=>onNil r_7 (exK r.1 none fun (j:Nat)=>sel (Vd j 0) (chk (decide ((↑(0:Nat):Int)≤n)&&decide (n≤(↑(Zq c):Int))&&Vd (Zq c) 4) (Zj (chk (decide (t3≤140737488355328)&&decide (t2≤1000)) (some (Xv (Xd b (Xd (Vx (Zm (↑(0:Nat):Int)) (Wn (Zm n) c)) [])),[]))) (kO fun l=>some (Xv l,[])))) none):Option (AV×Blocks))) (by kernel_rfl) ?_
  delta kO
  try dsimp only [cStr,cBs,cBool,cU8,cInt,cSl,l63]
  simp only [Yf,decide_eq_true_eq] at hpre
  obtain ⟨hk,hb⟩:=hpre
  rcases hk with rfl | rfl | rfl<;>cases little
  ·refine loop_unroll 2 (Wz 0,[Yv b,Zz Zy n,Zz Zy 1,Yx false,Yv [Wp n 0,(0:UInt8),(0:UInt8),(0:UInt8)],Zz Zy 1,Zz Zy 1]) (by kernel_rfl) ?_
   simp only [A0]
   rw [sel_pos (Xn _),chk_of (by simp),chk_of (by simp;omega)]
   simp [Vm,Xg,Vn,Wb]
  ·refine loop_unroll 2 (Wz 0,[Yv b,Zz Zy n,Zz Zy 1,Yx true,Yv [Wp n 0,(0:UInt8),(0:UInt8),(0:UInt8)],Zz Zy 1,Zz Zy 1]) (by kernel_rfl) ?_
   simp only [A0]
   rw [sel_pos (Xn _),chk_of (by simp),chk_of (by simp;omega)]
   simp [Vm,Xg,Vn,Wb]
  ·refine loop_unroll 3 (Wz 0,[Yv b,Zz Zy n,Zz Zy 2,Yx false,Yv [Wp n 8,Wp n 0,(0:UInt8),(0:UInt8)],Zz Zy 2,Zz Zy 2]) (by kernel_rfl) ?_
   simp only [A0]
   rw [sel_pos (Xn _),chk_of (by simp),chk_of (by simp;omega)]
   simp [Vm,Xg,Vn,Wb]
  ·refine loop_unroll 3 (Wz 0,[Yv b,Zz Zy n,Zz Zy 2,Yx true,Yv [Wp n 0,Wp n 8,(0:UInt8),(0:UInt8)],Zz Zy 2,Zz Zy 2]) (by kernel_rfl) ?_
   simp only [A0]
   rw [sel_pos (Xn _),chk_of (by simp),chk_of (by simp;omega)]
   simp [Vm,Xg,Vn,Wb]
  ·refine loop_unroll 5 (Wz 0,[Yv b,Zz Zy n,Zz Zy 4,Yx false,Yv [Wp n 24,Wp n 16,Wp n 8,Wp n 0],Zz Zy 4,Zz Zy 4]) (by kernel_rfl) ?_
   simp only [A0]
   rw [sel_pos (Xn _),chk_of (by simp),chk_of (by simp;omega)]
   simp [Vm,Xg,Vn,Wb]
  ·refine loop_unroll 5 (Wz 0,[Yv b,Zz Zy n,Zz Zy 4,Yx true,Yv [Wp n 0,Wp n 8,Wp n 16,Wp n 24],Zz Zy 4,Zz Zy 4]) (by kernel_rfl) ?_
   simp only [A0]
   rw [sel_pos (Xn _),chk_of (by simp),chk_of (by simp;omega)]
   simp [Vm,Xg,Vn,Wb]
 ·cases h
theorem w240:Walked Tryz.prog G 240 3 sp240:=by
 refine ⟨Tryz.f240,Tryz.func240,by decide +kernel,rfl,fun xs bl r h=> ?_⟩
 unfold sp240 at h
 split at h
 ·rename_i b little
  obtain ⟨hpre,h2⟩:=chk_inv h;cases h2
  refine Eq.trans (b:=(sel little (Zj (chk (decide (Zq b≤70368744177664)) (some (Xv (b++Xg 1 1 false),[]))) fun (r:AV×Blocks)=>onNilB (Yy r) (AV.onOwnB (Yq r) fun l=>some (Xv l,[]))) (Zj (chk (decide (Zq b≤70368744177664)) (some (Xv (b++Xg 0 1 false),[]))) fun (r:AV×Blocks)=>onNilB (Yy r) (AV.onOwnB (Yq r) fun l=>some (Xv l,[]))):Option (AV×Blocks))) (by kernel_rfl) ?_
  simp only [A0]
  rw [chk_of hpre,chk_of hpre]
  cases little<;>rfl
 ·cases h
theorem w244:Walked Tryz.prog G 244 3 sp244:=by
 refine ⟨Tryz.f244,Tryz.func244,by decide +kernel,rfl,fun xs bl r h=> ?_⟩
 unfold sp244 at h
 split at h
 ·rename_i b pos little
  obtain ⟨hpre,h2⟩:=chk_inv h;cases h2
  refine Eq.trans (b:=(Zj (chk (decide (Zq b≤4611686018427387904)&&true&&true) (some (Yu [Zz .i64 (Vu (Xf b pos 4 little)),Zz .i64 (Vz (Xf b pos 4 little)),Zz .i64 (Vq (Xf b pos 4 little))],[]))) fun (r:AV×Blocks)=>onNilB (Yy r) (Vy (Yq r) fun vs=>onCons vs fun x r=>Yk .i64 x fun n=>onCons r fun x r=>Yk .i64 x fun n_1=>onCons r fun x r=>Yk .i64 x fun n_2=>onNil r (some (Yu [Zz .i64 n,Zz .i64 n_1,Zz .i64 n_2],[]))):Option (AV×Blocks))) (by kernel_rfl) ?_
  simp only [A0]
  rw [chk_of (by rw [hpre];rfl)]
 ·cases h
theorem w246:Walked Tryz.prog G 246 3 sp246:=by
 refine ⟨Tryz.f246,Tryz.func246,by decide +kernel,rfl,fun xs bl r h=> ?_⟩
 unfold sp246 at h
 split at h
 ·rename_i s c
  cases h
  refine Eq.trans (b:=(some (Zz .i64 (Ym c s),[]):Option (AV×Blocks))) (by kernel_rfl) ?_
  rfl
 ·cases h
theorem w256:Walked Tryz.prog G 256 3 sp256:=by
 refine ⟨Tryz.f256,Tryz.func256,by decide +kernel,rfl,fun xs bl r h=> ?_⟩
 unfold sp256 at h
 split at h
 ·rename_i a b
  cases h
  refine Eq.trans (b:=(some (Zz .i64 (Kerb.cmpB a b),[]):Option (AV×Blocks))) (by kernel_rfl) ?_
  rfl
 ·cases h
theorem w10:Walked Tryz.prog G 10 4 sp10:=by
 refine ⟨Tryz.f10,Tryz.func10,by decide +kernel,rfl,fun xs bl r h=> ?_⟩
 unfold sp10 at h
 split at h
 ·rename_i lf xp bd
  cases h
  refine Eq.trans (b:=(Zj (loopM (fun (st:List AV)=>cU8 st fun b r=>cU8 r fun b_1 r=>cU8 r fun b_2 r=>cStr r fun b_3 r=>cSl 9 r fun b_4 r=>cStr r fun b_5 r=>onCons r fun x r=>AV.onOwnL x fun y=>cSl 3 r fun b_6 r=>cInt .i64 r fun n r=>onNil r (sel (decide (n<(↑(Zq b_6):Int))) (chk (decide (0≤n)&&decide (n<(↑(Zq b_6):Int))&&true) (AV.onAgg (Xj b_6 (Zm n) Wu) fun cs=>cStr cs fun b_7 r=>cStr r fun b_8 r=>cStr r fun b_9 r=>onNil r (chk (decide (0≤n)&&decide (n<(↑(Zq b_6):Int))&&true) (AV.onAgg (Xj b_6 (Zm n) Wu) fun cs=>cStr cs fun b_10 r=>cStr r fun b_11 r=>cStr r fun b_12 r=>onNil r (Zj (chk (decide (0≤n)&&decide (n≤1000)) (some (Zz .u64 (Xy n),[]))) (kI .u64 fun n_1=>Zj (sel (Xw (Zu .i64 (↑(Wy b_2):Int)) 16==n) (some [Wd b,Wd b_1,Wd b_2,Zw b_3,Xk 9 b_4,Zw b_5,AV.ownL y,Xk 3 b_6,Zz .i64 n,Zw b_7,Zw b_11,Zz .u64 n_1,Zz .i64 (Zu .i64 (3+n)),Zz .i64 0,Zz .i64 (Zu .i64 (↑(Wy b):Int)),Zz .i64 (Zu .i64 (1+Xw (Zu .i64 (Vk (Zu .i64 (↑(Wy b_2):Int)) 16)) 3)),Zz .i64 0,Zz .i64 0]) (some [Wd b,Wd b_1,Wd b_2,Zw b_3,Xk 9 b_4,Zw b_5,AV.ownL y,Xk 3 b_6,Zz .i64 n,Zw b_7,Zw b_11,Zz .u64 n_1,Zz .i64 (Zu .i64 (3+n)),Zz .i64 0,Zz .i64 (Zu .i64 (↑(Wy b):Int)),Zz .i64 0,Zz .i64 0,Zz .i64 0])) fun l=>cU8 l fun b r=>cU8 r fun b_13 r=>cU8 r fun b_14 r=>cStr r fun b_15 r=>cSl 9 r fun b_16 r=>cStr r fun b_17 r=>onCons r fun x r=>AV.onOwnL x fun y=>cSl 3 r fun b_18 r=>cInt .i64 r fun n r=>cStr r fun b_19 r=>cStr r fun b_20 r=>cInt .u64 r fun n_2 r=>cInt .i64 r fun n_3 r=>cInt .i64 r fun n_4 r=>cInt .i64 r fun n_5 r=>cInt .i64 r fun n_6 r=>cInt .i64 r fun n_7 r=>cInt .i64 r fun n_8 r=>let t0:List AV:=[Zz .i64 n_5,Zz .i64 n_6,Zz .i64 n_7,Zz .i64 n_8];onNil r (Zj (sel (Xw (Zu .i64 (↑(Wy b_14):Int)) 16==Zu .i64 (8+n)) (some (Wd b::Wd b_13::Wd b_14::Zw b_15::Xk 9 b_16::Zw b_17::AV.ownL y::Xk 3 b_18::Zz .i64 n::Zw b_19::Zw b_20::Zz .u64 n_2::Zz .i64 n_3::Zz .i64 (Zu .i64 (1000+Zu .i64 (Zu .i64 (↑(Wy b_13):Int)*100)))::t0)) (some (Wd b::Wd b_13::Wd b_14::Zw b_15::Xk 9 b_16::Zw b_17::AV.ownL y::Xk 3 b_18::Zz .i64 n::Zw b_19::Zw b_20::Zz .u64 n_2::Zz .i64 n_3::Zz .i64 n_4::t0))) fun l=>cU8 l fun b r=>cU8 r fun b_21 r=>cU8 r fun b_22 r=>cStr r fun b_23 r=>cSl 9 r fun b_24 r=>cStr r fun b_25 r=>onCons r fun x r=>AV.onOwnL x fun y=>cSl 3 r fun b_26 r=>cInt .i64 r fun n r=>cStr r fun b_27 r=>cStr r fun b_28 r=>cInt .u64 r fun n_9 r=>cInt .i64 r fun n_10 r=>cInt .i64 r fun n_11 r=>cInt .i64 r fun n_12 r=>cInt .i64 r fun n_13 r=>cInt .i64 r fun n_14 r=>cInt .i64 r fun n_15 r=>let t1:List AV:=[Zd [Zw b_27,Zw b_28,Zz .u64 n_9,Zz .i64 n_10,Zz .i64 n_11,Zz .i64 n_12,Zz .i64 n_13,Zz .i64 n_14,Zz .i64 n_15]];onNil r (chk (room (Zq y+Zq t1) (nat_lit 88)) (some (Vp [Wd b,Wd b_21,Wd b_22,Zw b_23,Xk 9 b_24,Zw b_25,AV.ownL (y++t1),Xk 3 b_26,Zz .i64 (Zu .i64 (n+1))])))))))))) (some (Vh (Wz 0,[Wd b,Wd b_1,Wd b_2,Zw b_3,Xk 9 b_4,Zw b_5,AV.ownL y,Xk 3 b_6,Zz .i64 n]))))) [Wd lf,Wd xp,Wd bd,Zw [],Xk 9 [],Zw [(65:UInt8),(84:UInt8),(72:UInt8)],AV.ownL [],Xk 3 [Zd [Zw (Wx (Zv 0)),Zw (Ww (Zv 0)),Zw (Xm (Zv 0))],Zd [Zw (Wx (Zv 1)),Zw (Ww (Zv 1)),Zw (Xm (Zv 1))],Zd [Zw (Wx (Zv 2)),Zw (Ww (Zv 2)),Zw (Xm (Zv 2))],Zd [Zw (Wx (Zx 2)),Zw (Ww (Zx 2)),Zw (Xm (Zx 2))],Zd [Zw (Wx (Zx 0)),Zw (Ww (Zx 0)),Zw (Xm (Zx 0))],Zd [Zw (Wx (Zx 1)),Zw (Ww (Zx 1)),Zw (Xm (Zx 1))]],Zz .i64 0]) fun (r:Ex×List AV)=>cU8 (Yy r) fun b r_1=>cU8 r_1 fun b r_2=>cU8 r_2 fun b r_3=>cStr r_3 fun b r_4=>cSl 9 r_4 fun b_1 r_5=>cStr r_5 fun b_2 r_6=>onCons r_6 fun x r_7=>AV.onOwnL x fun y=>cSl 3 r_7 fun b_3 r_8=>cInt .i64 r_8 fun n r_9=>onNil r_9 (exK r.1 (some (Zd [Zw b,Xk 9 b_1],[])) fun (j:Nat)=>sel (Vd j 0) (some (Zd [Zw b_2,Xk 9 y],[])) none):Option (AV×Blocks))) (by kernel_rfl) ?_
  delta kI
  try dsimp only [cStr,cBs,cBool,cU8,cInt,cSl,l63]
  have b0:=Kerb.u8i_bd lf
  have b1:=Kerb.u8i_bd xp
  have b2:=Kerb.u8i_bd bd
  have e0:=Kerb.wrap_u8i
  have e1:Xw (Zb bd) 16=Zb bd % 16:=Wf b2.1
  have e2:Zu .i64 (1000+Zu .i64 (Zb xp*100))=1000+Zb xp*100:=by rw [wrap_i64 (n:=Zb xp*100) (by omega) (by omega),wrap_i64 (by omega) (by omega)]
  have e3:Zu .i64 (1+Xw (Zu .i64 (Vk (Zb bd) 16)) 3)=1+Zb bd / 16 % 3:=by
   rw [Xh b2.1,wrap_i64 (n:=Zb bd / 16) (by omega) (by omega),Wf (by omega),wrap_i64 (by omega) (by omega)]
  refine loop_rounds (fun i:Nat=>[Wd lf,Wd xp,Wd bd,Zw [],Xk 9 [],Zw [65,84,72],AV.ownL (((Kerb.simpleDb lf xp bd).entries.take i).map Zk),Xk 3 [Zd [Zw (Zv 0).name,Zw (Zv 0).inst,Zw (Zv 0).realm],Zd [Zw (Zv 1).name,Zw (Zv 1).inst,Zw (Zv 1).realm],Zd [Zw (Zv 2).name,Zw (Zv 2).inst,Zw (Zv 2).realm],Zd [Zw (Zx 2).name,Zw (Zx 2).inst,Zw (Zx 2).realm],Zd [Zw (Zx 0).name,Zw (Zx 0).inst,Zw (Zx 0).realm],Zd [Zw (Zx 1).name,Zw (Zx 1).inst,Zw (Zx 1).realm]],Zz Zy (i:Int)]) (fun i=>i≤6) (fun i=>6-i)
   (fun r=>r=(Wz 0,[Wd lf,Wd xp,Wd bd,Zw [],Xk 9 [],Zw [65,84,72],AV.ownL ((Kerb.simpleDb lf xp bd).entries.map Zk),Xk 3 [Zd [Zw (Zv 0).name,Zw (Zv 0).inst,Zw (Zv 0).realm],Zd [Zw (Zv 1).name,Zw (Zv 1).inst,Zw (Zv 1).realm],Zd [Zw (Zv 2).name,Zw (Zv 2).inst,Zw (Zv 2).realm],Zd [Zw (Zx 2).name,Zw (Zx 2).inst,Zw (Zx 2).realm],Zd [Zw (Zx 0).name,Zw (Zx 0).inst,Zw (Zx 0).realm],Zd [Zw (Zx 1).name,Zw (Zx 1).inst,Zw (Zx 1).realm]],Zz Zy 6])) 0 (by decide) rfl ?_ ?_
  ·intro i hi
   have hc:i=0∨i=1∨i=2∨i=3∨i=4∨i=5∨i=6:=by omega
   rcases hc with rfl | rfl | rfl | rfl | rfl | rfl | rfl
   ·have g:Xj [Zd [Zw (Zv 0).name,Zw (Zv 0).inst,Zw (Zv 0).realm],Zd [Zw (Zv 1).name,Zw (Zv 1).inst,Zw (Zv 1).realm],Zd [Zw (Zv 2).name,Zw (Zv 2).inst,Zw (Zv 2).realm],Zd [Zw (Zx 2).name,Zw (Zx 2).inst,Zw (Zx 2).realm],Zd [Zw (Zx 0).name,Zw (Zx 0).inst,Zw (Zx 0).realm],Zd [Zw (Zx 1).name,Zw (Zx 1).inst,Zw (Zx 1).realm]] (Zm ((0:Nat):Int)) Wu=Zd [Zw (Zv 0).name,Zw (Zv 0).inst,Zw (Zv 0).realm]:=rfl
    have k0:decide (((0:Nat):Int)<((Zq [Zd [Zw (Zv 0).name,Zw (Zv 0).inst,Zw (Zv 0).realm],Zd [Zw (Zv 1).name,Zw (Zv 1).inst,Zw (Zv 1).realm],Zd [Zw (Zv 2).name,Zw (Zv 2).inst,Zw (Zv 2).realm],Zd [Zw (Zx 2).name,Zw (Zx 2).inst,Zw (Zx 2).realm],Zd [Zw (Zx 0).name,Zw (Zx 0).inst,Zw (Zx 0).realm],Zd [Zw (Zx 1).name,Zw (Zx 1).inst,Zw (Zx 1).realm]]:Nat):Int))=true:=rfl
    have k1:decide ((0:Int)≤((0:Nat):Int))=true:=rfl
    have k2:decide (((0:Nat):Int)≤1000)=true:=rfl
    have k3:Zu .i64 (3+((0:Nat):Int))=3+((0:Nat):Int):=rfl
    have k4:Zu .i64 (8+((0:Nat):Int))=8+((0:Nat):Int):=rfl
    simp only [g,k0,k1,k2,k3,k4,e0,e1,e2,e3,Yw,↓A0,A0]
    by_cases h1:Zb bd % 16=((0:Nat):Int)
    all_goals by_cases h2:Zb bd % 16=8+((0:Nat):Int)
    ·have hE:Zk (Zp ((0:Nat):Int) (Zv 0) lf xp bd)=Zd [Zw (Zv 0).name,Zw (Zv 0).inst,Zz Yp (Xy ((0:Nat):Int)),Zz Zy (3+((0:Nat):Int)),Zz Zy (1000+Zb xp*100),Zz Zy (Zb lf),Zz Zy (1+Zb bd / 16 % 3),Zz Zy 0,Zz Zy 0]:=by
      unfold Zk Zp
      dsimp only
      rw [if_pos h2,if_pos h1]
     rw [sel_pos (by simpa using h1),sel_pos (by simpa using h2),chk_of (by rfl),← hE]
     exact ⟨_,rfl,1,rfl,by decide,by decide⟩
    ·have hE:Zk (Zp ((0:Nat):Int) (Zv 0) lf xp bd)=Zd [Zw (Zv 0).name,Zw (Zv 0).inst,Zz Yp (Xy ((0:Nat):Int)),Zz Zy (3+((0:Nat):Int)),Zz Zy (0),Zz Zy (Zb lf),Zz Zy (1+Zb bd / 16 % 3),Zz Zy 0,Zz Zy 0]:=by
      unfold Zk Zp
      dsimp only
      rw [if_neg h2,if_pos h1]
     rw [sel_pos (by simpa using h1),sel_neg (by simpa using h2),chk_of (by rfl),← hE]
     exact ⟨_,rfl,1,rfl,by decide,by decide⟩
    ·have hE:Zk (Zp ((0:Nat):Int) (Zv 0) lf xp bd)=Zd [Zw (Zv 0).name,Zw (Zv 0).inst,Zz Yp (Xy ((0:Nat):Int)),Zz Zy (3+((0:Nat):Int)),Zz Zy (1000+Zb xp*100),Zz Zy (Zb lf),Zz Zy (0),Zz Zy 0,Zz Zy 0]:=by
      unfold Zk Zp
      dsimp only
      rw [if_pos h2,if_neg h1]
     rw [sel_neg (by simpa using h1),sel_pos (by simpa using h2),chk_of (by rfl),← hE]
     exact ⟨_,rfl,1,rfl,by decide,by decide⟩
    ·have hE:Zk (Zp ((0:Nat):Int) (Zv 0) lf xp bd)=Zd [Zw (Zv 0).name,Zw (Zv 0).inst,Zz Yp (Xy ((0:Nat):Int)),Zz Zy (3+((0:Nat):Int)),Zz Zy (0),Zz Zy (Zb lf),Zz Zy (0),Zz Zy 0,Zz Zy 0]:=by
      unfold Zk Zp
      dsimp only
      rw [if_neg h2,if_neg h1]
     rw [sel_neg (by simpa using h1),sel_neg (by simpa using h2),chk_of (by rfl),← hE]
     exact ⟨_,rfl,1,rfl,by decide,by decide⟩
   ·have g:Xj [Zd [Zw (Zv 0).name,Zw (Zv 0).inst,Zw (Zv 0).realm],Zd [Zw (Zv 1).name,Zw (Zv 1).inst,Zw (Zv 1).realm],Zd [Zw (Zv 2).name,Zw (Zv 2).inst,Zw (Zv 2).realm],Zd [Zw (Zx 2).name,Zw (Zx 2).inst,Zw (Zx 2).realm],Zd [Zw (Zx 0).name,Zw (Zx 0).inst,Zw (Zx 0).realm],Zd [Zw (Zx 1).name,Zw (Zx 1).inst,Zw (Zx 1).realm]] (Zm ((1:Nat):Int)) Wu=Zd [Zw (Zv 1).name,Zw (Zv 1).inst,Zw (Zv 1).realm]:=rfl
    have k0:decide (((1:Nat):Int)<((Zq [Zd [Zw (Zv 0).name,Zw (Zv 0).inst,Zw (Zv 0).realm],Zd [Zw (Zv 1).name,Zw (Zv 1).inst,Zw (Zv 1).realm],Zd [Zw (Zv 2).name,Zw (Zv 2).inst,Zw (Zv 2).realm],Zd [Zw (Zx 2).name,Zw (Zx 2).inst,Zw (Zx 2).realm],Zd [Zw (Zx 0).name,Zw (Zx 0).inst,Zw (Zx 0).realm],Zd [Zw (Zx 1).name,Zw (Zx 1).inst,Zw (Zx 1).realm]]:Nat):Int))=true:=rfl
    have k1:decide ((0:Int)≤((1:Nat):Int))=true:=rfl
    have k2:decide (((1:Nat):Int)≤1000)=true:=rfl
    have k3:Zu .i64 (3+((1:Nat):Int))=3+((1:Nat):Int):=rfl
    have k4:Zu .i64 (8+((1:Nat):Int))=8+((1:Nat):Int):=rfl
    simp only [g,k0,k1,k2,k3,k4,e0,e1,e2,e3,Yw,↓A0,A0]
    by_cases h1:Zb bd % 16=((1:Nat):Int)
    all_goals by_cases h2:Zb bd % 16=8+((1:Nat):Int)
    ·have hE:Zk (Zp ((1:Nat):Int) (Zv 1) lf xp bd)=Zd [Zw (Zv 1).name,Zw (Zv 1).inst,Zz Yp (Xy ((1:Nat):Int)),Zz Zy (3+((1:Nat):Int)),Zz Zy (1000+Zb xp*100),Zz Zy (Zb lf),Zz Zy (1+Zb bd / 16 % 3),Zz Zy 0,Zz Zy 0]:=by
      unfold Zk Zp
      dsimp only
      rw [if_pos h2,if_pos h1]
     rw [sel_pos (by simpa using h1),sel_pos (by simpa using h2),chk_of (by rfl),← hE]
     exact ⟨_,rfl,2,rfl,by decide,by decide⟩
    ·have hE:Zk (Zp ((1:Nat):Int) (Zv 1) lf xp bd)=Zd [Zw (Zv 1).name,Zw (Zv 1).inst,Zz Yp (Xy ((1:Nat):Int)),Zz Zy (3+((1:Nat):Int)),Zz Zy (0),Zz Zy (Zb lf),Zz Zy (1+Zb bd / 16 % 3),Zz Zy 0,Zz Zy 0]:=by
      unfold Zk Zp
      dsimp only
      rw [if_neg h2,if_pos h1]
     rw [sel_pos (by simpa using h1),sel_neg (by simpa using h2),chk_of (by rfl),← hE]
     exact ⟨_,rfl,2,rfl,by decide,by decide⟩
    ·have hE:Zk (Zp ((1:Nat):Int) (Zv 1) lf xp bd)=Zd [Zw (Zv 1).name,Zw (Zv 1).inst,Zz Yp (Xy ((1:Nat):Int)),Zz Zy (3+((1:Nat):Int)),Zz Zy (1000+Zb xp*100),Zz Zy (Zb lf),Zz Zy (0),Zz Zy 0,Zz Zy 0]:=by
      unfold Zk Zp
      dsimp only
      rw [if_pos h2,if_neg h1]
     rw [sel_neg (by simpa using h1),sel_pos (by simpa using h2),chk_of (by rfl),← hE]
     exact ⟨_,rfl,2,rfl,by decide,by decide⟩
    ·have hE:Zk (Zp ((1:Nat):Int) (Zv 1) lf xp bd)=Zd [Zw (Zv 1).name,Zw (Zv 1).inst,Zz Yp (Xy ((1:Nat):Int)),Zz Zy (3+((1:Nat):Int)),Zz Zy (0),Zz Zy (Zb lf),Zz Zy (0),Zz Zy 0,Zz Zy 0]:=by
      unfold Zk Zp
      dsimp only
      rw [if_neg h2,if_neg h1]
     rw [sel_neg (by simpa using h1),sel_neg (by simpa using h2),chk_of (by rfl),← hE]
     exact ⟨_,rfl,2,rfl,by decide,by decide⟩
   ·have g:Xj [Zd [Zw (Zv 0).name,Zw (Zv 0).inst,Zw (Zv 0).realm],Zd [Zw (Zv 1).name,Zw (Zv 1).inst,Zw (Zv 1).realm],Zd [Zw (Zv 2).name,Zw (Zv 2).inst,Zw (Zv 2).realm],Zd [Zw (Zx 2).name,Zw (Zx 2).inst,Zw (Zx 2).realm],Zd [Zw (Zx 0).name,Zw (Zx 0).inst,Zw (Zx 0).realm],Zd [Zw (Zx 1).name,Zw (Zx 1).inst,Zw (Zx 1).realm]] (Zm ((2:Nat):Int)) Wu=Zd [Zw (Zv 2).name,Zw (Zv 2).inst,Zw (Zv 2).realm]:=rfl
    have k0:decide (((2:Nat):Int)<((Zq [Zd [Zw (Zv 0).name,Zw (Zv 0).inst,Zw (Zv 0).realm],Zd [Zw (Zv 1).name,Zw (Zv 1).inst,Zw (Zv 1).realm],Zd [Zw (Zv 2).name,Zw (Zv 2).inst,Zw (Zv 2).realm],Zd [Zw (Zx 2).name,Zw (Zx 2).inst,Zw (Zx 2).realm],Zd [Zw (Zx 0).name,Zw (Zx 0).inst,Zw (Zx 0).realm],Zd [Zw (Zx 1).name,Zw (Zx 1).inst,Zw (Zx 1).realm]]:Nat):Int))=true:=rfl
    have k1:decide ((0:Int)≤((2:Nat):Int))=true:=rfl
    have k2:decide (((2:Nat):Int)≤1000)=true:=rfl
    have k3:Zu .i64 (3+((2:Nat):Int))=3+((2:Nat):Int):=rfl
    have k4:Zu .i64 (8+((2:Nat):Int))=8+((2:Nat):Int):=rfl
    simp only [g,k0,k1,k2,k3,k4,e0,e1,e2,e3,Yw,↓A0,A0]
    by_cases h1:Zb bd % 16=((2:Nat):Int)
    all_goals by_cases h2:Zb bd % 16=8+((2:Nat):Int)
    ·have hE:Zk (Zp ((2:Nat):Int) (Zv 2) lf xp bd)=Zd [Zw (Zv 2).name,Zw (Zv 2).inst,Zz Yp (Xy ((2:Nat):Int)),Zz Zy (3+((2:Nat):Int)),Zz Zy (1000+Zb xp*100),Zz Zy (Zb lf),Zz Zy (1+Zb bd / 16 % 3),Zz Zy 0,Zz Zy 0]:=by
      unfold Zk Zp
      dsimp only
      rw [if_pos h2,if_pos h1]
     rw [sel_pos (by simpa using h1),sel_pos (by simpa using h2),chk_of (by rfl),← hE]
     exact ⟨_,rfl,3,rfl,by decide,by decide⟩
    ·have hE:Zk (Zp ((2:Nat):Int) (Zv 2) lf xp bd)=Zd [Zw (Zv 2).name,Zw (Zv 2).inst,Zz Yp (Xy ((2:Nat):Int)),Zz Zy (3+((2:Nat):Int)),Zz Zy (0),Zz Zy (Zb lf),Zz Zy (1+Zb bd / 16 % 3),Zz Zy 0,Zz Zy 0]:=by
      unfold Zk Zp
      dsimp only
      rw [if_neg h2,if_pos h1]
     rw [sel_pos (by simpa using h1),sel_neg (by simpa using h2),chk_of (by rfl),← hE]
     exact ⟨_,rfl,3,rfl,by decide,by decide⟩
    ·have hE:Zk (Zp ((2:Nat):Int) (Zv 2) lf xp bd)=Zd [Zw (Zv 2).name,Zw (Zv 2).inst,Zz Yp (Xy ((2:Nat):Int)),Zz Zy (3+((2:Nat):Int)),Zz Zy (1000+Zb xp*100),Zz Zy (Zb lf),Zz Zy (0),Zz Zy 0,Zz Zy 0]:=by
      unfold Zk Zp
      dsimp only
      rw [if_pos h2,if_neg h1]
     rw [sel_neg (by simpa using h1),sel_pos (by simpa using h2),chk_of (by rfl),← hE]
     exact ⟨_,rfl,3,rfl,by decide,by decide⟩
    ·have hE:Zk (Zp ((2:Nat):Int) (Zv 2) lf xp bd)=Zd [Zw (Zv 2).name,Zw (Zv 2).inst,Zz Yp (Xy ((2:Nat):Int)),Zz Zy (3+((2:Nat):Int)),Zz Zy (0),Zz Zy (Zb lf),Zz Zy (0),Zz Zy 0,Zz Zy 0]:=by
      unfold Zk Zp
      dsimp only
      rw [if_neg h2,if_neg h1]
     rw [sel_neg (by simpa using h1),sel_neg (by simpa using h2),chk_of (by rfl),← hE]
     exact ⟨_,rfl,3,rfl,by decide,by decide⟩
   ·have g:Xj [Zd [Zw (Zv 0).name,Zw (Zv 0).inst,Zw (Zv 0).realm],Zd [Zw (Zv 1).name,Zw (Zv 1).inst,Zw (Zv 1).realm],Zd [Zw (Zv 2).name,Zw (Zv 2).inst,Zw (Zv 2).realm],Zd [Zw (Zx 2).name,Zw (Zx 2).inst,Zw (Zx 2).realm],Zd [Zw (Zx 0).name,Zw (Zx 0).inst,Zw (Zx 0).realm],Zd [Zw (Zx 1).name,Zw (Zx 1).inst,Zw (Zx 1).realm]] (Zm ((3:Nat):Int)) Wu=Zd [Zw (Zx 2).name,Zw (Zx 2).inst,Zw (Zx 2).realm]:=rfl
    have k0:decide (((3:Nat):Int)<((Zq [Zd [Zw (Zv 0).name,Zw (Zv 0).inst,Zw (Zv 0).realm],Zd [Zw (Zv 1).name,Zw (Zv 1).inst,Zw (Zv 1).realm],Zd [Zw (Zv 2).name,Zw (Zv 2).inst,Zw (Zv 2).realm],Zd [Zw (Zx 2).name,Zw (Zx 2).inst,Zw (Zx 2).realm],Zd [Zw (Zx 0).name,Zw (Zx 0).inst,Zw (Zx 0).realm],Zd [Zw (Zx 1).name,Zw (Zx 1).inst,Zw (Zx 1).realm]]:Nat):Int))=true:=rfl
    have k1:decide ((0:Int)≤((3:Nat):Int))=true:=rfl
    have k2:decide (((3:Nat):Int)≤1000)=true:=rfl
    have k3:Zu .i64 (3+((3:Nat):Int))=3+((3:Nat):Int):=rfl
    have k4:Zu .i64 (8+((3:Nat):Int))=8+((3:Nat):Int):=rfl
    simp only [g,k0,k1,k2,k3,k4,e0,e1,e2,e3,Yw,↓A0,A0]
    by_cases h1:Zb bd % 16=((3:Nat):Int)
    all_goals by_cases h2:Zb bd % 16=8+((3:Nat):Int)
    ·have hE:Zk (Zp ((3:Nat):Int) (Zx 2) lf xp bd)=Zd [Zw (Zx 2).name,Zw (Zx 2).inst,Zz Yp (Xy ((3:Nat):Int)),Zz Zy (3+((3:Nat):Int)),Zz Zy (1000+Zb xp*100),Zz Zy (Zb lf),Zz Zy (1+Zb bd / 16 % 3),Zz Zy 0,Zz Zy 0]:=by
      unfold Zk Zp
      dsimp only
      rw [if_pos h2,if_pos h1]
     rw [sel_pos (by simpa using h1),sel_pos (by simpa using h2),chk_of (by rfl),← hE]
     exact ⟨_,rfl,4,rfl,by decide,by decide⟩
    ·have hE:Zk (Zp ((3:Nat):Int) (Zx 2) lf xp bd)=Zd [Zw (Zx 2).name,Zw (Zx 2).inst,Zz Yp (Xy ((3:Nat):Int)),Zz Zy (3+((3:Nat):Int)),Zz Zy (0),Zz Zy (Zb lf),Zz Zy (1+Zb bd / 16 % 3),Zz Zy 0,Zz Zy 0]:=by
      unfold Zk Zp
      dsimp only
      rw [if_neg h2,if_pos h1]
     rw [sel_pos (by simpa using h1),sel_neg (by simpa using h2),chk_of (by rfl),← hE]
     exact ⟨_,rfl,4,rfl,by decide,by decide⟩
    ·have hE:Zk (Zp ((3:Nat):Int) (Zx 2) lf xp bd)=Zd [Zw (Zx 2).name,Zw (Zx 2).inst,Zz Yp (Xy ((3:Nat):Int)),Zz Zy (3+((3:Nat):Int)),Zz Zy (1000+Zb xp*100),Zz Zy (Zb lf),Zz Zy (0),Zz Zy 0,Zz Zy 0]:=by
      unfold Zk Zp
      dsimp only
      rw [if_pos h2,if_neg h1]
     rw [sel_neg (by simpa using h1),sel_pos (by simpa using h2),chk_of (by rfl),← hE]
     exact ⟨_,rfl,4,rfl,by decide,by decide⟩
    ·have hE:Zk (Zp ((3:Nat):Int) (Zx 2) lf xp bd)=Zd [Zw (Zx 2).name,Zw (Zx 2).inst,Zz Yp (Xy ((3:Nat):Int)),Zz Zy (3+((3:Nat):Int)),Zz Zy (0),Zz Zy (Zb lf),Zz Zy (0),Zz Zy 0,Zz Zy 0]:=by
      unfold Zk Zp
      dsimp only
      rw [if_neg h2,if_neg h1]
     rw [sel_neg (by simpa using h1),sel_neg (by simpa using h2),chk_of (by rfl),← hE]
     exact ⟨_,rfl,4,rfl,by decide,by decide⟩
   ·have g:Xj [Zd [Zw (Zv 0).name,Zw (Zv 0).inst,Zw (Zv 0).realm],Zd [Zw (Zv 1).name,Zw (Zv 1).inst,Zw (Zv 1).realm],Zd [Zw (Zv 2).name,Zw (Zv 2).inst,Zw (Zv 2).realm],Zd [Zw (Zx 2).name,Zw (Zx 2).inst,Zw (Zx 2).realm],Zd [Zw (Zx 0).name,Zw (Zx 0).inst,Zw (Zx 0).realm],Zd [Zw (Zx 1).name,Zw (Zx 1).inst,Zw (Zx 1).realm]] (Zm ((4:Nat):Int)) Wu=Zd [Zw (Zx 0).name,Zw (Zx 0).inst,Zw (Zx 0).realm]:=rfl
    have k0:decide (((4:Nat):Int)<((Zq [Zd [Zw (Zv 0).name,Zw (Zv 0).inst,Zw (Zv 0).realm],Zd [Zw (Zv 1).name,Zw (Zv 1).inst,Zw (Zv 1).realm],Zd [Zw (Zv 2).name,Zw (Zv 2).inst,Zw (Zv 2).realm],Zd [Zw (Zx 2).name,Zw (Zx 2).inst,Zw (Zx 2).realm],Zd [Zw (Zx 0).name,Zw (Zx 0).inst,Zw (Zx 0).realm],Zd [Zw (Zx 1).name,Zw (Zx 1).inst,Zw (Zx 1).realm]]:Nat):Int))=true:=rfl
    have k1:decide ((0:Int)≤((4:Nat):Int))=true:=rfl
    have k2:decide (((4:Nat):Int)≤1000)=true:=rfl
    have k3:Zu .i64 (3+((4:Nat):Int))=3+((4:Nat):Int):=rfl
    have k4:Zu .i64 (8+((4:Nat):Int))=8+((4:Nat):Int):=rfl
    simp only [g,k0,k1,k2,k3,k4,e0,e1,e2,e3,Yw,↓A0,A0]
    by_cases h1:Zb bd % 16=((4:Nat):Int)
    all_goals by_cases h2:Zb bd % 16=8+((4:Nat):Int)
    ·have hE:Zk (Zp ((4:Nat):Int) (Zx 0) lf xp bd)=Zd [Zw (Zx 0).name,Zw (Zx 0).inst,Zz Yp (Xy ((4:Nat):Int)),Zz Zy (3+((4:Nat):Int)),Zz Zy (1000+Zb xp*100),Zz Zy (Zb lf),Zz Zy (1+Zb bd / 16 % 3),Zz Zy 0,Zz Zy 0]:=by
      unfold Zk Zp
      dsimp only
      rw [if_pos h2,if_pos h1]
     rw [sel_pos (by simpa using h1),sel_pos (by simpa using h2),chk_of (by rfl),← hE]
     exact ⟨_,rfl,5,rfl,by decide,by decide⟩
    ·have hE:Zk (Zp ((4:Nat):Int) (Zx 0) lf xp bd)=Zd [Zw (Zx 0).name,Zw (Zx 0).inst,Zz Yp (Xy ((4:Nat):Int)),Zz Zy (3+((4:Nat):Int)),Zz Zy (0),Zz Zy (Zb lf),Zz Zy (1+Zb bd / 16 % 3),Zz Zy 0,Zz Zy 0]:=by
      unfold Zk Zp
      dsimp only
      rw [if_neg h2,if_pos h1]
     rw [sel_pos (by simpa using h1),sel_neg (by simpa using h2),chk_of (by rfl),← hE]
     exact ⟨_,rfl,5,rfl,by decide,by decide⟩
    ·have hE:Zk (Zp ((4:Nat):Int) (Zx 0) lf xp bd)=Zd [Zw (Zx 0).name,Zw (Zx 0).inst,Zz Yp (Xy ((4:Nat):Int)),Zz Zy (3+((4:Nat):Int)),Zz Zy (1000+Zb xp*100),Zz Zy (Zb lf),Zz Zy (0),Zz Zy 0,Zz Zy 0]:=by
      unfold Zk Zp
      dsimp only
      rw [if_pos h2,if_neg h1]
     rw [sel_neg (by simpa using h1),sel_pos (by simpa using h2),chk_of (by rfl),← hE]
     exact ⟨_,rfl,5,rfl,by decide,by decide⟩
    ·have hE:Zk (Zp ((4:Nat):Int) (Zx 0) lf xp bd)=Zd [Zw (Zx 0).name,Zw (Zx 0).inst,Zz Yp (Xy ((4:Nat):Int)),Zz Zy (3+((4:Nat):Int)),Zz Zy (0),Zz Zy (Zb lf),Zz Zy (0),Zz Zy 0,Zz Zy 0]:=by
      unfold Zk Zp
      dsimp only
      rw [if_neg h2,if_neg h1]
     rw [sel_neg (by simpa using h1),sel_neg (by simpa using h2),chk_of (by rfl),← hE]
     exact ⟨_,rfl,5,rfl,by decide,by decide⟩
   ·have g:Xj [Zd [Zw (Zv 0).name,Zw (Zv 0).inst,Zw (Zv 0).realm],Zd [Zw (Zv 1).name,Zw (Zv 1).inst,Zw (Zv 1).realm],Zd [Zw (Zv 2).name,Zw (Zv 2).inst,Zw (Zv 2).realm],Zd [Zw (Zx 2).name,Zw (Zx 2).inst,Zw (Zx 2).realm],Zd [Zw (Zx 0).name,Zw (Zx 0).inst,Zw (Zx 0).realm],Zd [Zw (Zx 1).name,Zw (Zx 1).inst,Zw (Zx 1).realm]] (Zm ((5:Nat):Int)) Wu=Zd [Zw (Zx 1).name,Zw (Zx 1).inst,Zw (Zx 1).realm]:=rfl
    have k0:decide (((5:Nat):Int)<((Zq [Zd [Zw (Zv 0).name,Zw (Zv 0).inst,Zw (Zv 0).realm],Zd [Zw (Zv 1).name,Zw (Zv 1).inst,Zw (Zv 1).realm],Zd [Zw (Zv 2).name,Zw (Zv 2).inst,Zw (Zv 2).realm],Zd [Zw (Zx 2).name,Zw (Zx 2).inst,Zw (Zx 2).realm],Zd [Zw (Zx 0).name,Zw (Zx 0).inst,Zw (Zx 0).realm],Zd [Zw (Zx 1).name,Zw (Zx 1).inst,Zw (Zx 1).realm]]:Nat):Int))=true:=rfl
    have k1:decide ((0:Int)≤((5:Nat):Int))=true:=rfl
    have k2:decide (((5:Nat):Int)≤1000)=true:=rfl
    have k3:Zu .i64 (3+((5:Nat):Int))=3+((5:Nat):Int):=rfl
    have k4:Zu .i64 (8+((5:Nat):Int))=8+((5:Nat):Int):=rfl
    simp only [g,k0,k1,k2,k3,k4,e0,e1,e2,e3,Yw,↓A0,A0]
    by_cases h1:Zb bd % 16=((5:Nat):Int)
    all_goals by_cases h2:Zb bd % 16=8+((5:Nat):Int)
    ·have hE:Zk (Zp ((5:Nat):Int) (Zx 1) lf xp bd)=Zd [Zw (Zx 1).name,Zw (Zx 1).inst,Zz Yp (Xy ((5:Nat):Int)),Zz Zy (3+((5:Nat):Int)),Zz Zy (1000+Zb xp*100),Zz Zy (Zb lf),Zz Zy (1+Zb bd / 16 % 3),Zz Zy 0,Zz Zy 0]:=by
      unfold Zk Zp
      dsimp only
      rw [if_pos h2,if_pos h1]
     rw [sel_pos (by simpa using h1),sel_pos (by simpa using h2),chk_of (by rfl),← hE]
     exact ⟨_,rfl,6,rfl,by decide,by decide⟩
    ·have hE:Zk (Zp ((5:Nat):Int) (Zx 1) lf xp bd)=Zd [Zw (Zx 1).name,Zw (Zx 1).inst,Zz Yp (Xy ((5:Nat):Int)),Zz Zy (3+((5:Nat):Int)),Zz Zy (0),Zz Zy (Zb lf),Zz Zy (1+Zb bd / 16 % 3),Zz Zy 0,Zz Zy 0]:=by
      unfold Zk Zp
      dsimp only
      rw [if_neg h2,if_pos h1]
     rw [sel_pos (by simpa using h1),sel_neg (by simpa using h2),chk_of (by rfl),← hE]
     exact ⟨_,rfl,6,rfl,by decide,by decide⟩
    ·have hE:Zk (Zp ((5:Nat):Int) (Zx 1) lf xp bd)=Zd [Zw (Zx 1).name,Zw (Zx 1).inst,Zz Yp (Xy ((5:Nat):Int)),Zz Zy (3+((5:Nat):Int)),Zz Zy (1000+Zb xp*100),Zz Zy (Zb lf),Zz Zy (0),Zz Zy 0,Zz Zy 0]:=by
      unfold Zk Zp
      dsimp only
      rw [if_pos h2,if_neg h1]
     rw [sel_neg (by simpa using h1),sel_pos (by simpa using h2),chk_of (by rfl),← hE]
     exact ⟨_,rfl,6,rfl,by decide,by decide⟩
    ·have hE:Zk (Zp ((5:Nat):Int) (Zx 1) lf xp bd)=Zd [Zw (Zx 1).name,Zw (Zx 1).inst,Zz Yp (Xy ((5:Nat):Int)),Zz Zy (3+((5:Nat):Int)),Zz Zy (0),Zz Zy (Zb lf),Zz Zy (0),Zz Zy 0,Zz Zy 0]:=by
      unfold Zk Zp
      dsimp only
      rw [if_neg h2,if_neg h1]
     rw [sel_neg (by simpa using h1),sel_neg (by simpa using h2),chk_of (by rfl),← hE]
     exact ⟨_,rfl,6,rfl,by decide,by decide⟩
   ·exact ⟨_,rfl,rfl⟩
  ·rintro _ rfl
   rfl
 ·cases h
theorem w29:Walked Tryz.prog G 29 4 sp29:=by
 refine ⟨Tryz.f29,Tryz.func29,by decide +kernel,rfl,fun xs bl r h=> ?_⟩
 unfold sp29 at h
 split at h
 ·rename_i rl els
  obtain ⟨hpre,h2⟩:=chk_inv h;cases h2
  refine Eq.trans (b:=(Zj (chk (l63 rl) (some (Yx (Kerb.validRealm rl),[]))) (kL fun b=>sel (!b) (some (Zz .i64 103,[])) (sel (decide ((↑(Zq els):Int)>60)) (some (Zz .i64 106,[])) (Zj (loopM (fun (st:List AV)=>cStr st fun b r=>cSl 9 r fun b_1 r=>cInt .i64 r fun n r=>cInt .i64 r fun n_1 r=>let t0:Option (List AV ⊕ Ex×List AV):=some (Vp [Zw b,Xk 9 b_1,Zz .i64 n,Zz .i64 (Zu .i64 (n_1+1))]);onNil r (sel (decide (n_1<(↑(Zq b_1):Int))) (chk (decide (0≤n_1)&&decide (n_1<(↑(Zq b_1):Int))&&true) (AV.onAgg (Xj b_1 (Zm n_1) Wu) fun cs=>cStr cs fun b_2 r=>cStr r fun b_3 r=>cInt .u64 r fun n r=>cInt .i64 r fun n_2 r=>cInt .i64 r fun n_3 r=>cInt .i64 r fun n_4 r=>cInt .i64 r fun n_5 r=>cInt .i64 r fun n_6 r=>cInt .i64 r fun n_7 r=>onNil r (Zj (chk (l63 b_2&&l63 b_3&&Kerb.isU64 n) (some (Zz .i64 (Kerb.Entry.err (Kerb.Entry.mk b_2 b_3 n n_2 n_3 n_4 n_5 n_6 n_7)),[]))) (kI .i64 fun n=>sel (!n==0) (some (Vh (Ex.ret,[Zw b,Xk 9 b_1,Zz .i64 n,Zz .i64 n_1]))) (sel (decide (n_1>0)) (chk (decide (0≤n_1)&&decide (n_1<(↑(Zq b_1):Int))&&true) (AV.onAgg (Xj b_1 (Zm n_1) Wu) fun cs=>cStr cs fun b_4 r=>cStr r fun b_5 r=>cInt .u64 r fun n r=>cInt .i64 r fun n_8 r=>cInt .i64 r fun n_9 r=>cInt .i64 r fun n_10 r=>cInt .i64 r fun n_11 r=>cInt .i64 r fun n_12 r=>cInt .i64 r fun n_13 r=>onNil r (chk (decide (0≤Zu .i64 (n_1-1))&&decide (Zu .i64 (n_1-1)<(↑(Zq b_1):Int))&&true) (AV.onAgg (Xj b_1 (Zm (Zu .i64 (n_1-1))) Wu) fun cs=>cStr cs fun b_6 r=>cStr r fun b_7 r=>cInt .u64 r fun n_14 r=>cInt .i64 r fun n_15 r=>cInt .i64 r fun n_16 r=>cInt .i64 r fun n_17 r=>cInt .i64 r fun n_18 r=>cInt .i64 r fun n_19 r=>cInt .i64 r fun n_20 r=>onNil r (sel (Kerb.Entry.less (Kerb.Entry.mk b_4 b_5 n n_8 n_9 n_10 n_11 n_12 n_13) (Kerb.Entry.mk b_6 b_7 n_14 n_15 n_16 n_17 n_18 n_19 n_20)) (some (Vh (Ex.ret,[Zw b,Xk 9 b_1,Zz .i64 110,Zz .i64 n_1]))) t0))))) t0))))) (some (Vh (Wz 0,[Zw b,Xk 9 b_1,Zz .i64 n,Zz .i64 n_1]))))) [Zw rl,Xk 9 els,Zz .i64 0,Zz .i64 0]) fun (r:Ex×List AV)=>cStr (Yy r) fun b r_1=>cSl 9 r_1 fun b r_2=>cInt .i64 r_2 fun n r_3=>cInt .i64 r_3 fun n_1 r_4=>onNil r_4 (exK r.1 (some (Zz .i64 n,[])) fun (j:Nat)=>sel (Vd j 0) (some (Zz .i64 0,[])) none)))):Option (AV×Blocks))) (by kernel_rfl) ?_
  delta kL kI
  try dsimp only [cStr,cBs,cBool,cU8,cInt,cSl,l63]
  simp only [Yf,decide_eq_true_eq] at hpre
  obtain ⟨⟨hr,hall⟩,hlen⟩:=hpre
  obtain ⟨es,rfl,hok⟩:=Kerb.ents_of hall
  rw [Kerb.map_toEntry]
  simp only [List.length_map] at hlen
  unfold Kerb.Db.err
  simp only [hr,decide_true,↓A0,A0,List.length_map]
  cases hv:Kerb.validRealm rl
  ·rfl
  simp only [Yg,Wj,sel_true,sel_false]
  rw [if_neg (by simp)]
  by_cases h60:60<es.length
  ·rw [sel_pos (by simp;omega),if_pos h60]
  rw [sel_neg (by simp;omega),if_neg h60]
  have hex:∃ z,Kerb.entriesErr none es=z:=⟨_,rfl⟩
  obtain ⟨z,hz⟩:=hex
  rw [hz]
  refine loop_rounds (fun i:Nat=>[Zw rl,Xk 9 (es.map Zk),Zz Zy 0,Zz Zy (i:Int)]) (fun i=>i≤es.length∧Kerb.entriesErr (Kerb.prevOf es i) (es.drop i)=z) (fun i=>es.length-i)
   (fun r=>∃ (e:Int) (i:Nat),r.2=[Zw rl,Xk 9 (es.map Zk),Zz Zy e,Zz Zy (i:Int)]∧((r.1 = .ret∧e=z)∨(r.1 = .exit 0∧z=0))) 0 ⟨Nat.zero_le _,hz⟩ rfl ?_ ?_
  ·rintro i ⟨hi,hinv⟩
   simp only [↓A0,A0,List.length_map]
   rcases Nat.lt_or_ge i es.length with h | h
   ·rw [Kerb.errs_step h] at hinv
    have hx:=hok _ (Kerb.ent_mem h)
    rw [sel_pos (by simp;omega),chk_of (by simp;omega),Wv,Kerb.getD_ent h]
    obtain ⟨n,hn⟩:∃ e,es.getD i Kerb.noEntry=e:=⟨_,rfl⟩
    rw [hn] at hinv hx ⊢
    obtain ⟨x1,x2,x3,_⟩:=hx
    simp only [Zk,↓A0,A0,x1,x2,x3,decide_true,Yw]
    by_cases he:n.err=0
    ·rw [sel_neg (by simpa using he)]
     rw [if_neg (by simpa using he)] at hinv
     by_cases h0:0<i
     ·have hp:Kerb.prevOf es i=some (es.getD (i-1) Kerb.noEntry):=by rw [Kerb.prevOf,if_neg (by omega)]
      rw [hp] at hinv
      have hw:Zu .i64 ((i:Int)-1)=((i-1:Nat):Int):=by rw [wrap_i64 (by omega) (by omega)];omega
      rw [sel_pos (by simpa using h0),hw]
      rw [chk_of (by simp;omega)]
      try simp only [↓A0,A0]
      rw [chk_of (by simp;omega),Wv,Kerb.getD_ent (by omega)]
      obtain ⟨m,hm⟩:∃ e,es.getD (i-1) Kerb.noEntry=e:=⟨_,rfl⟩
      rw [hm] at hinv ⊢
      simp only [Zk,↓A0,A0]
      by_cases hl:n.less m=true
      ·rw [sel_pos (by simpa using hl)]
       rw [if_pos hl] at hinv
       exact ⟨_,rfl,110,i,rfl,.inl ⟨rfl,hinv⟩⟩
      ·rw [sel_neg (by simpa using hl),wrap_i64 (by omega) (by omega)]
       rw [if_neg hl] at hinv
       exact ⟨_,rfl,i+1,rfl,⟨by omega,hinv⟩,by dsimp only;omega⟩
     ·have hp:Kerb.prevOf es i=none:=by rw [Kerb.prevOf,if_pos (by omega)]
      rw [hp] at hinv
      rw [sel_neg (by simpa using h0),wrap_i64 (by omega) (by omega)]
      rw [if_neg (by simp)] at hinv
      exact ⟨_,rfl,i+1,rfl,⟨by omega,hinv⟩,by dsimp only;omega⟩
    ·rw [sel_pos (by simpa using he)]
     rw [if_pos (by simpa using he)] at hinv
     exact ⟨_,rfl,n.err,i,rfl,.inl ⟨rfl,hinv⟩⟩
   ·rw [sel_neg (by simp;omega)]
    rw [List.drop_eq_nil_of_le h] at hinv
    exact ⟨_,rfl,0,i,rfl,.inr ⟨rfl,by rw [← hinv];rfl⟩⟩
  ·rintro ⟨e,l⟩ ⟨e2,i,rfl,⟨rfl,rfl⟩ | ⟨rfl,h⟩⟩
   ·rfl
   ·rw [h];rfl
 ·cases h
theorem w46:Walked Tryz.prog G 46 4 sp46:=by
 refine ⟨Tryz.f46,Tryz.func46,by decide +kernel,rfl,fun xs bl r h=> ?_⟩
 unfold sp46 at h
 split at h
 ·rename_i op e
  cases h
  refine Eq.trans (b:=(some (Yv (Kerb.Enc.val (Kerb.encodeKaReply (Kerb.KaReply.mk op e []))),[]):Option (AV×Blocks))) (by kernel_rfl) ?_
  rfl
 ·cases h
theorem w47:Walked Tryz.prog G 47 4 sp47:=by
 refine ⟨Tryz.f47,Tryz.func47,by decide +kernel,rfl,fun xs bl r h=> ?_⟩
 unfold sp47 at h
 split at h
 ·rename_i rl els n i now
  obtain ⟨hpre,h2⟩:=chk_inv h;cases h2
  refine Eq.trans (b:=(Zj (chk (List.all els Kerb.isEntry&&decide (Zq els≤1000000)) (some (Yu [Zz .i64 (Yq (Kerb.useEnt (Kerb.Db.mk rl (List.map Kerb.toEntry els)) n i now 1 1 5)),Zz .i64 (Yy (Kerb.useEnt (Kerb.Db.mk rl (List.map Kerb.toEntry els)) n i now 1 1 5))],[]))) fun (r:AV×Blocks)=>onNilB (Yy r) (Vy (Yq r) fun vs=>onCons vs fun x r=>Yk .i64 x fun n=>onCons r fun x r=>Yk .i64 x fun n_1=>onNil r (some (Yu [Zz .i64 n,Zz .i64 n_1],[]))):Option (AV×Blocks))) (by kernel_rfl) ?_
  simp only [hpre,↓A0,A0]
  rfl
 ·cases h
set_option maxHeartbeats 4000000 in
theorem w59:Walked Tryz.prog G 59 4 sp59:=by
 refine ⟨Tryz.f59,Tryz.func59,by decide +kernel,rfl,fun xs bl r h=> ?_⟩
 unfold sp59 at h
 split at h
 ·rename_i l pos
  obtain ⟨hpre,h2⟩:=chk_inv h;cases h2
  show runFnH (G.env 59 4) G.rts (G.own 59) Tryz.f59 _ _ [0]=_
  refine Eq.trans (b:=(Zj (chk (decide (Zq l≤4611686018427387904)&&decide (0≤pos)) (some (Zz .i64 (Yz l pos 3),[[Yv l,Zz .i64 (Zn l pos 3)]]))) fun (r:AV×Blocks)=>onConsB (Yy r) fun (x:List AV) (r_1:List (List AV))=>cBs x fun b r_2=>cInt .i64 r_2 fun n r_3=>onNil r_3 (onNilB r_1 (Yk .i64 (Yq r) fun n_1=>Zj (chk (decide (0≤n_1)&&decide (n_1≤4611686018427387904)) (some (Zd [Zw (Wx (Zv n_1)),Zw (Ww (Zv n_1)),Zw (Xm (Zv n_1))],[]))) (kA fun cs=>cStr cs fun b_1 r=>cStr r fun b_2 r=>cStr r fun b_3 r=>onNil r (Zj (chk (decide (Zq b≤4611686018427387904)&&decide (0≤n)) (some (Zz .i64 (Yz b n 2),[[Yv b,Zz .i64 (Zn b n 2)]]))) fun (r:AV×Blocks)=>onConsB (Yy r) fun (x:List AV) (r_4:List (List AV))=>cBs x fun b r_5=>cInt .i64 r_5 fun n r_6=>onNil r_6 (onNilB r_4 (Yk .i64 (Yq r) fun n_2=>Zj (sel (n_2==1) (Zj (chk (decide (Zq b≤4611686018427387904)&&decide (0≤n)) (some (Zz .i64 (Yz b n 3),[[Yv b,Zz .i64 (Zn b n 3)]]))) fun (r:AV×Blocks)=>onConsB (Yy r) fun (x:List AV) (r_7:List (List AV))=>cBs x fun b r_8=>cInt .i64 r_8 fun n r_9=>onNil r_9 (onNilB r_7 (Yk .i64 (Yq r) fun n_3=>Zj (chk (decide (0≤n_3)&&decide (n_3≤4611686018427387904)) (some (Zd [Zw (Wx (Zx n_3)),Zw (Ww (Zx n_3)),Zw (Xm (Zx n_3))],[]))) (kA fun cs=>cStr cs fun b_4 r=>cStr r fun b_5 r=>cStr r fun b_6 r=>onNil r (some [Yv b,Zz .i64 n,Zw [],Zw [],Zz .u64 0,Zz .i64 0,Zz .i64 0,Zz .i64 0,Zz .i64 0,Zz .i64 0,Zz .i64 0,Zw b_4,Zw b_5,Zw b_6]))))) (some [Yv b,Zz .i64 n,Zw [],Zw [],Zz .u64 0,Zz .i64 0,Zz .i64 0,Zz .i64 0,Zz .i64 0,Zz .i64 0,Zz .i64 0,Zw b_1,Zw b_2,Zw b_3])) fun l=>cBs l fun b r=>cInt .i64 r fun n r=>cStr r fun b_4 r=>cStr r fun b_5 r=>cInt .u64 r fun n_3 r=>cInt .i64 r fun n_4 r=>cInt .i64 r fun n_5 r=>cInt .i64 r fun n_6 r=>cInt .i64 r fun n_7 r=>cInt .i64 r fun n_8 r=>cInt .i64 r fun n_9 r=>cStr r fun b_6 r=>cStr r fun b_7 r=>cStr r fun b_8 r=>onNil r (Zj (chk (decide (Zq b≤4611686018427387904)&&decide (0≤n)) (some (Zz .i64 (Yz b n 40),[[Yv b,Zz .i64 (Zn b n 40)]]))) fun (r:AV×Blocks)=>onConsB (Yy r) fun (x:List AV) (r_7:List (List AV))=>cBs x fun b r_8=>cInt .i64 r_8 fun n r_9=>onNil r_9 (onNilB r_7 (Yk .i64 (Yq r) fun n_10=>Zj (chk (decide (0≤n_10)&&decide (n_10≤1000)) (some (Zz .u64 (Xy n_10),[]))) (kI .u64 fun n_11=>Zj (chk (decide (Zq b≤4611686018427387904)&&decide (0≤n)) (some (Zz .i64 (Yz b n 256),[[Yv b,Zz .i64 (Zn b n 256)]]))) fun (r:AV×Blocks)=>onConsB (Yy r) fun (x:List AV) (r_10:List (List AV))=>cBs x fun b r_11=>cInt .i64 r_11 fun n r_12=>onNil r_12 (onNilB r_10 (Yk .i64 (Yq r) fun n_12=>Zj (chk (decide (Zq b≤4611686018427387904)&&decide (0≤n)) (some (Zz .i64 (Yz b n 256),[[Yv b,Zz .i64 (Zn b n 256)]]))) fun (r:AV×Blocks)=>onConsB (Yy r) fun (x:List AV) (r_13:List (List AV))=>cBs x fun b r_14=>cInt .i64 r_14 fun n r_15=>onNil r_15 (onNilB r_13 (Yk .i64 (Yq r) fun n_13=>Zj (chk (decide (Zq b≤4611686018427387904)&&decide (0≤n)) (some (Zz .i64 (Yz b n 5),[[Yv b,Zz .i64 (Zn b n 5)]]))) fun (r:AV×Blocks)=>onConsB (Yy r) fun (x:List AV) (r_16:List (List AV))=>cBs x fun b r_17=>cInt .i64 r_17 fun n r_18=>onNil r_18 (onNilB r_16 (Yk .i64 (Yq r) fun n_14=>Zj (chk (decide (Zq b≤4611686018427387904)&&decide (0≤n)) (some (Zz .i64 (Yz b n 4),[[Yv b,Zz .i64 (Zn b n 4)]]))) fun (r:AV×Blocks)=>onConsB (Yy r) fun (x:List AV) (r_19:List (List AV))=>cBs x fun b r_20=>cInt .i64 r_20 fun n r_21=>onNil r_21 (onNilB r_19 (Yk .i64 (Yq r) fun n_15=>Zj (chk (decide (Zq b≤4611686018427387904)&&decide (0≤n)) (some (Zz .i64 (Yz b n 21),[[Yv b,Zz .i64 (Zn b n 21)]]))) fun (r:AV×Blocks)=>onConsB (Yy r) fun (x:List AV) (r_22:List (List AV))=>cBs x fun b r_23=>cInt .i64 r_23 fun n r_24=>onNil r_24 (onNilB r_22 (Yk .i64 (Yq r) fun n_16=>let t0:List AV:=[Zz .i64 n_13,Zz .i64 (Zu .i64 (Zu .i64 (Vk n_14 4)*n_15)),Zz .i64 n_16,Zz .i64 0];Zj (chk (decide (Zq b≤4611686018427387904)&&decide (0≤n)) (some (Zz .i64 (Yz b n 5),[[Yv b,Zz .i64 (Zn b n 5)]]))) fun (r:AV×Blocks)=>onConsB (Yy r) fun (x:List AV) (r_25:List (List AV))=>cBs x fun b r_26=>cInt .i64 r_26 fun n r_27=>onNil r_27 (onNilB r_25 (Yk .i64 (Yq r) fun n_17=>Zj (sel (n_17==4) (Zj (chk (decide (Zq b≤4611686018427387904)&&decide (0≤n)) (some (Zz .i64 (Yz b n 256),[[Yv b,Zz .i64 (Zn b n 256)]]))) fun (r:AV×Blocks)=>onConsB (Yy r) fun (x:List AV) (r_28:List (List AV))=>cBs x fun b r_29=>cInt .i64 r_29 fun n r_30=>onNil r_30 (onNilB r_28 (Yk .i64 (Yq r) fun n_18=>some (Yv b::Zz .i64 n::Zw b_4::Zw b_5::Zz .u64 n_3::Zz .i64 n_4::Zz .i64 n_5::Zz .i64 n_6::Zz .i64 n_7::Zz .i64 n_8::Zz .i64 n_9::Zw b_6::Zw b_7::Zz .u64 n_11::Zz .i64 n_12::Zz .i64 (Zu .i64 (n_18*200))::t0)))) (some (Yv b::Zz .i64 n::Zw b_4::Zw b_5::Zz .u64 n_3::Zz .i64 n_4::Zz .i64 n_5::Zz .i64 n_6::Zz .i64 n_7::Zz .i64 n_8::Zz .i64 n_9::Zw b_6::Zw b_7::Zz .u64 n_11::Zz .i64 n_12::Zz .i64 0::t0))) fun l=>cBs l fun b r=>cInt .i64 r fun n r=>cStr r fun b_9 r=>cStr r fun b_10 r=>cInt .u64 r fun n_18 r=>cInt .i64 r fun n_19 r=>cInt .i64 r fun n_20 r=>cInt .i64 r fun n_21 r=>cInt .i64 r fun n_22 r=>cInt .i64 r fun n_23 r=>cInt .i64 r fun n_24 r=>cStr r fun b_11 r=>cStr r fun b_12 r=>cInt .u64 r fun n_25 r=>cInt .i64 r fun n_26 r=>cInt .i64 r fun n_27 r=>cInt .i64 r fun n_28 r=>cInt .i64 r fun n_29 r=>cInt .i64 r fun n_30 r=>cInt .i64 r fun n_31 r=>let t1:List AV:=[Zz .i64 n_26,Zz .i64 n_27,Zz .i64 n_28,Zz .i64 n_29,Zz .i64 n_30,Zz .i64 n_31];onNil r (Zj (chk (decide (Zq b≤4611686018427387904)&&decide (0≤n)) (some (Zz .i64 (Yz b n 9),[[Yv b,Zz .i64 (Zn b n 9)]]))) fun (r:AV×Blocks)=>onConsB (Yy r) fun (x:List AV) (r_28:List (List AV))=>cBs x fun b r_29=>cInt .i64 r_29 fun n r_30=>onNil r_30 (onNilB r_28 (Yk .i64 (Yq r) fun n_32=>Zj (sel (n_32==8) (some (Yv b::Zz .i64 n::Zw b_9::Zw b_10::Zz .u64 n_18::Zz .i64 n_19::Zz .i64 n_20::Zz .i64 n_21::Zz .i64 n_22::Zz .i64 n_23::Zz .i64 n_24::Zw b_11::Zw b_12::Zz .u64 0::t1)) (some (Yv b::Zz .i64 n::Zw b_9::Zw b_10::Zz .u64 n_18::Zz .i64 n_19::Zz .i64 n_20::Zz .i64 n_21::Zz .i64 n_22::Zz .i64 n_23::Zz .i64 n_24::Zw b_11::Zw b_12::Zz .u64 n_25::t1))) fun l=>cBs l fun b r=>cInt .i64 r fun n r=>cStr r fun b_13 r=>cStr r fun b_14 r=>cInt .u64 r fun n_33 r=>cInt .i64 r fun n_34 r=>cInt .i64 r fun n_35 r=>cInt .i64 r fun n_36 r=>cInt .i64 r fun n_37 r=>cInt .i64 r fun n_38 r=>cInt .i64 r fun n_39 r=>cStr r fun b_15 r=>cStr r fun b_16 r=>cInt .u64 r fun n_40 r=>cInt .i64 r fun n_41 r=>cInt .i64 r fun n_42 r=>cInt .i64 r fun n_43 r=>cInt .i64 r fun n_44 r=>cInt .i64 r fun n_45 r=>cInt .i64 r fun n_46 r=>onNil r (Zj (chk (decide (Zq b≤4611686018427387904)&&decide (0≤n)) (some (Zz .i64 (Yz b n 9),[[Yv b,Zz .i64 (Zn b n 9)]]))) fun (r:AV×Blocks)=>onConsB (Yy r) fun (x:List AV) (r_31:List (List AV))=>cBs x fun b r_32=>cInt .i64 r_32 fun n r_33=>onNil r_33 (onNilB r_31 (Yk .i64 (Yq r) fun n_47=>sel (n_47==8) (Zj (chk (decide (Zq b≤4611686018427387904)&&decide (0≤n)) (some (Zz .i64 (Yz b n 256),[[Yv b,Zz .i64 (Zn b n 256)]]))) fun (r:AV×Blocks)=>onConsB (Yy r) fun (x:List AV) (r_34:List (List AV))=>cBs x fun b r_35=>cInt .i64 r_35 fun n r_36=>onNil r_36 (onNilB r_34 (Yk .i64 (Yq r) fun n_48=>some (Zd [Zw b_15,Zw b_16,Zz .u64 n_40,Zz .i64 n_41,Zz .i64 n_42,Zz .i64 n_43,Zz .i64 n_44,Zz .i64 n_45,Zz .i64 (Zu .i64 (n_48*100))],[[Yv b,Zz .i64 n]])))) (some (Zd [Zw b_15,Zw b_16,Zz .u64 n_40,Zz .i64 n_41,Zz .i64 n_42,Zz .i64 n_43,Zz .i64 n_44,Zz .i64 n_45,Zz .i64 n_46],[[Yv b,Zz .i64 n]])))))))))))))))))))))))))))))):Option (AV×Blocks))) (by kernel_rfl) ?_
  delta kA kI
  try dsimp only [cStr,cBs,cBool,cU8,cInt,cSl,l63]
  simp only [Yf,decide_eq_true_eq] at hpre
  obtain ⟨hl,hp0⟩:=hpre
  have c:decide (l.length≤4611686018427387904)=true:=by simp;omega
  have c0:decide (0≤pos)=true:=by simpa using hp0
  have wA:∀ q,Zu .i64 (Yz l q 256*200)=Yz l q 256*200:=fun q=>by have:=Kerb.next_bd l q 256;exact wrap_i64 (by omega) (by omega)
  have wB:∀ q,Zu .i64 (Yz l q 256*100)=Yz l q 256*100:=fun q=>by have:=Kerb.next_bd l q 256;exact wrap_i64 (by omega) (by omega)
  have wC:∀ q,Zu .i64 (Vk (Yz l q 5) 4)=Yz l q 5 / 4:=fun q=>by have:=Kerb.next_bd l q 5;rw [Xh (by omega)];exact wrap_i64 (by omega) (by omega)
  have wD:∀ q r,Zu .i64 (Yz l q 5 / 4*Yz l r 4)=Yz l q 5 / 4*Yz l r 4:=fun q r=>by
   have h1:=Kerb.next_bd l q 5
   have h2:=Kerb.next_bd l r 4
   have h3:Yz l q 5 / 4=0∨Yz l q 5 / 4=1:=by omega
   rcases h3 with h3 | h3<;>rw [h3]<;>exact wrap_i64 (by omega) (by omega)
  have E1:Zn l pos 3=Kerb.eq1 l pos:=rfl
  have E2:Zn l (Kerb.eq1 l pos) 2=Xu l pos:=rfl
  have E4:Zn l (Yb l pos) 40=Kerb.eq4 l pos:=rfl
  have E5:Zn l (Kerb.eq4 l pos) 256=Kerb.eq5 l pos:=rfl
  have E6:Zn l (Kerb.eq5 l pos) 256=Kerb.eq6 l pos:=rfl
  have E7:Zn l (Kerb.eq6 l pos) 5=Kerb.eq7 l pos:=rfl
  have E8:Zn l (Kerb.eq7 l pos) 4=Kerb.eq8 l pos:=rfl
  have E9:Zn l (Kerb.eq8 l pos) 21=Kerb.eq9 l pos:=rfl
  have E10:Zn l (Kerb.eq9 l pos) 5=Xp l pos:=rfl
  have E12:Zn l (Yj l pos) 9=Kerb.eq12 l pos:=rfl
  have E13:Zn l (Kerb.eq12 l pos) 9=Kerb.eq13 l pos:=rfl
  have d1:decide (0≤Kerb.eq1 l pos)=true:=Zh _ _ _
  have d2:decide (0≤Xu l pos)=true:=Zh _ _ _
  have d4:decide (0≤Kerb.eq4 l pos)=true:=Zh _ _ _
  have d5:decide (0≤Kerb.eq5 l pos)=true:=Zh _ _ _
  have d6:decide (0≤Kerb.eq6 l pos)=true:=Zh _ _ _
  have d7:decide (0≤Kerb.eq7 l pos)=true:=Zh _ _ _
  have d8:decide (0≤Kerb.eq8 l pos)=true:=Zh _ _ _
  have d9:decide (0≤Kerb.eq9 l pos)=true:=Zh _ _ _
  have d10:decide (0≤Xp l pos)=true:=Zh _ _ _
  have d12:decide (0≤Kerb.eq12 l pos)=true:=Zh _ _ _
  have d13:decide (0≤Kerb.eq13 l pos)=true:=Zh _ _ _
  have E3:∃ q,Yb l pos=q∧decide (0≤q)=true:=by
   refine ⟨_,rfl,?_⟩
   unfold Yb
   cases (Yz l (Kerb.eq1 l pos) 2==1)
   ·exact d2
   ·exact Zh _ _ _
  obtain ⟨_,rfl,d3⟩:=E3
  have E11:∃ q,Yj l pos=q∧decide (0≤q)=true:=by
   refine ⟨_,rfl,?_⟩
   unfold Yj
   cases (Yz l (Kerb.eq9 l pos) 5==4)
   ·exact d10
   ·exact Zh _ _ _
  obtain ⟨_,rfl,d11⟩:=E11
  unfold Kerb.dataEnt Kerb.dataEntPos
  cases h1:(Yz l (Kerb.eq1 l pos) 2==1)
  all_goals cases h2:(Yz l (Kerb.eq9 l pos) 5==4)
  all_goals cases h3:(Yz l (Yj l pos) 9==8)
  all_goals cases h4:(Yz l (Kerb.eq12 l pos) 9==8)
  ·have F3:Xu l pos=Yb l pos:=by unfold Yb;rw [h1];rfl
   have F11:Xp l pos=Yj l pos:=by unfold Yj;rw [h2];rfl
   have FP:Zg l pos=Zv (Yz l pos 3):=by unfold Zg;rw [h1];rfl
   simp only [FP,h1,h2,h3,h4,F3,E1,E2,E4,E5,E6,E7,E8,E9,E10,E12,E13,F11,wA,wB,wC,wD,d1,d2,d3,d4,d5,d6,d7,d8,d9,d10,d11,d12,d13,c,c0,Zh,Xx,Yh,Yd,Yw,cond_true,cond_false,↓A0,A0]
  ·have F3:Xu l pos=Yb l pos:=by unfold Yb;rw [h1];rfl
   have F11:Xp l pos=Yj l pos:=by unfold Yj;rw [h2];rfl
   have FP:Zg l pos=Zv (Yz l pos 3):=by unfold Zg;rw [h1];rfl
   simp only [FP,h1,h2,h3,h4,F3,E1,E2,E4,E5,E6,E7,E8,E9,E10,E12,E13,F11,wA,wB,wC,wD,d1,d2,d3,d4,d5,d6,d7,d8,d9,d10,d11,d12,d13,c,c0,Zh,Xx,Yh,Yd,Yw,cond_true,cond_false,↓A0,A0]
  ·have F3:Xu l pos=Yb l pos:=by unfold Yb;rw [h1];rfl
   have F11:Xp l pos=Yj l pos:=by unfold Yj;rw [h2];rfl
   have FP:Zg l pos=Zv (Yz l pos 3):=by unfold Zg;rw [h1];rfl
   simp only [FP,h1,h2,h3,h4,F3,E1,E2,E4,E5,E6,E7,E8,E9,E10,E12,E13,F11,wA,wB,wC,wD,d1,d2,d3,d4,d5,d6,d7,d8,d9,d10,d11,d12,d13,c,c0,Zh,Xx,Yh,Yd,Yw,cond_true,cond_false,↓A0,A0]
  ·have F3:Xu l pos=Yb l pos:=by unfold Yb;rw [h1];rfl
   have F11:Xp l pos=Yj l pos:=by unfold Yj;rw [h2];rfl
   have FP:Zg l pos=Zv (Yz l pos 3):=by unfold Zg;rw [h1];rfl
   simp only [FP,h1,h2,h3,h4,F3,E1,E2,E4,E5,E6,E7,E8,E9,E10,E12,E13,F11,wA,wB,wC,wD,d1,d2,d3,d4,d5,d6,d7,d8,d9,d10,d11,d12,d13,c,c0,Zh,Xx,Yh,Yd,Yw,cond_true,cond_false,↓A0,A0]
  ·have F3:Xu l pos=Yb l pos:=by unfold Yb;rw [h1];rfl
   have F11:Zn l (Xp l pos) 256=Yj l pos:=by unfold Yj;rw [h2];rfl
   have FP:Zg l pos=Zv (Yz l pos 3):=by unfold Zg;rw [h1];rfl
   simp only [FP,h1,h2,h3,h4,F3,E1,E2,E4,E5,E6,E7,E8,E9,E10,E12,E13,F11,wA,wB,wC,wD,d1,d2,d3,d4,d5,d6,d7,d8,d9,d10,d11,d12,d13,c,c0,Zh,Xx,Yh,Yd,Yw,cond_true,cond_false,↓A0,A0]
  ·have F3:Xu l pos=Yb l pos:=by unfold Yb;rw [h1];rfl
   have F11:Zn l (Xp l pos) 256=Yj l pos:=by unfold Yj;rw [h2];rfl
   have FP:Zg l pos=Zv (Yz l pos 3):=by unfold Zg;rw [h1];rfl
   simp only [FP,h1,h2,h3,h4,F3,E1,E2,E4,E5,E6,E7,E8,E9,E10,E12,E13,F11,wA,wB,wC,wD,d1,d2,d3,d4,d5,d6,d7,d8,d9,d10,d11,d12,d13,c,c0,Zh,Xx,Yh,Yd,Yw,cond_true,cond_false,↓A0,A0]
  ·have F3:Xu l pos=Yb l pos:=by unfold Yb;rw [h1];rfl
   have F11:Zn l (Xp l pos) 256=Yj l pos:=by unfold Yj;rw [h2];rfl
   have FP:Zg l pos=Zv (Yz l pos 3):=by unfold Zg;rw [h1];rfl
   simp only [FP,h1,h2,h3,h4,F3,E1,E2,E4,E5,E6,E7,E8,E9,E10,E12,E13,F11,wA,wB,wC,wD,d1,d2,d3,d4,d5,d6,d7,d8,d9,d10,d11,d12,d13,c,c0,Zh,Xx,Yh,Yd,Yw,cond_true,cond_false,↓A0,A0]
  ·have F3:Xu l pos=Yb l pos:=by unfold Yb;rw [h1];rfl
   have F11:Zn l (Xp l pos) 256=Yj l pos:=by unfold Yj;rw [h2];rfl
   have FP:Zg l pos=Zv (Yz l pos 3):=by unfold Zg;rw [h1];rfl
   simp only [FP,h1,h2,h3,h4,F3,E1,E2,E4,E5,E6,E7,E8,E9,E10,E12,E13,F11,wA,wB,wC,wD,d1,d2,d3,d4,d5,d6,d7,d8,d9,d10,d11,d12,d13,c,c0,Zh,Xx,Yh,Yd,Yw,cond_true,cond_false,↓A0,A0]
  ·have F3:Zn l (Xu l pos) 3=Yb l pos:=by unfold Yb;rw [h1];rfl
   have F11:Xp l pos=Yj l pos:=by unfold Yj;rw [h2];rfl
   have FP:Zg l pos=Zx (Yz l (Xu l pos) 3):=by unfold Zg;rw [h1];rfl
   simp only [FP,h1,h2,h3,h4,F3,E1,E2,E4,E5,E6,E7,E8,E9,E10,E12,E13,F11,wA,wB,wC,wD,d1,d2,d3,d4,d5,d6,d7,d8,d9,d10,d11,d12,d13,c,c0,Zh,Xx,Yh,Yd,Yw,cond_true,cond_false,↓A0,A0]
  ·have F3:Zn l (Xu l pos) 3=Yb l pos:=by unfold Yb;rw [h1];rfl
   have F11:Xp l pos=Yj l pos:=by unfold Yj;rw [h2];rfl
   have FP:Zg l pos=Zx (Yz l (Xu l pos) 3):=by unfold Zg;rw [h1];rfl
   simp only [FP,h1,h2,h3,h4,F3,E1,E2,E4,E5,E6,E7,E8,E9,E10,E12,E13,F11,wA,wB,wC,wD,d1,d2,d3,d4,d5,d6,d7,d8,d9,d10,d11,d12,d13,c,c0,Zh,Xx,Yh,Yd,Yw,cond_true,cond_false,↓A0,A0]
  ·have F3:Zn l (Xu l pos) 3=Yb l pos:=by unfold Yb;rw [h1];rfl
   have F11:Xp l pos=Yj l pos:=by unfold Yj;rw [h2];rfl
   have FP:Zg l pos=Zx (Yz l (Xu l pos) 3):=by unfold Zg;rw [h1];rfl
   simp only [FP,h1,h2,h3,h4,F3,E1,E2,E4,E5,E6,E7,E8,E9,E10,E12,E13,F11,wA,wB,wC,wD,d1,d2,d3,d4,d5,d6,d7,d8,d9,d10,d11,d12,d13,c,c0,Zh,Xx,Yh,Yd,Yw,cond_true,cond_false,↓A0,A0]
  ·have F3:Zn l (Xu l pos) 3=Yb l pos:=by unfold Yb;rw [h1];rfl
   have F11:Xp l pos=Yj l pos:=by unfold Yj;rw [h2];rfl
   have FP:Zg l pos=Zx (Yz l (Xu l pos) 3):=by unfold Zg;rw [h1];rfl
   simp only [FP,h1,h2,h3,h4,F3,E1,E2,E4,E5,E6,E7,E8,E9,E10,E12,E13,F11,wA,wB,wC,wD,d1,d2,d3,d4,d5,d6,d7,d8,d9,d10,d11,d12,d13,c,c0,Zh,Xx,Yh,Yd,Yw,cond_true,cond_false,↓A0,A0]
  ·have F3:Zn l (Xu l pos) 3=Yb l pos:=by unfold Yb;rw [h1];rfl
   have F11:Zn l (Xp l pos) 256=Yj l pos:=by unfold Yj;rw [h2];rfl
   have FP:Zg l pos=Zx (Yz l (Xu l pos) 3):=by unfold Zg;rw [h1];rfl
   simp only [FP,h1,h2,h3,h4,F3,E1,E2,E4,E5,E6,E7,E8,E9,E10,E12,E13,F11,wA,wB,wC,wD,d1,d2,d3,d4,d5,d6,d7,d8,d9,d10,d11,d12,d13,c,c0,Zh,Xx,Yh,Yd,Yw,cond_true,cond_false,↓A0,A0]
  ·have F3:Zn l (Xu l pos) 3=Yb l pos:=by unfold Yb;rw [h1];rfl
   have F11:Zn l (Xp l pos) 256=Yj l pos:=by unfold Yj;rw [h2];rfl
   have FP:Zg l pos=Zx (Yz l (Xu l pos) 3):=by unfold Zg;rw [h1];rfl
   simp only [FP,h1,h2,h3,h4,F3,E1,E2,E4,E5,E6,E7,E8,E9,E10,E12,E13,F11,wA,wB,wC,wD,d1,d2,d3,d4,d5,d6,d7,d8,d9,d10,d11,d12,d13,c,c0,Zh,Xx,Yh,Yd,Yw,cond_true,cond_false,↓A0,A0]
  ·have F3:Zn l (Xu l pos) 3=Yb l pos:=by unfold Yb;rw [h1];rfl
   have F11:Zn l (Xp l pos) 256=Yj l pos:=by unfold Yj;rw [h2];rfl
   have FP:Zg l pos=Zx (Yz l (Xu l pos) 3):=by unfold Zg;rw [h1];rfl
   simp only [FP,h1,h2,h3,h4,F3,E1,E2,E4,E5,E6,E7,E8,E9,E10,E12,E13,F11,wA,wB,wC,wD,d1,d2,d3,d4,d5,d6,d7,d8,d9,d10,d11,d12,d13,c,c0,Zh,Xx,Yh,Yd,Yw,cond_true,cond_false,↓A0,A0]
  ·have F3:Zn l (Xu l pos) 3=Yb l pos:=by unfold Yb;rw [h1];rfl
   have F11:Zn l (Xp l pos) 256=Yj l pos:=by unfold Yj;rw [h2];rfl
   have FP:Zg l pos=Zx (Yz l (Xu l pos) 3):=by unfold Zg;rw [h1];rfl
   simp only [FP,h1,h2,h3,h4,F3,E1,E2,E4,E5,E6,E7,E8,E9,E10,E12,E13,F11,wA,wB,wC,wD,d1,d2,d3,d4,d5,d6,d7,d8,d9,d10,d11,d12,d13,c,c0,Zh,Xx,Yh,Yd,Yw,cond_true,cond_false,↓A0,A0]
 ·cases h
end Go.Proofs.YtaikjfcgemjghaaGreat
