/- What the functions of this seat compute. -/
import Derived.Test.YtaikjfcgemjghaaGreatTab
import Derived.Test.YtaikjfcgemjghaaGreatKerbPlain
import Derived.Test.YtaikjfcgemjghaaGreatAbsStep
import Derived.Test.YtaikjfcgemjghaaGreatKerbKaPlain
import Derived.Test.YtaikjfcgemjghaaGreatKerbKaRef
import Derived.Test.YtaikjfcgemjghaaGreatKerbCli4
import Derived.Test.YtaikjfcgemjghaaGreatKerbCli5
import Derived.Test.YtaikjfcgemjghaaGreatKerbKac2
import Derived.Test.YtaikjfcgemjghaaGreatKerbCli3
import Derived.Test.YtaikjfcgemjghaaGreatKerbCli4
import Derived.Test.YtaikjfcgemjghaaGreatKerbCli5
import Derived.Test.YtaikjfcgemjghaaGreatKerbSrvL
import Derived.Test.YtaikjfcgemjghaaGreatKerbPath
import Derived.Test.YtaikjfcgemjghaaGreatKerbPath
open Go.Abs.AV renaming int→Zz,str→Zv,bool→Zu,sl→Zg,bs→Yz,tup→Yx,ownB→Yq,undef→Yd,onInt→Xp,agg→Xd,onOwnB→Wy,onAgg→Wx,onStr→Wj
open Go.IntKind renaming wrap→Zy,i64→Zw,bits→Zj,u64→Yg
open List renaming length→Zx,getD→Zf,take_of_length_le→Zh,length_map→Yy,drop_eq_nil_of_le→Xv,findIdx_cons→Wn
open Int renaming toNat→Zq,toNat_natCast→Zn,tmod_eq_emod_of_nonneg→Yv,tdiv_eq_ediv_of_nonneg→Yn,tmod→Xz,tdiv→Xm
open Bool renaming and_eq_true→Zk,not_true→Wd,and_self→Wh
open Option renaming bind→Zp
open Kerb renaming within→Zd,credAt→Yh,least→Xy,room→Xu,printable→Xq,imin→Xf,room_ok→Xb,bfd→Xn,readHead→Xh,lifeTo→Ww,isKind→Wv,crossAt→Wu,bytes→Wq,map_toEntry→Wk,isSerial→Wp,putText→Wf,isClass→Wg,indexOf→Wb,getD_ent→Wm
open Kerb.Entry renaming named→Zb,av→Xx
open Prod renaming snd→Zm,fst→Xg
open Nat renaming beq_refl→Yw,zero_le→Yb,beq→Xj
open Kerb.Cred renaming av→Yu
open Go.Abs.Ex renaming exit→Yj
open UInt8 renaming toNat→Yk,ofNat→Ym
open Sum renaming inr→Yp,inl→Yf
open Kerb.Client renaming av→Xw
open Kerb.Cache renaming av→Xk
open Kerb.Cross renaming av→Wz
namespace Go.Proofs.YtaikjfcgemjghaaGreat
open Go Go.Abs Go.Proofs
set_option linter.unusedVariables false
set_option linter.unusedSimpArgs false
set_option maxRecDepth 100000
theorem w13:Walked Tryz.prog G 13 1 sp13:=by
 refine ⟨Tryz.f13,Tryz.func13,by decide +kernel,rfl,fun xs bl r h=> ?_⟩
 unfold sp13 at h
 split at h
 ·rename_i n
  obtain ⟨hpre,h2⟩:=chk_inv h;cases h2
  refine Eq.trans (b:=(some (Zz .u64 (Zy .u64 (↑(BitVec.toNat (BitVec.ofInt (Zj .u64) 72057594037927936 ||| BitVec.ofInt (Zj .u64) (Zy .u64 (Zy .i64 (1+n))))):Int)),[]):Option (AV×Blocks))) (by kernel_rfl) ?_
  rfl
 ·cases h
theorem w16:Walked Tryz.prog G 16 1 sp16:=by
 refine ⟨Tryz.f16,Tryz.func16,by decide +kernel,rfl,fun xs bl r h=> ?_⟩
 unfold sp16 at h
 split at h
 ·rename_i n
  obtain ⟨hpre,h2⟩:=chk_inv h;cases h2
  refine Eq.trans (b:=(some (Zz .u64 (Zy .u64 (↑(BitVec.toNat (BitVec.ofInt (Zj .u64) 144115188075855872 ||| BitVec.ofInt (Zj .u64) (Zy .u64 (Zy .i64 (1+n))))):Int)),[]):Option (AV×Blocks))) (by kernel_rfl) ?_
  rfl
 ·cases h
theorem w20:Walked Tryz.prog G 20 1 sp20:=by
 refine ⟨Tryz.f20,Tryz.func20,by decide +kernel,rfl,fun xs bl r h=> ?_⟩
 unfold sp20 at h
 split at h
 ·rename_i o1 o2 o3 els x y z
  obtain ⟨hpre,h2⟩:=chk_inv h;cases h2
  refine Eq.trans (b:=(Zp (loopM (fun (st:List AV)=>cStr st fun b r=>cStr r fun b_1 r=>cStr r fun b_2 r=>cSl 8 r fun b_3 r=>cStr r fun b_4 r=>cStr r fun b_5 r=>cStr r fun b_6 r=>cStr r fun b_7 r=>cStr r fun b_8 r=>cStr r fun b_9 r=>cInt .u64 r fun n r=>cInt .i64 r fun n_1 r=>cInt .i64 r fun n_2 r=>cInt .i64 r fun n_3 r=>cBs r fun b_10 r=>cBool r fun b_11 r=>cInt .i64 r fun n_4 r=>onNil r (sel (decide (n_4<(↑(Zx b_3):Int))) (chk (decide (0≤n_4)&&decide (n_4<(↑(Zx b_3):Int))&&true) (Wx (Zf b_3 (Zq n_4) Yd) fun cs=>cStr cs fun b_12 r=>cStr r fun b_13 r=>cStr r fun b_14 r=>cInt .u64 r fun n_5 r=>cInt .i64 r fun n_6 r=>cInt .i64 r fun n_7 r=>cInt .i64 r fun n_8 r=>cBs r fun b_15 r=>onNil r (sel (b_12==b_4&&(b_13==b_5&&b_14==b_6)) (chk (decide (0≤n_4)&&decide (n_4<(↑(Zx b_3):Int))&&true) (Wx (Zf b_3 (Zq n_4) Yd) fun cs=>cStr cs fun b_16 r=>cStr r fun b_17 r=>cStr r fun b_18 r=>cInt .u64 r fun n r=>cInt .i64 r fun n_9 r=>cInt .i64 r fun n_10 r=>cInt .i64 r fun n_11 r=>cBs r fun b_19 r=>onNil r (some (Yp (Ex.ret,[Zv b,Zv b_1,Zv b_2,Zg 8 b_3,Zv b_4,Zv b_5,Zv b_6,Zv b_16,Zv b_17,Zv b_18,Zz .u64 n,Zz .i64 n_9,Zz .i64 n_10,Zz .i64 n_11,Yz b_19,Zu true,Zz .i64 n_4]))))) (some (Yf [Zv b,Zv b_1,Zv b_2,Zg 8 b_3,Zv b_4,Zv b_5,Zv b_6,Zv b_7,Zv b_8,Zv b_9,Zz .u64 n,Zz .i64 n_1,Zz .i64 n_2,Zz .i64 n_3,Yz b_10,Zu b_11,Zz .i64 (Zy .i64 (n_4+1))]))))) (some (Yp (Yj 0,[Zv b,Zv b_1,Zv b_2,Zg 8 b_3,Zv b_4,Zv b_5,Zv b_6,Zv b_7,Zv b_8,Zv b_9,Zz .u64 n,Zz .i64 n_1,Zz .i64 n_2,Zz .i64 n_3,Yz b_10,Zu b_11,Zz .i64 n_4]))))) [Zv o1,Zv o2,Zv o3,Zg 8 els,Zv x,Zv y,Zv z,Zv [],Zv [],Zv [],Zz .u64 0,Zz .i64 0,Zz .i64 0,Zz .i64 0,Yz [],Zu false,Zz .i64 0]) fun (r:Ex×List AV)=>cStr (Zm r) fun b r_1=>cStr r_1 fun b r_2=>cStr r_2 fun b r_3=>cSl 8 r_3 fun b r_4=>cStr r_4 fun b r_5=>cStr r_5 fun b r_6=>cStr r_6 fun b r_7=>cStr r_7 fun b r_8=>cStr r_8 fun b_1 r_9=>cStr r_9 fun b_2 r_10=>cInt .u64 r_10 fun n r_11=>cInt .i64 r_11 fun n_1 r_12=>cInt .i64 r_12 fun n_2 r_13=>cInt .i64 r_13 fun n_3 r_14=>cBs r_14 fun b_3 r_15=>cBool r_15 fun b_4 r_16=>cInt .i64 r_16 fun n_4 r_17=>onNil r_17 (exK r.1 (some (Yx [Xd [Zv b,Zv b_1,Zv b_2,Zz .u64 n,Zz .i64 n_1,Zz .i64 n_2,Zz .i64 n_3,Yz b_3],Zu b_4],[])) fun (j:Nat)=>sel (Xj j 0) (some (Yx [Xd [Zv [],Zv [],Zv [],Zz .u64 0,Zz .i64 0,Zz .i64 0,Zz .i64 0,Yz []],Zu false],[])) none):Option (AV×Blocks))) (by kernel_rfl) ?_
  try dsimp only [cStr,cBs,cBool,cU8,cInt,cSl,l63]
  simp only [Zk,decide_eq_true_eq] at hpre
  obtain ⟨hall,hlen⟩:=hpre
  obtain ⟨cs,rfl,hok⟩:=Kerb.creds_of hall
  rw [Kerb.map_toCred]
  simp only [Yy] at hlen ⊢
  refine loop_rounds (fun i:Nat=>[Zv o1,Zv o2,Zv o3,Zg 8 (cs.map Yu),Zv x,Zv y,Zv z,Zv [],Zv [],Zv [],Zz Yg 0,Zz Zw 0,Zz Zw 0,Zz Zw 0,Yz [],Zu false,Zz Zw (i:Int)]) (fun i=>i≤cs.length∧Yh cs ⟨x,y,z⟩=i+Yh (cs.drop i) ⟨x,y,z⟩) (fun i=>cs.length-i)
   (fun r=>∃ (i:Nat) (c:Kerb.Cred) (f:Bool),r.2=[Zv o1,Zv o2,Zv o3,Zg 8 (cs.map Yu),Zv x,Zv y,Zv z,Zv c.service.name,Zv c.service.inst,Zv c.service.realm,Zz Yg c.session,Zz Zw c.life,Zz Zw c.kvno,Zz Zw c.issued,Yz c.ticket,Zu f,Zz Zw (i:Int)]∧((r.1 = .ret∧Kerb.getCred cs ⟨x,y,z⟩=(c,f))∨(r.1 = .exit 0∧Kerb.getCred cs ⟨x,y,z⟩=(Kerb.noCred,false)))) 0 ⟨Yb _,by simp⟩ rfl ?_ ?_
  ·rintro i ⟨hi,hp⟩
   simp only [A0,Xw,Xk,Yu]
   by_cases hlt:i<cs.length
   ·rw [sel_pos (by simp;omega),chk_of (by simp;omega),Zn,Kerb.getD_av hlt]
    have hd:=Kerb.drop_cred hlt
    obtain ⟨c,hcc⟩:∃ c,cs.getD i Kerb.noCred=c:=⟨_,rfl⟩
    rw [hcc] at hd ⊢
    simp only [Yu,A0,Xw,Xk,Yu]
    show ∃ q,sel (Kerb.Prin.eqb c.service ⟨x,y,z⟩) _ _=some q∧_
    cases he:Kerb.Prin.eqb c.service ⟨x,y,z⟩
    ·rw [sel_false,wrap_i64 (by omega) (by omega)]
     refine ⟨_,rfl,i+1,rfl,⟨by omega,?_⟩,by dsimp only;omega⟩
     rw [hp,hd]
     simp only [Yh,Wn,he,cond_false]
     omega
    ·rw [sel_true,chk_of (by simp;omega)]
     refine ⟨_,rfl,i,c,true,rfl,.inl ⟨rfl,?_⟩⟩
     have hq:Yh cs ⟨x,y,z⟩=i:=by
      rw [hp,hd]
      simp only [Yh,Wn,he,cond_true]
      omega
     unfold Kerb.getCred
     rw [hq,if_pos hlt,hcc]
   ·rw [sel_neg (by simp;omega)]
    refine ⟨_,rfl,i,Kerb.noCred,false,rfl,.inr ⟨rfl,?_⟩⟩
    have hq:Yh cs ⟨x,y,z⟩=cs.length:=by
     rw [hp,Xv (by omega)]
     simp [Yh];omega
    unfold Kerb.getCred
    rw [hq,if_neg (by omega)]
  ·rintro ⟨e,l⟩ ⟨i,c,f,rfl,⟨rfl,h⟩ | ⟨rfl,h⟩⟩
   ·simp only [A0,Xw,Xk,Yu,h]
   ·simp only [A0,Xw,Xk,Yu,h]
    rw [sel_pos (Yw _)]
    rfl
 ·cases h
theorem w21:Walked Tryz.prog G 21 1 sp21:=by
 refine ⟨Tryz.f21,Tryz.func21,by decide +kernel,rfl,fun xs bl r h=> ?_⟩
 unfold sp21 at h
 split at h
 ·rename_i x y z k lf kv iss tk s1 s2 s3 sk2 lf2 kv2 is2 tk2
  cases h
  refine Eq.trans (b:=(sel (x==s1&&(y==s2&&z==s3)) (sel (k==sk2) (sel (lf==lf2) (sel (kv==kv2) (sel (iss==is2) (some (Zu (tk==tk2),[])) (some (Zu false,[]))) (some (Zu false,[]))) (some (Zu false,[]))) (some (Zu false,[]))) (some (Zu false,[])):Option (AV×Blocks))) (by kernel_rfl) ?_
  cases (x==s1&&(y==s2&&z==s3))
  ·rfl
  cases (k==sk2)
  ·rfl
  cases (lf==lf2)
  ·rfl
  cases (kv==kv2)
  ·rfl
  cases (iss==is2)
  ·rfl
  cases (tk==tk2)<;>rfl
 ·cases h
theorem w31:Walked Tryz.prog G 31 1 sp31:=by
 refine ⟨Tryz.f31,Tryz.func31,by decide +kernel,rfl,fun xs bl r h=> ?_⟩
 unfold sp31 at h
 split at h
 ·rename_i rl els n i
  obtain ⟨hpre,h2⟩:=chk_inv h;cases h2
  refine Eq.trans (b:=(Zp (loopM (fun (st:List AV)=>cStr st fun b r=>cStr r fun b_1 r=>cStr r fun b_2 r=>cSl 9 r fun b_3 r=>cInt .i64 r fun n r=>cInt .i64 r fun n_1 r=>cInt .i64 r fun n_2 r=>let t0:Option (List AV ⊕ Ex×List AV):=some (Yf [Zv b,Zv b_1,Zv b_2,Zg 9 b_3,Zz .i64 n,Zz .i64 n_1,Zz .i64 (Zy .i64 (n_2+1))]);onNil r (sel (decide (n_2<(↑(Zx b_3):Int))) (chk (decide (0≤n_2)&&decide (n_2<(↑(Zx b_3):Int))&&true) (Wx (Zf b_3 (Zq n_2) Yd) fun cs=>cStr cs fun b_4 r=>cStr r fun b_5 r=>cInt .u64 r fun n r=>cInt .i64 r fun n r=>cInt .i64 r fun n r=>cInt .i64 r fun n r=>cInt .i64 r fun n r=>cInt .i64 r fun n r=>cInt .i64 r fun n r=>onNil r (sel (b_4==b) (chk (decide (0≤n_2)&&decide (n_2<(↑(Zx b_3):Int))&&true) (Wx (Zf b_3 (Zq n_2) Yd) fun cs=>cStr cs fun b_6 r=>cStr r fun b_7 r=>cInt .u64 r fun n r=>cInt .i64 r fun n r=>cInt .i64 r fun n r=>cInt .i64 r fun n r=>cInt .i64 r fun n r=>cInt .i64 r fun n r=>cInt .i64 r fun n r=>onNil r (sel (b_7==b_1) (some (Yf [Zv b,Zv b_1,Zv b_2,Zg 9 b_3,Zz .i64 n_2,Zz .i64 (Zy .i64 (n_1+1)),Zz .i64 (Zy .i64 (n_2+1))])) t0))) t0))) (some (Yp (Yj 0,[Zv b,Zv b_1,Zv b_2,Zg 9 b_3,Zz .i64 n,Zz .i64 n_1,Zz .i64 n_2]))))) [Zv n,Zv i,Zv rl,Zg 9 els,Zz .i64 0,Zz .i64 0,Zz .i64 0]) fun (r:Ex×List AV)=>cStr (Zm r) fun b r_1=>cStr r_1 fun b r_2=>cStr r_2 fun b r_3=>cSl 9 r_3 fun b r_4=>cInt .i64 r_4 fun n r_5=>cInt .i64 r_5 fun n_1 r_6=>cInt .i64 r_6 fun n_2 r_7=>onNil r_7 (exK r.1 none fun (j:Nat)=>sel (Xj j 0) (sel (n_1==0) (some (Yx [Zz .i64 0,Zz .i64 8],[])) (sel (decide (n_1>1)) (some (Yx [Zz .i64 0,Zz .i64 9],[])) (some (Yx [Zz .i64 n,Zz .i64 0],[])))) none):Option (AV×Blocks))) (by kernel_rfl) ?_
  try dsimp only [cStr,cBs,cBool,cU8,cInt,cSl,l63]
  simp only [Zk,decide_eq_true_eq] at hpre
  obtain ⟨hall,hlen⟩:=hpre
  obtain ⟨es,rfl,hok⟩:=Kerb.ents_of hall
  rw [Wk]
  simp only [Yy] at hlen
  refine loop_rounds (fun q:Nat×Int=>[Zv n,Zv i,Zv rl,Zg 9 (es.map Xx),Zz Zw q.2,Zz Zw ((es.take q.1).countP (Zb n i):Int),Zz Zw (q.1:Int)])
   (fun q=>q.1≤es.length∧((es.take q.1).countP (Zb n i)=1→q.2=(es.findIdx (Zb n i):Int))) (fun q=>es.length-q.1)
   (fun r=>∃ c:Int,r=(.exit 0,[Zv n,Zv i,Zv rl,Zg 9 (es.map Xx),Zz Zw c,Zz Zw (es.countP (Zb n i):Int),Zz Zw (es.length:Int)])∧(es.countP (Zb n i)=1→c=(es.findIdx (Zb n i):Int))) (0,0) ⟨Yb _,fun h=>by simp at h⟩ rfl ?_ ?_
  ·rintro ⟨j,c⟩ ⟨hj,hinv⟩
   simp only at hj hinv
   simp only [↓A0,A0,Yy]
   rcases Nat.lt_or_ge j es.length with h | h
   ·have hc:=Kerb.count_take (p:=Zb n i) h
    have hle:=Kerb.count_le (p:=Zb n i) (es:=es) (j+1)
    have hcl:=List.countP_le_length (p:=Zb n i) (l:=es)
    have hx:=Kerb.find_first (p:=Zb n i) h
    have hg:(List.map Xx es).getD j Yd=(es.getD j Kerb.noEntry).av:=Wm h
    rw [sel_pos (by simp;omega),chk_of (by simp;omega),Zn,hg]
    generalize es.getD j Kerb.noEntry=e at hc hx
    simp only [Xx,↓A0,A0]
    rw [wrap_i64 (n:=(j:Int)+1) (by omega) (by omega),wrap_i64 (by omega) (by omega),chk_of (by simp;omega)]
    by_cases h1:e.name=n
    ·by_cases h2:e.inst=i
     ·have hp:Zb n i e=true:=by simp [Zb,h1,h2]
      rw [hp,cond_true] at hc
      rw [sel_pos (by simp [h1]),sel_pos (by simp [h2])]
      refine ⟨_,rfl,(j+1,(j:Int)),by simp [hc],⟨by simp only;omega,fun h0=> ?_⟩,by simp only;omega⟩
      simp only at h0 ⊢
      rw [hx (by omega) hp]
     ·have hp:Zb n i e=false:=by simp [Zb,h2]
      rw [hp,cond_false] at hc
      rw [sel_pos (by simp [h1]),sel_neg (by simpa using h2)]
      exact ⟨_,rfl,(j+1,c),by simp [hc],⟨by simp only;omega,by simp only;rw [hc];simpa using hinv⟩,by simp only;omega⟩
    ·have hp:Zb n i e=false:=by simp [Zb,h1]
     rw [hp,cond_false] at hc
     rw [sel_neg (by simpa using h1)]
     exact ⟨_,rfl,(j+1,c),by simp [hc],⟨by simp only;omega,by simp only;rw [hc];simpa using hinv⟩,by simp only;omega⟩
   ·rw [sel_neg (by simp;omega)]
    have hj2:j=es.length:=by omega
    subst hj2
    rw [Zh h] at hinv ⊢
    exact ⟨_,rfl,c,rfl,hinv⟩
  ·rintro _ ⟨c,rfl,h⟩
   simp only [↓A0,A0]
   unfold Kerb.findEnt
   rw [sel_pos (Yw _)]
   generalize es.countP (Zb n i)=q at h ⊢
   by_cases h0:q=0
   ·rw [sel_pos (by simp [h0]),if_pos h0]
   by_cases h1:1<q
   ·rw [sel_neg (by simp;omega),sel_pos (by simp;omega),if_neg h0,if_pos h1]
   ·rw [sel_neg (by simp;omega),sel_neg (by simp;omega),if_neg h0,if_neg h1,h (by omega)]
 ·cases h
theorem w37:Walked Tryz.prog G 37 1 sp37:=by
 refine ⟨Tryz.f37,Tryz.func37,by decide +kernel,rfl,fun xs bl r h=> ?_⟩
 unfold sp37 at h
 split at h
 ·rename_i n m
  cases h
  refine Eq.trans (b:=(sel (decide (n≥0)) (some (Zu (decide (n≤m)),[])) (some (Zu false,[])):Option (AV×Blocks))) (by kernel_rfl) ?_
  by_cases h:0≤n<;>simp [sel,Zd,h]
 ·cases h
theorem w39:Walked Tryz.prog G 39 1 sp39:=by
 refine ⟨Tryz.f39,Tryz.func39,by decide +kernel,rfl,fun xs bl r h=> ?_⟩
 unfold sp39 at h
 split at h
 ·rename_i n m
  cases h
  refine Eq.trans (b:=(sel (decide (n≥0)) (some (Zu (decide (n≤m)),[])) (some (Zu false,[])):Option (AV×Blocks))) (by kernel_rfl) ?_
  by_cases h:0≤n<;>simp [sel,Zd,h]
 ·cases h
theorem w44:Walked Tryz.prog G 44 1 sp44:=by
 refine ⟨Tryz.f44,Tryz.func44,by decide +kernel,rfl,fun xs bl r h=> ?_⟩
 unfold sp44 at h
 split at h
 ·rename_i n m
  cases h
  refine Eq.trans (b:=(sel (decide (n≥0)) (some (Zu (decide (n≤m)),[])) (some (Zu false,[])):Option (AV×Blocks))) (by kernel_rfl) ?_
  by_cases h:0≤n<;>simp [sel,Zd,h]
 ·cases h
theorem w51:Walked Tryz.prog G 51 1 sp51:=by
 refine ⟨Tryz.f51,Tryz.func51,by decide +kernel,rfl,fun xs bl r h=> ?_⟩
 unfold sp51 at h
 split at h
 ·rename_i n
  cases h
  refine Eq.trans (b:=(sel (n==1) (some (Zv [(116:UInt8),(103:UInt8),(115:UInt8),(84:UInt8)],[])) (sel (n==2) (some (Zv [(116:UInt8),(107:UInt8),(116:UInt8),(71:UInt8)],[])) (sel (n==3) (some (Zv [(67:UInt8),(80:UInt8),(87:UInt8),(100:UInt8)],[])) (some (Zv [],[])))):Option (AV×Blocks))) (by kernel_rfl) ?_
  unfold Kerb.kaLabel
  by_cases h1:n=1
  ·rw [sel_pos (by simpa using h1),if_pos h1];rfl
  rw [sel_neg (by simpa using h1),if_neg h1]
  by_cases h2:n=2
  ·rw [sel_pos (by simpa using h2),if_pos h2];rfl
  rw [sel_neg (by simpa using h2),if_neg h2]
  by_cases h3:n=3
  ·rw [sel_pos (by simpa using h3),if_pos h3];rfl
  rw [sel_neg (by simpa using h3),if_neg h3]
 ·cases h
theorem w58:Walked Tryz.prog G 58 1 sp58:=by
 refine ⟨Tryz.f58,Tryz.func58,by decide +kernel,rfl,fun xs bl r h=> ?_⟩
 unfold sp58 at h
 split at h
 ·rename_i l pos
  cases h
  show runFnH (G.env 58 1) G.rts (G.own 58) Tryz.f58 _ _ [0]=_
  refine Eq.trans (b:=(some (Zu (decide (pos<(↑(Zx l):Int))),[[Yz l,Zz .i64 pos]]):Option (AV×Blocks))) (by kernel_rfl) ?_
  rfl
 ·cases h
theorem w71:Walked Tryz.prog G 71 1 sp71:=by
 refine ⟨Tryz.f71,Tryz.func71,by decide +kernel,rfl,fun xs bl r h=> ?_⟩
 unfold sp71 at h
 split at h
 ·rename_i n
  cases h
  refine Eq.trans (b:=(sel (n==1) (some (Zu true,[])) (some (Zu (n==3),[])):Option (AV×Blocks))) (by kernel_rfl) ?_
  cases (n==1)<;>rfl
 ·cases h
theorem w78:Walked Tryz.prog G 78 1 sp78:=by
 refine ⟨Tryz.f78,Tryz.func78,by decide +kernel,rfl,fun xs bl r h=> ?_⟩
 unfold sp78 at h
 split at h
 ·rename_i en ei ek ev ex em ea ef et fn fi fk fv fx fm fa ff ft
  cases h
  refine Eq.trans (b:=(sel (Op.bytesLess en fn) (some (Zu true,[])) (sel (en==fn) (some (Zu (Op.bytesLess ei fi),[])) (some (Zu false,[]))):Option (AV×Blocks))) (by kernel_rfl) ?_
  unfold Kerb.Entry.less
  cases Op.bytesLess en fn
  ·cases hq:en==fn<;>rfl
  ·rfl
 ·cases h
theorem w87:Walked Tryz.prog G 87 1 sp87:=by
 refine ⟨Tryz.f87,Tryz.func87,by decide +kernel,rfl,fun xs bl r h=> ?_⟩
 unfold sp87 at h
 split at h
 ·cases h
  refine Eq.trans (b:=(some (Zg 1 [Zv [(65:UInt8),(84:UInt8),(72:UInt8)],Zv [(66:UInt8),(79:UInt8),(83:UInt8)],Zv [(67:UInt8),(65:UInt8),(77:UInt8)]],[]):Option (AV×Blocks))) (by kernel_rfl) ?_
  rfl
 ·cases h
theorem w89:Walked Tryz.prog G 89 1 sp89:=by
 refine ⟨Tryz.f89,Tryz.func89,by decide +kernel,rfl,fun xs bl r h=> ?_⟩
 unfold sp89 at h
 split at h
 ·rename_i n m
  cases h
  refine Eq.trans (b:=(sel (decide (n≥0)) (some (Zu (decide (n≤m)),[])) (some (Zu false,[])):Option (AV×Blocks))) (by kernel_rfl) ?_
  by_cases h:0≤n<;>simp [sel,Zd,h]
 ·cases h
theorem w93:Walked Tryz.prog G 93 1 sp93:=by
 refine ⟨Tryz.f93,Tryz.func93,by decide +kernel,rfl,fun xs bl r h=> ?_⟩
 unfold sp93 at h
 split at h
 ·rename_i r t
  cases h
  refine Eq.trans (b:=(some (Xd [Zv [(107:UInt8),(114:UInt8),(98:UInt8),(116:UInt8),(103:UInt8),(116:UInt8)],Zv t,Zv r],[]):Option (AV×Blocks))) (by kernel_rfl) ?_
  rfl
 ·cases h
theorem w103:Walked Tryz.prog G 103 1 sp103:=by
 refine ⟨Tryz.f103,Tryz.func103,by decide +kernel,rfl,fun xs bl r h=> ?_⟩
 unfold sp103 at h
 split at h
 ·rename_i els t
  obtain ⟨hpre,h2⟩:=chk_inv h;cases h2
  refine Eq.trans (b:=(sel (t==0) (some (Zg 1 els,[])) (chk (room (Zx els) (nat_lit 8)) (chk (room (Zx els+Zx [Zz .i64 t]) (nat_lit 8)) (some (Zg 1 (els++[Zz .i64 t]),[])))):Option (AV×Blocks))) (by kernel_rfl) ?_
  simp only [Zk,decide_eq_true_eq] at hpre
  by_cases h:t=0
  ·rw [sel_pos (by simpa using h),if_pos h]
  ·rw [sel_neg (by simpa using h),if_neg h,chk_of (by simp [Go.Abs.room];omega),chk_of (by simp [Go.Abs.room];omega)]
 ·cases h
theorem w110:Walked Tryz.prog G 110 1 sp110:=by
 refine ⟨Tryz.f110,Tryz.func110,by decide +kernel,rfl,fun xs bl r h=> ?_⟩
 unfold sp110 at h
 split at h
 ·rename_i rl els i en ei ek ev ex em ea ef et
  obtain ⟨hpre,h2⟩:=chk_inv h;cases h2
  refine Eq.trans (b:=(let t0:List AV:=[Zv en,Zv ei,Zz .u64 ek,Zz .i64 ev,Zz .i64 ex,Zz .i64 em,Zz .i64 ea,Zz .i64 ef,Zz .i64 et];chk (room (Zx els) (nat_lit 88)) (chk (decide (0≤i)&&decide (i<(↑(Zx els):Int))&&true) (chk (Nat.blt (Zq i) (Zx els)&&true&&true) (Wx (Zf els (Zq i) Yd) fun cs=>cStr cs fun b r=>cStr r fun b r=>cInt .u64 r fun n r=>cInt .i64 r fun n r=>cInt .i64 r fun n r=>cInt .i64 r fun n r=>cInt .i64 r fun n r=>cInt .i64 r fun n r=>cInt .i64 r fun n r=>onNil r (chk (Zx t0==nat_lit 9&&true&&true&&true&&Nat.blt (Zq i) (Zx els)) (some (Xd [Zv rl,Zg 9 (List.set els (Zq i) (Xd t0))],[])))))):Option (AV×Blocks))) (by kernel_rfl) ?_
  try dsimp only [cStr,cBs,cBool,cU8,cInt,cSl,l63]
  simp only [Zk,decide_eq_true_eq] at hpre
  obtain ⟨⟨⟨hall,hlen⟩,h0⟩,h1⟩:=hpre
  obtain ⟨es,rfl,hok⟩:=Kerb.ents_of hall
  rw [Wk]
  simp only [Yy] at hlen h1
  have hj:i.toNat<es.length:=by omega
  rw [chk_of (Kerb.room_ok2 (by simp;omega))]
  try simp only [Yy]
  have hb:Nat.blt i.toNat es.length=true:=by simp [hj]
  rw [chk_of (by simp;omega),chk_of (by rw [hb];rfl),Wm hj]
  simp only [Xx,↓A0,A0]
  rw [chk_of (by rw [hb];rfl)]
  show some _=some _
  unfold Kerb.setEnt
  dsimp only
  rw [← Kerb.set_ent]
  rfl
 ·cases h
theorem w112:Walked Tryz.prog G 112 1 sp112:=by
 refine ⟨Tryz.f112,Tryz.func112,by decide +kernel,rfl,fun xs bl r h=> ?_⟩
 unfold sp112 at h
 split at h
 ·rename_i n
  obtain ⟨hpre,h2⟩:=chk_inv h;cases h2
  refine Eq.trans (b:=(some (Zz .i64 (Xz (Zy .i64 (n+1)) 4294967296),[]):Option (AV×Blocks))) (by kernel_rfl) ?_
  simp only [Zk,decide_eq_true_eq] at hpre
  rw [wrap_i64 (by omega) (by omega),Yv (by omega)]
  rfl
 ·cases h
theorem w115:Walked Tryz.prog G 115 1 sp115:=by
 refine ⟨Tryz.f115,Tryz.func115,by decide +kernel,rfl,fun xs bl r h=> ?_⟩
 unfold sp115 at h
 split at h
 ·rename_i r t
  cases h
  refine Eq.trans (b:=(some (Xd [Zv [(107:UInt8),(114:UInt8),(98:UInt8),(116:UInt8),(103:UInt8),(116:UInt8)],Zv t,Zv r],[]):Option (AV×Blocks))) (by kernel_rfl) ?_
  rfl
 ·cases h
theorem w121:Walked Tryz.prog G 121 1 sp121:=by
 refine ⟨Tryz.f121,Tryz.func121,by decide +kernel,rfl,fun xs bl r h=> ?_⟩
 unfold sp121 at h
 split at h
 ·rename_i a b
  cases h
  refine Eq.trans (b:=(some (Zu (a==b),[]):Option (AV×Blocks))) (by kernel_rfl) ?_
  rfl
 ·cases h
theorem w124:Walked Tryz.prog G 124 1 sp124:=by
 refine ⟨Tryz.f124,Tryz.func124,by decide +kernel,rfl,fun xs bl r h=> ?_⟩
 unfold sp124 at h
 split at h
 ·rename_i n els
  obtain ⟨hpre,h2⟩:=chk_inv h;cases h2
  refine Eq.trans (b:=(Zp (loopM (fun (st:List AV)=>onCons st fun x r=>Xp .i64 x fun n=>onCons r fun x r=>AV.onSl 1 x fun b=>onCons r fun x r=>Xp .i64 x fun n_1=>onCons r fun x r=>Xp .i64 x fun n_2=>onNil r (sel (decide (n_2<n_1)) (chk (decide (0≤n_2)&&decide (n_2<(↑(Zx b):Int))&&true) (Xp .i64 (Zf b (Zq n_2) Yd) fun n_3=>sel (decide (n_3<n)) (some (Yf [Zz .i64 n_3,Zg 1 b,Zz .i64 n_1,Zz .i64 (Zy .i64 (n_2+1))])) (some (Yf [Zz .i64 n,Zg 1 b,Zz .i64 n_1,Zz .i64 (Zy .i64 (n_2+1))])))) (some (Yp (Yj 0,[Zz .i64 n,Zg 1 b,Zz .i64 n_1,Zz .i64 n_2]))))) [Zz .i64 n,Zg 1 els,Zz .i64 (↑(Zx els):Int),Zz .i64 0]) fun (r:Ex×List AV)=>onCons (Zm r) fun x r_1=>Xp .i64 x fun n=>onCons r_1 fun x r_2=>AV.onSl 1 x fun b=>onCons r_2 fun x r_3=>Xp .i64 x fun n_1=>onCons r_3 fun x r_4=>Xp .i64 x fun n_2=>onNil r_4 (exK r.1 none fun (j:Nat)=>sel (Xj j 0) (some (Zz .i64 n,[])) none):Option (AV×Blocks))) (by kernel_rfl) ?_
  simp only [Zk,decide_eq_true_eq] at hpre
  obtain ⟨ha,hl⟩:=hpre
  have hil:=Kerb.ints_len ha
  refine loop_rounds (fun i:Nat=>[Zz Zw (Xy n ((intsIn els).take i)),Zg 1 els,Zz Zw (els.length:Int),Zz Zw (i:Int)]) (fun i=>i≤els.length) (fun i=>els.length-i)
   (fun r=>r=(.exit 0,[Zz Zw (Xy n (intsIn els)),Zg 1 els,Zz Zw (els.length:Int),Zz Zw (els.length:Int)])) 0 (Yb _) rfl ?_ ?_
  ·intro i hi
   simp only [↓A0,A0]
   rcases Nat.lt_or_ge i els.length with h | h
   ·obtain ⟨m,h1,h2⟩:=Kerb.ints_get ha h
    rw [sel_pos (by simp;omega),chk_of (by simp;omega),Zn,h1,onInt_int]
    have ht:(intsIn els).take (i+1)=(intsIn els).take i++[m]:=by
     have h4:i<(intsIn els).length:=by omega
     rw [List.take_succ_eq_append_getElem h4]
     rw [List.drop_eq_getElem_cons h4] at h2
     rw [(List.cons.inj h2).1]
    have hs:Xy n ((intsIn els).take (i+1))=Xf (Xy n ((intsIn els).take i)) m:=by rw [ht];simp [Xy]
    rw [wrap_i64 (by omega) (by omega)]
    unfold Xf at hs
    by_cases hm:m<Xy n ((intsIn els).take i)
    ·rw [sel_pos (by simpa using hm)]
     rw [if_pos hm] at hs
     exact ⟨_,rfl,i+1,by dsimp only;rw [hs];rfl,by omega,by dsimp only;omega⟩
    ·rw [sel_neg (by simpa using hm)]
     rw [if_neg hm] at hs
     exact ⟨_,rfl,i+1,by dsimp only;rw [hs];rfl,by omega,by dsimp only;omega⟩
   ·have h1:i=els.length:=by omega
    subst h1
    rw [sel_neg (by simp)]
    refine ⟨_,rfl,?_⟩
    show _=_
    rw [Zh (by omega)]
  ·rintro _ rfl
   rfl
 ·cases h
theorem w131:Walked Tryz.prog G 131 1 sp131:=by
 refine ⟨Tryz.f131,Tryz.func131,by decide +kernel,rfl,fun xs bl r h=> ?_⟩
 unfold sp131 at h
 split at h
 ·rename_i n l pos
  obtain ⟨hpre,h2⟩:=chk_inv h;cases h2
  show runFnH (G.env 131 1) G.rts (G.own 131) Tryz.f131 _ _ [0]=_
  refine Eq.trans (b:=(sel (decide (pos≥(↑(Zx l):Int))) (some (Zz .i64 0,[[Yz l,Zz .i64 pos]])) (sel (decide (n≤0)) (some (Zz .i64 0,[[Yz l,Zz .i64 pos]])) (chk (decide (0≤pos)&&decide (pos<(↑(Zx l):Int))) (chk (!n==0) (some (Zz .i64 (Xz (Zy .i64 (↑(Yk (Zf l (Zq pos) (0:UInt8))):Int)) n),[[Yz l,Zz .i64 (Zy .i64 (pos+1))]]))))):Option (AV×Blocks))) (by kernel_rfl) ?_
  simp only [Zk,decide_eq_true_eq] at hpre
  unfold Kerb.next Kerb.nextPos
  by_cases h1:(l.length:Int)≤pos
  ·simp [sel,h1]
   omega
  by_cases h2:n≤0
  ·simp [sel,h1,h2]
   omega
  have h3:¬ n=0:=by omega
  have hb:=(l.getD pos.toNat 0).toNat_lt
  rw [sel_neg (by simp;omega),sel_neg (by simp;omega),chk_of (by simp;omega),chk_of (by simpa using h3),if_neg (by omega),if_neg (by omega),wrap_i64 (by omega) (by omega),wrap_i64 (by omega) (by omega),Yv (by omega),Int.toNat_of_nonneg (by omega)]
 ·cases h
theorem w132:Walked Tryz.prog G 132 1 sp132:=by
 refine ⟨Tryz.f132,Tryz.func132,by decide +kernel,rfl,fun xs bl r h=> ?_⟩
 unfold sp132 at h
 split at h
 ·rename_i n m
  cases h
  refine Eq.trans (b:=(sel (decide (n≥0)) (some (Zu (decide (n≤m)),[])) (some (Zu false,[])):Option (AV×Blocks))) (by kernel_rfl) ?_
  by_cases h:0≤n<;>simp [sel,Zd,h]
 ·cases h
theorem w135:Walked Tryz.prog G 135 1 sp135:=by
 refine ⟨Tryz.f135,Tryz.func135,by decide +kernel,rfl,fun xs bl r h=> ?_⟩
 unfold sp135 at h
 split at h
 ·rename_i k
  obtain ⟨hpre,h2⟩:=chk_inv h;cases h2
  refine Eq.trans (b:=(Zp (loopM (fun (st:List AV)=>cInt .u64 st fun n r=>onCons r fun x r=>Wy x fun b=>cInt .i64 r fun n_1 r=>let t0:List UInt8:=[Ym (Zq (Zy .u8 (Int.fdiv n (2 ^ min (Zq (Zy .u64 (Zy .i64 (8*n_1)))) (Zj .u64)))))];onNil r (sel (decide (n_1≥0)) (chk (decide (0≤Zy .u64 (Zy .i64 (8*n_1)))) (chk (room (Zx b+Zx t0) 1) (some (Yf [Zz .u64 n,Yq (b++t0),Zz .i64 (Zy .i64 (n_1-1))])))) (some (Yp (Yj 0,[Zz .u64 n,Yq b,Zz .i64 n_1]))))) [Zz .u64 k,Yq [],Zz .i64 7]) fun (r:Ex×List AV)=>cInt .u64 (Zm r) fun n r_1=>onCons r_1 fun x r_2=>Wy x fun b=>cInt .i64 r_2 fun n r_3=>onNil r_3 (exK r.1 none fun (j:Nat)=>sel (Xj j 0) (some (Yz b,[])) none):Option (AV×Blocks))) (by kernel_rfl) ?_
  try dsimp only [cStr,cBs,cBool,cU8,cInt,cSl,l63]
  refine loop_unroll 9 (Yj 0,[Zz Yg k,Yq [Xn k 56,Xn k 48,Xn k 40,Xn k 32,Xn k 24,Xn k 16,Xn k 8,Xn k 0],Zz Zw (-1)]) (by kernel_rfl) ?_
  simp only [A0]
  rw [sel_pos (Yw _)]
  simp [Kerb.bfd_eq,Kerb.keyBytes,Kerb.byteAt,List.range_succ]
 ·cases h
theorem w136:Walked Tryz.prog G 136 1 sp136:=by
 refine ⟨Tryz.f136,Tryz.func136,by decide +kernel,rfl,fun xs bl r h=> ?_⟩
 unfold sp136 at h
 split at h
 ·rename_i b
  obtain ⟨hpre,h2⟩:=chk_inv h;cases h2
  refine Eq.trans (b:=(chk (room (Zx b) 1) (Zp (loopM (fun (st:List AV)=>onCons st fun x r=>Wy x fun b=>onNil r (sel (!Xz (↑(Zx b):Int) 8==0) (chk (room (Zx b+Zx [(0:UInt8)]) 1) (some (Yf [Yq (b++[(0:UInt8)])]))) (some (Yp (Yj 0,[Yq b]))))) [Yq b]) fun (r:Ex×List AV)=>onCons (Zm r) fun x r_1=>Wy x fun b=>onNil r_1 (exK r.1 none fun (j:Nat)=>sel (Xj j 0) (some (Yq b,[])) none)):Option (AV×Blocks))) (by kernel_rfl) ?_
  have hb:=of_decide_eq_true hpre
  rw [chk_of (Xb (by omega))]
  refine loop_rounds (fun i:Nat=>[Yq (b++List.replicate i 0)]) (fun i=>i≤(8-b.length % 8) % 8) (fun i=>(8-b.length % 8) % 8-i)
   (fun r=>r=(Yj 0,[Yq (Kerb.pad b)])) 0 (by omega) (by simp) ?_ ?_
  ·intro i hi
   simp only [A0]
   have e:Xz ((b++List.replicate i 0).length:Int) 8=(((b.length+i) % 8:Nat):Int):=by
    rw [Yv (by omega)]
    simp
   rw [e]
   by_cases hlt:i<(8-b.length % 8) % 8
   ·rw [sel_pos (by simp;omega),chk_of (Xb (by simp;omega))]
    refine ⟨_,rfl,i+1,?_,by omega,by dsimp only;omega⟩
    dsimp only
    rw [List.replicate_succ',List.append_assoc]
   ·rw [sel_neg (by simp;omega)]
    refine ⟨_,rfl,?_⟩
    show _=_
    rw [Kerb.pad,show i=(8-b.length % 8) % 8 from by omega]
  rintro r rfl
  simp only [A0]
  rw [sel_pos (Yw _)]
 ·cases h
theorem w141:Walked Tryz.prog G 141 1 sp141:=by
 refine ⟨Tryz.f141,Tryz.func141,by decide +kernel,rfl,fun xs bl r h=> ?_⟩
 unfold sp141 at h
 split at h
 ·rename_i k little
  cases h
  refine Eq.trans (b:=(sel (decide (k<1)) (some (Yz [],[])) (sel (decide (k>10)) (some (Yz [],[])) (sel little (some (Yz [(4:UInt8),Ym (Zq (Zy .u8 (Zy .i64 (Zy .i64 (2*k)+1))))],[])) (some (Yz [(4:UInt8),Ym (Zq (Zy .u8 (Zy .i64 (2*k))))],[])))):Option (AV×Blocks))) (by kernel_rfl) ?_
  by_cases h:1≤k∧k≤10
  ·have hk:k=1∨k=2∨k=3∨k=4∨k=5∨k=6∨k=7∨k=8∨k=9∨k=10:=by omega
   rcases hk with rfl | rfl | rfl | rfl | rfl | rfl | rfl | rfl | rfl | rfl<;>cases little<;>rfl
  ·have hk:Wv k=false:=by simp [Wv];omega
   by_cases h1:k<1
   ·simp [sel,Kerb.header,hk,h1]
   ·have h2:10<k:=by omega
    simp [sel,Kerb.header,hk,h1,h2]
 ·cases h
theorem w143:Walked Tryz.prog G 143 1 sp143:=by
 refine ⟨Tryz.f143,Tryz.func143,by decide +kernel,rfl,fun xs bl r h=> ?_⟩
 unfold sp143 at h
 split at h
 ·rename_i b s
  obtain ⟨hpre,h2⟩:=chk_inv h;cases h2
  refine Eq.trans (b:=(chk (room (Zx b) 1) (chk (room (Zx b+Zx s) 1) (chk (room (Zx (b++s)+Zx [(0:UInt8)]) 1) (some (Yz (b++s++[(0:UInt8)]),[])))):Option (AV×Blocks))) (by kernel_rfl) ?_
  simp only [decide_eq_true_eq] at hpre
  rw [chk_of (Xb (by omega)),chk_of (Xb (by omega)),chk_of (Xb (by simp;omega))]
  simp [Wf]
 ·cases h
theorem w161:Walked Tryz.prog G 161 1 sp161:=by
 refine ⟨Tryz.f161,Tryz.func161,by decide +kernel,rfl,fun xs bl r h=> ?_⟩
 unfold sp161 at h
 split at h
 ·rename_i b
  cases h
  refine Eq.trans (b:=(let t0:Int:=Zy .i64 (↑(Yk (Ym (Zq (Zy .u8 (Xm (↑(Yk (Zf b (Zq 1) (0:UInt8))):Int) (↑(Yk (2:UInt8)):Int)))))):Int);let t1:Option (AV×Blocks):=some (Yx [Zz .i64 0,Zu false,Zz .i64 40],[]);sel (decide ((↑(Zx b):Int)<2)) (some (Yx [Zz .i64 0,Zu false,Zz .i64 101],[])) (chk (decide (0<(↑(Zx b):Int))) (sel (!Zf b (Zq 0) (0:UInt8)==(4:UInt8)) (some (Yx [Zz .i64 0,Zu false,Zz .i64 39],[])) (chk (decide (1<(↑(Zx b):Int))) (sel (decide (t0<1)) t1 (sel (decide (t0>10)) t1 (chk (decide (1<(↑(Zx b):Int))) (some (Yx [Zz .i64 t0,Zu (Ym (Zq (Xz (↑(Yk (Zf b (Zq 1) (0:UInt8))):Int) (↑(Yk (2:UInt8)):Int)))==(1:UInt8)),Zz .i64 0],[])))))))):Option (AV×Blocks))) (by kernel_rfl) ?_
  try dsimp only [cStr,cBs,cBool,cU8,cInt,cSl,l63]
  unfold Xh
  by_cases h1:b.length<2
  ·rw [sel_pos (by simp;omega)]
   simp [h1]
  rw [sel_neg (by simp;omega),chk_of (by simp;omega),if_neg h1]
  by_cases h2:b.getD 0 0=4
  ·have hb:=(b.getD 1 0).toNat_lt
   have e:Zy Zw ((Ym (Zq (Zy IntKind.u8 (Xm ((b.getD (Zq 1) 0).toNat:Int) ((2:UInt8).toNat:Int))))).toNat:Int)=(((b.getD 1 0).toNat / 2:Nat):Int):=by
    rw [show Zq 1=1 from rfl,show ((2:UInt8).toNat:Int)=2 from rfl,Yn (by omega),Kerb.wrap_u8]
    have e3:Zq (((b.getD 1 0).toNat:Int) / 2 % 256)=(b.getD 1 0).toNat / 2:=by omega
    rw [e3,UInt8.toNat_ofNat_of_lt' (by show _<256;omega),wrap_i64 (by omega) (by omega)]
   have e2:(Ym (Zq (Xz ((b.getD (Zq 1) 0).toNat:Int) ((2:UInt8).toNat:Int)))==1)=decide ((b.getD 1 0).toNat % 2=1):=by
    rw [show Zq 1=1 from rfl,Yv (by omega)]
    have e3:Zq (((b.getD 1 0).toNat:Int) % ((2:UInt8).toNat:Int))=(b.getD 1 0).toNat % 2:=by
     show Zq (((b.getD 1 0).toNat:Int) % 2)=_
     omega
    rw [e3]
    rcases Nat.mod_two_eq_zero_or_one (b.getD 1 0).toNat with h | h<;>rw [h]<;>rfl
   rw [sel_neg (by simp [h2] at *;exact h2),chk_of (by simp;omega),if_neg (by simpa using h2),e,e2]
   generalize (b.getD 1 0).toNat / 2=m
   unfold Wv
   by_cases h3:1≤m
   case neg =>
    rw [sel_pos (by simp;omega),if_neg (by simp;omega)]
   by_cases h4:m≤10
   case neg =>
    rw [sel_neg (by simp;omega),sel_pos (by simp;omega),if_neg (by simp;omega)]
   rw [sel_neg (by simp;omega),sel_neg (by simp;omega),chk_of (by simp;omega),if_pos (by simp;omega)]
  ·rw [sel_pos (by simpa using h2),if_pos (by simpa using h2)]
 ·cases h
theorem w163:Walked Tryz.prog G 163 1 sp163:=by
 refine ⟨Tryz.f163,Tryz.func163,by decide +kernel,rfl,fun xs bl r h=> ?_⟩
 unfold sp163 at h
 split at h
 ·rename_i nx e B at_ li bad
  cases h
  show runFnH (G.env 163 1) G.rts (G.own 163) Tryz.f163 _ _ [0]=_
  refine Eq.trans (b:=(sel bad (some (Yx [],[[Yz B,Zz .i64 at_,Zu li,Zu true]])) (sel (!e==0) (some (Yx [],[[Yz B,Zz .i64 at_,Zu li,Zu true]])) (some (Yx [],[[Yz B,Zz .i64 nx,Zu li,Zu bad]]))):Option (AV×Blocks))) (by kernel_rfl) ?_
  cases bad
  ·cases (e==0)<;>rfl
  ·rfl
 ·cases h
theorem w164:Walked Tryz.prog G 164 1 sp164:=by
 refine ⟨Tryz.f164,Tryz.func164,by decide +kernel,rfl,fun xs bl r h=> ?_⟩
 unfold sp164 at h
 split at h
 ·rename_i b pos
  obtain ⟨hpre,h2⟩:=chk_inv h;cases h2
  refine Eq.trans (b:=(let t0:Option (AV×Blocks):=some (Yx [Zv [],Zz .i64 0,Zz .i64 104],[]);sel (decide (pos<0)) t0 (sel (decide (pos>(↑(Zx b):Int))) t0 (Zp (loopM (fun (st:List AV)=>cBs st fun b r=>cInt .i64 r fun n r=>cStr r fun b_1 r=>cInt .i64 r fun n_1 r=>cInt .i64 r fun n_2 r=>cInt .i64 r fun n_3 r=>onNil r (sel (decide (n_3≤39)) (sel (decide (Zy .i64 (n+n_3)≥(↑(Zx b):Int))) (some (Yp (Ex.ret,[Yz b,Zz .i64 n,Zv [],Zz .i64 0,Zz .i64 101,Zz .i64 n_3]))) (chk (decide (0≤Zy .i64 (n+n_3))&&decide (Zy .i64 (n+n_3)<(↑(Zx b):Int))) (sel (Zf b (Zq (Zy .i64 (n+n_3))) (0:UInt8)==(0:UInt8)) (chk (decide (0≤n)&&decide (n≤Zy .i64 (n+n_3))&&decide (Zy .i64 (n+n_3)≤(↑(Zx b):Int))) (some (Yp (Ex.ret,[Yz b,Zz .i64 n,Zv (List.drop (Zq n) (List.take (Zq (Zy .i64 (n+n_3))) b)),Zz .i64 (Zy .i64 (Zy .i64 (n+n_3)+1)),Zz .i64 0,Zz .i64 n_3])))) (some (Yf [Yz b,Zz .i64 n,Zv b_1,Zz .i64 n_1,Zz .i64 n_2,Zz .i64 (Zy .i64 (n_3+1))]))))) (some (Yp (Yj 0,[Yz b,Zz .i64 n,Zv b_1,Zz .i64 n_1,Zz .i64 n_2,Zz .i64 n_3]))))) [Yz b,Zz .i64 pos,Zv [],Zz .i64 0,Zz .i64 0,Zz .i64 0]) fun (r:Ex×List AV)=>cBs (Zm r) fun b r_1=>cInt .i64 r_1 fun n r_2=>cStr r_2 fun b r_3=>cInt .i64 r_3 fun n r_4=>cInt .i64 r_4 fun n_1 r_5=>cInt .i64 r_5 fun n_2 r_6=>onNil r_6 (exK r.1 (some (Yx [Zv b,Zz .i64 n,Zz .i64 n_1],[])) fun (j:Nat)=>sel (Xj j 0) (some (Yx [Zv [],Zz .i64 0,Zz .i64 105],[])) none))):Option (AV×Blocks))) (by kernel_rfl) ?_
  try dsimp only [cStr,cBs,cBool,cU8,cInt,cSl,l63]
  have hb:=of_decide_eq_true hpre
  unfold Kerb.text
  by_cases h1:pos<0
  ·rw [sel_pos (by simpa using h1),if_neg (by rw [Kerb.room_zero];omega)]
  rw [sel_neg (by simpa using h1)]
  by_cases h2:(b.length:Int)<pos
  ·rw [sel_pos (by simpa using h2),if_neg (by rw [Kerb.room_zero];omega)]
  rw [sel_neg (by simpa using h2),if_pos (Kerb.room_zero.2 (by omega))]
  obtain ⟨R,hR⟩:∃ R,R=b.drop pos.toNat:=⟨_,rfl⟩
  have hRl:R.length=b.length-pos.toNat:=by rw [hR];simp
  rw [← hR]
  obtain ⟨T,hT⟩:∃ T,T=R.take 40:=⟨_,rfl⟩
  rw [← hT]
  have hix:=Kerb.indexOf_nonneg 0 T
  refine loop_rounds (fun i:Nat=>[Yz b,Zz Zw pos,Zv [],Zz Zw 0,Zz Zw 0,Zz Zw (i:Int)]) (fun i=>i≤40∧i≤R.length∧(0:UInt8) ∉ R.take i) (fun i=>40-i)
   (fun r=>∃ (i:Nat) (v:List UInt8) (nx e:Int),r.2=[Yz b,Zz Zw pos,Zv v,Zz Zw nx,Zz Zw e,Zz Zw (i:Int)] ∧
    ((r.1 = .ret∧v=[]∧nx=0∧e=101∧Wb 0 T<0∧T.length≠40)∨(r.1 = .ret∧Wb 0 T=i∧v=T.take i∧nx=pos+i+1∧e=0)∨(r.1 = .exit 0∧Wb 0 T<0∧T.length=40))) 0 ⟨by omega,by omega,by simp⟩ rfl ?_ ?_
  ·rintro i ⟨hi,hir,h0⟩
   simp only [A0]
   by_cases hlt:i≤39
   case neg =>
    have e40:i=40:=by omega
    subst e40
    rw [sel_neg (by decide)]
    refine ⟨_,rfl,40,[],0,0,rfl,.inr (.inr ⟨rfl,?_,?_⟩)⟩
    ·rw [← hT] at h0;have:=mt hix.1 h0;omega
    ·rw [hT];simp;omega
   rw [sel_pos (by simp;omega),wrap_i64 (n:=pos+(i:Int)) (by omega) (by omega)]
   by_cases hend:(b.length:Int)≤pos+i
   ·rw [sel_pos (by simpa using hend)]
    have hTR:T=R.take i:=by rw [hT,Zh (by omega),Zh (by omega)]
    refine ⟨_,rfl,i,[],0,101,rfl,.inl ⟨rfl,rfl,rfl,rfl,?_,?_⟩⟩
    ·rw [← hTR] at h0;have:=mt hix.1 h0;omega
    ·rw [hTR];simp;omega
   have hiR:i<R.length:=by omega
   have hd:=Kerb.drop_all_cons hiR
   have hbi:b.getD (pos+(i:Int)).toNat 0=R.getD i 0:=by
    rw [show (pos+(i:Int)).toNat=pos.toNat+i by omega,hR]
    simp [List.getD_eq_getElem?_getD]
   rw [sel_neg (by simpa using hend),chk_of (by simp;omega),hbi]
   by_cases hz:R.getD i 0=0
   ·rw [sel_pos (by rw [hz];rfl),chk_of (by simp;omega),wrap_i64 (by omega) (by omega)]
    have hTi:T.take i=R.take i:=by rw [hT,List.take_take,Nat.min_eq_left (by omega)]
    have hTe:T=R.take i++0::(R.drop (i+1)).take (39-i):=by
     rw [hT]
     have:R=R.take i++(0::R.drop (i+1)):=by rw [← hz,← hd,List.take_append_drop]
     have hl:(R.take i).length=i:=by simp;omega
     calc R.take 40=(R.take i++(0::R.drop (i+1))).take 40:=by rw [← this]
      _=_:=by rw [List.take_append,hl,Zh (by omega),show 40-i=(39-i)+1 by omega,List.take_succ_cons]
    have hidx:Wb 0 T=i:=by
     rw [hTe,Kerb.indexOf_append h0];simp;omega
    refine ⟨_,rfl,i,_,_,0,rfl,.inr (.inl ⟨rfl,hidx,?_,rfl,rfl⟩)⟩
    rw [hTi,hR,show (pos+(i:Int)).toNat=pos.toNat+i by omega,List.drop_take,show pos.toNat+i-pos.toNat=i by omega]
   ·rw [sel_neg (beq_eq_false_iff_ne.2 hz),wrap_i64 (by omega) (by omega)]
    refine ⟨_,rfl,i+1,rfl,⟨by omega,by omega,?_⟩,by dsimp only;omega⟩
    rw [Kerb.take_succ_getD hiR]
    simp only [List.mem_append,List.mem_singleton,not_or]
    exact ⟨h0,fun e=>hz e.symm⟩
  ·rintro ⟨e,l⟩ ⟨i,v,nx,er,rfl,⟨rfl,rfl,rfl,rfl,g1,g2⟩ | ⟨rfl,g1,rfl,rfl,rfl⟩ | ⟨rfl,g1,g2⟩⟩
   ·simp only [A0]
    rw [if_neg (by omega),if_neg g2]
   ·simp only [A0]
    rw [if_pos (by omega),g1,Zn]
   ·simp only [A0]
    rw [if_neg (by omega),if_pos g2,sel_pos (Yw _)]
 ·cases h
theorem w165:Walked Tryz.prog G 165 1 sp165:=by
 refine ⟨Tryz.f165,Tryz.func165,by decide +kernel,rfl,fun xs bl r h=> ?_⟩
 unfold sp165 at h
 split at h
 ·rename_i b pos n
  obtain ⟨hpre,h2⟩:=chk_inv h;cases h2
  refine Eq.trans (b:=(sel (decide (pos<0)) (some (Yx [Yz [],Zz .i64 0,Zz .i64 104],[])) (sel (decide (pos>(↑(Zx b):Int))) (some (Yx [Yz [],Zz .i64 0,Zz .i64 104],[])) (sel (decide (n<0)) (some (Yx [Yz [],Zz .i64 0,Zz .i64 104],[])) (sel (decide (n>Zy .i64 ((↑(Zx b):Int)-pos))) (some (Yx [Yz [],Zz .i64 0,Zz .i64 101],[])) (chk (decide (0≤pos)&&decide (pos≤Zy .i64 (pos+n))&&decide (Zy .i64 (pos+n)≤(↑(Zx b):Int))) (chk (room (Zx (List.drop (Zq pos) (List.take (Zq (Zy .i64 (pos+n))) b))) 1) (some (Yx [Yz (List.drop (Zq pos) (List.take (Zq (Zy .i64 (pos+n))) b)),Zz .i64 (Zy .i64 (pos+n)),Zz .i64 0],[]))))))):Option (AV×Blocks))) (by kernel_rfl) ?_
  have hb:=of_decide_eq_true hpre
  unfold Wq
  by_cases h1:pos<0
  ·have e:Xu b pos n=104:=by unfold Xu;rw [if_pos (by omega)]
   rw [sel_pos (by simpa using h1),e]
   rfl
  rw [sel_neg (by simpa using h1)]
  by_cases h2:(b.length:Int)<pos
  ·have e:Xu b pos n=104:=by unfold Xu;rw [if_pos (by omega)]
   rw [sel_pos (by simpa using h2),e]
   rfl
  rw [sel_neg (by simpa using h2)]
  by_cases h3:n<0
  ·have e:Xu b pos n=104:=by unfold Xu;rw [if_pos (by omega)]
   rw [sel_pos (by simpa using h3),e]
   rfl
  rw [sel_neg (by simpa using h3),wrap_i64 (n:=(b.length:Int)-pos) (by omega) (by omega)]
  by_cases h4:(b.length:Int)-pos<n
  ·have e:Xu b pos n=101:=by unfold Xu;rw [if_neg (by omega),if_pos h4]
   rw [sel_pos (by simpa using h4),e]
   rfl
  have hr:Xu b pos n=0:=Kerb.room_zero.2 (by omega)
  have e:List.drop (Zq pos) (List.take (Zq (pos+n)) b)=Kerb.cut b pos n:=by
   rw [show Zq (pos+n)=pos.toNat+n.toNat by omega,List.drop_take,show pos.toNat+n.toNat-pos.toNat=n.toNat by omega]
   rfl
  have hc:=Kerb.cut_length hr
  rw [sel_neg (by simpa using h4),if_pos hr,wrap_i64 (by omega) (by omega),e,chk_of (by simp;omega),chk_of (Xb (by omega))]
 ·cases h
theorem w167:Walked Tryz.prog G 167 1 sp167:=by
 refine ⟨Tryz.f167,Tryz.func167,by decide +kernel,rfl,fun xs bl r h=> ?_⟩
 unfold sp167 at h
 split at h
 ·rename_i s bad
  obtain ⟨hpre,h2⟩:=chk_inv h;cases h2
  refine Eq.trans (b:=(Zp (loopM (fun (st:List AV)=>cStr st fun b r=>cStr r fun b_1 r=>cBool r fun b_2 r=>cInt .i64 r fun n r=>let t0:Int:=(↑(Yk (Zf b (Zq n) (0:UInt8))):Int);let t1:Option (List AV ⊕ Ex×List AV):=some (Yp (Ex.ret,[Zv b,Zv b_1,Zu false,Zz .i64 n]));onNil r (sel (decide (n<(↑(Zx b):Int))) (chk (decide (0≤n)&&decide (n<(↑(Zx b):Int))) (sel (decide (t0<(↑(Yk (33:UInt8)):Int))) t1 (chk (decide (0≤n)&&decide (n<(↑(Zx b):Int))) (sel (decide (t0>(↑(Yk (126:UInt8)):Int))) t1 (Zp (loopM (fun (st:List AV)=>cStr st fun b r=>cStr r fun b_3 r=>cBool r fun b_4 r=>cInt .i64 r fun n r=>cInt .i64 r fun n_1 r=>onNil r (sel (decide (n_1<(↑(Zx b_3):Int))) (chk (decide (0≤n)&&decide (n<(↑(Zx b):Int))) (chk (decide (0≤n_1)&&decide (n_1<(↑(Zx b_3):Int))) (sel (Zf b (Zq n) (0:UInt8)==Zf b_3 (Zq n_1) (0:UInt8)) (some (Yp (Ex.ret,[Zv b,Zv b_3,Zu false,Zz .i64 n,Zz .i64 n_1]))) (some (Yf [Zv b,Zv b_3,Zu b_4,Zz .i64 n,Zz .i64 (Zy .i64 (n_1+1))]))))) (some (Yp (Yj 2,[Zv b,Zv b_3,Zu b_4,Zz .i64 n,Zz .i64 n_1]))))) [Zv b,Zv b_1,Zu b_2,Zz .i64 n,Zz .i64 0]) fun (r:Ex×List AV)=>cStr (Zm r) fun b r_1=>cStr r_1 fun b_3 r_2=>cBool r_2 fun b_4 r_3=>cInt .i64 r_3 fun n r_4=>cInt .i64 r_4 fun n_1 r_5=>onNil r_5 (exK r.1 (some (Yp (Ex.ret,[Zv b,Zv b_3,Zu b_4,Zz .i64 n]))) fun (j:Nat)=>sel (Xj j 2) (some (Yf [Zv b,Zv b_3,Zu b_4,Zz .i64 (Zy .i64 (n+1))])) none)))))) (some (Yp (Yj 0,[Zv b,Zv b_1,Zu b_2,Zz .i64 n]))))) [Zv s,Zv bad,Zu false,Zz .i64 0]) fun (r:Ex×List AV)=>cStr (Zm r) fun b r_1=>cStr r_1 fun b_1 r_2=>cBool r_2 fun b_2 r_3=>cInt .i64 r_3 fun n r_4=>onNil r_4 (exK r.1 (some (Zu b_2,[])) fun (j:Nat)=>sel (Xj j 0) (some (Zu (decide ((↑(Zx b):Int)≤39)),[])) none):Option (AV×Blocks))) (by kernel_rfl) ?_
  try dsimp only [cStr,cBs,cBool,cU8,cInt,cSl,l63]
  simp only [Zk,decide_eq_true_eq] at hpre
  refine loop_rounds (fun i:Nat=>[Zv s,Zv bad,Zu false,Zz Zw (i:Int)]) (fun i=>i≤s.length∧Xq s bad=Xq (s.drop i) bad) (fun i=>s.length-i)
   (fun r=>∃ i:Nat,r.2=[Zv s,Zv bad,Zu false,Zz Zw (i:Int)]∧((r.1 = .ret∧Xq s bad=false)∨(r.1 = .exit 0∧Xq s bad=true))) 0 ⟨Yb _,rfl⟩ rfl ?_ ?_
  ·rintro i ⟨hi,hp⟩
   simp only [A0]
   by_cases hlt:i<s.length
   ·have hc:(decide ((0:Int)≤(i:Int))&&decide ((i:Int)<(s.length:Int)))=true:=by simp;omega
    have hd:=Kerb.drop_all_cons hlt
    rw [sel_pos (by simp;omega),chk_of hc,Zn]
    have hpr:Xq (s.drop i) bad=(Kerb.okB bad (s.getD i 0)&&Xq (s.drop (i+1)) bad):=by rw [hd];rfl
    generalize hcc:s.getD i 0=c at *
    by_cases h1:c.toNat<33
    ·rw [sel_pos (by simp;omega)]
     exact ⟨_,rfl,i,rfl,.inl ⟨rfl,by rw [hp,hpr];simp [Kerb.okB,h1]⟩⟩
    rw [sel_neg (by simp;omega),chk_of hc]
    by_cases h2:126<c.toNat
    ·rw [sel_pos (by simp;omega)]
     exact ⟨_,rfl,i,rfl,.inl ⟨rfl,by rw [hp,hpr];simp [Kerb.okB,h2]⟩⟩
    rw [sel_neg (by simp;omega)]
    refine loop_ex (fun j:Nat=>[Zv s,Zv bad,Zu false,Zz Zw (i:Int),Zz Zw (j:Int)]) (fun j=>j≤bad.length∧(c∈bad↔c∈bad.drop j)) (fun j=>bad.length-j)
     (fun r=>∃ j:Nat,r.2=[Zv s,Zv bad,Zu false,Zz Zw (i:Int),Zz Zw (j:Int)]∧((r.1 = .ret∧c∈bad)∨(r.1 = .exit 2∧c ∉ bad))) 0 ⟨Yb _,by simp⟩ rfl ?_ ?_
    ·rintro j ⟨hj,hm⟩
     simp only [A0]
     by_cases hjl:j<bad.length
     ·have hdj:=Kerb.drop_all_cons hjl
      rw [sel_pos (by simp;omega),chk_of hc,chk_of (by simp;omega),Zn,Zn,hcc]
      rw [hdj,List.mem_cons] at hm
      by_cases h3:c=bad.getD j 0
      ·rw [sel_pos (by simpa using h3)]
       exact ⟨_,rfl,j,rfl,.inl ⟨rfl,hm.2 (.inl h3)⟩⟩
      ·rw [sel_neg (by simpa using h3),wrap_i64 (by omega) (by omega)]
       exact ⟨_,rfl,j+1,rfl,⟨by omega,hm.trans ⟨fun h=>h.resolve_left h3,.inr⟩⟩,by dsimp only;omega⟩
     ·rw [sel_neg (by simp;omega)]
      refine ⟨_,rfl,j,rfl,.inr ⟨rfl,?_⟩⟩
      rw [hm,Xv (by omega)];simp
    ·rintro ⟨e,l⟩ ⟨j,rfl,⟨rfl,h3⟩ | ⟨rfl,h3⟩⟩
     ·simp only [A0]
      exact ⟨_,rfl,i,rfl,.inl ⟨rfl,by rw [hp,hpr];simp [Kerb.okB,h3]⟩⟩
     ·simp only [A0]
      rw [sel_pos (Yw _),wrap_i64 (by omega) (by omega)]
      exact ⟨_,rfl,i+1,rfl,⟨by omega,by rw [hp,hpr];simp [Kerb.okB,h1,h2,h3]⟩,by dsimp only;omega⟩
   ·rw [sel_neg (by simp;omega)]
    exact ⟨_,rfl,i,rfl,.inr ⟨rfl,by rw [hp,Xv (by omega)];rfl⟩⟩
  ·rintro ⟨e,l⟩ ⟨i,rfl,⟨rfl,hp⟩ | ⟨rfl,hp⟩⟩
   ·simp only [A0,hp]
    rfl
   ·simp only [A0,hp]
    rw [sel_pos (Yw _),decide_eq_decide.2 (show ((s.length:Int)≤39)↔s.length≤39 from by omega)]
    rfl
 ·cases h
theorem w168:Walked Tryz.prog G 168 1 sp168:=by
 refine ⟨Tryz.f168,Tryz.func168,by decide +kernel,rfl,fun xs bl r h=> ?_⟩
 unfold sp168 at h
 split at h
 ·rename_i n m
  cases h
  refine Eq.trans (b:=(sel (decide (n≥0)) (some (Zu (decide (n≤m)),[])) (some (Zu false,[])):Option (AV×Blocks))) (by kernel_rfl) ?_
  by_cases h:0≤n<;>simp [sel,Zd,h]
 ·cases h
theorem w172:Walked Tryz.prog G 172 1 sp172:=by
 refine ⟨Tryz.f172,Tryz.func172,by decide +kernel,rfl,fun xs bl r h=> ?_⟩
 unfold sp172 at h
 split at h
 ·rename_i n m
  cases h
  refine Eq.trans (b:=(sel (decide (n≥0)) (some (Zu (decide (n≤m)),[])) (some (Zu false,[])):Option (AV×Blocks))) (by kernel_rfl) ?_
  by_cases h:0≤n<;>simp [sel,Zd,h]
 ·cases h
theorem w173:Walked Tryz.prog G 173 1 sp173:=by
 refine ⟨Tryz.f173,Tryz.func173,by decide +kernel,rfl,fun xs bl r h=> ?_⟩
 unfold sp173 at h
 split at h
 ·rename_i els x y z
  obtain ⟨hpre,h2⟩:=chk_inv h;cases h2
  refine Eq.trans (b:=(Zp (loopM (fun (st:List AV)=>cSl 8 st fun b r=>cStr r fun b_1 r=>cStr r fun b_2 r=>cStr r fun b_3 r=>cInt .i64 r fun n r=>cSl 8 r fun b_4 r=>cInt .i64 r fun n_1 r=>cInt .i64 r fun n_2 r=>onNil r (sel (decide (n_2<n_1)) (chk (decide (0≤n_2)&&decide (n_2<(↑(Zx b_4):Int))&&true) (Wx (Zf b_4 (Zq n_2) Yd) fun cs=>cStr cs fun b_5 r=>cStr r fun b_6 r=>cStr r fun b_7 r=>cInt .u64 r fun n_3 r=>cInt .i64 r fun n_4 r=>cInt .i64 r fun n_5 r=>cInt .i64 r fun n_6 r=>cBs r fun b_8 r=>onNil r (sel (b_5==b_1&&(b_6==b_2&&b_7==b_3)) (some (Yp (Ex.ret,[Zg 8 b,Zv b_1,Zv b_2,Zv b_3,Zz .i64 n_2,Zg 8 b_4,Zz .i64 n_1,Zz .i64 n_2]))) (some (Yf [Zg 8 b,Zv b_1,Zv b_2,Zv b_3,Zz .i64 n,Zg 8 b_4,Zz .i64 n_1,Zz .i64 (Zy .i64 (n_2+1))]))))) (some (Yp (Yj 0,[Zg 8 b,Zv b_1,Zv b_2,Zv b_3,Zz .i64 n,Zg 8 b_4,Zz .i64 n_1,Zz .i64 n_2]))))) [Zg 8 els,Zv x,Zv y,Zv z,Zz .i64 0,Zg 8 els,Zz .i64 (↑(Zx els):Int),Zz .i64 0]) fun (r:Ex×List AV)=>cSl 8 (Zm r) fun b r_1=>cStr r_1 fun b_1 r_2=>cStr r_2 fun b_2 r_3=>cStr r_3 fun b_3 r_4=>cInt .i64 r_4 fun n r_5=>cSl 8 r_5 fun b_4 r_6=>cInt .i64 r_6 fun n_1 r_7=>cInt .i64 r_7 fun n_2 r_8=>onNil r_8 (exK r.1 (some (Zz .i64 n,[])) fun (j:Nat)=>sel (Xj j 0) (some (Zz .i64 (↑(Zx b):Int),[])) none):Option (AV×Blocks))) (by kernel_rfl) ?_
  try dsimp only [cStr,cBs,cBool,cU8,cInt,cSl,l63]
  simp only [Zk,decide_eq_true_eq] at hpre
  obtain ⟨hall,hlen⟩:=hpre
  obtain ⟨cs,rfl,hok⟩:=Kerb.creds_of hall
  rw [Kerb.map_toCred]
  simp only [Yy] at hlen ⊢
  refine loop_rounds (fun i:Nat=>[Zg 8 (cs.map Yu),Zv x,Zv y,Zv z,Zz Zw 0,Zg 8 (cs.map Yu),Zz Zw (cs.length:Int),Zz Zw (i:Int)]) (fun i=>i≤cs.length∧Yh cs ⟨x,y,z⟩=i+Yh (cs.drop i) ⟨x,y,z⟩) (fun i=>cs.length-i)
   (fun r=>∃ (i:Nat) (n:Int),r.2=[Zg 8 (cs.map Yu),Zv x,Zv y,Zv z,Zz Zw n,Zg 8 (cs.map Yu),Zz Zw (cs.length:Int),Zz Zw (i:Int)]∧((r.1 = .ret∧n=(Yh cs ⟨x,y,z⟩:Nat))∨(r.1 = .exit 0∧Yh cs ⟨x,y,z⟩=cs.length))) 0 ⟨Yb _,by simp⟩ rfl ?_ ?_
  ·rintro i ⟨hi,hp⟩
   simp only [A0,Xw,Xk,Yu]
   by_cases hlt:i<cs.length
   ·rw [sel_pos (by simp;omega),chk_of (by simp;omega),Zn,Kerb.getD_av hlt]
    have hd:=Kerb.drop_cred hlt
    generalize cs.getD i Kerb.noCred=c at hd
    simp only [Yu,A0,Xw,Xk,Yu]
    show ∃ q,sel (Kerb.Prin.eqb c.service ⟨x,y,z⟩) _ _=some q∧_
    cases he:Kerb.Prin.eqb c.service ⟨x,y,z⟩
    ·rw [sel_false,wrap_i64 (by omega) (by omega)]
     refine ⟨_,rfl,i+1,rfl,⟨by omega,?_⟩,by dsimp only;omega⟩
     rw [hp,hd]
     simp only [Yh,Wn,he,cond_false]
     omega
    ·rw [sel_true]
     refine ⟨_,rfl,i,_,rfl,.inl ⟨rfl,?_⟩⟩
     rw [hp,hd]
     simp only [Yh,Wn,he,cond_true]
     omega
   ·rw [sel_neg (by simp;omega)]
    refine ⟨_,rfl,i,_,rfl,.inr ⟨rfl,?_⟩⟩
    rw [hp,Xv (by omega)]
    simp [Yh];omega
  ·rintro ⟨e,l⟩ ⟨i,n,rfl,⟨rfl,h⟩ | ⟨rfl,h⟩⟩
   ·simp only [A0,Xw,Xk,Yu,h]
   ·simp only [A0,Xw,Xk,Yu,h,Yy]
    rw [sel_pos (Yw _)]
 ·cases h
theorem w174:Walked Tryz.prog G 174 1 sp174:=by
 refine ⟨Tryz.f174,Tryz.func174,by decide +kernel,rfl,fun xs bl r h=> ?_⟩
 unfold sp174 at h
 split at h
 ·rename_i k
  cases h
  refine Eq.trans (b:=(sel (k==1) (some (Zu true,[])) (some (Zu (k==2),[])):Option (AV×Blocks))) (by kernel_rfl) ?_
  unfold Wg
  cases (k==(1:Int))<;>rfl
 ·cases h
theorem w175:Walked Tryz.prog G 175 1 sp175:=by
 refine ⟨Tryz.f175,Tryz.func175,by decide +kernel,rfl,fun xs bl r h=> ?_⟩
 unfold sp175 at h
 split at h
 ·rename_i k
  cases h
  refine Eq.trans (b:=(sel (decide (k≥1)) (some (Zu (decide (k≤4294967295)),[])) (some (Zu false,[])):Option (AV×Blocks))) (by kernel_rfl) ?_
  by_cases h:1≤k<;>simp [sel,Wp,h]
 ·cases h
theorem w176:Walked Tryz.prog G 176 1 sp176:=by
 refine ⟨Tryz.f176,Tryz.func176,by decide +kernel,rfl,fun xs bl r h=> ?_⟩
 unfold sp176 at h
 split at h
 ·rename_i n
  cases h
  refine Eq.trans (b:=(sel (decide (n≥0)) (some (Zu (decide (n≤4294967295)),[])) (some (Zu false,[])):Option (AV×Blocks))) (by kernel_rfl) ?_
  by_cases h:0≤n<;>simp [sel,Zd,h]
 ·cases h
theorem w177:Walked Tryz.prog G 177 1 sp177:=by
 refine ⟨Tryz.f177,Tryz.func177,by decide +kernel,rfl,fun xs bl r h=> ?_⟩
 unfold sp177 at h
 split at h
 ·rename_i n
  cases h
  refine Eq.trans (b:=(sel (decide (n≥0)) (some (Zu (decide (n≤255)),[])) (some (Zu false,[])):Option (AV×Blocks))) (by kernel_rfl) ?_
  by_cases h:0≤n<;>simp [sel,Zd,h]
 ·cases h
theorem w180:Walked Tryz.prog G 180 1 sp180:=by
 refine ⟨Tryz.f180,Tryz.func180,by decide +kernel,rfl,fun xs bl r h=> ?_⟩
 unfold sp180 at h
 split at h
 ·rename_i l
  cases h
  refine Eq.trans (b:=(sel (l==[(103:UInt8),(84:UInt8),(71:UInt8),(83:UInt8)]) (some (Zu true,[])) (some (Zu (l==[(103:UInt8),(84:UInt8),(75:UInt8),(84:UInt8)]),[])):Option (AV×Blocks))) (by kernel_rfl) ?_
  unfold Kerb.timed
  show sel (l==Kerb.lGet) _ (some (Zu (l==Kerb.lTicket),[]))=_
  cases (l==Kerb.lGet)<;>rfl
 ·cases h
theorem w181:Walked Tryz.prog G 181 1 sp181:=by
 refine ⟨Tryz.f181,Tryz.func181,by decide +kernel,rfl,fun xs bl r h=> ?_⟩
 unfold sp181 at h
 split at h
 ·rename_i k
  obtain ⟨hpre,h2⟩:=chk_inv h;cases h2
  refine Eq.trans (b:=(Zp (loopM (fun (st:List AV)=>cInt .u64 st fun n r=>onCons r fun x r=>Wy x fun b=>cInt .i64 r fun n_1 r=>cInt .i64 r fun n_2 r=>let t0:Int:=Zy .i64 (8*Zy .i64 (7-n_2));onNil r (sel (decide (n_2<n_1)) (chk (decide (0≤t0)) (chk (decide (0≤n_2)&&decide (n_2<(↑(Zx b):Int))) (chk (Nat.blt (Zq n_2) (Zx b)&&true&&true&&true&&true) (some (Yf [Zz .u64 n,Yq (List.set b (Zq n_2) (Ym (Zq (Zy .u8 (Int.fdiv n (2 ^ min (Zq t0) (Zj .u64))))))),Zz .i64 n_1,Zz .i64 (Zy .i64 (n_2+1))]))))) (some (Yp (Yj 0,[Zz .u64 n,Yq b,Zz .i64 n_1,Zz .i64 n_2]))))) [Zz .u64 k,Yq (List.replicate (Zq 8) (0:UInt8)),Zz .i64 (↑(Zx (List.replicate (Zq 8) (0:UInt8))):Int),Zz .i64 0]) fun (r:Ex×List AV)=>cInt .u64 (Zm r) fun n r_1=>onCons r_1 fun x r_2=>Wy x fun b=>cInt .i64 r_2 fun n r_3=>cInt .i64 r_3 fun n r_4=>onNil r_4 (exK r.1 none fun (j:Nat)=>sel (Xj j 0) (some (Yz b,[])) none):Option (AV×Blocks))) (by kernel_rfl) ?_
  try dsimp only [cStr,cBs,cBool,cU8,cInt,cSl,l63]
  refine loop_unroll 9 (Yj 0,[Zz Yg k,Yq [Xn k 56,Xn k 48,Xn k 40,Xn k 32,Xn k 24,Xn k 16,Xn k 8,Xn k 0],Zz Zw 8,Zz Zw 8]) (by kernel_rfl) ?_
  simp only [A0]
  rw [sel_pos (Yw _)]
  simp [Kerb.bfd_eq,Kerb.keyBytes,Kerb.byteAt,List.range_succ]
 ·cases h
theorem w183:Walked Tryz.prog G 183 1 sp183:=by
 refine ⟨Tryz.f183,Tryz.func183,by decide +kernel,rfl,fun xs bl r h=> ?_⟩
 unfold sp183 at h
 split at h
 ·rename_i k
  cases h
  refine Eq.trans (b:=(sel (decide (k≥1)) (some (Zu (decide (k≤10)),[])) (some (Zu false,[])):Option (AV×Blocks))) (by kernel_rfl) ?_
  by_cases h:1≤k<;>simp [sel,Wv,h]
 ·cases h
theorem w192:Walked Tryz.prog G 192 1 sp192:=by
 refine ⟨Tryz.f192,Tryz.func192,by decide +kernel,rfl,fun xs bl r h=> ?_⟩
 unfold sp192 at h
 split at h
 ·rename_i n
  cases h
  refine Eq.trans (b:=(sel (decide (n≥0)) (some (Zu (decide (n≤4294967295)),[])) (some (Zu false,[])):Option (AV×Blocks))) (by kernel_rfl) ?_
  by_cases h:0≤n<;>simp [sel,Zd,h]
 ·cases h
theorem w193:Walked Tryz.prog G 193 1 sp193:=by
 refine ⟨Tryz.f193,Tryz.func193,by decide +kernel,rfl,fun xs bl r h=> ?_⟩
 unfold sp193 at h
 split at h
 ·rename_i xls a b
  obtain ⟨hpre,h2⟩:=chk_inv h;cases h2
  refine Eq.trans (b:=(Zp (loopM (fun (st:List AV)=>cSl 4 st fun b r=>cStr r fun b_1 r=>cStr r fun b_2 r=>cInt .i64 r fun n r=>cInt .i64 r fun n_1 r=>let t0:Option (List AV ⊕ Ex×List AV):=some (Yf [Zg 4 b,Zv b_1,Zv b_2,Zz .i64 n,Zz .i64 (Zy .i64 (n_1+1))]);let t1:Bool:=decide (0≤n_1)&&decide (n_1<(↑(Zx b):Int))&&true;let t2:Option (List AV ⊕ Ex×List AV):=some (Yf [Zg 4 b,Zv b_1,Zv b_2,Zz .i64 n_1,Zz .i64 (Zy .i64 (n_1+1))]);onNil r (sel (decide (n_1<(↑(Zx b):Int))) (chk t1 (Wx (Zf b (Zq n_1) Yd) fun cs=>cStr cs fun b_3 r=>cStr r fun b_4 r=>cInt .i64 r fun n_2 r=>cInt .u64 r fun n_3 r=>onNil r (sel (b_3==b_1) (chk t1 (Wx (Zf b (Zq n_1) Yd) fun cs=>cStr cs fun b_5 r=>cStr r fun b_6 r=>cInt .i64 r fun n_4 r=>cInt .u64 r fun n_5 r=>onNil r (sel (b_6==b_2) (sel (decide (n<0)) t2 (chk t1 (Wx (Zf b (Zq n_1) Yd) fun cs=>cStr cs fun b_7 r=>cStr r fun b_8 r=>cInt .i64 r fun n_6 r=>cInt .u64 r fun n_7 r=>onNil r (chk (decide (0≤n)&&decide (n<(↑(Zx b):Int))&&true) (Wx (Zf b (Zq n) Yd) fun cs=>cStr cs fun b r=>cStr r fun b r=>cInt .i64 r fun n r=>cInt .u64 r fun n_8 r=>onNil r (sel (decide (n_6>n)) t2 t0)))))) t0))) t0))) (some (Yp (Yj 0,[Zg 4 b,Zv b_1,Zv b_2,Zz .i64 n,Zz .i64 n_1]))))) [Zg 4 xls,Zv a,Zv b,Zz .i64 (-1:Int),Zz .i64 0]) fun (r:Ex×List AV)=>cSl 4 (Zm r) fun b r_1=>cStr r_1 fun b r_2=>cStr r_2 fun b r_3=>cInt .i64 r_3 fun n r_4=>cInt .i64 r_4 fun n_1 r_5=>onNil r_5 (exK r.1 none fun (j:Nat)=>sel (Xj j 0) (sel (decide (n<0)) (some (Yx [Zz .i64 0,Zu false],[])) (some (Yx [Zz .i64 n,Zu true],[]))) none):Option (AV×Blocks))) (by kernel_rfl) ?_
  try dsimp only [cStr,cBs,cBool,cU8,cInt,cSl,l63]
  simp only [Zk,decide_eq_true_eq] at hpre
  obtain ⟨hall,hlen⟩:=hpre
  obtain ⟨cs,rfl⟩:=Kerb.cross_of hall
  rw [Kerb.map_toCross,Kerb.find_crossR]
  simp only [Yy] at hlen ⊢
  refine loop_rounds (fun q:Nat×Int=>[Zg 4 (cs.map Wz),Zv a,Zv b,Zz Zw q.2,Zz Zw (q.1:Int)])
   (fun q=>q.1≤cs.length∧q.2=Kerb.crossI (Wu cs a b q.1)) (fun q=>cs.length-q.1)
   (fun r=>r=(Yj 0,[Zg 4 (cs.map Wz),Zv a,Zv b,Zz Zw (Kerb.crossI (Wu cs a b cs.length)),Zz Zw (cs.length:Int)])) (0,-1) ⟨Yb _,rfl⟩ rfl ?_ ?_
  ·rintro ⟨j,c⟩ ⟨hj,hinv⟩
   simp only at hj hinv
   simp only [↓A0,A0,Yy]
   rcases Nat.lt_or_ge j cs.length with h | h
   ·obtain ⟨x,hx⟩:∃ x,cs.getD j Kerb.noCross=x:=⟨_,rfl⟩
    have hs:=Kerb.cross_step cs a b j hx
    have hk1:(decide ((0:Int)≤(j:Int))&&decide ((j:Int)<(cs.length:Int))&&true)=true:=by simp;omega
    have hg:(List.map Wz cs).getD j Yd=x.av:=by rw [Kerb.getD_cross h,hx]
    rw [sel_pos (by simp;omega)]
    simp only [hk1,Zn,hg,Wz,↓A0,A0]
    rw [wrap_i64 (by omega) (by omega)]
    have keep:Wu cs a b (j+1)=Wu cs a b j→Round (fun q:Nat×Int=>[Zg 4 (cs.map Wz),Zv a,Zv b,Zz Zw q.2,Zz Zw (q.1:Int)]) (fun q=>q.1≤cs.length∧q.2=Kerb.crossI (Wu cs a b q.1)) (fun q=>cs.length-q.1) (fun r=>r=(Yj 0,[Zg 4 (cs.map Wz),Zv a,Zv b,Zz Zw (Kerb.crossI (Wu cs a b cs.length)),Zz Zw (cs.length:Int)])) (j,c) (Yf [Zg 4 (cs.map Wz),Zv a,Zv b,Zz Zw c,Zz Zw ((j:Int)+1)]):=fun e =>
     ⟨(j+1,c),rfl,⟨by simp only;omega,by simp only;rw [e];exact hinv⟩,by simp only;omega⟩
    by_cases h1:x.source=a
    case neg =>
     rw [sel_neg (by simpa using h1)]
     rw [show (x.source==a)=false from by simpa using h1,Bool.false_and,cond_false] at hs
     exact ⟨_,rfl,keep hs⟩
    rw [sel_pos (by simp [h1])]
    rw [show (x.source==a)=true from by simpa using h1,Bool.true_and] at hs
    by_cases h2:x.target=b
    case neg =>
     rw [sel_neg (by simpa using h2)]
     rw [show (x.target==b)=false from by simpa using h2,Bool.false_and,cond_false] at hs
     exact ⟨_,rfl,keep hs⟩
    rw [sel_pos (by simp [h2])]
    rw [show (x.target==b)=true from by simpa using h2,Bool.true_and] at hs
    cases hc:Wu cs a b j with
    | none =>
     rw [hc] at hs hinv
     subst hinv
     rw [sel_pos (by simp [Kerb.crossI])]
     exact ⟨_,rfl,(j+1,(j:Int)),rfl,⟨by simp only;omega,by simp only;rw [hs];rfl⟩,by simp only;omega⟩
    | some k =>
     rw [hc] at hs hinv
     have hk:=Kerb.crossAt_lt hc
     have hck:c=(k:Int):=hinv
     rw [sel_neg (by simp;omega),chk_of (by simp;omega)]
     rw [hck,Zn,Kerb.getD_cross (by omega),← hck]
     simp only [Wz,↓A0,A0]
     dsimp only at hs
     by_cases h3:(cs.getD k Kerb.noCross).kvno<x.kvno
     ·rw [sel_pos (by simpa using h3)]
      rw [show decide ((cs.getD k Kerb.noCross).kvno<x.kvno)=true from by simpa using h3,cond_true] at hs
      exact ⟨_,rfl,(j+1,(j:Int)),rfl,⟨by simp only;omega,by simp only;rw [hs];rfl⟩,by simp only;omega⟩
     ·rw [sel_neg (by simpa using h3)]
      rw [show decide ((cs.getD k Kerb.noCross).kvno<x.kvno)=false from by simpa using h3,cond_false] at hs
      exact ⟨_,rfl,keep (hs.trans hc.symm)⟩
   ·rw [sel_neg (by simp;omega)]
    have hj2:j=cs.length:=by omega
    subst hj2
    rw [hinv]
    exact ⟨_,rfl,rfl⟩
  ·rintro _ rfl
   simp only [↓A0,A0]
   rw [sel_pos (Yw _)]
   cases Wu cs a b cs.length with
   | none=>rfl
   | some k=>exact sel_neg (decide_eq_false (Int.not_lt.2 (Int.natCast_nonneg k))) _ _
 ·cases h
theorem w195:Walked Tryz.prog G 195 1 sp195:=by
 refine ⟨Tryz.f195,Tryz.func195,by decide +kernel,rfl,fun xs bl r h=> ?_⟩
 unfold sp195 at h
 split at h
 ·rename_i rl els i en ei ek ev ex em ea ef et
  obtain ⟨hpre,h2⟩:=chk_inv h;cases h2
  refine Eq.trans (b:=(let t0:List AV:=[Zv en,Zv ei,Zz .u64 ek,Zz .i64 ev,Zz .i64 ex,Zz .i64 em,Zz .i64 ea,Zz .i64 ef,Zz .i64 et];chk (room (Zx els) (nat_lit 88)) (chk (decide (0≤i)&&decide (i<(↑(Zx els):Int))&&true) (chk (Nat.blt (Zq i) (Zx els)&&true&&true) (Wx (Zf els (Zq i) Yd) fun cs=>cStr cs fun b r=>cStr r fun b r=>cInt .u64 r fun n r=>cInt .i64 r fun n r=>cInt .i64 r fun n r=>cInt .i64 r fun n r=>cInt .i64 r fun n r=>cInt .i64 r fun n r=>cInt .i64 r fun n r=>onNil r (chk (Zx t0==nat_lit 9&&true&&true&&true&&Nat.blt (Zq i) (Zx els)) (some (Xd [Zv rl,Zg 9 (List.set els (Zq i) (Xd t0))],[])))))):Option (AV×Blocks))) (by kernel_rfl) ?_
  try dsimp only [cStr,cBs,cBool,cU8,cInt,cSl,l63]
  simp only [Zk,decide_eq_true_eq] at hpre
  obtain ⟨⟨⟨hall,hlen⟩,h0⟩,h1⟩:=hpre
  obtain ⟨es,rfl,hok⟩:=Kerb.ents_of hall
  rw [Wk]
  simp only [Yy] at hlen h1
  have hj:i.toNat<es.length:=by omega
  rw [chk_of (Kerb.room_ok2 (by simp;omega))]
  try simp only [Yy]
  have hb:Nat.blt i.toNat es.length=true:=by simp [hj]
  rw [chk_of (by simp;omega),chk_of (by rw [hb];rfl),Wm hj]
  simp only [Xx,↓A0,A0]
  rw [chk_of (by rw [hb];rfl)]
  show some _=some _
  unfold Kerb.setEnt
  dsimp only
  rw [← Kerb.set_ent]
  rfl
 ·cases h
theorem w197:Walked Tryz.prog G 197 1 sp197:=by
 refine ⟨Tryz.f197,Tryz.func197,by decide +kernel,rfl,fun xs bl r h=> ?_⟩
 unfold sp197 at h
 split at h
 ·rename_i k els
  obtain ⟨hpre,h2⟩:=chk_inv h;cases h2
  refine Eq.trans (b:=(Zp (loopM (fun (st:List AV)=>cInt .i64 st fun n r=>cBool r fun b r=>cSl 1 r fun b_1 r=>cInt .i64 r fun n_1 r=>cInt .i64 r fun n_2 r=>onNil r (sel (decide (n_2<n_1)) (chk (decide (0≤n_2)&&decide (n_2<(↑(Zx b_1):Int))&&true) (Xp .i64 (Zf b_1 (Zq n_2) Yd) fun n_3=>sel (n_3==n) (some (Yp (Ex.ret,[Zz .i64 n,Zu true,Zg 1 b_1,Zz .i64 n_1,Zz .i64 n_2]))) (some (Yf [Zz .i64 n,Zu b,Zg 1 b_1,Zz .i64 n_1,Zz .i64 (Zy .i64 (n_2+1))])))) (some (Yp (Yj 0,[Zz .i64 n,Zu b,Zg 1 b_1,Zz .i64 n_1,Zz .i64 n_2]))))) [Zz .i64 k,Zu false,Zg 1 els,Zz .i64 (↑(Zx els):Int),Zz .i64 0]) fun (r:Ex×List AV)=>cInt .i64 (Zm r) fun n r_1=>cBool r_1 fun b r_2=>cSl 1 r_2 fun b_1 r_3=>cInt .i64 r_3 fun n r_4=>cInt .i64 r_4 fun n r_5=>onNil r_5 (exK r.1 (some (Zu b,[])) fun (j:Nat)=>sel (Xj j 0) (some (Zu false,[])) none):Option (AV×Blocks))) (by kernel_rfl) ?_
  try dsimp only [cStr,cBs,cBool,cU8,cInt,cSl,l63]
  simp only [Zk,decide_eq_true_eq] at hpre
  obtain ⟨ha,hl⟩:=hpre
  have hil:=Kerb.ints_len ha
  refine loop_rounds (fun i:Nat=>[Zz Zw k,Zu false,Zg 1 els,Zz Zw (els.length:Int),Zz Zw (i:Int)]) (fun i=>i≤els.length∧(k∈intsIn els↔k∈(intsIn els).drop i)) (fun i=>els.length-i)
   (fun r=>∃ (i:Nat) (x:Bool),r.2=[Zz Zw k,Zu x,Zg 1 els,Zz Zw (els.length:Int),Zz Zw (i:Int)]∧((r.1 = .ret∧x=true∧k∈intsIn els)∨(r.1 = .exit 0∧k ∉ intsIn els))) 0 ⟨Yb _,by simp⟩ rfl ?_ ?_
  ·rintro i ⟨hi,hm⟩
   simp only [A0]
   by_cases hlt:i<els.length
   ·obtain ⟨n,h1,h2⟩:=Kerb.ints_get ha hlt
    rw [sel_pos (by simp;omega),chk_of (by simp;omega),Zn,h1,onInt_int]
    rw [h2,List.mem_cons] at hm
    by_cases h3:n=k
    ·rw [sel_pos (by simpa using h3)]
     exact ⟨_,rfl,i,true,rfl,.inl ⟨rfl,rfl,hm.2 (.inl h3.symm)⟩⟩
    ·rw [sel_neg (by simpa using h3),wrap_i64 (by omega) (by omega)]
     exact ⟨_,rfl,i+1,rfl,⟨by omega,hm.trans ⟨fun h=>h.resolve_left fun e=>h3 e.symm,.inr⟩⟩,by dsimp only;omega⟩
   ·rw [sel_neg (by simp;omega)]
    refine ⟨_,rfl,i,false,rfl,.inr ⟨rfl,?_⟩⟩
    rw [hm,Xv (by omega)];simp
  ·rintro ⟨e,l⟩ ⟨i,x,rfl,⟨rfl,rfl,h⟩ | ⟨rfl,h⟩⟩
   ·simp [onCons,Xp,AV.onBool,AV.onSl,onNil,exK,h]
   ·simp [onCons,Xp,AV.onBool,AV.onSl,onNil,exK,h,sel]
 ·cases h
theorem w199:Walked Tryz.prog G 199 1 sp199:=by
 refine ⟨Tryz.f199,Tryz.func199,by decide +kernel,rfl,fun xs bl r h=> ?_⟩
 unfold sp199 at h
 split at h
 ·rename_i nx e B at_ bad
  cases h
  show runFnH (G.env 199 1) G.rts (G.own 199) Tryz.f199 _ _ [0]=_
  refine Eq.trans (b:=(sel bad (some (Zu false,[[Yz B,Zz .i64 at_,Zu true]])) (sel (!e==0) (some (Zu false,[[Yz B,Zz .i64 at_,Zu true]])) (some (Zu true,[[Yz B,Zz .i64 nx,Zu bad]]))):Option (AV×Blocks))) (by kernel_rfl) ?_
  cases bad
  ·cases (e==0)<;>rfl
  ·rfl
 ·cases h
theorem w202:Walked Tryz.prog G 202 1 sp202:=by
 refine ⟨Tryz.f202,Tryz.func202,by decide +kernel,rfl,fun xs bl r h=> ?_⟩
 unfold sp202 at h
 split at h
 ·rename_i n
  cases h
  refine Eq.trans (b:=(sel (n==1) (some (Zu true,[])) (sel (n==2) (some (Zu true,[])) (some (Zu (n==3),[]))):Option (AV×Blocks))) (by kernel_rfl) ?_
  unfold Kerb.kaOp
  cases (n==1)
  ·cases (n==2)<;>rfl
  ·rfl
 ·cases h
theorem w203:Walked Tryz.prog G 203 1 sp203:=by
 refine ⟨Tryz.f203,Tryz.func203,by decide +kernel,rfl,fun xs bl r h=> ?_⟩
 unfold sp203 at h
 split at h
 ·rename_i n m
  cases h
  refine Eq.trans (b:=(sel (decide (n≥0)) (some (Zu (decide (n≤m)),[])) (some (Zu false,[])):Option (AV×Blocks))) (by kernel_rfl) ?_
  by_cases h:0≤n<;>simp [sel,Zd,h]
 ·cases h
theorem w206:Walked Tryz.prog G 206 1 sp206:=by
 refine ⟨Tryz.f206,Tryz.func206,by decide +kernel,rfl,fun xs bl r h=> ?_⟩
 unfold sp206 at h
 split at h
 ·rename_i l
  cases h
  refine Eq.trans (b:=(sel (l==[(116:UInt8),(103:UInt8),(115:UInt8),(84:UInt8)]) (some (Zu true,[])) (some (Zu (l==[(116:UInt8),(107:UInt8),(116:UInt8),(71:UInt8)]),[])):Option (AV×Blocks))) (by kernel_rfl) ?_
  unfold Kerb.ticketed
  show sel (l==Kerb.lGot) _ (some (Zu (l==Kerb.lGiven),[]))=_
  cases (l==Kerb.lGot)<;>rfl
 ·cases h
theorem w211:Walked Tryz.prog G 211 1 sp211:=by
 refine ⟨Tryz.f211,Tryz.func211,by decide +kernel,rfl,fun xs bl r h=> ?_⟩
 unfold sp211 at h
 split at h
 ·rename_i c n
  cases h
  refine Eq.trans (b:=(sel (!c==1) (sel (!c==2) (some (Zz .u64 0,[])) (sel (decide (n<1)) (some (Zz .u64 0,[])) (sel (decide (n>4294967295)) (some (Zz .u64 0,[])) (some (Zz .u64 (Zy .u64 (↑(BitVec.toNat (BitVec.ofInt (Zj .u64) (Zy .u64 (Zy .u64 c*2 ^ min (Zq 56) (Zj .u64))) ||| BitVec.ofInt (Zj .u64) (Zy .u64 n))):Int)),[]))))) (sel (decide (n<1)) (some (Zz .u64 0,[])) (sel (decide (n>4294967295)) (some (Zz .u64 0,[])) (some (Zz .u64 (Zy .u64 (↑(BitVec.toNat (BitVec.ofInt (Zj .u64) (Zy .u64 (Zy .u64 c*2 ^ min (Zq 56) (Zj .u64))) ||| BitVec.ofInt (Zj .u64) (Zy .u64 n))):Int)),[])))):Option (AV×Blocks))) (by kernel_rfl) ?_
  unfold Wg Wp
  by_cases hc:c=1∨c=2
  case neg =>
   have q1:(c==(1:Int))=false:=by simp;omega
   have q2:(c==(2:Int))=false:=by simp;omega
   rw [q1,q2]
   rfl
  by_cases hn:1≤n∧n≤4294967295
  case neg =>
   have q:(decide (1≤n)&&decide (n≤4294967295))=false:=by
    rw [Bool.eq_false_iff]
    simp
    omega
   rw [q,Bool.and_false]
   have key:(sel (decide (n<(1:Int))) (some (Zz .u64 (0:Int),([]:Blocks))) (sel (decide (n>(4294967295:Int))) (some (Zz .u64 (0:Int),[])) (some (Zz Yg (Zy Yg ((BitVec.toNat (BitVec.ofInt (Zj Yg) (Zy Yg (Zy Yg c*(2:Int) ^ min (Zq (56:Int)) (Zj Yg))) ||| BitVec.ofInt (Zj Yg) (Zy Yg n)):Nat):Int)),[]))))=some (Zz .u64 0,[]):=by
    by_cases hl:n<1
    ·rw [sel_pos (by simpa using hl)]
    ·rw [sel_neg (by simpa using hl),sel_pos (by simp;omega)]
   rcases hc with rfl | rfl
   ·rw [sel_neg (by decide)];exact key
   ·rw [sel_pos (by decide),sel_neg (by decide)];exact key
  have q:(decide (1≤n)&&decide (n≤4294967295))=true:=by simp;omega
  have q2:(c==(1:Int)||c==(2:Int))=true:=by simpa using hc
  rw [q,q2,Kerb.key_make hc hn.1 hn.2]
  rcases hc with rfl | rfl
  ·rw [sel_neg (by decide),sel_neg (by simp;omega),sel_neg (by simp;omega)]
   rfl
  ·rw [sel_pos (by decide),sel_neg (by decide),sel_neg (by simp;omega),sel_neg (by simp;omega)]
   rfl
 ·cases h
theorem w212:Walked Tryz.prog G 212 1 sp212:=by
 refine ⟨Tryz.f212,Tryz.func212,by decide +kernel,rfl,fun xs bl r h=> ?_⟩
 unfold sp212 at h
 split at h
 ·rename_i b n k little
  obtain ⟨hpre,h2⟩:=chk_inv h;cases h2
  refine Eq.trans (b:=(chk (room (Zx b) 1) (Zp (loopM (fun (st:List AV)=>cInt .i64 st fun n r=>cInt .i64 r fun n_1 r=>cBool r fun b r=>onCons r fun x r=>Wy x fun b_1=>cInt .i64 r fun n_2 r=>let t1:Int:=Zy .u64 (Zy .i64 (8*Zy .i64 (Zy .i64 (n_1-1)-n_2)));let t2:List UInt8:=[Ym (Zq (Zy .u8 (Int.fdiv (Zy .u64 n) (2 ^ min (Zq (Zy .u64 (Zy .i64 (8*n_2)))) (Zj .u64)))))];let t0:List UInt8:=[Ym (Zq (Zy .u8 (Int.fdiv (Zy .u64 n) (2 ^ min (Zq t1) (Zj .u64)))))];onNil r (sel (decide (n_2<n_1)) (sel b (chk (decide (0≤Zy .u64 (Zy .i64 (8*n_2)))) (chk (room (Zx b_1+Zx t2) 1) (some (Yf [Zz .i64 n,Zz .i64 n_1,Zu b,Yq (b_1++t2),Zz .i64 (Zy .i64 (n_2+1))])))) (chk (decide (0≤t1)) (chk (room (Zx b_1+Zx t0) 1) (some (Yf [Zz .i64 n,Zz .i64 n_1,Zu b,Yq (b_1++t0),Zz .i64 (Zy .i64 (n_2+1))]))))) (some (Yp (Yj 0,[Zz .i64 n,Zz .i64 n_1,Zu b,Yq b_1,Zz .i64 n_2]))))) [Zz .i64 n,Zz .i64 k,Zu little,Yq b,Zz .i64 0]) fun (r:Ex×List AV)=>cInt .i64 (Zm r) fun n r_1=>cInt .i64 r_1 fun n r_2=>cBool r_2 fun b r_3=>onCons r_3 fun x r_4=>Wy x fun b=>cInt .i64 r_4 fun n r_5=>onNil r_5 (exK r.1 none fun (j:Nat)=>sel (Xj j 0) (some (Yq b,[])) none)):Option (AV×Blocks))) (by kernel_rfl) ?_
  try dsimp only [cStr,cBs,cBool,cU8,cInt,cSl,l63]
  simp only [Zk,decide_eq_true_eq] at hpre
  obtain ⟨hk,hb⟩:=hpre
  have hk4:k.toNat≤4∧0≤k:=by omega
  rw [chk_of (Xb (by omega))]
  refine loop_rounds (fun i:Nat=>[Zz Zw n,Zz Zw k,Zu little,Yq (b++(Kerb.putN n k.toNat little).take i),Zz Zw (i:Int)]) (fun i=>i≤k.toNat) (fun i=>k.toNat-i)
   (fun r=>r=(Yj 0,[Zz Zw n,Zz Zw k,Zu little,Yq (b++Kerb.putN n k.toNat little),Zz Zw k])) 0 (Yb _) (by simp) ?_ ?_
  ·intro i hi
   simp only [A0]
   by_cases hlt:i<k.toNat
   ·have hs:=Kerb.take_succ_getD (l:=Kerb.putN n k.toNat little) (i:=i) (by rw [Kerb.putN_len];omega)
    have hg:=Kerb.putN_getD n k.toNat little hlt
    have hl:((Kerb.putN n k.toNat little).take i).length=i:=by simp [Kerb.putN_len];omega
    rw [sel_pos (by simp;omega)]
    have hw:∀ j:Nat,j<4→Zy Yg (Zy Zw (8*(j:Int)))=((8*j:Nat):Int):=fun j hj=>by
     rw [wrap_i64 (by omega) (by omega),Kerb.wrap_u64];omega
    have hm:∀ j:Nat,j<4→min (Zq ((8*j:Nat):Int)) (Zj Yg)=8*j:=fun j hj=>by
     have:Zj Yg=64:=rfl
     rw [this];omega
    cases little
    ·have e:Zy Zw (Zy Zw (k-1)-(i:Int))=((k.toNat-1-i:Nat):Int):=by
      rw [wrap_i64 (n:=k-1) (by omega) (by omega),wrap_i64 (by omega) (by omega)];omega
     rw [sel_neg rfl,e,hw _ (by omega),hm _ (by omega),Kerb.ubyte n (by omega),chk_of (by simp;omega),chk_of (Xb (by simp [hl];omega)),wrap_i64 (by omega) (by omega)]
     refine ⟨_,rfl,i+1,?_,by omega,by dsimp only;omega⟩
     dsimp only
     rw [hs,hg,← List.append_assoc]
     rfl
    ·rw [sel_pos rfl,hw _ (by omega),hm _ (by omega),Kerb.ubyte n (by omega),chk_of (by simp;omega),chk_of (Xb (by simp [hl];omega)),wrap_i64 (by omega) (by omega)]
     refine ⟨_,rfl,i+1,?_,by omega,by dsimp only;omega⟩
     dsimp only
     rw [hs,hg,← List.append_assoc]
     rfl
   ·rw [sel_neg (by simp;omega)]
    refine ⟨_,rfl,?_⟩
    show _=_
    rw [Zh (by rw [Kerb.putN_len];omega),show (i:Int)=k from by omega]
  ·rintro r rfl
   simp only [A0]
   rw [sel_pos (Yw _)]
 ·cases h
theorem w234:Walked Tryz.prog G 234 1 sp234:=by
 refine ⟨Tryz.f234,Tryz.func234,by decide +kernel,rfl,fun xs bl r h=> ?_⟩
 unfold sp234 at h
 split at h
 ·rename_i n m
  cases h
  refine Eq.trans (b:=(sel (decide (n≥0)) (some (Zu (decide (n≤m)),[])) (some (Zu false,[])):Option (AV×Blocks))) (by kernel_rfl) ?_
  by_cases h:0≤n<;>simp [sel,Zd,h]
 ·cases h
theorem w237:Walked Tryz.prog G 237 1 sp237:=by
 refine ⟨Tryz.f237,Tryz.func237,by decide +kernel,rfl,fun xs bl r h=> ?_⟩
 unfold sp237 at h
 split at h
 ·rename_i k
  cases h
  refine Eq.trans (b:=(sel (decide (k≥1)) (some (Zu (decide (k≤10)),[])) (some (Zu false,[])):Option (AV×Blocks))) (by kernel_rfl) ?_
  by_cases h:1≤k<;>simp [sel,Wv,h]
 ·cases h
theorem w239:Walked Tryz.prog G 239 1 sp239:=by
 refine ⟨Tryz.f239,Tryz.func239,by decide +kernel,rfl,fun xs bl r h=> ?_⟩
 unfold sp239 at h
 split at h
 ·rename_i n m
  cases h
  refine Eq.trans (b:=(sel (decide (n≥0)) (some (Zu (decide (n≤m)),[])) (some (Zu false,[])):Option (AV×Blocks))) (by kernel_rfl) ?_
  by_cases h:0≤n<;>simp [sel,Zd,h]
 ·cases h
theorem w242:Walked Tryz.prog G 242 1 sp242:=by
 refine ⟨Tryz.f242,Tryz.func242,by decide +kernel,rfl,fun xs bl r h=> ?_⟩
 unfold sp242 at h
 split at h
 ·rename_i b pos n
  obtain ⟨hpre,h2⟩:=chk_inv h;cases h2
  refine Eq.trans (b:=(sel (decide (pos<0)) (some (Zz .i64 104,[])) (sel (decide (pos>(↑(Zx b):Int))) (some (Zz .i64 104,[])) (sel (decide (n<0)) (some (Zz .i64 104,[])) (sel (decide (n>Zy .i64 ((↑(Zx b):Int)-pos))) (some (Zz .i64 101,[])) (some (Zz .i64 0,[]))))):Option (AV×Blocks))) (by kernel_rfl) ?_
  simp only [decide_eq_true_eq] at hpre
  unfold Xu
  by_cases h1:pos<0
  ·simp [sel,h1]
  by_cases h2:(b.length:Int)<pos
  ·simp [sel,h1,h2]
  by_cases h3:n<0
  ·simp [sel,h1,h2,h3]
  rw [sel_neg (by simp;omega),sel_neg (by simp;omega),sel_neg (by simp;omega),wrap_i64 (by omega) (by omega),if_neg (by omega)]
  by_cases h4:(b.length:Int)-pos<n
  ·rw [sel_pos (by simp;omega),if_pos h4]
  ·rw [sel_neg (by simp;omega),if_neg h4]
 ·cases h
theorem w247:Walked Tryz.prog G 247 1 sp247:=by
 refine ⟨Tryz.f247,Tryz.func247,by decide +kernel,rfl,fun xs bl r h=> ?_⟩
 unfold sp247 at h
 split at h
 ·rename_i n m
  cases h
  refine Eq.trans (b:=(sel (decide (n≥0)) (some (Zu (decide (n≤m)),[])) (some (Zu false,[])):Option (AV×Blocks))) (by kernel_rfl) ?_
  by_cases h:0≤n<;>simp [sel,Zd,h]
 ·cases h
theorem w35:Walked Tryz.prog G 35 2 sp35:=by
 refine ⟨Tryz.f35,Tryz.func35,by decide +kernel,rfl,fun xs bl r h=> ?_⟩
 unfold sp35 at h
 split at h
 ·rename_i n
  obtain ⟨hpre,h2⟩:=chk_inv h;cases h2
  refine Eq.trans (b:=(chk (decide (0≤Xz n 3)&&decide (Xz n 3<(↑(Zx [Zv [(65:UInt8),(84:UInt8),(72:UInt8)],Zv [(66:UInt8),(79:UInt8),(83:UInt8)],Zv [(67:UInt8),(65:UInt8),(77:UInt8)]]):Int))&&true) (Wj (Zf [Zv [(65:UInt8),(84:UInt8),(72:UInt8)],Zv [(66:UInt8),(79:UInt8),(83:UInt8)],Zv [(67:UInt8),(65:UInt8),(77:UInt8)]] (Zq (Xz n 3)) Yd) fun b=>some (Zv b,[])):Option (AV×Blocks))) (by kernel_rfl) ?_
  have hn:0≤n:=by first | exact of_decide_eq_true hpre | (simp only [Zk,decide_eq_true_eq] at hpre;exact hpre.1)
  have ht:Xz n 3=n % 3:=Yv hn
  have hcase:n % 3=0∨n % 3=1∨n % 3=2:=by omega
  rcases hcase with e | e | e<;>simp [ht,e,chk,Wj,Kerb.realm]
 ·cases h
theorem w42:Walked Tryz.prog G 42 2 sp42:=by
 refine ⟨Tryz.f42,Tryz.func42,by decide +kernel,rfl,fun xs bl r h=> ?_⟩
 unfold sp42 at h
 split at h
 ·rename_i m1 m2 m3 ad sk li o1 o2 o3 els wt w1 w2 w3 se tm lf cs tc
  cases h
  refine Eq.trans (b:=(some (Xd [Zv [(107:UInt8),(114:UInt8),(98:UInt8),(116:UInt8),(103:UInt8),(116:UInt8)],Zv m3,Zv m3],[]):Option (AV×Blocks))) (by kernel_rfl) ?_
  rfl
 ·cases h
theorem w48:Walked Tryz.prog G 48 2 sp48:=by
 refine ⟨Tryz.f48,Tryz.func48,by decide +kernel,rfl,fun xs bl r h=> ?_⟩
 unfold sp48 at h
 split at h
 ·rename_i rl els i now
  obtain ⟨hpre,h2⟩:=chk_inv h;cases h2
  refine Eq.trans (b:=(let t0:Bool:=List.all els Kerb.isEntry&&decide (Zx els≤1000000)&&decide (0≤i)&&decide (i<(↑(Zx els):Int));chk (decide (0≤i)&&decide (i<(↑(Zx els):Int))&&true) (Wx (Zf els (Zq i) Yd) fun cs=>cStr cs fun b r=>cStr r fun b_1 r=>cInt .u64 r fun n r=>cInt .i64 r fun n_1 r=>cInt .i64 r fun n_2 r=>cInt .i64 r fun n_3 r=>cInt .i64 r fun n_4 r=>let t1:Kerb.Db:=Kerb.setEnt (Kerb.Db.mk rl (List.map Kerb.toEntry els)) i (Kerb.Entry.mk b b_1 n n_1 n_2 n_3 n_4 0 (Xf (Zy .i64 (now+600)) 4294967295));cInt .i64 r fun n_5 r=>cInt .i64 r fun n_6 r=>let t2:Kerb.Db:=Kerb.setEnt (Kerb.Db.mk rl (List.map Kerb.toEntry els)) i (Kerb.Entry.mk b b_1 n n_1 n_2 n_3 n_4 (Zy .i64 (n_5+1)) n_6);onNil r (sel (decide (Zy .i64 (n_5+1)≥20)) (Zp (chk t0 (some (Xd [Zv (Kerb.Db.realm t1),Zg 9 (List.map Xx (Kerb.Db.entries t1))],[]))) (kA fun cs=>cStr cs fun b r=>cSl 9 r fun b_2 r=>onNil r (some (Xd [Zv b,Zg 9 b_2],[])))) (Zp (chk t0 (some (Xd [Zv (Kerb.Db.realm t2),Zg 9 (List.map Xx (Kerb.Db.entries t2))],[]))) (kA fun cs=>cStr cs fun b r=>cSl 9 r fun b_2 r=>onNil r (some (Xd [Zv b,Zg 9 b_2],[])))))):Option (AV×Blocks))) (by kernel_rfl) ?_
  delta kA
  try dsimp only [cStr,cBs,cBool,cU8,cInt,cSl,l63]
  simp only [Zk,decide_eq_true_eq] at hpre
  obtain ⟨⟨⟨⟨⟨hall,hlen⟩,h0⟩,h1⟩,he⟩,hn⟩:=hpre
  obtain ⟨es,rfl,hok⟩:=Kerb.ents_of hall
  rw [Wk] at *
  simp only [Yy] at hlen h1
  have i0:decide (0≤i)=true:=by simp;omega
  have i1:decide (i<(es.length:Int))=true:=by simp;omega
  simp only [hall,Yy,hlen,i0,i1,decide_true,Wh,↓A0,A0]
  rw [Wm (by omega)]
  unfold Kerb.kaFailed Kerb.entAt
  have hx:=Kerb.errs_all (Kerb.Db.err_inv he).2.2 _ (Kerb.ent_mem (es:=es) (i:=i.toNat) (by omega))
  dsimp only
  generalize es.getD i.toNat Kerb.noEntry=e at hx ⊢
  have x9:=Kerb.within_iff.1 (Kerb.Entry.err_inv hx).2.2.2.2.2.2.2.2
  have n9:=Kerb.within_iff.1 hn
  simp only [Xx,↓A0,A0]
  unfold Kerb.Entry.failed
  rw [wrap_i64 (n:=e.fails+1) (by omega) (by omega)]
  by_cases hf:20≤e.fails+1
  ·rw [sel_pos (by simpa using hf),if_pos hf,wrap_i64 (by omega) (by omega)]
  ·rw [sel_neg (by simpa using hf),if_neg hf]
 ·cases h
theorem w54:Walked Tryz.prog G 54 2 sp54:=by
 refine ⟨Tryz.f54,Tryz.func54,by decide +kernel,rfl,fun xs bl r h=> ?_⟩
 unfold sp54 at h
 split at h
 ·rename_i n
  obtain ⟨hpre,h2⟩:=chk_inv h;cases h2
  refine Eq.trans (b:=(sel (decide (n<300)) (some (Yx [Zz .i64 0,Zu false],[])) (some (Yx [Zz .i64 (Xy (Zy .i64 (Zy .i64 (Xm n 300)-1)) [255]),Zu true],[])):Option (AV×Blocks))) (by kernel_rfl) ?_
  simp only [Zk,decide_eq_true_eq] at hpre
  by_cases h:n<300
  ·rw [sel_pos (by simpa using h)];simp [h]
  rw [sel_neg (by simpa using h)]
  have e1:Zy .i64 (Xm n 300)=Xm n 300:=by rw [Yn (by omega)];exact wrap_i64 (by omega) (by omega)
  have e2:Zy .i64 (Xm n 300-1)=Xm n 300-1:=by rw [Yn (by omega)];exact wrap_i64 (by omega) (by omega)
  have e3:∀ q,Xy q (intsIn [Zz Zw 255])=Xf q 255:=fun q=>rfl
  try simp only [e3]
  simp only [e1,e2,h,decide_false,Bool.not_false,chk_true,some_bind]
  rfl
 ·cases h
theorem w69:Walked Tryz.prog G 69 2 sp69:=by
 refine ⟨Tryz.f69,Tryz.func69,by decide +kernel,rfl,fun xs bl r h=> ?_⟩
 unfold sp69 at h
 split at h
 ·rename_i b els
  obtain ⟨hpre,h2⟩:=chk_inv h;cases h2
  refine Eq.trans (b:=(sel (!Kerb.Head.err (Xh b)==0) (some (Yx [Zu false,Zz .i64 (Kerb.Head.err (Xh b))],[])) (Zp (loopM (fun (st:List AV)=>cSl 1 st fun b r=>cBool r fun b_1 r=>cInt .i64 r fun n r=>cInt .i64 r fun n_1 r=>cBool r fun b_2 r=>cInt .i64 r fun n_2 r=>onNil r (sel (decide (n_2<(↑(Zx b):Int))) (chk (decide (0≤n_2)&&decide (n_2<(↑(Zx b):Int))&&true) (Xp .i64 (Zf b (Zq n_2) Yd) fun n_3=>sel (n_3==n_1) (some (Yp (Ex.ret,[Zg 1 b,Zu b_2,Zz .i64 0,Zz .i64 n_1,Zu b_2,Zz .i64 n_2]))) (some (Yf [Zg 1 b,Zu b_1,Zz .i64 n,Zz .i64 n_1,Zu b_2,Zz .i64 (Zy .i64 (n_2+1))])))) (some (Yp (Yj 0,[Zg 1 b,Zu b_1,Zz .i64 n,Zz .i64 n_1,Zu b_2,Zz .i64 n_2]))))) [Zg 1 els,Zu false,Zz .i64 0,Zz .i64 (Kerb.Head.kind (Xh b)),Zu (Kerb.Head.little (Xh b)),Zz .i64 0]) fun (r:Ex×List AV)=>cSl 1 (Zm r) fun b r_1=>cBool r_1 fun b r_2=>cInt .i64 r_2 fun n r_3=>cInt .i64 r_3 fun n_1 r_4=>cBool r_4 fun b_1 r_5=>cInt .i64 r_5 fun n_2 r_6=>onNil r_6 (exK r.1 (some (Yx [Zu b,Zz .i64 n],[])) fun (j:Nat)=>sel (Xj j 0) (some (Yx [Zu false,Zz .i64 40],[])) none)):Option (AV×Blocks))) (by kernel_rfl) ?_
  try dsimp only [cStr,cBs,cBool,cU8,cInt,cSl,l63]
  simp only [Zk,decide_eq_true_eq] at hpre
  obtain ⟨ha,hl⟩:=hpre
  have hil:=Kerb.ints_len ha
  unfold Kerb.headIs
  by_cases he:(Xh b).err=0
  case neg =>
   rw [sel_pos (by simpa using he),if_pos he]
  rw [sel_neg (by simp [he]),if_neg (by simpa using he)]
  generalize (Xh b).kind=k
  generalize (Xh b).little=lt
  refine loop_rounds (fun i:Nat=>[Zg 1 els,Zu false,Zz Zw 0,Zz Zw k,Zu lt,Zz Zw (i:Int)]) (fun i=>i≤els.length∧(k∈intsIn els↔k∈(intsIn els).drop i)) (fun i=>els.length-i)
   (fun r=>∃ (i:Nat) (x:Bool),r.2=[Zg 1 els,Zu x,Zz Zw 0,Zz Zw k,Zu lt,Zz Zw (i:Int)]∧((r.1 = .ret∧x=lt∧k∈intsIn els)∨(r.1 = .exit 0∧k ∉ intsIn els))) 0 ⟨Yb _,by simp⟩ rfl ?_ ?_
  ·rintro i ⟨hi,hm⟩
   simp only [A0]
   by_cases hlt:i<els.length
   ·obtain ⟨n,h1,h2⟩:=Kerb.ints_get ha hlt
    rw [sel_pos (by simp;omega),chk_of (by simp;omega),Zn,h1,onInt_int]
    rw [h2,List.mem_cons] at hm
    by_cases h3:n=k
    ·rw [sel_pos (by simpa using h3)]
     exact ⟨_,rfl,i,lt,rfl,.inl ⟨rfl,rfl,hm.2 (.inl h3.symm)⟩⟩
    ·rw [sel_neg (by simpa using h3),wrap_i64 (by omega) (by omega)]
     exact ⟨_,rfl,i+1,rfl,⟨by omega,hm.trans ⟨fun h=>h.resolve_left fun e=>h3 e.symm,.inr⟩⟩,by dsimp only;omega⟩
   ·rw [sel_neg (by simp;omega)]
    refine ⟨_,rfl,i,false,rfl,.inr ⟨rfl,?_⟩⟩
    rw [hm,Xv (by omega)];simp
  ·rintro ⟨e,l⟩ ⟨i,x,rfl,⟨rfl,rfl,h⟩ | ⟨rfl,h⟩⟩
   ·simp only [A0]
    rw [if_pos (by simpa using h)]
   ·simp only [A0]
    rw [if_neg (by simpa using h),sel_pos (Yw _)]
 ·cases h
theorem w73:Walked Tryz.prog G 73 2 sp73:=by
 refine ⟨Tryz.f73,Tryz.func73,by decide +kernel,rfl,fun xs bl r h=> ?_⟩
 unfold sp73 at h
 split at h
 ·rename_i B at_ li bad
  obtain ⟨hpre,h2⟩:=chk_inv h;cases h2
  show runFnH (G.env 73 2) G.rts (G.own 73) Tryz.f73 _ _ [0]=_
  refine Eq.trans (b:=(Zp (chk (decide (Zx B≤140737488355328)) (some (Yx [Zv (Kerb.GotB.val (Kerb.text B at_)),Zz .i64 (Kerb.GotB.next (Kerb.text B at_)),Zz .i64 (Kerb.GotB.err (Kerb.text B at_))],[]))) fun (r:AV×Blocks)=>onNilB (Zm r) (AV.onTup (Xg r) fun vs=>onCons vs fun x r=>Wj x fun b=>onCons r fun x r=>Xp .i64 x fun n=>onCons r fun x r=>Xp .i64 x fun n_1=>onNil r (some (Zv b,[[Yz B,Zz .i64 (bif bad || !n_1==0 then at_ else n),Zu li,Zu (bad || !n_1==0)]]))):Option (AV×Blocks))) (by kernel_rfl) ?_
  simp only [A0]
  rw [chk_of hpre]
 ·cases h
theorem w74:Walked Tryz.prog G 74 2 sp74:=by
 refine ⟨Tryz.f74,Tryz.func74,by decide +kernel,rfl,fun xs bl r h=> ?_⟩
 unfold sp74 at h
 split at h
 ·rename_i n B at_ li bad
  obtain ⟨hpre,h2⟩:=chk_inv h;cases h2
  show runFnH (G.env 74 2) G.rts (G.own 74) Tryz.f74 _ _ [0]=_
  refine Eq.trans (b:=(Zp (chk (decide (Zx B≤140737488355328)) (some (Yx [Yz (Kerb.GotB.val (Wq B at_ n)),Zz .i64 (Kerb.GotB.next (Wq B at_ n)),Zz .i64 (Kerb.GotB.err (Wq B at_ n))],[]))) fun (r:AV×Blocks)=>onNilB (Zm r) (AV.onTup (Xg r) fun vs=>onCons vs fun x r=>AV.onBs x fun b=>onCons r fun x r=>Xp .i64 x fun n=>onCons r fun x r=>Xp .i64 x fun n_1=>onNil r (some (Yz b,[[Yz B,Zz .i64 (bif bad || !n_1==0 then at_ else n),Zu li,Zu (bad || !n_1==0)]]))):Option (AV×Blocks))) (by kernel_rfl) ?_
  simp only [A0]
  rw [chk_of hpre]
 ·cases h
theorem w76:Walked Tryz.prog G 76 2 sp76:=by
 refine ⟨Tryz.f76,Tryz.func76,by decide +kernel,rfl,fun xs bl r h=> ?_⟩
 unfold sp76 at h
 split at h
 ·rename_i s
  obtain ⟨hpre,h2⟩:=chk_inv h;cases h2
  refine Eq.trans (b:=(sel (decide ((↑(Zx s):Int)>0)) (Zp (chk (decide (Zx s≤9223372036854775807)&&true) (some (Zu (Xq s [(64:UInt8)]&&decide (Zx s≤39)),[]))) fun (r:AV×Blocks)=>onNilB (Zm r) (AV.onBool (Xg r) fun b=>some (Zu b,[]))) (some (Zu false,[])):Option (AV×Blocks))) (by kernel_rfl) ?_
  simp only [A0]
  rw [chk_of (by rw [hpre];rfl)]
  simp only [Kerb.validRealm]
  cases s with
  | nil=>rfl
  | cons x r =>
   rw [sel_pos (by first | (simp;done) | (simp;omega)),Bool.and_comm]
   rfl
 ·cases h
theorem w86:Walked Tryz.prog G 86 2 sp86:=by
 refine ⟨Tryz.f86,Tryz.func86,by decide +kernel,rfl,fun xs bl r h=> ?_⟩
 unfold sp86 at h
 split at h
 ·rename_i m1 m2 m3 x y z
  cases h
  refine Eq.trans (b:=(some (Xd [Zv [(107:UInt8),(114:UInt8),(98:UInt8),(116:UInt8),(103:UInt8),(116:UInt8)],Zv z,Zv m3],[]):Option (AV×Blocks))) (by kernel_rfl) ?_
  rfl
 ·cases h
theorem w91:Walked Tryz.prog G 91 2 sp91:=by
 refine ⟨Tryz.f91,Tryz.func91,by decide +kernel,rfl,fun xs bl r h=> ?_⟩
 unfold sp91 at h
 split at h
 ·rename_i k
  obtain ⟨hpre,h2⟩:=chk_inv h;cases h2
  refine Eq.trans (b:=(sel (!Wg (Zy .i64 (Int.fdiv k (2 ^ min (Zq 56) (Zj .u64))))) (some (Yx [Zz .i64 0,Zz .i64 0,Zu false],[])) (sel (!Wp (Zy .i64 (Zy .u64 (↑(BitVec.toNat (BitVec.ofInt (Zj .u64) k &&& BitVec.ofInt (Zj .u64) 72057594037927935)):Int)))) (some (Yx [Zz .i64 0,Zz .i64 0,Zu false],[])) (some (Yx [Zz .i64 (Zy .i64 (Int.fdiv k (2 ^ min (Zq 56) (Zj .u64)))),Zz .i64 (Zy .i64 (Zy .u64 (↑(BitVec.toNat (BitVec.ofInt (Zj .u64) k &&& BitVec.ofInt (Zj .u64) 72057594037927935)):Int))),Zu true],[]))):Option (AV×Blocks))) (by kernel_rfl) ?_
  simp only [Zk,decide_eq_true_eq] at hpre
  obtain ⟨h0,h1⟩:=hpre
  rw [Kerb.key_hi h0 h1,Kerb.key_lo h0 h1]
  unfold Kerb.keyValid
  cases Wg (Kerb.keyClass k)
  ·rfl
  cases Wp (Kerb.keySerial k)<;>rfl
 ·cases h
theorem w92:Walked Tryz.prog G 92 2 sp92:=by
 refine ⟨Tryz.f92,Tryz.func92,by decide +kernel,rfl,fun xs bl r h=> ?_⟩
 unfold sp92 at h
 split at h
 ·rename_i i l
  cases h
  refine Eq.trans (b:=(sel (!Zd i 4294967295) (some (Zz .i64 0,[])) (sel (!Zd l 255) (some (Zz .i64 0,[])) (some (Zz .i64 (Zy .i64 (i+Zy .i64 (300*Zy .i64 (l+1)))),[]))):Option (AV×Blocks))) (by kernel_rfl) ?_
  unfold Kerb.tEnd
  cases h1:Zd i 4294967295
  ·rfl
  cases h2:Zd l 255
  ·rfl
  have a1:=Kerb.within_iff.1 h1
  have a2:=Kerb.within_iff.1 h2
  simp only [Wd,sel_false,Wh,if_true]
  rw [wrap_i64 (n:=l+1) (by omega) (by omega),wrap_i64 (n:=300*(l+1)) (by omega) (by omega),wrap_i64 (by omega) (by omega)]
 ·cases h
theorem w101:Walked Tryz.prog G 101 2 sp101:=by
 refine ⟨Tryz.f101,Tryz.func101,by decide +kernel,rfl,fun xs bl r h=> ?_⟩
 unfold sp101 at h
 split at h
 ·rename_i a b s
  cases h
  refine Eq.trans (b:=(sel (!Zd a 4294967295) (some (Zu false,[])) (sel (!Zd b 4294967295) (some (Zu false,[])) (sel (decide (s<0)) (some (Zu false,[])) (sel (decide (s>4294967295)) (some (Zu false,[])) (sel (decide (Zy .i64 (a-b)≤s)) (some (Zu (decide (Zy .i64 (b-a)≤s)),[])) (some (Zu false,[])))))):Option (AV×Blocks))) (by kernel_rfl) ?_
  unfold Kerb.near
  cases h1:Zd a 4294967295
  ·rfl
  cases h2:Zd b 4294967295
  ·rfl
  have a1:=Kerb.within_iff.1 h1
  have a2:=Kerb.within_iff.1 h2
  simp only [Wd,sel_false,Wh,Bool.true_and]
  rw [wrap_i64 (n:=a-b) (by omega) (by omega),wrap_i64 (n:=b-a) (by omega) (by omega)]
  by_cases h3:s<0
  ·rw [sel_pos (by simpa using h3)]
   have e:Zd s 4294967295=false:=by simp [Zd];omega
   rw [e];rfl
  by_cases h4:s>4294967295
  ·rw [sel_neg (by simpa using h3),sel_pos (by simpa using h4)]
   have e:Zd s 4294967295=false:=by simp [Zd];omega
   rw [e];rfl
  rw [sel_neg (by simpa using h3),sel_neg (by simpa using h4),Kerb.within_iff.2 (by omega)]
  cases decide (a-b≤s)<;>rfl
 ·cases h
theorem w104:Walked Tryz.prog G 104 2 sp104:=by
 refine ⟨Tryz.f104,Tryz.func104,by decide +kernel,rfl,fun xs bl r h=> ?_⟩
 unfold sp104 at h
 split at h
 ·rename_i i l
  cases h
  refine Eq.trans (b:=(sel (!Zd i 4294967295) (some (Zz .i64 0,[])) (sel (decide (l<0)) (some (Zz .i64 0,[])) (sel (decide (l>255)) (some (Zz .i64 0,[])) (some (Zz .i64 (Zy .i64 (i+Zy .i64 (300*Zy .i64 (l+1)))),[])))):Option (AV×Blocks))) (by kernel_rfl) ?_
  unfold Kerb.tEnd
  cases h1:Zd i 4294967295
  ·rfl
  have a1:=Kerb.within_iff.1 h1
  by_cases h2:0≤l∧l≤255
  ·have e:Zd l 255=true:=Kerb.within_iff.2 h2
   rw [e]
   simp only [Wd,sel_false,Wh,if_true]
   rw [sel_neg (by simp;omega),sel_neg (by simp;omega),wrap_i64 (n:=l+1) (by omega) (by omega),wrap_i64 (n:=300*(l+1)) (by omega) (by omega),wrap_i64 (by omega) (by omega)]
  ·have e:Zd l 255=false:=by simp [Zd];omega
   rw [e]
   by_cases h3:l<0
   ·rw [Wd,sel_false,sel_pos (by simpa using h3)];rfl
   ·rw [Wd,sel_false,sel_neg (by simpa using h3),sel_pos (by simp;omega)];rfl
 ·cases h
theorem w105:Walked Tryz.prog G 105 2 sp105:=by
 refine ⟨Tryz.f105,Tryz.func105,by decide +kernel,rfl,fun xs bl r h=> ?_⟩
 unfold sp105 at h
 split at h
 ·rename_i n w els
  obtain ⟨hpre,h2⟩:=chk_inv h;cases h2
  refine Eq.trans (b:=(let t0:Option (AV×Blocks):=some (Yx [Zz .i64 0,Zu false],[]);sel (!Zd n 4294967295) t0 (sel (decide (w<0)) t0 (Zp (loopM (fun (st:List AV)=>cInt .i64 st fun n r=>cSl 1 r fun b r=>cInt .i64 r fun n_1 r=>cInt .i64 r fun n_2 r=>let t1:List AV:=[Zz .i64 n,Zg 1 b,Zz .i64 n_1,Zz .i64 n_2];onNil r (sel (decide (n_2<(↑(Zx b):Int))) (Zp (loopM (fun (st:List AV)=>cInt .i64 st fun n r=>cSl 1 r fun b r=>cInt .i64 r fun n_3 r=>cInt .i64 r fun n_4 r=>let t2:Option (List AV ⊕ Ex×List AV):=some (Yp (Yj 2,[Zz .i64 n,Zg 1 b,Zz .i64 n_3,Zz .i64 n_4]));onNil r (sel (decide (n_3≥0)) (chk (decide (0≤n_4)&&decide (n_4<(↑(Zx b):Int))&&true) (Xp .i64 (Zf b (Zq n_4) Yd) fun n_5=>sel (decide (Zy .i64 (n+Zy .i64 (300*Zy .i64 (n_3+1)))>n_5)) (some (Yf [Zz .i64 n,Zg 1 b,Zz .i64 (Zy .i64 (n_3-1)),Zz .i64 n_4])) t2)) t2)) t1) fun (r:Ex×List AV)=>cInt .i64 (Zm r) fun n r_1=>cSl 1 r_1 fun b r_2=>cInt .i64 r_2 fun n_3 r_3=>cInt .i64 r_3 fun n_4 r_4=>onNil r_4 (exK r.1 (some (Yp (Ex.ret,[Zz .i64 n,Zg 1 b,Zz .i64 n_3,Zz .i64 n_4]))) fun (j:Nat)=>sel (Xj j 2) (some (Yf [Zz .i64 n,Zg 1 b,Zz .i64 n_3,Zz .i64 (Zy .i64 (n_4+1))])) none)) (some (Yp (Yj 0,t1))))) [Zz .i64 n,Zg 1 els,Zz .i64 (Xf w 255),Zz .i64 0]) fun (r:Ex×List AV)=>cInt .i64 (Zm r) fun n r_1=>cSl 1 r_1 fun b r_2=>cInt .i64 r_2 fun n r_3=>cInt .i64 r_3 fun n_1 r_4=>onNil r_4 (exK r.1 none fun (j:Nat)=>sel (Xj j 0) (sel (decide (n<0)) t0 (some (Yx [Zz .i64 n,Zu true],[]))) none))):Option (AV×Blocks))) (by kernel_rfl) ?_
  try dsimp only [cStr,cBs,cBool,cU8,cInt,cSl,l63]
  simp only [Zk,decide_eq_true_eq] at hpre
  obtain ⟨⟨ha,hl⟩,hi⟩:=hpre
  have hil:=Kerb.ints_len ha
  unfold Kerb.grantLife
  cases hn:Zd n 4294967295
  ·rfl
  rw [sel_neg (by rfl)]
  have n1:=Kerb.within_iff.1 hn
  by_cases hw:w<0
  ·rw [sel_pos (by simpa using hw),if_pos (by simp [hw])]
  have hm:0≤Xf w 255∧Xf w 255≤255:=by unfold Xf;split<;>omega
  rw [sel_neg (by simpa using hw),if_neg (by simp [hw])]
  generalize Xf w 255=m at hm ⊢
  refine loop_rounds (fun j:Nat=>[Zz Zw n,Zg 1 els,Zz Zw (Ww n (Xy (n+300*(m+1)) ((intsIn els).take j))),Zz Zw (j:Int)]) (fun j=>j≤els.length) (fun j=>els.length-j)
   (fun r=>r=(Yj 0,[Zz Zw n,Zg 1 els,Zz Zw (Ww n (Xy (n+300*(m+1)) (intsIn els))),Zz Zw (els.length:Int)])) 0 (Yb _) (by rw [List.take_zero];show _=[_,_,Zz _ (Ww n (n+300*(m+1))),_];rw [Kerb.lifeTo_start hm.1];rfl) ?_ ?_
  ·intro j hj
   simp only [↓A0,A0]
   rcases Nat.lt_or_ge j els.length with h | h
   ·obtain ⟨e,h1,h2⟩:=Kerb.ints_get ha h
    have ht:(intsIn els).take (j+1)=(intsIn els).take j++[e]:=by
     have h4:j<(intsIn els).length:=by omega
     rw [List.take_succ_eq_append_getElem h4]
     rw [List.drop_eq_getElem_cons h4] at h2
     rw [(List.cons.inj h2).1]
    have hs:Xy (n+300*(m+1)) ((intsIn els).take (j+1))=Xf (Xy (n+300*(m+1)) ((intsIn els).take j)) e:=by rw [ht];simp [Xy]
    have hle:=Kerb.least_le ((intsIn els).take j) (n+300*(m+1))
    generalize Xy (n+300*(m+1)) ((intsIn els).take j)=B at hs hle ⊢
    have k0:=Kerb.lifeTo_bd n B
    have k1:=Kerb.lifeTo_le hm.1 hle
    rw [sel_pos (by simp;omega)]
    refine loop_ex (Q:=Round _ _ _ _ _) (fun k:Int=>[Zz Zw n,Zg 1 els,Zz Zw k,Zz Zw (j:Int)]) (fun k => -1≤k∧k≤m∧Kerb.lifeLo n e k=Ww n (Xf B e)) (fun k=>(k+1).toNat)
     (fun r=>r=(Yj 2,[Zz Zw n,Zg 1 els,Zz Zw (Ww n (Xf B e)),Zz Zw (j:Int)])) (Ww n B) ⟨k0,k1,Kerb.lifeLo_start n B e⟩ rfl ?_ ?_
    ·rintro k ⟨q0,q1,q2⟩
     simp only [↓A0,A0]
     by_cases hk:0≤k
     ·rw [sel_pos (by simpa using hk),chk_of (by simp;omega),Zn,h1,onInt_int,wrap_i64 (n:=k+1) (by omega) (by omega),wrap_i64 (n:=300*(k+1)) (by omega) (by omega),wrap_i64 (by omega) (by omega)]
      by_cases he:e<n+300*(k+1)
      ·rw [sel_pos (by simpa using he),wrap_i64 (by omega) (by omega)]
       exact ⟨_,rfl,k-1,rfl,⟨by omega,by omega,(Kerb.lifeLo_down hk he).trans q2⟩,by dsimp only;omega⟩
      ·rw [sel_neg (by simpa using he)]
       refine ⟨_,rfl,?_⟩
       show _=_
       rw [← q2,Kerb.lifeLo_fit hk (by omega)]
     ·rw [sel_neg (by simpa using hk)]
      refine ⟨_,rfl,?_⟩
      show _=_
      rw [← q2,Kerb.lifeLo_neg q0 (by omega)]
    ·rintro _ rfl
     simp only [↓A0,A0]
     rw [sel_pos (Yw _),wrap_i64 (by omega) (by omega)]
     exact ⟨_,rfl,j+1,by dsimp only;rw [hs];rfl,by omega,by dsimp only;omega⟩
   ·have hj2:j=els.length:=by omega
    subst hj2
    rw [sel_neg (by simp)]
    refine ⟨_,rfl,?_⟩
    show _=_
    rw [Zh (by omega)]
  ·rintro _ rfl
   simp only [↓A0,A0]
   rw [sel_pos (Yw _)]
   have hle:=Kerb.least_le (intsIn els) (n+300*(m+1))
   generalize Xy (n+300*(m+1)) (intsIn els)=B at hle ⊢
   by_cases h2:B-n<300
   ·have:Ww n B<0:=by unfold Ww;split<;>omega
    rw [sel_pos (by simpa using this),if_pos h2]
   ·have h3:Ww n B=(B-n) / 300-1:=by unfold Ww;rw [if_neg (by omega)]
    have h4:Xf ((B-n) / 300-1) 255=(B-n) / 300-1:=by unfold Xf;split<;>omega
    rw [h3,sel_neg (by simp;omega),if_neg h2,h4]
 ·cases h
theorem w114:Walked Tryz.prog G 114 2 sp114:=by
 refine ⟨Tryz.f114,Tryz.func114,by decide +kernel,rfl,fun xs bl r h=> ?_⟩
 unfold sp114 at h
 split at h
 ·rename_i rl els i
  obtain ⟨hpre,h2⟩:=chk_inv h;cases h2
  refine Eq.trans (b:=(chk (decide (0≤i)&&decide (i<(↑(Zx els):Int))&&true) (Wx (Zf els (Zq i) Yd) fun cs=>cStr cs fun b r=>cStr r fun b_1 r=>cInt .u64 r fun n r=>cInt .i64 r fun n_1 r=>cInt .i64 r fun n_2 r=>cInt .i64 r fun n_3 r=>cInt .i64 r fun n_4 r=>cInt .i64 r fun n_5 r=>cInt .i64 r fun n_6 r=>let t0:Kerb.Db:=Kerb.setEnt (Kerb.Db.mk rl (List.map Kerb.toEntry els)) i (Kerb.Entry.mk b b_1 n n_1 n_2 n_3 n_4 0 n_6);onNil r (Zp (chk (List.all els Kerb.isEntry&&decide (Zx els≤1000000)&&decide (0≤i)&&decide (i<(↑(Zx els):Int))) (some (Xd [Zv (Kerb.Db.realm t0),Zg 9 (List.map Xx (Kerb.Db.entries t0))],[]))) (kA fun cs=>cStr cs fun b r=>cSl 9 r fun b_2 r=>onNil r (some (Xd [Zv b,Zg 9 b_2],[]))))):Option (AV×Blocks))) (by kernel_rfl) ?_
  delta kA
  try dsimp only [cStr,cBs,cBool,cU8,cInt,cSl,l63]
  simp only [Zk,decide_eq_true_eq] at hpre
  obtain ⟨⟨⟨hall,hlen⟩,h0⟩,h1⟩:=hpre
  obtain ⟨es,rfl,hok⟩:=Kerb.ents_of hall
  rw [Wk] at *
  simp only [Yy] at hlen h1
  have i0:decide (0≤i)=true:=by simp;omega
  have i1:decide (i<(es.length:Int))=true:=by simp;omega
  simp only [hall,Yy,hlen,i0,i1,decide_true,Wh,↓A0,A0]
  rw [Wm (by omega)]
  rfl
 ·cases h
theorem w125:Walked Tryz.prog G 125 2 sp125:=by
 refine ⟨Tryz.f125,Tryz.func125,by decide +kernel,rfl,fun xs bl r h=> ?_⟩
 unfold sp125 at h
 split at h
 ·rename_i x y z k lf kv iss tk
  obtain ⟨hpre,h2⟩:=chk_inv h;cases h2
  refine Eq.trans (b:=(Zp (chk (decide (Zx tk≤140737488355328)) (some (Yz tk,[]))) fun (r:AV×Blocks)=>onNilB (Zm r) (AV.onBs (Xg r) fun b=>some (Xd [Zv x,Zv y,Zv z,Zz .u64 k,Zz .i64 lf,Zz .i64 kv,Zz .i64 iss,Yz b],[])):Option (AV×Blocks))) (by kernel_rfl) ?_
  simp only [A0,Xw,Xk,Yu,hpre]
 ·cases h
theorem w133:Walked Tryz.prog G 133 2 sp133:=by
 refine ⟨Tryz.f133,Tryz.func133,by decide +kernel,rfl,fun xs bl r h=> ?_⟩
 unfold sp133 at h
 split at h
 ·rename_i k
  obtain ⟨hpre,h2⟩:=chk_inv h;cases h2
  refine Eq.trans (b:=(sel (!k==0) (some (Zu ((bif Wg (Zy .i64 (Int.fdiv k (2 ^ min (Zq 56) (Zj .u64))))&&Wp (Zy .i64 (Zy .u64 (↑(BitVec.toNat (BitVec.ofInt (Zj .u64) k &&& BitVec.ofInt (Zj .u64) 72057594037927935)):Int))) then Zy .i64 (Int.fdiv k (2 ^ min (Zq 56) (Zj .u64)))*72057594037927936+Zy .i64 (Zy .u64 (↑(BitVec.toNat (BitVec.ofInt (Zj .u64) k &&& BitVec.ofInt (Zj .u64) 72057594037927935)):Int)) else 0)==k),[])) (some (Zu false,[])):Option (AV×Blocks))) (by kernel_rfl) ?_
  simp only [Zk,decide_eq_true_eq] at hpre
  obtain ⟨h0,h1⟩:=hpre
  rw [Kerb.key_hi h0 h1,Kerb.key_lo h0 h1,Kerb.key_sum]
  by_cases hk:k=0
  ·subst hk;rfl
  rw [sel_pos (by simpa using hk)]
  unfold Kerb.keyValid
  cases Wg (Kerb.keyClass k)&&Wp (Kerb.keySerial k)
  ·have q:((0:Int)==k)=false:=by simp;omega
   simp only [cond_false,q]
  ·simp only [cond_true,BEq.rfl]
 ·cases h
theorem w134:Walked Tryz.prog G 134 2 sp134:=by
 refine ⟨Tryz.f134,Tryz.func134,by decide +kernel,rfl,fun xs bl r h=> ?_⟩
 unfold sp134 at h
 split at h
 ·rename_i b n little
  obtain ⟨hpre,h2⟩:=chk_inv h;cases h2
  refine Eq.trans (b:=(Zp (chk (decide (Zx b≤70368744177664)) (some (Yq (b++Kerb.putN n (Zq 4) little),[]))) fun (r:AV×Blocks)=>onNilB (Zm r) (Wy (Xg r) fun l=>some (Yq l,[])):Option (AV×Blocks))) (by kernel_rfl) ?_
  simp only [decide_eq_true_eq] at hpre
  simp only [A0]
  rw [chk_of (by simp;omega)]
  rfl
 ·cases h
theorem w138:Walked Tryz.prog G 138 2 sp138:=by
 refine ⟨Tryz.f138,Tryz.func138,by decide +kernel,rfl,fun xs bl r h=> ?_⟩
 unfold sp138 at h
 split at h
 ·rename_i s
  obtain ⟨hpre,h2⟩:=chk_inv h;cases h2
  refine Eq.trans (b:=(sel (decide ((↑(Zx s):Int)>0)) (Zp (chk (decide (Zx s≤9223372036854775807)&&true) (some (Zu (Xq s [(46:UInt8),(64:UInt8)]&&decide (Zx s≤39)),[]))) fun (r:AV×Blocks)=>onNilB (Zm r) (AV.onBool (Xg r) fun b=>some (Zu b,[]))) (some (Zu false,[])):Option (AV×Blocks))) (by kernel_rfl) ?_
  simp only [A0]
  rw [chk_of (by rw [hpre];rfl)]
  simp only [Kerb.validName]
  cases s with
  | nil=>rfl
  | cons x r =>
   rw [sel_pos (by first | (simp;done) | (simp;omega)),Bool.and_comm]
   rfl
 ·cases h
theorem w139:Walked Tryz.prog G 139 2 sp139:=by
 refine ⟨Tryz.f139,Tryz.func139,by decide +kernel,rfl,fun xs bl r h=> ?_⟩
 unfold sp139 at h
 split at h
 ·rename_i s
  obtain ⟨hpre,h2⟩:=chk_inv h;cases h2
  refine Eq.trans (b:=(Zp (chk (decide (Zx s≤9223372036854775807)&&true) (some (Zu (Xq s [(64:UInt8)]&&decide (Zx s≤39)),[]))) fun (r:AV×Blocks)=>onNilB (Zm r) (AV.onBool (Xg r) fun b=>some (Zu b,[])):Option (AV×Blocks))) (by kernel_rfl) ?_
  simp only [A0]
  rw [chk_of (by rw [hpre];rfl),Bool.and_comm]
  rfl
 ·cases h
theorem w140:Walked Tryz.prog G 140 2 sp140:=by
 refine ⟨Tryz.f140,Tryz.func140,by decide +kernel,rfl,fun xs bl r h=> ?_⟩
 unfold sp140 at h
 split at h
 ·rename_i b n
  obtain ⟨hpre,h2⟩:=chk_inv h;cases h2
  refine Eq.trans (b:=(Zp (chk (decide (Zx b≤70368744177664)) (some (Yq (b++Kerb.putN n (Zq 1) false),[]))) fun (r:AV×Blocks)=>onNilB (Zm r) (Wy (Xg r) fun l=>some (Yq l,[])):Option (AV×Blocks))) (by kernel_rfl) ?_
  simp only [decide_eq_true_eq] at hpre
  simp only [A0]
  rw [chk_of (by simp;omega)]
  rfl
 ·cases h
theorem w142:Walked Tryz.prog G 142 2 sp142:=by
 refine ⟨Tryz.f142,Tryz.func142,by decide +kernel,rfl,fun xs bl r h=> ?_⟩
 unfold sp142 at h
 split at h
 ·rename_i b x y z
  obtain ⟨hpre,h2⟩:=chk_inv h;cases h2
  refine Eq.trans (b:=(Zp (chk (decide (Zx b+Zx x≤70368744177664)) (some (Yz (Wf b x),[]))) fun (r:AV×Blocks)=>onNilB (Zm r) (AV.onBs (Xg r) fun b=>Zp (chk (decide (Zx b+Zx y≤70368744177664)) (some (Yz (Wf b y),[]))) fun (r:AV×Blocks)=>onNilB (Zm r) (AV.onBs (Xg r) fun b=>Zp (chk (decide (Zx b+Zx z≤70368744177664)) (some (Yz (Wf b z),[]))) fun (r:AV×Blocks)=>onNilB (Zm r) (AV.onBs (Xg r) fun b=>some (Yz b,[])))):Option (AV×Blocks))) (by kernel_rfl) ?_
  simp only [decide_eq_true_eq] at hpre
  simp only [A0]
  rw [chk_of (by simp;omega),chk_of (by simp [Wf];omega),chk_of (by simp [Wf];omega)]
  rfl
 ·cases h
theorem w144:Walked Tryz.prog G 144 2 sp144:=by
 refine ⟨Tryz.f144,Tryz.func144,by decide +kernel,rfl,fun xs bl r h=> ?_⟩
 unfold sp144 at h
 split at h
 ·rename_i b n little
  obtain ⟨hpre,h2⟩:=chk_inv h;cases h2
  refine Eq.trans (b:=(Zp (chk (decide (Zx b≤70368744177664)) (some (Yq (b++Kerb.putN n (Zq 2) little),[]))) fun (r:AV×Blocks)=>onNilB (Zm r) (Wy (Xg r) fun l=>some (Yq l,[])):Option (AV×Blocks))) (by kernel_rfl) ?_
  simp only [decide_eq_true_eq] at hpre
  simp only [A0]
  rw [chk_of (by simp;omega)]
  rfl
 ·cases h
theorem w185:Walked Tryz.prog G 185 2 sp185:=by
 refine ⟨Tryz.f185,Tryz.func185,by decide +kernel,rfl,fun xs bl r h=> ?_⟩
 unfold sp185 at h
 split at h
 ·rename_i k little
  cases h
  refine Eq.trans (b:=(sel (!Wv k) (some (Yz [],[])) (sel little (some (Yz [(4:UInt8),Ym (Zq (Zy .u8 (Zy .i64 (Zy .i64 (2*k)+1))))],[])) (some (Yz [(4:UInt8),Ym (Zq (Zy .u8 (Zy .i64 (2*k))))],[]))):Option (AV×Blocks))) (by kernel_rfl) ?_
  by_cases h:1≤k∧k≤10
  ·have hk:k=1∨k=2∨k=3∨k=4∨k=5∨k=6∨k=7∨k=8∨k=9∨k=10:=by omega
   rcases hk with rfl | rfl | rfl | rfl | rfl | rfl | rfl | rfl | rfl | rfl<;>cases little<;>rfl
  ·have hk:Wv k=false:=by simp [Wv];omega
   by_cases h1:k<1
   ·simp [sel,Kerb.header,hk,h1]
   ·have h2:10<k:=by omega
    simp [sel,Kerb.header,hk,h1,h2]
 ·cases h
theorem w196:Walked Tryz.prog G 196 2 sp196:=by
 refine ⟨Tryz.f196,Tryz.func196,by decide +kernel,rfl,fun xs bl r h=> ?_⟩
 unfold sp196 at h
 split at h
 ·rename_i b
  cases h
  refine Eq.trans (b:=(sel (decide ((↑(Zx b):Int)<2)) (some (Yx [Zz .i64 0,Zu false,Zz .i64 101],[])) (chk (decide (0<(↑(Zx b):Int))) (sel (!Zf b (Zq 0) (0:UInt8)==(4:UInt8)) (some (Yx [Zz .i64 0,Zu false,Zz .i64 39],[])) (chk (decide (1<(↑(Zx b):Int))) (sel (!Wv (Zy .i64 (Xm (Zy .i64 (↑(Yk (Zf b (Zq 1) (0:UInt8))):Int)) 2))) (some (Yx [Zz .i64 0,Zu false,Zz .i64 40],[])) (chk (decide (1<(↑(Zx b):Int))) (some (Yx [Zz .i64 (Zy .i64 (Xm (Zy .i64 (↑(Yk (Zf b (Zq 1) (0:UInt8))):Int)) 2)),Zu (Ym (Zq (Xz (↑(Yk (Zf b (Zq 1) (0:UInt8))):Int) (↑(Yk (2:UInt8)):Int)))==(1:UInt8)),Zz .i64 0],[]))))))):Option (AV×Blocks))) (by kernel_rfl) ?_
  unfold Xh
  by_cases h1:b.length<2
  ·rw [sel_pos (by simp;omega)]
   simp [h1]
  rw [sel_neg (by simp;omega),chk_of (by simp;omega),if_neg h1]
  by_cases h2:b.getD 0 0=4
  ·have hb:=(b.getD 1 0).toNat_lt
   have e:Zy Zw (Xm (Zy Zw ((b.getD (Zq 1) 0).toNat:Int)) 2)=(((b.getD 1 0).toNat / 2:Nat):Int):=by
    rw [show Zq 1=1 from rfl,wrap_i64 (n:=((b.getD 1 0).toNat:Int)) (by omega) (by omega),Yn (by omega),wrap_i64 (by omega) (by omega)];omega
   have e2:(Ym (Zq (Xz ((b.getD (Zq 1) 0).toNat:Int) ((2:UInt8).toNat:Int)))==1)=decide ((b.getD 1 0).toNat % 2=1):=by
    rw [show Zq 1=1 from rfl,Yv (by omega)]
    have e3:Zq (((b.getD 1 0).toNat:Int) % ((2:UInt8).toNat:Int))=(b.getD 1 0).toNat % 2:=by
     show Zq (((b.getD 1 0).toNat:Int) % 2)=_
     omega
    rw [e3]
    rcases Nat.mod_two_eq_zero_or_one (b.getD 1 0).toNat with h | h<;>rw [h]<;>rfl
   rw [sel_neg (by simp [h2] at *;exact h2),chk_of (by simp;omega),if_neg (by simpa using h2),e,e2]
   cases hk:Wv (((b.getD 1 0).toNat / 2:Nat):Int)
   ·rfl
   ·rw [Wd,sel_false,chk_of (by simp;omega)]
    rfl
  ·rw [sel_pos (by simpa using h2),if_pos (by simpa using h2)]
 ·cases h
theorem w200:Walked Tryz.prog G 200 2 sp200:=by
 refine ⟨Tryz.f200,Tryz.func200,by decide +kernel,rfl,fun xs bl r h=> ?_⟩
 unfold sp200 at h
 split at h
 ·rename_i b pos n
  obtain ⟨hpre,h2⟩:=chk_inv h;cases h2
  refine Eq.trans (b:=(Zp (chk (decide (Zx b≤4611686018427387904)) (some (Zz .i64 (Xu b pos n),[]))) fun (r:AV×Blocks)=>onNilB (Zm r) (Xp .i64 (Xg r) fun n_1=>sel (!n_1==0) (some (Yx [Yz [],Zz .i64 0,Zz .i64 n_1],[])) (chk (decide (0≤pos)&&decide (pos≤Zy .i64 (pos+n))&&decide (Zy .i64 (pos+n)≤(↑(Zx b):Int))) (Zp (chk (decide (Zx (List.drop (Zq pos) (List.take (Zq (Zy .i64 (pos+n))) b))≤140737488355328)) (some (Yz (List.drop (Zq pos) (List.take (Zq (Zy .i64 (pos+n))) b)),[]))) fun (r:AV×Blocks)=>onNilB (Zm r) (AV.onBs (Xg r) fun b=>some (Yx [Yz b,Zz .i64 (Zy .i64 (pos+n)),Zz .i64 0],[]))))):Option (AV×Blocks))) (by kernel_rfl) ?_
  have hb:=of_decide_eq_true hpre
  simp only [A0]
  rw [chk_of (by simp;omega)]
  unfold Wq
  by_cases hr:Xu b pos n=0
  ·obtain ⟨q1,q2,q3,q4⟩:=Kerb.room_zero.1 hr
   have e:List.drop (Zq pos) (List.take (Zq (pos+n)) b)=Kerb.cut b pos n:=by
    rw [show Zq (pos+n)=pos.toNat+n.toNat by omega,List.drop_take,show pos.toNat+n.toNat-pos.toNat=n.toNat by omega]
    rfl
   have hc:=Kerb.cut_length hr
   rw [sel_neg (by simp [hr]),if_pos hr,wrap_i64 (by omega) (by omega),e,chk_of (by simp;omega),chk_of (by simp;omega)]
  ·rw [sel_pos (by simpa using hr),if_neg hr]
 ·cases h
theorem w233:Walked Tryz.prog G 233 2 sp233:=by
 refine ⟨Tryz.f233,Tryz.func233,by decide +kernel,rfl,fun xs bl r h=> ?_⟩
 unfold sp233 at h
 split at h
 ·rename_i b pos k little
  obtain ⟨hpre,h2⟩:=chk_inv h;cases h2
  refine Eq.trans (b:=(Zp (chk (decide (Zx b≤140737488355328)) (some (Yx [Yz (Kerb.GotB.val (Wq b pos k)),Zz .i64 (Kerb.GotB.next (Wq b pos k)),Zz .i64 (Kerb.GotB.err (Wq b pos k))],[]))) (kT fun vs=>cBs vs fun b r=>cInt .i64 r fun n r=>cInt .i64 r fun n_1 r=>onNil r (sel (!n_1==0) (some (Yx [Zz .i64 0,Zz .i64 0,Zz .i64 n_1],[])) (Zp (loopM (fun (st:List AV)=>cInt .i64 st fun n r=>cBool r fun b r=>cBs r fun b_1 r=>cInt .i64 r fun n_2 r=>cInt .i64 r fun n_3 r=>let t0:BitVec (Zj .i64):=BitVec.ofInt (Zj .i64) (Zy .i64 (n_3*2 ^ min (Zq 8) (Zj .i64)));cInt .i64 r fun n_4 r=>let t1:Int:=Zy .i64 (Zy .i64 (n-1)-n_4);onNil r (sel (decide (n_4<n)) (sel b (chk (decide (0≤t1)&&decide (t1<(↑(Zx b_1):Int))) (some (Yf [Zz .i64 n,Zu b,Yz b_1,Zz .i64 n_2,Zz .i64 (Zy .i64 (↑(BitVec.toNat (t0 ||| BitVec.ofInt (Zj .i64) (Zy .i64 (↑(Yk (Zf b_1 (Zq t1) (0:UInt8))):Int)))):Int)),Zz .i64 (Zy .i64 (n_4+1))]))) (chk (decide (0≤n_4)&&decide (n_4<(↑(Zx b_1):Int))) (some (Yf [Zz .i64 n,Zu b,Yz b_1,Zz .i64 n_2,Zz .i64 (Zy .i64 (↑(BitVec.toNat (t0 ||| BitVec.ofInt (Zj .i64) (Zy .i64 (↑(Yk (Zf b_1 (Zq n_4) (0:UInt8))):Int)))):Int)),Zz .i64 (Zy .i64 (n_4+1))])))) (some (Yp (Yj 0,[Zz .i64 n,Zu b,Yz b_1,Zz .i64 n_2,Zz .i64 n_3,Zz .i64 n_4]))))) [Zz .i64 k,Zu little,Yz b,Zz .i64 n,Zz .i64 0,Zz .i64 0]) fun (r:Ex×List AV)=>cInt .i64 (Zm r) fun n r_1=>cBool r_1 fun b r_2=>cBs r_2 fun b r_3=>cInt .i64 r_3 fun n r_4=>cInt .i64 r_4 fun n_2 r_5=>cInt .i64 r_5 fun n_3 r_6=>onNil r_6 (exK r.1 none fun (j:Nat)=>sel (Xj j 0) (some (Yx [Zz .i64 n_2,Zz .i64 n,Zz .i64 0],[])) none)))):Option (AV×Blocks))) (by kernel_rfl) ?_
  delta kT
  try dsimp only [cStr,cBs,cBool,cU8,cInt,cSl,l63]
  simp only [Zk,decide_eq_true_eq] at hpre
  obtain ⟨⟨hb,hk0⟩,hk4⟩:=hpre
  simp only [A0]
  rw [chk_of (by simpa using hb)]
  unfold Kerb.get Wq
  by_cases hr:Xu b pos k=0
  case neg =>
   rw [if_neg hr,if_neg hr,sel_pos (by simpa using hr)]
  rw [if_pos hr,if_pos hr,sel_neg (by simp)]
  obtain ⟨q1,q2,q3,q4⟩:=Kerb.room_zero.1 hr
  have hcl:=Kerb.cut_length hr
  obtain ⟨C,hC⟩:∃ C,C=Kerb.cut b pos k:=⟨_,rfl⟩
  rw [← hC] at hcl ⊢
  obtain ⟨L,hL⟩:∃ L,L=cond little C.reverse C:=⟨_,rfl⟩
  have hLl:L.length=k.toNat:=by rw [hL];cases little<;>simp [hcl]
  rw [← hL]
  refine loop_rounds (fun i:Nat=>[Zz Zw k,Zu little,Yz C,Zz Zw (pos+k),Zz Zw (Kerb.valB (L.take i)),Zz Zw (i:Int)]) (fun i=>i≤k.toNat) (fun i=>k.toNat-i)
   (fun r=>r=(Yj 0,[Zz Zw k,Zu little,Yz C,Zz Zw (pos+k),Zz Zw (Kerb.valB L),Zz Zw k])) 0 (Yb _) rfl ?_ ?_
  ·intro i hi
   simp only [A0]
   by_cases hlt:i<k.toNat
   ·rw [sel_pos (by simp;omega)]
    have hv:=Kerb.valB_bd (l:=L.take i) (by simp;omega)
    have hs:=Kerb.valB_take (l:=L) (i:=i) (by omega)
    have hgd:L.getD i 0=C.getD (cond little (k.toNat-1-i) i) 0:=by
     rw [hL]
     cases little
     ·rfl
     ·show C.reverse.getD i 0=_
      rw [Kerb.getD_reverse (by omega),hcl];rfl
    cases little
    ·rw [sel_neg rfl,chk_of (by simp;omega),Zn]
     rw [Kerb.shl8_or _ hv.1 (by omega),wrap_i64 (n:=(i:Int)+1) (by omega) (by omega)]
     refine ⟨_,rfl,i+1,?_,by omega,by dsimp only;omega⟩
     dsimp only
     rw [hs,hgd];rfl
    ·rw [sel_pos rfl,wrap_i64 (n:=k-1) (by omega) (by omega),wrap_i64 (n:=k-1-(i:Int)) (by omega) (by omega),chk_of (by simp;omega),show (k-1-(i:Int)).toNat=k.toNat-1-i from by omega]
     rw [Kerb.shl8_or _ hv.1 (by omega),wrap_i64 (n:=(i:Int)+1) (by omega) (by omega)]
     refine ⟨_,rfl,i+1,?_,by omega,by dsimp only;omega⟩
     dsimp only
     rw [hs,hgd];rfl
   ·rw [sel_neg (by simp;omega)]
    refine ⟨_,rfl,?_⟩
    show _=_
    rw [Zh (by omega),show (i:Int)=k from by omega]
  ·rintro r rfl
   simp only [A0]
   rw [sel_pos (Yw _)]
 ·cases h
theorem w236:Walked Tryz.prog G 236 2 sp236:=by
 refine ⟨Tryz.f236,Tryz.func236,by decide +kernel,rfl,fun xs bl r h=> ?_⟩
 unfold sp236 at h
 split at h
 ·rename_i els
  obtain ⟨hpre,h2⟩:=chk_inv h;cases h2
  refine Eq.trans (b:=(Zp (loopM (fun (st:List AV)=>cSl 1 st fun b r=>cInt .i64 r fun n r=>cSl 1 r fun b_1 r=>cInt .i64 r fun n_1 r=>cInt .i64 r fun n_2 r=>onNil r (sel (decide (n_2<n_1)) (chk (decide (0≤n_2)&&decide (n_2<(↑(Zx b_1):Int))&&true) (AV.onBs (Zf b_1 (Zq n_2) Yd) fun b_2=>sel (decide (Zy .i64 (n+(↑(Zx b_2):Int))<0)) none (some (Yf [Zg 1 b,Zz .i64 (Zy .i64 (n+(↑(Zx b_2):Int))),Zg 1 b_1,Zz .i64 n_1,Zz .i64 (Zy .i64 (n_2+1))])))) (some (Yp (Yj 0,[Zg 1 b,Zz .i64 n,Zg 1 b_1,Zz .i64 n_1,Zz .i64 n_2]))))) [Zg 1 els,Zz .i64 0,Zg 1 els,Zz .i64 (↑(Zx els):Int),Zz .i64 0]) fun (r:Ex×List AV)=>cSl 1 (Zm r) fun b r_1=>cInt .i64 r_1 fun n r_2=>cSl 1 r_2 fun b_1 r_3=>cInt .i64 r_3 fun n_1 r_4=>cInt .i64 r_4 fun n_2 r_5=>onNil r_5 (exK r.1 none fun (j:Nat)=>sel (Xj j 0) (Zp (chk (decide (0≤n)&&decide (n≤140737488355328)) (some (Yq [],[]))) (kO fun l=>Zp (loopM (fun (st:List AV)=>onCons st fun x r=>Wy x fun b=>cSl 1 r fun b_2 r=>cInt .i64 r fun n r=>cInt .i64 r fun n_3 r=>onNil r (sel (decide (n_3<n)) (chk (decide (0≤n_3)&&decide (n_3<(↑(Zx b_2):Int))&&true) (AV.onBs (Zf b_2 (Zq n_3) Yd) fun b_3=>chk (room (Zx b+Zx b_3) 1) (some (Yf [Yq (b++b_3),Zg 1 b_2,Zz .i64 n,Zz .i64 (Zy .i64 (n_3+1))])))) (some (Yp (Yj 2,[Yq b,Zg 1 b_2,Zz .i64 n,Zz .i64 n_3]))))) [Yq l,Zg 1 b,Zz .i64 (↑(Zx b):Int),Zz .i64 0]) fun (r:Ex×List AV)=>onCons (Zm r) fun x r_6=>Wy x fun b=>cSl 1 r_6 fun b_2 r_7=>cInt .i64 r_7 fun n r_8=>cInt .i64 r_8 fun n r_9=>onNil r_9 (exK r.1 none fun (j:Nat)=>sel (Xj j 2) (some (Yq b,[])) none))) none):Option (AV×Blocks))) (by kernel_rfl) ?_
  delta kO
  try dsimp only [cStr,cBs,cBool,cU8,cInt,cSl,l63]
  simp only [Zk,decide_eq_true_eq] at hpre
  obtain ⟨⟨ha,hl⟩,hbig⟩:=hpre
  refine loop_rounds (fun i:Nat=>[Zg 1 els,Zz Zw ((catB (els.take i)).length:Int),Zg 1 els,Zz Zw (els.length:Int),Zz Zw (i:Int)]) (fun i=>i≤els.length) (fun i=>els.length-i)
   (fun r=>r=(Yj 0,[Zg 1 els,Zz Zw ((catB els).length:Int),Zg 1 els,Zz Zw (els.length:Int),Zz Zw (els.length:Int)])) 0 (Yb _) rfl ?_ ?_
  ·intro i hi
   simp only [A0]
   by_cases hlt:i<els.length
   ·obtain ⟨l,h1,h2,h3⟩:=Kerb.cat_step ha hlt
    rw [sel_pos (by simp;omega),chk_of (by simp;omega),Zn,h1,onBs_bs,wrap_i64 (n:=((catB (els.take i)).length:Int)+(l.length:Int)) (by omega) (by omega),sel_neg (by simp;omega),wrap_i64 (by omega) (by omega)]
    refine ⟨_,rfl,i+1,?_,by omega,by dsimp only;omega⟩
    dsimp only
    rw [h2,List.length_append,Int.natCast_add]
    rfl
   ·rw [sel_neg (by simp;omega)]
    refine ⟨_,rfl,?_⟩
    show _=_
    rw [Zh (by omega),show i=els.length from by omega]
  rintro r rfl
  simp only [A0]
  rw [sel_pos (Yw _),chk_of (by simp;omega)]
  refine loop_rounds (fun i:Nat=>[Yq (catB (els.take i)),Zg 1 els,Zz Zw (els.length:Int),Zz Zw (i:Int)]) (fun i=>i≤els.length) (fun i=>els.length-i)
   (fun r=>r=(Yj 2,[Yq (catB els),Zg 1 els,Zz Zw (els.length:Int),Zz Zw (els.length:Int)])) 0 (Yb _) rfl ?_ ?_
  ·intro i hi
   simp only [A0]
   by_cases hlt:i<els.length
   ·obtain ⟨l,h1,h2,h3⟩:=Kerb.cat_step ha hlt
    rw [sel_pos (by simp;omega),chk_of (by simp;omega),Zn,h1,onBs_bs,chk_of (Xb (by omega)),wrap_i64 (by omega) (by omega)]
    refine ⟨_,rfl,i+1,?_,by omega,by dsimp only;omega⟩
    dsimp only
    rw [h2]
    rfl
   ·rw [sel_neg (by simp;omega)]
    refine ⟨_,rfl,?_⟩
    show _=_
    rw [Zh (by omega),show i=els.length from by omega]
  rintro r rfl
  simp only [A0]
  rw [sel_pos (Yw _)]
 ·cases h
theorem w241:Walked Tryz.prog G 241 2 sp241:=by
 refine ⟨Tryz.f241,Tryz.func241,by decide +kernel,rfl,fun xs bl r h=> ?_⟩
 unfold sp241 at h
 split at h
 ·rename_i b pos k little
  obtain ⟨hpre,h2⟩:=chk_inv h;cases h2
  refine Eq.trans (b:=(Zp (chk (decide (Zx b≤4611686018427387904)) (some (Zz .i64 (Xu b pos k),[]))) (kI .i64 fun n=>sel (!n==0) (some (Yx [Zz .i64 0,Zz .i64 0,Zz .i64 n],[])) (Zp (loopM (fun (st:List AV)=>cBs st fun b r=>cInt .i64 r fun n r=>cInt .i64 r fun n_1 r=>cBool r fun b_1 r=>cInt .i64 r fun n_2 r=>let t0:BitVec (Zj .i64):=BitVec.ofInt (Zj .i64) (Zy .i64 (n_2*2 ^ min (Zq 8) (Zj .i64)));cInt .i64 r fun n_3 r=>cInt .i64 r fun n_4 r=>let t1:Int:=Zy .i64 (n+Zy .i64 (Zy .i64 (n_1-1)-n_4));onNil r (sel (decide (n_4<n_3)) (sel b_1 (chk (decide (0≤t1)&&decide (t1<(↑(Zx b):Int))) (some (Yf [Yz b,Zz .i64 n,Zz .i64 n_1,Zu b_1,Zz .i64 (Zy .i64 (↑(BitVec.toNat (t0 ||| BitVec.ofInt (Zj .i64) (Zy .i64 (↑(Yk (Zf b (Zq t1) (0:UInt8))):Int)))):Int)),Zz .i64 n_3,Zz .i64 (Zy .i64 (n_4+1))]))) (chk (decide (0≤Zy .i64 (n+n_4))&&decide (Zy .i64 (n+n_4)<(↑(Zx b):Int))) (some (Yf [Yz b,Zz .i64 n,Zz .i64 n_1,Zu b_1,Zz .i64 (Zy .i64 (↑(BitVec.toNat (t0 ||| BitVec.ofInt (Zj .i64) (Zy .i64 (↑(Yk (Zf b (Zq (Zy .i64 (n+n_4))) (0:UInt8))):Int)))):Int)),Zz .i64 n_3,Zz .i64 (Zy .i64 (n_4+1))])))) (some (Yp (Yj 0,[Yz b,Zz .i64 n,Zz .i64 n_1,Zu b_1,Zz .i64 n_2,Zz .i64 n_3,Zz .i64 n_4]))))) [Yz b,Zz .i64 pos,Zz .i64 k,Zu little,Zz .i64 0,Zz .i64 k,Zz .i64 0]) fun (r:Ex×List AV)=>cBs (Zm r) fun b r_1=>cInt .i64 r_1 fun n r_2=>cInt .i64 r_2 fun n_1 r_3=>cBool r_3 fun b r_4=>cInt .i64 r_4 fun n_2 r_5=>cInt .i64 r_5 fun n_3 r_6=>cInt .i64 r_6 fun n_4 r_7=>onNil r_7 (exK r.1 none fun (j:Nat)=>sel (Xj j 0) (some (Yx [Zz .i64 n_2,Zz .i64 (Zy .i64 (n+n_1)),Zz .i64 0],[])) none))):Option (AV×Blocks))) (by kernel_rfl) ?_
  delta kI
  try dsimp only [cStr,cBs,cBool,cU8,cInt,cSl,l63]
  simp only [Zk,decide_eq_true_eq] at hpre
  obtain ⟨⟨hb,hk0⟩,hk4⟩:=hpre
  simp only [A0]
  rw [chk_of (by simpa using hb)]
  unfold Kerb.get
  by_cases hr:Xu b pos k=0
  ·rw [sel_neg (by simp [hr]),if_pos hr]
   obtain ⟨q1,q2,q3,q4⟩:=Kerb.room_zero.1 hr
   have hcl:=Kerb.cut_length hr
   obtain ⟨L,hL⟩:∃ L,L=cond little (Kerb.cut b pos k).reverse (Kerb.cut b pos k):=⟨_,rfl⟩
   have hLl:L.length=k.toNat:=by rw [hL];cases little<;>simp [hcl]
   rw [← hL]
   refine loop_rounds (fun i:Nat=>[Yz b,Zz Zw pos,Zz Zw k,Zu little,Zz Zw (Kerb.valB (L.take i)),Zz Zw k,Zz Zw (i:Int)]) (fun i=>i≤k.toNat) (fun i=>k.toNat-i)
    (fun r=>r=(Yj 0,[Yz b,Zz Zw pos,Zz Zw k,Zu little,Zz Zw (Kerb.valB L),Zz Zw k,Zz Zw k])) 0 (Yb _) rfl ?_ ?_
   ·intro i hi
    simp only [A0]
    by_cases hlt:i<k.toNat
    ·rw [sel_pos (by simp;omega)]
     have hv:=Kerb.valB_bd (l:=L.take i) (by simp;omega)
     have hs:=Kerb.valB_take (l:=L) (i:=i) (by omega)
     have hgd:L.getD i 0=b.getD (cond little (pos.toNat+(k.toNat-1-i)) (pos.toNat+i)) 0:=by
      rw [hL]
      cases little
      ·exact Kerb.cut_getD hlt
      ·show (Kerb.cut b pos k).reverse.getD i 0=_
       rw [Kerb.getD_reverse (by omega),hcl,Kerb.cut_getD (by omega)];rfl
     cases little
     ·rw [sel_neg rfl,wrap_i64 (n:=pos+(i:Int)) (by omega) (by omega),chk_of (by simp;omega),show (pos+(i:Int)).toNat=pos.toNat+i from by omega]
      rw [Kerb.shl8_or _ hv.1 (by omega),wrap_i64 (n:=(i:Int)+1) (by omega) (by omega)]
      refine ⟨_,rfl,i+1,?_,by omega,by dsimp only;omega⟩
      dsimp only
      rw [hs,hgd];rfl
     ·rw [sel_pos rfl,wrap_i64 (n:=k-1) (by omega) (by omega),wrap_i64 (n:=k-1-(i:Int)) (by omega) (by omega),wrap_i64 (n:=pos+(k-1-(i:Int))) (by omega) (by omega),chk_of (by simp;omega),show (pos+(k-1-(i:Int))).toNat=pos.toNat+(k.toNat-1-i) from by omega]
      rw [Kerb.shl8_or _ hv.1 (by omega),wrap_i64 (n:=(i:Int)+1) (by omega) (by omega)]
      refine ⟨_,rfl,i+1,?_,by omega,by dsimp only;omega⟩
      dsimp only
      rw [hs,hgd];rfl
    ·rw [sel_neg (by simp;omega)]
     refine ⟨_,rfl,?_⟩
     show _=_
     rw [Zh (by omega),show (i:Int)=k from by omega]
   ·rintro r rfl
    simp only [A0]
    rw [sel_pos (Yw _),wrap_i64 (by omega) (by omega)]
  ·rw [sel_pos (by simpa using hr),if_neg hr]
 ·cases h
theorem w248:Walked Tryz.prog G 248 2 sp248:=by
 refine ⟨Tryz.f248,Tryz.func248,by decide +kernel,rfl,fun xs bl r h=> ?_⟩
 unfold sp248 at h
 split at h
 ·rename_i s c
  cases h
  refine Eq.trans (b:=(some (Zz .i64 (Wb c s),[]):Option (AV×Blocks))) (by kernel_rfl) ?_
  rfl
 ·cases h
theorem w259:Walked Tryz.prog G 259 2 sp259:=by
 refine ⟨Tryz.f259,Tryz.func259,by decide +kernel,rfl,fun xs bl r h=> ?_⟩
 unfold sp259 at h
 split at h
 ·rename_i s c
  cases h
  refine Eq.trans (b:=(some (Zz .i64 (Wb c s),[]):Option (AV×Blocks))) (by kernel_rfl) ?_
  rfl
 ·cases h
theorem w11:Walked Tryz.prog G 11 3 sp11:=by
 refine ⟨Tryz.f11,Tryz.func11,by decide +kernel,rfl,fun xs bl r h=> ?_⟩
 unfold sp11 at h
 split at h
 ·rename_i n
  obtain ⟨hpre,h2⟩:=chk_inv h;cases h2
  refine Eq.trans (b:=(chk (decide (0≤Xz n 3)&&decide (Xz n 3<(↑(Zx [Zv [(97:UInt8),(110:UInt8),(110:UInt8)],Zv [(98:UInt8),(111:UInt8),(98:UInt8)],Zv [(99:UInt8),(97:UInt8),(116:UInt8)]]):Int))&&true) (Wj (Zf [Zv [(97:UInt8),(110:UInt8),(110:UInt8)],Zv [(98:UInt8),(111:UInt8),(98:UInt8)],Zv [(99:UInt8),(97:UInt8),(116:UInt8)]] (Zq (Xz n 3)) Yd) fun b=>Zp (chk (decide (0≤Zy .i64 (Xm n 3))) (some (Zv (Kerb.realm (Zy .i64 (Xm n 3))),[]))) fun (r:AV×Blocks)=>onNilB (Zm r) (Wj (Xg r) fun b_1=>some (Xd [Zv b,Zv [],Zv b_1],[]))):Option (AV×Blocks))) (by kernel_rfl) ?_
  have hn:0≤n:=by first | exact of_decide_eq_true hpre | (simp only [Zk,decide_eq_true_eq] at hpre;exact hpre.1)
  have ht:Xz n 3=n % 3:=Yv hn
  have hcase:n % 3=0∨n % 3=1∨n % 3=2:=by omega
  simp only [Zk,decide_eq_true_eq] at hpre
  have hd:Xm n 3=n / 3:=Yn hn
  rw [hd,wrap_i64 (by omega) (by omega)]
  have hq:decide ((0:Int)≤n / 3)=true:=by simp;omega
  rcases hcase with e | e | e<;>simp [ht,e,chk,Wj,Kerb.user,hq,onNilB]<;>omega
 ·cases h
theorem w18:Walked Tryz.prog G 18 3 sp18:=by
 refine ⟨Tryz.f18,Tryz.func18,by decide +kernel,rfl,fun xs bl r h=> ?_⟩
 unfold sp18 at h
 split at h
 ·rename_i n
  obtain ⟨hpre,h2⟩:=chk_inv h;cases h2
  refine Eq.trans (b:=(chk (decide (0≤Xz n 3)&&decide (Xz n 3<(↑(Zx [Xd [Zv [(109:UInt8),(97:UInt8),(105:UInt8),(108:UInt8)],Zv [],Zv []],Xd [Zv [(110:UInt8),(102:UInt8),(115:UInt8)],Zv [(104:UInt8),(111:UInt8),(109:UInt8),(101:UInt8)],Zv []],Xd [Zv [(107:UInt8),(114:UInt8),(98:UInt8),(116:UInt8),(103:UInt8),(116:UInt8)],Zv [(65:UInt8),(84:UInt8),(72:UInt8)],Zv []]]):Int))&&true) (Wx (Zf [Xd [Zv [(109:UInt8),(97:UInt8),(105:UInt8),(108:UInt8)],Zv [],Zv []],Xd [Zv [(110:UInt8),(102:UInt8),(115:UInt8)],Zv [(104:UInt8),(111:UInt8),(109:UInt8),(101:UInt8)],Zv []],Xd [Zv [(107:UInt8),(114:UInt8),(98:UInt8),(116:UInt8),(103:UInt8),(116:UInt8)],Zv [(65:UInt8),(84:UInt8),(72:UInt8)],Zv []]] (Zq (Xz n 3)) Yd) fun cs=>onCons cs fun x r=>Wj x fun b=>onCons r fun x r=>Wj x fun b_1=>onCons r fun x r=>Wj x fun b_2=>onNil r (Zp (chk (decide (0≤Zy .i64 (Xm n 3))) (some (Zv (Kerb.realm (Zy .i64 (Xm n 3))),[]))) fun (r:AV×Blocks)=>onNilB (Zm r) (Wj (Xg r) fun b_3=>some (Xd [Zv b,Zv b_1,Zv b_3],[])))):Option (AV×Blocks))) (by kernel_rfl) ?_
  have hn:0≤n:=by first | exact of_decide_eq_true hpre | (simp only [Zk,decide_eq_true_eq] at hpre;exact hpre.1)
  have ht:Xz n 3=n % 3:=Yv hn
  have hcase:n % 3=0∨n % 3=1∨n % 3=2:=by omega
  simp only [Zk,decide_eq_true_eq] at hpre
  have hd:Xm n 3=n / 3:=Yn hn
  rw [hd,wrap_i64 (by omega) (by omega)]
  have hq:decide ((0:Int)≤n / 3)=true:=by simp;omega
  rcases hcase with e | e | e<;>simp [ht,e,chk,Wj,Wx,onCons,onNil,Kerb.service,hq,onNilB]<;>omega
 ·cases h
end Go.Proofs.YtaikjfcgemjghaaGreat
