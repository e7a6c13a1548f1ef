/- What the functions of this seat compute. -/
import Derived.Test.YtaikjfcgemjghaaGreatTab
import Derived.Test.YtaikjfcgemjghaaGreatKerbPlain
import Derived.Test.YtaikjfcgemjghaaGreatAbsStep
import Derived.Test.YtaikjfcgemjghaaGreatKerbKaPlain
import Derived.Test.YtaikjfcgemjghaaGreatKerbKaRef
import Derived.Test.YtaikjfcgemjghaaGreatKerbCli3
import Derived.Test.YtaikjfcgemjghaaGreatKerbCli4
import Derived.Test.YtaikjfcgemjghaaGreatKerbCli5
import Derived.Test.YtaikjfcgemjghaaGreatKerbSrvL
import Derived.Test.YtaikjfcgemjghaaGreatKerbKac2
open Go.Abs.AV renaming int→Zz,bool→Zv,str→Zq,sl→Zg,tup→Yx,bs→Yk,undef→Yf,ownB→Yn,onInt→Xy,onAgg→Xg,onOwnB→Wj,agg→Wh
open Go.IntKind renaming wrap→Zy,i64→Zx,bits→Zd,u64→Ym
open List renaming length→Zw,getD→Zb,length_map→Zn,take_of_length_le→Yq,drop_eq_nil_of_le→Xv,take→Vz,drop→Vy
open Int renaming toNat→Zu,toNat_natCast→Zm,tmod_eq_emod_of_nonneg→Yu,tmod→Yp,tdiv_eq_ediv_of_nonneg→Wv,tdiv→Wp
open Kerb.Entry renaming named→Zj,av→Zh
open Bool renaming and_eq_true→Zk,true_and→Ww,not_true→Wk,false_and→Wd,and_self→Wg
open Kerb renaming within→Zp,crossAt→Yj,map_toEntry→Yh,least→Xz,room_ok→Xx,printable→Xq,imin→Xj,noCross→Xk,bfd→Xp,readHead→Xd,getD_ent→Xf,lifeTo→Xn,isKind→Xm,ents_of→Xh,room→Wx,noEntry→Wu,isSerial→Wf,putText→Wb,isClass→Wn,findEnt→Wm,setEnt→Vx
open Option renaming bind→Zf
open Kerb.Cross renaming av→Yz
open Prod renaming snd→Yy,fst→Wy
open UInt8 renaming ofNat→Yw,toNat→Yd
open Sum renaming inr→Yv,inl→Yb
open Go.Abs.Ex renaming exit→Yg
open Nat renaming beq_refl→Xw,zero_le→Xu,beq→Xb,blt→Wz,lt_or_ge→Wq
namespace Go.Proofs.YtaikjfcgemjghaaGreat
open Go Go.Abs Go.Proofs
set_option linter.unusedVariables false
set_option linter.unusedSimpArgs false
set_option maxRecDepth 100000
theorem w13:Walked Tryz.prog G 13 1 sp13:=by
 refine ⟨Tryz.f13,Tryz.func13,by decide +kernel,rfl,fun xs bl r h=> ?_⟩
 unfold sp13 at h
 split at h
 ·rename_i n
  obtain ⟨hpre,h2⟩:=chk_inv h;cases h2
  refine Eq.trans (b:=(some (Zz .u64 (Zy .u64 (↑(BitVec.toNat (BitVec.ofInt (Zd .u64) 72057594037927936 ||| BitVec.ofInt (Zd .u64) (Zy .u64 (Zy .i64 (1+n))))):Int)),[]):Option (AV×Blocks))) (by kernel_rfl) ?_
  rfl
 ·cases h
theorem w16:Walked Tryz.prog G 16 1 sp16:=by
 refine ⟨Tryz.f16,Tryz.func16,by decide +kernel,rfl,fun xs bl r h=> ?_⟩
 unfold sp16 at h
 split at h
 ·rename_i n
  obtain ⟨hpre,h2⟩:=chk_inv h;cases h2
  refine Eq.trans (b:=(some (Zz .u64 (Zy .u64 (↑(BitVec.toNat (BitVec.ofInt (Zd .u64) 144115188075855872 ||| BitVec.ofInt (Zd .u64) (Zy .u64 (Zy .i64 (1+n))))):Int)),[]):Option (AV×Blocks))) (by kernel_rfl) ?_
  rfl
 ·cases h
theorem w26:Walked Tryz.prog G 26 1 sp26:=by
 refine ⟨Tryz.f26,Tryz.func26,by decide +kernel,rfl,fun xs bl r h=> ?_⟩
 unfold sp26 at h
 split at h
 ·rename_i rl els rm fls
  obtain ⟨hpre,h2⟩:=chk_inv h;cases h2
  refine Eq.trans (b:=(sel (!rl==rm) (some (Zv false,[])) (sel (!(↑(Zw els):Int)==(↑(Zw fls):Int)) (some (Zv false,[])) (Zf (loopM (fun (st:List AV)=>cStr st fun b r=>cSl 9 r fun b_1 r=>cStr r fun b_2 r=>cSl 9 r fun b_3 r=>cBool r fun b_4 r=>cInt .i64 r fun n r=>onNil r (sel (decide (n<(↑(Zw b_1):Int))) (chk (decide (0≤n)&&decide (n<(↑(Zw b_1):Int))&&true) (Xg (Zb b_1 (Zu n) Yf) fun cs=>cStr cs fun b_5 r=>cStr r fun b_6 r=>cInt .u64 r fun n_1 r=>cInt .i64 r fun n_2 r=>cInt .i64 r fun n_3 r=>cInt .i64 r fun n_4 r=>cInt .i64 r fun n_5 r=>cInt .i64 r fun n_6 r=>cInt .i64 r fun n_7 r=>onNil r (chk (decide (0≤n)&&decide (n<(↑(Zw b_3):Int))&&true) (Xg (Zb b_3 (Zu n) Yf) fun cs=>cStr cs fun b_7 r=>cStr r fun b_8 r=>cInt .u64 r fun n_8 r=>cInt .i64 r fun n_9 r=>cInt .i64 r fun n_10 r=>cInt .i64 r fun n_11 r=>cInt .i64 r fun n_12 r=>cInt .i64 r fun n_13 r=>cInt .i64 r fun n_14 r=>onNil r (sel (!(b_5==b_7&&(b_6==b_8&&(n_1==n_8&&(n_2==n_9&&(n_3==n_10&&(n_4==n_11&&(n_5==n_12&&(n_6==n_13&&n_7==n_14))))))))) (some (Yv (Ex.ret,[Zq b,Zg 9 b_1,Zq b_2,Zg 9 b_3,Zv false,Zz .i64 n]))) (some (Yb [Zq b,Zg 9 b_1,Zq b_2,Zg 9 b_3,Zv b_4,Zz .i64 (Zy .i64 (n+1))]))))))) (some (Yv (Yg 0,[Zq b,Zg 9 b_1,Zq b_2,Zg 9 b_3,Zv b_4,Zz .i64 n]))))) [Zq rl,Zg 9 els,Zq rm,Zg 9 fls,Zv false,Zz .i64 0]) fun (r:Ex×List AV)=>cStr (Yy r) fun b r_1=>cSl 9 r_1 fun b r_2=>cStr r_2 fun b r_3=>cSl 9 r_3 fun b r_4=>cBool r_4 fun b r_5=>cInt .i64 r_5 fun n r_6=>onNil r_6 (exK r.1 (some (Zv b,[])) fun (j:Nat)=>sel (Xb j 0) (some (Zv true,[])) none))):Option (AV×Blocks))) (by kernel_rfl) ?_
  try dsimp only [cStr,cBs,cBool,cU8,cInt,cSl,l63]
  simp only [Zk,decide_eq_true_eq] at hpre
  obtain ⟨⟨h1,h2⟩,hlen⟩:=hpre
  obtain ⟨es,rfl,hok⟩:=Xh h1
  obtain ⟨fs,rfl,hok2⟩:=Xh h2
  rw [Yh,Yh]
  simp only [Zn] at hlen ⊢
  unfold Kerb.Db.same
  dsimp only
  by_cases hr:rl=rm
  case neg=>rw [sel_pos (by simpa using hr),show (rl==rm)=false from by simpa using hr,Wd]
  rw [sel_neg (by simpa using hr),show (rl==rm)=true from by simpa using hr,Ww]
  by_cases hl:es.length=fs.length
  case neg=>rw [sel_pos (by simp;omega),Kerb.sameEnts_len hl]
  rw [sel_neg (by simp;omega)]
  obtain ⟨z,hz⟩:∃ z,Kerb.sameEnts es fs=z:=⟨_,rfl⟩
  rw [hz]
  refine loop_rounds (fun i:Nat=>[Zq rl,Zg 9 (es.map Zh),Zq rm,Zg 9 (fs.map Zh),Zv false,Zz Zx (i:Int)]) (fun i=>i≤es.length∧Kerb.sameEnts (es.drop i) (fs.drop i)=z) (fun i=>es.length-i)
   (fun r=>∃ (i:Nat),r.2=[Zq rl,Zg 9 (es.map Zh),Zq rm,Zg 9 (fs.map Zh),Zv false,Zz Zx (i:Int)]∧((r.1 = .ret∧z=false)∨(r.1 = .exit 0∧z=true))) 0 ⟨Xu _,hz⟩ rfl ?_ ?_
  ·rintro i ⟨hi,hinv⟩
   simp only [↓A0,A0,Zn]
   rcases Wq i es.length with h | h
   ·rw [Kerb.sameEnts_step h (by omega)] at hinv
    rw [sel_pos (by simp;omega),chk_of (by simp;omega),Zm,Xf h]
    simp only [Zh,↓A0,A0]
    rw [chk_of (by simp;omega),Xf (by omega)]
    simp only [Zh,↓A0,A0]
    change ∃ y,sel (!(Kerb.Entry.eqb (es.getD i Wu) (fs.getD i Wu))) _ _=some y∧_
    cases he:Kerb.Entry.eqb (es.getD i Wu) (fs.getD i Wu)
    ·rw [he,Wd] at hinv
     exact ⟨_,rfl,i,rfl,.inl ⟨rfl,hinv.symm⟩⟩
    ·rw [he,Ww] at hinv
     rw [sel_neg (by simp),wrap_i64 (by omega) (by omega)]
     exact ⟨_,rfl,i+1,rfl,⟨by omega,hinv⟩,by dsimp only;omega⟩
   ·rw [sel_neg (by simp;omega)]
    rw [Xv h,Xv (by omega)] at hinv
    exact ⟨_,rfl,i,rfl,.inr ⟨rfl,hinv.symm⟩⟩
  ·rintro ⟨e,l⟩ ⟨i,rfl,⟨rfl,rfl⟩ | ⟨rfl,rfl⟩⟩<;>rfl
 ·cases h
theorem w27:Walked Tryz.prog G 27 1 sp27:=by
 refine ⟨Tryz.f27,Tryz.func27,by decide +kernel,rfl,fun xs bl r h=> ?_⟩
 unfold sp27 at h
 split at h
 ·rename_i qk q1 q2 q3 q4 q5 q6 q7 q8 q9 qs ql qg qt qi qe rk r1 r2 r3 r4 r5 r6 r7 r8 r9 rs rl rg rt ri re
  cases h
  refine Eq.trans (b:=(sel (qk==rk) (sel (q1==r1&&(q2==r2&&q3==r3)) (sel (q4==r4&&(q5==r5&&q6==r6)) (sel (q7==r7&&(q8==r8&&q9==r9)) (sel (qs==rs) (sel (ql==rl) (sel (qg==rg) (sel (qt==rt) (sel (qi==ri) (some (Zv (qe==re),[])) (some (Zv false,[]))) (some (Zv false,[]))) (some (Zv false,[]))) (some (Zv false,[]))) (some (Zv false,[]))) (some (Zv false,[]))) (some (Zv false,[]))) (some (Zv false,[]))) (some (Zv false,[])):Option (AV×Blocks))) (by kernel_rfl) ?_
  unfold Kerb.Issue.same Kerb.Prin.eqb
  dsimp only
  cases qk==rk
  ·rfl
  cases (q1==r1&&(q2==r2&&q3==r3))
  ·rfl
  cases (q4==r4&&(q5==r5&&q6==r6))
  ·rfl
  cases (q7==r7&&(q8==r8&&q9==r9))
  ·rfl
  cases qs==rs
  ·rfl
  cases ql==rl
  ·rfl
  cases qg==rg
  ·rfl
  cases qt==rt
  ·rfl
  cases qi==ri
  ·rfl
  rfl
 ·cases h
theorem w31:Walked Tryz.prog G 31 1 sp31:=by
 refine ⟨Tryz.f31,Tryz.func31,by decide +kernel,rfl,fun xs bl r h=> ?_⟩
 unfold sp31 at h
 split at h
 ·rename_i rl els n i
  obtain ⟨hpre,h2⟩:=chk_inv h;cases h2
  refine Eq.trans (b:=(Zf (loopM (fun (st:List AV)=>cStr st fun b r=>cStr r fun b_1 r=>cStr r fun b_2 r=>cSl 9 r fun b_3 r=>cInt .i64 r fun n r=>cInt .i64 r fun n_1 r=>cInt .i64 r fun n_2 r=>let t0:Option (List AV ⊕ Ex×List AV):=some (Yb [Zq b,Zq b_1,Zq b_2,Zg 9 b_3,Zz .i64 n,Zz .i64 n_1,Zz .i64 (Zy .i64 (n_2+1))]);onNil r (sel (decide (n_2<(↑(Zw b_3):Int))) (chk (decide (0≤n_2)&&decide (n_2<(↑(Zw b_3):Int))&&true) (Xg (Zb b_3 (Zu n_2) Yf) fun cs=>cStr cs fun b_4 r=>cStr r fun b_5 r=>cInt .u64 r fun n r=>cInt .i64 r fun n r=>cInt .i64 r fun n r=>cInt .i64 r fun n r=>cInt .i64 r fun n r=>cInt .i64 r fun n r=>cInt .i64 r fun n r=>onNil r (sel (b_4==b) (chk (decide (0≤n_2)&&decide (n_2<(↑(Zw b_3):Int))&&true) (Xg (Zb b_3 (Zu n_2) Yf) fun cs=>cStr cs fun b_6 r=>cStr r fun b_7 r=>cInt .u64 r fun n r=>cInt .i64 r fun n r=>cInt .i64 r fun n r=>cInt .i64 r fun n r=>cInt .i64 r fun n r=>cInt .i64 r fun n r=>cInt .i64 r fun n r=>onNil r (sel (b_7==b_1) (some (Yb [Zq b,Zq b_1,Zq b_2,Zg 9 b_3,Zz .i64 n_2,Zz .i64 (Zy .i64 (n_1+1)),Zz .i64 (Zy .i64 (n_2+1))])) t0))) t0))) (some (Yv (Yg 0,[Zq b,Zq b_1,Zq b_2,Zg 9 b_3,Zz .i64 n,Zz .i64 n_1,Zz .i64 n_2]))))) [Zq n,Zq i,Zq rl,Zg 9 els,Zz .i64 0,Zz .i64 0,Zz .i64 0]) fun (r:Ex×List AV)=>cStr (Yy r) fun b r_1=>cStr r_1 fun b r_2=>cStr r_2 fun b r_3=>cSl 9 r_3 fun b r_4=>cInt .i64 r_4 fun n r_5=>cInt .i64 r_5 fun n_1 r_6=>cInt .i64 r_6 fun n_2 r_7=>onNil r_7 (exK r.1 none fun (j:Nat)=>sel (Xb j 0) (sel (n_1==0) (some (Yx [Zz .i64 0,Zz .i64 8],[])) (sel (decide (n_1>1)) (some (Yx [Zz .i64 0,Zz .i64 9],[])) (some (Yx [Zz .i64 n,Zz .i64 0],[])))) none):Option (AV×Blocks))) (by kernel_rfl) ?_
  try dsimp only [cStr,cBs,cBool,cU8,cInt,cSl,l63]
  simp only [Zk,decide_eq_true_eq] at hpre
  obtain ⟨hall,hlen⟩:=hpre
  obtain ⟨es,rfl,hok⟩:=Xh hall
  rw [Yh]
  simp only [Zn] at hlen
  refine loop_rounds (fun q:Nat×Int=>[Zq n,Zq i,Zq rl,Zg 9 (es.map Zh),Zz Zx q.2,Zz Zx ((es.take q.1).countP (Zj n i):Int),Zz Zx (q.1:Int)])
   (fun q=>q.1≤es.length∧((es.take q.1).countP (Zj n i)=1→q.2=(es.findIdx (Zj n i):Int))) (fun q=>es.length-q.1)
   (fun r=>∃ c:Int,r=(.exit 0,[Zq n,Zq i,Zq rl,Zg 9 (es.map Zh),Zz Zx c,Zz Zx (es.countP (Zj n i):Int),Zz Zx (es.length:Int)])∧(es.countP (Zj n i)=1→c=(es.findIdx (Zj n i):Int))) (0,0) ⟨Xu _,fun h=>by simp at h⟩ rfl ?_ ?_
  ·rintro ⟨j,c⟩ ⟨hj,hinv⟩
   simp only at hj hinv
   simp only [↓A0,A0,Zn]
   rcases Wq j es.length with h | h
   ·have hc:=Kerb.count_take (p:=Zj n i) h
    have hle:=Kerb.count_le (p:=Zj n i) (es:=es) (j+1)
    have hcl:=List.countP_le_length (p:=Zj n i) (l:=es)
    have hx:=Kerb.find_first (p:=Zj n i) h
    have hg:(List.map Zh es).getD j Yf=(es.getD j Wu).av:=Xf h
    rw [sel_pos (by simp;omega),chk_of (by simp;omega),Zm,hg]
    generalize es.getD j Wu=e at hc hx
    simp only [Zh,↓A0,A0]
    rw [wrap_i64 (n:=(j:Int)+1) (by omega) (by omega),wrap_i64 (by omega) (by omega),chk_of (by simp;omega)]
    by_cases h1:e.name=n
    ·by_cases h2:e.inst=i
     ·have hp:Zj n i e=true:=by simp [Zj,h1,h2]
      rw [hp,cond_true] at hc
      rw [sel_pos (by simp [h1]),sel_pos (by simp [h2])]
      refine ⟨_,rfl,(j+1,(j:Int)),by simp [hc],⟨by simp only;omega,fun h0=> ?_⟩,by simp only;omega⟩
      simp only at h0 ⊢
      rw [hx (by omega) hp]
     ·have hp:Zj n i e=false:=by simp [Zj,h2]
      rw [hp,cond_false] at hc
      rw [sel_pos (by simp [h1]),sel_neg (by simpa using h2)]
      exact ⟨_,rfl,(j+1,c),by simp [hc],⟨by simp only;omega,by simp only;rw [hc];simpa using hinv⟩,by simp only;omega⟩
    ·have hp:Zj n i e=false:=by simp [Zj,h1]
     rw [hp,cond_false] at hc
     rw [sel_neg (by simpa using h1)]
     exact ⟨_,rfl,(j+1,c),by simp [hc],⟨by simp only;omega,by simp only;rw [hc];simpa using hinv⟩,by simp only;omega⟩
   ·rw [sel_neg (by simp;omega)]
    have hj2:j=es.length:=by omega
    subst hj2
    rw [Yq h] at hinv ⊢
    exact ⟨_,rfl,c,rfl,hinv⟩
  ·rintro _ ⟨c,rfl,h⟩
   simp only [↓A0,A0]
   unfold Wm
   rw [sel_pos (Xw _)]
   generalize es.countP (Zj n i)=q at h ⊢
   by_cases h0:q=0
   ·rw [sel_pos (by simp [h0]),if_pos h0]
   by_cases h1:1<q
   ·rw [sel_neg (by simp;omega),sel_pos (by simp;omega),if_neg h0,if_pos h1]
   ·rw [sel_neg (by simp;omega),sel_neg (by simp;omega),if_neg h0,if_neg h1,h (by omega)]
 ·cases h
theorem w44:Walked Tryz.prog G 44 1 sp44:=by
 refine ⟨Tryz.f44,Tryz.func44,by decide +kernel,rfl,fun xs bl r h=> ?_⟩
 unfold sp44 at h
 split at h
 ·rename_i n m
  cases h
  refine Eq.trans (b:=(sel (decide (n≥0)) (some (Zv (decide (n≤m)),[])) (some (Zv false,[])):Option (AV×Blocks))) (by kernel_rfl) ?_
  by_cases h:0≤n<;>simp [sel,Zp,h]
 ·cases h
theorem w58:Walked Tryz.prog G 58 1 sp58:=by
 refine ⟨Tryz.f58,Tryz.func58,by decide +kernel,rfl,fun xs bl r h=> ?_⟩
 unfold sp58 at h
 split at h
 ·rename_i l pos
  cases h
  show runFnH (G.env 58 1) G.rts (G.own 58) Tryz.f58 _ _ [0]=_
  refine Eq.trans (b:=(some (Zv (decide (pos<(↑(Zw l):Int))),[[Yk l,Zz .i64 pos]]):Option (AV×Blocks))) (by kernel_rfl) ?_
  rfl
 ·cases h
theorem w65:Walked Tryz.prog G 65 1 sp65:=by
 refine ⟨Tryz.f65,Tryz.func65,by decide +kernel,rfl,fun xs bl r h=> ?_⟩
 unfold sp65 at h
 split at h
 ·rename_i b how
  obtain ⟨hpre,h2⟩:=chk_inv h;cases h2
  refine Eq.trans (b:=(let t0:Int:=Yp (Zy .i64 (Zy .u16 (Wp how 8))) (↑(Zw b):Int);chk (room (Zw b) 1) (sel ((↑(Zw b):Int)==0) (some (Yk b,[])) (chk (!(↑(Zw b):Int)==0) (sel (Yp how 4==0) (chk (decide (0≤t0)&&decide (t0<(↑(Zw b):Int))) (chk (Wz (Zu t0) (Zw b)&&true&&true&&true) (chk (decide (0≤Zy .u64 (Yp how 7))) (chk (decide (0≤t0)&&decide (t0<(↑(Zw b):Int))) (chk (Wz (Zu t0) (Zw b)&&true&&true&&true&&true) (some (Yk (List.set b (Zu t0) (Yw (Zu (Zy .u8 (↑(BitVec.toNat (BitVec.ofInt (Zd .u8) (↑(Yd (Zb b (Zu t0) (0:UInt8))):Int) ^^^ BitVec.ofInt (Zd .u8) (↑(Yd (Yw (Zu (Zy .u8 ((↑(Yd (1:UInt8)):Int)*2 ^ min (Zu (Zy .u64 (Yp how 7))) 8))))):Int))):Int))))),[]))))))) (sel (Yp how 4==1) (chk (decide (0≤t0)&&decide (t0≤(↑(Zw b):Int))&&Wz 0 (Zw b)&&true) (chk (decide (0≤Zy .i64 (t0+1))&&decide (Zy .i64 (t0+1)≤(↑(Zw b):Int))&&Wz 0 (Zw b)&&true) (chk (Wz 0 (Zw b)&&true&&true&&true&&room (Zu t0+(Zw b-Zu (Zy .i64 (t0+1)))) 1) (some (Yk (Vz (Zu t0) b++Vy (Zu (Zy .i64 (t0+1))) b),[]))))) (sel (Yp how 4==2) (chk (room (Zw b+Zw [Yw (Zu (Zy .u8 how))]) 1) (some (Yk (b++[Yw (Zu (Zy .u8 how))]),[]))) (some (Yk b,[]))))))):Option (AV×Blocks))) (by kernel_rfl) ?_
  try dsimp only [cStr,cBs,cBool,cU8,cInt,cSl,l63]
  simp only [Zk,decide_eq_true_eq] at hpre
  obtain ⟨⟨hb,h0⟩,h1⟩:=hpre
  rw [chk_of (Xx (by omega))]
  unfold Kerb.spoil
  by_cases hn:b=[]
  ·subst hn;rfl
  have hpos:0<b.length:=List.length_pos_iff.2 hn
  rw [if_neg hn,sel_neg (by simp;omega),chk_of (by simp;omega)]
  have e:Yp (Zy Zx (Zy IntKind.u16 (Wp how (8:Int)))) (b.length:Int)=Kerb.spoilAt b how:=rfl
  rw [e]
  obtain ⟨ha,hc⟩:=Kerb.spoilAt_bd h0 h1 hpos
  generalize Kerb.spoilAt b how=a at ha hc ⊢
  have hd:(decide ((0:Int)≤a)&&decide (a<(b.length:Int)))=true:=by simp;omega
  have hbl:Wz a.toNat b.length=true:=Nat.ble_eq_true_of_le (by omega)
  have hbl0:Wz 0 b.length=true:=Nat.ble_eq_true_of_le (by omega)
  have h7:decide ((0:Int)≤Zy Ym (Yp how (7:Int)))=true:=by rw [Kerb.wrap_u64];simp;omega
  by_cases c0:Yp how 4=0
  ·rw [if_pos c0,sel_pos (by simpa using c0),chk_of hd,chk_of (by rw [hbl];rfl),chk_of h7,chk_of hd,chk_of (by rw [hbl];rfl)]
  rw [if_neg c0,sel_neg (by simpa using c0)]
  by_cases c1:Yp how 4=1
  ·rw [if_pos c1,sel_pos (by simpa using c1),wrap_i64 (n:=a+1) (by omega) (by omega),chk_of (by rw [hbl0];simp;omega),chk_of (by rw [hbl0];simp;omega),chk_of (by rw [hbl0,Xx (by omega)];rfl)]
  rw [if_neg c1,sel_neg (by simpa using c1)]
  by_cases c2:Yp how 4=2
  ·rw [if_pos c2,sel_pos (by simpa using c2),chk_of (Xx (by simp;omega))]
  ·rw [if_neg c2,sel_neg (by simpa using c2)]
 ·cases h
theorem w71:Walked Tryz.prog G 71 1 sp71:=by
 refine ⟨Tryz.f71,Tryz.func71,by decide +kernel,rfl,fun xs bl r h=> ?_⟩
 unfold sp71 at h
 split at h
 ·rename_i n
  cases h
  refine Eq.trans (b:=(sel (n==1) (some (Zv true,[])) (some (Zv (n==3),[])):Option (AV×Blocks))) (by kernel_rfl) ?_
  cases (n==1)<;>rfl
 ·cases h
theorem w78:Walked Tryz.prog G 78 1 sp78:=by
 refine ⟨Tryz.f78,Tryz.func78,by decide +kernel,rfl,fun xs bl r h=> ?_⟩
 unfold sp78 at h
 split at h
 ·rename_i en ei ek ev ex em ea ef et fn fi fk fv fx fm fa ff ft
  cases h
  refine Eq.trans (b:=(sel (Op.bytesLess en fn) (some (Zv true,[])) (sel (en==fn) (some (Zv (Op.bytesLess ei fi),[])) (some (Zv false,[]))):Option (AV×Blocks))) (by kernel_rfl) ?_
  unfold Kerb.Entry.less
  cases Op.bytesLess en fn
  ·cases hq:en==fn<;>rfl
  ·rfl
 ·cases h
theorem w87:Walked Tryz.prog G 87 1 sp87:=by
 refine ⟨Tryz.f87,Tryz.func87,by decide +kernel,rfl,fun xs bl r h=> ?_⟩
 unfold sp87 at h
 split at h
 ·cases h
  refine Eq.trans (b:=(some (Zg 1 [Zq [(65:UInt8),(84:UInt8),(72:UInt8)],Zq [(66:UInt8),(79:UInt8),(83:UInt8)],Zq [(67:UInt8),(65:UInt8),(77:UInt8)]],[]):Option (AV×Blocks))) (by kernel_rfl) ?_
  rfl
 ·cases h
theorem w93:Walked Tryz.prog G 93 1 sp93:=by
 refine ⟨Tryz.f93,Tryz.func93,by decide +kernel,rfl,fun xs bl r h=> ?_⟩
 unfold sp93 at h
 split at h
 ·rename_i r t
  cases h
  refine Eq.trans (b:=(some (Wh [Zq [(107:UInt8),(114:UInt8),(98:UInt8),(116:UInt8),(103:UInt8),(116:UInt8)],Zq t,Zq r],[]):Option (AV×Blocks))) (by kernel_rfl) ?_
  rfl
 ·cases h
theorem w103:Walked Tryz.prog G 103 1 sp103:=by
 refine ⟨Tryz.f103,Tryz.func103,by decide +kernel,rfl,fun xs bl r h=> ?_⟩
 unfold sp103 at h
 split at h
 ·rename_i els t
  obtain ⟨hpre,h2⟩:=chk_inv h;cases h2
  refine Eq.trans (b:=(sel (t==0) (some (Zg 1 els,[])) (chk (room (Zw els) (nat_lit 8)) (chk (room (Zw els+Zw [Zz .i64 t]) (nat_lit 8)) (some (Zg 1 (els++[Zz .i64 t]),[])))):Option (AV×Blocks))) (by kernel_rfl) ?_
  simp only [Zk,decide_eq_true_eq] at hpre
  by_cases h:t=0
  ·rw [sel_pos (by simpa using h),if_pos h]
  ·rw [sel_neg (by simpa using h),if_neg h,chk_of (by simp [Go.Abs.room];omega),chk_of (by simp [Go.Abs.room];omega)]
 ·cases h
theorem w110:Walked Tryz.prog G 110 1 sp110:=by
 refine ⟨Tryz.f110,Tryz.func110,by decide +kernel,rfl,fun xs bl r h=> ?_⟩
 unfold sp110 at h
 split at h
 ·rename_i rl els i en ei ek ev ex em ea ef et
  obtain ⟨hpre,h2⟩:=chk_inv h;cases h2
  refine Eq.trans (b:=(let t0:List AV:=[Zq en,Zq ei,Zz .u64 ek,Zz .i64 ev,Zz .i64 ex,Zz .i64 em,Zz .i64 ea,Zz .i64 ef,Zz .i64 et];chk (room (Zw els) (nat_lit 88)) (chk (decide (0≤i)&&decide (i<(↑(Zw els):Int))&&true) (chk (Wz (Zu i) (Zw els)&&true&&true) (Xg (Zb els (Zu i) Yf) fun cs=>cStr cs fun b r=>cStr r fun b r=>cInt .u64 r fun n r=>cInt .i64 r fun n r=>cInt .i64 r fun n r=>cInt .i64 r fun n r=>cInt .i64 r fun n r=>cInt .i64 r fun n r=>cInt .i64 r fun n r=>onNil r (chk (Zw t0==nat_lit 9&&true&&true&&true&&Wz (Zu i) (Zw els)) (some (Wh [Zq rl,Zg 9 (List.set els (Zu i) (Wh t0))],[])))))):Option (AV×Blocks))) (by kernel_rfl) ?_
  try dsimp only [cStr,cBs,cBool,cU8,cInt,cSl,l63]
  simp only [Zk,decide_eq_true_eq] at hpre
  obtain ⟨⟨⟨hall,hlen⟩,h0⟩,h1⟩:=hpre
  obtain ⟨es,rfl,hok⟩:=Xh hall
  rw [Yh]
  simp only [Zn] at hlen h1
  have hj:i.toNat<es.length:=by omega
  rw [chk_of (Kerb.room_ok2 (by simp;omega))]
  try simp only [Zn]
  have hb:Wz i.toNat es.length=true:=by simp [hj]
  rw [chk_of (by simp;omega),chk_of (by rw [hb];rfl),Xf hj]
  simp only [Zh,↓A0,A0]
  rw [chk_of (by rw [hb];rfl)]
  show some _=some _
  unfold Vx
  dsimp only
  rw [← Kerb.set_ent]
  rfl
 ·cases h
theorem w112:Walked Tryz.prog G 112 1 sp112:=by
 refine ⟨Tryz.f112,Tryz.func112,by decide +kernel,rfl,fun xs bl r h=> ?_⟩
 unfold sp112 at h
 split at h
 ·rename_i n
  obtain ⟨hpre,h2⟩:=chk_inv h;cases h2
  refine Eq.trans (b:=(some (Zz .i64 (Yp (Zy .i64 (n+1)) 4294967296),[]):Option (AV×Blocks))) (by kernel_rfl) ?_
  simp only [Zk,decide_eq_true_eq] at hpre
  rw [wrap_i64 (by omega) (by omega),Yu (by omega)]
  rfl
 ·cases h
theorem w115:Walked Tryz.prog G 115 1 sp115:=by
 refine ⟨Tryz.f115,Tryz.func115,by decide +kernel,rfl,fun xs bl r h=> ?_⟩
 unfold sp115 at h
 split at h
 ·rename_i r t
  cases h
  refine Eq.trans (b:=(some (Wh [Zq [(107:UInt8),(114:UInt8),(98:UInt8),(116:UInt8),(103:UInt8),(116:UInt8)],Zq t,Zq r],[]):Option (AV×Blocks))) (by kernel_rfl) ?_
  rfl
 ·cases h
theorem w121:Walked Tryz.prog G 121 1 sp121:=by
 refine ⟨Tryz.f121,Tryz.func121,by decide +kernel,rfl,fun xs bl r h=> ?_⟩
 unfold sp121 at h
 split at h
 ·rename_i a b
  cases h
  refine Eq.trans (b:=(some (Zv (a==b),[]):Option (AV×Blocks))) (by kernel_rfl) ?_
  rfl
 ·cases h
theorem w124:Walked Tryz.prog G 124 1 sp124:=by
 refine ⟨Tryz.f124,Tryz.func124,by decide +kernel,rfl,fun xs bl r h=> ?_⟩
 unfold sp124 at h
 split at h
 ·rename_i n els
  obtain ⟨hpre,h2⟩:=chk_inv h;cases h2
  refine Eq.trans (b:=(Zf (loopM (fun (st:List AV)=>onCons st fun x r=>Xy .i64 x fun n=>onCons r fun x r=>AV.onSl 1 x fun b=>onCons r fun x r=>Xy .i64 x fun n_1=>onCons r fun x r=>Xy .i64 x fun n_2=>onNil r (sel (decide (n_2<n_1)) (chk (decide (0≤n_2)&&decide (n_2<(↑(Zw b):Int))&&true) (Xy .i64 (Zb b (Zu n_2) Yf) fun n_3=>sel (decide (n_3<n)) (some (Yb [Zz .i64 n_3,Zg 1 b,Zz .i64 n_1,Zz .i64 (Zy .i64 (n_2+1))])) (some (Yb [Zz .i64 n,Zg 1 b,Zz .i64 n_1,Zz .i64 (Zy .i64 (n_2+1))])))) (some (Yv (Yg 0,[Zz .i64 n,Zg 1 b,Zz .i64 n_1,Zz .i64 n_2]))))) [Zz .i64 n,Zg 1 els,Zz .i64 (↑(Zw els):Int),Zz .i64 0]) fun (r:Ex×List AV)=>onCons (Yy r) fun x r_1=>Xy .i64 x fun n=>onCons r_1 fun x r_2=>AV.onSl 1 x fun b=>onCons r_2 fun x r_3=>Xy .i64 x fun n_1=>onCons r_3 fun x r_4=>Xy .i64 x fun n_2=>onNil r_4 (exK r.1 none fun (j:Nat)=>sel (Xb j 0) (some (Zz .i64 n,[])) none):Option (AV×Blocks))) (by kernel_rfl) ?_
  simp only [Zk,decide_eq_true_eq] at hpre
  obtain ⟨ha,hl⟩:=hpre
  have hil:=Kerb.ints_len ha
  refine loop_rounds (fun i:Nat=>[Zz Zx (Xz n ((intsIn els).take i)),Zg 1 els,Zz Zx (els.length:Int),Zz Zx (i:Int)]) (fun i=>i≤els.length) (fun i=>els.length-i)
   (fun r=>r=(.exit 0,[Zz Zx (Xz n (intsIn els)),Zg 1 els,Zz Zx (els.length:Int),Zz Zx (els.length:Int)])) 0 (Xu _) rfl ?_ ?_
  ·intro i hi
   simp only [↓A0,A0]
   rcases Wq i els.length with h | h
   ·obtain ⟨m,h1,h2⟩:=Kerb.ints_get ha h
    rw [sel_pos (by simp;omega),chk_of (by simp;omega),Zm,h1,onInt_int]
    have ht:(intsIn els).take (i+1)=(intsIn els).take i++[m]:=by
     have h4:i<(intsIn els).length:=by omega
     rw [List.take_succ_eq_append_getElem h4]
     rw [List.drop_eq_getElem_cons h4] at h2
     rw [(List.cons.inj h2).1]
    have hs:Xz n ((intsIn els).take (i+1))=Xj (Xz n ((intsIn els).take i)) m:=by rw [ht];simp [Xz]
    rw [wrap_i64 (by omega) (by omega)]
    unfold Xj at hs
    by_cases hm:m<Xz n ((intsIn els).take i)
    ·rw [sel_pos (by simpa using hm)]
     rw [if_pos hm] at hs
     exact ⟨_,rfl,i+1,by dsimp only;rw [hs];rfl,by omega,by dsimp only;omega⟩
    ·rw [sel_neg (by simpa using hm)]
     rw [if_neg hm] at hs
     exact ⟨_,rfl,i+1,by dsimp only;rw [hs];rfl,by omega,by dsimp only;omega⟩
   ·have h1:i=els.length:=by omega
    subst h1
    rw [sel_neg (by simp)]
    refine ⟨_,rfl,?_⟩
    show _=_
    rw [Yq (by omega)]
  ·rintro _ rfl
   rfl
 ·cases h
theorem w131:Walked Tryz.prog G 131 1 sp131:=by
 refine ⟨Tryz.f131,Tryz.func131,by decide +kernel,rfl,fun xs bl r h=> ?_⟩
 unfold sp131 at h
 split at h
 ·rename_i n l pos
  obtain ⟨hpre,h2⟩:=chk_inv h;cases h2
  show runFnH (G.env 131 1) G.rts (G.own 131) Tryz.f131 _ _ [0]=_
  refine Eq.trans (b:=(sel (decide (pos≥(↑(Zw l):Int))) (some (Zz .i64 0,[[Yk l,Zz .i64 pos]])) (sel (decide (n≤0)) (some (Zz .i64 0,[[Yk l,Zz .i64 pos]])) (chk (decide (0≤pos)&&decide (pos<(↑(Zw l):Int))) (chk (!n==0) (some (Zz .i64 (Yp (Zy .i64 (↑(Yd (Zb l (Zu pos) (0:UInt8))):Int)) n),[[Yk l,Zz .i64 (Zy .i64 (pos+1))]]))))):Option (AV×Blocks))) (by kernel_rfl) ?_
  simp only [Zk,decide_eq_true_eq] at hpre
  unfold Kerb.next Kerb.nextPos
  by_cases h1:(l.length:Int)≤pos
  ·simp [sel,h1]
   omega
  by_cases h2:n≤0
  ·simp [sel,h1,h2]
   omega
  have h3:¬ n=0:=by omega
  have hb:=(l.getD pos.toNat 0).toNat_lt
  rw [sel_neg (by simp;omega),sel_neg (by simp;omega),chk_of (by simp;omega),chk_of (by simpa using h3),if_neg (by omega),if_neg (by omega),wrap_i64 (by omega) (by omega),wrap_i64 (by omega) (by omega),Yu (by omega),Int.toNat_of_nonneg (by omega)]
 ·cases h
theorem w132:Walked Tryz.prog G 132 1 sp132:=by
 refine ⟨Tryz.f132,Tryz.func132,by decide +kernel,rfl,fun xs bl r h=> ?_⟩
 unfold sp132 at h
 split at h
 ·rename_i n m
  cases h
  refine Eq.trans (b:=(sel (decide (n≥0)) (some (Zv (decide (n≤m)),[])) (some (Zv false,[])):Option (AV×Blocks))) (by kernel_rfl) ?_
  by_cases h:0≤n<;>simp [sel,Zp,h]
 ·cases h
theorem w135:Walked Tryz.prog G 135 1 sp135:=by
 refine ⟨Tryz.f135,Tryz.func135,by decide +kernel,rfl,fun xs bl r h=> ?_⟩
 unfold sp135 at h
 split at h
 ·rename_i k
  obtain ⟨hpre,h2⟩:=chk_inv h;cases h2
  refine Eq.trans (b:=(Zf (loopM (fun (st:List AV)=>cInt .u64 st fun n r=>onCons r fun x r=>Wj x fun b=>cInt .i64 r fun n_1 r=>let t0:List UInt8:=[Yw (Zu (Zy .u8 (Int.fdiv n (2 ^ min (Zu (Zy .u64 (Zy .i64 (8*n_1)))) (Zd .u64)))))];onNil r (sel (decide (n_1≥0)) (chk (decide (0≤Zy .u64 (Zy .i64 (8*n_1)))) (chk (room (Zw b+Zw t0) 1) (some (Yb [Zz .u64 n,Yn (b++t0),Zz .i64 (Zy .i64 (n_1-1))])))) (some (Yv (Yg 0,[Zz .u64 n,Yn b,Zz .i64 n_1]))))) [Zz .u64 k,Yn [],Zz .i64 7]) fun (r:Ex×List AV)=>cInt .u64 (Yy r) fun n r_1=>onCons r_1 fun x r_2=>Wj x fun b=>cInt .i64 r_2 fun n r_3=>onNil r_3 (exK r.1 none fun (j:Nat)=>sel (Xb j 0) (some (Yk b,[])) none):Option (AV×Blocks))) (by kernel_rfl) ?_
  try dsimp only [cStr,cBs,cBool,cU8,cInt,cSl,l63]
  refine loop_unroll 9 (Yg 0,[Zz Ym k,Yn [Xp k 56,Xp k 48,Xp k 40,Xp k 32,Xp k 24,Xp k 16,Xp k 8,Xp k 0],Zz Zx (-1)]) (by kernel_rfl) ?_
  simp only [A0]
  rw [sel_pos (Xw _)]
  simp [Kerb.bfd_eq,Kerb.keyBytes,Kerb.byteAt,List.range_succ]
 ·cases h
theorem w136:Walked Tryz.prog G 136 1 sp136:=by
 refine ⟨Tryz.f136,Tryz.func136,by decide +kernel,rfl,fun xs bl r h=> ?_⟩
 unfold sp136 at h
 split at h
 ·rename_i b
  obtain ⟨hpre,h2⟩:=chk_inv h;cases h2
  refine Eq.trans (b:=(chk (room (Zw b) 1) (Zf (loopM (fun (st:List AV)=>onCons st fun x r=>Wj x fun b=>onNil r (sel (!Yp (↑(Zw b):Int) 8==0) (chk (room (Zw b+Zw [(0:UInt8)]) 1) (some (Yb [Yn (b++[(0:UInt8)])]))) (some (Yv (Yg 0,[Yn b]))))) [Yn b]) fun (r:Ex×List AV)=>onCons (Yy r) fun x r_1=>Wj x fun b=>onNil r_1 (exK r.1 none fun (j:Nat)=>sel (Xb j 0) (some (Yn b,[])) none)):Option (AV×Blocks))) (by kernel_rfl) ?_
  have hb:=of_decide_eq_true hpre
  rw [chk_of (Xx (by omega))]
  refine loop_rounds (fun i:Nat=>[Yn (b++List.replicate i 0)]) (fun i=>i≤(8-b.length % 8) % 8) (fun i=>(8-b.length % 8) % 8-i)
   (fun r=>r=(Yg 0,[Yn (Kerb.pad b)])) 0 (by omega) (by simp) ?_ ?_
  ·intro i hi
   simp only [A0]
   have e:Yp ((b++List.replicate i 0).length:Int) 8=(((b.length+i) % 8:Nat):Int):=by
    rw [Yu (by omega)]
    simp
   rw [e]
   by_cases hlt:i<(8-b.length % 8) % 8
   ·rw [sel_pos (by simp;omega),chk_of (Xx (by simp;omega))]
    refine ⟨_,rfl,i+1,?_,by omega,by dsimp only;omega⟩
    dsimp only
    rw [List.replicate_succ',List.append_assoc]
   ·rw [sel_neg (by simp;omega)]
    refine ⟨_,rfl,?_⟩
    show _=_
    rw [Kerb.pad,show i=(8-b.length % 8) % 8 from by omega]
  rintro r rfl
  simp only [A0]
  rw [sel_pos (Xw _)]
 ·cases h
theorem w141:Walked Tryz.prog G 141 1 sp141:=by
 refine ⟨Tryz.f141,Tryz.func141,by decide +kernel,rfl,fun xs bl r h=> ?_⟩
 unfold sp141 at h
 split at h
 ·rename_i k little
  cases h
  refine Eq.trans (b:=(sel (decide (k<1)) (some (Yk [],[])) (sel (decide (k>10)) (some (Yk [],[])) (sel little (some (Yk [(4:UInt8),Yw (Zu (Zy .u8 (Zy .i64 (Zy .i64 (2*k)+1))))],[])) (some (Yk [(4:UInt8),Yw (Zu (Zy .u8 (Zy .i64 (2*k))))],[])))):Option (AV×Blocks))) (by kernel_rfl) ?_
  by_cases h:1≤k∧k≤10
  ·have hk:k=1∨k=2∨k=3∨k=4∨k=5∨k=6∨k=7∨k=8∨k=9∨k=10:=by omega
   rcases hk with rfl | rfl | rfl | rfl | rfl | rfl | rfl | rfl | rfl | rfl<;>cases little<;>rfl
  ·have hk:Xm k=false:=by simp [Xm];omega
   by_cases h1:k<1
   ·simp [sel,Kerb.header,hk,h1]
   ·have h2:10<k:=by omega
    simp [sel,Kerb.header,hk,h1,h2]
 ·cases h
theorem w143:Walked Tryz.prog G 143 1 sp143:=by
 refine ⟨Tryz.f143,Tryz.func143,by decide +kernel,rfl,fun xs bl r h=> ?_⟩
 unfold sp143 at h
 split at h
 ·rename_i b s
  obtain ⟨hpre,h2⟩:=chk_inv h;cases h2
  refine Eq.trans (b:=(chk (room (Zw b) 1) (chk (room (Zw b+Zw s) 1) (chk (room (Zw (b++s)+Zw [(0:UInt8)]) 1) (some (Yk (b++s++[(0:UInt8)]),[])))):Option (AV×Blocks))) (by kernel_rfl) ?_
  simp only [decide_eq_true_eq] at hpre
  rw [chk_of (Xx (by omega)),chk_of (Xx (by omega)),chk_of (Xx (by simp;omega))]
  simp [Wb]
 ·cases h
theorem w161:Walked Tryz.prog G 161 1 sp161:=by
 refine ⟨Tryz.f161,Tryz.func161,by decide +kernel,rfl,fun xs bl r h=> ?_⟩
 unfold sp161 at h
 split at h
 ·rename_i b
  cases h
  refine Eq.trans (b:=(let t0:Int:=Zy .i64 (↑(Yd (Yw (Zu (Zy .u8 (Wp (↑(Yd (Zb b (Zu 1) (0:UInt8))):Int) (↑(Yd (2:UInt8)):Int)))))):Int);let t1:Option (AV×Blocks):=some (Yx [Zz .i64 0,Zv false,Zz .i64 40],[]);sel (decide ((↑(Zw b):Int)<2)) (some (Yx [Zz .i64 0,Zv false,Zz .i64 101],[])) (chk (decide (0<(↑(Zw b):Int))) (sel (!Zb b (Zu 0) (0:UInt8)==(4:UInt8)) (some (Yx [Zz .i64 0,Zv false,Zz .i64 39],[])) (chk (decide (1<(↑(Zw b):Int))) (sel (decide (t0<1)) t1 (sel (decide (t0>10)) t1 (chk (decide (1<(↑(Zw b):Int))) (some (Yx [Zz .i64 t0,Zv (Yw (Zu (Yp (↑(Yd (Zb b (Zu 1) (0:UInt8))):Int) (↑(Yd (2:UInt8)):Int)))==(1:UInt8)),Zz .i64 0],[])))))))):Option (AV×Blocks))) (by kernel_rfl) ?_
  try dsimp only [cStr,cBs,cBool,cU8,cInt,cSl,l63]
  unfold Xd
  by_cases h1:b.length<2
  ·rw [sel_pos (by simp;omega)]
   simp [h1]
  rw [sel_neg (by simp;omega),chk_of (by simp;omega),if_neg h1]
  by_cases h2:b.getD 0 0=4
  ·have hb:=(b.getD 1 0).toNat_lt
   have e:Zy Zx ((Yw (Zu (Zy IntKind.u8 (Wp ((b.getD (Zu 1) 0).toNat:Int) ((2:UInt8).toNat:Int))))).toNat:Int)=(((b.getD 1 0).toNat / 2:Nat):Int):=by
    rw [show Zu 1=1 from rfl,show ((2:UInt8).toNat:Int)=2 from rfl,Wv (by omega),Kerb.wrap_u8]
    have e3:Zu (((b.getD 1 0).toNat:Int) / 2 % 256)=(b.getD 1 0).toNat / 2:=by omega
    rw [e3,UInt8.toNat_ofNat_of_lt' (by show _<256;omega),wrap_i64 (by omega) (by omega)]
   have e2:(Yw (Zu (Yp ((b.getD (Zu 1) 0).toNat:Int) ((2:UInt8).toNat:Int)))==1)=decide ((b.getD 1 0).toNat % 2=1):=by
    rw [show Zu 1=1 from rfl,Yu (by omega)]
    have e3:Zu (((b.getD 1 0).toNat:Int) % ((2:UInt8).toNat:Int))=(b.getD 1 0).toNat % 2:=by
     show Zu (((b.getD 1 0).toNat:Int) % 2)=_
     omega
    rw [e3]
    rcases Nat.mod_two_eq_zero_or_one (b.getD 1 0).toNat with h | h<;>rw [h]<;>rfl
   rw [sel_neg (by simp [h2] at *;exact h2),chk_of (by simp;omega),if_neg (by simpa using h2),e,e2]
   generalize (b.getD 1 0).toNat / 2=m
   unfold Xm
   by_cases h3:1≤m
   case neg =>
    rw [sel_pos (by simp;omega),if_neg (by simp;omega)]
   by_cases h4:m≤10
   case neg =>
    rw [sel_neg (by simp;omega),sel_pos (by simp;omega),if_neg (by simp;omega)]
   rw [sel_neg (by simp;omega),sel_neg (by simp;omega),chk_of (by simp;omega),if_pos (by simp;omega)]
  ·rw [sel_pos (by simpa using h2),if_pos (by simpa using h2)]
 ·cases h
theorem w163:Walked Tryz.prog G 163 1 sp163:=by
 refine ⟨Tryz.f163,Tryz.func163,by decide +kernel,rfl,fun xs bl r h=> ?_⟩
 unfold sp163 at h
 split at h
 ·rename_i nx e B at_ li bad
  cases h
  show runFnH (G.env 163 1) G.rts (G.own 163) Tryz.f163 _ _ [0]=_
  refine Eq.trans (b:=(sel bad (some (Yx [],[[Yk B,Zz .i64 at_,Zv li,Zv true]])) (sel (!e==0) (some (Yx [],[[Yk B,Zz .i64 at_,Zv li,Zv true]])) (some (Yx [],[[Yk B,Zz .i64 nx,Zv li,Zv bad]]))):Option (AV×Blocks))) (by kernel_rfl) ?_
  cases bad
  ·cases (e==0)<;>rfl
  ·rfl
 ·cases h
theorem w164:Walked Tryz.prog G 164 1 sp164:=by
 refine ⟨Tryz.f164,Tryz.func164,by decide +kernel,rfl,fun xs bl r h=> ?_⟩
 unfold sp164 at h
 split at h
 ·rename_i b pos
  obtain ⟨hpre,h2⟩:=chk_inv h;cases h2
  refine Eq.trans (b:=(let t0:Option (AV×Blocks):=some (Yx [Zq [],Zz .i64 0,Zz .i64 104],[]);sel (decide (pos<0)) t0 (sel (decide (pos>(↑(Zw b):Int))) t0 (Zf (loopM (fun (st:List AV)=>cBs st fun b r=>cInt .i64 r fun n r=>cStr r fun b_1 r=>cInt .i64 r fun n_1 r=>cInt .i64 r fun n_2 r=>cInt .i64 r fun n_3 r=>onNil r (sel (decide (n_3≤39)) (sel (decide (Zy .i64 (n+n_3)≥(↑(Zw b):Int))) (some (Yv (Ex.ret,[Yk b,Zz .i64 n,Zq [],Zz .i64 0,Zz .i64 101,Zz .i64 n_3]))) (chk (decide (0≤Zy .i64 (n+n_3))&&decide (Zy .i64 (n+n_3)<(↑(Zw b):Int))) (sel (Zb b (Zu (Zy .i64 (n+n_3))) (0:UInt8)==(0:UInt8)) (chk (decide (0≤n)&&decide (n≤Zy .i64 (n+n_3))&&decide (Zy .i64 (n+n_3)≤(↑(Zw b):Int))) (some (Yv (Ex.ret,[Yk b,Zz .i64 n,Zq (Vy (Zu n) (Vz (Zu (Zy .i64 (n+n_3))) b)),Zz .i64 (Zy .i64 (Zy .i64 (n+n_3)+1)),Zz .i64 0,Zz .i64 n_3])))) (some (Yb [Yk b,Zz .i64 n,Zq b_1,Zz .i64 n_1,Zz .i64 n_2,Zz .i64 (Zy .i64 (n_3+1))]))))) (some (Yv (Yg 0,[Yk b,Zz .i64 n,Zq b_1,Zz .i64 n_1,Zz .i64 n_2,Zz .i64 n_3]))))) [Yk b,Zz .i64 pos,Zq [],Zz .i64 0,Zz .i64 0,Zz .i64 0]) fun (r:Ex×List AV)=>cBs (Yy r) fun b r_1=>cInt .i64 r_1 fun n r_2=>cStr r_2 fun b r_3=>cInt .i64 r_3 fun n r_4=>cInt .i64 r_4 fun n_1 r_5=>cInt .i64 r_5 fun n_2 r_6=>onNil r_6 (exK r.1 (some (Yx [Zq b,Zz .i64 n,Zz .i64 n_1],[])) fun (j:Nat)=>sel (Xb j 0) (some (Yx [Zq [],Zz .i64 0,Zz .i64 105],[])) none))):Option (AV×Blocks))) (by kernel_rfl) ?_
  try dsimp only [cStr,cBs,cBool,cU8,cInt,cSl,l63]
  have hb:=of_decide_eq_true hpre
  unfold Kerb.text
  by_cases h1:pos<0
  ·rw [sel_pos (by simpa using h1),if_neg (by rw [Kerb.room_zero];omega)]
  rw [sel_neg (by simpa using h1)]
  by_cases h2:(b.length:Int)<pos
  ·rw [sel_pos (by simpa using h2),if_neg (by rw [Kerb.room_zero];omega)]
  rw [sel_neg (by simpa using h2),if_pos (Kerb.room_zero.2 (by omega))]
  obtain ⟨R,hR⟩:∃ R,R=b.drop pos.toNat:=⟨_,rfl⟩
  have hRl:R.length=b.length-pos.toNat:=by rw [hR];simp
  rw [← hR]
  obtain ⟨T,hT⟩:∃ T,T=R.take 40:=⟨_,rfl⟩
  rw [← hT]
  have hix:=Kerb.indexOf_nonneg 0 T
  refine loop_rounds (fun i:Nat=>[Yk b,Zz Zx pos,Zq [],Zz Zx 0,Zz Zx 0,Zz Zx (i:Int)]) (fun i=>i≤40∧i≤R.length∧(0:UInt8) ∉ R.take i) (fun i=>40-i)
   (fun r=>∃ (i:Nat) (v:List UInt8) (nx e:Int),r.2=[Yk b,Zz Zx pos,Zq v,Zz Zx nx,Zz Zx e,Zz Zx (i:Int)] ∧
    ((r.1 = .ret∧v=[]∧nx=0∧e=101∧Kerb.indexOf 0 T<0∧T.length≠40)∨(r.1 = .ret∧Kerb.indexOf 0 T=i∧v=T.take i∧nx=pos+i+1∧e=0)∨(r.1 = .exit 0∧Kerb.indexOf 0 T<0∧T.length=40))) 0 ⟨by omega,by omega,by simp⟩ rfl ?_ ?_
  ·rintro i ⟨hi,hir,h0⟩
   simp only [A0]
   by_cases hlt:i≤39
   case neg =>
    have e40:i=40:=by omega
    subst e40
    rw [sel_neg (by decide)]
    refine ⟨_,rfl,40,[],0,0,rfl,.inr (.inr ⟨rfl,?_,?_⟩)⟩
    ·rw [← hT] at h0;have:=mt hix.1 h0;omega
    ·rw [hT];simp;omega
   rw [sel_pos (by simp;omega),wrap_i64 (n:=pos+(i:Int)) (by omega) (by omega)]
   by_cases hend:(b.length:Int)≤pos+i
   ·rw [sel_pos (by simpa using hend)]
    have hTR:T=R.take i:=by rw [hT,Yq (by omega),Yq (by omega)]
    refine ⟨_,rfl,i,[],0,101,rfl,.inl ⟨rfl,rfl,rfl,rfl,?_,?_⟩⟩
    ·rw [← hTR] at h0;have:=mt hix.1 h0;omega
    ·rw [hTR];simp;omega
   have hiR:i<R.length:=by omega
   have hd:=Kerb.drop_all_cons hiR
   have hbi:b.getD (pos+(i:Int)).toNat 0=R.getD i 0:=by
    rw [show (pos+(i:Int)).toNat=pos.toNat+i by omega,hR]
    simp [List.getD_eq_getElem?_getD]
   rw [sel_neg (by simpa using hend),chk_of (by simp;omega),hbi]
   by_cases hz:R.getD i 0=0
   ·rw [sel_pos (by rw [hz];rfl),chk_of (by simp;omega),wrap_i64 (by omega) (by omega)]
    have hTi:T.take i=R.take i:=by rw [hT,List.take_take,Nat.min_eq_left (by omega)]
    have hTe:T=R.take i++0::(R.drop (i+1)).take (39-i):=by
     rw [hT]
     have:R=R.take i++(0::R.drop (i+1)):=by rw [← hz,← hd,List.take_append_drop]
     have hl:(R.take i).length=i:=by simp;omega
     calc R.take 40=(R.take i++(0::R.drop (i+1))).take 40:=by rw [← this]
      _=_:=by rw [List.take_append,hl,Yq (by omega),show 40-i=(39-i)+1 by omega,List.take_succ_cons]
    have hidx:Kerb.indexOf 0 T=i:=by
     rw [hTe,Kerb.indexOf_append h0];simp;omega
    refine ⟨_,rfl,i,_,_,0,rfl,.inr (.inl ⟨rfl,hidx,?_,rfl,rfl⟩)⟩
    rw [hTi,hR,show (pos+(i:Int)).toNat=pos.toNat+i by omega,List.drop_take,show pos.toNat+i-pos.toNat=i by omega]
   ·rw [sel_neg (beq_eq_false_iff_ne.2 hz),wrap_i64 (by omega) (by omega)]
    refine ⟨_,rfl,i+1,rfl,⟨by omega,by omega,?_⟩,by dsimp only;omega⟩
    rw [Kerb.take_succ_getD hiR]
    simp only [List.mem_append,List.mem_singleton,not_or]
    exact ⟨h0,fun e=>hz e.symm⟩
  ·rintro ⟨e,l⟩ ⟨i,v,nx,er,rfl,⟨rfl,rfl,rfl,rfl,g1,g2⟩ | ⟨rfl,g1,rfl,rfl,rfl⟩ | ⟨rfl,g1,g2⟩⟩
   ·simp only [A0]
    rw [if_neg (by omega),if_neg g2]
   ·simp only [A0]
    rw [if_pos (by omega),g1,Zm]
   ·simp only [A0]
    rw [if_neg (by omega),if_pos g2,sel_pos (Xw _)]
 ·cases h
theorem w165:Walked Tryz.prog G 165 1 sp165:=by
 refine ⟨Tryz.f165,Tryz.func165,by decide +kernel,rfl,fun xs bl r h=> ?_⟩
 unfold sp165 at h
 split at h
 ·rename_i b pos n
  obtain ⟨hpre,h2⟩:=chk_inv h;cases h2
  refine Eq.trans (b:=(sel (decide (pos<0)) (some (Yx [Yk [],Zz .i64 0,Zz .i64 104],[])) (sel (decide (pos>(↑(Zw b):Int))) (some (Yx [Yk [],Zz .i64 0,Zz .i64 104],[])) (sel (decide (n<0)) (some (Yx [Yk [],Zz .i64 0,Zz .i64 104],[])) (sel (decide (n>Zy .i64 ((↑(Zw b):Int)-pos))) (some (Yx [Yk [],Zz .i64 0,Zz .i64 101],[])) (chk (decide (0≤pos)&&decide (pos≤Zy .i64 (pos+n))&&decide (Zy .i64 (pos+n)≤(↑(Zw b):Int))) (chk (room (Zw (Vy (Zu pos) (Vz (Zu (Zy .i64 (pos+n))) b))) 1) (some (Yx [Yk (Vy (Zu pos) (Vz (Zu (Zy .i64 (pos+n))) b)),Zz .i64 (Zy .i64 (pos+n)),Zz .i64 0],[]))))))):Option (AV×Blocks))) (by kernel_rfl) ?_
  have hb:=of_decide_eq_true hpre
  unfold Kerb.bytes
  by_cases h1:pos<0
  ·have e:Wx b pos n=104:=by unfold Wx;rw [if_pos (by omega)]
   rw [sel_pos (by simpa using h1),e]
   rfl
  rw [sel_neg (by simpa using h1)]
  by_cases h2:(b.length:Int)<pos
  ·have e:Wx b pos n=104:=by unfold Wx;rw [if_pos (by omega)]
   rw [sel_pos (by simpa using h2),e]
   rfl
  rw [sel_neg (by simpa using h2)]
  by_cases h3:n<0
  ·have e:Wx b pos n=104:=by unfold Wx;rw [if_pos (by omega)]
   rw [sel_pos (by simpa using h3),e]
   rfl
  rw [sel_neg (by simpa using h3),wrap_i64 (n:=(b.length:Int)-pos) (by omega) (by omega)]
  by_cases h4:(b.length:Int)-pos<n
  ·have e:Wx b pos n=101:=by unfold Wx;rw [if_neg (by omega),if_pos h4]
   rw [sel_pos (by simpa using h4),e]
   rfl
  have hr:Wx b pos n=0:=Kerb.room_zero.2 (by omega)
  have e:Vy (Zu pos) (Vz (Zu (pos+n)) b)=Kerb.cut b pos n:=by
   rw [show Zu (pos+n)=pos.toNat+n.toNat by omega,List.drop_take,show pos.toNat+n.toNat-pos.toNat=n.toNat by omega]
   rfl
  have hc:=Kerb.cut_length hr
  rw [sel_neg (by simpa using h4),if_pos hr,wrap_i64 (by omega) (by omega),e,chk_of (by simp;omega),chk_of (Xx (by omega))]
 ·cases h
theorem w167:Walked Tryz.prog G 167 1 sp167:=by
 refine ⟨Tryz.f167,Tryz.func167,by decide +kernel,rfl,fun xs bl r h=> ?_⟩
 unfold sp167 at h
 split at h
 ·rename_i s bad
  obtain ⟨hpre,h2⟩:=chk_inv h;cases h2
  refine Eq.trans (b:=(Zf (loopM (fun (st:List AV)=>cStr st fun b r=>cStr r fun b_1 r=>cBool r fun b_2 r=>cInt .i64 r fun n r=>let t0:Int:=(↑(Yd (Zb b (Zu n) (0:UInt8))):Int);let t1:Option (List AV ⊕ Ex×List AV):=some (Yv (Ex.ret,[Zq b,Zq b_1,Zv false,Zz .i64 n]));onNil r (sel (decide (n<(↑(Zw b):Int))) (chk (decide (0≤n)&&decide (n<(↑(Zw b):Int))) (sel (decide (t0<(↑(Yd (33:UInt8)):Int))) t1 (chk (decide (0≤n)&&decide (n<(↑(Zw b):Int))) (sel (decide (t0>(↑(Yd (126:UInt8)):Int))) t1 (Zf (loopM (fun (st:List AV)=>cStr st fun b r=>cStr r fun b_3 r=>cBool r fun b_4 r=>cInt .i64 r fun n r=>cInt .i64 r fun n_1 r=>onNil r (sel (decide (n_1<(↑(Zw b_3):Int))) (chk (decide (0≤n)&&decide (n<(↑(Zw b):Int))) (chk (decide (0≤n_1)&&decide (n_1<(↑(Zw b_3):Int))) (sel (Zb b (Zu n) (0:UInt8)==Zb b_3 (Zu n_1) (0:UInt8)) (some (Yv (Ex.ret,[Zq b,Zq b_3,Zv false,Zz .i64 n,Zz .i64 n_1]))) (some (Yb [Zq b,Zq b_3,Zv b_4,Zz .i64 n,Zz .i64 (Zy .i64 (n_1+1))]))))) (some (Yv (Yg 2,[Zq b,Zq b_3,Zv b_4,Zz .i64 n,Zz .i64 n_1]))))) [Zq b,Zq b_1,Zv b_2,Zz .i64 n,Zz .i64 0]) fun (r:Ex×List AV)=>cStr (Yy r) fun b r_1=>cStr r_1 fun b_3 r_2=>cBool r_2 fun b_4 r_3=>cInt .i64 r_3 fun n r_4=>cInt .i64 r_4 fun n_1 r_5=>onNil r_5 (exK r.1 (some (Yv (Ex.ret,[Zq b,Zq b_3,Zv b_4,Zz .i64 n]))) fun (j:Nat)=>sel (Xb j 2) (some (Yb [Zq b,Zq b_3,Zv b_4,Zz .i64 (Zy .i64 (n+1))])) none)))))) (some (Yv (Yg 0,[Zq b,Zq b_1,Zv b_2,Zz .i64 n]))))) [Zq s,Zq bad,Zv false,Zz .i64 0]) fun (r:Ex×List AV)=>cStr (Yy r) fun b r_1=>cStr r_1 fun b_1 r_2=>cBool r_2 fun b_2 r_3=>cInt .i64 r_3 fun n r_4=>onNil r_4 (exK r.1 (some (Zv b_2,[])) fun (j:Nat)=>sel (Xb j 0) (some (Zv (decide ((↑(Zw b):Int)≤39)),[])) none):Option (AV×Blocks))) (by kernel_rfl) ?_
  try dsimp only [cStr,cBs,cBool,cU8,cInt,cSl,l63]
  simp only [Zk,decide_eq_true_eq] at hpre
  refine loop_rounds (fun i:Nat=>[Zq s,Zq bad,Zv false,Zz Zx (i:Int)]) (fun i=>i≤s.length∧Xq s bad=Xq (s.drop i) bad) (fun i=>s.length-i)
   (fun r=>∃ i:Nat,r.2=[Zq s,Zq bad,Zv false,Zz Zx (i:Int)]∧((r.1 = .ret∧Xq s bad=false)∨(r.1 = .exit 0∧Xq s bad=true))) 0 ⟨Xu _,rfl⟩ rfl ?_ ?_
  ·rintro i ⟨hi,hp⟩
   simp only [A0]
   by_cases hlt:i<s.length
   ·have hc:(decide ((0:Int)≤(i:Int))&&decide ((i:Int)<(s.length:Int)))=true:=by simp;omega
    have hd:=Kerb.drop_all_cons hlt
    rw [sel_pos (by simp;omega),chk_of hc,Zm]
    have hpr:Xq (s.drop i) bad=(Kerb.okB bad (s.getD i 0)&&Xq (s.drop (i+1)) bad):=by rw [hd];rfl
    generalize hcc:s.getD i 0=c at *
    by_cases h1:c.toNat<33
    ·rw [sel_pos (by simp;omega)]
     exact ⟨_,rfl,i,rfl,.inl ⟨rfl,by rw [hp,hpr];simp [Kerb.okB,h1]⟩⟩
    rw [sel_neg (by simp;omega),chk_of hc]
    by_cases h2:126<c.toNat
    ·rw [sel_pos (by simp;omega)]
     exact ⟨_,rfl,i,rfl,.inl ⟨rfl,by rw [hp,hpr];simp [Kerb.okB,h2]⟩⟩
    rw [sel_neg (by simp;omega)]
    refine loop_ex (fun j:Nat=>[Zq s,Zq bad,Zv false,Zz Zx (i:Int),Zz Zx (j:Int)]) (fun j=>j≤bad.length∧(c∈bad↔c∈bad.drop j)) (fun j=>bad.length-j)
     (fun r=>∃ j:Nat,r.2=[Zq s,Zq bad,Zv false,Zz Zx (i:Int),Zz Zx (j:Int)]∧((r.1 = .ret∧c∈bad)∨(r.1 = .exit 2∧c ∉ bad))) 0 ⟨Xu _,by simp⟩ rfl ?_ ?_
    ·rintro j ⟨hj,hm⟩
     simp only [A0]
     by_cases hjl:j<bad.length
     ·have hdj:=Kerb.drop_all_cons hjl
      rw [sel_pos (by simp;omega),chk_of hc,chk_of (by simp;omega),Zm,Zm,hcc]
      rw [hdj,List.mem_cons] at hm
      by_cases h3:c=bad.getD j 0
      ·rw [sel_pos (by simpa using h3)]
       exact ⟨_,rfl,j,rfl,.inl ⟨rfl,hm.2 (.inl h3)⟩⟩
      ·rw [sel_neg (by simpa using h3),wrap_i64 (by omega) (by omega)]
       exact ⟨_,rfl,j+1,rfl,⟨by omega,hm.trans ⟨fun h=>h.resolve_left h3,.inr⟩⟩,by dsimp only;omega⟩
     ·rw [sel_neg (by simp;omega)]
      refine ⟨_,rfl,j,rfl,.inr ⟨rfl,?_⟩⟩
      rw [hm,Xv (by omega)];simp
    ·rintro ⟨e,l⟩ ⟨j,rfl,⟨rfl,h3⟩ | ⟨rfl,h3⟩⟩
     ·simp only [A0]
      exact ⟨_,rfl,i,rfl,.inl ⟨rfl,by rw [hp,hpr];simp [Kerb.okB,h3]⟩⟩
     ·simp only [A0]
      rw [sel_pos (Xw _),wrap_i64 (by omega) (by omega)]
      exact ⟨_,rfl,i+1,rfl,⟨by omega,by rw [hp,hpr];simp [Kerb.okB,h1,h2,h3]⟩,by dsimp only;omega⟩
   ·rw [sel_neg (by simp;omega)]
    exact ⟨_,rfl,i,rfl,.inr ⟨rfl,by rw [hp,Xv (by omega)];rfl⟩⟩
  ·rintro ⟨e,l⟩ ⟨i,rfl,⟨rfl,hp⟩ | ⟨rfl,hp⟩⟩
   ·simp only [A0,hp]
    rfl
   ·simp only [A0,hp]
    rw [sel_pos (Xw _),decide_eq_decide.2 (show ((s.length:Int)≤39)↔s.length≤39 from by omega)]
    rfl
 ·cases h
theorem w168:Walked Tryz.prog G 168 1 sp168:=by
 refine ⟨Tryz.f168,Tryz.func168,by decide +kernel,rfl,fun xs bl r h=> ?_⟩
 unfold sp168 at h
 split at h
 ·rename_i n m
  cases h
  refine Eq.trans (b:=(sel (decide (n≥0)) (some (Zv (decide (n≤m)),[])) (some (Zv false,[])):Option (AV×Blocks))) (by kernel_rfl) ?_
  by_cases h:0≤n<;>simp [sel,Zp,h]
 ·cases h
theorem w174:Walked Tryz.prog G 174 1 sp174:=by
 refine ⟨Tryz.f174,Tryz.func174,by decide +kernel,rfl,fun xs bl r h=> ?_⟩
 unfold sp174 at h
 split at h
 ·rename_i k
  cases h
  refine Eq.trans (b:=(sel (k==1) (some (Zv true,[])) (some (Zv (k==2),[])):Option (AV×Blocks))) (by kernel_rfl) ?_
  unfold Wn
  cases (k==(1:Int))<;>rfl
 ·cases h
theorem w175:Walked Tryz.prog G 175 1 sp175:=by
 refine ⟨Tryz.f175,Tryz.func175,by decide +kernel,rfl,fun xs bl r h=> ?_⟩
 unfold sp175 at h
 split at h
 ·rename_i k
  cases h
  refine Eq.trans (b:=(sel (decide (k≥1)) (some (Zv (decide (k≤4294967295)),[])) (some (Zv false,[])):Option (AV×Blocks))) (by kernel_rfl) ?_
  by_cases h:1≤k<;>simp [sel,Wf,h]
 ·cases h
theorem w176:Walked Tryz.prog G 176 1 sp176:=by
 refine ⟨Tryz.f176,Tryz.func176,by decide +kernel,rfl,fun xs bl r h=> ?_⟩
 unfold sp176 at h
 split at h
 ·rename_i n
  cases h
  refine Eq.trans (b:=(sel (decide (n≥0)) (some (Zv (decide (n≤4294967295)),[])) (some (Zv false,[])):Option (AV×Blocks))) (by kernel_rfl) ?_
  by_cases h:0≤n<;>simp [sel,Zp,h]
 ·cases h
theorem w177:Walked Tryz.prog G 177 1 sp177:=by
 refine ⟨Tryz.f177,Tryz.func177,by decide +kernel,rfl,fun xs bl r h=> ?_⟩
 unfold sp177 at h
 split at h
 ·rename_i n
  cases h
  refine Eq.trans (b:=(sel (decide (n≥0)) (some (Zv (decide (n≤255)),[])) (some (Zv false,[])):Option (AV×Blocks))) (by kernel_rfl) ?_
  by_cases h:0≤n<;>simp [sel,Zp,h]
 ·cases h
theorem w180:Walked Tryz.prog G 180 1 sp180:=by
 refine ⟨Tryz.f180,Tryz.func180,by decide +kernel,rfl,fun xs bl r h=> ?_⟩
 unfold sp180 at h
 split at h
 ·rename_i l
  cases h
  refine Eq.trans (b:=(sel (l==[(103:UInt8),(84:UInt8),(71:UInt8),(83:UInt8)]) (some (Zv true,[])) (some (Zv (l==[(103:UInt8),(84:UInt8),(75:UInt8),(84:UInt8)]),[])):Option (AV×Blocks))) (by kernel_rfl) ?_
  unfold Kerb.timed
  show sel (l==Kerb.lGet) _ (some (Zv (l==Kerb.lTicket),[]))=_
  cases (l==Kerb.lGet)<;>rfl
 ·cases h
theorem w181:Walked Tryz.prog G 181 1 sp181:=by
 refine ⟨Tryz.f181,Tryz.func181,by decide +kernel,rfl,fun xs bl r h=> ?_⟩
 unfold sp181 at h
 split at h
 ·rename_i k
  obtain ⟨hpre,h2⟩:=chk_inv h;cases h2
  refine Eq.trans (b:=(Zf (loopM (fun (st:List AV)=>cInt .u64 st fun n r=>onCons r fun x r=>Wj x fun b=>cInt .i64 r fun n_1 r=>cInt .i64 r fun n_2 r=>let t0:Int:=Zy .i64 (8*Zy .i64 (7-n_2));onNil r (sel (decide (n_2<n_1)) (chk (decide (0≤t0)) (chk (decide (0≤n_2)&&decide (n_2<(↑(Zw b):Int))) (chk (Wz (Zu n_2) (Zw b)&&true&&true&&true&&true) (some (Yb [Zz .u64 n,Yn (List.set b (Zu n_2) (Yw (Zu (Zy .u8 (Int.fdiv n (2 ^ min (Zu t0) (Zd .u64))))))),Zz .i64 n_1,Zz .i64 (Zy .i64 (n_2+1))]))))) (some (Yv (Yg 0,[Zz .u64 n,Yn b,Zz .i64 n_1,Zz .i64 n_2]))))) [Zz .u64 k,Yn (List.replicate (Zu 8) (0:UInt8)),Zz .i64 (↑(Zw (List.replicate (Zu 8) (0:UInt8))):Int),Zz .i64 0]) fun (r:Ex×List AV)=>cInt .u64 (Yy r) fun n r_1=>onCons r_1 fun x r_2=>Wj x fun b=>cInt .i64 r_2 fun n r_3=>cInt .i64 r_3 fun n r_4=>onNil r_4 (exK r.1 none fun (j:Nat)=>sel (Xb j 0) (some (Yk b,[])) none):Option (AV×Blocks))) (by kernel_rfl) ?_
  try dsimp only [cStr,cBs,cBool,cU8,cInt,cSl,l63]
  refine loop_unroll 9 (Yg 0,[Zz Ym k,Yn [Xp k 56,Xp k 48,Xp k 40,Xp k 32,Xp k 24,Xp k 16,Xp k 8,Xp k 0],Zz Zx 8,Zz Zx 8]) (by kernel_rfl) ?_
  simp only [A0]
  rw [sel_pos (Xw _)]
  simp [Kerb.bfd_eq,Kerb.keyBytes,Kerb.byteAt,List.range_succ]
 ·cases h
theorem w183:Walked Tryz.prog G 183 1 sp183:=by
 refine ⟨Tryz.f183,Tryz.func183,by decide +kernel,rfl,fun xs bl r h=> ?_⟩
 unfold sp183 at h
 split at h
 ·rename_i k
  cases h
  refine Eq.trans (b:=(sel (decide (k≥1)) (some (Zv (decide (k≤10)),[])) (some (Zv false,[])):Option (AV×Blocks))) (by kernel_rfl) ?_
  by_cases h:1≤k<;>simp [sel,Xm,h]
 ·cases h
theorem w192:Walked Tryz.prog G 192 1 sp192:=by
 refine ⟨Tryz.f192,Tryz.func192,by decide +kernel,rfl,fun xs bl r h=> ?_⟩
 unfold sp192 at h
 split at h
 ·rename_i n
  cases h
  refine Eq.trans (b:=(sel (decide (n≥0)) (some (Zv (decide (n≤4294967295)),[])) (some (Zv false,[])):Option (AV×Blocks))) (by kernel_rfl) ?_
  by_cases h:0≤n<;>simp [sel,Zp,h]
 ·cases h
theorem w193:Walked Tryz.prog G 193 1 sp193:=by
 refine ⟨Tryz.f193,Tryz.func193,by decide +kernel,rfl,fun xs bl r h=> ?_⟩
 unfold sp193 at h
 split at h
 ·rename_i xls a b
  obtain ⟨hpre,h2⟩:=chk_inv h;cases h2
  refine Eq.trans (b:=(Zf (loopM (fun (st:List AV)=>cSl 4 st fun b r=>cStr r fun b_1 r=>cStr r fun b_2 r=>cInt .i64 r fun n r=>cInt .i64 r fun n_1 r=>let t0:Option (List AV ⊕ Ex×List AV):=some (Yb [Zg 4 b,Zq b_1,Zq b_2,Zz .i64 n,Zz .i64 (Zy .i64 (n_1+1))]);let t1:Bool:=decide (0≤n_1)&&decide (n_1<(↑(Zw b):Int))&&true;let t2:Option (List AV ⊕ Ex×List AV):=some (Yb [Zg 4 b,Zq b_1,Zq b_2,Zz .i64 n_1,Zz .i64 (Zy .i64 (n_1+1))]);onNil r (sel (decide (n_1<(↑(Zw b):Int))) (chk t1 (Xg (Zb b (Zu n_1) Yf) fun cs=>cStr cs fun b_3 r=>cStr r fun b_4 r=>cInt .i64 r fun n_2 r=>cInt .u64 r fun n_3 r=>onNil r (sel (b_3==b_1) (chk t1 (Xg (Zb b (Zu n_1) Yf) fun cs=>cStr cs fun b_5 r=>cStr r fun b_6 r=>cInt .i64 r fun n_4 r=>cInt .u64 r fun n_5 r=>onNil r (sel (b_6==b_2) (sel (decide (n<0)) t2 (chk t1 (Xg (Zb b (Zu n_1) Yf) fun cs=>cStr cs fun b_7 r=>cStr r fun b_8 r=>cInt .i64 r fun n_6 r=>cInt .u64 r fun n_7 r=>onNil r (chk (decide (0≤n)&&decide (n<(↑(Zw b):Int))&&true) (Xg (Zb b (Zu n) Yf) fun cs=>cStr cs fun b r=>cStr r fun b r=>cInt .i64 r fun n r=>cInt .u64 r fun n_8 r=>onNil r (sel (decide (n_6>n)) t2 t0)))))) t0))) t0))) (some (Yv (Yg 0,[Zg 4 b,Zq b_1,Zq b_2,Zz .i64 n,Zz .i64 n_1]))))) [Zg 4 xls,Zq a,Zq b,Zz .i64 (-1:Int),Zz .i64 0]) fun (r:Ex×List AV)=>cSl 4 (Yy r) fun b r_1=>cStr r_1 fun b r_2=>cStr r_2 fun b r_3=>cInt .i64 r_3 fun n r_4=>cInt .i64 r_4 fun n_1 r_5=>onNil r_5 (exK r.1 none fun (j:Nat)=>sel (Xb j 0) (sel (decide (n<0)) (some (Yx [Zz .i64 0,Zv false],[])) (some (Yx [Zz .i64 n,Zv true],[]))) none):Option (AV×Blocks))) (by kernel_rfl) ?_
  try dsimp only [cStr,cBs,cBool,cU8,cInt,cSl,l63]
  simp only [Zk,decide_eq_true_eq] at hpre
  obtain ⟨hall,hlen⟩:=hpre
  obtain ⟨cs,rfl⟩:=Kerb.cross_of hall
  rw [Kerb.map_toCross,Kerb.find_crossR]
  simp only [Zn] at hlen ⊢
  refine loop_rounds (fun q:Nat×Int=>[Zg 4 (cs.map Yz),Zq a,Zq b,Zz Zx q.2,Zz Zx (q.1:Int)])
   (fun q=>q.1≤cs.length∧q.2=Kerb.crossI (Yj cs a b q.1)) (fun q=>cs.length-q.1)
   (fun r=>r=(Yg 0,[Zg 4 (cs.map Yz),Zq a,Zq b,Zz Zx (Kerb.crossI (Yj cs a b cs.length)),Zz Zx (cs.length:Int)])) (0,-1) ⟨Xu _,rfl⟩ rfl ?_ ?_
  ·rintro ⟨j,c⟩ ⟨hj,hinv⟩
   simp only at hj hinv
   simp only [↓A0,A0,Zn]
   rcases Wq j cs.length with h | h
   ·obtain ⟨x,hx⟩:∃ x,cs.getD j Xk=x:=⟨_,rfl⟩
    have hs:=Kerb.cross_step cs a b j hx
    have hk1:(decide ((0:Int)≤(j:Int))&&decide ((j:Int)<(cs.length:Int))&&true)=true:=by simp;omega
    have hg:(List.map Yz cs).getD j Yf=x.av:=by rw [Kerb.getD_cross h,hx]
    rw [sel_pos (by simp;omega)]
    simp only [hk1,Zm,hg,Yz,↓A0,A0]
    rw [wrap_i64 (by omega) (by omega)]
    have keep:Yj cs a b (j+1)=Yj cs a b j→Round (fun q:Nat×Int=>[Zg 4 (cs.map Yz),Zq a,Zq b,Zz Zx q.2,Zz Zx (q.1:Int)]) (fun q=>q.1≤cs.length∧q.2=Kerb.crossI (Yj cs a b q.1)) (fun q=>cs.length-q.1) (fun r=>r=(Yg 0,[Zg 4 (cs.map Yz),Zq a,Zq b,Zz Zx (Kerb.crossI (Yj cs a b cs.length)),Zz Zx (cs.length:Int)])) (j,c) (Yb [Zg 4 (cs.map Yz),Zq a,Zq b,Zz Zx c,Zz Zx ((j:Int)+1)]):=fun e =>
     ⟨(j+1,c),rfl,⟨by simp only;omega,by simp only;rw [e];exact hinv⟩,by simp only;omega⟩
    by_cases h1:x.source=a
    case neg =>
     rw [sel_neg (by simpa using h1)]
     rw [show (x.source==a)=false from by simpa using h1,Wd,cond_false] at hs
     exact ⟨_,rfl,keep hs⟩
    rw [sel_pos (by simp [h1])]
    rw [show (x.source==a)=true from by simpa using h1,Ww] at hs
    by_cases h2:x.target=b
    case neg =>
     rw [sel_neg (by simpa using h2)]
     rw [show (x.target==b)=false from by simpa using h2,Wd,cond_false] at hs
     exact ⟨_,rfl,keep hs⟩
    rw [sel_pos (by simp [h2])]
    rw [show (x.target==b)=true from by simpa using h2,Ww] at hs
    cases hc:Yj cs a b j with
    | none =>
     rw [hc] at hs hinv
     subst hinv
     rw [sel_pos (by simp [Kerb.crossI])]
     exact ⟨_,rfl,(j+1,(j:Int)),rfl,⟨by simp only;omega,by simp only;rw [hs];rfl⟩,by simp only;omega⟩
    | some k =>
     rw [hc] at hs hinv
     have hk:=Kerb.crossAt_lt hc
     have hck:c=(k:Int):=hinv
     rw [sel_neg (by simp;omega),chk_of (by simp;omega)]
     rw [hck,Zm,Kerb.getD_cross (by omega),← hck]
     simp only [Yz,↓A0,A0]
     dsimp only at hs
     by_cases h3:(cs.getD k Xk).kvno<x.kvno
     ·rw [sel_pos (by simpa using h3)]
      rw [show decide ((cs.getD k Xk).kvno<x.kvno)=true from by simpa using h3,cond_true] at hs
      exact ⟨_,rfl,(j+1,(j:Int)),rfl,⟨by simp only;omega,by simp only;rw [hs];rfl⟩,by simp only;omega⟩
     ·rw [sel_neg (by simpa using h3)]
      rw [show decide ((cs.getD k Xk).kvno<x.kvno)=false from by simpa using h3,cond_false] at hs
      exact ⟨_,rfl,keep (hs.trans hc.symm)⟩
   ·rw [sel_neg (by simp;omega)]
    have hj2:j=cs.length:=by omega
    subst hj2
    rw [hinv]
    exact ⟨_,rfl,rfl⟩
  ·rintro _ rfl
   simp only [↓A0,A0]
   rw [sel_pos (Xw _)]
   cases Yj cs a b cs.length with
   | none=>rfl
   | some k=>exact sel_neg (decide_eq_false (Int.not_lt.2 (Int.natCast_nonneg k))) _ _
 ·cases h
theorem w195:Walked Tryz.prog G 195 1 sp195:=by
 refine ⟨Tryz.f195,Tryz.func195,by decide +kernel,rfl,fun xs bl r h=> ?_⟩
 unfold sp195 at h
 split at h
 ·rename_i rl els i en ei ek ev ex em ea ef et
  obtain ⟨hpre,h2⟩:=chk_inv h;cases h2
  refine Eq.trans (b:=(let t0:List AV:=[Zq en,Zq ei,Zz .u64 ek,Zz .i64 ev,Zz .i64 ex,Zz .i64 em,Zz .i64 ea,Zz .i64 ef,Zz .i64 et];chk (room (Zw els) (nat_lit 88)) (chk (decide (0≤i)&&decide (i<(↑(Zw els):Int))&&true) (chk (Wz (Zu i) (Zw els)&&true&&true) (Xg (Zb els (Zu i) Yf) fun cs=>cStr cs fun b r=>cStr r fun b r=>cInt .u64 r fun n r=>cInt .i64 r fun n r=>cInt .i64 r fun n r=>cInt .i64 r fun n r=>cInt .i64 r fun n r=>cInt .i64 r fun n r=>cInt .i64 r fun n r=>onNil r (chk (Zw t0==nat_lit 9&&true&&true&&true&&Wz (Zu i) (Zw els)) (some (Wh [Zq rl,Zg 9 (List.set els (Zu i) (Wh t0))],[])))))):Option (AV×Blocks))) (by kernel_rfl) ?_
  try dsimp only [cStr,cBs,cBool,cU8,cInt,cSl,l63]
  simp only [Zk,decide_eq_true_eq] at hpre
  obtain ⟨⟨⟨hall,hlen⟩,h0⟩,h1⟩:=hpre
  obtain ⟨es,rfl,hok⟩:=Xh hall
  rw [Yh]
  simp only [Zn] at hlen h1
  have hj:i.toNat<es.length:=by omega
  rw [chk_of (Kerb.room_ok2 (by simp;omega))]
  try simp only [Zn]
  have hb:Wz i.toNat es.length=true:=by simp [hj]
  rw [chk_of (by simp;omega),chk_of (by rw [hb];rfl),Xf hj]
  simp only [Zh,↓A0,A0]
  rw [chk_of (by rw [hb];rfl)]
  show some _=some _
  unfold Vx
  dsimp only
  rw [← Kerb.set_ent]
  rfl
 ·cases h
theorem w197:Walked Tryz.prog G 197 1 sp197:=by
 refine ⟨Tryz.f197,Tryz.func197,by decide +kernel,rfl,fun xs bl r h=> ?_⟩
 unfold sp197 at h
 split at h
 ·rename_i k els
  obtain ⟨hpre,h2⟩:=chk_inv h;cases h2
  refine Eq.trans (b:=(Zf (loopM (fun (st:List AV)=>cInt .i64 st fun n r=>cBool r fun b r=>cSl 1 r fun b_1 r=>cInt .i64 r fun n_1 r=>cInt .i64 r fun n_2 r=>onNil r (sel (decide (n_2<n_1)) (chk (decide (0≤n_2)&&decide (n_2<(↑(Zw b_1):Int))&&true) (Xy .i64 (Zb b_1 (Zu n_2) Yf) fun n_3=>sel (n_3==n) (some (Yv (Ex.ret,[Zz .i64 n,Zv true,Zg 1 b_1,Zz .i64 n_1,Zz .i64 n_2]))) (some (Yb [Zz .i64 n,Zv b,Zg 1 b_1,Zz .i64 n_1,Zz .i64 (Zy .i64 (n_2+1))])))) (some (Yv (Yg 0,[Zz .i64 n,Zv b,Zg 1 b_1,Zz .i64 n_1,Zz .i64 n_2]))))) [Zz .i64 k,Zv false,Zg 1 els,Zz .i64 (↑(Zw els):Int),Zz .i64 0]) fun (r:Ex×List AV)=>cInt .i64 (Yy r) fun n r_1=>cBool r_1 fun b r_2=>cSl 1 r_2 fun b_1 r_3=>cInt .i64 r_3 fun n r_4=>cInt .i64 r_4 fun n r_5=>onNil r_5 (exK r.1 (some (Zv b,[])) fun (j:Nat)=>sel (Xb j 0) (some (Zv false,[])) none):Option (AV×Blocks))) (by kernel_rfl) ?_
  try dsimp only [cStr,cBs,cBool,cU8,cInt,cSl,l63]
  simp only [Zk,decide_eq_true_eq] at hpre
  obtain ⟨ha,hl⟩:=hpre
  have hil:=Kerb.ints_len ha
  refine loop_rounds (fun i:Nat=>[Zz Zx k,Zv false,Zg 1 els,Zz Zx (els.length:Int),Zz Zx (i:Int)]) (fun i=>i≤els.length∧(k∈intsIn els↔k∈(intsIn els).drop i)) (fun i=>els.length-i)
   (fun r=>∃ (i:Nat) (x:Bool),r.2=[Zz Zx k,Zv x,Zg 1 els,Zz Zx (els.length:Int),Zz Zx (i:Int)]∧((r.1 = .ret∧x=true∧k∈intsIn els)∨(r.1 = .exit 0∧k ∉ intsIn els))) 0 ⟨Xu _,by simp⟩ rfl ?_ ?_
  ·rintro i ⟨hi,hm⟩
   simp only [A0]
   by_cases hlt:i<els.length
   ·obtain ⟨n,h1,h2⟩:=Kerb.ints_get ha hlt
    rw [sel_pos (by simp;omega),chk_of (by simp;omega),Zm,h1,onInt_int]
    rw [h2,List.mem_cons] at hm
    by_cases h3:n=k
    ·rw [sel_pos (by simpa using h3)]
     exact ⟨_,rfl,i,true,rfl,.inl ⟨rfl,rfl,hm.2 (.inl h3.symm)⟩⟩
    ·rw [sel_neg (by simpa using h3),wrap_i64 (by omega) (by omega)]
     exact ⟨_,rfl,i+1,rfl,⟨by omega,hm.trans ⟨fun h=>h.resolve_left fun e=>h3 e.symm,.inr⟩⟩,by dsimp only;omega⟩
   ·rw [sel_neg (by simp;omega)]
    refine ⟨_,rfl,i,false,rfl,.inr ⟨rfl,?_⟩⟩
    rw [hm,Xv (by omega)];simp
  ·rintro ⟨e,l⟩ ⟨i,x,rfl,⟨rfl,rfl,h⟩ | ⟨rfl,h⟩⟩
   ·simp [onCons,Xy,AV.onBool,AV.onSl,onNil,exK,h]
   ·simp [onCons,Xy,AV.onBool,AV.onSl,onNil,exK,h,sel]
 ·cases h
theorem w199:Walked Tryz.prog G 199 1 sp199:=by
 refine ⟨Tryz.f199,Tryz.func199,by decide +kernel,rfl,fun xs bl r h=> ?_⟩
 unfold sp199 at h
 split at h
 ·rename_i nx e B at_ bad
  cases h
  show runFnH (G.env 199 1) G.rts (G.own 199) Tryz.f199 _ _ [0]=_
  refine Eq.trans (b:=(sel bad (some (Zv false,[[Yk B,Zz .i64 at_,Zv true]])) (sel (!e==0) (some (Zv false,[[Yk B,Zz .i64 at_,Zv true]])) (some (Zv true,[[Yk B,Zz .i64 nx,Zv bad]]))):Option (AV×Blocks))) (by kernel_rfl) ?_
  cases bad
  ·cases (e==0)<;>rfl
  ·rfl
 ·cases h
theorem w202:Walked Tryz.prog G 202 1 sp202:=by
 refine ⟨Tryz.f202,Tryz.func202,by decide +kernel,rfl,fun xs bl r h=> ?_⟩
 unfold sp202 at h
 split at h
 ·rename_i n
  cases h
  refine Eq.trans (b:=(sel (n==1) (some (Zv true,[])) (sel (n==2) (some (Zv true,[])) (some (Zv (n==3),[]))):Option (AV×Blocks))) (by kernel_rfl) ?_
  unfold Kerb.kaOp
  cases (n==1)
  ·cases (n==2)<;>rfl
  ·rfl
 ·cases h
theorem w203:Walked Tryz.prog G 203 1 sp203:=by
 refine ⟨Tryz.f203,Tryz.func203,by decide +kernel,rfl,fun xs bl r h=> ?_⟩
 unfold sp203 at h
 split at h
 ·rename_i n m
  cases h
  refine Eq.trans (b:=(sel (decide (n≥0)) (some (Zv (decide (n≤m)),[])) (some (Zv false,[])):Option (AV×Blocks))) (by kernel_rfl) ?_
  by_cases h:0≤n<;>simp [sel,Zp,h]
 ·cases h
theorem w206:Walked Tryz.prog G 206 1 sp206:=by
 refine ⟨Tryz.f206,Tryz.func206,by decide +kernel,rfl,fun xs bl r h=> ?_⟩
 unfold sp206 at h
 split at h
 ·rename_i l
  cases h
  refine Eq.trans (b:=(sel (l==[(116:UInt8),(103:UInt8),(115:UInt8),(84:UInt8)]) (some (Zv true,[])) (some (Zv (l==[(116:UInt8),(107:UInt8),(116:UInt8),(71:UInt8)]),[])):Option (AV×Blocks))) (by kernel_rfl) ?_
  unfold Kerb.ticketed
  show sel (l==Kerb.lGot) _ (some (Zv (l==Kerb.lGiven),[]))=_
  cases (l==Kerb.lGot)<;>rfl
 ·cases h
theorem w211:Walked Tryz.prog G 211 1 sp211:=by
 refine ⟨Tryz.f211,Tryz.func211,by decide +kernel,rfl,fun xs bl r h=> ?_⟩
 unfold sp211 at h
 split at h
 ·rename_i c n
  cases h
  refine Eq.trans (b:=(sel (!c==1) (sel (!c==2) (some (Zz .u64 0,[])) (sel (decide (n<1)) (some (Zz .u64 0,[])) (sel (decide (n>4294967295)) (some (Zz .u64 0,[])) (some (Zz .u64 (Zy .u64 (↑(BitVec.toNat (BitVec.ofInt (Zd .u64) (Zy .u64 (Zy .u64 c*2 ^ min (Zu 56) (Zd .u64))) ||| BitVec.ofInt (Zd .u64) (Zy .u64 n))):Int)),[]))))) (sel (decide (n<1)) (some (Zz .u64 0,[])) (sel (decide (n>4294967295)) (some (Zz .u64 0,[])) (some (Zz .u64 (Zy .u64 (↑(BitVec.toNat (BitVec.ofInt (Zd .u64) (Zy .u64 (Zy .u64 c*2 ^ min (Zu 56) (Zd .u64))) ||| BitVec.ofInt (Zd .u64) (Zy .u64 n))):Int)),[])))):Option (AV×Blocks))) (by kernel_rfl) ?_
  unfold Wn Wf
  by_cases hc:c=1∨c=2
  case neg =>
   have q1:(c==(1:Int))=false:=by simp;omega
   have q2:(c==(2:Int))=false:=by simp;omega
   rw [q1,q2]
   rfl
  by_cases hn:1≤n∧n≤4294967295
  case neg =>
   have q:(decide (1≤n)&&decide (n≤4294967295))=false:=by
    rw [Bool.eq_false_iff]
    simp
    omega
   rw [q,Bool.and_false]
   have key:(sel (decide (n<(1:Int))) (some (Zz .u64 (0:Int),([]:Blocks))) (sel (decide (n>(4294967295:Int))) (some (Zz .u64 (0:Int),[])) (some (Zz Ym (Zy Ym ((BitVec.toNat (BitVec.ofInt (Zd Ym) (Zy Ym (Zy Ym c*(2:Int) ^ min (Zu (56:Int)) (Zd Ym))) ||| BitVec.ofInt (Zd Ym) (Zy Ym n)):Nat):Int)),[]))))=some (Zz .u64 0,[]):=by
    by_cases hl:n<1
    ·rw [sel_pos (by simpa using hl)]
    ·rw [sel_neg (by simpa using hl),sel_pos (by simp;omega)]
   rcases hc with rfl | rfl
   ·rw [sel_neg (by decide)];exact key
   ·rw [sel_pos (by decide),sel_neg (by decide)];exact key
  have q:(decide (1≤n)&&decide (n≤4294967295))=true:=by simp;omega
  have q2:(c==(1:Int)||c==(2:Int))=true:=by simpa using hc
  rw [q,q2,Kerb.key_make hc hn.1 hn.2]
  rcases hc with rfl | rfl
  ·rw [sel_neg (by decide),sel_neg (by simp;omega),sel_neg (by simp;omega)]
   rfl
  ·rw [sel_pos (by decide),sel_neg (by decide),sel_neg (by simp;omega),sel_neg (by simp;omega)]
   rfl
 ·cases h
theorem w212:Walked Tryz.prog G 212 1 sp212:=by
 refine ⟨Tryz.f212,Tryz.func212,by decide +kernel,rfl,fun xs bl r h=> ?_⟩
 unfold sp212 at h
 split at h
 ·rename_i b n k little
  obtain ⟨hpre,h2⟩:=chk_inv h;cases h2
  refine Eq.trans (b:=(chk (room (Zw b) 1) (Zf (loopM (fun (st:List AV)=>cInt .i64 st fun n r=>cInt .i64 r fun n_1 r=>cBool r fun b r=>onCons r fun x r=>Wj x fun b_1=>cInt .i64 r fun n_2 r=>let t1:Int:=Zy .u64 (Zy .i64 (8*Zy .i64 (Zy .i64 (n_1-1)-n_2)));let t2:List UInt8:=[Yw (Zu (Zy .u8 (Int.fdiv (Zy .u64 n) (2 ^ min (Zu (Zy .u64 (Zy .i64 (8*n_2)))) (Zd .u64)))))];let t0:List UInt8:=[Yw (Zu (Zy .u8 (Int.fdiv (Zy .u64 n) (2 ^ min (Zu t1) (Zd .u64)))))];onNil r (sel (decide (n_2<n_1)) (sel b (chk (decide (0≤Zy .u64 (Zy .i64 (8*n_2)))) (chk (room (Zw b_1+Zw t2) 1) (some (Yb [Zz .i64 n,Zz .i64 n_1,Zv b,Yn (b_1++t2),Zz .i64 (Zy .i64 (n_2+1))])))) (chk (decide (0≤t1)) (chk (room (Zw b_1+Zw t0) 1) (some (Yb [Zz .i64 n,Zz .i64 n_1,Zv b,Yn (b_1++t0),Zz .i64 (Zy .i64 (n_2+1))]))))) (some (Yv (Yg 0,[Zz .i64 n,Zz .i64 n_1,Zv b,Yn b_1,Zz .i64 n_2]))))) [Zz .i64 n,Zz .i64 k,Zv little,Yn b,Zz .i64 0]) fun (r:Ex×List AV)=>cInt .i64 (Yy r) fun n r_1=>cInt .i64 r_1 fun n r_2=>cBool r_2 fun b r_3=>onCons r_3 fun x r_4=>Wj x fun b=>cInt .i64 r_4 fun n r_5=>onNil r_5 (exK r.1 none fun (j:Nat)=>sel (Xb j 0) (some (Yn b,[])) none)):Option (AV×Blocks))) (by kernel_rfl) ?_
  try dsimp only [cStr,cBs,cBool,cU8,cInt,cSl,l63]
  simp only [Zk,decide_eq_true_eq] at hpre
  obtain ⟨hk,hb⟩:=hpre
  have hk4:k.toNat≤4∧0≤k:=by omega
  rw [chk_of (Xx (by omega))]
  refine loop_rounds (fun i:Nat=>[Zz Zx n,Zz Zx k,Zv little,Yn (b++(Kerb.putN n k.toNat little).take i),Zz Zx (i:Int)]) (fun i=>i≤k.toNat) (fun i=>k.toNat-i)
   (fun r=>r=(Yg 0,[Zz Zx n,Zz Zx k,Zv little,Yn (b++Kerb.putN n k.toNat little),Zz Zx k])) 0 (Xu _) (by simp) ?_ ?_
  ·intro i hi
   simp only [A0]
   by_cases hlt:i<k.toNat
   ·have hs:=Kerb.take_succ_getD (l:=Kerb.putN n k.toNat little) (i:=i) (by rw [Kerb.putN_len];omega)
    have hg:=Kerb.putN_getD n k.toNat little hlt
    have hl:((Kerb.putN n k.toNat little).take i).length=i:=by simp [Kerb.putN_len];omega
    rw [sel_pos (by simp;omega)]
    have hw:∀ j:Nat,j<4→Zy Ym (Zy Zx (8*(j:Int)))=((8*j:Nat):Int):=fun j hj=>by
     rw [wrap_i64 (by omega) (by omega),Kerb.wrap_u64];omega
    have hm:∀ j:Nat,j<4→min (Zu ((8*j:Nat):Int)) (Zd Ym)=8*j:=fun j hj=>by
     have:Zd Ym=64:=rfl
     rw [this];omega
    cases little
    ·have e:Zy Zx (Zy Zx (k-1)-(i:Int))=((k.toNat-1-i:Nat):Int):=by
      rw [wrap_i64 (n:=k-1) (by omega) (by omega),wrap_i64 (by omega) (by omega)];omega
     rw [sel_neg rfl,e,hw _ (by omega),hm _ (by omega),Kerb.ubyte n (by omega),chk_of (by simp;omega),chk_of (Xx (by simp [hl];omega)),wrap_i64 (by omega) (by omega)]
     refine ⟨_,rfl,i+1,?_,by omega,by dsimp only;omega⟩
     dsimp only
     rw [hs,hg,← List.append_assoc]
     rfl
    ·rw [sel_pos rfl,hw _ (by omega),hm _ (by omega),Kerb.ubyte n (by omega),chk_of (by simp;omega),chk_of (Xx (by simp [hl];omega)),wrap_i64 (by omega) (by omega)]
     refine ⟨_,rfl,i+1,?_,by omega,by dsimp only;omega⟩
     dsimp only
     rw [hs,hg,← List.append_assoc]
     rfl
   ·rw [sel_neg (by simp;omega)]
    refine ⟨_,rfl,?_⟩
    show _=_
    rw [Yq (by rw [Kerb.putN_len];omega),show (i:Int)=k from by omega]
  ·rintro r rfl
   simp only [A0]
   rw [sel_pos (Xw _)]
 ·cases h
theorem w222:Walked Tryz.prog G 222 1 sp222:=by
 refine ⟨Tryz.f222,Tryz.func222,by decide +kernel,rfl,fun xs bl r h=> ?_⟩
 unfold sp222 at h
 split at h
 ·rename_i x y z
  cases h
  refine Eq.trans (b:=(some (Zv (x==[(107:UInt8),(114:UInt8),(98:UInt8),(116:UInt8),(103:UInt8),(116:UInt8)]),[]):Option (AV×Blocks))) (by kernel_rfl) ?_
  rfl
 ·cases h
theorem w223:Walked Tryz.prog G 223 1 sp223:=by
 refine ⟨Tryz.f223,Tryz.func223,by decide +kernel,rfl,fun xs bl r h=> ?_⟩
 unfold sp223 at h
 split at h
 ·rename_i xls a b
  obtain ⟨hpre,h2⟩:=chk_inv h;cases h2
  refine Eq.trans (b:=(Zf (loopM (fun (st:List AV)=>cSl 4 st fun b r=>cStr r fun b_1 r=>cStr r fun b_2 r=>cInt .i64 r fun n r=>cBool r fun b_3 r=>cSl 4 r fun b_4 r=>cInt .i64 r fun n_1 r=>cInt .i64 r fun n_2 r=>let t2:List AV:=[Zg 4 b_4,Zz .i64 n_1,Zz .i64 (Zy .i64 (n_2+1))];let t0:Option (List AV ⊕ Ex×List AV):=some (Yb (Zg 4 b::Zq b_1::Zq b_2::Zz .i64 n::Zv b_3::t2));let t1:Option (List AV ⊕ Ex×List AV):=some (Yb (Zg 4 b::Zq b_1::Zq b_2::Zz .i64 n_2::Zv true::t2));onNil r (sel (decide (n_2<n_1)) (chk (decide (0≤n_2)&&decide (n_2<(↑(Zw b_4):Int))&&true) (Xg (Zb b_4 (Zu n_2) Yf) fun cs=>cStr cs fun b_5 r=>cStr r fun b_6 r=>cInt .i64 r fun n_3 r=>cInt .u64 r fun n_4 r=>onNil r (sel (!b_5==b_1) t0 (sel (!b_6==b_2) t0 (sel (!b_3) t1 (chk (decide (0≤n)&&decide (n<(↑(Zw b):Int))&&true) (Xg (Zb b (Zu n) Yf) fun cs=>cStr cs fun b r=>cStr r fun b r=>cInt .i64 r fun n r=>cInt .u64 r fun n_5 r=>onNil r (sel (decide (n_3>n)) t1 t0)))))))) (some (Yv (Yg 0,[Zg 4 b,Zq b_1,Zq b_2,Zz .i64 n,Zv b_3,Zg 4 b_4,Zz .i64 n_1,Zz .i64 n_2]))))) [Zg 4 xls,Zq a,Zq b,Zz .i64 0,Zv false,Zg 4 xls,Zz .i64 (↑(Zw xls):Int),Zz .i64 0]) fun (r:Ex×List AV)=>cSl 4 (Yy r) fun b r_1=>cStr r_1 fun b r_2=>cStr r_2 fun b r_3=>cInt .i64 r_3 fun n r_4=>cBool r_4 fun b r_5=>cSl 4 r_5 fun b_1 r_6=>cInt .i64 r_6 fun n_1 r_7=>cInt .i64 r_7 fun n_2 r_8=>onNil r_8 (exK r.1 none fun (j:Nat)=>sel (Xb j 0) (some (Yx [Zz .i64 n,Zv b],[])) none):Option (AV×Blocks))) (by kernel_rfl) ?_
  try dsimp only [cStr,cBs,cBool,cU8,cInt,cSl,l63]
  simp only [Zk,decide_eq_true_eq] at hpre
  obtain ⟨hall,hlen⟩:=hpre
  obtain ⟨cs,rfl⟩:=Kerb.cross_of hall
  rw [Kerb.map_toCross,Kerb.find_crossR]
  simp only [Zn] at hlen ⊢
  refine loop_rounds (fun q:Nat×Int×Bool=>[Zg 4 (cs.map Yz),Zq a,Zq b,Zz Zx q.2.1,Zv q.2.2,Zg 4 (cs.map Yz),Zz Zx (cs.length:Int),Zz Zx (q.1:Int)])
   (fun q=>q.1≤cs.length∧(q.2.1,q.2.2)=Kerb.crossR (Yj cs a b q.1)) (fun q=>cs.length-q.1)
   (fun r=>∃ (c:Int) (d:Bool),r=(Yg 0,[Zg 4 (cs.map Yz),Zq a,Zq b,Zz Zx c,Zv d,Zg 4 (cs.map Yz),Zz Zx (cs.length:Int),Zz Zx (cs.length:Int)])∧(c,d)=Kerb.crossR (Yj cs a b cs.length)) (0,0,false) ⟨Xu _,rfl⟩ rfl ?_ ?_
  ·rintro ⟨j,c,d⟩ ⟨hj,hinv⟩
   simp only at hj hinv
   simp only [↓A0,A0]
   rcases Wq j cs.length with h | h
   ·obtain ⟨x,hx⟩:∃ x,cs.getD j Xk=x:=⟨_,rfl⟩
    have hs:=Kerb.cross_step cs a b j hx
    rw [sel_pos (by simp;omega),chk_of (by simp;omega),Zm,Kerb.getD_cross h,hx]
    simp only [Yz,↓A0,A0]
    rw [wrap_i64 (by omega) (by omega)]
    have keep:Yj cs a b (j+1)=Yj cs a b j→Round (fun q:Nat×Int×Bool=>[Zg 4 (cs.map Yz),Zq a,Zq b,Zz Zx q.2.1,Zv q.2.2,Zg 4 (cs.map Yz),Zz Zx (cs.length:Int),Zz Zx (q.1:Int)]) (fun q=>q.1≤cs.length∧(q.2.1,q.2.2)=Kerb.crossR (Yj cs a b q.1)) (fun q=>cs.length-q.1) (fun r=>∃ (c:Int) (d:Bool),r=(Yg 0,[Zg 4 (cs.map Yz),Zq a,Zq b,Zz Zx c,Zv d,Zg 4 (cs.map Yz),Zz Zx (cs.length:Int),Zz Zx (cs.length:Int)])∧(c,d)=Kerb.crossR (Yj cs a b cs.length)) (j,c,d) (Yb [Zg 4 (cs.map Yz),Zq a,Zq b,Zz Zx c,Zv d,Zg 4 (cs.map Yz),Zz Zx (cs.length:Int),Zz Zx ((j:Int)+1)]):=fun e =>
     ⟨(j+1,c,d),rfl,⟨by simp only;omega,by simp only;rw [e];exact hinv⟩,by simp only;omega⟩
    by_cases h1:x.source=a
    case neg =>
     rw [sel_pos (by simpa using h1)]
     rw [show (x.source==a)=false from by simpa using h1,Wd,cond_false] at hs
     exact ⟨_,rfl,keep hs⟩
    rw [sel_neg (by simp [h1])]
    rw [show (x.source==a)=true from by simpa using h1,Ww] at hs
    by_cases h2:x.target=b
    case neg =>
     rw [sel_pos (by simpa using h2)]
     rw [show (x.target==b)=false from by simpa using h2,Wd,cond_false] at hs
     exact ⟨_,rfl,keep hs⟩
    rw [sel_neg (by simp [h2])]
    rw [show (x.target==b)=true from by simpa using h2,Ww] at hs
    cases hc:Yj cs a b j with
    | none =>
     rw [hc] at hs hinv
     cases hinv
     exact ⟨_,rfl,(j+1,(j:Int),true),rfl,⟨by simp only;omega,by simp only;rw [hs];rfl⟩,by simp only;omega⟩
    | some k =>
     rw [hc] at hs hinv
     cases hinv
     have hk:=Kerb.crossAt_lt hc
     have hkv:(cs.getD k Xk).kvno<x.kvno↔x.kvno>(cs.getD k Xk).kvno:=Iff.rfl
     rw [sel_neg (by simp),chk_of (by simp;omega),Zm,Kerb.getD_cross (by omega)]
     simp only [Yz,↓A0,A0]
     by_cases h3:(cs.getD k Xk).kvno<x.kvno
     ·rw [sel_pos (by simpa using h3)]
      dsimp only at hs
      rw [show decide ((cs.getD k Xk).kvno<x.kvno)=true from by simpa using h3,cond_true] at hs
      exact ⟨_,rfl,(j+1,(j:Int),true),rfl,⟨by simp only;omega,by simp only;rw [hs];rfl⟩,by simp only;omega⟩
     ·rw [sel_neg (by simpa using h3)]
      dsimp only at hs
      rw [show decide ((cs.getD k Xk).kvno<x.kvno)=false from by simpa using h3,cond_false] at hs
      exact ⟨_,rfl,keep (hs.trans hc.symm)⟩
   ·rw [sel_neg (by simp;omega)]
    have hj2:j=cs.length:=by omega
    subst hj2
    exact ⟨_,rfl,c,d,rfl,hinv⟩
  ·rintro _ ⟨c,d,rfl,h⟩
   rw [← h]
   rfl
 ·cases h
theorem w226:Walked Tryz.prog G 226 1 sp226:=by
 refine ⟨Tryz.f226,Tryz.func226,by decide +kernel,rfl,fun xs bl r h=> ?_⟩
 unfold sp226 at h
 split at h
 ·rename_i n
  obtain ⟨hpre,h2⟩:=chk_inv h;cases h2
  refine Eq.trans (b:=(some (Zz .i64 (Yp (Zy .i64 (n+1)) 4294967296),[]):Option (AV×Blocks))) (by kernel_rfl) ?_
  simp only [Zk,decide_eq_true_eq] at hpre
  rw [wrap_i64 (by omega) (by omega),Yu (by omega)]
  rfl
 ·cases h
theorem w237:Walked Tryz.prog G 237 1 sp237:=by
 refine ⟨Tryz.f237,Tryz.func237,by decide +kernel,rfl,fun xs bl r h=> ?_⟩
 unfold sp237 at h
 split at h
 ·rename_i k
  cases h
  refine Eq.trans (b:=(sel (decide (k≥1)) (some (Zv (decide (k≤10)),[])) (some (Zv false,[])):Option (AV×Blocks))) (by kernel_rfl) ?_
  by_cases h:1≤k<;>simp [sel,Xm,h]
 ·cases h
theorem w239:Walked Tryz.prog G 239 1 sp239:=by
 refine ⟨Tryz.f239,Tryz.func239,by decide +kernel,rfl,fun xs bl r h=> ?_⟩
 unfold sp239 at h
 split at h
 ·rename_i n m
  cases h
  refine Eq.trans (b:=(sel (decide (n≥0)) (some (Zv (decide (n≤m)),[])) (some (Zv false,[])):Option (AV×Blocks))) (by kernel_rfl) ?_
  by_cases h:0≤n<;>simp [sel,Zp,h]
 ·cases h
theorem w242:Walked Tryz.prog G 242 1 sp242:=by
 refine ⟨Tryz.f242,Tryz.func242,by decide +kernel,rfl,fun xs bl r h=> ?_⟩
 unfold sp242 at h
 split at h
 ·rename_i b pos n
  obtain ⟨hpre,h2⟩:=chk_inv h;cases h2
  refine Eq.trans (b:=(sel (decide (pos<0)) (some (Zz .i64 104,[])) (sel (decide (pos>(↑(Zw b):Int))) (some (Zz .i64 104,[])) (sel (decide (n<0)) (some (Zz .i64 104,[])) (sel (decide (n>Zy .i64 ((↑(Zw b):Int)-pos))) (some (Zz .i64 101,[])) (some (Zz .i64 0,[]))))):Option (AV×Blocks))) (by kernel_rfl) ?_
  simp only [decide_eq_true_eq] at hpre
  unfold Wx
  by_cases h1:pos<0
  ·simp [sel,h1]
  by_cases h2:(b.length:Int)<pos
  ·simp [sel,h1,h2]
  by_cases h3:n<0
  ·simp [sel,h1,h2,h3]
  rw [sel_neg (by simp;omega),sel_neg (by simp;omega),sel_neg (by simp;omega),wrap_i64 (by omega) (by omega),if_neg (by omega)]
  by_cases h4:(b.length:Int)-pos<n
  ·rw [sel_pos (by simp;omega),if_pos h4]
  ·rw [sel_neg (by simp;omega),if_neg h4]
 ·cases h
theorem w247:Walked Tryz.prog G 247 1 sp247:=by
 refine ⟨Tryz.f247,Tryz.func247,by decide +kernel,rfl,fun xs bl r h=> ?_⟩
 unfold sp247 at h
 split at h
 ·rename_i n m
  cases h
  refine Eq.trans (b:=(sel (decide (n≥0)) (some (Zv (decide (n≤m)),[])) (some (Zv false,[])):Option (AV×Blocks))) (by kernel_rfl) ?_
  by_cases h:0≤n<;>simp [sel,Zp,h]
 ·cases h
theorem w252:Walked Tryz.prog G 252 1 sp252:=by
 refine ⟨Tryz.f252,Tryz.func252,by decide +kernel,rfl,fun xs bl r h=> ?_⟩
 unfold sp252 at h
 split at h
 ·rename_i rl els n i
  obtain ⟨hpre,h2⟩:=chk_inv h;cases h2
  refine Eq.trans (b:=(Zf (loopM (fun (st:List AV)=>cStr st fun b r=>cStr r fun b_1 r=>cInt .i64 r fun n r=>cInt .i64 r fun n_1 r=>cInt .i64 r fun n_2 r=>cBool r fun b_2 r=>cSl 9 r fun b_3 r=>cInt .i64 r fun n_3 r=>cInt .i64 r fun n_4 r=>let t1:List AV:=[Zz .i64 n_2,Zv b_2,Zg 9 b_3,Zz .i64 n_3,Zz .i64 n_4];let t2:List AV:=[Zg 9 b_3,Zz .i64 n_3,Zz .i64 (Zy .i64 (n_4+1))];let t0:Option (List AV ⊕ Ex×List AV):=some (Yb (Zq b::Zq b_1::Zz .i64 n::Zz .i64 n_1::Zz .i64 n_2::Zv b_2::t2));onNil r (sel (decide (n_4<n_3)) (chk (decide (0≤n_4)&&decide (n_4<(↑(Zw b_3):Int))&&true) (Xg (Zb b_3 (Zu n_4) Yf) fun cs=>cStr cs fun b_4 r=>cStr r fun b_5 r=>cInt .u64 r fun n_5 r=>cInt .i64 r fun n_6 r=>cInt .i64 r fun n_7 r=>cInt .i64 r fun n_8 r=>cInt .i64 r fun n_9 r=>cInt .i64 r fun n_10 r=>cInt .i64 r fun n_11 r=>onNil r (sel (!b_4==b) t0 (sel (!b_5==b_1) t0 (sel b_2 (some (Yv (Ex.ret,Zq b::Zq b_1::Zz .i64 0::Zz .i64 9::t1))) (some (Yb (Zq b::Zq b_1::Zz .i64 n::Zz .i64 n_1::Zz .i64 n_4::Zv true::t2)))))))) (some (Yv (Yg 0,Zq b::Zq b_1::Zz .i64 n::Zz .i64 n_1::t1))))) [Zq n,Zq i,Zz .i64 0,Zz .i64 0,Zz .i64 0,Zv false,Zg 9 els,Zz .i64 (↑(Zw els):Int),Zz .i64 0]) fun (r:Ex×List AV)=>cStr (Yy r) fun b r_1=>cStr r_1 fun b r_2=>cInt .i64 r_2 fun n r_3=>cInt .i64 r_3 fun n_1 r_4=>cInt .i64 r_4 fun n_2 r_5=>cBool r_5 fun b r_6=>cSl 9 r_6 fun b_1 r_7=>cInt .i64 r_7 fun n_3 r_8=>cInt .i64 r_8 fun n_4 r_9=>onNil r_9 (exK r.1 (some (Yx [Zz .i64 n,Zz .i64 n_1],[])) fun (j:Nat)=>sel (Xb j 0) (sel (!b) (some (Yx [Zz .i64 0,Zz .i64 8],[])) (some (Yx [Zz .i64 n_2,Zz .i64 0],[]))) none):Option (AV×Blocks))) (by kernel_rfl) ?_
  try dsimp only [cStr,cBs,cBool,cU8,cInt,cSl,l63]
  simp only [Zk,decide_eq_true_eq] at hpre
  obtain ⟨hall,hlen⟩:=hpre
  obtain ⟨es,rfl,hok⟩:=Xh hall
  rw [Yh]
  simp only [Zn] at hlen ⊢
  refine loop_rounds (fun q:Nat×Int×Bool=>[Zq n,Zq i,Zz Zx 0,Zz Zx 0,Zz Zx q.2.1,Zv q.2.2,Zg 9 (es.map Zh),Zz Zx (es.length:Int),Zz Zx (q.1:Int)])
   (fun q=>q.1≤es.length∧((q.2.2=false∧(es.take q.1).countP (Zj n i)=0)∨(q.2.2=true∧(es.take q.1).countP (Zj n i)=1∧q.2.1=(es.findIdx (Zj n i):Int)))) (fun q=>es.length-q.1)
   (fun r=>∃ (a b c:Int) (d:Bool) (j:Nat),r.2=[Zq n,Zq i,Zz Zx a,Zz Zx b,Zz Zx c,Zv d,Zg 9 (es.map Zh),Zz Zx (es.length:Int),Zz Zx (j:Int)]∧((r.1 = .ret∧(a,b)=Wm es n i)∨(r.1 = .exit 0∧((d=false∧(0,8)=Wm es n i)∨(d=true∧(c,0)=Wm es n i))))) (0,0,false) ⟨Xu _,.inl ⟨rfl,rfl⟩⟩ rfl ?_ ?_
  ·rintro ⟨j,c,d⟩ ⟨hj,hinv⟩
   simp only at hj hinv
   simp only [↓A0,A0]
   rcases Wq j es.length with h | h
   ·have hc:=Kerb.count_take (p:=Zj n i) h
    have hle:=Kerb.count_le (p:=Zj n i) (es:=es) (j+1)
    rw [sel_pos (by simp;omega),chk_of (by simp;omega),Zm,Xf h]
    have hx:=Kerb.find_first (p:=Zj n i) h
    generalize es.getD j Wu=e at hc hx
    simp only [Zh,↓A0,A0]
    rw [wrap_i64 (by omega) (by omega)]
    by_cases h1:e.name=n
    ·by_cases h2:e.inst=i
     ·have hp:Zj n i e=true:=by simp [Zj,h1,h2]
      rw [hp,cond_true] at hc
      rw [sel_neg (by simp [h1]),sel_neg (by simp [h2])]
      rcases hinv with ⟨rfl,h0⟩ | ⟨rfl,h0,h3⟩
      ·refine ⟨_,rfl,(j+1,(j:Int),true),rfl,⟨by simp only;omega,.inr ⟨rfl,by simp only;omega,by rw [hx h0 hp]⟩⟩,by simp only;omega⟩
      ·refine ⟨_,rfl,0,9,c,true,j,rfl,.inl ⟨rfl,?_⟩⟩
       unfold Wm
       rw [if_neg (by omega),if_pos (by omega)]
     ·have hp:Zj n i e=false:=by simp [Zj,h2]
      rw [hp,cond_false] at hc
      rw [sel_neg (by simp [h1]),sel_pos (by simpa using h2)]
      exact ⟨_,rfl,(j+1,c,d),rfl,⟨by simp only;omega,by simp only;rw [hc];simpa using hinv⟩,by simp only;omega⟩
    ·have hp:Zj n i e=false:=by simp [Zj,h1]
     rw [hp,cond_false] at hc
     rw [sel_pos (by simpa using h1)]
     exact ⟨_,rfl,(j+1,c,d),rfl,⟨by simp only;omega,by simp only;rw [hc];simpa using hinv⟩,by simp only;omega⟩
   ·rw [sel_neg (by simp;omega)]
    rw [Yq h] at hinv
    refine ⟨_,rfl,0,0,c,d,j,rfl,.inr ⟨rfl,?_⟩⟩
    unfold Wm
    rcases hinv with ⟨rfl,h0⟩ | ⟨rfl,h0,rfl⟩
    ·exact .inl ⟨rfl,by rw [if_pos h0]⟩
    ·exact .inr ⟨rfl,by rw [if_neg (by omega),if_neg (by omega)]⟩
  ·rintro ⟨e,l⟩ ⟨a,b,c,d,j,rfl,⟨rfl,h⟩ | ⟨rfl,⟨rfl,h⟩ | ⟨rfl,h⟩⟩⟩
   ·rw [← h];rfl
   ·rw [← h];rfl
   ·rw [← h];rfl
 ·cases h
theorem w254:Walked Tryz.prog G 254 1 sp254:=by
 refine ⟨Tryz.f254,Tryz.func254,by decide +kernel,rfl,fun xs bl r h=> ?_⟩
 unfold sp254 at h
 split at h
 ·rename_i n m
  cases h
  refine Eq.trans (b:=(sel (decide (n≥0)) (some (Zv (decide (n≤m)),[])) (some (Zv false,[])):Option (AV×Blocks))) (by kernel_rfl) ?_
  by_cases h:0≤n<;>simp [sel,Zp,h]
 ·cases h
theorem w255:Walked Tryz.prog G 255 1 sp255:=by
 refine ⟨Tryz.f255,Tryz.func255,by decide +kernel,rfl,fun xs bl r h=> ?_⟩
 unfold sp255 at h
 split at h
 ·rename_i n m
  cases h
  refine Eq.trans (b:=(Zf (loopM (fun (st:List AV)=>cInt .i64 st fun n r=>cInt .i64 r fun n_1 r=>cSl 1 r fun b r=>cInt .i64 r fun n_2 r=>cInt .i64 r fun n_3 r=>let t0:List AV:=[Zz .i64 n_1,Zg 1 b,Zz .i64 n_2,Zz .i64 n_3];onNil r (sel (decide (n_3<n_2)) (chk (decide (0≤n_3)&&decide (n_3<(↑(Zw b):Int))&&true) (Xy .i64 (Zb b (Zu n_3) Yf) fun n_4=>sel (!n_4==n_1) (some (Yv (Ex.ret,Zz .i64 n_4::t0))) (some (Yb [Zz .i64 n,Zz .i64 n_1,Zg 1 b,Zz .i64 n_2,Zz .i64 (Zy .i64 (n_3+1))])))) (some (Yv (Yg 0,Zz .i64 n::t0))))) [Zz .i64 0,Zz .i64 0,Zg 1 [Zz .i64 n,Zz .i64 m],Zz .i64 (↑(Zw [Zz .i64 n,Zz .i64 m]):Int),Zz .i64 0]) fun (r:Ex×List AV)=>cInt .i64 (Yy r) fun n r_1=>cInt .i64 r_1 fun n_1 r_2=>cSl 1 r_2 fun b r_3=>cInt .i64 r_3 fun n_2 r_4=>cInt .i64 r_4 fun n_3 r_5=>onNil r_5 (exK r.1 (some (Zz .i64 n,[])) fun (j:Nat)=>sel (Xb j 0) (some (Zz .i64 n_1,[])) none):Option (AV×Blocks))) (by kernel_rfl) ?_
  try dsimp only [cStr,cBs,cBool,cU8,cInt,cSl,l63]
  refine loop_rounds (fun i:Nat=>[Zz Zx 0,Zz Zx 0,Zg 1 [Zz Zx n,Zz Zx m],Zz Zx 2,Zz Zx (i:Int)]) (fun i=>i≤2∧(0<i→n=0)∧(1<i→m=0)) (fun i=>2-i)
   (fun r=>∃ (a:Int) (i:Nat),r.2=[Zz Zx a,Zz Zx 0,Zg 1 [Zz Zx n,Zz Zx m],Zz Zx 2,Zz Zx (i:Int)]∧((r.1 = .ret∧a=if n=0 then m else n)∨(r.1 = .exit 0∧n=0∧m=0))) 0 ⟨by decide,by simp,by simp⟩ rfl ?_ ?_
  ·rintro i ⟨hi,h0,h1⟩
   simp only [↓A0,A0,List.length_cons,List.length_nil]
   have step:∀ (q:Int),(q=0→(i+1≤2∧(0<i+1→n=0)∧(1<i+1→m=0)))→(q≠0→q=if n=0 then m else n)→(i:Int)<2→∃ y,sel (!(q==0)) (some (Yv (Ex.ret,[Zz Zx q,Zz Zx 0,Zg 1 [Zz Zx n,Zz Zx m],Zz Zx 2,Zz Zx (i:Int)]))) (some (Yb [Zz Zx 0,Zz Zx 0,Zg 1 [Zz Zx n,Zz Zx m],Zz Zx 2,Zz Zx (Zy .i64 ((i:Int)+1))]))=some y∧Round (fun i:Nat=>[Zz Zx 0,Zz Zx 0,Zg 1 [Zz Zx n,Zz Zx m],Zz Zx 2,Zz Zx (i:Int)]) (fun i=>i≤2∧(0<i→n=0)∧(1<i→m=0)) (fun i=>2-i) (fun r=>∃ (a:Int) (i:Nat),r.2=[Zz Zx a,Zz Zx 0,Zg 1 [Zz Zx n,Zz Zx m],Zz Zx 2,Zz Zx (i:Int)]∧((r.1 = .ret∧a=if n=0 then m else n)∨(r.1 = .exit 0∧n=0∧m=0))) i y:=by
    intro q e1 e2 e3
    by_cases hq:q=0
    ·rw [sel_neg (by simp [hq]),wrap_i64 (by omega) (by omega)]
     exact ⟨_,rfl,i+1,rfl,e1 hq,by dsimp only;omega⟩
    ·rw [sel_pos (by simpa using hq)]
     exact ⟨_,rfl,q,i,rfl,.inl ⟨rfl,e2 hq⟩⟩
   rcases Wq i 2 with h | h
   ·rw [sel_pos (by simp;omega),chk_of (by simp;omega),Zm]
    have hc:i=0∨i=1:=by omega
    rcases hc with rfl | rfl
    ·show ∃ y,Xy Zx (Zz Zx n) _=some y∧_
     rw [onInt_int]
     exact step n (fun e=>⟨by omega,fun _=>e,fun h=>by omega⟩) (fun e=>by rw [if_neg e]) (by omega)
    ·show ∃ y,Xy Zx (Zz Zx m) _=some y∧_
     rw [onInt_int]
     exact step m (fun e=>⟨by omega,fun _=>h0 (by omega),fun _=>e⟩) (fun e=>by rw [if_pos (h0 (by omega))]) (by omega)
   ·rw [sel_neg (by simp;omega)]
    exact ⟨_,rfl,0,i,rfl,.inr ⟨rfl,h0 (by omega),h1 (by omega)⟩⟩
  ·rintro ⟨e,l⟩ ⟨a,i,rfl,⟨rfl,rfl⟩ | ⟨rfl,rfl,rfl⟩⟩
   ·rfl
   ·rfl
 ·cases h
theorem w262:Walked Tryz.prog G 262 1 sp262:=by
 refine ⟨Tryz.f262,Tryz.func262,by decide +kernel,rfl,fun xs bl r h=> ?_⟩
 unfold sp262 at h
 split at h
 ·rename_i n m
  cases h
  refine Eq.trans (b:=(sel (decide (n≥0)) (some (Zv (decide (n≤m)),[])) (some (Zv false,[])):Option (AV×Blocks))) (by kernel_rfl) ?_
  by_cases h:0≤n<;>simp [sel,Zp,h]
 ·cases h
theorem w267:Walked Tryz.prog G 267 1 sp267:=by
 refine ⟨Tryz.f267,Tryz.func267,by decide +kernel,rfl,fun xs bl r h=> ?_⟩
 unfold sp267 at h
 split at h
 ·rename_i n m
  cases h
  refine Eq.trans (b:=(sel (decide (n≥0)) (some (Zv (decide (n≤m)),[])) (some (Zv false,[])):Option (AV×Blocks))) (by kernel_rfl) ?_
  by_cases h:0≤n<;>simp [sel,Zp,h]
 ·cases h
theorem w35:Walked Tryz.prog G 35 2 sp35:=by
 refine ⟨Tryz.f35,Tryz.func35,by decide +kernel,rfl,fun xs bl r h=> ?_⟩
 unfold sp35 at h
 split at h
 ·rename_i n
  obtain ⟨hpre,h2⟩:=chk_inv h;cases h2
  refine Eq.trans (b:=(chk (decide (0≤Yp n 3)&&decide (Yp n 3<(↑(Zw [Zq [(65:UInt8),(84:UInt8),(72:UInt8)],Zq [(66:UInt8),(79:UInt8),(83:UInt8)],Zq [(67:UInt8),(65:UInt8),(77:UInt8)]]):Int))&&true) (AV.onStr (Zb [Zq [(65:UInt8),(84:UInt8),(72:UInt8)],Zq [(66:UInt8),(79:UInt8),(83:UInt8)],Zq [(67:UInt8),(65:UInt8),(77:UInt8)]] (Zu (Yp n 3)) Yf) fun b=>some (Zq b,[])):Option (AV×Blocks))) (by kernel_rfl) ?_
  have hn:0≤n:=by first | exact of_decide_eq_true hpre | (simp only [Zk,decide_eq_true_eq] at hpre;exact hpre.1)
  have ht:Yp n 3=n % 3:=Yu hn
  have hcase:n % 3=0∨n % 3=1∨n % 3=2:=by omega
  rcases hcase with e | e | e<;>simp [ht,e,chk,AV.onStr,Kerb.realm]
 ·cases h
theorem w48:Walked Tryz.prog G 48 2 sp48:=by
 refine ⟨Tryz.f48,Tryz.func48,by decide +kernel,rfl,fun xs bl r h=> ?_⟩
 unfold sp48 at h
 split at h
 ·rename_i rl els i now
  obtain ⟨hpre,h2⟩:=chk_inv h;cases h2
  refine Eq.trans (b:=(let t0:Bool:=List.all els Kerb.isEntry&&decide (Zw els≤1000000)&&decide (0≤i)&&decide (i<(↑(Zw els):Int));chk (decide (0≤i)&&decide (i<(↑(Zw els):Int))&&true) (Xg (Zb els (Zu i) Yf) fun cs=>cStr cs fun b r=>cStr r fun b_1 r=>cInt .u64 r fun n r=>cInt .i64 r fun n_1 r=>cInt .i64 r fun n_2 r=>cInt .i64 r fun n_3 r=>cInt .i64 r fun n_4 r=>let t1:Kerb.Db:=Vx (Kerb.Db.mk rl (List.map Kerb.toEntry els)) i (Kerb.Entry.mk b b_1 n n_1 n_2 n_3 n_4 0 (Xj (Zy .i64 (now+600)) 4294967295));cInt .i64 r fun n_5 r=>cInt .i64 r fun n_6 r=>let t2:Kerb.Db:=Vx (Kerb.Db.mk rl (List.map Kerb.toEntry els)) i (Kerb.Entry.mk b b_1 n n_1 n_2 n_3 n_4 (Zy .i64 (n_5+1)) n_6);onNil r (sel (decide (Zy .i64 (n_5+1)≥20)) (Zf (chk t0 (some (Wh [Zq (Kerb.Db.realm t1),Zg 9 (List.map Zh (Kerb.Db.entries t1))],[]))) (kA fun cs=>cStr cs fun b r=>cSl 9 r fun b_2 r=>onNil r (some (Wh [Zq b,Zg 9 b_2],[])))) (Zf (chk t0 (some (Wh [Zq (Kerb.Db.realm t2),Zg 9 (List.map Zh (Kerb.Db.entries t2))],[]))) (kA fun cs=>cStr cs fun b r=>cSl 9 r fun b_2 r=>onNil r (some (Wh [Zq b,Zg 9 b_2],[])))))):Option (AV×Blocks))) (by kernel_rfl) ?_
  delta kA
  try dsimp only [cStr,cBs,cBool,cU8,cInt,cSl,l63]
  simp only [Zk,decide_eq_true_eq] at hpre
  obtain ⟨⟨⟨⟨⟨hall,hlen⟩,h0⟩,h1⟩,he⟩,hn⟩:=hpre
  obtain ⟨es,rfl,hok⟩:=Xh hall
  rw [Yh] at *
  simp only [Zn] at hlen h1
  have i0:decide (0≤i)=true:=by simp;omega
  have i1:decide (i<(es.length:Int))=true:=by simp;omega
  simp only [hall,Zn,hlen,i0,i1,decide_true,Wg,↓A0,A0]
  rw [Xf (by omega)]
  unfold Kerb.kaFailed Kerb.entAt
  have hx:=Kerb.errs_all (Kerb.Db.err_inv he).2.2 _ (Kerb.ent_mem (es:=es) (i:=i.toNat) (by omega))
  dsimp only
  generalize es.getD i.toNat Wu=e at hx ⊢
  have x9:=Kerb.within_iff.1 (Kerb.Entry.err_inv hx).2.2.2.2.2.2.2.2
  have n9:=Kerb.within_iff.1 hn
  simp only [Zh,↓A0,A0]
  unfold Kerb.Entry.failed
  rw [wrap_i64 (n:=e.fails+1) (by omega) (by omega)]
  by_cases hf:20≤e.fails+1
  ·rw [sel_pos (by simpa using hf),if_pos hf,wrap_i64 (by omega) (by omega)]
  ·rw [sel_neg (by simpa using hf),if_neg hf]
 ·cases h
theorem w54:Walked Tryz.prog G 54 2 sp54:=by
 refine ⟨Tryz.f54,Tryz.func54,by decide +kernel,rfl,fun xs bl r h=> ?_⟩
 unfold sp54 at h
 split at h
 ·rename_i n
  obtain ⟨hpre,h2⟩:=chk_inv h;cases h2
  refine Eq.trans (b:=(sel (decide (n<300)) (some (Yx [Zz .i64 0,Zv false],[])) (some (Yx [Zz .i64 (Xz (Zy .i64 (Zy .i64 (Wp n 300)-1)) [255]),Zv true],[])):Option (AV×Blocks))) (by kernel_rfl) ?_
  simp only [Zk,decide_eq_true_eq] at hpre
  by_cases h:n<300
  ·rw [sel_pos (by simpa using h)];simp [h]
  rw [sel_neg (by simpa using h)]
  have e1:Zy .i64 (Wp n 300)=Wp n 300:=by rw [Wv (by omega)];exact wrap_i64 (by omega) (by omega)
  have e2:Zy .i64 (Wp n 300-1)=Wp n 300-1:=by rw [Wv (by omega)];exact wrap_i64 (by omega) (by omega)
  have e3:∀ q,Xz q (intsIn [Zz Zx 255])=Xj q 255:=fun q=>rfl
  try simp only [e3]
  simp only [e1,e2,h,decide_false,Bool.not_false,chk_true,some_bind]
  rfl
 ·cases h
theorem w69:Walked Tryz.prog G 69 2 sp69:=by
 refine ⟨Tryz.f69,Tryz.func69,by decide +kernel,rfl,fun xs bl r h=> ?_⟩
 unfold sp69 at h
 split at h
 ·rename_i b els
  obtain ⟨hpre,h2⟩:=chk_inv h;cases h2
  refine Eq.trans (b:=(sel (!Kerb.Head.err (Xd b)==0) (some (Yx [Zv false,Zz .i64 (Kerb.Head.err (Xd b))],[])) (Zf (loopM (fun (st:List AV)=>cSl 1 st fun b r=>cBool r fun b_1 r=>cInt .i64 r fun n r=>cInt .i64 r fun n_1 r=>cBool r fun b_2 r=>cInt .i64 r fun n_2 r=>onNil r (sel (decide (n_2<(↑(Zw b):Int))) (chk (decide (0≤n_2)&&decide (n_2<(↑(Zw b):Int))&&true) (Xy .i64 (Zb b (Zu n_2) Yf) fun n_3=>sel (n_3==n_1) (some (Yv (Ex.ret,[Zg 1 b,Zv b_2,Zz .i64 0,Zz .i64 n_1,Zv b_2,Zz .i64 n_2]))) (some (Yb [Zg 1 b,Zv b_1,Zz .i64 n,Zz .i64 n_1,Zv b_2,Zz .i64 (Zy .i64 (n_2+1))])))) (some (Yv (Yg 0,[Zg 1 b,Zv b_1,Zz .i64 n,Zz .i64 n_1,Zv b_2,Zz .i64 n_2]))))) [Zg 1 els,Zv false,Zz .i64 0,Zz .i64 (Kerb.Head.kind (Xd b)),Zv (Kerb.Head.little (Xd b)),Zz .i64 0]) fun (r:Ex×List AV)=>cSl 1 (Yy r) fun b r_1=>cBool r_1 fun b r_2=>cInt .i64 r_2 fun n r_3=>cInt .i64 r_3 fun n_1 r_4=>cBool r_4 fun b_1 r_5=>cInt .i64 r_5 fun n_2 r_6=>onNil r_6 (exK r.1 (some (Yx [Zv b,Zz .i64 n],[])) fun (j:Nat)=>sel (Xb j 0) (some (Yx [Zv false,Zz .i64 40],[])) none)):Option (AV×Blocks))) (by kernel_rfl) ?_
  try dsimp only [cStr,cBs,cBool,cU8,cInt,cSl,l63]
  simp only [Zk,decide_eq_true_eq] at hpre
  obtain ⟨ha,hl⟩:=hpre
  have hil:=Kerb.ints_len ha
  unfold Kerb.headIs
  by_cases he:(Xd b).err=0
  case neg =>
   rw [sel_pos (by simpa using he),if_pos he]
  rw [sel_neg (by simp [he]),if_neg (by simpa using he)]
  generalize (Xd b).kind=k
  generalize (Xd b).little=lt
  refine loop_rounds (fun i:Nat=>[Zg 1 els,Zv false,Zz Zx 0,Zz Zx k,Zv lt,Zz Zx (i:Int)]) (fun i=>i≤els.length∧(k∈intsIn els↔k∈(intsIn els).drop i)) (fun i=>els.length-i)
   (fun r=>∃ (i:Nat) (x:Bool),r.2=[Zg 1 els,Zv x,Zz Zx 0,Zz Zx k,Zv lt,Zz Zx (i:Int)]∧((r.1 = .ret∧x=lt∧k∈intsIn els)∨(r.1 = .exit 0∧k ∉ intsIn els))) 0 ⟨Xu _,by simp⟩ rfl ?_ ?_
  ·rintro i ⟨hi,hm⟩
   simp only [A0]
   by_cases hlt:i<els.length
   ·obtain ⟨n,h1,h2⟩:=Kerb.ints_get ha hlt
    rw [sel_pos (by simp;omega),chk_of (by simp;omega),Zm,h1,onInt_int]
    rw [h2,List.mem_cons] at hm
    by_cases h3:n=k
    ·rw [sel_pos (by simpa using h3)]
     exact ⟨_,rfl,i,lt,rfl,.inl ⟨rfl,rfl,hm.2 (.inl h3.symm)⟩⟩
    ·rw [sel_neg (by simpa using h3),wrap_i64 (by omega) (by omega)]
     exact ⟨_,rfl,i+1,rfl,⟨by omega,hm.trans ⟨fun h=>h.resolve_left fun e=>h3 e.symm,.inr⟩⟩,by dsimp only;omega⟩
   ·rw [sel_neg (by simp;omega)]
    refine ⟨_,rfl,i,false,rfl,.inr ⟨rfl,?_⟩⟩
    rw [hm,Xv (by omega)];simp
  ·rintro ⟨e,l⟩ ⟨i,x,rfl,⟨rfl,rfl,h⟩ | ⟨rfl,h⟩⟩
   ·simp only [A0]
    rw [if_pos (by simpa using h)]
   ·simp only [A0]
    rw [if_neg (by simpa using h),sel_pos (Xw _)]
 ·cases h
theorem w73:Walked Tryz.prog G 73 2 sp73:=by
 refine ⟨Tryz.f73,Tryz.func73,by decide +kernel,rfl,fun xs bl r h=> ?_⟩
 unfold sp73 at h
 split at h
 ·rename_i B at_ li bad
  obtain ⟨hpre,h2⟩:=chk_inv h;cases h2
  show runFnH (G.env 73 2) G.rts (G.own 73) Tryz.f73 _ _ [0]=_
  refine Eq.trans (b:=(Zf (chk (decide (Zw B≤140737488355328)) (some (Yx [Zq (Kerb.GotB.val (Kerb.text B at_)),Zz .i64 (Kerb.GotB.next (Kerb.text B at_)),Zz .i64 (Kerb.GotB.err (Kerb.text B at_))],[]))) fun (r:AV×Blocks)=>onNilB (Yy r) (AV.onTup (Wy r) fun vs=>onCons vs fun x r=>AV.onStr x fun b=>onCons r fun x r=>Xy .i64 x fun n=>onCons r fun x r=>Xy .i64 x fun n_1=>onNil r (some (Zq b,[[Yk B,Zz .i64 (bif bad || !n_1==0 then at_ else n),Zv li,Zv (bad || !n_1==0)]]))):Option (AV×Blocks))) (by kernel_rfl) ?_
  simp only [A0]
  rw [chk_of hpre]
 ·cases h
theorem w74:Walked Tryz.prog G 74 2 sp74:=by
 refine ⟨Tryz.f74,Tryz.func74,by decide +kernel,rfl,fun xs bl r h=> ?_⟩
 unfold sp74 at h
 split at h
 ·rename_i n B at_ li bad
  obtain ⟨hpre,h2⟩:=chk_inv h;cases h2
  show runFnH (G.env 74 2) G.rts (G.own 74) Tryz.f74 _ _ [0]=_
  refine Eq.trans (b:=(Zf (chk (decide (Zw B≤140737488355328)) (some (Yx [Yk (Kerb.GotB.val (Kerb.bytes B at_ n)),Zz .i64 (Kerb.GotB.next (Kerb.bytes B at_ n)),Zz .i64 (Kerb.GotB.err (Kerb.bytes B at_ n))],[]))) fun (r:AV×Blocks)=>onNilB (Yy r) (AV.onTup (Wy r) fun vs=>onCons vs fun x r=>AV.onBs x fun b=>onCons r fun x r=>Xy .i64 x fun n=>onCons r fun x r=>Xy .i64 x fun n_1=>onNil r (some (Yk b,[[Yk B,Zz .i64 (bif bad || !n_1==0 then at_ else n),Zv li,Zv (bad || !n_1==0)]]))):Option (AV×Blocks))) (by kernel_rfl) ?_
  simp only [A0]
  rw [chk_of hpre]
 ·cases h
theorem w76:Walked Tryz.prog G 76 2 sp76:=by
 refine ⟨Tryz.f76,Tryz.func76,by decide +kernel,rfl,fun xs bl r h=> ?_⟩
 unfold sp76 at h
 split at h
 ·rename_i s
  obtain ⟨hpre,h2⟩:=chk_inv h;cases h2
  refine Eq.trans (b:=(sel (decide ((↑(Zw s):Int)>0)) (Zf (chk (decide (Zw s≤9223372036854775807)&&true) (some (Zv (Xq s [(64:UInt8)]&&decide (Zw s≤39)),[]))) fun (r:AV×Blocks)=>onNilB (Yy r) (AV.onBool (Wy r) fun b=>some (Zv b,[]))) (some (Zv false,[])):Option (AV×Blocks))) (by kernel_rfl) ?_
  simp only [A0]
  rw [chk_of (by rw [hpre];rfl)]
  simp only [Kerb.validRealm]
  cases s with
  | nil=>rfl
  | cons x r =>
   rw [sel_pos (by first | (simp;done) | (simp;omega)),Bool.and_comm]
   rfl
 ·cases h
theorem w91:Walked Tryz.prog G 91 2 sp91:=by
 refine ⟨Tryz.f91,Tryz.func91,by decide +kernel,rfl,fun xs bl r h=> ?_⟩
 unfold sp91 at h
 split at h
 ·rename_i k
  obtain ⟨hpre,h2⟩:=chk_inv h;cases h2
  refine Eq.trans (b:=(sel (!Wn (Zy .i64 (Int.fdiv k (2 ^ min (Zu 56) (Zd .u64))))) (some (Yx [Zz .i64 0,Zz .i64 0,Zv false],[])) (sel (!Wf (Zy .i64 (Zy .u64 (↑(BitVec.toNat (BitVec.ofInt (Zd .u64) k &&& BitVec.ofInt (Zd .u64) 72057594037927935)):Int)))) (some (Yx [Zz .i64 0,Zz .i64 0,Zv false],[])) (some (Yx [Zz .i64 (Zy .i64 (Int.fdiv k (2 ^ min (Zu 56) (Zd .u64)))),Zz .i64 (Zy .i64 (Zy .u64 (↑(BitVec.toNat (BitVec.ofInt (Zd .u64) k &&& BitVec.ofInt (Zd .u64) 72057594037927935)):Int))),Zv true],[]))):Option (AV×Blocks))) (by kernel_rfl) ?_
  simp only [Zk,decide_eq_true_eq] at hpre
  obtain ⟨h0,h1⟩:=hpre
  rw [Kerb.key_hi h0 h1,Kerb.key_lo h0 h1]
  unfold Kerb.keyValid
  cases Wn (Kerb.keyClass k)
  ·rfl
  cases Wf (Kerb.keySerial k)<;>rfl
 ·cases h
theorem w92:Walked Tryz.prog G 92 2 sp92:=by
 refine ⟨Tryz.f92,Tryz.func92,by decide +kernel,rfl,fun xs bl r h=> ?_⟩
 unfold sp92 at h
 split at h
 ·rename_i i l
  cases h
  refine Eq.trans (b:=(sel (!Zp i 4294967295) (some (Zz .i64 0,[])) (sel (!Zp l 255) (some (Zz .i64 0,[])) (some (Zz .i64 (Zy .i64 (i+Zy .i64 (300*Zy .i64 (l+1)))),[]))):Option (AV×Blocks))) (by kernel_rfl) ?_
  unfold Kerb.tEnd
  cases h1:Zp i 4294967295
  ·rfl
  cases h2:Zp l 255
  ·rfl
  have a1:=Kerb.within_iff.1 h1
  have a2:=Kerb.within_iff.1 h2
  simp only [Wk,sel_false,Wg,if_true]
  rw [wrap_i64 (n:=l+1) (by omega) (by omega),wrap_i64 (n:=300*(l+1)) (by omega) (by omega),wrap_i64 (by omega) (by omega)]
 ·cases h
theorem w101:Walked Tryz.prog G 101 2 sp101:=by
 refine ⟨Tryz.f101,Tryz.func101,by decide +kernel,rfl,fun xs bl r h=> ?_⟩
 unfold sp101 at h
 split at h
 ·rename_i a b s
  cases h
  refine Eq.trans (b:=(sel (!Zp a 4294967295) (some (Zv false,[])) (sel (!Zp b 4294967295) (some (Zv false,[])) (sel (decide (s<0)) (some (Zv false,[])) (sel (decide (s>4294967295)) (some (Zv false,[])) (sel (decide (Zy .i64 (a-b)≤s)) (some (Zv (decide (Zy .i64 (b-a)≤s)),[])) (some (Zv false,[])))))):Option (AV×Blocks))) (by kernel_rfl) ?_
  unfold Kerb.near
  cases h1:Zp a 4294967295
  ·rfl
  cases h2:Zp b 4294967295
  ·rfl
  have a1:=Kerb.within_iff.1 h1
  have a2:=Kerb.within_iff.1 h2
  simp only [Wk,sel_false,Wg,Ww]
  rw [wrap_i64 (n:=a-b) (by omega) (by omega),wrap_i64 (n:=b-a) (by omega) (by omega)]
  by_cases h3:s<0
  ·rw [sel_pos (by simpa using h3)]
   have e:Zp s 4294967295=false:=by simp [Zp];omega
   rw [e];rfl
  by_cases h4:s>4294967295
  ·rw [sel_neg (by simpa using h3),sel_pos (by simpa using h4)]
   have e:Zp s 4294967295=false:=by simp [Zp];omega
   rw [e];rfl
  rw [sel_neg (by simpa using h3),sel_neg (by simpa using h4),Kerb.within_iff.2 (by omega)]
  cases decide (a-b≤s)<;>rfl
 ·cases h
theorem w104:Walked Tryz.prog G 104 2 sp104:=by
 refine ⟨Tryz.f104,Tryz.func104,by decide +kernel,rfl,fun xs bl r h=> ?_⟩
 unfold sp104 at h
 split at h
 ·rename_i i l
  cases h
  refine Eq.trans (b:=(sel (!Zp i 4294967295) (some (Zz .i64 0,[])) (sel (decide (l<0)) (some (Zz .i64 0,[])) (sel (decide (l>255)) (some (Zz .i64 0,[])) (some (Zz .i64 (Zy .i64 (i+Zy .i64 (300*Zy .i64 (l+1)))),[])))):Option (AV×Blocks))) (by kernel_rfl) ?_
  unfold Kerb.tEnd
  cases h1:Zp i 4294967295
  ·rfl
  have a1:=Kerb.within_iff.1 h1
  by_cases h2:0≤l∧l≤255
  ·have e:Zp l 255=true:=Kerb.within_iff.2 h2
   rw [e]
   simp only [Wk,sel_false,Wg,if_true]
   rw [sel_neg (by simp;omega),sel_neg (by simp;omega),wrap_i64 (n:=l+1) (by omega) (by omega),wrap_i64 (n:=300*(l+1)) (by omega) (by omega),wrap_i64 (by omega) (by omega)]
  ·have e:Zp l 255=false:=by simp [Zp];omega
   rw [e]
   by_cases h3:l<0
   ·rw [Wk,sel_false,sel_pos (by simpa using h3)];rfl
   ·rw [Wk,sel_false,sel_neg (by simpa using h3),sel_pos (by simp;omega)];rfl
 ·cases h
theorem w105:Walked Tryz.prog G 105 2 sp105:=by
 refine ⟨Tryz.f105,Tryz.func105,by decide +kernel,rfl,fun xs bl r h=> ?_⟩
 unfold sp105 at h
 split at h
 ·rename_i n w els
  obtain ⟨hpre,h2⟩:=chk_inv h;cases h2
  refine Eq.trans (b:=(let t0:Option (AV×Blocks):=some (Yx [Zz .i64 0,Zv false],[]);sel (!Zp n 4294967295) t0 (sel (decide (w<0)) t0 (Zf (loopM (fun (st:List AV)=>cInt .i64 st fun n r=>cSl 1 r fun b r=>cInt .i64 r fun n_1 r=>cInt .i64 r fun n_2 r=>let t1:List AV:=[Zz .i64 n,Zg 1 b,Zz .i64 n_1,Zz .i64 n_2];onNil r (sel (decide (n_2<(↑(Zw b):Int))) (Zf (loopM (fun (st:List AV)=>cInt .i64 st fun n r=>cSl 1 r fun b r=>cInt .i64 r fun n_3 r=>cInt .i64 r fun n_4 r=>let t2:Option (List AV ⊕ Ex×List AV):=some (Yv (Yg 2,[Zz .i64 n,Zg 1 b,Zz .i64 n_3,Zz .i64 n_4]));onNil r (sel (decide (n_3≥0)) (chk (decide (0≤n_4)&&decide (n_4<(↑(Zw b):Int))&&true) (Xy .i64 (Zb b (Zu n_4) Yf) fun n_5=>sel (decide (Zy .i64 (n+Zy .i64 (300*Zy .i64 (n_3+1)))>n_5)) (some (Yb [Zz .i64 n,Zg 1 b,Zz .i64 (Zy .i64 (n_3-1)),Zz .i64 n_4])) t2)) t2)) t1) fun (r:Ex×List AV)=>cInt .i64 (Yy r) fun n r_1=>cSl 1 r_1 fun b r_2=>cInt .i64 r_2 fun n_3 r_3=>cInt .i64 r_3 fun n_4 r_4=>onNil r_4 (exK r.1 (some (Yv (Ex.ret,[Zz .i64 n,Zg 1 b,Zz .i64 n_3,Zz .i64 n_4]))) fun (j:Nat)=>sel (Xb j 2) (some (Yb [Zz .i64 n,Zg 1 b,Zz .i64 n_3,Zz .i64 (Zy .i64 (n_4+1))])) none)) (some (Yv (Yg 0,t1))))) [Zz .i64 n,Zg 1 els,Zz .i64 (Xj w 255),Zz .i64 0]) fun (r:Ex×List AV)=>cInt .i64 (Yy r) fun n r_1=>cSl 1 r_1 fun b r_2=>cInt .i64 r_2 fun n r_3=>cInt .i64 r_3 fun n_1 r_4=>onNil r_4 (exK r.1 none fun (j:Nat)=>sel (Xb j 0) (sel (decide (n<0)) t0 (some (Yx [Zz .i64 n,Zv true],[]))) none))):Option (AV×Blocks))) (by kernel_rfl) ?_
  try dsimp only [cStr,cBs,cBool,cU8,cInt,cSl,l63]
  simp only [Zk,decide_eq_true_eq] at hpre
  obtain ⟨⟨ha,hl⟩,hi⟩:=hpre
  have hil:=Kerb.ints_len ha
  unfold Kerb.grantLife
  cases hn:Zp n 4294967295
  ·rfl
  rw [sel_neg (by rfl)]
  have n1:=Kerb.within_iff.1 hn
  by_cases hw:w<0
  ·rw [sel_pos (by simpa using hw),if_pos (by simp [hw])]
  have hm:0≤Xj w 255∧Xj w 255≤255:=by unfold Xj;split<;>omega
  rw [sel_neg (by simpa using hw),if_neg (by simp [hw])]
  generalize Xj w 255=m at hm ⊢
  refine loop_rounds (fun j:Nat=>[Zz Zx n,Zg 1 els,Zz Zx (Xn n (Xz (n+300*(m+1)) ((intsIn els).take j))),Zz Zx (j:Int)]) (fun j=>j≤els.length) (fun j=>els.length-j)
   (fun r=>r=(Yg 0,[Zz Zx n,Zg 1 els,Zz Zx (Xn n (Xz (n+300*(m+1)) (intsIn els))),Zz Zx (els.length:Int)])) 0 (Xu _) (by rw [List.take_zero];show _=[_,_,Zz _ (Xn n (n+300*(m+1))),_];rw [Kerb.lifeTo_start hm.1];rfl) ?_ ?_
  ·intro j hj
   simp only [↓A0,A0]
   rcases Wq j els.length with h | h
   ·obtain ⟨e,h1,h2⟩:=Kerb.ints_get ha h
    have ht:(intsIn els).take (j+1)=(intsIn els).take j++[e]:=by
     have h4:j<(intsIn els).length:=by omega
     rw [List.take_succ_eq_append_getElem h4]
     rw [List.drop_eq_getElem_cons h4] at h2
     rw [(List.cons.inj h2).1]
    have hs:Xz (n+300*(m+1)) ((intsIn els).take (j+1))=Xj (Xz (n+300*(m+1)) ((intsIn els).take j)) e:=by rw [ht];simp [Xz]
    have hle:=Kerb.least_le ((intsIn els).take j) (n+300*(m+1))
    generalize Xz (n+300*(m+1)) ((intsIn els).take j)=B at hs hle ⊢
    have k0:=Kerb.lifeTo_bd n B
    have k1:=Kerb.lifeTo_le hm.1 hle
    rw [sel_pos (by simp;omega)]
    refine loop_ex (Q:=Round _ _ _ _ _) (fun k:Int=>[Zz Zx n,Zg 1 els,Zz Zx k,Zz Zx (j:Int)]) (fun k => -1≤k∧k≤m∧Kerb.lifeLo n e k=Xn n (Xj B e)) (fun k=>(k+1).toNat)
     (fun r=>r=(Yg 2,[Zz Zx n,Zg 1 els,Zz Zx (Xn n (Xj B e)),Zz Zx (j:Int)])) (Xn n B) ⟨k0,k1,Kerb.lifeLo_start n B e⟩ rfl ?_ ?_
    ·rintro k ⟨q0,q1,q2⟩
     simp only [↓A0,A0]
     by_cases hk:0≤k
     ·rw [sel_pos (by simpa using hk),chk_of (by simp;omega),Zm,h1,onInt_int,wrap_i64 (n:=k+1) (by omega) (by omega),wrap_i64 (n:=300*(k+1)) (by omega) (by omega),wrap_i64 (by omega) (by omega)]
      by_cases he:e<n+300*(k+1)
      ·rw [sel_pos (by simpa using he),wrap_i64 (by omega) (by omega)]
       exact ⟨_,rfl,k-1,rfl,⟨by omega,by omega,(Kerb.lifeLo_down hk he).trans q2⟩,by dsimp only;omega⟩
      ·rw [sel_neg (by simpa using he)]
       refine ⟨_,rfl,?_⟩
       show _=_
       rw [← q2,Kerb.lifeLo_fit hk (by omega)]
     ·rw [sel_neg (by simpa using hk)]
      refine ⟨_,rfl,?_⟩
      show _=_
      rw [← q2,Kerb.lifeLo_neg q0 (by omega)]
    ·rintro _ rfl
     simp only [↓A0,A0]
     rw [sel_pos (Xw _),wrap_i64 (by omega) (by omega)]
     exact ⟨_,rfl,j+1,by dsimp only;rw [hs];rfl,by omega,by dsimp only;omega⟩
   ·have hj2:j=els.length:=by omega
    subst hj2
    rw [sel_neg (by simp)]
    refine ⟨_,rfl,?_⟩
    show _=_
    rw [Yq (by omega)]
  ·rintro _ rfl
   simp only [↓A0,A0]
   rw [sel_pos (Xw _)]
   have hle:=Kerb.least_le (intsIn els) (n+300*(m+1))
   generalize Xz (n+300*(m+1)) (intsIn els)=B at hle ⊢
   by_cases h2:B-n<300
   ·have:Xn n B<0:=by unfold Xn;split<;>omega
    rw [sel_pos (by simpa using this),if_pos h2]
   ·have h3:Xn n B=(B-n) / 300-1:=by unfold Xn;rw [if_neg (by omega)]
    have h4:Xj ((B-n) / 300-1) 255=(B-n) / 300-1:=by unfold Xj;split<;>omega
    rw [h3,sel_neg (by simp;omega),if_neg h2,h4]
 ·cases h
theorem w114:Walked Tryz.prog G 114 2 sp114:=by
 refine ⟨Tryz.f114,Tryz.func114,by decide +kernel,rfl,fun xs bl r h=> ?_⟩
 unfold sp114 at h
 split at h
 ·rename_i rl els i
  obtain ⟨hpre,h2⟩:=chk_inv h;cases h2
  refine Eq.trans (b:=(chk (decide (0≤i)&&decide (i<(↑(Zw els):Int))&&true) (Xg (Zb els (Zu i) Yf) fun cs=>cStr cs fun b r=>cStr r fun b_1 r=>cInt .u64 r fun n r=>cInt .i64 r fun n_1 r=>cInt .i64 r fun n_2 r=>cInt .i64 r fun n_3 r=>cInt .i64 r fun n_4 r=>cInt .i64 r fun n_5 r=>cInt .i64 r fun n_6 r=>let t0:Kerb.Db:=Vx (Kerb.Db.mk rl (List.map Kerb.toEntry els)) i (Kerb.Entry.mk b b_1 n n_1 n_2 n_3 n_4 0 n_6);onNil r (Zf (chk (List.all els Kerb.isEntry&&decide (Zw els≤1000000)&&decide (0≤i)&&decide (i<(↑(Zw els):Int))) (some (Wh [Zq (Kerb.Db.realm t0),Zg 9 (List.map Zh (Kerb.Db.entries t0))],[]))) (kA fun cs=>cStr cs fun b r=>cSl 9 r fun b_2 r=>onNil r (some (Wh [Zq b,Zg 9 b_2],[]))))):Option (AV×Blocks))) (by kernel_rfl) ?_
  delta kA
  try dsimp only [cStr,cBs,cBool,cU8,cInt,cSl,l63]
  simp only [Zk,decide_eq_true_eq] at hpre
  obtain ⟨⟨⟨hall,hlen⟩,h0⟩,h1⟩:=hpre
  obtain ⟨es,rfl,hok⟩:=Xh hall
  rw [Yh] at *
  simp only [Zn] at hlen h1
  have i0:decide (0≤i)=true:=by simp;omega
  have i1:decide (i<(es.length:Int))=true:=by simp;omega
  simp only [hall,Zn,hlen,i0,i1,decide_true,Wg,↓A0,A0]
  rw [Xf (by omega)]
  rfl
 ·cases h
theorem w133:Walked Tryz.prog G 133 2 sp133:=by
 refine ⟨Tryz.f133,Tryz.func133,by decide +kernel,rfl,fun xs bl r h=> ?_⟩
 unfold sp133 at h
 split at h
 ·rename_i k
  obtain ⟨hpre,h2⟩:=chk_inv h;cases h2
  refine Eq.trans (b:=(sel (!k==0) (some (Zv ((bif Wn (Zy .i64 (Int.fdiv k (2 ^ min (Zu 56) (Zd .u64))))&&Wf (Zy .i64 (Zy .u64 (↑(BitVec.toNat (BitVec.ofInt (Zd .u64) k &&& BitVec.ofInt (Zd .u64) 72057594037927935)):Int))) then Zy .i64 (Int.fdiv k (2 ^ min (Zu 56) (Zd .u64)))*72057594037927936+Zy .i64 (Zy .u64 (↑(BitVec.toNat (BitVec.ofInt (Zd .u64) k &&& BitVec.ofInt (Zd .u64) 72057594037927935)):Int)) else 0)==k),[])) (some (Zv false,[])):Option (AV×Blocks))) (by kernel_rfl) ?_
  simp only [Zk,decide_eq_true_eq] at hpre
  obtain ⟨h0,h1⟩:=hpre
  rw [Kerb.key_hi h0 h1,Kerb.key_lo h0 h1,Kerb.key_sum]
  by_cases hk:k=0
  ·subst hk;rfl
  rw [sel_pos (by simpa using hk)]
  unfold Kerb.keyValid
  cases Wn (Kerb.keyClass k)&&Wf (Kerb.keySerial k)
  ·have q:((0:Int)==k)=false:=by simp;omega
   simp only [cond_false,q]
  ·simp only [cond_true,BEq.rfl]
 ·cases h
theorem w134:Walked Tryz.prog G 134 2 sp134:=by
 refine ⟨Tryz.f134,Tryz.func134,by decide +kernel,rfl,fun xs bl r h=> ?_⟩
 unfold sp134 at h
 split at h
 ·rename_i b n little
  obtain ⟨hpre,h2⟩:=chk_inv h;cases h2
  refine Eq.trans (b:=(Zf (chk (decide (Zw b≤70368744177664)) (some (Yn (b++Kerb.putN n (Zu 4) little),[]))) fun (r:AV×Blocks)=>onNilB (Yy r) (Wj (Wy r) fun l=>some (Yn l,[])):Option (AV×Blocks))) (by kernel_rfl) ?_
  simp only [decide_eq_true_eq] at hpre
  simp only [A0]
  rw [chk_of (by simp;omega)]
  rfl
 ·cases h
theorem w138:Walked Tryz.prog G 138 2 sp138:=by
 refine ⟨Tryz.f138,Tryz.func138,by decide +kernel,rfl,fun xs bl r h=> ?_⟩
 unfold sp138 at h
 split at h
 ·rename_i s
  obtain ⟨hpre,h2⟩:=chk_inv h;cases h2
  refine Eq.trans (b:=(sel (decide ((↑(Zw s):Int)>0)) (Zf (chk (decide (Zw s≤9223372036854775807)&&true) (some (Zv (Xq s [(46:UInt8),(64:UInt8)]&&decide (Zw s≤39)),[]))) fun (r:AV×Blocks)=>onNilB (Yy r) (AV.onBool (Wy r) fun b=>some (Zv b,[]))) (some (Zv false,[])):Option (AV×Blocks))) (by kernel_rfl) ?_
  simp only [A0]
  rw [chk_of (by rw [hpre];rfl)]
  simp only [Kerb.validName]
  cases s with
  | nil=>rfl
  | cons x r =>
   rw [sel_pos (by first | (simp;done) | (simp;omega)),Bool.and_comm]
   rfl
 ·cases h
theorem w139:Walked Tryz.prog G 139 2 sp139:=by
 refine ⟨Tryz.f139,Tryz.func139,by decide +kernel,rfl,fun xs bl r h=> ?_⟩
 unfold sp139 at h
 split at h
 ·rename_i s
  obtain ⟨hpre,h2⟩:=chk_inv h;cases h2
  refine Eq.trans (b:=(Zf (chk (decide (Zw s≤9223372036854775807)&&true) (some (Zv (Xq s [(64:UInt8)]&&decide (Zw s≤39)),[]))) fun (r:AV×Blocks)=>onNilB (Yy r) (AV.onBool (Wy r) fun b=>some (Zv b,[])):Option (AV×Blocks))) (by kernel_rfl) ?_
  simp only [A0]
  rw [chk_of (by rw [hpre];rfl),Bool.and_comm]
  rfl
 ·cases h
theorem w140:Walked Tryz.prog G 140 2 sp140:=by
 refine ⟨Tryz.f140,Tryz.func140,by decide +kernel,rfl,fun xs bl r h=> ?_⟩
 unfold sp140 at h
 split at h
 ·rename_i b n
  obtain ⟨hpre,h2⟩:=chk_inv h;cases h2
  refine Eq.trans (b:=(Zf (chk (decide (Zw b≤70368744177664)) (some (Yn (b++Kerb.putN n (Zu 1) false),[]))) fun (r:AV×Blocks)=>onNilB (Yy r) (Wj (Wy r) fun l=>some (Yn l,[])):Option (AV×Blocks))) (by kernel_rfl) ?_
  simp only [decide_eq_true_eq] at hpre
  simp only [A0]
  rw [chk_of (by simp;omega)]
  rfl
 ·cases h
theorem w142:Walked Tryz.prog G 142 2 sp142:=by
 refine ⟨Tryz.f142,Tryz.func142,by decide +kernel,rfl,fun xs bl r h=> ?_⟩
 unfold sp142 at h
 split at h
 ·rename_i b x y z
  obtain ⟨hpre,h2⟩:=chk_inv h;cases h2
  refine Eq.trans (b:=(Zf (chk (decide (Zw b+Zw x≤70368744177664)) (some (Yk (Wb b x),[]))) fun (r:AV×Blocks)=>onNilB (Yy r) (AV.onBs (Wy r) fun b=>Zf (chk (decide (Zw b+Zw y≤70368744177664)) (some (Yk (Wb b y),[]))) fun (r:AV×Blocks)=>onNilB (Yy r) (AV.onBs (Wy r) fun b=>Zf (chk (decide (Zw b+Zw z≤70368744177664)) (some (Yk (Wb b z),[]))) fun (r:AV×Blocks)=>onNilB (Yy r) (AV.onBs (Wy r) fun b=>some (Yk b,[])))):Option (AV×Blocks))) (by kernel_rfl) ?_
  simp only [decide_eq_true_eq] at hpre
  simp only [A0]
  rw [chk_of (by simp;omega),chk_of (by simp [Wb];omega),chk_of (by simp [Wb];omega)]
  rfl
 ·cases h
theorem w144:Walked Tryz.prog G 144 2 sp144:=by
 refine ⟨Tryz.f144,Tryz.func144,by decide +kernel,rfl,fun xs bl r h=> ?_⟩
 unfold sp144 at h
 split at h
 ·rename_i b n little
  obtain ⟨hpre,h2⟩:=chk_inv h;cases h2
  refine Eq.trans (b:=(Zf (chk (decide (Zw b≤70368744177664)) (some (Yn (b++Kerb.putN n (Zu 2) little),[]))) fun (r:AV×Blocks)=>onNilB (Yy r) (Wj (Wy r) fun l=>some (Yn l,[])):Option (AV×Blocks))) (by kernel_rfl) ?_
  simp only [decide_eq_true_eq] at hpre
  simp only [A0]
  rw [chk_of (by simp;omega)]
  rfl
 ·cases h
theorem w185:Walked Tryz.prog G 185 2 sp185:=by
 refine ⟨Tryz.f185,Tryz.func185,by decide +kernel,rfl,fun xs bl r h=> ?_⟩
 unfold sp185 at h
 split at h
 ·rename_i k little
  cases h
  refine Eq.trans (b:=(sel (!Xm k) (some (Yk [],[])) (sel little (some (Yk [(4:UInt8),Yw (Zu (Zy .u8 (Zy .i64 (Zy .i64 (2*k)+1))))],[])) (some (Yk [(4:UInt8),Yw (Zu (Zy .u8 (Zy .i64 (2*k))))],[]))):Option (AV×Blocks))) (by kernel_rfl) ?_
  by_cases h:1≤k∧k≤10
  ·have hk:k=1∨k=2∨k=3∨k=4∨k=5∨k=6∨k=7∨k=8∨k=9∨k=10:=by omega
   rcases hk with rfl | rfl | rfl | rfl | rfl | rfl | rfl | rfl | rfl | rfl<;>cases little<;>rfl
  ·have hk:Xm k=false:=by simp [Xm];omega
   by_cases h1:k<1
   ·simp [sel,Kerb.header,hk,h1]
   ·have h2:10<k:=by omega
    simp [sel,Kerb.header,hk,h1,h2]
 ·cases h
theorem w196:Walked Tryz.prog G 196 2 sp196:=by
 refine ⟨Tryz.f196,Tryz.func196,by decide +kernel,rfl,fun xs bl r h=> ?_⟩
 unfold sp196 at h
 split at h
 ·rename_i b
  cases h
  refine Eq.trans (b:=(sel (decide ((↑(Zw b):Int)<2)) (some (Yx [Zz .i64 0,Zv false,Zz .i64 101],[])) (chk (decide (0<(↑(Zw b):Int))) (sel (!Zb b (Zu 0) (0:UInt8)==(4:UInt8)) (some (Yx [Zz .i64 0,Zv false,Zz .i64 39],[])) (chk (decide (1<(↑(Zw b):Int))) (sel (!Xm (Zy .i64 (Wp (Zy .i64 (↑(Yd (Zb b (Zu 1) (0:UInt8))):Int)) 2))) (some (Yx [Zz .i64 0,Zv false,Zz .i64 40],[])) (chk (decide (1<(↑(Zw b):Int))) (some (Yx [Zz .i64 (Zy .i64 (Wp (Zy .i64 (↑(Yd (Zb b (Zu 1) (0:UInt8))):Int)) 2)),Zv (Yw (Zu (Yp (↑(Yd (Zb b (Zu 1) (0:UInt8))):Int) (↑(Yd (2:UInt8)):Int)))==(1:UInt8)),Zz .i64 0],[]))))))):Option (AV×Blocks))) (by kernel_rfl) ?_
  unfold Xd
  by_cases h1:b.length<2
  ·rw [sel_pos (by simp;omega)]
   simp [h1]
  rw [sel_neg (by simp;omega),chk_of (by simp;omega),if_neg h1]
  by_cases h2:b.getD 0 0=4
  ·have hb:=(b.getD 1 0).toNat_lt
   have e:Zy Zx (Wp (Zy Zx ((b.getD (Zu 1) 0).toNat:Int)) 2)=(((b.getD 1 0).toNat / 2:Nat):Int):=by
    rw [show Zu 1=1 from rfl,wrap_i64 (n:=((b.getD 1 0).toNat:Int)) (by omega) (by omega),Wv (by omega),wrap_i64 (by omega) (by omega)];omega
   have e2:(Yw (Zu (Yp ((b.getD (Zu 1) 0).toNat:Int) ((2:UInt8).toNat:Int)))==1)=decide ((b.getD 1 0).toNat % 2=1):=by
    rw [show Zu 1=1 from rfl,Yu (by omega)]
    have e3:Zu (((b.getD 1 0).toNat:Int) % ((2:UInt8).toNat:Int))=(b.getD 1 0).toNat % 2:=by
     show Zu (((b.getD 1 0).toNat:Int) % 2)=_
     omega
    rw [e3]
    rcases Nat.mod_two_eq_zero_or_one (b.getD 1 0).toNat with h | h<;>rw [h]<;>rfl
   rw [sel_neg (by simp [h2] at *;exact h2),chk_of (by simp;omega),if_neg (by simpa using h2),e,e2]
   cases hk:Xm (((b.getD 1 0).toNat / 2:Nat):Int)
   ·rfl
   ·rw [Wk,sel_false,chk_of (by simp;omega)]
    rfl
  ·rw [sel_pos (by simpa using h2),if_pos (by simpa using h2)]
 ·cases h
theorem w200:Walked Tryz.prog G 200 2 sp200:=by
 refine ⟨Tryz.f200,Tryz.func200,by decide +kernel,rfl,fun xs bl r h=> ?_⟩
 unfold sp200 at h
 split at h
 ·rename_i b pos n
  obtain ⟨hpre,h2⟩:=chk_inv h;cases h2
  refine Eq.trans (b:=(Zf (chk (decide (Zw b≤4611686018427387904)) (some (Zz .i64 (Wx b pos n),[]))) fun (r:AV×Blocks)=>onNilB (Yy r) (Xy .i64 (Wy r) fun n_1=>sel (!n_1==0) (some (Yx [Yk [],Zz .i64 0,Zz .i64 n_1],[])) (chk (decide (0≤pos)&&decide (pos≤Zy .i64 (pos+n))&&decide (Zy .i64 (pos+n)≤(↑(Zw b):Int))) (Zf (chk (decide (Zw (Vy (Zu pos) (Vz (Zu (Zy .i64 (pos+n))) b))≤140737488355328)) (some (Yk (Vy (Zu pos) (Vz (Zu (Zy .i64 (pos+n))) b)),[]))) fun (r:AV×Blocks)=>onNilB (Yy r) (AV.onBs (Wy r) fun b=>some (Yx [Yk b,Zz .i64 (Zy .i64 (pos+n)),Zz .i64 0],[]))))):Option (AV×Blocks))) (by kernel_rfl) ?_
  have hb:=of_decide_eq_true hpre
  simp only [A0]
  rw [chk_of (by simp;omega)]
  unfold Kerb.bytes
  by_cases hr:Wx b pos n=0
  ·obtain ⟨q1,q2,q3,q4⟩:=Kerb.room_zero.1 hr
   have e:Vy (Zu pos) (Vz (Zu (pos+n)) b)=Kerb.cut b pos n:=by
    rw [show Zu (pos+n)=pos.toNat+n.toNat by omega,List.drop_take,show pos.toNat+n.toNat-pos.toNat=n.toNat by omega]
    rfl
   have hc:=Kerb.cut_length hr
   rw [sel_neg (by simp [hr]),if_pos hr,wrap_i64 (by omega) (by omega),e,chk_of (by simp;omega),chk_of (by simp;omega)]
  ·rw [sel_pos (by simpa using hr),if_neg hr]
 ·cases h
theorem w221:Walked Tryz.prog G 221 2 sp221:=by
 refine ⟨Tryz.f221,Tryz.func221,by decide +kernel,rfl,fun xs bl r h=> ?_⟩
 unfold sp221 at h
 split at h
 ·rename_i a b s
  cases h
  refine Eq.trans (b:=(sel (!Zp a 4294967295) (some (Zv false,[])) (sel (!Zp b 4294967295) (some (Zv false,[])) (sel (!Zp s 4294967295) (some (Zv false,[])) (sel (decide (Zy .i64 (a-b)≤s)) (some (Zv (decide (Zy .i64 (b-a)≤s)),[])) (some (Zv false,[]))))):Option (AV×Blocks))) (by kernel_rfl) ?_
  unfold Kerb.near
  cases h1:Zp a 4294967295
  ·rfl
  cases h2:Zp b 4294967295
  ·rfl
  have a1:=Kerb.within_iff.1 h1
  have a2:=Kerb.within_iff.1 h2
  simp only [Wk,sel_false,Wg,Ww]
  rw [wrap_i64 (n:=a-b) (by omega) (by omega),wrap_i64 (n:=b-a) (by omega) (by omega)]
  cases h3:Zp s 4294967295
  ·rfl
  cases decide (a-b≤s)<;>rfl
 ·cases h
theorem w231:Walked Tryz.prog G 231 2 sp231:=by
 refine ⟨Tryz.f231,Tryz.func231,by decide +kernel,rfl,fun xs bl r h=> ?_⟩
 unfold sp231 at h
 split at h
 ·rename_i rl els i en ei ek ev ex em ea ef et
  obtain ⟨hpre,h2⟩:=chk_inv h;cases h2
  refine Eq.trans (b:=(let t0:List AV:=[Zq en,Zq ei,Zz .u64 ek,Zz .i64 ev,Zz .i64 ex,Zz .i64 em,Zz .i64 ea,Zz .i64 ef,Zz .i64 et];Zf (chk (decide (Zw els≤1000000)) (some (AV.ownL els,[]))) fun (r:AV×Blocks)=>onNilB (Yy r) (AV.onOwnL (Wy r) fun l=>chk (decide (0≤i)&&decide (i<(↑(Zw l):Int))&&true) (chk (Wz (Zu i) (Zw l)&&true&&true) (Xg (Zb l (Zu i) Yf) fun cs=>cStr cs fun b r=>cStr r fun b r=>cInt .u64 r fun n r=>cInt .i64 r fun n r=>cInt .i64 r fun n r=>cInt .i64 r fun n r=>cInt .i64 r fun n r=>cInt .i64 r fun n r=>cInt .i64 r fun n r=>onNil r (chk (Zw t0==nat_lit 9&&true&&true&&true&&Wz (Zu i) (Zw l)) (some (Wh [Zq rl,Zg 9 (List.set l (Zu i) (Wh t0))],[])))))):Option (AV×Blocks))) (by kernel_rfl) ?_
  try dsimp only [cStr,cBs,cBool,cU8,cInt,cSl,l63]
  simp only [Zk,decide_eq_true_eq] at hpre
  obtain ⟨⟨⟨hall,hlen⟩,h0⟩,h1⟩:=hpre
  obtain ⟨es,rfl,hok⟩:=Xh hall
  rw [Yh]
  simp only [Zn] at hlen h1
  have hj:i.toNat<es.length:=by omega
  simp only [Zn,hlen,decide_true,↓A0,A0]
  try simp only [Zn]
  have hb:Wz i.toNat es.length=true:=by simp [hj]
  rw [chk_of (by simp;omega),chk_of (by rw [hb];rfl),Xf hj]
  simp only [Zh,↓A0,A0]
  rw [chk_of (by rw [hb];rfl)]
  show some _=some _
  unfold Vx
  dsimp only
  rw [← Kerb.set_ent]
  rfl
 ·cases h
end Go.Proofs.YtaikjfcgemjghaaGreat
