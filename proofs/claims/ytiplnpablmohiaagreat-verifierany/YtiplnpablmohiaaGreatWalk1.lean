/- What the functions of this seat compute. -/
import Derived.Test.YtiplnpablmohiaaGreatTab
import Derived.Test.YtiplnpablmohiaaGreatKerbPlain
import Derived.Test.YtiplnpablmohiaaGreatAbsStep
import Derived.Test.YtiplnpablmohiaaGreatKerbCli7
import Derived.Test.YtiplnpablmohiaaGreatKerbCli3
import Derived.Test.YtiplnpablmohiaaGreatKerbCli4
import Derived.Test.YtiplnpablmohiaaGreatKerbKac4
import Derived.Test.YtiplnpablmohiaaGreatKerbVerL
open Go.Abs.AV renaming int→Zz,bool→Zw,str→Zq,sl→Zb,bs→Zn,ownB→Zh,tup→Yy,undef→Xz,onOwnB→Xw,onInt→Wz,onBool→Wy,onStr→Ww,onAgg→Wq
open Go.IntKind renaming wrap→Zy,i64→Zv,bits→Zk,u64→Yp
open List renaming length→Zx,getD→Yz,drop_eq_nil_of_le→Yx,take_of_length_le→Yj,length_map→Yk,replicate→Wv,take→Vy,drop→Vx,findIdx_cons→Vj
open Int renaming toNat→Zu,tmod→Zg,toNat_natCast→Zm,tmod_eq_emod_of_nonneg→Xd,tdiv→Wg,tdiv_eq_ediv_of_nonneg→Vu,fdiv→Vq
open Option renaming bind→Zj
open Kerb renaming within→Zp,room_ok→Yw,putN_len→Yb,skAt→Xy,putN→Xv,isKind→Xq,room→Xj,putText_len→Xk,printable→Xp,noSKey→Xf,header→Xg,bfd→Xb,keyValid→Xm,getD_row→Xh,hasMark→Wx,putText→Wu,readHead→Wj,bytes→Wp,noMark→Wd,sameSKeys→Wf,isSerial→Wb,isClass→Wh,indexOf→Vz,tEnd→Vw,skeys_of→Vk
open Bool renaming and_eq_true→Zd,not_true→Yd,and_self→Wk,true_and→Wm
open Prod renaming snd→Zf,fst→Yv
open Nat renaming beq_refl→Yu,zero_le→Xx,beq→Xn
open Kerb.SKey renaming av→Yq,is→Wn
open Sum renaming inr→Yf,inl→Xu
open UInt8 renaming ofNat→Yg,toNat→Ym
open Go.Abs.Ex renaming exit→Yn
open Kerb.Mark renaming av→Yh
open Kerb.Prin renaming eqb→Vv
namespace Go.Proofs.YtiplnpablmohiaaGreat
open Go Go.Abs Go.Proofs
set_option linter.unusedVariables false
set_option linter.unusedSimpArgs false
set_option maxRecDepth 100000
theorem w12:Walked Tryz.prog G 12 1 sp12:=by
 refine ⟨Tryz.f12,Tryz.func12,by decide +kernel,rfl,fun xs bl r h=> ?_⟩
 unfold sp12 at h
 split at h
 ·rename_i n
  obtain ⟨hpre,h2⟩:=chk_inv h;cases h2
  refine Eq.trans (b:=(some (Zz .u64 (Zy .u64 (↑(BitVec.toNat (BitVec.ofInt (Zk .u64) 72057594037927936 ||| BitVec.ofInt (Zk .u64) (Zy .u64 (Zy .i64 (1+n))))):Int)),[]):Option (AV×Blocks))) (by kernel_rfl) ?_
  rfl
 ·cases h
theorem w13:Walked Tryz.prog G 13 1 sp13:=by
 refine ⟨Tryz.f13,Tryz.func13,by decide +kernel,rfl,fun xs bl r h=> ?_⟩
 unfold sp13 at h
 split at h
 ·rename_i b how
  obtain ⟨hpre,h2⟩:=chk_inv h;cases h2
  refine Eq.trans (b:=(let t0:Int:=Zg (Zy .i64 (Zy .u16 (Wg how 8))) (↑(Zx b):Int);chk (room (Zx b) 1) (sel ((↑(Zx b):Int)==0) (some (Zn b,[])) (chk (!(↑(Zx b):Int)==0) (sel (Zg how 4==0) (chk (decide (0≤t0)&&decide (t0<(↑(Zx b):Int))) (chk (Nat.blt (Zu t0) (Zx b)&&true&&true&&true) (chk (decide (0≤Zy .u64 (Zg how 7))) (chk (decide (0≤t0)&&decide (t0<(↑(Zx b):Int))) (chk (Nat.blt (Zu t0) (Zx b)&&true&&true&&true&&true) (some (Zn (List.set b (Zu t0) (Yg (Zu (Zy .u8 (↑(BitVec.toNat (BitVec.ofInt (Zk .u8) (↑(Ym (Yz b (Zu t0) (0:UInt8))):Int) ^^^ BitVec.ofInt (Zk .u8) (↑(Ym (Yg (Zu (Zy .u8 ((↑(Ym (1:UInt8)):Int)*2 ^ min (Zu (Zy .u64 (Zg how 7))) 8))))):Int))):Int))))),[]))))))) (sel (Zg how 4==1) (chk (decide (0≤t0)&&decide (t0≤(↑(Zx b):Int))&&Nat.blt 0 (Zx b)&&true) (chk (decide (0≤Zy .i64 (t0+1))&&decide (Zy .i64 (t0+1)≤(↑(Zx b):Int))&&Nat.blt 0 (Zx b)&&true) (chk (Nat.blt 0 (Zx b)&&true&&true&&true&&room (Zu t0+(Zx b-Zu (Zy .i64 (t0+1)))) 1) (some (Zn (Vy (Zu t0) b++Vx (Zu (Zy .i64 (t0+1))) b),[]))))) (sel (Zg how 4==2) (chk (room (Zx b+Zx [Yg (Zu (Zy .u8 how))]) 1) (some (Zn (b++[Yg (Zu (Zy .u8 how))]),[]))) (some (Zn b,[]))))))):Option (AV×Blocks))) (by kernel_rfl) ?_
  try dsimp only [cStr,cBs,cBool,cU8,cInt,cSl,l63]
  simp only [Zd,decide_eq_true_eq] at hpre
  obtain ⟨⟨hb,h0⟩,h1⟩:=hpre
  rw [chk_of (Yw (by omega))]
  unfold Kerb.spoil
  by_cases hn:b=[]
  ·subst hn;rfl
  have hpos:0<b.length:=List.length_pos_iff.2 hn
  rw [if_neg hn,sel_neg (by simp;omega),chk_of (by simp;omega)]
  have e:Zg (Zy Zv (Zy IntKind.u16 (Wg how (8:Int)))) (b.length:Int)=Kerb.spoilAt b how:=rfl
  rw [e]
  obtain ⟨ha,hc⟩:=Kerb.spoilAt_bd h0 h1 hpos
  generalize Kerb.spoilAt b how=a at ha hc ⊢
  have hd:(decide ((0:Int)≤a)&&decide (a<(b.length:Int)))=true:=by simp;omega
  have hbl:Nat.blt a.toNat b.length=true:=Nat.ble_eq_true_of_le (by omega)
  have hbl0:Nat.blt 0 b.length=true:=Nat.ble_eq_true_of_le (by omega)
  have h7:decide ((0:Int)≤Zy Yp (Zg how (7:Int)))=true:=by rw [Kerb.wrap_u64];simp;omega
  by_cases c0:Zg how 4=0
  ·rw [if_pos c0,sel_pos (by simpa using c0),chk_of hd,chk_of (by rw [hbl];rfl),chk_of h7,chk_of hd,chk_of (by rw [hbl];rfl)]
  rw [if_neg c0,sel_neg (by simpa using c0)]
  by_cases c1:Zg how 4=1
  ·rw [if_pos c1,sel_pos (by simpa using c1),wrap_i64 (n:=a+1) (by omega) (by omega),chk_of (by rw [hbl0];simp;omega),chk_of (by rw [hbl0];simp;omega),chk_of (by rw [hbl0,Yw (by omega)];rfl)]
  rw [if_neg c1,sel_neg (by simpa using c1)]
  by_cases c2:Zg how 4=2
  ·rw [if_pos c2,sel_pos (by simpa using c2),chk_of (Yw (by simp;omega))]
  ·rw [if_neg c2,sel_neg (by simpa using c2)]
 ·cases h
theorem w17:Walked Tryz.prog G 17 1 sp17:=by
 refine ⟨Tryz.f17,Tryz.func17,by decide +kernel,rfl,fun xs bl r h=> ?_⟩
 unfold sp17 at h
 split at h
 ·rename_i x y z k ad ck tm tc iss lf tk au cx cy cz ck2 cad ccs ctm ctc cis clf ctk cau
  cases h
  refine Eq.trans (b:=(sel (x==cx&&(y==cy&&z==cz)) (sel (k==ck2) (sel (ad==cad) (sel (ck==ccs) (sel (tm==ctm) (sel (tc==ctc) (sel (iss==cis) (sel (lf==clf) (sel (tk==ctk) (some (Zw (au==cau),[])) (some (Zw false,[]))) (some (Zw false,[]))) (some (Zw false,[]))) (some (Zw false,[]))) (some (Zw false,[]))) (some (Zw false,[]))) (some (Zw false,[]))) (some (Zw false,[]))) (some (Zw false,[])):Option (AV×Blocks))) (by kernel_rfl) ?_
  unfold Kerb.Accepted.same
  dsimp only
  have g0:(x==cx&&(y==cy&&z==cz))=Vv ⟨x,y,z⟩ ⟨cx,cy,cz⟩:=rfl
  rw [g0]
  cases Vv ⟨x,y,z⟩ ⟨cx,cy,cz⟩
  ·rfl
  cases (k==ck2)
  ·rfl
  cases (ad==cad)
  ·rfl
  cases (ck==ccs)
  ·rfl
  cases (tm==ctm)
  ·rfl
  cases (tc==ctc)
  ·rfl
  cases (iss==cis)
  ·rfl
  cases (lf==clf)
  ·rfl
  cases (tk==ctk)
  ·rfl
  rfl
 ·cases h
theorem w18:Walked Tryz.prog G 18 1 sp18:=by
 refine ⟨Tryz.f18,Tryz.func18,by decide +kernel,rfl,fun xs bl r h=> ?_⟩
 unfold sp18 at h
 split at h
 ·rename_i m1 m2 m3 kls sz fl mls sk
  cases h
  refine Eq.trans (b:=(sel (decide ((↑(Zx kls):Int)>20)) (some (Zw true,[])) (some (Zw (decide ((↑(Zx mls):Int)>20)),[])):Option (AV×Blocks))) (by kernel_rfl) ?_
  by_cases h:20<kls.length
  ·rw [sel_pos (by simp;omega),decide_eq_true h];rfl
  ·rw [sel_neg (by simp;omega),decide_eq_false h,Bool.false_or]
   have:decide ((mls.length:Int)>20)=decide (20<mls.length):=decide_eq_decide.2 (by omega)
   rw [this]
 ·cases h
theorem w22:Walked Tryz.prog G 22 1 sp22:=by
 refine ⟨Tryz.f22,Tryz.func22,by decide +kernel,rfl,fun xs bl r h=> ?_⟩
 unfold sp22 at h
 split at h
 ·rename_i n
  obtain ⟨hpre,h2⟩:=chk_inv h;cases h2
  refine Eq.trans (b:=(some (Zz .u64 (Zy .u64 (↑(BitVec.toNat (BitVec.ofInt (Zk .u64) 144115188075855872 ||| BitVec.ofInt (Zk .u64) (Zy .u64 (Zy .i64 (1+n))))):Int)),[]):Option (AV×Blocks))) (by kernel_rfl) ?_
  rfl
 ·cases h
theorem w41:Walked Tryz.prog G 41 1 sp41:=by
 refine ⟨Tryz.f41,Tryz.func41,by decide +kernel,rfl,fun xs bl r h=> ?_⟩
 unfold sp41 at h
 split at h
 ·rename_i kls jls
  obtain ⟨hpre,h2⟩:=chk_inv h;cases h2
  refine Eq.trans (b:=(sel (!(↑(Zx kls):Int)==(↑(Zx jls):Int)) (some (Zw false,[])) (Zj (loopM (fun (st:List AV)=>cSl 5 st fun b r=>cSl 5 r fun b_1 r=>cBool r fun b_2 r=>cInt .i64 r fun n r=>onNil r (sel (decide (n<(↑(Zx b):Int))) (chk (decide (0≤n)&&decide (n<(↑(Zx b):Int))&&true) (Wq (Yz b (Zu n) Xz) fun cs=>cStr cs fun b_3 r=>cStr r fun b_4 r=>cStr r fun b_5 r=>cInt .i64 r fun n_1 r=>cInt .u64 r fun n_2 r=>onNil r (chk (decide (0≤n)&&decide (n<(↑(Zx b_1):Int))&&true) (Wq (Yz b_1 (Zu n) Xz) fun cs=>cStr cs fun b_6 r=>cStr r fun b_7 r=>cStr r fun b_8 r=>cInt .i64 r fun n_3 r=>cInt .u64 r fun n_4 r=>onNil r (sel (!(b_3==b_6&&(b_4==b_7&&(b_5==b_8&&(n_1==n_3&&n_2==n_4))))) (some (Yf (Ex.ret,[Zb 5 b,Zb 5 b_1,Zw false,Zz .i64 n]))) (some (Xu [Zb 5 b,Zb 5 b_1,Zw b_2,Zz .i64 (Zy .i64 (n+1))]))))))) (some (Yf (Yn 0,[Zb 5 b,Zb 5 b_1,Zw b_2,Zz .i64 n]))))) [Zb 5 kls,Zb 5 jls,Zw false,Zz .i64 0]) fun (r:Ex×List AV)=>cSl 5 (Zf r) fun b r_1=>cSl 5 r_1 fun b r_2=>cBool r_2 fun b r_3=>cInt .i64 r_3 fun n r_4=>onNil r_4 (exK r.1 (some (Zw b,[])) fun (j:Nat)=>sel (Xn j 0) (some (Zw true,[])) none)):Option (AV×Blocks))) (by kernel_rfl) ?_
  try dsimp only [cStr,cBs,cBool,cU8,cInt,cSl,l63]
  simp only [Zd,decide_eq_true_eq] at hpre
  obtain ⟨⟨h1a,hlen⟩,h1b⟩:=hpre
  obtain ⟨cs,rfl,hok⟩:=Vk h1a
  obtain ⟨ds,rfl,hokd⟩:=Vk h1b
  simp only [Kerb.map_toSKey,Yk] at hlen ⊢
  by_cases hl:cs.length=ds.length
  case neg =>
   rw [sel_pos (by simp;omega),Kerb.sameSKeys_len hl]
   try rfl
  rw [sel_neg (by simp;omega)]
  refine loop_rounds (fun i:Nat=>[Zb 5 (cs.map Yq),Zb 5 (ds.map Yq),Zw false,Zz Zv (i:Int)]) (fun i=>i≤cs.length∧Wf cs ds=Wf (cs.drop i) (ds.drop i)) (fun i=>cs.length-i)
   (fun r=>∃ (i:Nat) (q:Bool),r.2=[Zb 5 (cs.map Yq),Zb 5 (ds.map Yq),Zw q,Zz Zv (i:Int)]∧((r.1 = .ret∧q=false∧Wf cs ds=false)∨(r.1 = .exit 0∧Wf cs ds=true))) 0 ⟨Xx _,by simp⟩ rfl ?_ ?_
  ·rintro i ⟨hi,hp⟩
   simp only [↓A0,A0,Yk]
   by_cases hlt:i<cs.length
   ·have hlt2:i<ds.length:=by omega
    have hs:=Kerb.sameSKeys_step hlt hlt2
    have hg:(cs.map Yq).getD i Xz=(cs.getD i Xf).av:=Xh hlt
    have hg2:(ds.map Yq).getD i Xz=(ds.getD i Xf).av:=Xh hlt2
    have hk1:(decide ((0:Int)≤(i:Int))&&decide ((i:Int)<(cs.length:Int))&&true)=true:=by simp;omega
    have hk2:(decide ((0:Int)≤(i:Int))&&decide ((i:Int)<(ds.length:Int))&&true)=true:=by simp;omega
    obtain ⟨c,hc⟩:∃ c,cs.getD i Xf=c:=⟨_,rfl⟩
    obtain ⟨d,hd⟩:∃ d,ds.getD i Xf=d:=⟨_,rfl⟩
    rw [hc] at hg hs
    rw [hd] at hg2 hs
    rw [sel_pos (by simp;omega)]
    simp only [hk1,hk2,Zm,hg,hg2,Yq,↓A0,A0]
    rw [wrap_i64 (by omega) (by omega)]
    show ∃ y,sel (!(c.eqb d)) _ _=some y∧_
    cases he:c.eqb d
    ·rw [he,Bool.false_and] at hs
     exact ⟨_,rfl,i,_,rfl,.inl ⟨rfl,rfl,hp.trans hs⟩⟩
    ·rw [he,Wm] at hs
     exact ⟨_,rfl,i+1,rfl,⟨by omega,hp.trans hs⟩,by dsimp only;omega⟩
   ·rw [sel_neg (by simp;omega)]
    refine ⟨_,rfl,i,_,rfl,.inr ⟨rfl,?_⟩⟩
    rw [hp,Yx (by omega),Yx (by omega)]
    rfl
  ·rintro ⟨e,l⟩ ⟨i,q,rfl,⟨rfl,rfl,h⟩ | ⟨rfl,h⟩⟩
   ·simp only [↓A0,A0,h]
    try rfl
   ·simp only [↓A0,A0,h]
    rw [sel_pos (Yu _)]
    try rfl
 ·cases h
theorem w42:Walked Tryz.prog G 42 1 sp42:=by
 refine ⟨Tryz.f42,Tryz.func42,by decide +kernel,rfl,fun xs bl r h=> ?_⟩
 unfold sp42 at h
 split at h
 ·rename_i sz fl mls sy fm nls
  obtain ⟨hpre,h2⟩:=chk_inv h;cases h2
  refine Eq.trans (b:=(sel (!sz==sy) (some (Zw false,[])) (sel (!fl==fm) (some (Zw false,[])) (sel (!(↑(Zx mls):Int)==(↑(Zx nls):Int)) (some (Zw false,[])) (Zj (loopM (fun (st:List AV)=>cInt .i64 st fun n r=>cInt .i64 r fun n_1 r=>cSl 5 r fun b r=>cInt .i64 r fun n_2 r=>cInt .i64 r fun n_3 r=>cSl 5 r fun b_1 r=>cBool r fun b_2 r=>cInt .i64 r fun n_4 r=>onNil r (sel (decide (n_4<(↑(Zx b):Int))) (chk (decide (0≤n_4)&&decide (n_4<(↑(Zx b):Int))&&true) (Wq (Yz b (Zu n_4) Xz) fun cs=>cStr cs fun b_3 r=>cStr r fun b_4 r=>cStr r fun b_5 r=>cInt .i64 r fun n_5 r=>cInt .i64 r fun n_6 r=>onNil r (chk (decide (0≤n_4)&&decide (n_4<(↑(Zx b_1):Int))&&true) (Wq (Yz b_1 (Zu n_4) Xz) fun cs=>cStr cs fun b_6 r=>cStr r fun b_7 r=>cStr r fun b_8 r=>cInt .i64 r fun n_7 r=>cInt .i64 r fun n_8 r=>onNil r (sel (!(b_3==b_6&&(b_4==b_7&&(b_5==b_8&&(n_5==n_7&&n_6==n_8))))) (some (Yf (Ex.ret,[Zz .i64 n,Zz .i64 n_1,Zb 5 b,Zz .i64 n_2,Zz .i64 n_3,Zb 5 b_1,Zw false,Zz .i64 n_4]))) (some (Xu [Zz .i64 n,Zz .i64 n_1,Zb 5 b,Zz .i64 n_2,Zz .i64 n_3,Zb 5 b_1,Zw b_2,Zz .i64 (Zy .i64 (n_4+1))]))))))) (some (Yf (Yn 0,[Zz .i64 n,Zz .i64 n_1,Zb 5 b,Zz .i64 n_2,Zz .i64 n_3,Zb 5 b_1,Zw b_2,Zz .i64 n_4]))))) [Zz .i64 sz,Zz .i64 fl,Zb 5 mls,Zz .i64 sy,Zz .i64 fm,Zb 5 nls,Zw false,Zz .i64 0]) fun (r:Ex×List AV)=>cInt .i64 (Zf r) fun n r_1=>cInt .i64 r_1 fun n r_2=>cSl 5 r_2 fun b r_3=>cInt .i64 r_3 fun n r_4=>cInt .i64 r_4 fun n r_5=>cSl 5 r_5 fun b r_6=>cBool r_6 fun b r_7=>cInt .i64 r_7 fun n r_8=>onNil r_8 (exK r.1 (some (Zw b,[])) fun (j:Nat)=>sel (Xn j 0) (some (Zw true,[])) none)))):Option (AV×Blocks))) (by kernel_rfl) ?_
  try dsimp only [cStr,cBs,cBool,cU8,cInt,cSl,l63]
  simp only [Zd,decide_eq_true_eq] at hpre
  obtain ⟨⟨h1a,hlen⟩,h1b⟩:=hpre
  obtain ⟨cs,rfl,hok⟩:=Kerb.marks_of h1a
  obtain ⟨ds,rfl,hokd⟩:=Kerb.marks_of h1b
  simp only [Kerb.map_toMark,Yk] at hlen ⊢
  unfold Kerb.RCache.same
  dsimp only
  cases g1:(sz==sy)
  ·rfl
  cases g2:(fl==fm)
  ·rfl
  rw [Yd,sel_false,sel_false,Wm,Wm]
  by_cases hl:cs.length=ds.length
  case neg =>
   rw [sel_pos (by simp;omega),Kerb.sameMarks_len hl]
   try rfl
  rw [sel_neg (by simp;omega)]
  refine loop_rounds (fun i:Nat=>[Zz Zv sz,Zz Zv fl,Zb 5 (cs.map Yh),Zz Zv sy,Zz Zv fm,Zb 5 (ds.map Yh),Zw false,Zz Zv (i:Int)]) (fun i=>i≤cs.length∧Kerb.sameMarks cs ds=Kerb.sameMarks (cs.drop i) (ds.drop i)) (fun i=>cs.length-i)
   (fun r=>∃ (i:Nat) (q:Bool),r.2=[Zz Zv sz,Zz Zv fl,Zb 5 (cs.map Yh),Zz Zv sy,Zz Zv fm,Zb 5 (ds.map Yh),Zw q,Zz Zv (i:Int)]∧((r.1 = .ret∧q=false∧Kerb.sameMarks cs ds=false)∨(r.1 = .exit 0∧Kerb.sameMarks cs ds=true))) 0 ⟨Xx _,by simp⟩ rfl ?_ ?_
  ·rintro i ⟨hi,hp⟩
   simp only [↓A0,A0,Yk]
   by_cases hlt:i<cs.length
   ·have hlt2:i<ds.length:=by omega
    have hs:=Kerb.sameMarks_step hlt hlt2
    have hg:(cs.map Yh).getD i Xz=(cs.getD i Wd).av:=Xh hlt
    have hg2:(ds.map Yh).getD i Xz=(ds.getD i Wd).av:=Xh hlt2
    have hk1:(decide ((0:Int)≤(i:Int))&&decide ((i:Int)<(cs.length:Int))&&true)=true:=by simp;omega
    have hk2:(decide ((0:Int)≤(i:Int))&&decide ((i:Int)<(ds.length:Int))&&true)=true:=by simp;omega
    obtain ⟨c,hc⟩:∃ c,cs.getD i Wd=c:=⟨_,rfl⟩
    obtain ⟨d,hd⟩:∃ d,ds.getD i Wd=d:=⟨_,rfl⟩
    rw [hc] at hg hs
    rw [hd] at hg2 hs
    rw [sel_pos (by simp;omega)]
    simp only [hk1,hk2,Zm,hg,hg2,Yh,↓A0,A0]
    rw [wrap_i64 (by omega) (by omega)]
    show ∃ y,sel (!(c.eqb d)) _ _=some y∧_
    cases he:c.eqb d
    ·rw [he,Bool.false_and] at hs
     exact ⟨_,rfl,i,_,rfl,.inl ⟨rfl,rfl,hp.trans hs⟩⟩
    ·rw [he,Wm] at hs
     exact ⟨_,rfl,i+1,rfl,⟨by omega,hp.trans hs⟩,by dsimp only;omega⟩
   ·rw [sel_neg (by simp;omega)]
    refine ⟨_,rfl,i,_,rfl,.inr ⟨rfl,?_⟩⟩
    rw [hp,Yx (by omega),Yx (by omega)]
    rfl
  ·rintro ⟨e,l⟩ ⟨i,q,rfl,⟨rfl,rfl,h⟩ | ⟨rfl,h⟩⟩
   ·simp only [↓A0,A0,h]
    try rfl
   ·simp only [↓A0,A0,h]
    rw [sel_pos (Yu _)]
    try rfl
 ·cases h
theorem w49:Walked Tryz.prog G 49 1 sp49:=by
 refine ⟨Tryz.f49,Tryz.func49,by decide +kernel,rfl,fun xs bl r h=> ?_⟩
 unfold sp49 at h
 split at h
 ·rename_i kls x y z v
  obtain ⟨hpre,h2⟩:=chk_inv h;cases h2
  refine Eq.trans (b:=(Zj (loopM (fun (st:List AV)=>cSl 5 st fun b r=>cInt .i64 r fun n r=>cStr r fun b_1 r=>cStr r fun b_2 r=>cStr r fun b_3 r=>cInt .u64 r fun n_1 r=>cBool r fun b_4 r=>cInt .i64 r fun n_2 r=>let t0:Option (List AV ⊕ Ex×List AV):=some (Xu [Zb 5 b,Zz .i64 n,Zq b_1,Zq b_2,Zq b_3,Zz .u64 n_1,Zw b_4,Zz .i64 (Zy .i64 (n_2+1))]);let t1:Bool:=decide (0≤n_2)&&decide (n_2<(↑(Zx b):Int))&&true;onNil r (sel (decide (n_2<(↑(Zx b):Int))) (chk t1 (Wq (Yz b (Zu n_2) Xz) fun cs=>cStr cs fun b_5 r=>cStr r fun b_6 r=>cStr r fun b_7 r=>cInt .i64 r fun n_3 r=>cInt .u64 r fun n_4 r=>onNil r (sel (b_5==b_1&&(b_6==b_2&&b_7==b_3)) (chk t1 (Wq (Yz b (Zu n_2) Xz) fun cs=>cStr cs fun b_8 r=>cStr r fun b_9 r=>cStr r fun b_10 r=>cInt .i64 r fun n_5 r=>cInt .u64 r fun n_6 r=>onNil r (sel (n_5==n) (chk t1 (Wq (Yz b (Zu n_2) Xz) fun cs=>cStr cs fun b_11 r=>cStr r fun b_12 r=>cStr r fun b_13 r=>cInt .i64 r fun n_7 r=>cInt .u64 r fun n_8 r=>onNil r (some (Yf (Ex.ret,[Zb 5 b,Zz .i64 n,Zq b_1,Zq b_2,Zq b_3,Zz .u64 n_8,Zw true,Zz .i64 n_2]))))) t0))) t0))) (some (Yf (Yn 0,[Zb 5 b,Zz .i64 n,Zq b_1,Zq b_2,Zq b_3,Zz .u64 n_1,Zw b_4,Zz .i64 n_2]))))) [Zb 5 kls,Zz .i64 v,Zq x,Zq y,Zq z,Zz .u64 0,Zw false,Zz .i64 0]) fun (r:Ex×List AV)=>cSl 5 (Zf r) fun b r_1=>cInt .i64 r_1 fun n r_2=>cStr r_2 fun b r_3=>cStr r_3 fun b r_4=>cStr r_4 fun b r_5=>cInt .u64 r_5 fun n r_6=>cBool r_6 fun b r_7=>cInt .i64 r_7 fun n_1 r_8=>onNil r_8 (exK r.1 (some (Yy [Zz .u64 n,Zw b],[])) fun (j:Nat)=>sel (Xn j 0) (some (Yy [Zz .u64 0,Zw false],[])) none):Option (AV×Blocks))) (by kernel_rfl) ?_
  try dsimp only [cStr,cBs,cBool,cU8,cInt,cSl,l63]
  simp only [Zd,decide_eq_true_eq] at hpre
  obtain ⟨hall,hlen⟩:=hpre
  obtain ⟨cs,rfl,hok⟩:=Vk hall
  rw [Kerb.map_toSKey]
  simp only [Yk] at hlen ⊢
  refine loop_rounds (fun i:Nat=>[Zb 5 (cs.map Yq),Zz Zv v,Zq x,Zq y,Zq z,Zz Yp 0,Zw false,Zz Zv (i:Int)]) (fun i=>i≤cs.length∧Xy cs ⟨x,y,z⟩ v=i+Xy (cs.drop i) ⟨x,y,z⟩ v) (fun i=>cs.length-i)
   (fun r=>∃ (i:Nat) (n:Int) (f:Bool),r.2=[Zb 5 (cs.map Yq),Zz Zv v,Zq x,Zq y,Zq z,Zz Yp n,Zw f,Zz Zv (i:Int)]∧((r.1 = .ret∧Kerb.skFind cs ⟨x,y,z⟩ v=(n,f))∨(r.1 = .exit 0∧Kerb.skFind cs ⟨x,y,z⟩ v=(0,false)))) 0 ⟨Xx _,by simp⟩ rfl ?_ ?_
  ·rintro i ⟨hi,hp⟩
   simp only [↓A0,A0,Yk]
   by_cases hlt:i<cs.length
   ·have hk1:(decide ((0:Int)≤(i:Int))&&decide ((i:Int)<(cs.length:Int))&&true)=true:=by simp;omega
    have hd:=Kerb.drop_row (d:=Xf) hlt
    have hg:(cs.map Yq).getD i Xz=(cs.getD i Xf).av:=Xh hlt
    obtain ⟨c,hc⟩:∃ c,cs.getD i Xf=c:=⟨_,rfl⟩
    rw [hc] at hd hg
    rw [sel_pos (by simp;omega)]
    simp only [hk1,Zm,hg,Yq,↓A0,A0]
    have he0:Wn ⟨x,y,z⟩ v c=((c.service.name==x&&(c.service.inst==y&&c.service.realm==z))&&c.kvno==v):=rfl
    have keep:Wn ⟨x,y,z⟩ v c=false→Xy cs ⟨x,y,z⟩ v=(i+1)+Xy (cs.drop (i+1)) ⟨x,y,z⟩ v:=fun he=>by
     rw [hp,hd]
     simp only [Xy,Vj,he,cond_false]
     omega
    rw [wrap_i64 (by omega) (by omega)]
    cases h1:(c.service.name==x&&(c.service.inst==y&&c.service.realm==z))
    ·rw [sel_false]
     exact ⟨_,rfl,i+1,rfl,⟨by omega,keep (by rw [he0,h1];rfl)⟩,by dsimp only;omega⟩
    rw [sel_true]
    cases h2:(c.kvno==v)
    ·rw [sel_false]
     exact ⟨_,rfl,i+1,rfl,⟨by omega,keep (by rw [he0,h1,h2];rfl)⟩,by dsimp only;omega⟩
    rw [sel_true]
    refine ⟨_,rfl,i,_,_,rfl,.inl ⟨rfl,?_⟩⟩
    have hq:Xy cs ⟨x,y,z⟩ v=i:=by
     rw [hp,hd]
     simp only [Xy,Vj,show Wn ⟨x,y,z⟩ v c=true from by rw [he0,h1,h2];rfl,cond_true]
     omega
    unfold Kerb.skFind
    rw [hq,if_pos hlt,hc]
   ·rw [sel_neg (by simp;omega)]
    refine ⟨_,rfl,i,0,false,rfl,.inr ⟨rfl,?_⟩⟩
    have hq:Xy cs ⟨x,y,z⟩ v=cs.length:=by
     rw [hp,Yx (by omega)]
     simp [Xy];omega
    unfold Kerb.skFind
    rw [hq,if_neg (by omega)]
  ·rintro ⟨e,l⟩ ⟨i,n,f,rfl,⟨rfl,h⟩ | ⟨rfl,h⟩⟩
   ·simp only [↓A0,A0,h]
   ·simp only [↓A0,A0,h]
    rw [sel_pos (Yu _)]
 ·cases h
theorem w65:Walked Tryz.prog G 65 1 sp65:=by
 refine ⟨Tryz.f65,Tryz.func65,by decide +kernel,rfl,fun xs bl r h=> ?_⟩
 unfold sp65 at h
 split at h
 ·rename_i n
  cases h
  refine Eq.trans (b:=(sel (decide (n≥0)) (some (Zw (decide (n≤4294967295)),[])) (some (Zw false,[])):Option (AV×Blocks))) (by kernel_rfl) ?_
  by_cases h:0≤n<;>simp [sel,Zp,h]
 ·cases h
theorem w82:Walked Tryz.prog G 82 1 sp82:=by
 refine ⟨Tryz.f82,Tryz.func82,by decide +kernel,rfl,fun xs bl r h=> ?_⟩
 unfold sp82 at h
 split at h
 ·rename_i n m
  cases h
  refine Eq.trans (b:=(sel (decide (n≥0)) (some (Zw (decide (n≤m)),[])) (some (Zw false,[])):Option (AV×Blocks))) (by kernel_rfl) ?_
  by_cases h:0≤n<;>simp [sel,Zp,h]
 ·cases h
theorem w84:Walked Tryz.prog G 84 1 sp84:=by
 refine ⟨Tryz.f84,Tryz.func84,by decide +kernel,rfl,fun xs bl r h=> ?_⟩
 unfold sp84 at h
 split at h
 ·rename_i k little
  cases h
  refine Eq.trans (b:=(sel (decide (k<1)) (some (Zn [],[])) (sel (decide (k>10)) (some (Zn [],[])) (sel little (some (Zn [(4:UInt8),Yg (Zu (Zy .u8 (Zy .i64 (Zy .i64 (2*k)+1))))],[])) (some (Zn [(4:UInt8),Yg (Zu (Zy .u8 (Zy .i64 (2*k))))],[])))):Option (AV×Blocks))) (by kernel_rfl) ?_
  by_cases h:1≤k∧k≤10
  ·have hk:k=1∨k=2∨k=3∨k=4∨k=5∨k=6∨k=7∨k=8∨k=9∨k=10:=by omega
   rcases hk with rfl | rfl | rfl | rfl | rfl | rfl | rfl | rfl | rfl | rfl<;>cases little<;>rfl
  ·have hk:Xq k=false:=by simp [Xq];omega
   by_cases h1:k<1
   ·simp [sel,Xg,hk,h1]
   ·have h2:10<k:=by omega
    simp [sel,Xg,hk,h1,h2]
 ·cases h
theorem w85:Walked Tryz.prog G 85 1 sp85:=by
 refine ⟨Tryz.f85,Tryz.func85,by decide +kernel,rfl,fun xs bl r h=> ?_⟩
 unfold sp85 at h
 split at h
 ·rename_i b s
  obtain ⟨hpre,h2⟩:=chk_inv h;cases h2
  refine Eq.trans (b:=(chk (room (Zx b) 1) (chk (room (Zx b+Zx s) 1) (chk (room (Zx (b++s)+Zx [(0:UInt8)]) 1) (some (Zn (b++s++[(0:UInt8)]),[])))):Option (AV×Blocks))) (by kernel_rfl) ?_
  simp only [decide_eq_true_eq] at hpre
  rw [chk_of (Yw (by omega)),chk_of (Yw (by omega)),chk_of (Yw (by simp;omega))]
  simp [Wu]
 ·cases h
theorem w89:Walked Tryz.prog G 89 1 sp89:=by
 refine ⟨Tryz.f89,Tryz.func89,by decide +kernel,rfl,fun xs bl r h=> ?_⟩
 unfold sp89 at h
 split at h
 ·rename_i a b
  cases h
  refine Eq.trans (b:=(some (Zw (a==b),[]):Option (AV×Blocks))) (by kernel_rfl) ?_
  rfl
 ·cases h
theorem w98:Walked Tryz.prog G 98 1 sp98:=by
 refine ⟨Tryz.f98,Tryz.func98,by decide +kernel,rfl,fun xs bl r h=> ?_⟩
 unfold sp98 at h
 split at h
 ·rename_i ali b1 b2 b3 aad ak alf ais asv ain rl
  cases h
  refine Eq.trans (b:=(some (AV.agg [Zq asv,Zq ain,Zq rl],[]):Option (AV×Blocks))) (by kernel_rfl) ?_
  rfl
 ·cases h
theorem w102:Walked Tryz.prog G 102 1 sp102:=by
 refine ⟨Tryz.f102,Tryz.func102,by decide +kernel,rfl,fun xs bl r h=> ?_⟩
 unfold sp102 at h
 split at h
 ·rename_i n l m
  cases h
  refine Eq.trans (b:=(sel (decide (n≥l)) (some (Zw (decide (n≤m)),[])) (some (Zw false,[])):Option (AV×Blocks))) (by kernel_rfl) ?_
  by_cases h:l≤n
  ·rw [sel_pos (by simpa using h)];simp [h]
  ·rw [sel_neg (by simpa using h)];simp [h]
 ·cases h
theorem w106:Walked Tryz.prog G 106 1 sp106:=by
 refine ⟨Tryz.f106,Tryz.func106,by decide +kernel,rfl,fun xs bl r h=> ?_⟩
 unfold sp106 at h
 split at h
 ·rename_i n
  cases h
  refine Eq.trans (b:=(sel (decide (n≥0)) (some (Zw (decide (n≤4294967295)),[])) (some (Zw false,[])):Option (AV×Blocks))) (by kernel_rfl) ?_
  by_cases h:0≤n<;>simp [sel,Zp,h]
 ·cases h
theorem w108:Walked Tryz.prog G 108 1 sp108:=by
 refine ⟨Tryz.f108,Tryz.func108,by decide +kernel,rfl,fun xs bl r h=> ?_⟩
 unfold sp108 at h
 split at h
 ·rename_i sz fl mls a1 a2 a3 at_ atk
  obtain ⟨hpre,h2⟩:=chk_inv h;cases h2
  refine Eq.trans (b:=(Zj (loopM (fun (st:List AV)=>cInt .i64 st fun n r=>cInt .i64 r fun n_1 r=>cSl 5 r fun b r=>cStr r fun b_1 r=>cStr r fun b_2 r=>cStr r fun b_3 r=>cInt .i64 r fun n_2 r=>cInt .i64 r fun n_3 r=>cBool r fun b_4 r=>cInt .i64 r fun n_4 r=>onNil r (sel (decide (n_4<(↑(Zx b):Int))) (chk (decide (0≤n_4)&&decide (n_4<(↑(Zx b):Int))&&true) (Wq (Yz b (Zu n_4) Xz) fun cs=>cStr cs fun b_5 r=>cStr r fun b_6 r=>cStr r fun b_7 r=>cInt .i64 r fun n_5 r=>cInt .i64 r fun n_6 r=>onNil r (sel (b_5==b_1&&(b_6==b_2&&(b_7==b_3&&(n_5==n_2&&n_6==n_3)))) (some (Yf (Ex.ret,[Zz .i64 n,Zz .i64 n_1,Zb 5 b,Zq b_1,Zq b_2,Zq b_3,Zz .i64 n_2,Zz .i64 n_3,Zw true,Zz .i64 n_4]))) (some (Xu [Zz .i64 n,Zz .i64 n_1,Zb 5 b,Zq b_1,Zq b_2,Zq b_3,Zz .i64 n_2,Zz .i64 n_3,Zw b_4,Zz .i64 (Zy .i64 (n_4+1))]))))) (some (Yf (Yn 0,[Zz .i64 n,Zz .i64 n_1,Zb 5 b,Zq b_1,Zq b_2,Zq b_3,Zz .i64 n_2,Zz .i64 n_3,Zw b_4,Zz .i64 n_4]))))) [Zz .i64 sz,Zz .i64 fl,Zb 5 mls,Zq a1,Zq a2,Zq a3,Zz .i64 at_,Zz .i64 atk,Zw false,Zz .i64 0]) fun (r:Ex×List AV)=>cInt .i64 (Zf r) fun n r_1=>cInt .i64 r_1 fun n r_2=>cSl 5 r_2 fun b r_3=>cStr r_3 fun b r_4=>cStr r_4 fun b r_5=>cStr r_5 fun b r_6=>cInt .i64 r_6 fun n r_7=>cInt .i64 r_7 fun n r_8=>cBool r_8 fun b r_9=>cInt .i64 r_9 fun n r_10=>onNil r_10 (exK r.1 (some (Zw b,[])) fun (j:Nat)=>sel (Xn j 0) (some (Zw false,[])) none):Option (AV×Blocks))) (by kernel_rfl) ?_
  try dsimp only [cStr,cBs,cBool,cU8,cInt,cSl,l63]
  simp only [Zd,decide_eq_true_eq] at hpre
  obtain ⟨hall,hlen⟩:=hpre
  obtain ⟨cs,rfl,hok⟩:=Kerb.marks_of hall
  rw [Kerb.map_toMark]
  simp only [Yk] at hlen ⊢
  refine loop_rounds (fun i:Nat=>[Zz Zv sz,Zz Zv fl,Zb 5 (cs.map Yh),Zq a1,Zq a2,Zq a3,Zz Zv at_,Zz Zv atk,Zw false,Zz Zv (i:Int)]) (fun i=>i≤cs.length∧Wx cs ⟨⟨a1,a2,a3⟩,at_,atk⟩=Wx (cs.drop i) ⟨⟨a1,a2,a3⟩,at_,atk⟩) (fun i=>cs.length-i)
   (fun r=>∃ (i:Nat) (q:Bool),r.2=[Zz Zv sz,Zz Zv fl,Zb 5 (cs.map Yh),Zq a1,Zq a2,Zq a3,Zz Zv at_,Zz Zv atk,Zw q,Zz Zv (i:Int)]∧((r.1 = .ret∧q=true∧Wx cs ⟨⟨a1,a2,a3⟩,at_,atk⟩=true)∨(r.1 = .exit 0∧Wx cs ⟨⟨a1,a2,a3⟩,at_,atk⟩=false))) 0 ⟨Xx _,by simp⟩ rfl ?_ ?_
  ·rintro i ⟨hi,hp⟩
   simp only [↓A0,A0,Yk]
   by_cases hlt:i<cs.length
   ·rw [sel_pos (by simp;omega),chk_of (by simp;omega),Zm,Xh (d:=Wd) hlt]
    obtain ⟨c,hc⟩:∃ c,cs.getD i Wd=c:=⟨_,rfl⟩
    have hd:=Kerb.hasMark_step (m:=⟨⟨a1,a2,a3⟩,at_,atk⟩) hlt hc
    rw [hc]
    simp only [Yh,↓A0,A0]
    rw [wrap_i64 (by omega) (by omega)]
    show ∃ y,sel (Kerb.Mark.eqb c ⟨⟨a1,a2,a3⟩,at_,atk⟩) _ _=some y∧_
    cases he:Kerb.Mark.eqb c ⟨⟨a1,a2,a3⟩,at_,atk⟩
    ·rw [he,Bool.false_or] at hd
     exact ⟨_,rfl,i+1,rfl,⟨by omega,hp.trans hd⟩,by dsimp only;omega⟩
    ·rw [he,Bool.true_or] at hd
     exact ⟨_,rfl,i,_,rfl,.inl ⟨rfl,rfl,hp.trans hd⟩⟩
   ·rw [sel_neg (by simp;omega)]
    refine ⟨_,rfl,i,_,rfl,.inr ⟨rfl,?_⟩⟩
    rw [hp,Yx (by omega)]
    rfl
  ·rintro ⟨e,l⟩ ⟨i,q,rfl,⟨rfl,rfl,h⟩ | ⟨rfl,h⟩⟩
   ·simp only [↓A0,A0,h]
   ·simp only [↓A0,A0,h]
    rw [sel_pos (Yu _)]
 ·cases h
theorem w109:Walked Tryz.prog G 109 1 sp109:=by
 refine ⟨Tryz.f109,Tryz.func109,by decide +kernel,rfl,fun xs bl r h=> ?_⟩
 unfold sp109 at h
 split at h
 ·rename_i n m
  cases h
  refine Eq.trans (b:=(sel (decide (n≥0)) (some (Zw (decide (n≤m)),[])) (some (Zw false,[])):Option (AV×Blocks))) (by kernel_rfl) ?_
  by_cases h:0≤n<;>simp [sel,Zp,h]
 ·cases h
theorem w113:Walked Tryz.prog G 113 1 sp113:=by
 refine ⟨Tryz.f113,Tryz.func113,by decide +kernel,rfl,fun xs bl r h=> ?_⟩
 unfold sp113 at h
 split at h
 ·rename_i k
  cases h
  refine Eq.trans (b:=(sel (decide (k≥1)) (some (Zw (decide (k≤10)),[])) (some (Zw false,[])):Option (AV×Blocks))) (by kernel_rfl) ?_
  by_cases h:1≤k<;>simp [sel,Xq,h]
 ·cases h
theorem w115:Walked Tryz.prog G 115 1 sp115:=by
 refine ⟨Tryz.f115,Tryz.func115,by decide +kernel,rfl,fun xs bl r h=> ?_⟩
 unfold sp115 at h
 split at h
 ·rename_i k
  obtain ⟨hpre,h2⟩:=chk_inv h;cases h2
  refine Eq.trans (b:=(Zj (loopM (fun (st:List AV)=>cInt .u64 st fun n r=>onCons r fun x r=>Xw x fun b=>cInt .i64 r fun n_1 r=>cInt .i64 r fun n_2 r=>let t0:Int:=Zy .i64 (8*Zy .i64 (7-n_2));onNil r (sel (decide (n_2<n_1)) (chk (decide (0≤t0)) (chk (decide (0≤n_2)&&decide (n_2<(↑(Zx b):Int))) (chk (Nat.blt (Zu n_2) (Zx b)&&true&&true&&true&&true) (some (Xu [Zz .u64 n,Zh (List.set b (Zu n_2) (Yg (Zu (Zy .u8 (Vq n (2 ^ min (Zu t0) (Zk .u64))))))),Zz .i64 n_1,Zz .i64 (Zy .i64 (n_2+1))]))))) (some (Yf (Yn 0,[Zz .u64 n,Zh b,Zz .i64 n_1,Zz .i64 n_2]))))) [Zz .u64 k,Zh (Wv (Zu 8) (0:UInt8)),Zz .i64 (↑(Zx (Wv (Zu 8) (0:UInt8))):Int),Zz .i64 0]) fun (r:Ex×List AV)=>cInt .u64 (Zf r) fun n r_1=>onCons r_1 fun x r_2=>Xw x fun b=>cInt .i64 r_2 fun n r_3=>cInt .i64 r_3 fun n r_4=>onNil r_4 (exK r.1 none fun (j:Nat)=>sel (Xn j 0) (some (Zn b,[])) none):Option (AV×Blocks))) (by kernel_rfl) ?_
  try dsimp only [cStr,cBs,cBool,cU8,cInt,cSl,l63]
  refine loop_unroll 9 (Yn 0,[Zz Yp k,Zh [Xb k 56,Xb k 48,Xb k 40,Xb k 32,Xb k 24,Xb k 16,Xb k 8,Xb k 0],Zz Zv 8,Zz Zv 8]) (by kernel_rfl) ?_
  simp only [A0]
  rw [sel_pos (Yu _)]
  simp [Kerb.bfd_eq,Kerb.keyBytes,Kerb.byteAt,List.range_succ]
 ·cases h
theorem w121:Walked Tryz.prog G 121 1 sp121:=by
 refine ⟨Tryz.f121,Tryz.func121,by decide +kernel,rfl,fun xs bl r h=> ?_⟩
 unfold sp121 at h
 split at h
 ·rename_i b
  obtain ⟨hpre,h2⟩:=chk_inv h;cases h2
  refine Eq.trans (b:=(chk (room (Zx b) 1) (Zj (loopM (fun (st:List AV)=>onCons st fun x r=>Xw x fun b=>onNil r (sel (!Zg (↑(Zx b):Int) 8==0) (chk (room (Zx b+Zx [(0:UInt8)]) 1) (some (Xu [Zh (b++[(0:UInt8)])]))) (some (Yf (Yn 0,[Zh b]))))) [Zh b]) fun (r:Ex×List AV)=>onCons (Zf r) fun x r_1=>Xw x fun b=>onNil r_1 (exK r.1 none fun (j:Nat)=>sel (Xn j 0) (some (Zh b,[])) none)):Option (AV×Blocks))) (by kernel_rfl) ?_
  have hb:=of_decide_eq_true hpre
  rw [chk_of (Yw (by omega))]
  refine loop_rounds (fun i:Nat=>[Zh (b++Wv i 0)]) (fun i=>i≤(8-b.length % 8) % 8) (fun i=>(8-b.length % 8) % 8-i)
   (fun r=>r=(Yn 0,[Zh (Kerb.pad b)])) 0 (by omega) (by simp) ?_ ?_
  ·intro i hi
   simp only [A0]
   have e:Zg ((b++Wv i 0).length:Int) 8=(((b.length+i) % 8:Nat):Int):=by
    rw [Xd (by omega)]
    simp
   rw [e]
   by_cases hlt:i<(8-b.length % 8) % 8
   ·rw [sel_pos (by simp;omega),chk_of (Yw (by simp;omega))]
    refine ⟨_,rfl,i+1,?_,by omega,by dsimp only;omega⟩
    dsimp only
    rw [List.replicate_succ',List.append_assoc]
   ·rw [sel_neg (by simp;omega)]
    refine ⟨_,rfl,?_⟩
    show _=_
    rw [Kerb.pad,show i=(8-b.length % 8) % 8 from by omega]
  rintro r rfl
  simp only [A0]
  rw [sel_pos (Yu _)]
 ·cases h
theorem w123:Walked Tryz.prog G 123 1 sp123:=by
 refine ⟨Tryz.f123,Tryz.func123,by decide +kernel,rfl,fun xs bl r h=> ?_⟩
 unfold sp123 at h
 split at h
 ·rename_i k
  obtain ⟨hpre,h2⟩:=chk_inv h;cases h2
  refine Eq.trans (b:=(Zj (loopM (fun (st:List AV)=>cInt .u64 st fun n r=>onCons r fun x r=>Xw x fun b=>cInt .i64 r fun n_1 r=>let t0:List UInt8:=[Yg (Zu (Zy .u8 (Vq n (2 ^ min (Zu (Zy .u64 (Zy .i64 (8*n_1)))) (Zk .u64)))))];onNil r (sel (decide (n_1≥0)) (chk (decide (0≤Zy .u64 (Zy .i64 (8*n_1)))) (chk (room (Zx b+Zx t0) 1) (some (Xu [Zz .u64 n,Zh (b++t0),Zz .i64 (Zy .i64 (n_1-1))])))) (some (Yf (Yn 0,[Zz .u64 n,Zh b,Zz .i64 n_1]))))) [Zz .u64 k,Zh [],Zz .i64 7]) fun (r:Ex×List AV)=>cInt .u64 (Zf r) fun n r_1=>onCons r_1 fun x r_2=>Xw x fun b=>cInt .i64 r_2 fun n r_3=>onNil r_3 (exK r.1 none fun (j:Nat)=>sel (Xn j 0) (some (Zn b,[])) none):Option (AV×Blocks))) (by kernel_rfl) ?_
  try dsimp only [cStr,cBs,cBool,cU8,cInt,cSl,l63]
  refine loop_unroll 9 (Yn 0,[Zz Yp k,Zh [Xb k 56,Xb k 48,Xb k 40,Xb k 32,Xb k 24,Xb k 16,Xb k 8,Xb k 0],Zz Zv (-1)]) (by kernel_rfl) ?_
  simp only [A0]
  rw [sel_pos (Yu _)]
  simp [Kerb.bfd_eq,Kerb.keyBytes,Kerb.byteAt,List.range_succ]
 ·cases h
theorem w125:Walked Tryz.prog G 125 1 sp125:=by
 refine ⟨Tryz.f125,Tryz.func125,by decide +kernel,rfl,fun xs bl r h=> ?_⟩
 unfold sp125 at h
 split at h
 ·cases h
  refine Eq.trans (b:=(some (Zb 1 [Zq [(65:UInt8),(84:UInt8),(72:UInt8)],Zq [(66:UInt8),(79:UInt8),(83:UInt8)],Zq [(67:UInt8),(65:UInt8),(77:UInt8)]],[]):Option (AV×Blocks))) (by kernel_rfl) ?_
  rfl
 ·cases h
theorem w130:Walked Tryz.prog G 130 1 sp130:=by
 refine ⟨Tryz.f130,Tryz.func130,by decide +kernel,rfl,fun xs bl r h=> ?_⟩
 unfold sp130 at h
 split at h
 ·rename_i x y z v k
  cases h
  refine Eq.trans (b:=(some (AV.agg [Zq x,Zq y,Zq z,Zz .i64 v],[]):Option (AV×Blocks))) (by kernel_rfl) ?_
  rfl
 ·cases h
theorem w131:Walked Tryz.prog G 131 1 sp131:=by
 refine ⟨Tryz.f131,Tryz.func131,by decide +kernel,rfl,fun xs bl r h=> ?_⟩
 unfold sp131 at h
 split at h
 ·rename_i mls a1 a2 a3 at_ atk
  obtain ⟨hpre,h2⟩:=chk_inv h;cases h2
  refine Eq.trans (b:=(Zj (loopM (fun (st:List AV)=>cStr st fun b r=>cStr r fun b_1 r=>cStr r fun b_2 r=>cInt .i64 r fun n r=>cInt .i64 r fun n_1 r=>cBool r fun b_3 r=>cSl 5 r fun b_4 r=>cInt .i64 r fun n_2 r=>cInt .i64 r fun n_3 r=>onNil r (sel (decide (n_3<n_2)) (chk (decide (0≤n_3)&&decide (n_3<(↑(Zx b_4):Int))&&true) (Wq (Yz b_4 (Zu n_3) Xz) fun cs=>cStr cs fun b_5 r=>cStr r fun b_6 r=>cStr r fun b_7 r=>cInt .i64 r fun n_4 r=>cInt .i64 r fun n_5 r=>onNil r (sel (b_5==b&&(b_6==b_1&&(b_7==b_2&&(n_4==n&&n_5==n_1)))) (some (Yf (Ex.ret,[Zq b,Zq b_1,Zq b_2,Zz .i64 n,Zz .i64 n_1,Zw true,Zb 5 b_4,Zz .i64 n_2,Zz .i64 n_3]))) (some (Xu [Zq b,Zq b_1,Zq b_2,Zz .i64 n,Zz .i64 n_1,Zw b_3,Zb 5 b_4,Zz .i64 n_2,Zz .i64 (Zy .i64 (n_3+1))]))))) (some (Yf (Yn 0,[Zq b,Zq b_1,Zq b_2,Zz .i64 n,Zz .i64 n_1,Zw b_3,Zb 5 b_4,Zz .i64 n_2,Zz .i64 n_3]))))) [Zq a1,Zq a2,Zq a3,Zz .i64 at_,Zz .i64 atk,Zw false,Zb 5 mls,Zz .i64 (↑(Zx mls):Int),Zz .i64 0]) fun (r:Ex×List AV)=>cStr (Zf r) fun b r_1=>cStr r_1 fun b r_2=>cStr r_2 fun b r_3=>cInt .i64 r_3 fun n r_4=>cInt .i64 r_4 fun n r_5=>cBool r_5 fun b r_6=>cSl 5 r_6 fun b_1 r_7=>cInt .i64 r_7 fun n r_8=>cInt .i64 r_8 fun n r_9=>onNil r_9 (exK r.1 (some (Zw b,[])) fun (j:Nat)=>sel (Xn j 0) (some (Zw false,[])) none):Option (AV×Blocks))) (by kernel_rfl) ?_
  try dsimp only [cStr,cBs,cBool,cU8,cInt,cSl,l63]
  simp only [Zd,decide_eq_true_eq] at hpre
  obtain ⟨hall,hlen⟩:=hpre
  obtain ⟨cs,rfl,hok⟩:=Kerb.marks_of hall
  rw [Kerb.map_toMark]
  simp only [Yk] at hlen ⊢
  refine loop_rounds (fun i:Nat=>[Zq a1,Zq a2,Zq a3,Zz Zv at_,Zz Zv atk,Zw false,Zb 5 (cs.map Yh),Zz Zv (cs.length:Int),Zz Zv (i:Int)]) (fun i=>i≤cs.length∧Wx cs ⟨⟨a1,a2,a3⟩,at_,atk⟩=Wx (cs.drop i) ⟨⟨a1,a2,a3⟩,at_,atk⟩) (fun i=>cs.length-i)
   (fun r=>∃ (i:Nat) (q:Bool),r.2=[Zq a1,Zq a2,Zq a3,Zz Zv at_,Zz Zv atk,Zw q,Zb 5 (cs.map Yh),Zz Zv (cs.length:Int),Zz Zv (i:Int)]∧((r.1 = .ret∧q=true∧Wx cs ⟨⟨a1,a2,a3⟩,at_,atk⟩=true)∨(r.1 = .exit 0∧Wx cs ⟨⟨a1,a2,a3⟩,at_,atk⟩=false))) 0 ⟨Xx _,by simp⟩ rfl ?_ ?_
  ·rintro i ⟨hi,hp⟩
   simp only [↓A0,A0,Yk]
   by_cases hlt:i<cs.length
   ·rw [sel_pos (by simp;omega),chk_of (by simp;omega),Zm,Xh (d:=Wd) hlt]
    obtain ⟨c,hc⟩:∃ c,cs.getD i Wd=c:=⟨_,rfl⟩
    have hd:=Kerb.hasMark_step (m:=⟨⟨a1,a2,a3⟩,at_,atk⟩) hlt hc
    rw [hc]
    simp only [Yh,↓A0,A0]
    rw [wrap_i64 (by omega) (by omega)]
    show ∃ y,sel (Kerb.Mark.eqb c ⟨⟨a1,a2,a3⟩,at_,atk⟩) _ _=some y∧_
    cases he:Kerb.Mark.eqb c ⟨⟨a1,a2,a3⟩,at_,atk⟩
    ·rw [he,Bool.false_or] at hd
     exact ⟨_,rfl,i+1,rfl,⟨by omega,hp.trans hd⟩,by dsimp only;omega⟩
    ·rw [he,Bool.true_or] at hd
     exact ⟨_,rfl,i,_,rfl,.inl ⟨rfl,rfl,hp.trans hd⟩⟩
   ·rw [sel_neg (by simp;omega)]
    refine ⟨_,rfl,i,_,rfl,.inr ⟨rfl,?_⟩⟩
    rw [hp,Yx (by omega)]
    rfl
  ·rintro ⟨e,l⟩ ⟨i,q,rfl,⟨rfl,rfl,h⟩ | ⟨rfl,h⟩⟩
   ·simp only [↓A0,A0,h]
   ·simp only [↓A0,A0,h]
    rw [sel_pos (Yu _)]
 ·cases h
theorem w133:Walked Tryz.prog G 133 1 sp133:=by
 refine ⟨Tryz.f133,Tryz.func133,by decide +kernel,rfl,fun xs bl r h=> ?_⟩
 unfold sp133 at h
 split at h
 ·rename_i nx e B at_ li bad
  cases h
  show runFnH (G.env 133 1) G.rts (G.own 133) Tryz.f133 _ _ [0]=_
  refine Eq.trans (b:=(sel bad (some (Yy [],[[Zn B,Zz .i64 at_,Zw li,Zw true]])) (sel (!e==0) (some (Yy [],[[Zn B,Zz .i64 at_,Zw li,Zw true]])) (some (Yy [],[[Zn B,Zz .i64 nx,Zw li,Zw bad]]))):Option (AV×Blocks))) (by kernel_rfl) ?_
  cases bad
  ·cases (e==0)<;>rfl
  ·rfl
 ·cases h
theorem w134:Walked Tryz.prog G 134 1 sp134:=by
 refine ⟨Tryz.f134,Tryz.func134,by decide +kernel,rfl,fun xs bl r h=> ?_⟩
 unfold sp134 at h
 split at h
 ·rename_i b pos n
  obtain ⟨hpre,h2⟩:=chk_inv h;cases h2
  refine Eq.trans (b:=(sel (decide (pos<0)) (some (Yy [Zn [],Zz .i64 0,Zz .i64 104],[])) (sel (decide (pos>(↑(Zx b):Int))) (some (Yy [Zn [],Zz .i64 0,Zz .i64 104],[])) (sel (decide (n<0)) (some (Yy [Zn [],Zz .i64 0,Zz .i64 104],[])) (sel (decide (n>Zy .i64 ((↑(Zx b):Int)-pos))) (some (Yy [Zn [],Zz .i64 0,Zz .i64 101],[])) (chk (decide (0≤pos)&&decide (pos≤Zy .i64 (pos+n))&&decide (Zy .i64 (pos+n)≤(↑(Zx b):Int))) (chk (room (Zx (Vx (Zu pos) (Vy (Zu (Zy .i64 (pos+n))) b))) 1) (some (Yy [Zn (Vx (Zu pos) (Vy (Zu (Zy .i64 (pos+n))) b)),Zz .i64 (Zy .i64 (pos+n)),Zz .i64 0],[]))))))):Option (AV×Blocks))) (by kernel_rfl) ?_
  have hb:=of_decide_eq_true hpre
  unfold Wp
  by_cases h1:pos<0
  ·have e:Xj b pos n=104:=by unfold Xj;rw [if_pos (by omega)]
   rw [sel_pos (by simpa using h1),e]
   rfl
  rw [sel_neg (by simpa using h1)]
  by_cases h2:(b.length:Int)<pos
  ·have e:Xj b pos n=104:=by unfold Xj;rw [if_pos (by omega)]
   rw [sel_pos (by simpa using h2),e]
   rfl
  rw [sel_neg (by simpa using h2)]
  by_cases h3:n<0
  ·have e:Xj b pos n=104:=by unfold Xj;rw [if_pos (by omega)]
   rw [sel_pos (by simpa using h3),e]
   rfl
  rw [sel_neg (by simpa using h3),wrap_i64 (n:=(b.length:Int)-pos) (by omega) (by omega)]
  by_cases h4:(b.length:Int)-pos<n
  ·have e:Xj b pos n=101:=by unfold Xj;rw [if_neg (by omega),if_pos h4]
   rw [sel_pos (by simpa using h4),e]
   rfl
  have hr:Xj b pos n=0:=Kerb.room_zero.2 (by omega)
  have e:Vx (Zu pos) (Vy (Zu (pos+n)) b)=Kerb.cut b pos n:=by
   rw [show Zu (pos+n)=pos.toNat+n.toNat by omega,List.drop_take,show pos.toNat+n.toNat-pos.toNat=n.toNat by omega]
   rfl
  have hc:=Kerb.cut_length hr
  rw [sel_neg (by simpa using h4),if_pos hr,wrap_i64 (by omega) (by omega),e,chk_of (by simp;omega),chk_of (Yw (by omega))]
 ·cases h
theorem w140:Walked Tryz.prog G 140 1 sp140:=by
 refine ⟨Tryz.f140,Tryz.func140,by decide +kernel,rfl,fun xs bl r h=> ?_⟩
 unfold sp140 at h
 split at h
 ·rename_i s bad
  obtain ⟨hpre,h2⟩:=chk_inv h;cases h2
  refine Eq.trans (b:=(Zj (loopM (fun (st:List AV)=>cStr st fun b r=>cStr r fun b_1 r=>cBool r fun b_2 r=>cInt .i64 r fun n r=>let t0:Int:=(↑(Ym (Yz b (Zu n) (0:UInt8))):Int);let t1:Option (List AV ⊕ Ex×List AV):=some (Yf (Ex.ret,[Zq b,Zq b_1,Zw false,Zz .i64 n]));onNil r (sel (decide (n<(↑(Zx b):Int))) (chk (decide (0≤n)&&decide (n<(↑(Zx b):Int))) (sel (decide (t0<(↑(Ym (33:UInt8)):Int))) t1 (chk (decide (0≤n)&&decide (n<(↑(Zx b):Int))) (sel (decide (t0>(↑(Ym (126:UInt8)):Int))) t1 (Zj (loopM (fun (st:List AV)=>cStr st fun b r=>cStr r fun b_3 r=>cBool r fun b_4 r=>cInt .i64 r fun n r=>cInt .i64 r fun n_1 r=>onNil r (sel (decide (n_1<(↑(Zx b_3):Int))) (chk (decide (0≤n)&&decide (n<(↑(Zx b):Int))) (chk (decide (0≤n_1)&&decide (n_1<(↑(Zx b_3):Int))) (sel (Yz b (Zu n) (0:UInt8)==Yz b_3 (Zu n_1) (0:UInt8)) (some (Yf (Ex.ret,[Zq b,Zq b_3,Zw false,Zz .i64 n,Zz .i64 n_1]))) (some (Xu [Zq b,Zq b_3,Zw b_4,Zz .i64 n,Zz .i64 (Zy .i64 (n_1+1))]))))) (some (Yf (Yn 2,[Zq b,Zq b_3,Zw b_4,Zz .i64 n,Zz .i64 n_1]))))) [Zq b,Zq b_1,Zw b_2,Zz .i64 n,Zz .i64 0]) fun (r:Ex×List AV)=>cStr (Zf r) fun b r_1=>cStr r_1 fun b_3 r_2=>cBool r_2 fun b_4 r_3=>cInt .i64 r_3 fun n r_4=>cInt .i64 r_4 fun n_1 r_5=>onNil r_5 (exK r.1 (some (Yf (Ex.ret,[Zq b,Zq b_3,Zw b_4,Zz .i64 n]))) fun (j:Nat)=>sel (Xn j 2) (some (Xu [Zq b,Zq b_3,Zw b_4,Zz .i64 (Zy .i64 (n+1))])) none)))))) (some (Yf (Yn 0,[Zq b,Zq b_1,Zw b_2,Zz .i64 n]))))) [Zq s,Zq bad,Zw false,Zz .i64 0]) fun (r:Ex×List AV)=>cStr (Zf r) fun b r_1=>cStr r_1 fun b_1 r_2=>cBool r_2 fun b_2 r_3=>cInt .i64 r_3 fun n r_4=>onNil r_4 (exK r.1 (some (Zw b_2,[])) fun (j:Nat)=>sel (Xn j 0) (some (Zw (decide ((↑(Zx b):Int)≤39)),[])) none):Option (AV×Blocks))) (by kernel_rfl) ?_
  try dsimp only [cStr,cBs,cBool,cU8,cInt,cSl,l63]
  simp only [Zd,decide_eq_true_eq] at hpre
  refine loop_rounds (fun i:Nat=>[Zq s,Zq bad,Zw false,Zz Zv (i:Int)]) (fun i=>i≤s.length∧Xp s bad=Xp (s.drop i) bad) (fun i=>s.length-i)
   (fun r=>∃ i:Nat,r.2=[Zq s,Zq bad,Zw false,Zz Zv (i:Int)]∧((r.1 = .ret∧Xp s bad=false)∨(r.1 = .exit 0∧Xp s bad=true))) 0 ⟨Xx _,rfl⟩ rfl ?_ ?_
  ·rintro i ⟨hi,hp⟩
   simp only [A0]
   by_cases hlt:i<s.length
   ·have hc:(decide ((0:Int)≤(i:Int))&&decide ((i:Int)<(s.length:Int)))=true:=by simp;omega
    have hd:=Kerb.drop_all_cons hlt
    rw [sel_pos (by simp;omega),chk_of hc,Zm]
    have hpr:Xp (s.drop i) bad=(Kerb.okB bad (s.getD i 0)&&Xp (s.drop (i+1)) bad):=by rw [hd];rfl
    generalize hcc:s.getD i 0=c at *
    by_cases h1:c.toNat<33
    ·rw [sel_pos (by simp;omega)]
     exact ⟨_,rfl,i,rfl,.inl ⟨rfl,by rw [hp,hpr];simp [Kerb.okB,h1]⟩⟩
    rw [sel_neg (by simp;omega),chk_of hc]
    by_cases h2:126<c.toNat
    ·rw [sel_pos (by simp;omega)]
     exact ⟨_,rfl,i,rfl,.inl ⟨rfl,by rw [hp,hpr];simp [Kerb.okB,h2]⟩⟩
    rw [sel_neg (by simp;omega)]
    refine loop_ex (fun j:Nat=>[Zq s,Zq bad,Zw false,Zz Zv (i:Int),Zz Zv (j:Int)]) (fun j=>j≤bad.length∧(c∈bad↔c∈bad.drop j)) (fun j=>bad.length-j)
     (fun r=>∃ j:Nat,r.2=[Zq s,Zq bad,Zw false,Zz Zv (i:Int),Zz Zv (j:Int)]∧((r.1 = .ret∧c∈bad)∨(r.1 = .exit 2∧c ∉ bad))) 0 ⟨Xx _,by simp⟩ rfl ?_ ?_
    ·rintro j ⟨hj,hm⟩
     simp only [A0]
     by_cases hjl:j<bad.length
     ·have hdj:=Kerb.drop_all_cons hjl
      rw [sel_pos (by simp;omega),chk_of hc,chk_of (by simp;omega),Zm,Zm,hcc]
      rw [hdj,List.mem_cons] at hm
      by_cases h3:c=bad.getD j 0
      ·rw [sel_pos (by simpa using h3)]
       exact ⟨_,rfl,j,rfl,.inl ⟨rfl,hm.2 (.inl h3)⟩⟩
      ·rw [sel_neg (by simpa using h3),wrap_i64 (by omega) (by omega)]
       exact ⟨_,rfl,j+1,rfl,⟨by omega,hm.trans ⟨fun h=>h.resolve_left h3,.inr⟩⟩,by dsimp only;omega⟩
     ·rw [sel_neg (by simp;omega)]
      refine ⟨_,rfl,j,rfl,.inr ⟨rfl,?_⟩⟩
      rw [hm,Yx (by omega)];simp
    ·rintro ⟨e,l⟩ ⟨j,rfl,⟨rfl,h3⟩ | ⟨rfl,h3⟩⟩
     ·simp only [A0]
      exact ⟨_,rfl,i,rfl,.inl ⟨rfl,by rw [hp,hpr];simp [Kerb.okB,h3]⟩⟩
     ·simp only [A0]
      rw [sel_pos (Yu _),wrap_i64 (by omega) (by omega)]
      exact ⟨_,rfl,i+1,rfl,⟨by omega,by rw [hp,hpr];simp [Kerb.okB,h1,h2,h3]⟩,by dsimp only;omega⟩
   ·rw [sel_neg (by simp;omega)]
    exact ⟨_,rfl,i,rfl,.inr ⟨rfl,by rw [hp,Yx (by omega)];rfl⟩⟩
  ·rintro ⟨e,l⟩ ⟨i,rfl,⟨rfl,hp⟩ | ⟨rfl,hp⟩⟩
   ·simp only [A0,hp]
    rfl
   ·simp only [A0,hp]
    rw [sel_pos (Yu _),decide_eq_decide.2 (show ((s.length:Int)≤39)↔s.length≤39 from by omega)]
    rfl
 ·cases h
theorem w141:Walked Tryz.prog G 141 1 sp141:=by
 refine ⟨Tryz.f141,Tryz.func141,by decide +kernel,rfl,fun xs bl r h=> ?_⟩
 unfold sp141 at h
 split at h
 ·rename_i b n k little
  obtain ⟨hpre,h2⟩:=chk_inv h;cases h2
  refine Eq.trans (b:=(chk (room (Zx b) 1) (Zj (loopM (fun (st:List AV)=>cInt .i64 st fun n r=>cInt .i64 r fun n_1 r=>cBool r fun b r=>onCons r fun x r=>Xw x fun b_1=>cInt .i64 r fun n_2 r=>let t1:Int:=Zy .u64 (Zy .i64 (8*Zy .i64 (Zy .i64 (n_1-1)-n_2)));let t2:List UInt8:=[Yg (Zu (Zy .u8 (Vq (Zy .u64 n) (2 ^ min (Zu (Zy .u64 (Zy .i64 (8*n_2)))) (Zk .u64)))))];let t0:List UInt8:=[Yg (Zu (Zy .u8 (Vq (Zy .u64 n) (2 ^ min (Zu t1) (Zk .u64)))))];onNil r (sel (decide (n_2<n_1)) (sel b (chk (decide (0≤Zy .u64 (Zy .i64 (8*n_2)))) (chk (room (Zx b_1+Zx t2) 1) (some (Xu [Zz .i64 n,Zz .i64 n_1,Zw b,Zh (b_1++t2),Zz .i64 (Zy .i64 (n_2+1))])))) (chk (decide (0≤t1)) (chk (room (Zx b_1+Zx t0) 1) (some (Xu [Zz .i64 n,Zz .i64 n_1,Zw b,Zh (b_1++t0),Zz .i64 (Zy .i64 (n_2+1))]))))) (some (Yf (Yn 0,[Zz .i64 n,Zz .i64 n_1,Zw b,Zh b_1,Zz .i64 n_2]))))) [Zz .i64 n,Zz .i64 k,Zw little,Zh b,Zz .i64 0]) fun (r:Ex×List AV)=>cInt .i64 (Zf r) fun n r_1=>cInt .i64 r_1 fun n r_2=>cBool r_2 fun b r_3=>onCons r_3 fun x r_4=>Xw x fun b=>cInt .i64 r_4 fun n r_5=>onNil r_5 (exK r.1 none fun (j:Nat)=>sel (Xn j 0) (some (Zh b,[])) none)):Option (AV×Blocks))) (by kernel_rfl) ?_
  try dsimp only [cStr,cBs,cBool,cU8,cInt,cSl,l63]
  simp only [Zd,decide_eq_true_eq] at hpre
  obtain ⟨hk,hb⟩:=hpre
  have hk4:k.toNat≤4∧0≤k:=by omega
  rw [chk_of (Yw (by omega))]
  refine loop_rounds (fun i:Nat=>[Zz Zv n,Zz Zv k,Zw little,Zh (b++(Xv n k.toNat little).take i),Zz Zv (i:Int)]) (fun i=>i≤k.toNat) (fun i=>k.toNat-i)
   (fun r=>r=(Yn 0,[Zz Zv n,Zz Zv k,Zw little,Zh (b++Xv n k.toNat little),Zz Zv k])) 0 (Xx _) (by simp) ?_ ?_
  ·intro i hi
   simp only [A0]
   by_cases hlt:i<k.toNat
   ·have hs:=Kerb.take_succ_getD (l:=Xv n k.toNat little) (i:=i) (by rw [Yb];omega)
    have hg:=Kerb.putN_getD n k.toNat little hlt
    have hl:((Xv n k.toNat little).take i).length=i:=by simp [Yb];omega
    rw [sel_pos (by simp;omega)]
    have hw:∀ j:Nat,j<4→Zy Yp (Zy Zv (8*(j:Int)))=((8*j:Nat):Int):=fun j hj=>by
     rw [wrap_i64 (by omega) (by omega),Kerb.wrap_u64];omega
    have hm:∀ j:Nat,j<4→min (Zu ((8*j:Nat):Int)) (Zk Yp)=8*j:=fun j hj=>by
     have:Zk Yp=64:=rfl
     rw [this];omega
    cases little
    ·have e:Zy Zv (Zy Zv (k-1)-(i:Int))=((k.toNat-1-i:Nat):Int):=by
      rw [wrap_i64 (n:=k-1) (by omega) (by omega),wrap_i64 (by omega) (by omega)];omega
     rw [sel_neg rfl,e,hw _ (by omega),hm _ (by omega),Kerb.ubyte n (by omega),chk_of (by simp;omega),chk_of (Yw (by simp [hl];omega)),wrap_i64 (by omega) (by omega)]
     refine ⟨_,rfl,i+1,?_,by omega,by dsimp only;omega⟩
     dsimp only
     rw [hs,hg,← List.append_assoc]
     rfl
    ·rw [sel_pos rfl,hw _ (by omega),hm _ (by omega),Kerb.ubyte n (by omega),chk_of (by simp;omega),chk_of (Yw (by simp [hl];omega)),wrap_i64 (by omega) (by omega)]
     refine ⟨_,rfl,i+1,?_,by omega,by dsimp only;omega⟩
     dsimp only
     rw [hs,hg,← List.append_assoc]
     rfl
   ·rw [sel_neg (by simp;omega)]
    refine ⟨_,rfl,?_⟩
    show _=_
    rw [Yj (by rw [Yb];omega),show (i:Int)=k from by omega]
  ·rintro r rfl
   simp only [A0]
   rw [sel_pos (Yu _)]
 ·cases h
theorem w143:Walked Tryz.prog G 143 1 sp143:=by
 refine ⟨Tryz.f143,Tryz.func143,by decide +kernel,rfl,fun xs bl r h=> ?_⟩
 unfold sp143 at h
 split at h
 ·rename_i k els
  obtain ⟨hpre,h2⟩:=chk_inv h;cases h2
  refine Eq.trans (b:=(Zj (loopM (fun (st:List AV)=>cInt .i64 st fun n r=>cBool r fun b r=>cSl 1 r fun b_1 r=>cInt .i64 r fun n_1 r=>cInt .i64 r fun n_2 r=>onNil r (sel (decide (n_2<n_1)) (chk (decide (0≤n_2)&&decide (n_2<(↑(Zx b_1):Int))&&true) (Wz .i64 (Yz b_1 (Zu n_2) Xz) fun n_3=>sel (n_3==n) (some (Yf (Ex.ret,[Zz .i64 n,Zw true,Zb 1 b_1,Zz .i64 n_1,Zz .i64 n_2]))) (some (Xu [Zz .i64 n,Zw b,Zb 1 b_1,Zz .i64 n_1,Zz .i64 (Zy .i64 (n_2+1))])))) (some (Yf (Yn 0,[Zz .i64 n,Zw b,Zb 1 b_1,Zz .i64 n_1,Zz .i64 n_2]))))) [Zz .i64 k,Zw false,Zb 1 els,Zz .i64 (↑(Zx els):Int),Zz .i64 0]) fun (r:Ex×List AV)=>cInt .i64 (Zf r) fun n r_1=>cBool r_1 fun b r_2=>cSl 1 r_2 fun b_1 r_3=>cInt .i64 r_3 fun n r_4=>cInt .i64 r_4 fun n r_5=>onNil r_5 (exK r.1 (some (Zw b,[])) fun (j:Nat)=>sel (Xn j 0) (some (Zw false,[])) none):Option (AV×Blocks))) (by kernel_rfl) ?_
  try dsimp only [cStr,cBs,cBool,cU8,cInt,cSl,l63]
  simp only [Zd,decide_eq_true_eq] at hpre
  obtain ⟨ha,hl⟩:=hpre
  have hil:=Kerb.ints_len ha
  refine loop_rounds (fun i:Nat=>[Zz Zv k,Zw false,Zb 1 els,Zz Zv (els.length:Int),Zz Zv (i:Int)]) (fun i=>i≤els.length∧(k∈intsIn els↔k∈(intsIn els).drop i)) (fun i=>els.length-i)
   (fun r=>∃ (i:Nat) (x:Bool),r.2=[Zz Zv k,Zw x,Zb 1 els,Zz Zv (els.length:Int),Zz Zv (i:Int)]∧((r.1 = .ret∧x=true∧k∈intsIn els)∨(r.1 = .exit 0∧k ∉ intsIn els))) 0 ⟨Xx _,by simp⟩ rfl ?_ ?_
  ·rintro i ⟨hi,hm⟩
   simp only [A0]
   by_cases hlt:i<els.length
   ·obtain ⟨n,h1,h2⟩:=Kerb.ints_get ha hlt
    rw [sel_pos (by simp;omega),chk_of (by simp;omega),Zm,h1,onInt_int]
    rw [h2,List.mem_cons] at hm
    by_cases h3:n=k
    ·rw [sel_pos (by simpa using h3)]
     exact ⟨_,rfl,i,true,rfl,.inl ⟨rfl,rfl,hm.2 (.inl h3.symm)⟩⟩
    ·rw [sel_neg (by simpa using h3),wrap_i64 (by omega) (by omega)]
     exact ⟨_,rfl,i+1,rfl,⟨by omega,hm.trans ⟨fun h=>h.resolve_left fun e=>h3 e.symm,.inr⟩⟩,by dsimp only;omega⟩
   ·rw [sel_neg (by simp;omega)]
    refine ⟨_,rfl,i,false,rfl,.inr ⟨rfl,?_⟩⟩
    rw [hm,Yx (by omega)];simp
  ·rintro ⟨e,l⟩ ⟨i,x,rfl,⟨rfl,rfl,h⟩ | ⟨rfl,h⟩⟩
   ·simp [onCons,Wz,Wy,AV.onSl,onNil,exK,h]
   ·simp [onCons,Wz,Wy,AV.onSl,onNil,exK,h,sel]
 ·cases h
theorem w156:Walked Tryz.prog G 156 1 sp156:=by
 refine ⟨Tryz.f156,Tryz.func156,by decide +kernel,rfl,fun xs bl r h=> ?_⟩
 unfold sp156 at h
 split at h
 ·rename_i n
  cases h
  refine Eq.trans (b:=(sel (decide (n≥0)) (some (Zw (decide (n≤4294967295)),[])) (some (Zw false,[])):Option (AV×Blocks))) (by kernel_rfl) ?_
  by_cases h:0≤n<;>simp [sel,Zp,h]
 ·cases h
theorem w157:Walked Tryz.prog G 157 1 sp157:=by
 refine ⟨Tryz.f157,Tryz.func157,by decide +kernel,rfl,fun xs bl r h=> ?_⟩
 unfold sp157 at h
 split at h
 ·rename_i n
  cases h
  refine Eq.trans (b:=(sel (decide (n≥0)) (some (Zw (decide (n≤255)),[])) (some (Zw false,[])):Option (AV×Blocks))) (by kernel_rfl) ?_
  by_cases h:0≤n<;>simp [sel,Zp,h]
 ·cases h
theorem w162:Walked Tryz.prog G 162 1 sp162:=by
 refine ⟨Tryz.f162,Tryz.func162,by decide +kernel,rfl,fun xs bl r h=> ?_⟩
 unfold sp162 at h
 split at h
 ·rename_i k
  cases h
  refine Eq.trans (b:=(sel (decide (k≥1)) (some (Zw (decide (k≤10)),[])) (some (Zw false,[])):Option (AV×Blocks))) (by kernel_rfl) ?_
  by_cases h:1≤k<;>simp [sel,Xq,h]
 ·cases h
theorem w164:Walked Tryz.prog G 164 1 sp164:=by
 refine ⟨Tryz.f164,Tryz.func164,by decide +kernel,rfl,fun xs bl r h=> ?_⟩
 unfold sp164 at h
 split at h
 ·rename_i c n
  cases h
  refine Eq.trans (b:=(sel (!c==1) (sel (!c==2) (some (Zz .u64 0,[])) (sel (decide (n<1)) (some (Zz .u64 0,[])) (sel (decide (n>4294967295)) (some (Zz .u64 0,[])) (some (Zz .u64 (Zy .u64 (↑(BitVec.toNat (BitVec.ofInt (Zk .u64) (Zy .u64 (Zy .u64 c*2 ^ min (Zu 56) (Zk .u64))) ||| BitVec.ofInt (Zk .u64) (Zy .u64 n))):Int)),[]))))) (sel (decide (n<1)) (some (Zz .u64 0,[])) (sel (decide (n>4294967295)) (some (Zz .u64 0,[])) (some (Zz .u64 (Zy .u64 (↑(BitVec.toNat (BitVec.ofInt (Zk .u64) (Zy .u64 (Zy .u64 c*2 ^ min (Zu 56) (Zk .u64))) ||| BitVec.ofInt (Zk .u64) (Zy .u64 n))):Int)),[])))):Option (AV×Blocks))) (by kernel_rfl) ?_
  unfold Wh Wb
  by_cases hc:c=1∨c=2
  case neg =>
   have q1:(c==(1:Int))=false:=by simp;omega
   have q2:(c==(2:Int))=false:=by simp;omega
   rw [q1,q2]
   rfl
  by_cases hn:1≤n∧n≤4294967295
  case neg =>
   have q:(decide (1≤n)&&decide (n≤4294967295))=false:=by
    rw [Bool.eq_false_iff]
    simp
    omega
   rw [q,Bool.and_false]
   have key:(sel (decide (n<(1:Int))) (some (Zz .u64 (0:Int),([]:Blocks))) (sel (decide (n>(4294967295:Int))) (some (Zz .u64 (0:Int),[])) (some (Zz Yp (Zy Yp ((BitVec.toNat (BitVec.ofInt (Zk Yp) (Zy Yp (Zy Yp c*(2:Int) ^ min (Zu (56:Int)) (Zk Yp))) ||| BitVec.ofInt (Zk Yp) (Zy Yp n)):Nat):Int)),[]))))=some (Zz .u64 0,[]):=by
    by_cases hl:n<1
    ·rw [sel_pos (by simpa using hl)]
    ·rw [sel_neg (by simpa using hl),sel_pos (by simp;omega)]
   rcases hc with rfl | rfl
   ·rw [sel_neg (by decide)];exact key
   ·rw [sel_pos (by decide),sel_neg (by decide)];exact key
  have q:(decide (1≤n)&&decide (n≤4294967295))=true:=by simp;omega
  have q2:(c==(1:Int)||c==(2:Int))=true:=by simpa using hc
  rw [q,q2,Kerb.key_make hc hn.1 hn.2]
  rcases hc with rfl | rfl
  ·rw [sel_neg (by decide),sel_neg (by simp;omega),sel_neg (by simp;omega)]
   rfl
  ·rw [sel_pos (by decide),sel_neg (by decide),sel_neg (by simp;omega),sel_neg (by simp;omega)]
   rfl
 ·cases h
theorem w168:Walked Tryz.prog G 168 1 sp168:=by
 refine ⟨Tryz.f168,Tryz.func168,by decide +kernel,rfl,fun xs bl r h=> ?_⟩
 unfold sp168 at h
 split at h
 ·rename_i b pos n
  obtain ⟨hpre,h2⟩:=chk_inv h;cases h2
  refine Eq.trans (b:=(sel (decide (pos<0)) (some (Zz .i64 104,[])) (sel (decide (pos>(↑(Zx b):Int))) (some (Zz .i64 104,[])) (sel (decide (n<0)) (some (Zz .i64 104,[])) (sel (decide (n>Zy .i64 ((↑(Zx b):Int)-pos))) (some (Zz .i64 101,[])) (some (Zz .i64 0,[]))))):Option (AV×Blocks))) (by kernel_rfl) ?_
  simp only [decide_eq_true_eq] at hpre
  unfold Xj
  by_cases h1:pos<0
  ·simp [sel,h1]
  by_cases h2:(b.length:Int)<pos
  ·simp [sel,h1,h2]
  by_cases h3:n<0
  ·simp [sel,h1,h2,h3]
  rw [sel_neg (by simp;omega),sel_neg (by simp;omega),sel_neg (by simp;omega),wrap_i64 (by omega) (by omega),if_neg (by omega)]
  by_cases h4:(b.length:Int)-pos<n
  ·rw [sel_pos (by simp;omega),if_pos h4]
  ·rw [sel_neg (by simp;omega),if_neg h4]
 ·cases h
theorem w170:Walked Tryz.prog G 170 1 sp170:=by
 refine ⟨Tryz.f170,Tryz.func170,by decide +kernel,rfl,fun xs bl r h=> ?_⟩
 unfold sp170 at h
 split at h
 ·rename_i b pos
  obtain ⟨hpre,h2⟩:=chk_inv h;cases h2
  refine Eq.trans (b:=(let t0:Option (AV×Blocks):=some (Yy [Zq [],Zz .i64 0,Zz .i64 104],[]);sel (decide (pos<0)) t0 (sel (decide (pos>(↑(Zx b):Int))) t0 (Zj (loopM (fun (st:List AV)=>cBs st fun b r=>cInt .i64 r fun n r=>cStr r fun b_1 r=>cInt .i64 r fun n_1 r=>cInt .i64 r fun n_2 r=>cInt .i64 r fun n_3 r=>onNil r (sel (decide (n_3≤39)) (sel (decide (Zy .i64 (n+n_3)≥(↑(Zx b):Int))) (some (Yf (Ex.ret,[Zn b,Zz .i64 n,Zq [],Zz .i64 0,Zz .i64 101,Zz .i64 n_3]))) (chk (decide (0≤Zy .i64 (n+n_3))&&decide (Zy .i64 (n+n_3)<(↑(Zx b):Int))) (sel (Yz b (Zu (Zy .i64 (n+n_3))) (0:UInt8)==(0:UInt8)) (chk (decide (0≤n)&&decide (n≤Zy .i64 (n+n_3))&&decide (Zy .i64 (n+n_3)≤(↑(Zx b):Int))) (some (Yf (Ex.ret,[Zn b,Zz .i64 n,Zq (Vx (Zu n) (Vy (Zu (Zy .i64 (n+n_3))) b)),Zz .i64 (Zy .i64 (Zy .i64 (n+n_3)+1)),Zz .i64 0,Zz .i64 n_3])))) (some (Xu [Zn b,Zz .i64 n,Zq b_1,Zz .i64 n_1,Zz .i64 n_2,Zz .i64 (Zy .i64 (n_3+1))]))))) (some (Yf (Yn 0,[Zn b,Zz .i64 n,Zq b_1,Zz .i64 n_1,Zz .i64 n_2,Zz .i64 n_3]))))) [Zn b,Zz .i64 pos,Zq [],Zz .i64 0,Zz .i64 0,Zz .i64 0]) fun (r:Ex×List AV)=>cBs (Zf r) fun b r_1=>cInt .i64 r_1 fun n r_2=>cStr r_2 fun b r_3=>cInt .i64 r_3 fun n r_4=>cInt .i64 r_4 fun n_1 r_5=>cInt .i64 r_5 fun n_2 r_6=>onNil r_6 (exK r.1 (some (Yy [Zq b,Zz .i64 n,Zz .i64 n_1],[])) fun (j:Nat)=>sel (Xn j 0) (some (Yy [Zq [],Zz .i64 0,Zz .i64 105],[])) none))):Option (AV×Blocks))) (by kernel_rfl) ?_
  try dsimp only [cStr,cBs,cBool,cU8,cInt,cSl,l63]
  have hb:=of_decide_eq_true hpre
  unfold Kerb.text
  by_cases h1:pos<0
  ·rw [sel_pos (by simpa using h1),if_neg (by rw [Kerb.room_zero];omega)]
  rw [sel_neg (by simpa using h1)]
  by_cases h2:(b.length:Int)<pos
  ·rw [sel_pos (by simpa using h2),if_neg (by rw [Kerb.room_zero];omega)]
  rw [sel_neg (by simpa using h2),if_pos (Kerb.room_zero.2 (by omega))]
  obtain ⟨R,hR⟩:∃ R,R=b.drop pos.toNat:=⟨_,rfl⟩
  have hRl:R.length=b.length-pos.toNat:=by rw [hR];simp
  rw [← hR]
  obtain ⟨T,hT⟩:∃ T,T=R.take 40:=⟨_,rfl⟩
  rw [← hT]
  have hix:=Kerb.indexOf_nonneg 0 T
  refine loop_rounds (fun i:Nat=>[Zn b,Zz Zv pos,Zq [],Zz Zv 0,Zz Zv 0,Zz Zv (i:Int)]) (fun i=>i≤40∧i≤R.length∧(0:UInt8) ∉ R.take i) (fun i=>40-i)
   (fun r=>∃ (i:Nat) (v:List UInt8) (nx e:Int),r.2=[Zn b,Zz Zv pos,Zq v,Zz Zv nx,Zz Zv e,Zz Zv (i:Int)] ∧
    ((r.1 = .ret∧v=[]∧nx=0∧e=101∧Vz 0 T<0∧T.length≠40)∨(r.1 = .ret∧Vz 0 T=i∧v=T.take i∧nx=pos+i+1∧e=0)∨(r.1 = .exit 0∧Vz 0 T<0∧T.length=40))) 0 ⟨by omega,by omega,by simp⟩ rfl ?_ ?_
  ·rintro i ⟨hi,hir,h0⟩
   simp only [A0]
   by_cases hlt:i≤39
   case neg =>
    have e40:i=40:=by omega
    subst e40
    rw [sel_neg (by decide)]
    refine ⟨_,rfl,40,[],0,0,rfl,.inr (.inr ⟨rfl,?_,?_⟩)⟩
    ·rw [← hT] at h0;have:=mt hix.1 h0;omega
    ·rw [hT];simp;omega
   rw [sel_pos (by simp;omega),wrap_i64 (n:=pos+(i:Int)) (by omega) (by omega)]
   by_cases hend:(b.length:Int)≤pos+i
   ·rw [sel_pos (by simpa using hend)]
    have hTR:T=R.take i:=by rw [hT,Yj (by omega),Yj (by omega)]
    refine ⟨_,rfl,i,[],0,101,rfl,.inl ⟨rfl,rfl,rfl,rfl,?_,?_⟩⟩
    ·rw [← hTR] at h0;have:=mt hix.1 h0;omega
    ·rw [hTR];simp;omega
   have hiR:i<R.length:=by omega
   have hd:=Kerb.drop_all_cons hiR
   have hbi:b.getD (pos+(i:Int)).toNat 0=R.getD i 0:=by
    rw [show (pos+(i:Int)).toNat=pos.toNat+i by omega,hR]
    simp [List.getD_eq_getElem?_getD]
   rw [sel_neg (by simpa using hend),chk_of (by simp;omega),hbi]
   by_cases hz:R.getD i 0=0
   ·rw [sel_pos (by rw [hz];rfl),chk_of (by simp;omega),wrap_i64 (by omega) (by omega)]
    have hTi:T.take i=R.take i:=by rw [hT,List.take_take,Nat.min_eq_left (by omega)]
    have hTe:T=R.take i++0::(R.drop (i+1)).take (39-i):=by
     rw [hT]
     have:R=R.take i++(0::R.drop (i+1)):=by rw [← hz,← hd,List.take_append_drop]
     have hl:(R.take i).length=i:=by simp;omega
     calc R.take 40=(R.take i++(0::R.drop (i+1))).take 40:=by rw [← this]
      _=_:=by rw [List.take_append,hl,Yj (by omega),show 40-i=(39-i)+1 by omega,List.take_succ_cons]
    have hidx:Vz 0 T=i:=by
     rw [hTe,Kerb.indexOf_append h0];simp;omega
    refine ⟨_,rfl,i,_,_,0,rfl,.inr (.inl ⟨rfl,hidx,?_,rfl,rfl⟩)⟩
    rw [hTi,hR,show (pos+(i:Int)).toNat=pos.toNat+i by omega,List.drop_take,show pos.toNat+i-pos.toNat=i by omega]
   ·rw [sel_neg (beq_eq_false_iff_ne.2 hz),wrap_i64 (by omega) (by omega)]
    refine ⟨_,rfl,i+1,rfl,⟨by omega,by omega,?_⟩,by dsimp only;omega⟩
    rw [Kerb.take_succ_getD hiR]
    simp only [List.mem_append,List.mem_singleton,not_or]
    exact ⟨h0,fun e=>hz e.symm⟩
  ·rintro ⟨e,l⟩ ⟨i,v,nx,er,rfl,⟨rfl,rfl,rfl,rfl,g1,g2⟩ | ⟨rfl,g1,rfl,rfl,rfl⟩ | ⟨rfl,g1,g2⟩⟩
   ·simp only [A0]
    rw [if_neg (by omega),if_neg g2]
   ·simp only [A0]
    rw [if_pos (by omega),g1,Zm]
   ·simp only [A0]
    rw [if_neg (by omega),if_pos g2,sel_pos (Yu _)]
 ·cases h
theorem w172:Walked Tryz.prog G 172 1 sp172:=by
 refine ⟨Tryz.f172,Tryz.func172,by decide +kernel,rfl,fun xs bl r h=> ?_⟩
 unfold sp172 at h
 split at h
 ·rename_i n m
  cases h
  refine Eq.trans (b:=(sel (decide (n≥0)) (some (Zw (decide (n≤m)),[])) (some (Zw false,[])):Option (AV×Blocks))) (by kernel_rfl) ?_
  by_cases h:0≤n<;>simp [sel,Zp,h]
 ·cases h
theorem w173:Walked Tryz.prog G 173 1 sp173:=by
 refine ⟨Tryz.f173,Tryz.func173,by decide +kernel,rfl,fun xs bl r h=> ?_⟩
 unfold sp173 at h
 split at h
 ·rename_i n m
  cases h
  refine Eq.trans (b:=(sel (decide (n≥0)) (some (Zw (decide (n≤m)),[])) (some (Zw false,[])):Option (AV×Blocks))) (by kernel_rfl) ?_
  by_cases h:0≤n<;>simp [sel,Zp,h]
 ·cases h
theorem w180:Walked Tryz.prog G 180 1 sp180:=by
 refine ⟨Tryz.f180,Tryz.func180,by decide +kernel,rfl,fun xs bl r h=> ?_⟩
 unfold sp180 at h
 split at h
 ·rename_i k
  cases h
  refine Eq.trans (b:=(sel (k==1) (some (Zw true,[])) (some (Zw (k==2),[])):Option (AV×Blocks))) (by kernel_rfl) ?_
  unfold Wh
  cases (k==(1:Int))<;>rfl
 ·cases h
theorem w181:Walked Tryz.prog G 181 1 sp181:=by
 refine ⟨Tryz.f181,Tryz.func181,by decide +kernel,rfl,fun xs bl r h=> ?_⟩
 unfold sp181 at h
 split at h
 ·rename_i k
  cases h
  refine Eq.trans (b:=(sel (decide (k≥1)) (some (Zw (decide (k≤4294967295)),[])) (some (Zw false,[])):Option (AV×Blocks))) (by kernel_rfl) ?_
  by_cases h:1≤k<;>simp [sel,Wb,h]
 ·cases h
theorem w189:Walked Tryz.prog G 189 1 sp189:=by
 refine ⟨Tryz.f189,Tryz.func189,by decide +kernel,rfl,fun xs bl r h=> ?_⟩
 unfold sp189 at h
 split at h
 ·rename_i n m
  cases h
  refine Eq.trans (b:=(sel (decide (n≥0)) (some (Zw (decide (n≤m)),[])) (some (Zw false,[])):Option (AV×Blocks))) (by kernel_rfl) ?_
  by_cases h:0≤n<;>simp [sel,Zp,h]
 ·cases h
theorem w190:Walked Tryz.prog G 190 1 sp190:=by
 refine ⟨Tryz.f190,Tryz.func190,by decide +kernel,rfl,fun xs bl r h=> ?_⟩
 unfold sp190 at h
 split at h
 ·rename_i n m
  cases h
  refine Eq.trans (b:=(sel (decide (n≥0)) (some (Zw (decide (n≤m)),[])) (some (Zw false,[])):Option (AV×Blocks))) (by kernel_rfl) ?_
  by_cases h:0≤n<;>simp [sel,Zp,h]
 ·cases h
theorem w16:Walked Tryz.prog G 16 2 sp16:=by
 refine ⟨Tryz.f16,Tryz.func16,by decide +kernel,rfl,fun xs bl r h=> ?_⟩
 unfold sp16 at h
 split at h
 ·rename_i m1 m2 m3 kls sz fl mls sk n1 n2 n3 jls sy fm nls sl
  obtain ⟨hpre,h2⟩:=chk_inv h;cases h2
  refine Eq.trans (b:=(sel (m1==n1&&(m2==n2&&m3==n3)) (sel (sk==sl) (Zj (chk (List.all kls Kerb.isSKey&&decide (Zx kls≤1000000)&&List.all jls Kerb.isSKey) (some (Zw (Wf (List.map Kerb.toSKey kls) (List.map Kerb.toSKey jls)),[]))) fun (r:AV×Blocks)=>onNilB (Zf r) (Wy (Yv r) fun b=>sel b (Zj (chk (List.all mls Kerb.isMark&&decide (Zx mls≤1000000)&&List.all nls Kerb.isMark) (some (Zw (Kerb.RCache.same (Kerb.RCache.mk sz fl (List.map Kerb.toMark mls)) (Kerb.RCache.mk sy fm (List.map Kerb.toMark nls))),[]))) fun (r:AV×Blocks)=>onNilB (Zf r) (Wy (Yv r) fun b=>some (Zw b,[]))) (some (Zw false,[])))) (some (Zw false,[]))) (some (Zw false,[])):Option (AV×Blocks))) (by kernel_rfl) ?_
  simp only [Zd,decide_eq_true_eq] at hpre
  obtain ⟨⟨⟨⟨⟨ka,kl⟩,ma⟩,ml⟩,ja⟩,na⟩:=hpre
  simp only [ka,kl,ma,ml,ja,na,decide_true,Wk,↓A0,A0]
  unfold Kerb.Server.same
  dsimp only
  have g0:(m1==n1&&(m2==n2&&m3==n3))=Vv ⟨m1,m2,m3⟩ ⟨n1,n2,n3⟩:=rfl
  rw [g0]
  cases Vv ⟨m1,m2,m3⟩ ⟨n1,n2,n3⟩
  ·rfl
  cases (sk==sl)
  ·rfl
  cases Wf (kls.map Kerb.toSKey) (jls.map Kerb.toSKey)<;>rfl
 ·cases h
theorem w39:Walked Tryz.prog G 39 2 sp39:=by
 refine ⟨Tryz.f39,Tryz.func39,by decide +kernel,rfl,fun xs bl r h=> ?_⟩
 unfold sp39 at h
 split at h
 ·rename_i m1 m2 m3 kls sz fl mls sk
  obtain ⟨hpre,h2⟩:=chk_inv h;cases h2
  refine Eq.trans (b:=(Zj (chk (decide (Zx kls≤1000000)) (some (AV.ownL kls,[]))) fun (r:AV×Blocks)=>onNilB (Zf r) (AV.onOwnL (Yv r) fun l=>Zj (chk (decide (Zx mls≤1000000)) (some (AV.ownL mls,[]))) fun (r:AV×Blocks)=>onNilB (Zf r) (AV.onOwnL (Yv r) fun l_1=>some (AV.agg [Zq m1,Zq m2,Zq m3,Zb 5 l,Zz .i64 sz,Zz .i64 fl,Zb 5 l_1,Zz .i64 sk],[]))):Option (AV×Blocks))) (by kernel_rfl) ?_
  simp only [Zd,decide_eq_true_eq] at hpre
  simp only [hpre,decide_true,↓A0,A0]
 ·cases h
theorem w52:Walked Tryz.prog G 52 2 sp52:=by
 refine ⟨Tryz.f52,Tryz.func52,by decide +kernel,rfl,fun xs bl r h=> ?_⟩
 unfold sp52 at h
 split at h
 ·rename_i a b s
  cases h
  refine Eq.trans (b:=(sel (!Zp a 4294967295) (some (Zw false,[])) (sel (!Zp b 4294967295) (some (Zw false,[])) (sel (decide (s<0)) (some (Zw false,[])) (sel (decide (s>4294967295)) (some (Zw false,[])) (sel (decide (Zy .i64 (a-b)≤s)) (some (Zw (decide (Zy .i64 (b-a)≤s)),[])) (some (Zw false,[])))))):Option (AV×Blocks))) (by kernel_rfl) ?_
  unfold Kerb.near
  cases h1:Zp a 4294967295
  ·rfl
  cases h2:Zp b 4294967295
  ·rfl
  have a1:=Kerb.within_iff.1 h1
  have a2:=Kerb.within_iff.1 h2
  simp only [Yd,sel_false,Wk,Wm]
  rw [wrap_i64 (n:=a-b) (by omega) (by omega),wrap_i64 (n:=b-a) (by omega) (by omega)]
  by_cases h3:s<0
  ·rw [sel_pos (by simpa using h3)]
   have e:Zp s 4294967295=false:=by simp [Zp];omega
   rw [e];rfl
  by_cases h4:s>4294967295
  ·rw [sel_neg (by simpa using h3),sel_pos (by simpa using h4)]
   have e:Zp s 4294967295=false:=by simp [Zp];omega
   rw [e];rfl
  rw [sel_neg (by simpa using h3),sel_neg (by simpa using h4),Kerb.within_iff.2 (by omega)]
  cases decide (a-b≤s)<;>rfl
 ·cases h
theorem w61:Walked Tryz.prog G 61 2 sp61:=by
 refine ⟨Tryz.f61,Tryz.func61,by decide +kernel,rfl,fun xs bl r h=> ?_⟩
 unfold sp61 at h
 split at h
 ·rename_i n
  obtain ⟨hpre,h2⟩:=chk_inv h;cases h2
  refine Eq.trans (b:=(chk (decide (0≤Zg n 3)&&decide (Zg n 3<(↑(Zx [Zq [(65:UInt8),(84:UInt8),(72:UInt8)],Zq [(66:UInt8),(79:UInt8),(83:UInt8)],Zq [(67:UInt8),(65:UInt8),(77:UInt8)]]):Int))&&true) (Ww (Yz [Zq [(65:UInt8),(84:UInt8),(72:UInt8)],Zq [(66:UInt8),(79:UInt8),(83:UInt8)],Zq [(67:UInt8),(65:UInt8),(77:UInt8)]] (Zu (Zg n 3)) Xz) fun b=>some (Zq b,[])):Option (AV×Blocks))) (by kernel_rfl) ?_
  have hn:0≤n:=by first | exact of_decide_eq_true hpre | (simp only [Zd,decide_eq_true_eq] at hpre;exact hpre.1)
  have ht:Zg n 3=n % 3:=Xd hn
  have hcase:n % 3=0∨n % 3=1∨n % 3=2:=by omega
  rcases hcase with e | e | e<;>simp [ht,e,chk,Ww,Kerb.realm]
 ·cases h
theorem w68:Walked Tryz.prog G 68 2 sp68:=by
 refine ⟨Tryz.f68,Tryz.func68,by decide +kernel,rfl,fun xs bl r h=> ?_⟩
 unfold sp68 at h
 split at h
 ·rename_i n B at_ li bad
  obtain ⟨hpre,h2⟩:=chk_inv h;cases h2
  show runFnH (G.env 68 2) G.rts (G.own 68) Tryz.f68 _ _ [0]=_
  refine Eq.trans (b:=(Zj (chk (decide (Zx B≤140737488355328)) (some (Yy [Zn (Kerb.GotB.val (Wp B at_ n)),Zz .i64 (Kerb.GotB.next (Wp B at_ n)),Zz .i64 (Kerb.GotB.err (Wp B at_ n))],[]))) fun (r:AV×Blocks)=>onNilB (Zf r) (AV.onTup (Yv r) fun vs=>onCons vs fun x r=>AV.onBs x fun b=>onCons r fun x r=>Wz .i64 x fun n=>onCons r fun x r=>Wz .i64 x fun n_1=>onNil r (some (Zn b,[[Zn B,Zz .i64 (bif bad || !n_1==0 then at_ else n),Zw li,Zw (bad || !n_1==0)]]))):Option (AV×Blocks))) (by kernel_rfl) ?_
  simp only [A0]
  rw [chk_of hpre]
 ·cases h
theorem w81:Walked Tryz.prog G 81 2 sp81:=by
 refine ⟨Tryz.f81,Tryz.func81,by decide +kernel,rfl,fun xs bl r h=> ?_⟩
 unfold sp81 at h
 split at h
 ·rename_i s
  obtain ⟨hpre,h2⟩:=chk_inv h;cases h2
  refine Eq.trans (b:=(sel (decide ((↑(Zx s):Int)>0)) (Zj (chk (decide (Zx s≤9223372036854775807)&&true) (some (Zw (Xp s [(64:UInt8)]&&decide (Zx s≤39)),[]))) fun (r:AV×Blocks)=>onNilB (Zf r) (Wy (Yv r) fun b=>some (Zw b,[]))) (some (Zw false,[])):Option (AV×Blocks))) (by kernel_rfl) ?_
  simp only [A0]
  rw [chk_of (by rw [hpre];rfl)]
  simp only [Kerb.validRealm]
  cases s with
  | nil=>rfl
  | cons x r =>
   rw [sel_pos (by first | (simp;done) | (simp;omega)),Bool.and_comm]
   rfl
 ·cases h
theorem w83:Walked Tryz.prog G 83 2 sp83:=by
 refine ⟨Tryz.f83,Tryz.func83,by decide +kernel,rfl,fun xs bl r h=> ?_⟩
 unfold sp83 at h
 split at h
 ·rename_i b n
  obtain ⟨hpre,h2⟩:=chk_inv h;cases h2
  refine Eq.trans (b:=(Zj (chk (decide (Zx b≤70368744177664)) (some (Zh (b++Xv n (Zu 1) false),[]))) fun (r:AV×Blocks)=>onNilB (Zf r) (Xw (Yv r) fun l=>some (Zh l,[])):Option (AV×Blocks))) (by kernel_rfl) ?_
  simp only [decide_eq_true_eq] at hpre
  simp only [A0]
  rw [chk_of (by simp;omega)]
  rfl
 ·cases h
theorem w100:Walked Tryz.prog G 100 2 sp100:=by
 refine ⟨Tryz.f100,Tryz.func100,by decide +kernel,rfl,fun xs bl r h=> ?_⟩
 unfold sp100 at h
 split at h
 ·rename_i a b s
  cases h
  refine Eq.trans (b:=(sel (!Zp a 4294967295) (some (Zw false,[])) (sel (!Zp b 4294967295) (some (Zw false,[])) (sel (!Zp s 4294967295) (some (Zw false,[])) (sel (decide (Zy .i64 (a-b)≤s)) (some (Zw (decide (Zy .i64 (b-a)≤s)),[])) (some (Zw false,[]))))):Option (AV×Blocks))) (by kernel_rfl) ?_
  unfold Kerb.near
  cases h1:Zp a 4294967295
  ·rfl
  cases h2:Zp b 4294967295
  ·rfl
  have a1:=Kerb.within_iff.1 h1
  have a2:=Kerb.within_iff.1 h2
  simp only [Yd,sel_false,Wk,Wm]
  rw [wrap_i64 (n:=a-b) (by omega) (by omega),wrap_i64 (n:=b-a) (by omega) (by omega)]
  cases h3:Zp s 4294967295
  ·rfl
  cases decide (a-b≤s)<;>rfl
 ·cases h
theorem w103:Walked Tryz.prog G 103 2 sp103:=by
 refine ⟨Tryz.f103,Tryz.func103,by decide +kernel,rfl,fun xs bl r h=> ?_⟩
 unfold sp103 at h
 split at h
 ·rename_i sz fl mls a1 a2 a3 at_ atk
  obtain ⟨hpre,h2⟩:=chk_inv h;cases h2
  refine Eq.trans (b:=(Zj (chk (List.all mls Kerb.isMark&&decide (Zx mls≤1000000)) (some (Zw (Wx (List.map Kerb.toMark mls) (Kerb.Mark.mk (Kerb.Prin.mk a1 a2 a3) at_ atk)),[]))) fun (r:AV×Blocks)=>onNilB (Zf r) (Wy (Yv r) fun b=>some (Zw b,[])):Option (AV×Blocks))) (by kernel_rfl) ?_
  simp only [hpre,↓A0,A0]
 ·cases h
theorem w107:Walked Tryz.prog G 107 2 sp107:=by
 refine ⟨Tryz.f107,Tryz.func107,by decide +kernel,rfl,fun xs bl r h=> ?_⟩
 unfold sp107 at h
 split at h
 ·rename_i i l
  cases h
  refine Eq.trans (b:=(sel (!Zp i 4294967295) (some (Zz .i64 0,[])) (sel (decide (l<0)) (some (Zz .i64 0,[])) (sel (decide (l>255)) (some (Zz .i64 0,[])) (some (Zz .i64 (Zy .i64 (i+Zy .i64 (300*Zy .i64 (l+1)))),[])))):Option (AV×Blocks))) (by kernel_rfl) ?_
  unfold Vw
  cases h1:Zp i 4294967295
  ·rfl
  have a1:=Kerb.within_iff.1 h1
  by_cases h2:0≤l∧l≤255
  ·have e:Zp l 255=true:=Kerb.within_iff.2 h2
   rw [e]
   simp only [Yd,sel_false,Wk,if_true]
   rw [sel_neg (by simp;omega),sel_neg (by simp;omega),wrap_i64 (n:=l+1) (by omega) (by omega),wrap_i64 (n:=300*(l+1)) (by omega) (by omega),wrap_i64 (by omega) (by omega)]
  ·have e:Zp l 255=false:=by simp [Zp];omega
   rw [e]
   by_cases h3:l<0
   ·rw [Yd,sel_false,sel_pos (by simpa using h3)];rfl
   ·rw [Yd,sel_false,sel_neg (by simpa using h3),sel_pos (by simp;omega)];rfl
 ·cases h
theorem w116:Walked Tryz.prog G 116 2 sp116:=by
 refine ⟨Tryz.f116,Tryz.func116,by decide +kernel,rfl,fun xs bl r h=> ?_⟩
 unfold sp116 at h
 split at h
 ·rename_i k little
  cases h
  refine Eq.trans (b:=(sel (!Xq k) (some (Zn [],[])) (sel little (some (Zn [(4:UInt8),Yg (Zu (Zy .u8 (Zy .i64 (Zy .i64 (2*k)+1))))],[])) (some (Zn [(4:UInt8),Yg (Zu (Zy .u8 (Zy .i64 (2*k))))],[]))):Option (AV×Blocks))) (by kernel_rfl) ?_
  by_cases h:1≤k∧k≤10
  ·have hk:k=1∨k=2∨k=3∨k=4∨k=5∨k=6∨k=7∨k=8∨k=9∨k=10:=by omega
   rcases hk with rfl | rfl | rfl | rfl | rfl | rfl | rfl | rfl | rfl | rfl<;>cases little<;>rfl
  ·have hk:Xq k=false:=by simp [Xq];omega
   by_cases h1:k<1
   ·simp [sel,Xg,hk,h1]
   ·have h2:10<k:=by omega
    simp [sel,Xg,hk,h1,h2]
 ·cases h
theorem w118:Walked Tryz.prog G 118 2 sp118:=by
 refine ⟨Tryz.f118,Tryz.func118,by decide +kernel,rfl,fun xs bl r h=> ?_⟩
 unfold sp118 at h
 split at h
 ·rename_i els
  obtain ⟨hpre,h2⟩:=chk_inv h;cases h2
  refine Eq.trans (b:=(Zj (loopM (fun (st:List AV)=>cSl 1 st fun b r=>cInt .i64 r fun n r=>cSl 1 r fun b_1 r=>cInt .i64 r fun n_1 r=>cInt .i64 r fun n_2 r=>onNil r (sel (decide (n_2<n_1)) (chk (decide (0≤n_2)&&decide (n_2<(↑(Zx b_1):Int))&&true) (AV.onBs (Yz b_1 (Zu n_2) Xz) fun b_2=>sel (decide (Zy .i64 (n+(↑(Zx b_2):Int))<0)) none (some (Xu [Zb 1 b,Zz .i64 (Zy .i64 (n+(↑(Zx b_2):Int))),Zb 1 b_1,Zz .i64 n_1,Zz .i64 (Zy .i64 (n_2+1))])))) (some (Yf (Yn 0,[Zb 1 b,Zz .i64 n,Zb 1 b_1,Zz .i64 n_1,Zz .i64 n_2]))))) [Zb 1 els,Zz .i64 0,Zb 1 els,Zz .i64 (↑(Zx els):Int),Zz .i64 0]) fun (r:Ex×List AV)=>cSl 1 (Zf r) fun b r_1=>cInt .i64 r_1 fun n r_2=>cSl 1 r_2 fun b_1 r_3=>cInt .i64 r_3 fun n_1 r_4=>cInt .i64 r_4 fun n_2 r_5=>onNil r_5 (exK r.1 none fun (j:Nat)=>sel (Xn j 0) (Zj (chk (decide (0≤n)&&decide (n≤140737488355328)) (some (Zh [],[]))) (kO fun l=>Zj (loopM (fun (st:List AV)=>onCons st fun x r=>Xw x fun b=>cSl 1 r fun b_2 r=>cInt .i64 r fun n r=>cInt .i64 r fun n_3 r=>onNil r (sel (decide (n_3<n)) (chk (decide (0≤n_3)&&decide (n_3<(↑(Zx b_2):Int))&&true) (AV.onBs (Yz b_2 (Zu n_3) Xz) fun b_3=>chk (room (Zx b+Zx b_3) 1) (some (Xu [Zh (b++b_3),Zb 1 b_2,Zz .i64 n,Zz .i64 (Zy .i64 (n_3+1))])))) (some (Yf (Yn 2,[Zh b,Zb 1 b_2,Zz .i64 n,Zz .i64 n_3]))))) [Zh l,Zb 1 b,Zz .i64 (↑(Zx b):Int),Zz .i64 0]) fun (r:Ex×List AV)=>onCons (Zf r) fun x r_6=>Xw x fun b=>cSl 1 r_6 fun b_2 r_7=>cInt .i64 r_7 fun n r_8=>cInt .i64 r_8 fun n r_9=>onNil r_9 (exK r.1 none fun (j:Nat)=>sel (Xn j 2) (some (Zh b,[])) none))) none):Option (AV×Blocks))) (by kernel_rfl) ?_
  delta kO
  try dsimp only [cStr,cBs,cBool,cU8,cInt,cSl,l63]
  simp only [Zd,decide_eq_true_eq] at hpre
  obtain ⟨⟨ha,hl⟩,hbig⟩:=hpre
  refine loop_rounds (fun i:Nat=>[Zb 1 els,Zz Zv ((catB (els.take i)).length:Int),Zb 1 els,Zz Zv (els.length:Int),Zz Zv (i:Int)]) (fun i=>i≤els.length) (fun i=>els.length-i)
   (fun r=>r=(Yn 0,[Zb 1 els,Zz Zv ((catB els).length:Int),Zb 1 els,Zz Zv (els.length:Int),Zz Zv (els.length:Int)])) 0 (Xx _) rfl ?_ ?_
  ·intro i hi
   simp only [A0]
   by_cases hlt:i<els.length
   ·obtain ⟨l,h1,h2,h3⟩:=Kerb.cat_step ha hlt
    rw [sel_pos (by simp;omega),chk_of (by simp;omega),Zm,h1,onBs_bs,wrap_i64 (n:=((catB (els.take i)).length:Int)+(l.length:Int)) (by omega) (by omega),sel_neg (by simp;omega),wrap_i64 (by omega) (by omega)]
    refine ⟨_,rfl,i+1,?_,by omega,by dsimp only;omega⟩
    dsimp only
    rw [h2,List.length_append,Int.natCast_add]
    rfl
   ·rw [sel_neg (by simp;omega)]
    refine ⟨_,rfl,?_⟩
    show _=_
    rw [Yj (by omega),show i=els.length from by omega]
  rintro r rfl
  simp only [A0]
  rw [sel_pos (Yu _),chk_of (by simp;omega)]
  refine loop_rounds (fun i:Nat=>[Zh (catB (els.take i)),Zb 1 els,Zz Zv (els.length:Int),Zz Zv (i:Int)]) (fun i=>i≤els.length) (fun i=>els.length-i)
   (fun r=>r=(Yn 2,[Zh (catB els),Zb 1 els,Zz Zv (els.length:Int),Zz Zv (els.length:Int)])) 0 (Xx _) rfl ?_ ?_
  ·intro i hi
   simp only [A0]
   by_cases hlt:i<els.length
   ·obtain ⟨l,h1,h2,h3⟩:=Kerb.cat_step ha hlt
    rw [sel_pos (by simp;omega),chk_of (by simp;omega),Zm,h1,onBs_bs,chk_of (Yw (by omega)),wrap_i64 (by omega) (by omega)]
    refine ⟨_,rfl,i+1,?_,by omega,by dsimp only;omega⟩
    dsimp only
    rw [h2]
    rfl
   ·rw [sel_neg (by simp;omega)]
    refine ⟨_,rfl,?_⟩
    show _=_
    rw [Yj (by omega),show i=els.length from by omega]
  rintro r rfl
  simp only [A0]
  rw [sel_pos (Yu _)]
 ·cases h
theorem w119:Walked Tryz.prog G 119 2 sp119:=by
 refine ⟨Tryz.f119,Tryz.func119,by decide +kernel,rfl,fun xs bl r h=> ?_⟩
 unfold sp119 at h
 split at h
 ·rename_i b n little
  obtain ⟨hpre,h2⟩:=chk_inv h;cases h2
  refine Eq.trans (b:=(Zj (chk (decide (Zx b≤70368744177664)) (some (Zh (b++Xv n (Zu 4) little),[]))) fun (r:AV×Blocks)=>onNilB (Zf r) (Xw (Yv r) fun l=>some (Zh l,[])):Option (AV×Blocks))) (by kernel_rfl) ?_
  simp only [decide_eq_true_eq] at hpre
  simp only [A0]
  rw [chk_of (by simp;omega)]
  rfl
 ·cases h
theorem w122:Walked Tryz.prog G 122 2 sp122:=by
 refine ⟨Tryz.f122,Tryz.func122,by decide +kernel,rfl,fun xs bl r h=> ?_⟩
 unfold sp122 at h
 split at h
 ·rename_i k
  obtain ⟨hpre,h2⟩:=chk_inv h;cases h2
  refine Eq.trans (b:=(sel (!k==0) (some (Zw ((bif Wh (Zy .i64 (Vq k (2 ^ min (Zu 56) (Zk .u64))))&&Wb (Zy .i64 (Zy .u64 (↑(BitVec.toNat (BitVec.ofInt (Zk .u64) k &&& BitVec.ofInt (Zk .u64) 72057594037927935)):Int))) then Zy .i64 (Vq k (2 ^ min (Zu 56) (Zk .u64)))*72057594037927936+Zy .i64 (Zy .u64 (↑(BitVec.toNat (BitVec.ofInt (Zk .u64) k &&& BitVec.ofInt (Zk .u64) 72057594037927935)):Int)) else 0)==k),[])) (some (Zw false,[])):Option (AV×Blocks))) (by kernel_rfl) ?_
  simp only [Zd,decide_eq_true_eq] at hpre
  obtain ⟨h0,h1⟩:=hpre
  rw [Kerb.key_hi h0 h1,Kerb.key_lo h0 h1,Kerb.key_sum]
  by_cases hk:k=0
  ·subst hk;rfl
  rw [sel_pos (by simpa using hk)]
  unfold Xm
  cases Wh (Kerb.keyClass k)&&Wb (Kerb.keySerial k)
  ·have q:((0:Int)==k)=false:=by simp;omega
   simp only [cond_false,q]
  ·simp only [cond_true,BEq.rfl]
 ·cases h
theorem w124:Walked Tryz.prog G 124 2 sp124:=by
 refine ⟨Tryz.f124,Tryz.func124,by decide +kernel,rfl,fun xs bl r h=> ?_⟩
 unfold sp124 at h
 split at h
 ·rename_i b n little
  obtain ⟨hpre,h2⟩:=chk_inv h;cases h2
  refine Eq.trans (b:=(Zj (chk (decide (Zx b≤70368744177664)) (some (Zh (b++Xv n (Zu 2) little),[]))) fun (r:AV×Blocks)=>onNilB (Zf r) (Xw (Yv r) fun l=>some (Zh l,[])):Option (AV×Blocks))) (by kernel_rfl) ?_
  simp only [decide_eq_true_eq] at hpre
  simp only [A0]
  rw [chk_of (by simp;omega)]
  rfl
 ·cases h
theorem w129:Walked Tryz.prog G 129 2 sp129:=by
 refine ⟨Tryz.f129,Tryz.func129,by decide +kernel,rfl,fun xs bl r h=> ?_⟩
 unfold sp129 at h
 split at h
 ·rename_i kls x y z v
  obtain ⟨hpre,h2⟩:=chk_inv h;cases h2
  refine Eq.trans (b:=(Zj (loopM (fun (st:List AV)=>cSl 5 st fun b r=>cStr r fun b_1 r=>cStr r fun b_2 r=>cStr r fun b_3 r=>cInt .i64 r fun n r=>cInt .i64 r fun n_1 r=>cSl 5 r fun b_4 r=>cInt .i64 r fun n_2 r=>cInt .i64 r fun n_3 r=>onNil r (sel (decide (n_3<n_2)) (chk (decide (0≤n_3)&&decide (n_3<(↑(Zx b_4):Int))&&true) (Wq (Yz b_4 (Zu n_3) Xz) fun cs=>cStr cs fun b_5 r=>cStr r fun b_6 r=>cStr r fun b_7 r=>cInt .i64 r fun n_4 r=>cInt .u64 r fun n_5 r=>onNil r (sel (b_5==b_1&&(b_6==b_2&&(b_7==b_3&&n_4==n))) (some (Yf (Ex.ret,[Zb 5 b,Zq b_1,Zq b_2,Zq b_3,Zz .i64 n,Zz .i64 n_3,Zb 5 b_4,Zz .i64 n_2,Zz .i64 n_3]))) (some (Xu [Zb 5 b,Zq b_1,Zq b_2,Zq b_3,Zz .i64 n,Zz .i64 n_1,Zb 5 b_4,Zz .i64 n_2,Zz .i64 (Zy .i64 (n_3+1))]))))) (some (Yf (Yn 0,[Zb 5 b,Zq b_1,Zq b_2,Zq b_3,Zz .i64 n,Zz .i64 n_1,Zb 5 b_4,Zz .i64 n_2,Zz .i64 n_3]))))) [Zb 5 kls,Zq x,Zq y,Zq z,Zz .i64 v,Zz .i64 0,Zb 5 kls,Zz .i64 (↑(Zx kls):Int),Zz .i64 0]) fun (r:Ex×List AV)=>cSl 5 (Zf r) fun b r_1=>cStr r_1 fun b_1 r_2=>cStr r_2 fun b_2 r_3=>cStr r_3 fun b_3 r_4=>cInt .i64 r_4 fun n r_5=>cInt .i64 r_5 fun n r_6=>cSl 5 r_6 fun b_4 r_7=>cInt .i64 r_7 fun n_1 r_8=>cInt .i64 r_8 fun n_2 r_9=>onNil r_9 (exK r.1 (some (Zz .i64 n,[])) fun (j:Nat)=>sel (Xn j 0) (some (Zz .i64 (↑(Zx b):Int),[])) none):Option (AV×Blocks))) (by kernel_rfl) ?_
  try dsimp only [cStr,cBs,cBool,cU8,cInt,cSl,l63]
  simp only [Zd,decide_eq_true_eq] at hpre
  obtain ⟨hall,hlen⟩:=hpre
  obtain ⟨cs,rfl,hok⟩:=Vk hall
  rw [Kerb.map_toSKey]
  simp only [Yk] at hlen ⊢
  refine loop_rounds (fun i:Nat=>[Zb 5 (cs.map Yq),Zq x,Zq y,Zq z,Zz Zv v,Zz Zv 0,Zb 5 (cs.map Yq),Zz Zv (cs.length:Int),Zz Zv (i:Int)]) (fun i=>i≤cs.length∧Xy cs ⟨x,y,z⟩ v=i+Xy (cs.drop i) ⟨x,y,z⟩ v) (fun i=>cs.length-i)
   (fun r=>∃ (i:Nat) (n:Int),r.2=[Zb 5 (cs.map Yq),Zq x,Zq y,Zq z,Zz Zv v,Zz Zv n,Zb 5 (cs.map Yq),Zz Zv (cs.length:Int),Zz Zv (i:Int)]∧((r.1 = .ret∧n=(Xy cs ⟨x,y,z⟩ v:Nat))∨(r.1 = .exit 0∧Xy cs ⟨x,y,z⟩ v=cs.length))) 0 ⟨Xx _,by simp⟩ rfl ?_ ?_
  ·rintro i ⟨hi,hp⟩
   simp only [↓A0,A0]
   by_cases hlt:i<cs.length
   ·rw [sel_pos (by simp;omega),chk_of (by simp;omega),Zm,Xh (d:=Xf) hlt]
    have hd:=Kerb.drop_row (d:=Xf) hlt
    generalize cs.getD i Xf=c at hd
    simp only [Yq,↓A0,A0]
    have he0:(c.service.name==x&&(c.service.inst==y&&(c.service.realm==z&&c.kvno==v)))=Wn ⟨x,y,z⟩ v c:=by
     simp only [Wn,Vv,Bool.and_assoc]
    rw [he0]
    cases he:Wn ⟨x,y,z⟩ v c
    ·rw [sel_false,wrap_i64 (by omega) (by omega)]
     refine ⟨_,rfl,i+1,rfl,⟨by omega,?_⟩,by dsimp only;omega⟩
     rw [hp,hd]
     simp only [Xy,Vj,he,cond_false]
     omega
    ·rw [sel_true]
     refine ⟨_,rfl,i,_,rfl,.inl ⟨rfl,?_⟩⟩
     rw [hp,hd]
     simp only [Xy,Vj,he,cond_true]
     omega
   ·rw [sel_neg (by simp;omega)]
    refine ⟨_,rfl,i,_,rfl,.inr ⟨rfl,?_⟩⟩
    rw [hp,Yx (by omega)]
    simp [Xy];omega
  ·rintro ⟨e,l⟩ ⟨i,n,rfl,⟨rfl,h⟩ | ⟨rfl,h⟩⟩
   ·simp only [↓A0,A0,h]
   ·simp only [↓A0,A0,h,Yk]
    rw [sel_pos (Yu _)]
 ·cases h
theorem w138:Walked Tryz.prog G 138 2 sp138:=by
 refine ⟨Tryz.f138,Tryz.func138,by decide +kernel,rfl,fun xs bl r h=> ?_⟩
 unfold sp138 at h
 split at h
 ·rename_i s
  obtain ⟨hpre,h2⟩:=chk_inv h;cases h2
  refine Eq.trans (b:=(sel (decide ((↑(Zx s):Int)>0)) (Zj (chk (decide (Zx s≤9223372036854775807)&&true) (some (Zw (Xp s [(46:UInt8),(64:UInt8)]&&decide (Zx s≤39)),[]))) fun (r:AV×Blocks)=>onNilB (Zf r) (Wy (Yv r) fun b=>some (Zw b,[]))) (some (Zw false,[])):Option (AV×Blocks))) (by kernel_rfl) ?_
  simp only [A0]
  rw [chk_of (by rw [hpre];rfl)]
  simp only [Kerb.validName]
  cases s with
  | nil=>rfl
  | cons x r =>
   rw [sel_pos (by first | (simp;done) | (simp;omega)),Bool.and_comm]
   rfl
 ·cases h
theorem w139:Walked Tryz.prog G 139 2 sp139:=by
 refine ⟨Tryz.f139,Tryz.func139,by decide +kernel,rfl,fun xs bl r h=> ?_⟩
 unfold sp139 at h
 split at h
 ·rename_i s
  obtain ⟨hpre,h2⟩:=chk_inv h;cases h2
  refine Eq.trans (b:=(Zj (chk (decide (Zx s≤9223372036854775807)&&true) (some (Zw (Xp s [(64:UInt8)]&&decide (Zx s≤39)),[]))) fun (r:AV×Blocks)=>onNilB (Zf r) (Wy (Yv r) fun b=>some (Zw b,[])):Option (AV×Blocks))) (by kernel_rfl) ?_
  simp only [A0]
  rw [chk_of (by rw [hpre];rfl),Bool.and_comm]
  rfl
 ·cases h
theorem w142:Walked Tryz.prog G 142 2 sp142:=by
 refine ⟨Tryz.f142,Tryz.func142,by decide +kernel,rfl,fun xs bl r h=> ?_⟩
 unfold sp142 at h
 split at h
 ·rename_i b
  cases h
  refine Eq.trans (b:=(sel (decide ((↑(Zx b):Int)<2)) (some (Yy [Zz .i64 0,Zw false,Zz .i64 101],[])) (chk (decide (0<(↑(Zx b):Int))) (sel (!Yz b (Zu 0) (0:UInt8)==(4:UInt8)) (some (Yy [Zz .i64 0,Zw false,Zz .i64 39],[])) (chk (decide (1<(↑(Zx b):Int))) (sel (!Xq (Zy .i64 (Wg (Zy .i64 (↑(Ym (Yz b (Zu 1) (0:UInt8))):Int)) 2))) (some (Yy [Zz .i64 0,Zw false,Zz .i64 40],[])) (chk (decide (1<(↑(Zx b):Int))) (some (Yy [Zz .i64 (Zy .i64 (Wg (Zy .i64 (↑(Ym (Yz b (Zu 1) (0:UInt8))):Int)) 2)),Zw (Yg (Zu (Zg (↑(Ym (Yz b (Zu 1) (0:UInt8))):Int) (↑(Ym (2:UInt8)):Int)))==(1:UInt8)),Zz .i64 0],[]))))))):Option (AV×Blocks))) (by kernel_rfl) ?_
  unfold Wj
  by_cases h1:b.length<2
  ·rw [sel_pos (by simp;omega)]
   simp [h1]
  rw [sel_neg (by simp;omega),chk_of (by simp;omega),if_neg h1]
  by_cases h2:b.getD 0 0=4
  ·have hb:=(b.getD 1 0).toNat_lt
   have e:Zy Zv (Wg (Zy Zv ((b.getD (Zu 1) 0).toNat:Int)) 2)=(((b.getD 1 0).toNat / 2:Nat):Int):=by
    rw [show Zu 1=1 from rfl,wrap_i64 (n:=((b.getD 1 0).toNat:Int)) (by omega) (by omega),Vu (by omega),wrap_i64 (by omega) (by omega)];omega
   have e2:(Yg (Zu (Zg ((b.getD (Zu 1) 0).toNat:Int) ((2:UInt8).toNat:Int)))==1)=decide ((b.getD 1 0).toNat % 2=1):=by
    rw [show Zu 1=1 from rfl,Xd (by omega)]
    have e3:Zu (((b.getD 1 0).toNat:Int) % ((2:UInt8).toNat:Int))=(b.getD 1 0).toNat % 2:=by
     show Zu (((b.getD 1 0).toNat:Int) % 2)=_
     omega
    rw [e3]
    rcases Nat.mod_two_eq_zero_or_one (b.getD 1 0).toNat with h | h<;>rw [h]<;>rfl
   rw [sel_neg (by simp [h2] at *;exact h2),chk_of (by simp;omega),if_neg (by simpa using h2),e,e2]
   cases hk:Xq (((b.getD 1 0).toNat / 2:Nat):Int)
   ·rfl
   ·rw [Yd,sel_false,chk_of (by simp;omega)]
    rfl
  ·rw [sel_pos (by simpa using h2),if_pos (by simpa using h2)]
 ·cases h
theorem w146:Walked Tryz.prog G 146 2 sp146:=by
 refine ⟨Tryz.f146,Tryz.func146,by decide +kernel,rfl,fun xs bl r h=> ?_⟩
 unfold sp146 at h
 split at h
 ·rename_i b pos n
  obtain ⟨hpre,h2⟩:=chk_inv h;cases h2
  refine Eq.trans (b:=(Zj (chk (decide (Zx b≤4611686018427387904)) (some (Zz .i64 (Xj b pos n),[]))) fun (r:AV×Blocks)=>onNilB (Zf r) (Wz .i64 (Yv r) fun n_1=>sel (!n_1==0) (some (Yy [Zn [],Zz .i64 0,Zz .i64 n_1],[])) (chk (decide (0≤pos)&&decide (pos≤Zy .i64 (pos+n))&&decide (Zy .i64 (pos+n)≤(↑(Zx b):Int))) (Zj (chk (decide (Zx (Vx (Zu pos) (Vy (Zu (Zy .i64 (pos+n))) b))≤140737488355328)) (some (Zn (Vx (Zu pos) (Vy (Zu (Zy .i64 (pos+n))) b)),[]))) fun (r:AV×Blocks)=>onNilB (Zf r) (AV.onBs (Yv r) fun b=>some (Yy [Zn b,Zz .i64 (Zy .i64 (pos+n)),Zz .i64 0],[]))))):Option (AV×Blocks))) (by kernel_rfl) ?_
  have hb:=of_decide_eq_true hpre
  simp only [A0]
  rw [chk_of (by simp;omega)]
  unfold Wp
  by_cases hr:Xj b pos n=0
  ·obtain ⟨q1,q2,q3,q4⟩:=Kerb.room_zero.1 hr
   have e:Vx (Zu pos) (Vy (Zu (pos+n)) b)=Kerb.cut b pos n:=by
    rw [show Zu (pos+n)=pos.toNat+n.toNat by omega,List.drop_take,show pos.toNat+n.toNat-pos.toNat=n.toNat by omega]
    rfl
   have hc:=Kerb.cut_length hr
   rw [sel_neg (by simp [hr]),if_pos hr,wrap_i64 (by omega) (by omega),e,chk_of (by simp;omega),chk_of (by simp;omega)]
  ·rw [sel_pos (by simpa using hr),if_neg hr]
 ·cases h
theorem w149:Walked Tryz.prog G 149 2 sp149:=by
 refine ⟨Tryz.f149,Tryz.func149,by decide +kernel,rfl,fun xs bl r h=> ?_⟩
 unfold sp149 at h
 split at h
 ·rename_i B at_ li bad
  obtain ⟨hpre,h2⟩:=chk_inv h;cases h2
  show runFnH (G.env 149 2) G.rts (G.own 149) Tryz.f149 _ _ [0]=_
  refine Eq.trans (b:=(Zj (chk (decide (Zx B≤140737488355328)) (some (Yy [Zq (Kerb.GotB.val (Kerb.text B at_)),Zz .i64 (Kerb.GotB.next (Kerb.text B at_)),Zz .i64 (Kerb.GotB.err (Kerb.text B at_))],[]))) fun (r:AV×Blocks)=>onNilB (Zf r) (AV.onTup (Yv r) fun vs=>onCons vs fun x r=>Ww x fun b=>onCons r fun x r=>Wz .i64 x fun n=>onCons r fun x r=>Wz .i64 x fun n_1=>onNil r (some (Zq b,[[Zn B,Zz .i64 (bif bad || !n_1==0 then at_ else n),Zw li,Zw (bad || !n_1==0)]]))):Option (AV×Blocks))) (by kernel_rfl) ?_
  simp only [A0]
  rw [chk_of hpre]
 ·cases h
theorem w151:Walked Tryz.prog G 151 2 sp151:=by
 refine ⟨Tryz.f151,Tryz.func151,by decide +kernel,rfl,fun xs bl r h=> ?_⟩
 unfold sp151 at h
 split at h
 ·rename_i b x y z
  obtain ⟨hpre,h2⟩:=chk_inv h;cases h2
  refine Eq.trans (b:=(Zj (chk (decide (Zx b+Zx x≤70368744177664)) (some (Zn (Wu b x),[]))) fun (r:AV×Blocks)=>onNilB (Zf r) (AV.onBs (Yv r) fun b=>Zj (chk (decide (Zx b+Zx y≤70368744177664)) (some (Zn (Wu b y),[]))) fun (r:AV×Blocks)=>onNilB (Zf r) (AV.onBs (Yv r) fun b=>Zj (chk (decide (Zx b+Zx z≤70368744177664)) (some (Zn (Wu b z),[]))) fun (r:AV×Blocks)=>onNilB (Zf r) (AV.onBs (Yv r) fun b=>some (Zn b,[])))):Option (AV×Blocks))) (by kernel_rfl) ?_
  simp only [decide_eq_true_eq] at hpre
  simp only [A0]
  rw [chk_of (by simp;omega),chk_of (by simp [Wu];omega),chk_of (by simp [Wu];omega)]
  rfl
 ·cases h
theorem w158:Walked Tryz.prog G 158 2 sp158:=by
 refine ⟨Tryz.f158,Tryz.func158,by decide +kernel,rfl,fun xs bl r h=> ?_⟩
 unfold sp158 at h
 split at h
 ·rename_i i l
  cases h
  refine Eq.trans (b:=(sel (!Zp i 4294967295) (some (Zz .i64 0,[])) (sel (!Zp l 255) (some (Zz .i64 0,[])) (some (Zz .i64 (Zy .i64 (i+Zy .i64 (300*Zy .i64 (l+1)))),[]))):Option (AV×Blocks))) (by kernel_rfl) ?_
  unfold Vw
  cases h1:Zp i 4294967295
  ·rfl
  cases h2:Zp l 255
  ·rfl
  have a1:=Kerb.within_iff.1 h1
  have a2:=Kerb.within_iff.1 h2
  simp only [Yd,sel_false,Wk,if_true]
  rw [wrap_i64 (n:=l+1) (by omega) (by omega),wrap_i64 (n:=300*(l+1)) (by omega) (by omega),wrap_i64 (by omega) (by omega)]
 ·cases h
theorem w161:Walked Tryz.prog G 161 2 sp161:=by
 refine ⟨Tryz.f161,Tryz.func161,by decide +kernel,rfl,fun xs bl r h=> ?_⟩
 unfold sp161 at h
 split at h
 ·rename_i k
  obtain ⟨hpre,h2⟩:=chk_inv h;cases h2
  refine Eq.trans (b:=(sel (!Wh (Zy .i64 (Vq k (2 ^ min (Zu 56) (Zk .u64))))) (some (Yy [Zz .i64 0,Zz .i64 0,Zw false],[])) (sel (!Wb (Zy .i64 (Zy .u64 (↑(BitVec.toNat (BitVec.ofInt (Zk .u64) k &&& BitVec.ofInt (Zk .u64) 72057594037927935)):Int)))) (some (Yy [Zz .i64 0,Zz .i64 0,Zw false],[])) (some (Yy [Zz .i64 (Zy .i64 (Vq k (2 ^ min (Zu 56) (Zk .u64)))),Zz .i64 (Zy .i64 (Zy .u64 (↑(BitVec.toNat (BitVec.ofInt (Zk .u64) k &&& BitVec.ofInt (Zk .u64) 72057594037927935)):Int))),Zw true],[]))):Option (AV×Blocks))) (by kernel_rfl) ?_
  simp only [Zd,decide_eq_true_eq] at hpre
  obtain ⟨h0,h1⟩:=hpre
  rw [Kerb.key_hi h0 h1,Kerb.key_lo h0 h1]
  unfold Xm
  cases Wh (Kerb.keyClass k)
  ·rfl
  cases Wb (Kerb.keySerial k)<;>rfl
 ·cases h
theorem w166:Walked Tryz.prog G 166 2 sp166:=by
 refine ⟨Tryz.f166,Tryz.func166,by decide +kernel,rfl,fun xs bl r h=> ?_⟩
 unfold sp166 at h
 split at h
 ·rename_i b pos k little
  obtain ⟨hpre,h2⟩:=chk_inv h;cases h2
  refine Eq.trans (b:=(Zj (chk (decide (Zx b≤140737488355328)) (some (Yy [Zn (Kerb.GotB.val (Wp b pos k)),Zz .i64 (Kerb.GotB.next (Wp b pos k)),Zz .i64 (Kerb.GotB.err (Wp b pos k))],[]))) (kT fun vs=>cBs vs fun b r=>cInt .i64 r fun n r=>cInt .i64 r fun n_1 r=>onNil r (sel (!n_1==0) (some (Yy [Zz .i64 0,Zz .i64 0,Zz .i64 n_1],[])) (Zj (loopM (fun (st:List AV)=>cInt .i64 st fun n r=>cBool r fun b r=>cBs r fun b_1 r=>cInt .i64 r fun n_2 r=>cInt .i64 r fun n_3 r=>let t0:BitVec (Zk .i64):=BitVec.ofInt (Zk .i64) (Zy .i64 (n_3*2 ^ min (Zu 8) (Zk .i64)));cInt .i64 r fun n_4 r=>let t1:Int:=Zy .i64 (Zy .i64 (n-1)-n_4);onNil r (sel (decide (n_4<n)) (sel b (chk (decide (0≤t1)&&decide (t1<(↑(Zx b_1):Int))) (some (Xu [Zz .i64 n,Zw b,Zn b_1,Zz .i64 n_2,Zz .i64 (Zy .i64 (↑(BitVec.toNat (t0 ||| BitVec.ofInt (Zk .i64) (Zy .i64 (↑(Ym (Yz b_1 (Zu t1) (0:UInt8))):Int)))):Int)),Zz .i64 (Zy .i64 (n_4+1))]))) (chk (decide (0≤n_4)&&decide (n_4<(↑(Zx b_1):Int))) (some (Xu [Zz .i64 n,Zw b,Zn b_1,Zz .i64 n_2,Zz .i64 (Zy .i64 (↑(BitVec.toNat (t0 ||| BitVec.ofInt (Zk .i64) (Zy .i64 (↑(Ym (Yz b_1 (Zu n_4) (0:UInt8))):Int)))):Int)),Zz .i64 (Zy .i64 (n_4+1))])))) (some (Yf (Yn 0,[Zz .i64 n,Zw b,Zn b_1,Zz .i64 n_2,Zz .i64 n_3,Zz .i64 n_4]))))) [Zz .i64 k,Zw little,Zn b,Zz .i64 n,Zz .i64 0,Zz .i64 0]) fun (r:Ex×List AV)=>cInt .i64 (Zf r) fun n r_1=>cBool r_1 fun b r_2=>cBs r_2 fun b r_3=>cInt .i64 r_3 fun n r_4=>cInt .i64 r_4 fun n_2 r_5=>cInt .i64 r_5 fun n_3 r_6=>onNil r_6 (exK r.1 none fun (j:Nat)=>sel (Xn j 0) (some (Yy [Zz .i64 n_2,Zz .i64 n,Zz .i64 0],[])) none)))):Option (AV×Blocks))) (by kernel_rfl) ?_
  delta kT
  try dsimp only [cStr,cBs,cBool,cU8,cInt,cSl,l63]
  simp only [Zd,decide_eq_true_eq] at hpre
  obtain ⟨⟨hb,hk0⟩,hk4⟩:=hpre
  simp only [A0]
  rw [chk_of (by simpa using hb)]
  unfold Kerb.get Wp
  by_cases hr:Xj b pos k=0
  case neg =>
   rw [if_neg hr,if_neg hr,sel_pos (by simpa using hr)]
  rw [if_pos hr,if_pos hr,sel_neg (by simp)]
  obtain ⟨q1,q2,q3,q4⟩:=Kerb.room_zero.1 hr
  have hcl:=Kerb.cut_length hr
  obtain ⟨C,hC⟩:∃ C,C=Kerb.cut b pos k:=⟨_,rfl⟩
  rw [← hC] at hcl ⊢
  obtain ⟨L,hL⟩:∃ L,L=cond little C.reverse C:=⟨_,rfl⟩
  have hLl:L.length=k.toNat:=by rw [hL];cases little<;>simp [hcl]
  rw [← hL]
  refine loop_rounds (fun i:Nat=>[Zz Zv k,Zw little,Zn C,Zz Zv (pos+k),Zz Zv (Kerb.valB (L.take i)),Zz Zv (i:Int)]) (fun i=>i≤k.toNat) (fun i=>k.toNat-i)
   (fun r=>r=(Yn 0,[Zz Zv k,Zw little,Zn C,Zz Zv (pos+k),Zz Zv (Kerb.valB L),Zz Zv k])) 0 (Xx _) rfl ?_ ?_
  ·intro i hi
   simp only [A0]
   by_cases hlt:i<k.toNat
   ·rw [sel_pos (by simp;omega)]
    have hv:=Kerb.valB_bd (l:=L.take i) (by simp;omega)
    have hs:=Kerb.valB_take (l:=L) (i:=i) (by omega)
    have hgd:L.getD i 0=C.getD (cond little (k.toNat-1-i) i) 0:=by
     rw [hL]
     cases little
     ·rfl
     ·show C.reverse.getD i 0=_
      rw [Kerb.getD_reverse (by omega),hcl];rfl
    cases little
    ·rw [sel_neg rfl,chk_of (by simp;omega),Zm]
     rw [Kerb.shl8_or _ hv.1 (by omega),wrap_i64 (n:=(i:Int)+1) (by omega) (by omega)]
     refine ⟨_,rfl,i+1,?_,by omega,by dsimp only;omega⟩
     dsimp only
     rw [hs,hgd];rfl
    ·rw [sel_pos rfl,wrap_i64 (n:=k-1) (by omega) (by omega),wrap_i64 (n:=k-1-(i:Int)) (by omega) (by omega),chk_of (by simp;omega),show (k-1-(i:Int)).toNat=k.toNat-1-i from by omega]
     rw [Kerb.shl8_or _ hv.1 (by omega),wrap_i64 (n:=(i:Int)+1) (by omega) (by omega)]
     refine ⟨_,rfl,i+1,?_,by omega,by dsimp only;omega⟩
     dsimp only
     rw [hs,hgd];rfl
   ·rw [sel_neg (by simp;omega)]
    refine ⟨_,rfl,?_⟩
    show _=_
    rw [Yj (by omega),show (i:Int)=k from by omega]
  ·rintro r rfl
   simp only [A0]
   rw [sel_pos (Yu _)]
 ·cases h
theorem w167:Walked Tryz.prog G 167 2 sp167:=by
 refine ⟨Tryz.f167,Tryz.func167,by decide +kernel,rfl,fun xs bl r h=> ?_⟩
 unfold sp167 at h
 split at h
 ·rename_i b pos k little
  obtain ⟨hpre,h2⟩:=chk_inv h;cases h2
  refine Eq.trans (b:=(Zj (chk (decide (Zx b≤4611686018427387904)) (some (Zz .i64 (Xj b pos k),[]))) (kI .i64 fun n=>sel (!n==0) (some (Yy [Zz .i64 0,Zz .i64 0,Zz .i64 n],[])) (Zj (loopM (fun (st:List AV)=>cBs st fun b r=>cInt .i64 r fun n r=>cInt .i64 r fun n_1 r=>cBool r fun b_1 r=>cInt .i64 r fun n_2 r=>let t0:BitVec (Zk .i64):=BitVec.ofInt (Zk .i64) (Zy .i64 (n_2*2 ^ min (Zu 8) (Zk .i64)));cInt .i64 r fun n_3 r=>cInt .i64 r fun n_4 r=>let t1:Int:=Zy .i64 (n+Zy .i64 (Zy .i64 (n_1-1)-n_4));onNil r (sel (decide (n_4<n_3)) (sel b_1 (chk (decide (0≤t1)&&decide (t1<(↑(Zx b):Int))) (some (Xu [Zn b,Zz .i64 n,Zz .i64 n_1,Zw b_1,Zz .i64 (Zy .i64 (↑(BitVec.toNat (t0 ||| BitVec.ofInt (Zk .i64) (Zy .i64 (↑(Ym (Yz b (Zu t1) (0:UInt8))):Int)))):Int)),Zz .i64 n_3,Zz .i64 (Zy .i64 (n_4+1))]))) (chk (decide (0≤Zy .i64 (n+n_4))&&decide (Zy .i64 (n+n_4)<(↑(Zx b):Int))) (some (Xu [Zn b,Zz .i64 n,Zz .i64 n_1,Zw b_1,Zz .i64 (Zy .i64 (↑(BitVec.toNat (t0 ||| BitVec.ofInt (Zk .i64) (Zy .i64 (↑(Ym (Yz b (Zu (Zy .i64 (n+n_4))) (0:UInt8))):Int)))):Int)),Zz .i64 n_3,Zz .i64 (Zy .i64 (n_4+1))])))) (some (Yf (Yn 0,[Zn b,Zz .i64 n,Zz .i64 n_1,Zw b_1,Zz .i64 n_2,Zz .i64 n_3,Zz .i64 n_4]))))) [Zn b,Zz .i64 pos,Zz .i64 k,Zw little,Zz .i64 0,Zz .i64 k,Zz .i64 0]) fun (r:Ex×List AV)=>cBs (Zf r) fun b r_1=>cInt .i64 r_1 fun n r_2=>cInt .i64 r_2 fun n_1 r_3=>cBool r_3 fun b r_4=>cInt .i64 r_4 fun n_2 r_5=>cInt .i64 r_5 fun n_3 r_6=>cInt .i64 r_6 fun n_4 r_7=>onNil r_7 (exK r.1 none fun (j:Nat)=>sel (Xn j 0) (some (Yy [Zz .i64 n_2,Zz .i64 (Zy .i64 (n+n_1)),Zz .i64 0],[])) none))):Option (AV×Blocks))) (by kernel_rfl) ?_
  delta kI
  try dsimp only [cStr,cBs,cBool,cU8,cInt,cSl,l63]
  simp only [Zd,decide_eq_true_eq] at hpre
  obtain ⟨⟨hb,hk0⟩,hk4⟩:=hpre
  simp only [A0]
  rw [chk_of (by simpa using hb)]
  unfold Kerb.get
  by_cases hr:Xj b pos k=0
  ·rw [sel_neg (by simp [hr]),if_pos hr]
   obtain ⟨q1,q2,q3,q4⟩:=Kerb.room_zero.1 hr
   have hcl:=Kerb.cut_length hr
   obtain ⟨L,hL⟩:∃ L,L=cond little (Kerb.cut b pos k).reverse (Kerb.cut b pos k):=⟨_,rfl⟩
   have hLl:L.length=k.toNat:=by rw [hL];cases little<;>simp [hcl]
   rw [← hL]
   refine loop_rounds (fun i:Nat=>[Zn b,Zz Zv pos,Zz Zv k,Zw little,Zz Zv (Kerb.valB (L.take i)),Zz Zv k,Zz Zv (i:Int)]) (fun i=>i≤k.toNat) (fun i=>k.toNat-i)
    (fun r=>r=(Yn 0,[Zn b,Zz Zv pos,Zz Zv k,Zw little,Zz Zv (Kerb.valB L),Zz Zv k,Zz Zv k])) 0 (Xx _) rfl ?_ ?_
   ·intro i hi
    simp only [A0]
    by_cases hlt:i<k.toNat
    ·rw [sel_pos (by simp;omega)]
     have hv:=Kerb.valB_bd (l:=L.take i) (by simp;omega)
     have hs:=Kerb.valB_take (l:=L) (i:=i) (by omega)
     have hgd:L.getD i 0=b.getD (cond little (pos.toNat+(k.toNat-1-i)) (pos.toNat+i)) 0:=by
      rw [hL]
      cases little
      ·exact Kerb.cut_getD hlt
      ·show (Kerb.cut b pos k).reverse.getD i 0=_
       rw [Kerb.getD_reverse (by omega),hcl,Kerb.cut_getD (by omega)];rfl
     cases little
     ·rw [sel_neg rfl,wrap_i64 (n:=pos+(i:Int)) (by omega) (by omega),chk_of (by simp;omega),show (pos+(i:Int)).toNat=pos.toNat+i from by omega]
      rw [Kerb.shl8_or _ hv.1 (by omega),wrap_i64 (n:=(i:Int)+1) (by omega) (by omega)]
      refine ⟨_,rfl,i+1,?_,by omega,by dsimp only;omega⟩
      dsimp only
      rw [hs,hgd];rfl
     ·rw [sel_pos rfl,wrap_i64 (n:=k-1) (by omega) (by omega),wrap_i64 (n:=k-1-(i:Int)) (by omega) (by omega),wrap_i64 (n:=pos+(k-1-(i:Int))) (by omega) (by omega),chk_of (by simp;omega),show (pos+(k-1-(i:Int))).toNat=pos.toNat+(k.toNat-1-i) from by omega]
      rw [Kerb.shl8_or _ hv.1 (by omega),wrap_i64 (n:=(i:Int)+1) (by omega) (by omega)]
      refine ⟨_,rfl,i+1,?_,by omega,by dsimp only;omega⟩
      dsimp only
      rw [hs,hgd];rfl
    ·rw [sel_neg (by simp;omega)]
     refine ⟨_,rfl,?_⟩
     show _=_
     rw [Yj (by omega),show (i:Int)=k from by omega]
   ·rintro r rfl
    simp only [A0]
    rw [sel_pos (Yu _),wrap_i64 (by omega) (by omega)]
  ·rw [sel_pos (by simpa using hr),if_neg hr]
 ·cases h
theorem w169:Walked Tryz.prog G 169 2 sp169:=by
 refine ⟨Tryz.f169,Tryz.func169,by decide +kernel,rfl,fun xs bl r h=> ?_⟩
 unfold sp169 at h
 split at h
 ·rename_i s c
  cases h
  refine Eq.trans (b:=(some (Zz .i64 (Vz c s),[]):Option (AV×Blocks))) (by kernel_rfl) ?_
  rfl
 ·cases h
theorem w187:Walked Tryz.prog G 187 2 sp187:=by
 refine ⟨Tryz.f187,Tryz.func187,by decide +kernel,rfl,fun xs bl r h=> ?_⟩
 unfold sp187 at h
 split at h
 ·rename_i s c
  cases h
  refine Eq.trans (b:=(some (Zz .i64 (Vz c s),[]):Option (AV×Blocks))) (by kernel_rfl) ?_
  rfl
 ·cases h
theorem w25:Walked Tryz.prog G 25 3 sp25:=by
 refine ⟨Tryz.f25,Tryz.func25,by decide +kernel,rfl,fun xs bl r h=> ?_⟩
 unfold sp25 at h
 split at h
 ·rename_i n
  obtain ⟨hpre,h2⟩:=chk_inv h;cases h2
  refine Eq.trans (b:=(chk (decide (0≤Zg n 3)&&decide (Zg n 3<(↑(Zx [Zq [(97:UInt8),(110:UInt8),(110:UInt8)],Zq [(98:UInt8),(111:UInt8),(98:UInt8)],Zq [(99:UInt8),(97:UInt8),(116:UInt8)]]):Int))&&true) (Ww (Yz [Zq [(97:UInt8),(110:UInt8),(110:UInt8)],Zq [(98:UInt8),(111:UInt8),(98:UInt8)],Zq [(99:UInt8),(97:UInt8),(116:UInt8)]] (Zu (Zg n 3)) Xz) fun b=>Zj (chk (decide (0≤Zy .i64 (Wg n 3))) (some (Zq (Kerb.realm (Zy .i64 (Wg n 3))),[]))) fun (r:AV×Blocks)=>onNilB (Zf r) (Ww (Yv r) fun b_1=>some (AV.agg [Zq b,Zq [],Zq b_1],[]))):Option (AV×Blocks))) (by kernel_rfl) ?_
  have hn:0≤n:=by first | exact of_decide_eq_true hpre | (simp only [Zd,decide_eq_true_eq] at hpre;exact hpre.1)
  have ht:Zg n 3=n % 3:=Xd hn
  have hcase:n % 3=0∨n % 3=1∨n % 3=2:=by omega
  simp only [Zd,decide_eq_true_eq] at hpre
  have hd:Wg n 3=n / 3:=Vu hn
  rw [hd,wrap_i64 (by omega) (by omega)]
  have hq:decide ((0:Int)≤n / 3)=true:=by simp;omega
  rcases hcase with e | e | e<;>simp [ht,e,chk,Ww,Kerb.user,hq,onNilB]<;>omega
 ·cases h
theorem w36:Walked Tryz.prog G 36 3 sp36:=by
 refine ⟨Tryz.f36,Tryz.func36,by decide +kernel,rfl,fun xs bl r h=> ?_⟩
 unfold sp36 at h
 split at h
 ·rename_i li mu kv rl tk au
  obtain ⟨hpre,h2⟩:=chk_inv h;cases h2
  refine Eq.trans (b:=(Zj (chk (l63 rl) (some (Zw (Kerb.validRealm rl),[]))) (kL fun b=>sel (!b) (some (Yy [Zn [],Zz .i64 103],[])) (sel (!Zp kv 255) (some (Yy [Zn [],Zz .i64 104],[])) (sel (decide ((↑(Zx tk):Int)>255)) (some (Yy [Zn [],Zz .i64 105],[])) (sel (decide ((↑(Zx au):Int)>255)) (some (Yy [Zn [],Zz .i64 105],[])) (sel mu (Zj (chk (decide (Zx (Xg 4 li)≤70368744177664)) (some (Zh (Xg 4 li++Xv kv 1 false),[]))) (kO fun l=>Zj (chk (decide (Zx l+Zx rl≤70368744177664)) (some (Zn (Wu l rl),[]))) (kB fun b=>Zj (chk (decide (Zx b≤70368744177664)) (some (Zh (b++Xv (↑(Zx tk):Int) 1 false),[]))) (kO fun l=>Zj (chk (decide (Zx l≤70368744177664)) (some (Zh (l++Xv (↑(Zx au):Int) 1 false),[]))) (kO fun l=>chk (room (Zx l+Zx tk) 1) (chk (room (Zx (l++tk)+Zx au) 1) (some (Yy [Zn (l++tk++au),Zz .i64 0],[])))))))) (Zj (chk (decide (Zx (Xg 3 li)≤70368744177664)) (some (Zh (Xg 3 li++Xv kv 1 false),[]))) (kO fun l=>Zj (chk (decide (Zx l+Zx rl≤70368744177664)) (some (Zn (Wu l rl),[]))) (kB fun b=>Zj (chk (decide (Zx b≤70368744177664)) (some (Zh (b++Xv (↑(Zx tk):Int) 1 false),[]))) (kO fun l=>Zj (chk (decide (Zx l≤70368744177664)) (some (Zh (l++Xv (↑(Zx au):Int) 1 false),[]))) (kO fun l=>chk (room (Zx l+Zx tk) 1) (chk (room (Zx (l++tk)+Zx au) 1) (some (Yy [Zn (l++tk++au),Zz .i64 0],[]))))))))))))):Option (AV×Blocks))) (by kernel_rfl) ?_
  delta kB kO kL
  try dsimp only [cStr,cBs,cBool,cU8,cInt,cSl,l63]
  simp only [A0,Kerb.Client.av,Kerb.Cache.av,Kerb.Cred.av,hpre]
  unfold Kerb.encodeAp
  simp only
  cases h1:Kerb.validRealm rl
  ·rfl
  rw [Yd,sel_false,if_neg (by simp)]
  cases h2:Zp kv 255
  ·rfl
  rw [Yd,sel_false,if_neg (by simp)]
  by_cases h3:255<tk.length
  ·rw [sel_pos (by simp;omega),if_pos (.inl h3)]
  rw [sel_neg (by simp;omega)]
  by_cases h4:255<au.length
  ·rw [sel_pos (by simp;omega),if_pos (.inr h4)]
  rw [sel_neg (by simp;omega),if_neg (by omega)]
  have l1:=Kerb.validRealm_len h1
  have g3:=Kerb.header_len 3 li
  have g4:=Kerb.header_len 4 li
  cases mu
  ·rw [sel_false,chk_of (by simp;omega),chk_of (by simp [Yb];omega),chk_of (by simp [Yb,Xk];omega),chk_of (by simp [Yb,Xk];omega),chk_of (Yw (by simp [Yb,Xk];omega)),chk_of (Yw (by simp [Yb,Xk];omega))]
   rfl
  ·rw [sel_true,chk_of (by simp;omega),chk_of (by simp [Yb];omega),chk_of (by simp [Yb,Xk];omega),chk_of (by simp [Yb,Xk];omega),chk_of (Yw (by simp [Yb,Xk];omega)),chk_of (Yw (by simp [Yb,Xk];omega))]
   rfl
 ·cases h
theorem w53:Walked Tryz.prog G 53 3 sp53:=by
 refine ⟨Tryz.f53,Tryz.func53,by decide +kernel,rfl,fun xs bl r h=> ?_⟩
 unfold sp53 at h
 split at h
 ·rename_i i l n s
  cases h
  refine Eq.trans (b:=(sel (!Zp i 4294967295) (some (Zz .i64 104,[])) (sel (!Zp n 4294967295) (some (Zz .i64 104,[])) (sel (decide (l<0)) (some (Zz .i64 104,[])) (sel (decide (l>255)) (some (Zz .i64 104,[])) (sel (decide (s<0)) (some (Zz .i64 104,[])) (sel (decide (s>4294967295)) (some (Zz .i64 104,[])) (sel (decide (i>Zy .i64 (n+s))) (some (Zz .i64 33,[])) (sel (decide (n>Zy .i64 (Vw i l+s))) (some (Zz .i64 32,[])) (some (Zz .i64 0,[]))))))))):Option (AV×Blocks))) (by kernel_rfl) ?_
  unfold Kerb.stateErr
  cases h1:Zp i 4294967295
  ·rfl
  cases h2:Zp n 4294967295
  ·rfl
  cases h3:Zp l 255
  ·simp only [Yd,Bool.not_false,sel_true,sel_false]
   rw [if_pos (by simp)]
   by_cases q:l<0
   ·rw [sel_pos (by simpa using q)]
   ·rw [sel_neg (by simpa using q)]
    have:255<l:=by
     simp only [Zp,Bool.and_eq_false_iff,decide_eq_false_iff_not] at h3
     omega
    rw [sel_pos (by simpa using this)]
  cases h4:Zp s 4294967295
  ·have b3:=Kerb.within_iff.1 h3
   simp only [Yd,Bool.not_false,sel_true,sel_false]
   rw [sel_neg (by simp;omega),sel_neg (by simp;omega),if_pos (by simp)]
   by_cases q:s<0
   ·rw [sel_pos (by simpa using q)]
   ·rw [sel_neg (by simpa using q)]
    have:4294967295<s:=by
     simp only [Zp,Bool.and_eq_false_iff,decide_eq_false_iff_not] at h4
     omega
    rw [sel_pos (by simpa using this)]
  have b1:=Kerb.within_iff.1 h1
  have b2:=Kerb.within_iff.1 h2
  have b3:=Kerb.within_iff.1 h3
  have b4:=Kerb.within_iff.1 h4
  have he:Vw i l=i+300*(l+1):=by simp [Vw,h1,h3]
  simp only [Yd,sel_false,Wk,Bool.false_eq_true,if_false,he]
  rw [sel_neg (by simp;omega),sel_neg (by simp;omega),sel_neg (by simp;omega),sel_neg (by simp;omega),wrap_i64 (by omega) (by omega),wrap_i64 (by omega) (by omega)]
  by_cases h5:n+s<i
  ·rw [sel_pos (by simpa using h5),if_pos h5]
  rw [sel_neg (by simpa using h5),if_neg h5]
  by_cases h6:i+300*(l+1)+s<n
  ·rw [sel_pos (by simpa using h6),if_pos h6]
  rw [sel_neg (by simpa using h6),if_neg h6]
 ·cases h
theorem w59:Walked Tryz.prog G 59 3 sp59:=by
 refine ⟨Tryz.f59,Tryz.func59,by decide +kernel,rfl,fun xs bl r h=> ?_⟩
 unfold sp59 at h
 split at h
 ·rename_i kd k bd
  obtain ⟨hpre,h2⟩:=chk_inv h;cases h2
  refine Eq.trans (b:=(let t0:List UInt8:=[Yg (Zu (Zy .u8 (Vq (↑(Zx bd):Int) (2 ^ min (Zu 8) (Zk .i64))))),Yg (Zu (Zy .u8 (↑(Zx bd):Int)))];let t1:List UInt8:=[(66:UInt8),Yg (Zu (Zy .u8 kd))];sel (decide (kd<1)) (some (Yy [Zn [],Zz .i64 104],[])) (sel (decide (kd>10)) (some (Yy [Zn [],Zz .i64 104],[])) (Zj (chk (decide (0≤k)&&decide (k<18446744073709551616)) (some (Zw (Xm k),[]))) (kL fun b=>sel (!b) (some (Yy [Zn [],Zz .i64 10],[])) (sel (decide ((↑(Zx bd):Int)>1000)) (some (Yy [Zn [],Zz .i64 105],[])) (Zj (chk (decide (0≤k)&&decide (k<18446744073709551616)) (some (Zn (Kerb.keyBytes k),[]))) (kB fun b=>chk (room (Zx t1+Zx b) 1) (chk (room (Zx (t1++b)+Zx t0) 1) (chk (room (Zx (t1++b++t0)+Zx bd) 1) (some (Yy [Zn (t1++b++t0++bd),Zz .i64 0],[])))))))))):Option (AV×Blocks))) (by kernel_rfl) ?_
  delta kB kL
  try dsimp only [cStr,cBs,cBool,cU8,cInt,cSl,l63]
  simp only [A0,Kerb.Client.av,Kerb.Cache.av,Kerb.Cred.av,hpre]
  unfold Kerb.makeBox
  by_cases k1:1≤kd
  case neg =>
   rw [sel_pos (by simp;omega),if_pos (by simp [Xq];omega)]
  by_cases k2:kd≤10
  case neg =>
   rw [sel_neg (by simp;omega),sel_pos (by simp;omega),if_pos (by simp [Xq];omega)]
  rw [sel_neg (by simp;omega),sel_neg (by simp;omega),if_neg (by simp [Xq];omega)]
  cases h2:Xm k
  ·rfl
  rw [Yd,sel_false,if_neg (by simp)]
  by_cases h3:1000<bd.length
  ·rw [sel_pos (by simp;omega),if_pos h3]
  have lk:=Kerb.keyBytes_len k
  rw [sel_neg (by simp;omega),if_neg h3,chk_of (Yw (by simp;omega)),chk_of (Yw (by simp;omega)),chk_of (Yw (by simp;omega)),Kerb.two_bytes,Kerb.wrap_u8,Int.emod_eq_of_lt (by omega) (by omega)]
 ·cases h
theorem w60:Walked Tryz.prog G 60 3 sp60:=by
 refine ⟨Tryz.f60,Tryz.func60,by decide +kernel,rfl,fun xs bl r h=> ?_⟩
 unfold sp60 at h
 split at h
 ·rename_i s li
  cases h
  refine Eq.trans (b:=(sel (decide ((↑(Zx s):Int)>1012)) (some (Yy [Zn [],Zz .i64 105],[])) (Zj (chk (decide (Zx (Xg 8 li)≤70368744177664)) (some (Zh (Xg 8 li++Xv (↑(Zx s):Int) 2 li),[]))) fun (r:AV×Blocks)=>onNilB (Zf r) (Xw (Yv r) fun l=>chk (room (Zx l+Zx s) 1) (some (Yy [Zn (l++s),Zz .i64 0],[])))):Option (AV×Blocks))) (by kernel_rfl) ?_
  unfold Kerb.encodeAns
  by_cases h:1012<s.length
  ·rw [sel_pos (by simp;omega),if_pos h]
  rw [sel_neg (by simp;omega),if_neg h]
  have hl:(Xg 8 li).length=2:=by cases li<;>rfl
  simp only [↓A0]
  rw [chk_of (by simp [hl]),chk_of (by simp [room,Yb,hl];omega)]
 ·cases h
theorem w73:Walked Tryz.prog G 73 3 sp73:=by
 refine ⟨Tryz.f73,Tryz.func73,by decide +kernel,rfl,fun xs bl r h=> ?_⟩
 unfold sp73 at h
 split at h
 ·rename_i n
  obtain ⟨hpre,h2⟩:=chk_inv h;cases h2
  refine Eq.trans (b:=(chk (decide (0≤Zg n 3)&&decide (Zg n 3<(↑(Zx [AV.agg [Zq [(109:UInt8),(97:UInt8),(105:UInt8),(108:UInt8)],Zq [],Zq []],AV.agg [Zq [(110:UInt8),(102:UInt8),(115:UInt8)],Zq [(104:UInt8),(111:UInt8),(109:UInt8),(101:UInt8)],Zq []],AV.agg [Zq [(107:UInt8),(114:UInt8),(98:UInt8),(116:UInt8),(103:UInt8),(116:UInt8)],Zq [(65:UInt8),(84:UInt8),(72:UInt8)],Zq []]]):Int))&&true) (Wq (Yz [AV.agg [Zq [(109:UInt8),(97:UInt8),(105:UInt8),(108:UInt8)],Zq [],Zq []],AV.agg [Zq [(110:UInt8),(102:UInt8),(115:UInt8)],Zq [(104:UInt8),(111:UInt8),(109:UInt8),(101:UInt8)],Zq []],AV.agg [Zq [(107:UInt8),(114:UInt8),(98:UInt8),(116:UInt8),(103:UInt8),(116:UInt8)],Zq [(65:UInt8),(84:UInt8),(72:UInt8)],Zq []]] (Zu (Zg n 3)) Xz) fun cs=>onCons cs fun x r=>Ww x fun b=>onCons r fun x r=>Ww x fun b_1=>onCons r fun x r=>Ww x fun b_2=>onNil r (Zj (chk (decide (0≤Zy .i64 (Wg n 3))) (some (Zq (Kerb.realm (Zy .i64 (Wg n 3))),[]))) fun (r:AV×Blocks)=>onNilB (Zf r) (Ww (Yv r) fun b_3=>some (AV.agg [Zq b,Zq b_1,Zq b_3],[])))):Option (AV×Blocks))) (by kernel_rfl) ?_
  have hn:0≤n:=by first | exact of_decide_eq_true hpre | (simp only [Zd,decide_eq_true_eq] at hpre;exact hpre.1)
  have ht:Zg n 3=n % 3:=Xd hn
  have hcase:n % 3=0∨n % 3=1∨n % 3=2:=by omega
  simp only [Zd,decide_eq_true_eq] at hpre
  have hd:Wg n 3=n / 3:=Vu hn
  rw [hd,wrap_i64 (by omega) (by omega)]
  have hq:decide ((0:Int)≤n / 3)=true:=by simp;omega
  rcases hcase with e | e | e<;>simp [ht,e,chk,Ww,Wq,onCons,onNil,Kerb.service,hq,onNilB]<;>omega
 ·cases h
theorem w77:Walked Tryz.prog G 77 3 sp77:=by
 refine ⟨Tryz.f77,Tryz.func77,by decide +kernel,rfl,fun xs bl r h=> ?_⟩
 unfold sp77 at h
 split at h
 ·rename_i a b c
  obtain ⟨hpre,h2⟩:=chk_inv h;cases h2
  refine Eq.trans (b:=(Zj (chk (decide (Zx a≤9223372036854775807)) (some (Zw (Kerb.validName a),[]))) fun (r:AV×Blocks)=>onNilB (Zf r) (Wy (Yv r) fun b_1=>sel b_1 (Zj (chk (decide (Zx b≤9223372036854775807)) (some (Zw (Kerb.validInst b),[]))) fun (r:AV×Blocks)=>onNilB (Zf r) (Wy (Yv r) fun b=>sel b (Zj (chk (decide (Zx c≤9223372036854775807)) (some (Zw (Kerb.validRealm c),[]))) fun (r:AV×Blocks)=>onNilB (Zf r) (Wy (Yv r) fun b=>some (Zw b,[]))) (some (Zw false,[])))) (some (Zw false,[]))):Option (AV×Blocks))) (by kernel_rfl) ?_
  simp only [Zd,decide_eq_true_eq] at hpre
  simp only [A0]
  rw [chk_of (by simp;omega),chk_of (by simp;omega),chk_of (by simp;omega)]
  simp only [Kerb.Prin.valid]
  cases Kerb.validName a<;>cases Kerb.validInst b<;>rfl
 ·cases h
theorem w86:Walked Tryz.prog G 86 3 sp86:=by
 refine ⟨Tryz.f86,Tryz.func86,by decide +kernel,rfl,fun xs bl r h=> ?_⟩
 unfold sp86 at h
 split at h
 ·rename_i b els
  obtain ⟨hpre,h2⟩:=chk_inv h;cases h2
  refine Eq.trans (b:=(sel (!Kerb.Head.err (Wj b)==0) (some (Yy [Zw false,Zz .i64 (Kerb.Head.err (Wj b))],[])) (Zj (chk (allInts els&&decide (Zx els≤1000)) (some (Zw (List.contains (intsIn els) (Kerb.Head.kind (Wj b))),[]))) fun (r:AV×Blocks)=>onNilB (Zf r) (Wy (Yv r) fun b_1=>sel (!b_1) (some (Yy [Zw false,Zz .i64 40],[])) (some (Yy [Zw (Kerb.Head.little (Wj b)),Zz .i64 0],[])))):Option (AV×Blocks))) (by kernel_rfl) ?_
  simp only [A0]
  unfold Kerb.headIs
  by_cases h:(Wj b).err=0
  ·rw [sel_neg (by simp [h]),chk_of hpre]
   cases hc:(intsIn els).contains (Wj b).kind<;>simp [sel,h,hc]
  ·rw [sel_pos (by simpa using h)]
   simp [h]
 ·cases h
theorem w96:Walked Tryz.prog G 96 3 sp96:=by
 refine ⟨Tryz.f96,Tryz.func96,by decide +kernel,rfl,fun xs bl r h=> ?_⟩
 unfold sp96 at h
 split at h
 ·rename_i kls x y z v
  obtain ⟨hpre,h2⟩:=chk_inv h;cases h2
  refine Eq.trans (b:=(Zj (chk (List.all kls Kerb.isSKey&&decide (Zx kls≤1000000)) (some (Zz .i64 (↑(Xy (List.map Kerb.toSKey kls) (Kerb.Prin.mk x y z) v):Int),[]))) fun (r:AV×Blocks)=>onNilB (Zf r) (Wz .i64 (Yv r) fun n=>sel (n==(↑(Zx kls):Int)) (some (Yy [Zz .u64 0,Zw false],[])) (chk (decide (0≤n)&&decide (n<(↑(Zx kls):Int))&&true) (Wq (Yz kls (Zu n) Xz) fun cs=>onCons cs fun x r=>Ww x fun b=>onCons r fun x r=>Ww x fun b=>onCons r fun x r=>Ww x fun b=>onCons r fun x r=>Wz .i64 x fun n=>onCons r fun x r=>Wz .u64 x fun n=>onNil r (some (Yy [Zz .u64 n,Zw true],[]))))):Option (AV×Blocks))) (by kernel_rfl) ?_
  simp only [Zd,decide_eq_true_eq] at hpre
  obtain ⟨hall,hlen⟩:=hpre
  obtain ⟨cs,rfl,hok⟩:=Vk hall
  simp only [Kerb.map_toSKey,Yk,↓A0,A0] at hlen ⊢
  rw [chk_of (by rw [hall];simp;omega)]
  have hle:=Kerb.skAt_le cs ⟨x,y,z⟩ v
  unfold Kerb.skFind
  by_cases h:Xy cs ⟨x,y,z⟩ v<cs.length
  ·rw [sel_neg (by simp;omega),chk_of (by simp;omega),Zm,Xh (d:=Xf) h,if_pos h]
   simp only [Yq,↓A0,A0]
  ·rw [sel_pos (by simp;omega),if_neg h]
 ·cases h
theorem w101:Walked Tryz.prog G 101 3 sp101:=by
 refine ⟨Tryz.f101,Tryz.func101,by decide +kernel,rfl,fun xs bl r h=> ?_⟩
 unfold sp101 at h
 split at h
 ·rename_i i l n s
  cases h
  refine Eq.trans (b:=(sel (!Zp i 4294967295) (some (Zz .i64 104,[])) (sel (!Zp n 4294967295) (some (Zz .i64 104,[])) (sel (!Zp l 255) (some (Zz .i64 104,[])) (sel (!Zp s 4294967295) (some (Zz .i64 104,[])) (sel (decide (i>Zy .i64 (n+s))) (some (Zz .i64 33,[])) (sel (decide (n>Zy .i64 (Vw i l+s))) (some (Zz .i64 32,[])) (some (Zz .i64 0,[]))))))):Option (AV×Blocks))) (by kernel_rfl) ?_
  unfold Kerb.stateErr
  cases h1:Zp i 4294967295
  ·rfl
  cases h2:Zp n 4294967295
  ·rfl
  cases h3:Zp l 255
  ·rfl
  cases h4:Zp s 4294967295
  ·rfl
  have b1:=Kerb.within_iff.1 h1
  have b2:=Kerb.within_iff.1 h2
  have b3:=Kerb.within_iff.1 h3
  have b4:=Kerb.within_iff.1 h4
  have he:Vw i l=i+300*(l+1):=by simp [Vw,h1,h3]
  simp only [Yd,sel_false,Wk,Bool.false_eq_true,if_false,he]
  rw [wrap_i64 (by omega) (by omega),wrap_i64 (by omega) (by omega)]
  by_cases h5:n+s<i
  ·rw [sel_pos (by simpa using h5),if_pos h5]
  rw [sel_neg (by simpa using h5),if_neg h5]
  by_cases h6:i+300*(l+1)+s<n
  ·rw [sel_pos (by simpa using h6),if_pos h6]
  rw [sel_neg (by simpa using h6),if_neg h6]
 ·cases h
theorem w112:Walked Tryz.prog G 112 3 sp112:=by
 refine ⟨Tryz.f112,Tryz.func112,by decide +kernel,rfl,fun xs bl r h=> ?_⟩
 unfold sp112 at h
 split at h
 ·rename_i b
  obtain ⟨hpre,h2⟩:=chk_inv h;cases h2
  refine Eq.trans (b:=(chk (decide (0≤Zg (Zy .i64 (8-Zg (↑(Zx b):Int) 8)) 8)&&decide (Zg (Zy .i64 (8-Zg (↑(Zx b):Int) 8)) 8≤Zg (Zy .i64 (8-Zg (↑(Zx b):Int) 8)) 8)&&decide (Zg (Zy .i64 (8-Zg (↑(Zx b):Int) 8)) 8≤140737488355328)) (Zj (chk (decide (Zx (List.append b (List.append (Wv (Zu (Zg (Zy .i64 (8-Zg (↑(Zx b):Int) 8)) 8)) (0:UInt8)) []))≤140737488355328)&&decide (Zx [Zn b,Zn (Wv (Zu (Zg (Zy .i64 (8-Zg (↑(Zx b):Int) 8)) 8)) (0:UInt8))]≤1000)) (some (Zh (List.append b (List.append (Wv (Zu (Zg (Zy .i64 (8-Zg (↑(Zx b):Int) 8)) 8)) (0:UInt8)) [])),[]))) fun (r:AV×Blocks)=>onNilB (Zf r) (Xw (Yv r) fun l=>some (Zn l,[]))):Option (AV×Blocks))) (by kernel_rfl) ?_
  have hb:=of_decide_eq_true hpre
  rw [Kerb.pad_eq hb]
  simp only [A0]
  rw [chk_of (by simp;omega),chk_of (by simp;omega)]
  simp [Kerb.pad]
  omega
 ·cases h
theorem w114:Walked Tryz.prog G 114 3 sp114:=by
 refine ⟨Tryz.f114,Tryz.func114,by decide +kernel,rfl,fun xs bl r h=> ?_⟩
 unfold sp114 at h
 split at h
 ·rename_i k
  obtain ⟨hpre,h2⟩:=chk_inv h;cases h2
  refine Eq.trans (b:=(Zj (chk (decide (0≤k)&&decide (k<18446744073709551616)) (some (Yy [Zz .i64 (bif Xm k then Kerb.keyClass k else 0),Zz .i64 (bif Xm k then Kerb.keySerial k else 0),Zw (Xm k)],[]))) fun (r:AV×Blocks)=>onNilB (Zf r) (AV.onTup (Yv r) fun vs=>onCons vs fun x r=>Wz .i64 x fun n=>onCons r fun x r=>Wz .i64 x fun n=>onCons r fun x r=>Wy x fun b=>onNil r (some (Zw b,[]))):Option (AV×Blocks))) (by kernel_rfl) ?_
  simp only [A0]
  rw [chk_of hpre]
 ·cases h
theorem w120:Walked Tryz.prog G 120 3 sp120:=by
 refine ⟨Tryz.f120,Tryz.func120,by decide +kernel,rfl,fun xs bl r h=> ?_⟩
 unfold sp120 at h
 split at h
 ·rename_i b little
  obtain ⟨hpre,h2⟩:=chk_inv h;cases h2
  refine Eq.trans (b:=(sel little (Zj (chk (decide (Zx b≤70368744177664)) (some (Zh (b++Xv 1 1 false),[]))) fun (r:AV×Blocks)=>onNilB (Zf r) (Xw (Yv r) fun l=>some (Zh l,[]))) (Zj (chk (decide (Zx b≤70368744177664)) (some (Zh (b++Xv 0 1 false),[]))) fun (r:AV×Blocks)=>onNilB (Zf r) (Xw (Yv r) fun l=>some (Zh l,[]))):Option (AV×Blocks))) (by kernel_rfl) ?_
  simp only [A0]
  rw [chk_of hpre,chk_of hpre]
  cases little<;>rfl
 ·cases h
theorem w135:Walked Tryz.prog G 135 3 sp135:=by
 refine ⟨Tryz.f135,Tryz.func135,by decide +kernel,rfl,fun xs bl r h=> ?_⟩
 unfold sp135 at h
 split at h
 ·rename_i b
  obtain ⟨hpre,h2⟩:=chk_inv h;cases h2
  refine Eq.trans (b:=(sel (!(↑(Zx b):Int)==8) (some (Yy [Zz .u64 0,Zw false],[])) (Zj (loopM (fun (st:List AV)=>cBs st fun b r=>cInt .u64 r fun n r=>cInt .i64 r fun n_1 r=>onNil r (sel (decide (n_1<8)) (chk (decide (0≤n_1)&&decide (n_1<(↑(Zx b):Int))) (some (Xu [Zn b,Zz .u64 (Zy .u64 (↑(BitVec.toNat (BitVec.ofInt (Zk .u64) (Zy .u64 (n*2 ^ min (Zu 8) (Zk .u64))) ||| BitVec.ofInt (Zk .u64) (Zy .u64 (↑(Ym (Yz b (Zu n_1) (0:UInt8))):Int)))):Int)),Zz .i64 (Zy .i64 (n_1+1))]))) (some (Yf (Yn 0,[Zn b,Zz .u64 n,Zz .i64 n_1]))))) [Zn b,Zz .u64 0,Zz .i64 0]) fun (r:Ex×List AV)=>cBs (Zf r) fun b r_1=>cInt .u64 r_1 fun n r_2=>cInt .i64 r_2 fun n_1 r_3=>onNil r_3 (exK r.1 none fun (j:Nat)=>sel (Xn j 0) (Zj (chk (decide (0≤n)&&decide (n<18446744073709551616)) (some (Zw (Xm n),[]))) (kL fun b=>sel (!b) (some (Yy [Zz .u64 0,Zw false],[])) (some (Yy [Zz .u64 n,Zw true],[])))) none)):Option (AV×Blocks))) (by kernel_rfl) ?_
  delta kL
  try dsimp only [cStr,cBs,cBool,cU8,cInt,cSl,l63]
  have hb:=of_decide_eq_true hpre
  unfold Kerb.keyRead
  by_cases h8:b.length=8
  case neg =>
   rw [sel_pos (by simp;omega),if_neg (by omega)]
  rw [sel_neg (by simp [h8])]
  refine loop_rounds (fun i:Nat=>[Zn b,Zz Yp (Kerb.valB (b.take i)),Zz Zv (i:Int)]) (fun i=>i≤8) (fun i=>8-i)
   (fun r=>r=(Yn 0,[Zn b,Zz Yp (Kerb.valB b),Zz Zv 8])) 0 (by omega) rfl ?_ ?_
  ·intro i hi
   simp only [A0]
   by_cases hlt:i<8
   ·have hv:=Kerb.valB_take (l:=b) (i:=i) (by omega)
    have hbd:=Kerb.valB_bd7 (l:=b.take i) (by simp;omega)
    rw [sel_pos (by simp;omega),chk_of (by simp;omega),Zm,Kerb.shl8_oru _ hbd.1 hbd.2,wrap_i64 (by omega) (by omega),← hv]
    exact ⟨_,rfl,i+1,rfl,by omega,by dsimp only;omega⟩
   ·rw [sel_neg (by simp;omega)]
    refine ⟨_,rfl,?_⟩
    show _=_
    rw [Yj (by omega),show i=8 from by omega]
    rfl
  rintro r rfl
  have hbd:=Kerb.valB_bd8 (l:=b) (by omega)
  simp only [A0]
  rw [sel_pos (Yu _),chk_of (by simp;omega)]
  cases hv:Xm (Kerb.valB b)
  ·rw [if_neg (by simp)]
   rfl
  ·rw [if_pos ⟨h8,rfl⟩]
   rfl
 ·cases h
theorem w136:Walked Tryz.prog G 136 3 sp136:=by
 refine ⟨Tryz.f136,Tryz.func136,by decide +kernel,rfl,fun xs bl r h=> ?_⟩
 unfold sp136 at h
 split at h
 ·rename_i b pos
  obtain ⟨hpre,h2⟩:=chk_inv h;cases h2
  refine Eq.trans (b:=(Zj (chk (decide (Zx b≤140737488355328)&&true&&true) (some (Yy [Zz .i64 (Kerb.Got.val (Kerb.get b pos 1 false)),Zz .i64 (Kerb.Got.next (Kerb.get b pos 1 false)),Zz .i64 (Kerb.Got.err (Kerb.get b pos 1 false))],[]))) fun (r:AV×Blocks)=>onNilB (Zf r) (AV.onTup (Yv r) fun vs=>onCons vs fun x r=>Wz .i64 x fun n=>onCons r fun x r=>Wz .i64 x fun n_1=>onCons r fun x r=>Wz .i64 x fun n_2=>onNil r (some (Yy [Zz .i64 n,Zz .i64 n_1,Zz .i64 n_2],[]))):Option (AV×Blocks))) (by kernel_rfl) ?_
  simp only [A0]
  rw [chk_of (by rw [hpre];rfl)]
 ·cases h
end Go.Proofs.YtiplnpablmohiaaGreat
