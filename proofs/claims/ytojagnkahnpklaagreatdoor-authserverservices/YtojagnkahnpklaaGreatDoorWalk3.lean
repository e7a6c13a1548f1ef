/- What the functions of this seat compute. -/
import Derived.Test.YtojagnkahnpklaaGreatDoorTab
import Derived.Test.YtojagnkahnpklaaGreatDoorKerbPlain
import Derived.Test.YtojagnkahnpklaaGreatDoorAbsStep
import Derived.Test.YtojagnkahnpklaaGreatDoorKerbCli3
import Derived.Test.YtojagnkahnpklaaGreatDoorKerbCli4
import Derived.Test.YtojagnkahnpklaaGreatDoorKerbCli5
import Derived.Test.YtojagnkahnpklaaGreatDoorKerbSrvL
import Derived.Test.YtojagnkahnpklaaGreatDoorKerbKac2
import Derived.Test.YtojagnkahnpklaaGreatDoorKerbKac4
import Derived.Test.YtojagnkahnpklaaGreatDoorKerbSrvP
open List renaming length→Zz,append→Zg,map→Xh
open Kerb renaming putPrin_len→Zy,keyBytes_len→Zw,putN_len→Zq,within→Zf,decodeRequest→Zb,putN→Zm,putText→Yu,prin→Yq,text→Yk,headIs→Yg,encodePart→Yh,get→Xx,realm→Xq,u8i→Xj,putPrin→Xk,refuse→Xd,valid_len→Wz,encodeRequest→Wy,header→Ww,encodeTicket→Wv
open Option renaming bind→Zx
open Go.Abs.AV renaming int→Zv,str→Zu,bs→Zk,tup→Zd,ownB→Yx,agg→Yw,bool→Yv,u8→Xn,sl→Xm,onInt→Wx
open Kerb.Prin renaming mk→Zj,valid→Zh,realm→Yb,name→Xz,inst→Xy
open Go.IntKind renaming i64→Zp,wrap→Yy
open Bool renaming not_true→Zn,and_eq_true→Yz,and_self→Yf
open Kerb.ReplyPart renaming mk→Yj,service→Xg
open Kerb.KdcRequest renaming client→Yp
open Kerb.DecReq renaming val→Yd
open Kerb.Enc renaming val→Yn,err→Ym
open Int renaming toNat→Xw,tmod→Xf
open Prod renaming snd→Xv,fst→Xu
open Kerb.Ticket renaming mk→Xp
open Kerb.Entry renaming av→Xb
namespace Go.Proofs.YtojagnkahnpklaaGreatDoor
open Go Go.Abs Go.Proofs
set_option linter.unusedVariables false
set_option linter.unusedSimpArgs false
set_option maxRecDepth 100000
theorem w60:Walked Tryz.prog G 60 8 sp60:=by
 refine ⟨Tryz.f60,Tryz.func60,by decide +kernel,rfl,fun xs bl r h=> ?_⟩
 unfold sp60 at h
 split at h
 ·rename_i b pos
  obtain ⟨hpre,h2⟩:=chk_inv h;cases h2
  refine Eq.trans (b:=(Zx (loopM (fun (st:List AV)=>cBs st fun b r=>cInt .i64 r fun n r=>let t0:Option (AV×Blocks):=chk (decide (Zz b≤4611686018427387904)) (some (Zd [Zu (Kerb.GotB.val (Yk b n)),Zv .i64 (Kerb.GotB.next (Yk b n)),Zv .i64 (Kerb.GotB.err (Yk b n))],[]));cStr r fun b_1 r=>cStr r fun b_2 r=>cStr r fun b_3 r=>cInt .i64 r fun n_1 r=>cInt .i64 r fun n_2 r=>cStr r fun b_4 r=>cStr r fun b_5 r=>cStr r fun b_6 r=>cInt .i64 r fun n_3 r=>cInt .i64 r fun n_4 r=>let t1:List AV:=[Zu b_6,Zv .i64 n_3,Zv .i64 (Yy .i64 (n_4+1))];onNil r (sel (decide (n_4<n_3)) (chk (decide (0≤n_4)&&decide (n_4<(↑(Zz [0,1,2]):Int))&&true) (sel (Nat.beq (Xw n_4) 0) (Zx t0 (kT fun vs=>cStr vs fun b_7 r=>cInt .i64 r fun n r=>cInt .i64 r fun n_5 r=>onNil r (sel (!n_5==0) (some (Sum.inr (Ex.ret,[Zk b,Zv .i64 n,Zu [],Zu [],Zu [],Zv .i64 0,Zv .i64 n_5,Zu b_7,Zu b_5,Zu b_6,Zv .i64 n_3,Zv .i64 n_4]))) (some (Sum.inl (Zk b::Zv .i64 n::Zu b_1::Zu b_2::Zu b_3::Zv .i64 n_1::Zv .i64 n_2::Zu b_7::Zu b_5::t1)))))) (sel (Nat.beq (Xw n_4-1) 0) (Zx t0 (kT fun vs=>cStr vs fun b_7 r=>cInt .i64 r fun n r=>cInt .i64 r fun n_5 r=>onNil r (sel (!n_5==0) (some (Sum.inr (Ex.ret,[Zk b,Zv .i64 n,Zu [],Zu [],Zu [],Zv .i64 0,Zv .i64 n_5,Zu b_4,Zu b_7,Zu b_6,Zv .i64 n_3,Zv .i64 n_4]))) (some (Sum.inl (Zk b::Zv .i64 n::Zu b_1::Zu b_2::Zu b_3::Zv .i64 n_1::Zv .i64 n_2::Zu b_4::Zu b_7::t1)))))) (sel (Nat.beq (Xw n_4-1-1) 0) (Zx t0 (kT fun vs=>cStr vs fun b_7 r=>cInt .i64 r fun n r=>cInt .i64 r fun n_5 r=>onNil r (sel (!n_5==0) (some (Sum.inr (Ex.ret,[Zk b,Zv .i64 n,Zu [],Zu [],Zu [],Zv .i64 0,Zv .i64 n_5,Zu b_4,Zu b_5,Zu b_7,Zv .i64 n_3,Zv .i64 n_4]))) (some (Sum.inl [Zk b,Zv .i64 n,Zu b_1,Zu b_2,Zu b_3,Zv .i64 n_1,Zv .i64 n_2,Zu b_4,Zu b_5,Zu b_7,Zv .i64 n_3,Zv .i64 (Yy .i64 (n_4+1))]))))) none)))) (some (Sum.inr (Ex.exit 0,[Zk b,Zv .i64 n,Zu b_1,Zu b_2,Zu b_3,Zv .i64 n_1,Zv .i64 n_2,Zu b_4,Zu b_5,Zu b_6,Zv .i64 n_3,Zv .i64 n_4]))))) [Zk b,Zv .i64 pos,Zu [],Zu [],Zu [],Zv .i64 0,Zv .i64 0,Zu [],Zu [],Zu [],Zv .i64 (↑(Zz [0+0,0+1,0+2]):Int),Zv .i64 0]) fun (r:Ex×List AV)=>cBs (Xv r) fun b r_1=>cInt .i64 r_1 fun n r_2=>cStr r_2 fun b r_3=>cStr r_3 fun b_1 r_4=>cStr r_4 fun b_2 r_5=>cInt .i64 r_5 fun n_1 r_6=>cInt .i64 r_6 fun n_2 r_7=>cStr r_7 fun b_3 r_8=>cStr r_8 fun b_4 r_9=>cStr r_9 fun b_5 r_10=>cInt .i64 r_10 fun n_3 r_11=>cInt .i64 r_11 fun n_4 r_12=>onNil r_12 (exK r.1 (some (Zd [Yw [Zu b,Zu b_1,Zu b_2],Zv .i64 n_1,Zv .i64 n_2],[])) fun (j:Nat)=>sel (Nat.beq j 0) (Zx (chk (l63 b_3&&l63 b_4&&l63 b_5) (some (Yv (Zh (Zj b_3 b_4 b_5)),[]))) (kL fun b=>sel (!b) (some (Zd [Yw [Zu [],Zu [],Zu []],Zv .i64 0,Zv .i64 103],[])) (some (Zd [Yw [Zu b_3,Zu b_4,Zu b_5],Zv .i64 n,Zv .i64 0],[])))) none):Option (AV×Blocks))) (by kernel_rfl) ?_
  delta kT kL
  try dsimp only [cStr,cBs,cBool,cU8,cInt,cSl,l63]
  have hb:=of_decide_eq_true hpre
  obtain ⟨T0,hT0⟩:∃ T,T=Yk b pos:=⟨_,rfl⟩
  obtain ⟨T1,hT1⟩:∃ T,T=Yk b T0.next:=⟨_,rfl⟩
  obtain ⟨T2,hT2⟩:∃ T,T=Yk b T1.next:=⟨_,rfl⟩
  have hp:Yq b pos=if T0.err≠0 then ⟨Kerb.noPrin,0,T0.err⟩ else if T1.err≠0 then ⟨Kerb.noPrin,0,T1.err⟩ else if T2.err≠0 then ⟨Kerb.noPrin,0,T2.err⟩
    else if Zh ⟨T0.val,T1.val,T2.val⟩ then ⟨⟨T0.val,T1.val,T2.val⟩,T2.next,0⟩ else ⟨Kerb.noPrin,0,103⟩:=by
   rw [hT2,hT1,hT0];rfl
  have k0:=Kerb.text_len b pos
  rw [← hT0] at k0
  have k1:=Kerb.text_len b T0.next
  rw [← hT1] at k1
  have k2:=Kerb.text_len b T1.next
  rw [← hT2] at k2
  refine loop_rounds (fun i:Nat=>match i with
    | 0=>[Zk b,Zv Zp pos,Zu [],Zu [],Zu [],Zv Zp 0,Zv Zp 0,Zu [],Zu [],Zu [],Zv Zp 3,Zv Zp 0]
    | 1=>[Zk b,Zv Zp T0.next,Zu [],Zu [],Zu [],Zv Zp 0,Zv Zp 0,Zu T0.val,Zu [],Zu [],Zv Zp 3,Zv Zp 1]
    | 2=>[Zk b,Zv Zp T1.next,Zu [],Zu [],Zu [],Zv Zp 0,Zv Zp 0,Zu T0.val,Zu T1.val,Zu [],Zv Zp 3,Zv Zp 2]
    | _=>[Zk b,Zv Zp T2.next,Zu [],Zu [],Zu [],Zv Zp 0,Zv Zp 0,Zu T0.val,Zu T1.val,Zu T2.val,Zv Zp 3,Zv Zp 3])
   (fun i=>i≤3∧(1≤i→T0.err=0)∧(2≤i→T1.err=0)∧(3≤i→T2.err=0)) (fun i=>3-i)
   (fun r=>(T0.err=0∧T1.err=0∧T2.err=0∧r=(Ex.exit 0,[Zk b,Zv Zp T2.next,Zu [],Zu [],Zu [],Zv Zp 0,Zv Zp 0,Zu T0.val,Zu T1.val,Zu T2.val,Zv Zp 3,Zv Zp 3])) ∨
    ∃ n x y z i,Yq b pos=⟨Kerb.noPrin,0,(Yq b pos).err⟩∧r=(Ex.ret,[Zk b,Zv Zp n,Zu [],Zu [],Zu [],Zv Zp 0,Zv Zp (Yq b pos).err,Zu x,Zu y,Zu z,Zv Zp 3,Zv Zp i])) 0 ⟨by omega,by omega,by omega,by omega⟩ rfl ?_ ?_
  ·rintro i ⟨hi,g0,g1,g2⟩
   have hc:i=0∨i=1∨i=2∨i=3:=by omega
   rcases hc with rfl | rfl | rfl | rfl
   ·simp only [A0]
    rw [sel_pos (by decide),chk_of (by decide),sel_pos (by decide),chk_of hpre,← hT0]
    by_cases h:T0.err=0
    ·rw [sel_neg (by simp [h])]
     exact ⟨_,rfl,1,rfl,⟨by omega,fun _=>h,by omega,by omega⟩,by dsimp only;omega⟩
    ·rw [sel_pos (by simpa using h)]
     exact ⟨_,rfl,.inr ⟨_,_,_,_,_,by rw [hp,if_pos h],by rw [hp,if_pos h]⟩⟩
   ·simp only [A0]
    have e0:=g0 (by omega)
    rw [sel_pos (by decide),chk_of (by decide),sel_neg (by decide),sel_pos (by decide),chk_of hpre,← hT1]
    by_cases h:T1.err=0
    ·rw [sel_neg (by simp [h])]
     exact ⟨_,rfl,2,rfl,⟨by omega,fun _=>e0,fun _=>h,by omega⟩,by dsimp only;omega⟩
    ·rw [sel_pos (by simpa using h)]
     exact ⟨_,rfl,.inr ⟨_,_,_,_,_,by rw [hp,if_neg (by simp [e0]),if_pos h],by rw [hp,if_neg (by simp [e0]),if_pos h]⟩⟩
   ·simp only [A0]
    have e0:=g0 (by omega)
    have e1:=g1 (by omega)
    rw [sel_pos (by decide),chk_of (by decide),sel_neg (by decide),sel_neg (by decide),sel_pos (by decide),chk_of hpre,← hT2]
    by_cases h:T2.err=0
    ·rw [sel_neg (by simp [h])]
     exact ⟨_,rfl,3,rfl,⟨by omega,fun _=>e0,fun _=>e1,fun _=>h⟩,by dsimp only;omega⟩
    ·rw [sel_pos (by simpa using h)]
     exact ⟨_,rfl,.inr ⟨_,_,_,_,_,by rw [hp,if_neg (by simp [e0]),if_neg (by simp [e1]),if_pos h],by rw [hp,if_neg (by simp [e0]),if_neg (by simp [e1]),if_pos h]⟩⟩
   ·simp only [A0]
    rw [sel_neg (by decide)]
    exact ⟨_,rfl,.inl ⟨g0 (by omega),g1 (by omega),g2 (by omega),rfl⟩⟩
  ·rintro r (⟨e0,e1,e2,rfl⟩ | ⟨n,x,y,z,i,h,rfl⟩)
   ·simp only [A0]
    rw [sel_pos (Nat.beq_refl _),chk_of (by simp;omega),hp,if_neg (by simp [e0]),if_neg (by simp [e1]),if_neg (by simp [e2])]
    cases hv:Zh ⟨T0.val,T1.val,T2.val⟩
    ·rfl
    ·rfl
   ·simp only [A0]
    rw [h]
    rfl
 ·cases h
theorem w64:Walked Tryz.prog G 64 8 sp64:=by
 refine ⟨Tryz.f64,Tryz.func64,by decide +kernel,rfl,fun xs bl r h=> ?_⟩
 unfold sp64 at h
 split at h
 ·rename_i li x y z t lf sv ins
  obtain ⟨hpre,h2⟩:=chk_inv h;cases h2
  refine Eq.trans (b:=(let t0:Option (AV×Blocks):=some (Zd [Zk [],Zv .i64 103],[]);let t1:Nat:=Zz (Ww 1 li)+Zz x+Zz y+Zz z;Zx (chk (l63 x&&l63 y&&l63 z) (some (Yv (Zh (Zj x y z)),[]))) (kL fun b=>sel (!b) t0 (Zx (chk (l63 sv) (some (Yv (Kerb.validName sv),[]))) (kL fun b=>sel (!b) t0 (Zx (chk (l63 ins) (some (Yv (Kerb.validInst ins),[]))) (kL fun b=>sel (!b) t0 (sel (!Zf t 4294967295) (some (Zd [Zk [],Zv .i64 104],[])) (sel (!Zf lf 255) (some (Zd [Zk [],Zv .i64 104],[])) (Zx (chk (decide (t1≤70368744170000)) (some (Zk (Xk (Ww 1 li) (Zj x y z)),[]))) (kB fun b=>Zx (chk (decide (Zz b≤70368744177664)) (some (Yx (b++Zm t 4 li),[]))) (kO fun l=>Zx (chk (decide (Zz l≤70368744177664)) (some (Yx (l++Zm lf 1 false),[]))) (kO fun l=>Zx (chk (decide (Zz l+Zz sv≤70368744177664)) (some (Zk (Yu l sv),[]))) (kB fun b=>Zx (chk (decide (Zz b+Zz ins≤70368744177664)) (some (Zk (Yu b ins),[]))) (kB fun b=>some (Zd [Zk b,Zv .i64 0],[])))))))))))))):Option (AV×Blocks))) (by kernel_rfl) ?_
  delta kB kO kL
  try dsimp only [cStr,cBs,cBool,cU8,cInt,cSl,l63]
  simp only [Yz,decide_eq_true_eq] at hpre
  obtain ⟨⟨⟨⟨q1,q2⟩,q3⟩,q4⟩,q5⟩:=hpre
  simp only [A0]
  unfold Wy
  rw [chk_of (by simp [q1,q2,q3])]
  cases h1:Zh ⟨x,y,z⟩
  ·rfl
  rw [Zn,sel_false,chk_of (by simp [q4])]
  cases h2:Kerb.validName sv
  ·rfl
  rw [Zn,sel_false,chk_of (by simp [q5])]
  cases h3:Kerb.validInst ins
  ·rfl
  rw [Zn,sel_false]
  cases h4:Zf t 4294967295
  ·rfl
  rw [Zn,sel_false]
  cases h5:Zf lf 255
  ·rfl
  rw [Zn,sel_false]
  have l1:=Wz h1
  have l2:=Kerb.validName_len h2
  have l3:=Kerb.validInst_len h3
  have l4:=Kerb.header_len 1 li
  simp only at l1
  rw [chk_of (by simp;omega),chk_of (by simp [Zy];omega),chk_of (by simp [Zy,Zq];omega),chk_of (by simp [Zy,Zq];omega),chk_of (by simp [Kerb.putText_len,Zy,Zq];omega)]
  rfl
 ·cases h
theorem w68:Walked Tryz.prog G 68 8 sp68:=by
 refine ⟨Tryz.f68,Tryz.func68,by decide +kernel,rfl,fun xs bl r h=> ?_⟩
 unfold sp68 at h
 split at h
 ·rename_i li x y z t cd tx
  obtain ⟨hpre,h2⟩:=chk_inv h;cases h2
  refine Eq.trans (b:=(let t0:Option (AV×Blocks):=some (Zd [Zk [],Zv .i64 104],[]);let t1:Nat:=Zz (Ww 5 li)+Zz x+Zz y+Zz z;Zx (chk (l63 x&&l63 y&&l63 z) (some (Yv (Zh (Zj x y z)),[]))) (kL fun b=>sel (!b) (some (Zd [Zk [],Zv .i64 103],[])) (sel (!Zf t 4294967295) t0 (sel (decide (cd<1)) t0 (sel (decide (cd>99)) t0 (sel (decide ((↑(Zz tx):Int)>39)) (some (Zd [Zk [],Zv .i64 105],[])) (sel (decide (Kerb.indexOf (0:UInt8) tx≥0)) (some (Zd [Zk [],Zv .i64 100],[])) (Zx (chk (decide (t1≤70368744170000)) (some (Zk (Xk (Ww 5 li) (Zj x y z)),[]))) (kB fun b=>Zx (chk (decide (Zz b≤70368744177664)) (some (Yx (b++Zm t 4 li),[]))) (kO fun l=>Zx (chk (decide (Zz l≤70368744177664)) (some (Yx (l++Zm cd 4 li),[]))) (kO fun l=>Zx (chk (decide (Zz l+Zz tx≤70368744177664)) (some (Zk (Yu l tx),[]))) (kB fun b=>some (Zd [Zk b,Zv .i64 0],[])))))))))))):Option (AV×Blocks))) (by kernel_rfl) ?_
  delta kB kO kL
  try dsimp only [cStr,cBs,cBool,cU8,cInt,cSl,l63]
  simp only [Yz,decide_eq_true_eq] at hpre
  obtain ⟨⟨⟨q1,q2⟩,q3⟩,q4⟩:=hpre
  simp only [A0]
  unfold Kerb.encodeError
  rw [chk_of (by simp [q1,q2,q3])]
  cases h1:Zh ⟨x,y,z⟩
  ·rfl
  rw [Zn,sel_false]
  cases h4:Zf t 4294967295
  ·rfl
  rw [Zn,sel_false]
  by_cases h5:1≤cd
  case neg =>
   rw [sel_pos (by simp;omega),if_neg (by simp),if_pos (by simp;omega)]
  by_cases h6:cd≤99
  case neg =>
   rw [sel_neg (by simp;omega),sel_pos (by simp;omega),if_neg (by simp),if_pos (by simp;omega)]
  rw [sel_neg (by simp;omega),sel_neg (by simp;omega),if_neg (by simp),if_neg (by simp;omega)]
  by_cases h7:39<tx.length
  ·rw [sel_pos (by simp;omega),if_pos h7]
  have l1:=Wz h1
  have l4:=Kerb.header_len 5 li
  simp only at l1
  rw [sel_neg (by simp;omega),if_neg h7]
  have hix:=Kerb.indexOf_nonneg 0 tx
  by_cases h8:(0:UInt8)∈tx
  ·rw [sel_pos (by simpa using hix.2 h8),if_pos h8]
  ·rw [sel_neg (by have:=mt hix.1 h8;simp;omega),if_neg h8]
   rw [chk_of (by simp;omega),chk_of (by simp [Zy];omega),chk_of (by simp [Zy,Zq];omega),chk_of (by simp [Zy,Zq];omega)]
 ·cases h
theorem w72:Walked Tryz.prog G 72 8 sp72:=by
 refine ⟨Tryz.f72,Tryz.func72,by decide +kernel,rfl,fun xs bl r h=> ?_⟩
 unfold sp72 at h
 split at h
 ·rename_i k x y z lf kv tk t little
  obtain ⟨hpre,h2⟩:=chk_inv h;cases h2
  refine Eq.trans (b:=(let t0:Option (AV×Blocks):=some (Zd [Zk [],Zv .i64 104],[]);let t1:List UInt8:=[]++Zm 0 1 false;let t2:List UInt8:=[]++Zm 1 1 false;let t3:Option (AV×Blocks):=chk (decide (0≤k)&&decide (k<18446744073709551616)) (some (Zk (Kerb.keyBytes k),[]));Zx (chk (decide (0≤k)&&decide (k<18446744073709551616)) (some (Yv (Kerb.keyValid k),[]))) (kL fun b=>sel (!b) (some (Zd [Zk [],Zv .i64 10],[])) (Zx (chk (l63 x&&l63 y&&l63 z) (some (Yv (Zh (Zj x y z)),[]))) (kL fun b=>sel (!b) (some (Zd [Zk [],Zv .i64 103],[])) (sel (!Zf lf 255) t0 (sel (!Zf kv 255) t0 (sel (!Zf t 4294967295) t0 (sel (decide ((↑(Zz tk):Int)>255)) (some (Zd [Zk [],Zv .i64 105],[])) (sel little (Zx t3 (kB fun b=>Zx (chk (decide (Zz (Zg t2 (Zg b []))≤140737488355328)&&decide (Zz [Zk t2,Zk b]≤1000)) (some (Yx (Zg t2 (Zg b [])),[]))) (kO fun l=>Zx (chk (decide (Zz l+Zz x+Zz y+Zz z≤70368744170000)) (some (Zk (Xk l (Zj x y z)),[]))) (kB fun b=>Zx (chk (decide (Zz b≤70368744177664)) (some (Yx (b++Zm lf 1 false),[]))) (kO fun l=>Zx (chk (decide (Zz l≤70368744177664)) (some (Yx (l++Zm kv 1 false),[]))) (kO fun l=>Zx (chk (decide (Zz l≤70368744177664)) (some (Yx (l++Zm (↑(Zz tk):Int) 1 false),[]))) (kO fun l=>Zx (chk (decide (Zz (Zg l (Zg tk []))≤140737488355328)&&decide (Zz [Zk l,Zk tk]≤1000)) (some (Yx (Zg l (Zg tk [])),[]))) (kO fun l=>Zx (chk (decide (Zz l≤70368744177664)) (some (Yx (l++Zm t 4 little),[]))) (kO fun l=>Zx (chk (decide (Zz l≤70368744177664)) (some (Zk (Kerb.pad l),[]))) (kB fun b=>some (Zd [Zk b,Zv .i64 0],[]))))))))))) (Zx t3 (kB fun b=>Zx (chk (decide (Zz (Zg t1 (Zg b []))≤140737488355328)&&decide (Zz [Zk t1,Zk b]≤1000)) (some (Yx (Zg t1 (Zg b [])),[]))) (kO fun l=>Zx (chk (decide (Zz l+Zz x+Zz y+Zz z≤70368744170000)) (some (Zk (Xk l (Zj x y z)),[]))) (kB fun b=>Zx (chk (decide (Zz b≤70368744177664)) (some (Yx (b++Zm lf 1 false),[]))) (kO fun l=>Zx (chk (decide (Zz l≤70368744177664)) (some (Yx (l++Zm kv 1 false),[]))) (kO fun l=>Zx (chk (decide (Zz l≤70368744177664)) (some (Yx (l++Zm (↑(Zz tk):Int) 1 false),[]))) (kO fun l=>Zx (chk (decide (Zz (Zg l (Zg tk []))≤140737488355328)&&decide (Zz [Zk l,Zk tk]≤1000)) (some (Yx (Zg l (Zg tk [])),[]))) (kO fun l=>Zx (chk (decide (Zz l≤70368744177664)) (some (Yx (l++Zm t 4 little),[]))) (kO fun l=>Zx (chk (decide (Zz l≤70368744177664)) (some (Zk (Kerb.pad l),[]))) (kB fun b=>some (Zd [Zk b,Zv .i64 0],[]))))))))))))))))))):Option (AV×Blocks))) (by kernel_rfl) ?_
  delta kB kO kL
  try dsimp only [cStr,cBs,cBool,cU8,cInt,cSl,l63]
  simp only [Yz,decide_eq_true_eq] at hpre
  obtain ⟨⟨⟨⟨q1,q2⟩,q3⟩,h0⟩,h1⟩:=hpre
  simp only [A0]
  unfold Yh
  rw [chk_of (by simp [h0,h1])]
  cases hk:Kerb.keyValid k
  ·rfl
  rw [Zn,sel_false,chk_of (by simp [q1,q2,q3])]
  cases h1:Zh ⟨x,y,z⟩
  ·rfl
  rw [Zn,sel_false]
  cases h4:Zf lf 255
  ·rfl
  rw [Zn,sel_false]
  cases h5:Zf kv 255
  ·rfl
  rw [Zn,sel_false]
  cases h6:Zf t 4294967295
  ·rfl
  rw [Zn,sel_false]
  by_cases h7:255<tk.length
  ·rw [sel_pos (by simp;omega),if_neg (by simp),if_neg (by simp),if_neg (by simp),if_pos h7]
  have l1:=Wz h1
  simp only at l1
  rw [sel_neg (by simp;omega),if_neg (by simp),if_neg (by simp),if_neg (by simp),if_neg h7]
  cases little
  ·rw [sel_false,chk_of (by simp;omega),chk_of (by first | (simp [Zy,Zq,Zw];done) | (simp [Zy,Zq,Zw];omega)),chk_of (by first | (simp [Zy,Zq,Zw];done) | (simp [Zy,Zq,Zw];omega)),chk_of (by first | (simp [Zy,Zq,Zw];done) | (simp [Zy,Zq,Zw];omega)),chk_of (by first | (simp [Zy,Zq,Zw];done) | (simp [Zy,Zq,Zw];omega)),chk_of (by first | (simp [Zy,Zq,Zw];done) | (simp [Zy,Zq,Zw];omega)),chk_of (by first | (simp [Zy,Zq,Zw];done) | (simp [Zy,Zq,Zw];omega)),chk_of (by first | (simp [Zy,Zq,Zw];done) | (simp [Zy,Zq,Zw];omega)),chk_of (by first | (simp [Zy,Zq,Zw];done) | (simp [Zy,Zq,Zw];omega))]
   simp
  ·rw [sel_true,chk_of (by simp;omega),chk_of (by first | (simp [Zy,Zq,Zw];done) | (simp [Zy,Zq,Zw];omega)),chk_of (by first | (simp [Zy,Zq,Zw];done) | (simp [Zy,Zq,Zw];omega)),chk_of (by first | (simp [Zy,Zq,Zw];done) | (simp [Zy,Zq,Zw];omega)),chk_of (by first | (simp [Zy,Zq,Zw];done) | (simp [Zy,Zq,Zw];omega)),chk_of (by first | (simp [Zy,Zq,Zw];done) | (simp [Zy,Zq,Zw];omega)),chk_of (by first | (simp [Zy,Zq,Zw];done) | (simp [Zy,Zq,Zw];omega)),chk_of (by first | (simp [Zy,Zq,Zw];done) | (simp [Zy,Zq,Zw];omega)),chk_of (by first | (simp [Zy,Zq,Zw];done) | (simp [Zy,Zq,Zw];omega))]
   simp
 ·cases h
theorem w76:Walked Tryz.prog G 76 8 sp76:=by
 refine ⟨Tryz.f76,Tryz.func76,by decide +kernel,rfl,fun xs bl r h=> ?_⟩
 unfold sp76 at h
 split at h
 ·rename_i li x y z t ex kv sd
  obtain ⟨hpre,h2⟩:=chk_inv h;cases h2
  refine Eq.trans (b:=(let t0:Option (AV×Blocks):=some (Zd [Zk [],Zv .i64 104],[]);let t1:Nat:=Zz (Ww 2 li)+Zz x+Zz y+Zz z;Zx (chk (l63 x&&l63 y&&l63 z) (some (Yv (Zh (Zj x y z)),[]))) (kL fun b=>sel (!b) (some (Zd [Zk [],Zv .i64 103],[])) (sel (!Zf t 4294967295) t0 (sel (!Zf ex 4294967295) t0 (sel (!Zf kv 255) t0 (sel (decide ((↑(Zz sd):Int)>1012)) (some (Zd [Zk [],Zv .i64 105],[])) (Zx (chk (decide (t1≤70368744170000)) (some (Zk (Xk (Ww 2 li) (Zj x y z)),[]))) (kB fun b=>Zx (chk (decide (Zz b≤70368744177664)) (some (Yx (b++Zm t 4 li),[]))) (kO fun l=>Zx (chk (decide (Zz l≤70368744177664)) (some (Yx (l++Zm 1 1 false),[]))) (kO fun l=>Zx (chk (decide (Zz l≤70368744177664)) (some (Yx (l++Zm ex 4 li),[]))) (kO fun l=>Zx (chk (decide (Zz l≤70368744177664)) (some (Yx (l++Zm kv 1 false),[]))) (kO fun l=>Zx (chk (decide (Zz l≤70368744177664)) (some (Yx (l++Zm (↑(Zz sd):Int) 2 li),[]))) (kO fun l=>Zx (chk (decide (Zz (Zg l (Zg sd []))≤140737488355328)&&decide (Zz [Zk l,Zk sd]≤1000)) (some (Yx (Zg l (Zg sd [])),[]))) (kO fun l=>some (Zd [Zk l,Zv .i64 0],[])))))))))))))):Option (AV×Blocks))) (by kernel_rfl) ?_
  delta kB kO kL
  try dsimp only [cStr,cBs,cBool,cU8,cInt,cSl,l63]
  simp only [Yz,decide_eq_true_eq] at hpre
  obtain ⟨⟨q1,q2⟩,q3⟩:=hpre
  simp only [A0]
  unfold Kerb.encodeReply
  rw [chk_of (by simp [q1,q2,q3])]
  cases h1:Zh ⟨x,y,z⟩
  ·rfl
  rw [Zn,sel_false]
  cases h4:Zf t 4294967295
  ·rfl
  rw [Zn,sel_false]
  cases h5:Zf ex 4294967295
  ·rfl
  rw [Zn,sel_false]
  cases h6:Zf kv 255
  ·rfl
  rw [Zn,sel_false]
  by_cases h7:1012<sd.length
  ·rw [sel_pos (by simp;omega),if_neg (by simp),if_neg (by simp),if_pos h7]
  have l1:=Wz h1
  have l4:=Kerb.header_len 2 li
  simp only at l1
  rw [sel_neg (by simp;omega),if_neg (by simp),if_neg (by simp),if_neg h7]
  rw [chk_of (by simp;omega),chk_of (by simp [Zy];omega),chk_of (by simp [Zy,Zq];omega),chk_of (by simp [Zy,Zq];omega),chk_of (by simp [Zy,Zq];omega),chk_of (by simp [Zy,Zq];omega),chk_of (by simp [Zy,Zq];omega)]
  simp
 ·cases h
theorem w118:Walked Tryz.prog G 118 8 sp118:=by
 refine ⟨Tryz.f118,Tryz.func118,by decide +kernel,rfl,fun xs bl r h=> ?_⟩
 unfold sp118 at h
 split at h
 ·rename_i li x y z ad k lf iss sv ins
  obtain ⟨hpre,h2⟩:=chk_inv h;cases h2
  refine Eq.trans (b:=(Zx (chk (decide (Zz x≤9223372036854775807)&&decide (Zz y≤9223372036854775807)&&decide (Zz z≤9223372036854775807)) (some (Yv (Zh (Zj x y z)),[]))) fun (r:AV×Blocks)=>onNilB (Xv r) (AV.onBool (Xu r) fun b=>sel (!b) (some (Zv .i64 103,[])) (Zx (chk (decide (Zz sv≤9223372036854775807)) (some (Yv (Kerb.validName sv),[]))) fun (r:AV×Blocks)=>onNilB (Xv r) (AV.onBool (Xu r) fun b=>sel (!b) (some (Zv .i64 103,[])) (Zx (chk (decide (Zz ins≤9223372036854775807)) (some (Yv (Kerb.validInst ins),[]))) fun (r:AV×Blocks)=>onNilB (Xv r) (AV.onBool (Xu r) fun b=>sel (!b) (some (Zv .i64 103,[])) (Zx (chk (decide (0≤k)&&decide (k<18446744073709551616)) (some (Zv .i64 (Kerb.classOf k),[]))) fun (r:AV×Blocks)=>onNilB (Xv r) (Wx .i64 (Xu r) fun n=>sel (!n==2) (some (Zv .i64 10,[])) (sel (!Zf ad 4294967295) (some (Zv .i64 104,[])) (sel (!Zf lf 255) (some (Zv .i64 104,[])) (sel (!Zf iss 4294967295) (some (Zv .i64 104,[])) (some (Zv .i64 0,[])))))))))))):Option (AV×Blocks))) (by kernel_rfl) ?_
  simp only [Yz,decide_eq_true_eq] at hpre
  obtain ⟨⟨⟨⟨⟨⟨h1,h2⟩,h3⟩,h4⟩,h5⟩,h6⟩,h7⟩:=hpre
  simp only [h1,h2,h3,h4,h5,h6,h7,decide_true,Yf,↓A0,A0]
  unfold Kerb.Ticket.err
  dsimp only
  cases Zh ⟨x,y,z⟩
  ·rfl
  cases Kerb.validName sv
  ·rfl
  cases Kerb.validInst ins
  ·rfl
  simp only [Zn,Yf,sel_false]
  by_cases hc:Kerb.classOf k=2
  case neg=>rw [sel_pos (by simpa using hc),if_neg (by simp),if_pos hc]
  rw [sel_neg (by simp [hc]),if_neg (by simp),if_neg (by simp [hc])]
  cases Zf ad 4294967295
  ·rfl
  cases Zf lf 255
  ·rfl
  cases Zf iss 4294967295
  ·rfl
  rfl
 ·cases h
theorem w38:Walked Tryz.prog G 38 9 sp38:=by
 refine ⟨Tryz.f38,Tryz.func38,by decide +kernel,rfl,fun xs bl r h=> ?_⟩
 unfold sp38 at h
 split at h
 ·rename_i b
  obtain ⟨hpre,h2⟩:=chk_inv h;cases h2
  refine Eq.trans (b:=(let t1:AV:=Yw [Yv false,Zu [],Zu [],Zu [],Zv .i64 0,Zv .i64 0,Zu [],Zu []];let t0:Option (AV×Blocks):=some (Zd [t1,Zv .i64 100],[]);sel (!Xv (Yg b [1])==0) (some (Zd [t1,Zv .i64 (Xv (Yg b [1]))],[])) (Zx (chk (decide (Zz b≤4611686018427387904)) (some (Zd [Yw [Zu (Xz (Kerb.GotP.val (Yq b 2))),Zu (Xy (Kerb.GotP.val (Yq b 2))),Zu (Yb (Kerb.GotP.val (Yq b 2)))],Zv .i64 (Kerb.GotP.next (Yq b 2)),Zv .i64 (Kerb.GotP.err (Yq b 2))],[]))) (kT fun vs=>onCons vs fun x r=>AV.onAgg x fun cs=>cStr cs fun b_1 r_1=>cStr r_1 fun b_2 r_2=>cStr r_2 fun b_3 r_3=>onNil r_3 (cInt .i64 r fun n r=>let t2:Kerb.Got:=Xx b n 4 (Xu (Yg b [1]));cInt .i64 r fun n r=>onNil r (Zx (chk (decide (Zz b≤4611686018427387904)) (some (Zd [Zv .i64 (Kerb.Got.val t2),Zv .i64 (Kerb.Got.next t2),Zv .i64 (Kerb.Got.err t2)],[]))) (kT fun vs=>cInt .i64 vs fun n r=>cInt .i64 r fun n_1 r=>cInt .i64 r fun n_2 r=>onNil r (Zx (chk (decide (Zz b≤4611686018427387904)) (some (Zd [Zv .i64 (Kerb.Got.val (Xx b n_1 1 false)),Zv .i64 (Kerb.Got.next (Xx b n_1 1 false)),Zv .i64 (Kerb.Got.err (Xx b n_1 1 false))],[]))) (kT fun vs=>cInt .i64 vs fun n_3 r=>cInt .i64 r fun n_4 r=>cInt .i64 r fun n_5 r=>onNil r (Zx (chk (decide (Zz b≤4611686018427387904)) (some (Zd [Zu (Kerb.GotB.val (Yk b n_4)),Zv .i64 (Kerb.GotB.next (Yk b n_4)),Zv .i64 (Kerb.GotB.err (Yk b n_4))],[]))) (kT fun vs=>cStr vs fun b_4 r=>cInt .i64 r fun n_6 r=>cInt .i64 r fun n_7 r=>onNil r (Zx (chk (decide (Zz b≤4611686018427387904)) (some (Zd [Zu (Kerb.GotB.val (Yk b n_6)),Zv .i64 (Kerb.GotB.next (Yk b n_6)),Zv .i64 (Kerb.GotB.err (Yk b n_6))],[]))) (kT fun vs=>cStr vs fun b_5 r=>let t3:Kerb.Enc:=Wy (Kerb.KdcRequest.mk (Xu (Yg b [1])) (Zj b_1 b_2 b_3) n n_3 b_4 b_5);cInt .i64 r fun n_8 r=>cInt .i64 r fun n_9 r=>onNil r (Zx (chk (l63 b_1&&l63 b_2&&l63 b_3&&l63 b_4&&l63 b_5) (some (Zd [Zk (Yn t3),Zv .i64 (Ym t3)],[]))) (kT fun vs=>cBs vs fun b_6 r=>cInt .i64 r fun n_10 r=>onNil r (sel (!n_10==0) t0 (sel (!b_6==b) t0 (some (Zd [Yw [Yv (Xu (Yg b [1])),Zu b_1,Zu b_2,Zu b_3,Zv .i64 n,Zv .i64 n_3,Zu b_4,Zu b_5],Zv .i64 0],[]))))))))))))))))):Option (AV×Blocks))) (by kernel_rfl) ?_
  delta kT
  try dsimp only [cStr,cBs,cBool,cU8,cInt,cSl,l63]
  have hb:=of_decide_eq_true hpre
  simp only [A0]
  unfold Zb
  by_cases h:(Yg b [1]).2=0
  ·have l1:=Kerb.prin_len b 2
   have hx:∀ q,(Yk b q).val.length≤40:=Kerb.text_len b
   rw [sel_neg (by simp [h]),chk_of hpre,chk_of hpre,chk_of hpre,chk_of hpre,chk_of hpre,chk_of (by simp;have:=hx (Xx b (Xx b (Yq b 2).next 4 (Yg b [1]).1).next 1 false).next;have:=hx (Yk b (Xx b (Xx b (Yq b 2).next 4 (Yg b [1]).1).next 1 false).next).next;omega),if_neg (by simpa using h)]
   have e:Kerb.KdcRequest.mk (Yg b [1]).1 (Zj (Yq b 2).val.name (Yq b 2).val.inst (Yq b 2).val.realm) (Xx b (Yq b 2).next 4 (Yg b [1]).1).val (Xx b (Xx b (Yq b 2).next 4 (Yg b [1]).1).next 1 false).val (Yk b (Xx b (Xx b (Yq b 2).next 4 (Yg b [1]).1).next 1 false).next).val (Yk b (Yk b (Xx b (Xx b (Yq b 2).next 4 (Yg b [1]).1).next 1 false).next).next).val=Kerb.readRequest b:=rfl
   rw [e]
   by_cases h1:(Wy (Kerb.readRequest b)).err=0
   ·rw [sel_neg (by simp [h1])]
    by_cases h2:(Wy (Kerb.readRequest b)).val=b
    ·rw [sel_neg (by simp [h2]),if_neg (by simp [h1,h2])]
     rfl
    ·rw [sel_pos (by simpa using h2),if_pos (.inr h2)]
     rfl
   ·rw [sel_pos (by simpa using h1),if_pos (.inl h1)]
    rfl
  ·rw [sel_pos (by simpa using h),if_pos h]
   rfl
 ·cases h
theorem w41:Walked Tryz.prog G 41 9 sp41:=by
 refine ⟨Tryz.f41,Tryz.func41,by decide +kernel,rfl,fun xs bl r h=> ?_⟩
 unfold sp41 at h
 split at h
 ·rename_i x y z cd now li
  obtain ⟨hpre,h2⟩:=chk_inv h;cases h2
  refine Eq.trans (b:=(Zx (chk (decide (Zz x≤9223372036854775807)&&decide (Zz y≤9223372036854775807)&&decide (Zz z≤9223372036854775807)&&decide (Zz (Kerb.message cd)≤9223372036854775807)) (some (Zd [Zk (Yn (Kerb.encodeError (Kerb.ErrorReply.mk li (Zj x y z) now cd (Kerb.message cd)))),Zv .i64 (Ym (Kerb.encodeError (Kerb.ErrorReply.mk li (Zj x y z) now cd (Kerb.message cd))))],[]))) fun (r:AV×Blocks)=>onNilB (Xv r) (AV.onTup (Xu r) fun vs=>onCons vs fun x r=>AV.onBs x fun b=>onCons r fun x r=>Wx .i64 x fun n=>onNil r (sel (!n==0) (some (Zk [],[])) (some (Zk b,[])))):Option (AV×Blocks))) (by kernel_rfl) ?_
  simp only [Yz,decide_eq_true_eq] at hpre
  obtain ⟨⟨l1,l2⟩,l3⟩:=hpre
  have hm:(Kerb.message cd).length≤9223372036854775807:=by have:=Kerb.message_len cd;omega
  simp only [l1,l2,l3,hm,decide_true,Yf,↓A0,A0]
  unfold Xd
  by_cases h:(Kerb.encodeError ⟨li,⟨x,y,z⟩,now,cd,Kerb.message cd⟩).err=0
  ·rw [sel_neg (by simpa using h)]
  ·rw [sel_pos (by simpa using h),Kerb.encError_no h]
 ·cases h
theorem w46:Walked Tryz.prog G 46 9 sp46:=by
 refine ⟨Tryz.f46,Tryz.func46,by decide +kernel,rfl,fun xs bl r h=> ?_⟩
 unfold sp46 at h
 split at h
 ·rename_i rl_ x y z rt_ rx rkv rsd pk p1 p2 p3 pl pv pt pm k
  obtain ⟨hpre,h2⟩:=chk_inv h;cases h2
  refine Eq.trans (b:=(Zx (chk (l63 p1&&l63 p2&&l63 p3&&decide (0≤pk)&&decide (pk<18446744073709551616)) (some (Zd [Zk (Yn (Yh (Yj pk (Zj p1 p2 p3) pl pv pt pm) rl_)),Zv .i64 (Ym (Yh (Yj pk (Zj p1 p2 p3) pl pv pt pm) rl_))],[]))) (kT fun vs=>onCons vs fun x_1 r=>AV.onBs x_1 fun b=>onCons r fun x_2 r=>Wx .i64 x_2 fun n=>onNil r (sel (!n==0) (some (Zd [Zk [],Zv .i64 n],[])) (Zx (chk (decide (0≤k)&&decide (k<18446744073709551616)) (some (Zd [Zk (Yn (Kerb.makeBox 3 k b)),Zv .i64 (Ym (Kerb.makeBox 3 k b))],[]))) (kT fun vs=>onCons vs fun x_3 r=>AV.onBs x_3 fun b=>onCons r fun x_4 r=>Wx .i64 x_4 fun n=>onNil r (sel (!n==0) (some (Zd [Zk [],Zv .i64 n],[])) (Zx (chk (l63 x&&l63 y&&l63 z) (some (Zd [Zk (Yn (Kerb.encodeReply (Kerb.KdcReply.mk rl_ (Zj x y z) rt_ rx rkv b))),Zv .i64 (Ym (Kerb.encodeReply (Kerb.KdcReply.mk rl_ (Zj x y z) rt_ rx rkv b)))],[]))) (kT fun vs=>cBs vs fun b r=>cInt .i64 r fun n r=>onNil r (some (Zd [Zk b,Zv .i64 n],[]))))))))):Option (AV×Blocks))) (by kernel_rfl) ?_
  delta kT
  try dsimp only [cStr,cBs,cBool,cU8,cInt,cSl,l63]
  simp only [Yz,decide_eq_true_eq] at hpre
  obtain ⟨⟨⟨⟨⟨⟨⟨l1,l2⟩,l3⟩,l4⟩,l5⟩,l6⟩,k1⟩,k2⟩:=hpre
  have k1:=Kerb.isU64_iff.1 k1
  have k2:=Kerb.isU64_iff.1 k2
  simp only [l1,l2,l3,l4,l5,l6,k1,k2,decide_true,Yf,↓A0,A0]
  unfold Kerb.sealReply
  by_cases h1:(Yh (Yj pk ⟨p1,p2,p3⟩ pl pv pt pm) rl_).err=0
  case neg=>rw [sel_pos (by simpa using h1),if_pos h1]
  rw [sel_neg (by simpa using h1),if_neg (by simpa using h1)]
  by_cases h2:(Kerb.makeBox 3 k (Yh (Yj pk ⟨p1,p2,p3⟩ pl pv pt pm) rl_).val).err=0
  case neg=>rw [sel_pos (by simpa using h2),if_pos h2]
  rw [sel_neg (by simpa using h2),if_neg (by simpa using h2)]
 ·cases h
theorem w105:Walked Tryz.prog G 105 9 sp105:=by
 refine ⟨Tryz.f105,Tryz.func105,by decide +kernel,rfl,fun xs bl r h=> ?_⟩
 unfold sp105 at h
 split at h
 ·rename_i li x y z ad k lf iss sv ins
  obtain ⟨hpre,h2⟩:=chk_inv h;cases h2
  refine Eq.trans (b:=(let t0:Nat:=Zz ([]++Zm 0 1 false)+Zz x+Zz y+Zz z;let t1:Nat:=Zz ([]++Zm 1 1 false)+Zz x+Zz y+Zz z;let t2:Option (AV×Blocks):=chk (decide (0≤k)&&decide (k<18446744073709551616)) (some (Zk (Kerb.keyBytes k),[]));Zx (chk (l63 x&&l63 y&&l63 z&&l63 sv&&l63 ins&&decide (0≤k)&&decide (k<18446744073709551616)) (some (Zv .i64 (Kerb.Ticket.err (Xp li (Zj x y z) ad k lf iss sv ins)),[]))) (kI .i64 fun n=>sel (!n==0) (some (Zd [Zk [],Zv .i64 n],[])) (sel li (Zx (chk (decide (t1≤70368744170000)) (some (Zk (Xk ([]++Zm 1 1 false) (Zj x y z)),[]))) (kB fun b=>Zx (chk (decide (Zz b≤70368744177664)) (some (Yx (b++Zm ad 4 li),[]))) (kO fun l=>Zx t2 (kB fun b=>Zx (chk (decide (Zz (Zg l (Zg b []))≤140737488355328)&&decide (Zz [Zk l,Zk b]≤1000)) (some (Yx (Zg l (Zg b [])),[]))) (kO fun l=>Zx (chk (decide (Zz l≤70368744177664)) (some (Yx (l++Zm lf 1 false),[]))) (kO fun l=>Zx (chk (decide (Zz l≤70368744177664)) (some (Yx (l++Zm iss 4 li),[]))) (kO fun l=>Zx (chk (decide (Zz l+Zz sv≤70368744177664)) (some (Zk (Yu l sv),[]))) (kB fun b=>Zx (chk (decide (Zz b+Zz ins≤70368744177664)) (some (Zk (Yu b ins),[]))) (kB fun b=>Zx (chk (decide (Zz b≤70368744177664)) (some (Zk (Kerb.pad b),[]))) (kB fun b=>some (Zd [Zk b,Zv .i64 0],[]))))))))))) (Zx (chk (decide (t0≤70368744170000)) (some (Zk (Xk ([]++Zm 0 1 false) (Zj x y z)),[]))) (kB fun b=>Zx (chk (decide (Zz b≤70368744177664)) (some (Yx (b++Zm ad 4 li),[]))) (kO fun l=>Zx t2 (kB fun b=>Zx (chk (decide (Zz (Zg l (Zg b []))≤140737488355328)&&decide (Zz [Zk l,Zk b]≤1000)) (some (Yx (Zg l (Zg b [])),[]))) (kO fun l=>Zx (chk (decide (Zz l≤70368744177664)) (some (Yx (l++Zm lf 1 false),[]))) (kO fun l=>Zx (chk (decide (Zz l≤70368744177664)) (some (Yx (l++Zm iss 4 li),[]))) (kO fun l=>Zx (chk (decide (Zz l+Zz sv≤70368744177664)) (some (Zk (Yu l sv),[]))) (kB fun b=>Zx (chk (decide (Zz b+Zz ins≤70368744177664)) (some (Zk (Yu b ins),[]))) (kB fun b=>Zx (chk (decide (Zz b≤70368744177664)) (some (Zk (Kerb.pad b),[]))) (kB fun b=>some (Zd [Zk b,Zv .i64 0],[]))))))))))))):Option (AV×Blocks))) (by kernel_rfl) ?_
  delta kB kO kI
  try dsimp only [cStr,cBs,cBool,cU8,cInt,cSl,l63]
  simp only [Yz,decide_eq_true_eq] at hpre
  obtain ⟨⟨⟨⟨⟨⟨h1,h2⟩,h3⟩,h4⟩,h5⟩,h6⟩,h7⟩:=hpre
  simp only [h1,h2,h3,h4,h5,h6,h7,decide_true,Yf,↓A0,A0]
  have hb := @Kerb.encTicket_inv ⟨li,⟨x,y,z⟩,ad,k,lf,iss,sv,ins⟩
  unfold Wv at hb ⊢
  dsimp only at hb ⊢
  generalize hE:Kerb.Ticket.err _=e at hb ⊢
  by_cases he:e=0
  case neg=>rw [sel_pos (by simpa using he),if_pos he]
  rw [if_neg (by simpa using he)] at hb
  obtain ⟨v1,v2,v3,_⟩:=hb rfl
  have l1:=Wz v1
  have l2:=(Kerb.name_ok v2).1
  have l3:=(Kerb.inst_ok v3).1
  dsimp only at l1
  rw [sel_neg (by simpa using he),if_neg (by simpa using he)]
  cases li
  ·rw [sel_false,chk_of (by first | (simp [Zy,Zq,Zw];done) | (simp [Zy,Zq,Zw];omega)),chk_of (by first | (simp [Zy,Zq,Zw];done) | (simp [Zy,Zq,Zw];omega)),chk_of (by first | (simp [Zy,Zq,Zw];done) | (simp [Zy,Zq,Zw];omega)),chk_of (by first | (simp [Zy,Zq,Zw];done) | (simp [Zy,Zq,Zw];omega)),chk_of (by first | (simp [Zy,Zq,Zw];done) | (simp [Zy,Zq,Zw];omega)),chk_of (by first | (simp [Zy,Zq,Zw];done) | (simp [Zy,Zq,Zw];omega)),chk_of (by first | (simp [Yu,Zy,Zq,Zw];done) | (simp [Yu,Zy,Zq,Zw];omega)),chk_of (by first | (simp [Yu,Zy,Zq,Zw];done) | (simp [Yu,Zy,Zq,Zw];omega))]
   simp
  ·rw [sel_true,chk_of (by first | (simp [Zy,Zq,Zw];done) | (simp [Zy,Zq,Zw];omega)),chk_of (by first | (simp [Zy,Zq,Zw];done) | (simp [Zy,Zq,Zw];omega)),chk_of (by first | (simp [Zy,Zq,Zw];done) | (simp [Zy,Zq,Zw];omega)),chk_of (by first | (simp [Zy,Zq,Zw];done) | (simp [Zy,Zq,Zw];omega)),chk_of (by first | (simp [Zy,Zq,Zw];done) | (simp [Zy,Zq,Zw];omega)),chk_of (by first | (simp [Zy,Zq,Zw];done) | (simp [Zy,Zq,Zw];omega)),chk_of (by first | (simp [Yu,Zy,Zq,Zw];done) | (simp [Yu,Zy,Zq,Zw];omega)),chk_of (by first | (simp [Yu,Zy,Zq,Zw];done) | (simp [Yu,Zy,Zq,Zw];omega))]
   simp
 ·cases h
theorem w39:Walked Tryz.prog G 39 10 sp39:=by
 refine ⟨Tryz.f39,Tryz.func39,by decide +kernel,rfl,fun xs bl r h=> ?_⟩
 unfold sp39 at h
 split at h
 ·rename_i msg now li
  obtain ⟨hpre,h2⟩:=chk_inv h;cases h2
  refine Eq.trans (b:=(sel ((↑(Zz msg):Int)==0) (some (Zk [],[])) (chk (decide (0<(↑(Zz msg):Int))) (sel (List.getD msg (Xw 0) (0:UInt8)==(4:UInt8)) (some (Zk [],[])) (Zx (chk (decide (Zz msg≤140737488355328)) (some (Yx msg,[]))) (kO fun l=>let t0:Kerb.KdcRequest:=Yd (Zb (List.set l (Xw 0) (4:UInt8)));chk (decide (0<(↑(Zz l):Int))) (chk (Nat.blt (Xw 0) (Zz l)&&true&&true&&true&&true) (Zx (chk (decide (Zz (List.set l (Xw 0) (4:UInt8))≤4611686018427387904)) (some (Zd [Yw [Yv (Kerb.KdcRequest.little t0),Zu (Xz (Yp t0)),Zu (Xy (Yp t0)),Zu (Yb (Yp t0)),Zv .i64 (Kerb.KdcRequest.time t0),Zv .i64 (Kerb.KdcRequest.life t0),Zu (Kerb.KdcRequest.service t0),Zu (Kerb.KdcRequest.inst t0)],Zv .i64 (Kerb.DecReq.err (Zb (List.set l (Xw 0) (4:UInt8))))],[]))) (kT fun vs=>onCons vs fun x r=>AV.onAgg x fun cs=>cBool cs fun b r_1=>cStr r_1 fun b r_2=>cStr r_2 fun b_1 r_3=>cStr r_3 fun b_2 r_4=>cInt .i64 r_4 fun n r_5=>cInt .i64 r_5 fun n r_6=>cStr r_6 fun b_3 r_7=>cStr r_7 fun b_4 r_8=>onNil r_8 (cInt .i64 r fun n r=>onNil r (sel (!n==0) (some (Zk [],[])) (Zx (chk (l63 b&&l63 b_1&&l63 b_2) (some (Zk (Xd (Zj b b_1 b_2) 4 now li),[]))) (kB fun b=>some (Zk b,[])))))))))))):Option (AV×Blocks))) (by kernel_rfl) ?_
  delta kT kB kO
  try dsimp only [cStr,cBs,cBool,cU8,cInt,cSl,l63]
  have lm:=of_decide_eq_true hpre
  unfold Kerb.refuseVer
  by_cases h1:msg.length=0
  ·rw [sel_pos (by simpa using h1),if_pos h1]
  rw [sel_neg (by simp;intro h;exact h1 (by rw [h];rfl)),if_neg h1,chk_of (by simp;omega)]
  have hz:Xw 0=0:=rfl
  rw [hz]
  by_cases h2:msg.getD 0 0=4
  ·rw [sel_pos (by simpa using h2),if_pos h2]
  rw [sel_neg (by simpa using h2),if_neg h2]
  have lm2:msg.length≤140737488355328:=by omega
  have lm3:(msg.set 0 4).length≤4611686018427387904:=by simp;omega
  have hb:Nat.blt 0 msg.length=true:=by simp [Nat.blt_eq];omega
  have hp:decide ((0:Int)<(msg.length:Int))=true:=by simp;omega
  obtain ⟨⟨n1,n2,n3⟩,_,_⟩:=Kerb.decReq_len (msg.set 0 4)
  simp only [hz,lm2,lm3,hb,hp,n1,n2,n3,decide_true,Yf,↓A0,A0]
  by_cases h3:(Zb (msg.set 0 4)).err=0
  ·rw [sel_neg (by simpa using h3),if_neg (by simpa using h3)]
  ·rw [sel_pos (by simpa using h3),if_pos h3]
 ·cases h
theorem w71:Walked Tryz.prog G 71 10 sp71:=by
 refine ⟨Tryz.f71,Tryz.func71,by decide +kernel,rfl,fun xs bl r h=> ?_⟩
 unfold sp71 at h
 split at h
 ·rename_i li x y z ad k lf iss sv ins key
  obtain ⟨hpre,h2⟩:=chk_inv h;cases h2
  refine Eq.trans (b:=(Zx (chk (decide (Zz x≤9223372036854775807)&&decide (Zz y≤9223372036854775807)&&decide (Zz z≤9223372036854775807)&&decide (Zz sv≤9223372036854775807)&&decide (Zz ins≤9223372036854775807)&&decide (0≤k)&&decide (k<18446744073709551616)) (some (Zd [Zk (Yn (Wv (Xp li (Zj x y z) ad k lf iss sv ins))),Zv .i64 (Ym (Wv (Xp li (Zj x y z) ad k lf iss sv ins)))],[]))) fun (r:AV×Blocks)=>onNilB (Xv r) (AV.onTup (Xu r) fun vs=>onCons vs fun x r=>AV.onBs x fun b=>onCons r fun x r=>Wx .i64 x fun n=>onNil r (sel (!n==0) (some (Zd [Zk [],Zv .i64 n],[])) (Zx (chk (decide (0≤key)&&decide (key<18446744073709551616)) (some (Zd [Zk (Yn (Kerb.makeBox 1 key b)),Zv .i64 (Ym (Kerb.makeBox 1 key b))],[]))) fun (r:AV×Blocks)=>onNilB (Xv r) (AV.onTup (Xu r) fun vs=>onCons vs fun x r=>AV.onBs x fun b=>onCons r fun x r=>Wx .i64 x fun n=>onNil r (some (Zd [Zk b,Zv .i64 n],[])))))):Option (AV×Blocks))) (by kernel_rfl) ?_
  simp only [Yz,decide_eq_true_eq] at hpre
  obtain ⟨⟨⟨⟨⟨⟨⟨⟨h1,h2⟩,h3⟩,h4⟩,h5⟩,h6⟩,h7⟩,h8⟩,h9⟩:=hpre
  simp only [h1,h2,h3,h4,h5,h6,h7,h8,h9,decide_true,Yf,↓A0,A0]
  unfold Kerb.sealTicket
  generalize Wv _=E
  by_cases he:E.err=0
  ·rw [sel_neg (by simpa using he),if_neg (by simpa using he)]
  ·rw [sel_pos (by simpa using he),if_pos he]
 ·cases h
theorem w45:Walked Tryz.prog G 45 11 sp45:=by
 refine ⟨Tryz.f45,Tryz.func45,by decide +kernel,rfl,fun xs bl r h=> ?_⟩
 unfold sp45 at h
 split at h
 ·rename_i rl els x y z u v w ad li now lf se sl tg kv
  obtain ⟨hpre,h2⟩:=chk_inv h;cases h2
  refine Eq.trans (b:=(let t0:AV:=Yw [Zv .i64 0,Zu [],Zu [],Zu [],Zu [],Zu [],Zu [],Zu [],Zu [],Zu [],Zv .u64 0,Zv .u64 0,Zv .u64 0,Zk [],Zv .i64 0,Zv .i64 0];let t1:AV:=Yw [Zv .u64 0,Zu [],Zu [],Zu [],Zv .i64 0,Zv .i64 0,Zk [],Zv .i64 0];Zx (chk (l63 x&&l63 y&&l63 z&&l63 u&&l63 v&&decide (0≤se)&&decide (se<18446744073709551616)&&decide (0≤tg)&&decide (tg<18446744073709551616)) (some (Zd [Zk (Yn (Kerb.sealTicket (Xp li (Zj x y z) ad se lf now u v) tg)),Zv .i64 (Ym (Kerb.sealTicket (Xp li (Zj x y z) ad se lf now u v) tg))],[]))) (kT fun vs=>onCons vs fun x_1 r=>AV.onBs x_1 fun b=>onCons r fun x_2 r=>Wx .i64 x_2 fun n=>onNil r (sel (!n==0) (some (Zd [t0,t1,Zv .i64 n],[])) (Zx (chk (l63 u&&l63 v&&l63 w&&decide (0≤se)&&decide (se<18446744073709551616)) (some (Zd [Zk (Yn (Yh (Yj se (Zj u v w) lf kv b now) li)),Zv .i64 (Ym (Yh (Yj se (Zj u v w) lf kv b now) li))],[]))) (kT fun vs=>onCons vs fun x_3 r=>AV.onBs x_3 fun b_1=>onCons r fun x_4 r=>Wx .i64 x_4 fun n=>onNil r (sel (!n==0) (some (Zd [t0,t1,Zv .i64 n],[])) (Zx (chk (decide (Zz b≤140737488355328)) (some (Yx b,[]))) (kO fun l=>some (Zd [Yw [Zv .i64 0,Zu [(107:UInt8),(114:UInt8),(98:UInt8),(116:UInt8),(103:UInt8),(116:UInt8)],Zu rl,Zu rl,Zu x,Zu y,Zu z,Zu u,Zu v,Zu w,Zv .u64 se,Zv .u64 sl,Zv .u64 0,Zk l,Zv .i64 now,Zv .i64 (Kerb.tEnd now lf)],Yw [Zv .u64 se,Zu u,Zu v,Zu w,Zv .i64 lf,Zv .i64 kv,Zk b,Zv .i64 now],Zv .i64 0],[])))))))):Option (AV×Blocks))) (by kernel_rfl) ?_
  delta kT kO
  try dsimp only [cStr,cBs,cBool,cU8,cInt,cSl,l63]
  simp only [Yz,decide_eq_true_eq] at hpre
  simp only [Kerb.isU64_iff] at hpre
  obtain ⟨⟨⟨⟨⟨⟨⟨h1,h2⟩,h3⟩,h4⟩,h5⟩,h6⟩,h7,h8⟩,h9,h10⟩:=hpre
  simp only [h1,h2,h3,h4,h5,h6,h7,h8,h9,h10,decide_true,Yf,↓A0,A0]
  unfold Kerb.grant Kerb.grantTkt
  dsimp only
  have hsl:=Kerb.sealTicket_len ⟨li,⟨x,y,z⟩,ad,se,lf,now,u,v⟩ tg
  generalize Kerb.sealTicket ⟨li,⟨x,y,z⟩,ad,se,lf,now,u,v⟩ tg=E at hsl
  by_cases he:E.err=0
  case neg=>rw [sel_pos (by simpa using he),if_pos he];rfl
  rw [sel_neg (by simpa using he),if_neg (by simpa using he)]
  generalize Yh ⟨se,⟨u,v,w⟩,lf,kv,E.val,now⟩ li=F
  by_cases hf:F.err=0
  case neg=>rw [sel_pos (by simpa using hf),if_pos hf];rfl
  rw [sel_neg (by simpa using hf),if_neg (by simpa using hf)]
  rw [chk_of (by simp;omega)]
  rfl
 ·cases h
set_option maxHeartbeats 4000000 in
theorem w14:Walked Tryz.prog G 14 12 sp14:=by
 refine ⟨Tryz.f14,Tryz.func14,by decide +kernel,rfl,fun xs bl r h=> ?_⟩
 unfold sp14 at h
 split at h
 ·rename_i rl els xls now ad li se msg
  obtain ⟨hpre,h2⟩:=chk_inv h;cases h2
  refine Eq.trans (b:=(let t0:List AV:=[Yw [Zv .i64 0,Zu [],Zu [],Zu [],Zu [],Zu [],Zu [],Zu [],Zu [],Zu [],Zv .u64 0,Zv .u64 0,Zv .u64 0,Zk [],Zv .i64 0,Zv .i64 0],Yv false];let t1:Option (AV×Blocks):=some (Zd (Zk []::t0),[]);sel (decide (now<0)) t1 (sel (decide (now>4294967295)) t1 (sel (decide (ad<0)) t1 (sel (decide (ad>4294967295)) t1 (Zx (chk (decide (Zz msg≤4611686018427387904)) (some (Zd [Yw [Yv (Kerb.KdcRequest.little (Yd (Zb msg))),Zu (Xz (Yp (Yd (Zb msg)))),Zu (Xy (Yp (Yd (Zb msg)))),Zu (Yb (Yp (Yd (Zb msg)))),Zv .i64 (Kerb.KdcRequest.time (Yd (Zb msg))),Zv .i64 (Kerb.KdcRequest.life (Yd (Zb msg))),Zu (Kerb.KdcRequest.service (Yd (Zb msg))),Zu (Kerb.KdcRequest.inst (Yd (Zb msg)))],Zv .i64 (Kerb.DecReq.err (Zb msg))],[]))) (kT fun vs=>onCons vs fun x r=>AV.onAgg x fun cs=>cBool cs fun b r_1=>cStr r_1 fun b r_2=>cStr r_2 fun b_1 r_3=>let t2:Bool:=l63 b&&l63 b_1;cStr r_3 fun b_2 r_4=>let t3:Bool:=t2&&l63 b_2;cInt .i64 r_4 fun n r_5=>cInt .i64 r_5 fun n_1 r_6=>cStr r_6 fun b_3 r_7=>cStr r_7 fun b_4 r_8=>let t4:Kerb.Svc:=Kerb.svc (Kerb.Db.mk rl (Xh Kerb.toEntry els)) (Xh Kerb.toCross xls) b_3 b_4 now;onNil r_8 (cInt .i64 r fun n_2 r=>onNil r (sel (!n_2==0) (Zx (chk (decide (Zz msg≤1000000)) (some (Zk (Kerb.refuseVer msg now li),[]))) (kB fun b=>some (Zd (Zk b::t0),[]))) (sel (!b_2==rl) (Zx (chk t3 (some (Zk (Xd (Zj b b_1 b_2) 8 now li),[]))) (kB fun b=>some (Zd (Zk b::t0),[]))) (Zx (chk (List.all els Kerb.isEntry&&decide (Zz els≤1000000)) (some (Zd [Zv .i64 (Xu (Kerb.clientEnt (Kerb.Db.mk rl (Xh Kerb.toEntry els)) b b_1 now)),Zv .i64 (Xv (Kerb.clientEnt (Kerb.Db.mk rl (Xh Kerb.toEntry els)) b b_1 now))],[]))) (kT fun vs=>cInt .i64 vs fun n_3 r=>cInt .i64 r fun n_4 r=>onNil r (sel (!n_4==0) (Zx (chk t3 (some (Zk (Xd (Zj b b_1 b_2) n_4 now li),[]))) (kB fun b=>some (Zd (Zk b::t0),[]))) (chk (decide (0≤n_3)&&decide (n_3<(↑(Zz els):Int))&&true) (AV.onAgg (List.getD els (Xw n_3) AV.undef) fun cs=>cStr cs fun b_5 r=>cStr r fun b_6 r=>cInt .u64 r fun n_5 r=>cInt .i64 r fun n_6 r=>cInt .i64 r fun n_7 r=>cInt .i64 r fun n_8 r=>cInt .i64 r fun n_9 r=>cInt .i64 r fun n_10 r=>cInt .i64 r fun n_11 r=>onNil r (Zx (chk (List.all els Kerb.isEntry&&decide (Zz els≤1000000)&&List.all xls Kerb.isCross&&decide (Zz xls≤1000000)&&l63 b_4) (some (Zd [Zv .u64 (Kerb.Svc.key t4),Zv .i64 (Kerb.Svc.kvno t4),Zv .i64 (Kerb.Svc.life t4),Zv .i64 (Kerb.Svc.expires t4),Zv .i64 (Kerb.Svc.err t4)],[]))) (kT fun vs=>cInt .u64 vs fun n_12 r=>cInt .i64 r fun n_13 r=>cInt .i64 r fun n_14 r=>cInt .i64 r fun n_15 r=>let t5:Int×Bool:=Kerb.grantLife now (Kerb.imin (Kerb.imin n_1 n_8) n_14) (List.filter (fun n => !n==0) [n_7,n_15]);cInt .i64 r fun n_16 r=>onNil r (sel (!n_16==0) (Zx (chk t3 (some (Zk (Xd (Zj b b_1 b_2) n_16 now li),[]))) (kB fun b=>some (Zd (Zk b::t0),[]))) (Zx (chk (decide (Zz [Zv .i64 n_7,Zv .i64 n_15]≤1000000)&&List.all [n_7,n_15] Kerb.isI64) (some (Zd [Zv .i64 (Xu t5),Yv (Xv t5)],[]))) (kT fun vs=>cInt .i64 vs fun n_17 r=>let t8:Kerb.Granted:=Kerb.grant rl (Zj b b_1 b_2) (Zj b_3 b_4 rl) ad li now n_17 se n_5 n_12 n_13;let t6:Kerb.Issue:=Kerb.Granted.issue t8;let t7:Kerb.ReplyPart:=Kerb.Granted.part t8;cBool r fun b_7 r=>onNil r (sel (!b_7) (Zx (chk t3 (some (Zk (Xd (Zj b b_1 b_2) 3 now li),[]))) (kB fun b=>some (Zd (Zk b::t0),[]))) (Zx (chk (decide (0≤se)&&decide (se<18446744073709551616)) (some (Zv .i64 (Kerb.classOf se),[]))) (kI .i64 fun n_18=>sel (!n_18==2) (Zx (chk t3 (some (Zk (Xd (Zj b b_1 b_2) 10 now li),[]))) (kB fun b=>some (Zd (Zk b::t0),[]))) (Zx (chk (t3&&l63 b_3&&l63 b_4&&l63 rl&&Kerb.isU64 se&&Kerb.isU64 n_12) (some (Zd [Yw [Zv .i64 (Kerb.Issue.kind t6),Zu (Xz (Kerb.Issue.server t6)),Zu (Xy (Kerb.Issue.server t6)),Zu (Yb (Kerb.Issue.server t6)),Zu (Xz (Kerb.Issue.client t6)),Zu (Xy (Kerb.Issue.client t6)),Zu (Yb (Kerb.Issue.client t6)),Zu (Xz (Kerb.Issue.service t6)),Zu (Xy (Kerb.Issue.service t6)),Zu (Yb (Kerb.Issue.service t6)),Zv .u64 (Kerb.Issue.session t6),Zv .u64 (Kerb.Issue.sealer t6),Zv .u64 (Kerb.Issue.granter t6),Zk (Kerb.Issue.text t6),Zv .i64 (Kerb.Issue.issued t6),Zv .i64 (Kerb.Issue.stop t6)],Yw [Zv .u64 (Kerb.ReplyPart.session t7),Zu (Xz (Xg t7)),Zu (Xy (Xg t7)),Zu (Yb (Xg t7)),Zv .i64 (Kerb.ReplyPart.life t7),Zv .i64 (Kerb.ReplyPart.kvno t7),Zk (Kerb.ReplyPart.ticket t7),Zv .i64 (Kerb.ReplyPart.time t7)],Zv .i64 (Kerb.Granted.err t8)],[]))) (kT fun vs=>onCons vs fun x r=>AV.onAgg x fun cs=>cInt .i64 cs fun n_19 r_9=>cStr r_9 fun b_8 r_10=>cStr r_10 fun b_9 r_11=>cStr r_11 fun b_10 r_12=>cStr r_12 fun b_11 r_13=>cStr r_13 fun b_12 r_14=>cStr r_14 fun b_13 r_15=>cStr r_15 fun b_14 r_16=>cStr r_16 fun b_15 r_17=>cStr r_17 fun b_16 r_18=>cInt .u64 r_18 fun n_20 r_19=>cInt .u64 r_19 fun n_21 r_20=>cInt .u64 r_20 fun n_22 r_21=>cBs r_21 fun b_17 r_22=>cInt .i64 r_22 fun n_23 r_23=>cInt .i64 r_23 fun n_24 r_24=>onNil r_24 (onCons r fun x r=>AV.onAgg x fun cs=>cInt .u64 cs fun n_25 r_25=>cStr r_25 fun b_18 r_26=>cStr r_26 fun b_19 r_27=>cStr r_27 fun b_20 r_28=>cInt .i64 r_28 fun n_26 r_29=>cInt .i64 r_29 fun n_27 r_30=>cBs r_30 fun b_21 r_31=>cInt .i64 r_31 fun n_28 r_32=>let t9:Kerb.Enc:=Kerb.sealReply (Kerb.KdcReply.mk li (Zj b b_1 b_2) n n_7 n_6 []) (Yj n_25 (Zj b_18 b_19 b_20) n_26 n_27 b_21 n_28) n_5;onNil r_32 (cInt .i64 r fun n r=>onNil r (sel (!n==0) t1 (Zx (chk (t3&&l63 b_18&&l63 b_19&&l63 b_20&&Kerb.isU64 n_25&&Kerb.isU64 n_5) (some (Zd [Zk (Yn t9),Zv .i64 (Ym t9)],[]))) (kT fun vs=>cBs vs fun b r=>cInt .i64 r fun n r=>onNil r (sel (!n==0) t1 (some (Zd [Zk b,Yw [Zv .i64 1,Zu b_8,Zu b_9,Zu b_10,Zu b_11,Zu b_12,Zu b_13,Zu b_14,Zu b_15,Zu b_16,Zv .u64 n_20,Zv .u64 n_21,Zv .u64 n_22,Zk b_17,Zv .i64 n_23,Zv .i64 n_24],Yv true],[]))))))))))))))))))))))))))))))):Option (AV×Blocks))) (by kernel_rfl) ?_
  delta kT kB kI
  try dsimp only [cStr,cBs,cBool,cU8,cInt,cSl,l63]
  simp only [Yz,decide_eq_true_eq] at hpre
  obtain ⟨⟨⟨⟨⟨⟨ea,el⟩,xa⟩,xl⟩,lr⟩,hse⟩,lm⟩:=hpre
  have hse2:=Kerb.isU64_iff.1 hse
  obtain ⟨es,rfl,hok⟩:=Kerb.ents_of ea
  obtain ⟨cs,rfl,hcs⟩:=Kerb.cross_okof xa
  simp only [List.length_map] at el xl
  have lm2:msg.length≤4611686018427387904:=by omega
  obtain ⟨⟨n1,n2,n3⟩,n4,n5⟩:=Kerb.decReq_len msg
  obtain ⟨R,hR⟩:∃ R,(Zb msg).val=R:=⟨_,rfl⟩
  rw [hR] at n1 n2 n3 n4 n5
  obtain ⟨D,hD⟩:∃ D,Kerb.Db.mk rl es=D:=⟨_,rfl⟩
  have hDr:D.realm=rl:=by rw [← hD]
  have hDe:D.entries=es:=by rw [← hD]
  unfold Kerb.authAnswer
  by_cases q1:now<0
  ·rw [sel_pos (by simpa using q1),if_pos (by simp [Zf];omega)];rfl
  rw [sel_neg (by simpa using q1)]
  by_cases q2:now>4294967295
  ·rw [sel_pos (by simpa using q2),if_pos (by simp [Zf];omega)];rfl
  rw [sel_neg (by simpa using q2)]
  by_cases q3:ad<0
  ·rw [sel_pos (by simpa using q3),if_pos (by simp [Zf];omega)];rfl
  rw [sel_neg (by simpa using q3)]
  by_cases q4:ad>4294967295
  ·rw [sel_pos (by simpa using q4),if_pos (by simp [Zf];omega)];rfl
  rw [sel_neg (by simpa using q4),if_neg (by simp [Zf];omega)]
  have hRR:Zj R.client.name R.client.inst R.client.realm=R.client:=rfl
  simp (config:={maxSteps:=10000000}) only [Kerb.map_toEntry,Kerb.map_toCross,List.length_map,lm,lm2,ea,el,xa,xl,lr,hse,hse2,n1,n2,n3,n4,n5,hR,hRR,hD,decide_true,Yf,Bool.true_and,Bool.and_true,↓sInt,↓sU8,↓sBool,↓sStr,↓sBs,↓sSl,↓sAgg,↓sTup,↓sCons,↓sNil,↓sNilB,↓sChk,↓sChkBind,↓sSome]
  by_cases g1:(Zb msg).err=0
  case neg=>rw [sel_pos (by simpa using g1),if_pos g1];rfl
  rw [sel_neg (by simpa using g1),if_neg (by simpa using g1)]
  unfold Kerb.authAsk
  rw [hDr]
  by_cases g2:R.client.realm=rl
  case neg=>rw [sel_pos (by simpa using g2),if_pos g2];rfl
  rw [sel_neg (by simpa using g2),if_neg (by simpa using g2)]
  by_cases g3:(Kerb.clientEnt D R.client.name R.client.inst now).2=0
  case neg=>rw [sel_pos (by simpa using g3),if_pos g3];rfl
  rw [sel_neg (by simpa using g3),if_neg (by simpa using g3)]
  obtain ⟨i0,i1⟩:=Kerb.clie_lt g3
  obtain ⟨j,hj⟩:∃ j,(Kerb.clientEnt D R.client.name R.client.inst now).1=j:=⟨_,rfl⟩
  rw [hj] at i0 i1
  rw [hDe] at i1
  have hgj:(es.map Xb).getD j.toNat AV.undef=(Kerb.entAt D j).av:=by
   rw [Kerb.getD_ent i1]
   unfold Kerb.entAt
   rw [hDe]
  have hkj:(decide ((0:Int)≤j)&&decide (j<(es.length:Int)))=true:=by simp;omega
  have hCo:(Kerb.entAt D j).ok:=by
   unfold Kerb.entAt
   rw [hDe]
   exact hok _ (Kerb.mem_row (d:=Kerb.noEntry) i1)
  obtain ⟨C,hC⟩:∃ C,Kerb.entAt D j=C:=⟨_,rfl⟩
  rw [hC] at hgj hCo
  obtain ⟨v1,v2,v3,v4⟩:=Kerb.svc_okX (d:=D) (cs:=cs) (n:=R.service) (i:=R.inst) (now:=now) (by rw [hDe];exact hok) hcs
  obtain ⟨V,hV⟩:∃ V,Kerb.svc D cs R.service R.inst now=V:=⟨_,rfl⟩
  rw [hV] at v1 v2 v3 v4
  have c1:=hCo.2.2.2.2.1
  have c2:=hCo.2.2.1
  have h2:∀ a b:AV,decide (Zz [a,b]≤1000000)=true:=fun _ _=>rfl
  rw [hj,hC,hV]
  unfold Kerb.authGive Kerb.authLife
  rw [hDr]
  have gp:=fun lf:Int=>Kerb.grant_part (realm:=rl) (client:=R.client) (service:=⟨R.service,R.inst,rl⟩) (address:=ad) (little:=li) (now:=now) (life:=lf) (session:=se) (sealer:=C.key) (target:=V.key) (kvno:=V.kvno) n4 n5 lr hse
  have gp1:=fun lf=>(gp lf).1
  have gp2:=fun lf=>(gp lf).2.1
  have gp3:=fun lf=>(gp lf).2.2.1
  have gp4:=fun lf=>(gp lf).2.2.2
  have gPe:∀ p:Kerb.ReplyPart,Yj p.session ⟨p.service.name,p.service.inst,p.service.realm⟩ p.life p.kvno p.ticket p.time=p:=fun _=>rfl
  simp (config:={maxSteps:=10000000}) only [hkj,hgj,Xb,hV,v1,v4,c1,c2,h2,gp1,gp2,gp3,gp4,gPe,List.all_cons,List.all_nil,decide_true,Yf,Bool.true_and,Bool.and_true,↓sInt,↓sU8,↓sBool,↓sStr,↓sBs,↓sSl,↓sAgg,↓sTup,↓sCons,↓sNil,↓sNilB,↓sChk,↓sChkBind,↓sSome]
  by_cases g4:V.err=0
  case neg=>rw [sel_pos (by simpa using g4),if_pos g4];rfl
  rw [sel_neg (by simpa using g4),if_neg (by simpa using g4)]
  obtain ⟨L,hL⟩:∃ L,Kerb.grantLife now (Kerb.imin (Kerb.imin R.life C.maxLife) V.life) ([C.expires,V.expires].filter fun n => !(n==0))=L:=⟨_,rfl⟩
  rw [hL]
  cases g5:L.2
  ·rfl
  rw [Zn,sel_false,if_neg (by simp)]
  by_cases g6:Kerb.classOf se=2
  case neg=>rw [sel_pos (by simpa using g6),if_pos g6];rfl
  rw [sel_neg (by simpa using g6),if_neg (by simpa using g6)]
  obtain ⟨GG,hGG⟩:∃ GG,Kerb.grant rl R.client ⟨R.service,R.inst,rl⟩ ad li now L.1 se C.key V.key V.kvno=GG:=⟨_,rfl⟩
  rw [hGG]
  by_cases g7:GG.err=0
  case neg=>rw [sel_pos (by simpa using g7),if_pos g7];rfl
  rw [sel_neg (by simpa using g7),if_neg (by simpa using g7)]
  by_cases g8:(Kerb.sealReply ⟨li,R.client,R.time,C.expires,C.kvno,[]⟩ GG.part C.key).err=0
  case neg=>rw [sel_pos (by simpa using g8),if_pos g8];rfl
  rw [sel_neg (by simpa using g8),if_neg (by simpa using g8)]
 ·cases h
theorem p4  : runFn (G.env 4 13) G.rts (G.own 4) Tryz.f4 [] []=some (.bool true,[]):=by kernel_rfl
theorem w4:Walked Tryz.prog G 4 13 sp4:=by
 refine ⟨Tryz.f4,Tryz.func4,by decide +kernel,rfl,fun xs bl r h=> ?_⟩
 unfold sp4 at h
 split at h
 ·cases h;exact p4
 ·cases h
set_option maxHeartbeats 4000000 in
theorem w3:Walked Tryz.prog G 3 14 sp3:=by
 refine ⟨Tryz.f3,Tryz.func3,by decide +kernel,rfl,fun xs bl r h=> ?_⟩
 unfold sp3 at h
 split at h
 ·rename_i d cx nm ins now wh pe sml lf xp bd
  obtain ⟨hpre,h2⟩:=chk_inv h;cases h2
  refine Eq.trans (b:=(let t0:Int:=Xf (Yy .i64 (↑(UInt8.toNat wh):Int)) 3;sel (decide ((↑(Zz d):Int)>300)) (some (Yv true,[])) (sel (decide ((↑(Zz cx):Int)>60)) (some (Yv true,[])) (sel (decide ((↑(Zz nm):Int)>100)) (some (Yv true,[])) (sel (decide ((↑(Zz ins):Int)>100)) (some (Yv true,[])) (Zx (chk (decide (Zz cx≤100000)) (some (Xm 4 (Xh Kerb.Cross.av (Kerb.goodCross cx)),[]))) fun (r:AV×Blocks)=>onNilB (Xv r) (AV.onSl 4 (Xu r) fun b=>Zx (chk (decide (0≤t0)&&decide (t0≤4611686018427387904)) (some (Yw [Zu (Xz (Kerb.service t0)),Zu (Xy (Kerb.service t0)),Zu (Yb (Kerb.service t0))],[]))) (kA fun cs=>cStr cs fun b_1 r=>cStr r fun b_2 r=>cStr r fun b_3 r=>onNil r (Zx (chk (decide (0≤Yy .i64 (↑(UInt8.toNat pe):Int))) (some (Yw [Zu Kerb.krbtgt,Zu (Xq (Yy .i64 (↑(UInt8.toNat pe):Int))),Zu (Xq 0)],[]))) (kA fun cs=>cStr cs fun b_4 r=>cStr r fun b_5 r=>cStr r fun b_6 r=>onNil r (Zx (loopM (fun (st:List AV)=>cBs st fun b r=>cInt .i64 r fun n r=>cInt .u16 r fun n_1 r=>cU8 r fun b_7 r=>cU8 r fun b_8 r=>cU8 r fun b_9 r=>let t1:AV:=Yw [Zu (Kerb.Db.realm (Kerb.simpleDb b_7 b_8 b_9)),Xm 9 (Xh Xb (Kerb.Db.entries (Kerb.simpleDb b_7 b_8 b_9)))];cBool r fun b_10 r=>cSl 4 r fun b_11 r=>cSl 3 r fun b_12 r=>cInt .i64 r fun n_2 r=>let t2:Option (List AV ⊕ Ex×List AV):=some (Sum.inr (Ex.ret,[Zk b,Zv .i64 n,Zv .u16 n_1,Xn b_7,Xn b_8,Xn b_9,Yv false,Xm 4 b_11,Xm 3 b_12,Zv .i64 n_2]));onNil r (sel (decide (n_2<Yy .i64 (2*(↑(Zz b_12):Int)))) (Zx (chk (decide (Zz b≤100000)&&true) (some (Yw [Zu (Kerb.Db.realm (Kerb.dataDb b 0)),Xm 9 (Xh Xb (Kerb.Db.entries (Kerb.dataDb b 0)))],[]))) (kA fun cs=>cStr cs fun b_13 r=>cSl 9 r fun b_14 r=>let t3:Int:=(↑(Zz [t1,Yw [Zu b_13,Xm 9 b_14]]):Int);onNil r (chk (decide (0≤Xf n_2 2)&&decide (Xf n_2 2<t3)&&true) (AV.onAgg (List.getD [t1,Yw [Zu b_13,Xm 9 b_14]] (Xw (Xf n_2 2)) AV.undef) fun cs=>cStr cs fun b_15 r=>cSl 9 r fun b_16 r=>let t4:Bool:=List.all b_16 Kerb.isEntry&&decide (Zz b_16≤1000000)&&List.all b_11 Kerb.isCross&&decide (Zz b_11≤1000000);onNil r (chk (decide (0≤Yy .i64 (Int.tdiv n_2 2))&&decide (Yy .i64 (Int.tdiv n_2 2)<(↑(Zz b_12):Int))&&true) (AV.onAgg (List.getD b_12 (Xw (Yy .i64 (Int.tdiv n_2 2))) AV.undef) fun cs=>cStr cs fun b_17 r=>cStr r fun b_18 r=>cStr r fun b_19 r=>onNil r (chk (decide (0≤Xf n_2 2)&&decide (Xf n_2 2<(↑(Zz [Zv .i64 (Yy .i64 n_1),Zv .i64 n]):Int))&&true) (Wx .i64 (List.getD [Zv .i64 (Yy .i64 n_1),Zv .i64 n] (Xw (Xf n_2 2)) AV.undef) fun n_3=>let t6:Kerb.Svc:=Kerb.svc (Kerb.Db.mk b_15 (Xh Kerb.toEntry b_16)) (Xh Kerb.toCross b_11) b_17 b_18 n_3;let t5:Option (AV×Blocks):=chk (t4&&l63 b_18) (some (Zd [Zv .u64 (Kerb.Svc.key t6),Zv .i64 (Kerb.Svc.kvno t6),Zv .i64 (Kerb.Svc.life t6),Zv .i64 (Kerb.Svc.expires t6),Zv .i64 (Kerb.Svc.err t6)],[]));Zx t5 (kT fun vs=>cInt .u64 vs fun n_4 r=>cInt .i64 r fun n_5 r=>cInt .i64 r fun n_6 r=>cInt .i64 r fun n_7 r=>cInt .i64 r fun n_8 r=>onNil r (Zx t5 (kT fun vs=>cInt .u64 vs fun n_9 r=>cInt .i64 r fun n_10 r=>cInt .i64 r fun n_11 r=>cInt .i64 r fun n_12 r=>cInt .i64 r fun n_13 r=>onNil r (sel (!n_4==n_9) t2 (sel (!n_5==n_10) t2 (sel (!n_6==n_11) t2 (sel (!n_7==n_12) t2 (sel (!n_8==n_13) t2 (some (Sum.inl [Zk b,Zv .i64 n,Zv .u16 n_1,Xn b_7,Xn b_8,Xn b_9,Yv b_10,Xm 4 b_11,Xm 3 b_12,Zv .i64 (Yy .i64 (n_2+1))])))))))))))))))))) (some (Sum.inr (Ex.exit 0,[Zk b,Zv .i64 n,Zv .u16 n_1,Xn b_7,Xn b_8,Xn b_9,Yv b_10,Xm 4 b_11,Xm 3 b_12,Zv .i64 n_2]))))) [Zk d,Zv .i64 now,Zv .u16 sml,Xn lf,Xn xp,Xn bd,Yv false,Xm 4 b,Xm 3 [Yw [Zu nm,Zu ins,Zu []],Yw [Zu b_1,Zu b_2,Zu b_3],Yw [Zu b_4,Zu b_5,Zu b_6],Yw [Zu [(107:UInt8),(114:UInt8),(98:UInt8),(116:UInt8),(103:UInt8),(116:UInt8)],Zu ins,Zu []]],Zv .i64 0]) fun (r:Ex×List AV)=>cBs (Xv r) fun b r_1=>cInt .i64 r_1 fun n r_2=>cInt .u16 r_2 fun n r_3=>cU8 r_3 fun b r_4=>cU8 r_4 fun b r_5=>cU8 r_5 fun b r_6=>cBool r_6 fun b r_7=>cSl 4 r_7 fun b_7 r_8=>cSl 3 r_8 fun b_8 r_9=>cInt .i64 r_9 fun n r_10=>onNil r_10 (exK r.1 (some (Yv b,[])) fun (j:Nat)=>sel (Nat.beq j 0) (some (Yv true,[])) none)))))))))):Option (AV×Blocks))) (by kernel_rfl) ?_
  delta kT kA
  try dsimp only [cStr,cBs,cBool,cU8,cInt,cSl,l63]
  simp only [Yz,decide_eq_true_eq] at hpre
  by_cases q1:((d.length:Nat):Int)>300
  ·rw [sel_pos (by simpa using q1)]
  rw [sel_neg (by simpa using q1)]
  by_cases q2:((cx.length:Nat):Int)>60
  ·rw [sel_pos (by simpa using q2)]
  rw [sel_neg (by simpa using q2)]
  by_cases q3:((nm.length:Nat):Int)>100
  ·rw [sel_pos (by simpa using q3)]
  rw [sel_neg (by simpa using q3)]
  by_cases q4:((ins.length:Nat):Int)>100
  ·rw [sel_pos (by simpa using q4)]
  rw [sel_neg (by simpa using q4)]
  have bw:=Kerb.u8i_bd wh
  have bp:=Kerb.u8i_bd pe
  have lcx:cx.length≤100000:=by omega
  have ld:d.length≤100000:=by omega
  have z1:Xf (Xj wh) 3=Xj wh % 3:=Int.tmod_eq_emod_of_nonneg bw.1
  have z2:(decide ((0:Int)≤Xj wh % 3)&&decide (Xj wh % 3≤4611686018427387904))=true:=by simp;omega
  have z3:decide ((0:Int)≤Xj pe)=true:=by simp;omega
  obtain ⟨W,hW⟩:∃ W,Kerb.service (Xj wh % 3)=W:=⟨_,rfl⟩
  have hWl:=hW ▸ Kerb.service_dec (Xj wh % 3)
  obtain ⟨xs,hxs⟩:∃ xs,Kerb.goodCross cx=xs:=⟨_,rfl⟩
  obtain ⟨xl,xok⟩:=hxs ▸ Kerb.goodCross_ok cx
  have hxT:=Kerb.cross_all xok
  have xl2:xs.length≤1000000:=by omega
  simp (config:={maxSteps:=10000000}) only [lcx,hxs,Kerb.wrap_u8i,z1,z2,z3,hW,decide_true,↓sInt,↓sU8,↓sBool,↓sStr,↓sBs,↓sSl,↓sAgg,↓sTup,↓sCons,↓sNil,↓sNilB,↓sChk,↓sChkBind,↓sSome]
  refine loop_rounds (fun i:Nat=>[Zk d,Zv Zp now,Zv IntKind.u16 sml,Xn lf,Xn xp,Xn bd,Yv false,Xm 4 (xs.map Kerb.Cross.av),Xm 3 [Yw [Zu nm,Zu ins,Zu []],Yw [Zu W.name,Zu W.inst,Zu W.realm],Yw [Zu Kerb.krbtgt,Zu (Xq (Xj pe)),Zu (Xq 0)],Yw [Zu [107,114,98,116,103,116],Zu ins,Zu []]],Zv Zp (i:Int)]) (fun i=>i≤8) (fun i=>8-i) (fun r=>r=(Ex.exit 0,[Zk d,Zv Zp now,Zv IntKind.u16 sml,Xn lf,Xn xp,Xn bd,Yv false,Xm 4 (xs.map Kerb.Cross.av),Xm 3 [Yw [Zu nm,Zu ins,Zu []],Yw [Zu W.name,Zu W.inst,Zu W.realm],Yw [Zu Kerb.krbtgt,Zu (Xq (Xj pe)),Zu (Xq 0)],Yw [Zu [107,114,98,116,103,116],Zu ins,Zu []]],Zv Zp 8])) 0 (by decide) rfl ?_ ?_
  ·intro i hi
   simp (config:={maxSteps:=10000000}) only [↓sInt,↓sU8,↓sBool,↓sStr,↓sBs,↓sSl,↓sAgg,↓sTup,↓sCons,↓sNil,↓sNilB,↓sChk,↓sChkBind,↓sSome]
   by_cases h1:i<8
   case neg =>
    have:i=8:=by omega
    subst this
    exact ⟨_,rfl,rfl⟩
   rw [sel_pos (by
    have:Yy .i64 (2*((Zz [Yw [Zu nm,Zu ins,Zu []],Yw [Zu W.name,Zu W.inst,Zu W.realm],Yw [Zu Kerb.krbtgt,Zu (Xq (Xj pe)),Zu (Xq 0)],Yw [Zu [107,114,98,116,103,116],Zu ins,Zu []]]:Nat):Int))=8:=rfl
    rw [this];simp;omega)]
   obtain ⟨D,hDp,hDok,hDl⟩:=Kerb.pick_mod8 (f:=fun d:Kerb.Db=>Yw [Zu d.realm,Xm 9 (d.entries.map Xb)]) (a:=Kerb.simpleDb lf xp bd) (b:=Kerb.dataDb d 0) (e:=AV.undef) (P:=fun d=>d.ok∧d.entries.length≤1000000) h1 ⟨(Kerb.simpleDb_err lf xp bd).2,by have:=(Kerb.Db.err_inv (Kerb.simpleDb_err lf xp bd).1).2.1;omega⟩ ⟨(Kerb.dataDb_err d 0).2,by have:=(Kerb.Db.err_inv (Kerb.dataDb_err d 0).1).2.1;omega⟩
   have hDe:=Kerb.all_ents hDok
   obtain ⟨t,ht⟩:=Kerb.pick_mod8i (a:=Yy .i64 sml) (b:=now) (e:=AV.undef) h1
   obtain ⟨p,hp,hp2⟩:=Kerb.pick_div8 (a:=⟨nm,ins,[]⟩) (b:=W) (c:=⟨Kerb.krbtgt,Xq (Xj pe),Xq 0⟩) (d:=⟨[107,114,98,116,103,116],ins,[]⟩) (e:=AV.undef) (P:=fun p=>p.inst.length≤9223372036854775807) h1 (by dsimp only;omega) hWl.2.1 (Kerb.realm_lenB _) (by dsimp only;omega)
   have hr:∀ a b:AV,(decide ((0:Int)≤Xf (i:Int) 2)&&decide (Xf (i:Int) 2<((Zz [a,b]:Nat):Int))&&true)=true:=fun a b=>Kerb.rest8_in
   have hh:∀ a b c d:AV,(decide ((0:Int)≤Yy .i64 (Int.tdiv (i:Int) 2))&&decide (Yy .i64 (Int.tdiv (i:Int) 2)<((Zz [a,b,c,d]:Nat):Int))&&true)=true:=fun a b c d=>Kerb.half8_in h1
   have hD2:Kerb.Db.mk D.realm D.entries=D:=rfl
   simp (config:={maxSteps:=10000000}) only [ld,hDp,hDe,hDl,ht,hp,hp2,hr,hh,hxT,xl2,hD2,Kerb.map_toEntry,Kerb.map_toCross,List.length_map,BEq.rfl,Zn,decide_true,Yf,Bool.true_and,Bool.and_true,↓sFalse,↓sInt,↓sU8,↓sBool,↓sStr,↓sBs,↓sSl,↓sAgg,↓sTup,↓sCons,↓sNil,↓sNilB,↓sChk,↓sChkBind,↓sSome]
   rw [wrap_i64 (by omega) (by omega)]
   exact ⟨_,rfl,i+1,rfl,by omega,by dsimp only;omega⟩
  ·rintro _ rfl
   simp (config:={maxSteps:=10000000}) only [↓A0,A0]
   rw [sel_pos (Nat.beq_refl _)]
 ·cases h
end Go.Proofs.YtojagnkahnpklaaGreatDoor
