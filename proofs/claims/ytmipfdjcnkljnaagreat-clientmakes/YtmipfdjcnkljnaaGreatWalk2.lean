/- What the functions of this seat compute. -/
import Derived.Test.YtmipfdjcnkljnaaGreatTab
import Derived.Test.YtmipfdjcnkljnaaGreatKerbPlain
import Derived.Test.YtmipfdjcnkljnaaGreatAbsStep
import Derived.Test.YtmipfdjcnkljnaaGreatKerbCli4
import Derived.Test.YtmipfdjcnkljnaaGreatKerbCli5
import Derived.Test.YtmipfdjcnkljnaaGreatKerbCli4
import Derived.Test.YtmipfdjcnkljnaaGreatKerbCli8
open Go.Abs.AV renaming int→Zz,str→Zy,bool→Zj,bs→Zk,tup→Zb,onInt→Yj,agg→Yp,sl→Xx,ownB→Xf,onAgg→Wx,onBool→Wj,onStr→Vu,onBs→Vj,ownL→Vn
open List renaming length→Zx,append→Xg,map→Ww,all→Vg
open Option renaming bind→Zw
open Kerb renaming within→Zv,putN_len→Zf,putPrin_len→Yx,personClient→Yw,putN→Yk,get→Ym,user→Xz,encodeAp→Xq,u8i→Xk,noSent→Xb,putText_len→Xn,validInst→Xm,encodeAuth→Xh,decodeAuth→Wz,dataCred→Wy,validName→Wv,toCred→Wk,isCred→Wp,credErr→Wd,openAuth→Wf,decodeAp→Wg,putText→Wh,readHead→Vy,liveCred→Vx,map_toCred→Vw,rdPrin→Vq,bytes→Vd,readBox→Vm,openBox→Vh,apOf→Ux,encodeTgs→Uw,encodeRequest→Uv,cacheLoop→Uu,header→Ub,credsErr→Un
open Kerb.Prin renaming mk→Zu,valid→Zg,realm→Zm,name→Yz,inst→Yy
open Kerb.Cred renaming av→Zq,service→Yf,session→Uz,ticket→Up,issued→Ud
open Kerb.Client renaming av→Zp,mk→Zh,cache→Xy,wanted→Xp,me→Xd,err→Uf
open Kerb.Cache renaming av→Zd,owner→Xv,creds→Wb,mk→Wm
open Go.IntKind renaming wrap→Zn,i64→Yd
open Bool renaming not_true→Yv,and_eq_true→Yg,and_self→Yh,false_eq_true→Uk
open Kerb.Dec renaming val→Yu,err→Vb
open Prod renaming snd→Yq,fst→Yn
open UInt8 renaming toNat→Yb
open Kerb.Got renaming err→Xw,next→Vz,val→Vv
open Kerb.Auth renaming mk→Xu,client→Wn,check→Vp
open Kerb.ApRequest renaming mk→Xj,mutual_→Uy,ticket→Uq,little→Uj,realm→Ug,kvno→Um,auth→Uh
open Kerb.Enc renaming val→Wu,err→Wq
open Kerb.GotB renaming err→Vk
open Int renaming toNat→Vf
namespace Go.Proofs.YtmipfdjcnkljnaaGreat
open Go Go.Abs Go.Proofs
set_option linter.unusedVariables false
set_option linter.unusedSimpArgs false
set_option maxRecDepth 100000
theorem w15:Walked Tryz.prog G 15 5 sp15:=by
 refine ⟨Tryz.f15,Tryz.func15,by decide +kernel,rfl,fun xs bl r h=> ?_⟩
 unfold sp15 at h
 split at h
 ·rename_i l n
  obtain ⟨hpre,h2⟩:=chk_inv h;cases h2
  refine Eq.trans (b:=(Zw (chk (decide (0≤n)&&decide (n≤4611686018427387904)) (some (Yp [Zy (Yz (Xz n)),Zy (Yy (Xz n)),Zy (Zm (Xz n))],[]))) (kA fun cs=>cStr cs fun b r=>cStr r fun b_1 r=>cStr r fun b_2 r=>onNil r (Zw (loopM (fun (st:List AV)=>cStr st fun b r=>cStr r fun b_3 r=>cStr r fun b_4 r=>cSl 8 r fun b_5 r=>cBs r fun b_6 r=>cInt .i64 r fun n r=>cStr r fun b_7 r=>cStr r fun b_8 r=>cStr r fun b_9 r=>onCons r fun x r=>AV.onOwnL x fun y=>onNil r (sel (decide (n<(↑(Zx b_6):Int))) (Zw (chk (decide (Zx b_6≤1000000)&&decide (0≤n)) (some (Yp [Zy (Yz (Yf (Wy b_6 n))),Zy (Yy (Yf (Wy b_6 n))),Zy (Zm (Yf (Wy b_6 n))),Zz .u64 (Uz (Wy b_6 n)),Zz .i64 (Kerb.Cred.life (Wy b_6 n)),Zz .i64 (Kerb.Cred.kvno (Wy b_6 n)),Zz .i64 (Ud (Wy b_6 n)),Zk (Up (Wy b_6 n))],[[Zk b_6,Zz .i64 (Kerb.dataPos b_6 n)]]))) fun (r:AV×Blocks)=>onConsB (Yq r) fun (x:List AV) (r_1:List (List AV))=>cBs x fun b_10 r_2=>cInt .i64 r_2 fun n r_3=>onNil r_3 (onNilB r_1 (Wx (Yn r) fun cs=>cStr cs fun b_11 r=>cStr r fun b_12 r=>cStr r fun b_13 r=>cInt .u64 r fun n_1 r=>cInt .i64 r fun n_2 r=>cInt .i64 r fun n_3 r=>cInt .i64 r fun n_4 r=>cBs r fun b_14 r=>onNil r (Zw (loopM (fun (st:List AV)=>cStr st fun b r=>cStr r fun b_15 r=>cStr r fun b_16 r=>cSl 8 r fun b_17 r=>cBs r fun b_18 r=>cInt .i64 r fun n r=>cStr r fun b_19 r=>cStr r fun b_20 r=>cStr r fun b_21 r=>onCons r fun x r=>AV.onOwnL x fun y=>cStr r fun b_22 r=>cStr r fun b_23 r=>cStr r fun b_24 r=>cInt .u64 r fun n_5 r=>cInt .i64 r fun n_6 r=>cInt .i64 r fun n_7 r=>cInt .i64 r fun n_8 r=>cBs r fun b_25 r=>cBool r fun b_26 r=>cInt .i64 r fun n_9 r=>onNil r (sel (decide (n_9<(↑(Zx y):Int))) (sel b_26 (chk (decide (0≤n_9)&&decide (n_9<(↑(Zx y):Int))&&true) (chk (Nat.blt (Vf n_9) (Zx y)&&true) (Wx (List.getD y (Vf n_9) AV.undef) fun cs=>cStr cs fun b_27 r=>cStr r fun b_28 r=>cStr r fun b_29 r=>cInt .u64 r fun n_10 r=>cInt .i64 r fun n_11 r=>cInt .i64 r fun n_12 r=>cInt .i64 r fun n_13 r=>cBs r fun b_30 r=>onNil r (some (Sum.inl [Zy b,Zy b_15,Zy b_16,Xx 8 b_17,Zk b_18,Zz .i64 n,Zy b_19,Zy b_20,Zy b_21,Vn y,Zy b_22,Zy b_23,Zy b_24,Zz .u64 n_5,Zz .i64 n_6,Zz .i64 n_7,Zz .i64 n_8,Zk b_25,Zj !(b_27==b_22&&(b_28==b_23&&b_29==b_24)),Zz .i64 (Zn .i64 (n_9+1))]))))) (some (Sum.inl [Zy b,Zy b_15,Zy b_16,Xx 8 b_17,Zk b_18,Zz .i64 n,Zy b_19,Zy b_20,Zy b_21,Vn y,Zy b_22,Zy b_23,Zy b_24,Zz .u64 n_5,Zz .i64 n_6,Zz .i64 n_7,Zz .i64 n_8,Zk b_25,Zj false,Zz .i64 (Zn .i64 (n_9+1))]))) (some (Sum.inr (Ex.exit 2,[Zy b,Zy b_15,Zy b_16,Xx 8 b_17,Zk b_18,Zz .i64 n,Zy b_19,Zy b_20,Zy b_21,Vn y,Zy b_22,Zy b_23,Zy b_24,Zz .u64 n_5,Zz .i64 n_6,Zz .i64 n_7,Zz .i64 n_8,Zk b_25,Zj b_26,Zz .i64 n_9]))))) [Zy b,Zy b_3,Zy b_4,Xx 8 b_5,Zk b_10,Zz .i64 n,Zy b_7,Zy b_8,Zy b_9,Vn y,Zy b_11,Zy b_12,Zy b_13,Zz .u64 n_1,Zz .i64 n_2,Zz .i64 n_3,Zz .i64 n_4,Zk b_14,Zj true,Zz .i64 0]) fun (r:Ex×List AV)=>cStr (Yq r) fun b r_4=>cStr r_4 fun b_15 r_5=>cStr r_5 fun b_16 r_6=>cSl 8 r_6 fun b_17 r_7=>cBs r_7 fun b_18 r_8=>cInt .i64 r_8 fun n r_9=>cStr r_9 fun b_19 r_10=>cStr r_10 fun b_20 r_11=>cStr r_11 fun b_21 r_12=>onCons r_12 fun x r_13=>AV.onOwnL x fun y=>let t0:List AV:=[Zy b,Zy b_15,Zy b_16,Xx 8 b_17,Zk b_18,Zz .i64 n,Zy b_19,Zy b_20,Zy b_21,Vn y];cStr r_13 fun b_22 r_14=>cStr r_14 fun b_23 r_15=>cStr r_15 fun b_24 r_16=>cInt .u64 r_16 fun n_5 r_17=>cInt .i64 r_17 fun n_6 r_18=>cInt .i64 r_18 fun n_7 r_19=>cInt .i64 r_19 fun n_8 r_20=>cBs r_20 fun b_25 r_21=>let t1:List AV:=[Yp [Zy b_22,Zy b_23,Zy b_24,Zz .u64 n_5,Zz .i64 n_6,Zz .i64 n_7,Zz .i64 n_8,Zk b_25]];cBool r_21 fun b_26 r_22=>cInt .i64 r_22 fun n_9 r_23=>onNil r_23 (exK r.1 (some (Sum.inr (Ex.ret,t0))) fun (j:Nat)=>sel (Nat.beq j 2) (sel b_26 (chk (room (Zx y+Zx t1) (nat_lit 104)) (some (Sum.inl [Zy b,Zy b_15,Zy b_16,Xx 8 b_17,Zk b_18,Zz .i64 n,Zy b_19,Zy b_20,Zy b_21,Vn (y++t1)]))) (some (Sum.inl t0))) none))))) (some (Sum.inr (Ex.exit 0,[Zy b,Zy b_3,Zy b_4,Xx 8 b_5,Zk b_6,Zz .i64 n,Zy b_7,Zy b_8,Zy b_9,Vn y]))))) [Zy [],Zy [],Zy [],Xx 8 [],Zk l,Zz .i64 0,Zy b,Zy b_1,Zy b_2,Vn []]) fun (r:Ex×List AV)=>cStr (Yq r) fun b r_1=>cStr r_1 fun b_3 r_2=>cStr r_2 fun b_4 r_3=>cSl 8 r_3 fun b_5 r_4=>cBs r_4 fun b_6 r_5=>cInt .i64 r_5 fun n r_6=>cStr r_6 fun b_7 r_7=>cStr r_7 fun b_8 r_8=>cStr r_8 fun b_9 r_9=>onCons r_9 fun x r_10=>AV.onOwnL x fun y=>onNil r_10 (exK r.1 (some (Yp [Zy b,Zy b_3,Zy b_4,Xx 8 b_5],[])) fun (j:Nat)=>sel (Nat.beq j 0) (some (Yp [Zy b_7,Zy b_8,Zy b_9,Xx 8 y],[])) none))):Option (AV×Blocks))) (by kernel_rfl) ?_
  delta kA
  try dsimp only [cStr,cBs,cBool,cU8,cInt,cSl,l63]
  simp only [Yg,decide_eq_true_eq] at hpre
  obtain ⟨⟨hl,hn0⟩,hn⟩:=hpre
  have c:decide (l.length≤1000000)=true:=by simpa using hl
  rw [chk_of (by simp;omega)]
  simp only [A0,Zp,Zd,Zq]
  refine loop_rounds (fun s:Nat×Int×List Kerb.Cred=>[Zy [],Zy [],Zy [],Xx 8 [],Zk l,Zz Yd s.2.1,Zy (Xz n).name,Zy (Xz n).inst,Zy (Xz n).realm,Vn (s.2.2.map Zq)])
   (fun s=>0≤s.2.1∧(l.length:Int)-s.2.1<s.1∧s.2.2.length+s.1≤l.length+1∧Uu l s.1 s.2.1 s.2.2=Uu l (l.length+1) 0 []) (fun s=>s.1)
   (fun r=>∃ q:Int,r=(.exit 0,[Zy [],Zy [],Zy [],Xx 8 [],Zk l,Zz Yd q,Zy (Xz n).name,Zy (Xz n).inst,Zy (Xz n).realm,Vn ((Uu l (l.length+1) 0 []).map Zq)])) (l.length+1,0,[]) ⟨by simp,by simp only;omega,by simp,rfl⟩ rfl ?_ ?_
  ·rintro ⟨f,q,cs⟩ ⟨hq,hf,hc,he⟩
   simp only at hq hf hc he
   have cq:decide (0≤q)=true:=by simpa using hq
   simp only [A0,Zp,Zd,Zq,c,cq,Yh]
   by_cases hlt:q<l.length
   ·rw [sel_pos (by simpa using hlt)]
    cases f with
    | zero=>simp at hf;omega
    | succ f =>
     rw [Uu,if_pos hlt] at he
     have hgt:=Kerb.dataPos_gt hq hlt
     obtain ⟨x,hx⟩:∃ x,Wy l q=x:=⟨_,rfl⟩
     rw [hx] at he ⊢
     refine loop_ex (fun s:Nat×Bool=>[Zy [],Zy [],Zy [],Xx 8 [],Zk l,Zz Yd (Kerb.dataPos l q),Zy (Xz n).name,Zy (Xz n).inst,Zy (Xz n).realm,Vn (cs.map Zq),Zy x.service.name,Zy x.service.inst,Zy x.service.realm,Zz IntKind.u64 x.session,Zz Yd x.life,Zz Yd x.kvno,Zz Yd x.issued,Zk x.ticket,Zj s.2,Zz Yd (s.1:Int)])
      (fun s=>s.1≤cs.length∧s.2 = !((cs.take s.1).any fun d=>d.service.eqb x.service)) (fun s=>cs.length-s.1)
      (fun r=>r=(.exit 2,[Zy [],Zy [],Zy [],Xx 8 [],Zk l,Zz Yd (Kerb.dataPos l q),Zy (Xz n).name,Zy (Xz n).inst,Zy (Xz n).realm,Vn (cs.map Zq),Zy x.service.name,Zy x.service.inst,Zy x.service.realm,Zz IntKind.u64 x.session,Zz Yd x.life,Zz Yd x.kvno,Zz Yd x.issued,Zk x.ticket,Zj (!(cs.any fun d=>d.service.eqb x.service)),Zz Yd (cs.length:Int)])) (0,true) ⟨Nat.zero_le _,by simp⟩ rfl ?_ ?_
     ·rintro ⟨j,b⟩ ⟨hj,hb⟩
      simp only at hj hb
      simp only [A0,Zp,Zd,Zq]
      by_cases hjl:j<cs.length
      ·rw [sel_pos (by simp;omega)]
       have htk:=Kerb.take_cred hjl
       cases b
       ·rw [sel_false,wrap_i64 (by omega) (by omega)]
        refine ⟨_,rfl,(j+1,false),rfl,⟨hjl,?_⟩,by simp only;omega⟩
        simp only [htk,List.any_append,Bool.not_or]
        rw [← hb,Bool.false_and]
       ·rw [sel_true,chk_of (by simp;omega),chk_of (by simp [Nat.blt_eq];omega),Int.toNat_natCast,Kerb.getD_av hjl]
        obtain ⟨d,hd⟩:∃ d,cs.getD j Kerb.noCred=d:=⟨_,rfl⟩
        rw [hd] at htk ⊢
        simp only [Zq,A0,Zp,Zd,Zq]
        rw [wrap_i64 (by omega) (by omega)]
        refine ⟨_,rfl,(j+1,!(Kerb.Prin.eqb d.service x.service)),rfl,⟨hjl,?_⟩,by simp only;omega⟩
        simp only [htk,List.any_append,Bool.not_or]
        rw [← hb,Bool.true_and]
        simp
      ·rw [sel_neg (by simp;omega)]
       have:j=cs.length:=by omega
       subst this
       rw [List.take_of_length_le (Nat.le_refl _)] at hb
       subst hb
       exact ⟨_,rfl,rfl⟩
     ·rintro _ rfl
      simp only [A0,Zp,Zd,Zq]
      rw [sel_pos (Nat.beq_refl _)]
      cases hany:cs.any fun d=>d.service.eqb x.service
      ·rw [hany,if_neg (by simp)] at he
       rw [Bool.not_false,sel_true,chk_of (by simp [room,maxLen];omega)]
       refine ⟨_,rfl,(f,Kerb.dataPos l q,cs++[x]),by simp [Zq],⟨by simp only;omega,by simp only;omega,by simp;omega,he⟩,by simp⟩
      ·rw [hany,if_pos rfl] at he
       rw [Yv,sel_false]
       refine ⟨_,rfl,(f,Kerb.dataPos l q,cs),rfl,⟨by simp only;omega,by simp only;omega,by simp only;omega,he⟩,by simp⟩
   ·rw [sel_neg (by simpa using hlt)]
    refine ⟨_,rfl,q,?_⟩
    rw [← he]
    cases f with
    | zero=>rfl
    | succ f=>rw [Uu,if_neg hlt]
  ·rintro _ ⟨q,rfl⟩
   simp only [A0,Zp,Zd,Zq]
   rw [sel_pos (Nat.beq_refl _)]
   rfl
 ·cases h
theorem w29:Walked Tryz.prog G 29 5 sp29:=by
 refine ⟨Tryz.f29,Tryz.func29,by decide +kernel,rfl,fun xs bl r h=> ?_⟩
 unfold sp29 at h
 split at h
 ·rename_i b kd k
  obtain ⟨hpre,h2⟩:=chk_inv h;cases h2
  refine Eq.trans (b:=(Zw (chk (decide (Zx b≤140737488355328)) (some (Zb [Yp [Zz .i64 (Kerb.Box.kind (Kerb.GotBox.box (Vm b))),Zz .u64 (Kerb.Box.key (Kerb.GotBox.box (Vm b))),Zk (Kerb.Box.body (Kerb.GotBox.box (Vm b)))],Zz .i64 (Kerb.GotBox.n (Vm b)),Zz .i64 (Kerb.GotBox.err (Vm b))],[]))) fun (r:AV×Blocks)=>onNilB (Yq r) (AV.onTup (Yn r) fun vs=>onCons vs fun x r=>Wx x fun cs=>onCons cs fun x r_1=>Yj .i64 x fun n=>onCons r_1 fun x r_2=>Yj .u64 x fun n_1=>onCons r_2 fun x r_3=>Vj x fun b_1=>onNil r_3 (onCons r fun x r=>Yj .i64 x fun n_2=>onCons r fun x r=>Yj .i64 x fun n_3=>onNil r (sel (!n_3==0) (some (Zb [Zk [],Zj false],[])) (sel (!n_2==(↑(Zx b):Int)) (some (Zb [Zk [],Zj false],[])) (sel (!n==kd) (some (Zb [Zk [],Zj false],[])) (sel (!n_1==k) (some (Zb [Zk [],Zj false],[])) (some (Zb [Zk b_1,Zj true],[])))))))):Option (AV×Blocks))) (by kernel_rfl) ?_
  simp only [↓A0,hpre]
  unfold Vh
  generalize Vm b=r
  by_cases h1:r.err=0
  case neg=>rw [sel_pos (by simpa using h1),if_pos (.inl h1)]
  rw [sel_neg (by simpa using h1)]
  by_cases h2:r.n=b.length
  case neg=>rw [sel_pos (by simpa using h2),if_pos (.inr (.inl h2))]
  rw [sel_neg (by simpa using h2)]
  by_cases h3:r.box.kind=kd
  case neg=>rw [sel_pos (by simpa using h3),if_pos (.inr (.inr (.inl h3)))]
  rw [sel_neg (by simpa using h3)]
  by_cases h4:r.box.key=k
  case neg=>rw [sel_pos (by simpa using h4),if_pos (.inr (.inr (.inr h4)))]
  rw [sel_neg (by simpa using h4),if_neg (by simp [h1,h2,h3,h4])]
 ·cases h
theorem w43:Walked Tryz.prog G 43 5 sp43:=by
 refine ⟨Tryz.f43,Tryz.func43,by decide +kernel,rfl,fun xs bl r h=> ?_⟩
 unfold sp43 at h
 split at h
 ·rename_i s
  obtain ⟨hpre,h2⟩:=chk_inv h;cases h2
  refine Eq.trans (b:=(sel (!s==[]) (sel (decide ((↑(Zx s):Int)≤39)) (Zw (chk (decide (Zx s≤9223372036854775807)) (some (Zj (Kerb.printable s [(46:UInt8),(64:UInt8)]),[]))) fun (r:AV×Blocks)=>onNilB (Yq r) (Wj (Yn r) fun b=>some (Zj b,[]))) (some (Zj false,[]))) (some (Zj false,[])):Option (AV×Blocks))) (by kernel_rfl) ?_
  simp only [A0]
  rw [chk_of hpre,decide_eq_decide.2 (show ((s.length:Int)≤39)↔s.length≤39 from by omega)]
  simp only [Wv]
  cases s with
  | nil=>rfl
  | cons x r=>cases decide ((x::r).length≤39)<;>rfl
 ·cases h
theorem w44:Walked Tryz.prog G 44 5 sp44:=by
 refine ⟨Tryz.f44,Tryz.func44,by decide +kernel,rfl,fun xs bl r h=> ?_⟩
 unfold sp44 at h
 split at h
 ·rename_i s
  obtain ⟨hpre,h2⟩:=chk_inv h;cases h2
  refine Eq.trans (b:=(sel (decide ((↑(Zx s):Int)≤39)) (Zw (chk (decide (Zx s≤9223372036854775807)) (some (Zj (Kerb.printable s [(64:UInt8)]),[]))) fun (r:AV×Blocks)=>onNilB (Yq r) (Wj (Yn r) fun b=>some (Zj b,[]))) (some (Zj false,[])):Option (AV×Blocks))) (by kernel_rfl) ?_
  simp only [A0]
  rw [chk_of hpre,decide_eq_decide.2 (show ((s.length:Int)≤39)↔s.length≤39 from by omega)]
  simp only [Xm]
  cases decide (s.length≤39)<;>rfl
 ·cases h
theorem w65:Walked Tryz.prog G 65 5 sp65:=by
 refine ⟨Tryz.f65,Tryz.func65,by decide +kernel,rfl,fun xs bl r h=> ?_⟩
 unfold sp65 at h
 split at h
 ·rename_i x y z ck tc tm li
  obtain ⟨hpre,h2⟩:=chk_inv h;cases h2
  refine Eq.trans (b:=(let t0:Nat:=Zx ([]++Yk (bif li then 1 else 0) 1 false)+Zx x+Zx y+Zx z;Zw (chk (l63 x&&l63 y&&l63 z) (some (Zz .i64 (Vp (Xu (Zu x y z) ck tc tm)),[]))) (kI .i64 fun n=>sel (!n==0) (some (Zb [Zk [],Zz .i64 n],[])) (Zw (chk (decide (t0≤70368744170000)) (some (Zk (Kerb.putPrin ([]++Yk (bif li then 1 else 0) 1 false) (Zu x y z)),[]))) (kB fun b=>Zw (chk (decide (Zx b≤70368744177664)) (some (Xf (b++Yk ck 4 li),[]))) (kO fun l=>Zw (chk (decide (Zx l≤70368744177664)) (some (Xf (l++Yk tc 1 false),[]))) (kO fun l=>Zw (chk (decide (Zx l≤70368744177664)) (some (Xf (l++Yk tm 4 li),[]))) (kO fun l=>Zw (chk (decide (Zx l≤70368744177664)) (some (Xf (Kerb.pad l),[]))) (kO fun l=>some (Zb [Zk l,Zz .i64 0],[])))))))):Option (AV×Blocks))) (by kernel_rfl) ?_
  delta kB kO kI
  try dsimp only [cStr,cBs,cBool,cU8,cInt,cSl,l63]
  simp only [A0,Zp,Zd,Zq,hpre]
  unfold Xh
  by_cases h:(Xu ⟨x,y,z⟩ ck tc tm).check=0
  case neg =>
   rw [sel_pos (by simpa using h),if_pos h]
  have hv:Zg ⟨x,y,z⟩=true:=by
   unfold Vp at h
   cases hv:Zg ⟨x,y,z⟩
   ·simp [hv] at h
   ·rfl
  have l1:=Kerb.valid_len hv
  simp only at l1
  rw [sel_neg (by simp [h]),if_neg (by simpa using h)]
  cases li
  ·simp only [A0,Zp,Zd,Zq,List.nil_append,cond_false,cond_true]
   rw [chk_of (by simp [Zf];omega),chk_of (by simp [Zf,Yx];omega),chk_of (by simp [Zf,Yx];omega),chk_of (by simp [Zf,Yx];omega),chk_of (by simp [Zf,Yx];omega)]
  ·simp only [A0,Zp,Zd,Zq,List.nil_append,cond_false,cond_true]
   rw [chk_of (by simp [Zf];omega),chk_of (by simp [Zf,Yx];omega),chk_of (by simp [Zf,Yx];omega),chk_of (by simp [Zf,Yx];omega),chk_of (by simp [Zf,Yx];omega)]
 ·cases h
theorem w5:Walked Tryz.prog G 5 6 sp5:=by
 refine ⟨Tryz.f5,Tryz.func5,by decide +kernel,rfl,fun xs bl r h=> ?_⟩
 unfold sp5 at h
 split at h
 ·rename_i pw ps pl pc
  cases h
  refine Eq.trans (b:=(let t0:Int:=Zn .i64 (Zn .i64 (↑(Yb ps):Int)*4);let t2:Kerb.Prin:=Xv (Kerb.dataCache pc (Zn .i64 (↑(Yb pw):Int)));let t3:Kerb.Cache:=Kerb.dataCache (List.drop (Vf (↑(0:Nat):Int)) (List.take (Vf 300) pc)) (Zn .i64 (↑(Yb pw):Int));let t4:Bool:=decide (0≤Zn .i64 (↑(Yb pw):Int));let t1:Kerb.Prin:=Xv t3;Zw (chk (t4&&decide (Zn .i64 (↑(Yb pw):Int)≤4611686018427387904)) (some (Yp [Zy (Yz (Xz (Zn .i64 (↑(Yb pw):Int)))),Zy (Yy (Xz (Zn .i64 (↑(Yb pw):Int)))),Zy (Zm (Xz (Zn .i64 (↑(Yb pw):Int))))],[]))) (kA fun cs=>cStr cs fun b r=>cStr r fun b_1 r=>cStr r fun b_2 r=>let t5:Kerb.Client:=Yu (Kerb.newClient (Zu b b_1 b_2) (Zn .i64 (↑(Yb pw):Int)) t0 pl);onNil r (Zw (chk (l63 b&&l63 b_1&&l63 b_2) (some (Zb [Yp [Zy (Yz (Xd t5)),Zy (Yy (Xd t5)),Zy (Zm (Xd t5)),Zz .i64 (Kerb.Client.address t5),Zz .i64 (Kerb.Client.skew t5),Zj (Kerb.Client.little t5),Zy (Yz (Xv (Xy t5))),Zy (Yy (Xv (Xy t5))),Zy (Zm (Xv (Xy t5))),Xx 8 (Ww Zq (Wb (Xy t5))),Zz .i64 (Kerb.Client.wait t5),Zy (Yz (Xp t5)),Zy (Yy (Xp t5)),Zy (Zm (Xp t5)),Zz .u64 (Kerb.Client.session t5),Zz .i64 (Kerb.Client.time t5),Zz .i64 (Kerb.Client.life t5),Zz .i64 (Kerb.Client.checksum t5),Zz .i64 (Kerb.Client.tick t5)],Zz .i64 (Vb (Kerb.newClient (Zu b b_1 b_2) (Zn .i64 (↑(Yb pw):Int)) t0 pl))],[]))) (kT fun vs=>onCons vs fun x r=>Wx x fun cs=>cStr cs fun b r_1=>cStr r_1 fun b_3 r_2=>cStr r_2 fun b_4 r_3=>cInt .i64 r_3 fun n r_4=>cInt .i64 r_4 fun n_1 r_5=>cBool r_5 fun b_5 r_6=>cStr r_6 fun b_6 r_7=>cStr r_7 fun b_7 r_8=>cStr r_8 fun b_8 r_9=>cSl 8 r_9 fun b_9 r_10=>cInt .i64 r_10 fun n_2 r_11=>cStr r_11 fun b_10 r_12=>cStr r_12 fun b_11 r_13=>cStr r_13 fun b_12 r_14=>cInt .u64 r_14 fun n_3 r_15=>cInt .i64 r_15 fun n_4 r_16=>cInt .i64 r_16 fun n_5 r_17=>cInt .i64 r_17 fun n_6 r_18=>cInt .i64 r_18 fun n_7 r_19=>let t6:List AV:=[Zz .i64 n_2,Zy b_10,Zy b_11,Zy b_12,Zz .u64 n_3,Zz .i64 n_4,Zz .i64 n_5,Zz .i64 n_6,Zz .i64 n_7];onNil r_19 (cInt .i64 r fun n_8 r=>onNil r (sel (decide ((↑(Zx pc):Int)>300)) (chk (decide (300≤(↑(Zx pc):Int))) (Zw (chk (decide (Zx (List.drop (Vf (↑(0:Nat):Int)) (List.take (Vf 300) pc))≤1000000)&&t4&&decide (Zn .i64 (↑(Yb pw):Int)≤1000)) (some (Yp [Zy (Yz t1),Zy (Yy t1),Zy (Zm t1),Xx 8 (Ww Zq (Wb t3))],[]))) (kA fun cs=>cStr cs fun b_13 r=>cStr r fun b_14 r=>cStr r fun b_15 r=>cSl 8 r fun b_16 r=>onNil r (some (Yp (Zy b::Zy b_3::Zy b_4::Zz .i64 n::Zz .i64 n_1::Zj b_5::Zy b_13::Zy b_14::Zy b_15::Xx 8 b_16::t6),[]))))) (Zw (chk (decide (Zx pc≤1000000)&&t4&&decide (Zn .i64 (↑(Yb pw):Int)≤1000)) (some (Yp [Zy (Yz t2),Zy (Yy t2),Zy (Zm t2),Xx 8 (Ww Zq (Wb (Kerb.dataCache pc (Zn .i64 (↑(Yb pw):Int)))))],[]))) (kA fun cs=>cStr cs fun b_13 r=>cStr r fun b_14 r=>cStr r fun b_15 r=>cSl 8 r fun b_16 r=>onNil r (some (Yp (Zy b::Zy b_3::Zy b_4::Zz .i64 n::Zz .i64 n_1::Zj b_5::Zy b_13::Zy b_14::Zy b_15::Xx 8 b_16::t6),[]))))))))):Option (AV×Blocks))) (by kernel_rfl) ?_
  delta kT kA
  try dsimp only [cStr,cBs,cBool,cU8,cInt,cSl,l63]
  have w1:Zn .i64 ((pw.toNat:Nat):Int)=Xk pw:=Kerb.wrap_u8i pw
  have w2:Zn .i64 ((ps.toNat:Nat):Int)=Xk ps:=Kerb.wrap_u8i ps
  have b1:0≤Xk pw∧Xk pw≤255:=Kerb.u8i_bd pw
  have b2:0≤Xk ps∧Xk ps≤255:=Kerb.u8i_bd ps
  rw [w1,w2,wrap_i64 (by omega) (by omega)]
  have hu:=Kerb.user_len (Xk pw)
  rw [chk_of (by simp;omega)]
  simp only [A0,Zp,Zd,Zq]
  rw [chk_of (by simp;omega)]
  unfold Yw
  have e:Zu (Xz (Xk pw)).name (Xz (Xk pw)).inst (Xz (Xk pw)).realm=Xz (Xk pw):=rfl
  rw [e]
  by_cases h:300<pc.length
  ·rw [sel_pos (by simp;omega),chk_of (by simp;omega)]
   have e2:List.drop (Vf ((0:Nat):Int)) (List.take (Vf 300) pc)=pc.take 300:=rfl
   rw [e2,chk_of (by simp;omega)]
  ·rw [sel_neg (by simp;omega),chk_of (by simp;omega),List.take_of_length_le (by omega)]
 ·cases h
theorem w8:Walked Tryz.prog G 8 6 sp8:=by
 refine ⟨Tryz.f8,Tryz.func8,by decide +kernel,rfl,fun xs bl r h=> ?_⟩
 unfold sp8 at h
 split at h
 ·rename_i b
  obtain ⟨hpre,h2⟩:=chk_inv h;cases h2
  refine Eq.trans (b:=(let t1:AV:=Yp [Zj false,Zj false,Zz .i64 0,Zy [],Zk [],Zk []];let t2:Bool:=Yn (Kerb.headIs b [3,4]);let t0:Option (AV×Blocks):=some (Zb [t1,Zz .i64 100],[]);sel (!Yq (Kerb.headIs b [3,4])==0) (some (Zb [t1,Zz .i64 (Yq (Kerb.headIs b [3,4]))],[])) (Zw (chk (decide (Zx b≤140737488355328)) (some (Zz .i64 (Vv (Ym b 2 1 false)),[[Zk b,Zz .i64 (bif false || !Xw (Ym b 2 1 false)==0 then 2 else Vz (Ym b 2 1 false)),Zj t2,Zj !Xw (Ym b 2 1 false)==0]]))) fun (r:AV×Blocks)=>onConsB (Yq r) fun (x:List AV) (r_1:List (List AV))=>cBs x fun b_1 r_2=>cInt .i64 r_2 fun n r_3=>cBool r_3 fun b_2 r_4=>cBool r_4 fun b_3 r_5=>onNil r_5 (onNilB r_1 (Yj .i64 (Yn r) fun n_1=>Zw (chk (decide (Zx b_1≤140737488355328)) (some (Zy (Kerb.GotB.val (Kerb.text b_1 n)),[[Zk b_1,Zz .i64 (bif b_3 || !Vk (Kerb.text b_1 n)==0 then n else Kerb.GotB.next (Kerb.text b_1 n)),Zj b_2,Zj (b_3 || !Vk (Kerb.text b_1 n)==0)]]))) fun (r:AV×Blocks)=>onConsB (Yq r) fun (x:List AV) (r_6:List (List AV))=>cBs x fun b_4 r_7=>cInt .i64 r_7 fun n r_8=>cBool r_8 fun b_5 r_9=>cBool r_9 fun b_6 r_10=>onNil r_10 (onNilB r_6 (Vu (Yn r) fun b_7=>Zw (chk (decide (Zx b_4≤140737488355328)) (some (Zz .i64 (Vv (Ym b_4 n 1 false)),[[Zk b_4,Zz .i64 (bif b_6 || !Xw (Ym b_4 n 1 false)==0 then n else Vz (Ym b_4 n 1 false)),Zj b_5,Zj (b_6 || !Xw (Ym b_4 n 1 false)==0)]]))) fun (r:AV×Blocks)=>onConsB (Yq r) fun (x:List AV) (r_11:List (List AV))=>cBs x fun b_8 r_12=>cInt .i64 r_12 fun n r_13=>cBool r_13 fun b_9 r_14=>cBool r_14 fun b_10 r_15=>onNil r_15 (onNilB r_11 (Yj .i64 (Yn r) fun n_2=>Zw (chk (decide (Zx b_8≤140737488355328)) (some (Zz .i64 (Vv (Ym b_8 n 1 false)),[[Zk b_8,Zz .i64 (bif b_10 || !Xw (Ym b_8 n 1 false)==0 then n else Vz (Ym b_8 n 1 false)),Zj b_9,Zj (b_10 || !Xw (Ym b_8 n 1 false)==0)]]))) fun (r:AV×Blocks)=>onConsB (Yq r) fun (x:List AV) (r_16:List (List AV))=>cBs x fun b_11 r_17=>cInt .i64 r_17 fun n r_18=>cBool r_18 fun b_12 r_19=>cBool r_19 fun b_13 r_20=>onNil r_20 (onNilB r_16 (Yj .i64 (Yn r) fun n_3=>Zw (chk (decide (Zx b_11≤140737488355328)) (some (Zk (Kerb.GotB.val (Vd b_11 n n_2)),[[Zk b_11,Zz .i64 (bif b_13 || !Vk (Vd b_11 n n_2)==0 then n else Kerb.GotB.next (Vd b_11 n n_2)),Zj b_12,Zj (b_13 || !Vk (Vd b_11 n n_2)==0)]]))) fun (r:AV×Blocks)=>onConsB (Yq r) fun (x:List AV) (r_21:List (List AV))=>cBs x fun b_14 r_22=>cInt .i64 r_22 fun n r_23=>cBool r_23 fun b_15 r_24=>cBool r_24 fun b_16 r_25=>onNil r_25 (onNilB r_21 (Vj (Yn r) fun b_17=>Zw (chk (decide (Zx b_14≤140737488355328)) (some (Zk (Kerb.GotB.val (Vd b_14 n n_3)),[[Zk b_14,Zz .i64 (bif b_16 || !Vk (Vd b_14 n n_3)==0 then n else Kerb.GotB.next (Vd b_14 n n_3)),Zj b_15,Zj (b_16 || !Vk (Vd b_14 n n_3)==0)]]))) fun (r:AV×Blocks)=>onConsB (Yq r) fun (x:List AV) (r_26:List (List AV))=>cBs x fun b_18 r_27=>cInt .i64 r_27 fun n r_28=>cBool r_28 fun b_19 r_29=>cBool r_29 fun b_20 r_30=>onNil r_30 (onNilB r_26 (Vj (Yn r) fun b_21=>Zw (chk (l63 b_7) (some (Zb [Zk (Wu (Xq (Xj t2 (Kerb.Head.kind (Vy b)==4) n_1 b_7 b_17 b_21))),Zz .i64 (Wq (Xq (Xj t2 (Kerb.Head.kind (Vy b)==4) n_1 b_7 b_17 b_21)))],[]))) (kT fun vs=>cBs vs fun b_22 r=>cInt .i64 r fun n r=>onNil r (sel b_20 t0 (sel (!n==0) t0 (sel (!b_22==b) t0 (some (Zb [Yp [Zj t2,Zj (Kerb.Head.kind (Vy b)==4),Zz .i64 n_1,Zy b_7,Zk b_17,Zk b_21],Zz .i64 0],[]))))))))))))))))))):Option (AV×Blocks))) (by kernel_rfl) ?_
  delta kT
  try dsimp only [cStr,cBs,cBool,cU8,cInt,cSl,l63]
  have hb:=of_decide_eq_true hpre
  have hpre2:decide (b.length≤4611686018427387904)=true:=by simp;omega
  have e1:∀ p,decide ((Kerb.text b p).val.length≤9223372036854775807)=true:=fun p=>by have:=Kerb.text_len b p;simp;omega
  unfold Wg
  by_cases h:(Kerb.headIs b [3,4]).2=0
  case neg=>rw [sel_pos (by simpa using h),if_pos h];rfl
  rw [sel_neg (by simpa using h),if_neg (by simpa using h)]
  simp only [hpre,e1,Kerb.headIs_little h,↓A0,A0]
  rw [Kerb.decAp_ref]
  exact Kerb.decBy_fin (no:=Kerb.noAp) (enc:=Xq) (rd:=fun b=>((Kerb.rdAp b (Vy b).little ((Vy b).kind==4)).val,(Kerb.rdAp b (Vy b).little ((Vy b).kind==4)).bad)) _ _ rfl (fun x e=>(Zb [.agg [.bool (x).little,.bool (x).mutual_,.int .i64 (x).kvno,.str (x).realm,.bs (x).ticket,.bs (x).auth],Zz Yd e],([]:Blocks)))
 ·cases h
theorem w30:Walked Tryz.prog G 30 6 sp30:=by
 refine ⟨Tryz.f30,Tryz.func30,by decide +kernel,rfl,fun xs bl r h=> ?_⟩
 unfold sp30 at h
 split at h
 ·rename_i b li
  obtain ⟨hpre,h2⟩:=chk_inv h;cases h2
  refine Eq.trans (b:=(let t0:Option (AV×Blocks):=some (Zb [Yp [Zy [],Zy [],Zy [],Zz .i64 0,Zz .i64 0,Zz .i64 0],Zz .i64 100],[]);Zw (chk (decide (Zx b≤140737488355328)) (some (Zz .i64 (Vv (Ym b 0 1 false)),[[Zk b,Zz .i64 (bif false || !Xw (Ym b 0 1 false)==0 then 0 else Vz (Ym b 0 1 false)),Zj li,Zj !Xw (Ym b 0 1 false)==0]]))) fun (r:AV×Blocks)=>onConsB (Yq r) fun (x:List AV) (r_1:List (List AV))=>cBs x fun b_1 r_2=>cInt .i64 r_2 fun n r_3=>cBool r_3 fun b_2 r_4=>cBool r_4 fun b_3 r_5=>onNil r_5 (onNilB r_1 (Yj .i64 (Yn r) fun n_1=>Zw (chk (decide (Zx b_1≤140737488355328)) (some (Yp [Zy (Yz (Kerb.RdP.p (Vq b_1 n b_3))),Zy (Yy (Kerb.RdP.p (Vq b_1 n b_3))),Zy (Zm (Kerb.RdP.p (Vq b_1 n b_3)))],[[Zk b_1,Zz .i64 (Kerb.RdP.pos (Vq b_1 n b_3)),Zj b_2,Zj (Kerb.RdP.bad (Vq b_1 n b_3))]]))) fun (r:AV×Blocks)=>onConsB (Yq r) fun (x:List AV) (r_6:List (List AV))=>cBs x fun b_4 r_7=>cInt .i64 r_7 fun n r_8=>cBool r_8 fun b_5 r_9=>cBool r_9 fun b_6 r_10=>onNil r_10 (onNilB r_6 (Wx (Yn r) fun cs=>cStr cs fun b_7 r=>cStr r fun b_8 r=>cStr r fun b_9 r=>onNil r (Zw (chk (decide (Zx b_4≤140737488355328)) (some (Zz .i64 (Vv (Ym b_4 n 4 b_5)),[[Zk b_4,Zz .i64 (bif b_6 || !Xw (Ym b_4 n 4 b_5)==0 then n else Vz (Ym b_4 n 4 b_5)),Zj b_5,Zj (b_6 || !Xw (Ym b_4 n 4 b_5)==0)]]))) fun (r:AV×Blocks)=>onConsB (Yq r) fun (x:List AV) (r_11:List (List AV))=>cBs x fun b_10 r_12=>cInt .i64 r_12 fun n r_13=>cBool r_13 fun b_11 r_14=>cBool r_14 fun b_12 r_15=>onNil r_15 (onNilB r_11 (Yj .i64 (Yn r) fun n_2=>Zw (chk (decide (Zx b_10≤140737488355328)) (some (Zz .i64 (Vv (Ym b_10 n 1 false)),[[Zk b_10,Zz .i64 (bif b_12 || !Xw (Ym b_10 n 1 false)==0 then n else Vz (Ym b_10 n 1 false)),Zj b_11,Zj (b_12 || !Xw (Ym b_10 n 1 false)==0)]]))) fun (r:AV×Blocks)=>onConsB (Yq r) fun (x:List AV) (r_16:List (List AV))=>cBs x fun b_13 r_17=>cInt .i64 r_17 fun n r_18=>cBool r_18 fun b_14 r_19=>cBool r_19 fun b_15 r_20=>onNil r_20 (onNilB r_16 (Yj .i64 (Yn r) fun n_3=>Zw (chk (decide (Zx b_13≤140737488355328)) (some (Zz .i64 (Vv (Ym b_13 n 4 b_14)),[[Zk b_13,Zz .i64 (bif b_15 || !Xw (Ym b_13 n 4 b_14)==0 then n else Vz (Ym b_13 n 4 b_14)),Zj b_14,Zj (b_15 || !Xw (Ym b_13 n 4 b_14)==0)]]))) fun (r:AV×Blocks)=>onConsB (Yq r) fun (x:List AV) (r_21:List (List AV))=>cBs x fun b_16 r_22=>cInt .i64 r_22 fun n r_23=>cBool r_23 fun b_17 r_24=>cBool r_24 fun b_18 r_25=>onNil r_25 (onNilB r_21 (Yj .i64 (Yn r) fun n=>Zw (chk (l63 b_7&&l63 b_8&&l63 b_9) (some (Zb [Zk (Wu (Xh (Xu (Zu b_7 b_8 b_9) n_2 n_3 n) li)),Zz .i64 (Wq (Xh (Xu (Zu b_7 b_8 b_9) n_2 n_3 n) li))],[]))) (kT fun vs=>cBs vs fun b_19 r=>cInt .i64 r fun n_4 r=>onNil r (sel b_18 t0 (sel (!n_4==0) t0 (sel (!b_19==b) t0 (some (Zb [Yp [Zy b_7,Zy b_8,Zy b_9,Zz .i64 n_2,Zz .i64 n_3,Zz .i64 n],Zz .i64 0],[]))))))))))))))))):Option (AV×Blocks))) (by kernel_rfl) ?_
  delta kT
  try dsimp only [cStr,cBs,cBool,cU8,cInt,cSl,l63]
  have hb:=of_decide_eq_true hpre
  have hpre2:decide (b.length≤4611686018427387904)=true:=by simp;omega
  have e1:∀ p q,decide ((Vq b p q).p.name.length≤9223372036854775807)=true:=fun p q=>by have:=(Kerb.rdPrin_len b p q).1;simp;omega
  have e2:∀ p q,decide ((Vq b p q).p.inst.length≤9223372036854775807)=true:=fun p q=>by have:=(Kerb.rdPrin_len b p q).2.1;simp;omega
  have e3:∀ p q,decide ((Vq b p q).p.realm.length≤9223372036854775807)=true:=fun p q=>by have:=(Kerb.rdPrin_len b p q).2.2;simp;omega
  simp only [hpre,e1,e2,e3,Yh,↓A0,A0]
  rw [Kerb.decAuth_ref]
  exact Kerb.decBy_fin (no:=Kerb.noAuth) (enc:=fun a=>Xh a li) (rd:=fun b=>((Kerb.rdAuth b li).val,(Kerb.rdAuth b li).bad)) _ _ rfl (fun x e=>(Zb [.agg [.str (x).client.name,.str (x).client.inst,.str (x).client.realm,.int .i64 (x).checksum,.int .i64 (x).tick,.int .i64 (x).time],Zz Yd e],([]:Blocks)))
 ·cases h
theorem w45:Walked Tryz.prog G 45 6 sp45:=by
 refine ⟨Tryz.f45,Tryz.func45,by decide +kernel,rfl,fun xs bl r h=> ?_⟩
 unfold sp45 at h
 split at h
 ·rename_i s
  obtain ⟨hpre,h2⟩:=chk_inv h;cases h2
  refine Eq.trans (b:=(sel (!s==[]) (Zw (chk (decide (Zx s≤9223372036854775807)) (some (Zj (Xm s),[]))) fun (r:AV×Blocks)=>onNilB (Yq r) (Wj (Yn r) fun b=>some (Zj b,[]))) (some (Zj false,[])):Option (AV×Blocks))) (by kernel_rfl) ?_
  simp only [A0]
  rw [chk_of hpre]
  simp only [Kerb.validRealm]
  cases s<;>rfl
 ·cases h
theorem w9:Walked Tryz.prog G 9 7 sp9:=by
 refine ⟨Tryz.f9,Tryz.func9,by decide +kernel,rfl,fun xs bl r h=> ?_⟩
 unfold sp9 at h
 split at h
 ·rename_i b li k
  obtain ⟨hpre,h2⟩:=chk_inv h;cases h2
  refine Eq.trans (b:=(let t0:Option (AV×Blocks):=some (Zb [Yp [Zy [],Zy [],Zy [],Zz .i64 0,Zz .i64 0,Zz .i64 0],Zz .i64 31],[]);Zw (chk (decide (Zx b≤140737488355328)) (some (Zb [Zk (Yn (Vh b 2 k)),Zj (Yq (Vh b 2 k))],[]))) (kT fun vs=>cBs vs fun b r=>cBool r fun b_1 r=>onNil r (sel (!b_1) t0 (Zw (chk (decide (Zx b≤140737488355328)) (some (Zb [Yp [Zy (Yz (Wn (Yu (Wz b li)))),Zy (Yy (Wn (Yu (Wz b li)))),Zy (Zm (Wn (Yu (Wz b li)))),Zz .i64 (Kerb.Auth.checksum (Yu (Wz b li))),Zz .i64 (Kerb.Auth.tick (Yu (Wz b li))),Zz .i64 (Kerb.Auth.time (Yu (Wz b li)))],Zz .i64 (Vb (Wz b li))],[]))) (kT fun vs=>onCons vs fun x r=>Wx x fun cs=>cStr cs fun b r_1=>cStr r_1 fun b_2 r_2=>cStr r_2 fun b_3 r_3=>cInt .i64 r_3 fun n r_4=>cInt .i64 r_4 fun n_1 r_5=>cInt .i64 r_5 fun n_2 r_6=>onNil r_6 (cInt .i64 r fun n_3 r=>onNil r (sel (!n_3==0) t0 (some (Zb [Yp [Zy b,Zy b_2,Zy b_3,Zz .i64 n,Zz .i64 n_1,Zz .i64 n_2],Zz .i64 0],[])))))))):Option (AV×Blocks))) (by kernel_rfl) ?_
  delta kT
  try dsimp only [cStr,cBs,cBool,cU8,cInt,cSl,l63]
  have hb:=of_decide_eq_true hpre
  have hpre2:decide (b.length≤4611686018427387904)=true:=by simp;omega
  have hl:=Kerb.openBox_len b 2 k
  have hl2:decide ((Vh b 2 k).1.length≤140737488355328)=true:=by simp;omega
  simp only [hpre,hl2,↓A0,A0]
  unfold Wf
  cases h1:(Vh b 2 k).2
  ·rfl
  rw [Yv,sel_false,if_neg (by simp)]
  by_cases h2:(Wz (Vh b 2 k).1 li).err=0
  case neg=>rw [sel_pos (by simpa using h2),if_pos h2];rfl
  rw [sel_neg (by simpa using h2),if_neg (by simpa using h2)]
 ·cases h
theorem w19:Walked Tryz.prog G 19 7 sp19:=by
 refine ⟨Tryz.f19,Tryz.func19,by decide +kernel,rfl,fun xs bl r h=> ?_⟩
 unfold sp19 at h
 split at h
 ·rename_i a b c
  obtain ⟨hpre,h2⟩:=chk_inv h;cases h2
  refine Eq.trans (b:=(Zw (chk (decide (Zx a≤9223372036854775807)) (some (Zj (Wv a),[]))) fun (r:AV×Blocks)=>onNilB (Yq r) (Wj (Yn r) fun b_1=>sel b_1 (Zw (chk (decide (Zx b≤9223372036854775807)) (some (Zj (Xm b),[]))) fun (r:AV×Blocks)=>onNilB (Yq r) (Wj (Yn r) fun b=>sel b (Zw (chk (decide (Zx c≤9223372036854775807)) (some (Zj (Kerb.validRealm c),[]))) fun (r:AV×Blocks)=>onNilB (Yq r) (Wj (Yn r) fun b=>some (Zj b,[]))) (some (Zj false,[])))) (some (Zj false,[]))):Option (AV×Blocks))) (by kernel_rfl) ?_
  simp only [Yg,decide_eq_true_eq] at hpre
  simp only [A0]
  rw [chk_of (by simp;omega),chk_of (by simp;omega),chk_of (by simp;omega)]
  simp only [Zg]
  cases Wv a<;>cases Xm b<;>rfl
 ·cases h
theorem w23:Walked Tryz.prog G 23 7 sp23:=by
 refine ⟨Tryz.f23,Tryz.func23,by decide +kernel,rfl,fun xs bl r h=> ?_⟩
 unfold sp23 at h
 split at h
 ·rename_i li mu kv rl tk au
  obtain ⟨hpre,h2⟩:=chk_inv h;cases h2
  refine Eq.trans (b:=(Zw (chk (l63 rl) (some (Zj (Kerb.validRealm rl),[]))) (kL fun b=>sel (!b) (some (Zb [Zk [],Zz .i64 103],[])) (sel (!Zv kv 255) (some (Zb [Zk [],Zz .i64 104],[])) (sel (decide ((↑(Zx tk):Int)>255)) (some (Zb [Zk [],Zz .i64 105],[])) (sel (decide ((↑(Zx au):Int)>255)) (some (Zb [Zk [],Zz .i64 105],[])) (sel mu (Zw (chk (decide (Zx (Ub 4 li)≤70368744177664)) (some (Xf (Ub 4 li++Yk kv 1 false),[]))) (kO fun l=>Zw (chk (decide (Zx l+Zx rl≤70368744177664)) (some (Zk (Wh l rl),[]))) (kB fun b=>Zw (chk (decide (Zx b≤70368744177664)) (some (Xf (b++Yk (↑(Zx tk):Int) 1 false),[]))) (kO fun l=>Zw (chk (decide (Zx l≤70368744177664)) (some (Xf (l++Yk (↑(Zx au):Int) 1 false),[]))) (kO fun l=>Zw (chk (decide (Zx (Xg l (Xg tk (Xg au [])))≤140737488355328)&&decide (Zx [Zk l,Zk tk,Zk au]≤1000)) (some (Xf (Xg l (Xg tk (Xg au []))),[]))) (kO fun l=>some (Zb [Zk l,Zz .i64 0],[]))))))) (Zw (chk (decide (Zx (Ub 3 li)≤70368744177664)) (some (Xf (Ub 3 li++Yk kv 1 false),[]))) (kO fun l=>Zw (chk (decide (Zx l+Zx rl≤70368744177664)) (some (Zk (Wh l rl),[]))) (kB fun b=>Zw (chk (decide (Zx b≤70368744177664)) (some (Xf (b++Yk (↑(Zx tk):Int) 1 false),[]))) (kO fun l=>Zw (chk (decide (Zx l≤70368744177664)) (some (Xf (l++Yk (↑(Zx au):Int) 1 false),[]))) (kO fun l=>Zw (chk (decide (Zx (Xg l (Xg tk (Xg au [])))≤140737488355328)&&decide (Zx [Zk l,Zk tk,Zk au]≤1000)) (some (Xf (Xg l (Xg tk (Xg au []))),[]))) (kO fun l=>some (Zb [Zk l,Zz .i64 0],[])))))))))))):Option (AV×Blocks))) (by kernel_rfl) ?_
  delta kB kO kL
  try dsimp only [cStr,cBs,cBool,cU8,cInt,cSl,l63]
  simp only [A0,Zp,Zd,Zq,hpre]
  unfold Xq
  simp only
  cases h1:Kerb.validRealm rl
  ·rfl
  rw [Yv,sel_false,if_neg (by simp)]
  cases h2:Zv kv 255
  ·rfl
  rw [Yv,sel_false,if_neg (by simp)]
  by_cases h3:255<tk.length
  ·rw [sel_pos (by simp;omega),if_pos (.inl h3)]
  rw [sel_neg (by simp;omega)]
  by_cases h4:255<au.length
  ·rw [sel_pos (by simp;omega),if_pos (.inr h4)]
  rw [sel_neg (by simp;omega),if_neg (by omega)]
  have l1:=Kerb.validRealm_len h1
  have g3:=Kerb.header_len 3 li
  have g4:=Kerb.header_len 4 li
  cases mu
  ·rw [sel_false,chk_of (by simp;omega),chk_of (by simp [Zf];omega),chk_of (by simp [Zf,Xn];omega),chk_of (by simp [Zf,Xn];omega),chk_of (by simp [Zf,Xn];omega)]
   simp
  ·rw [sel_true,chk_of (by simp;omega),chk_of (by simp [Zf];omega),chk_of (by simp [Zf,Xn];omega),chk_of (by simp [Zf,Xn];omega),chk_of (by simp [Zf,Xn];omega)]
   simp
 ·cases h
theorem w31:Walked Tryz.prog G 31 8 sp31:=by
 refine ⟨Tryz.f31,Tryz.func31,by decide +kernel,rfl,fun xs bl r h=> ?_⟩
 unfold sp31 at h
 split at h
 ·rename_i x y z
  obtain ⟨hpre,h2⟩:=chk_inv h;cases h2
  refine Eq.trans (b:=(Zw (chk (decide (Zx x≤9223372036854775807)&&decide (Zx y≤9223372036854775807)&&decide (Zx z≤9223372036854775807)) (some (Zj (Zg (Zu x y z)),[]))) fun (r:AV×Blocks)=>onNilB (Yq r) (Wj (Yn r) fun b=>sel (!b) (some (Zb [Yp [Zy [],Zy [],Zy [],Xx 8 []],Zz .i64 103],[])) (some (Zb [Yp [Zy x,Zy y,Zy z,Xx 8 []],Zz .i64 0],[]))):Option (AV×Blocks))) (by kernel_rfl) ?_
  simp only [A0,Zp,Zd,Zq,hpre]
  cases Zg ⟨x,y,z⟩<;>rfl
 ·cases h
theorem w33:Walked Tryz.prog G 33 8 sp33:=by
 refine ⟨Tryz.f33,Tryz.func33,by decide +kernel,rfl,fun xs bl r h=> ?_⟩
 unfold sp33 at h
 split at h
 ·rename_i li x y z t lf sv ins
  obtain ⟨hpre,h2⟩:=chk_inv h;cases h2
  refine Eq.trans (b:=(let t0:Option (AV×Blocks):=some (Zb [Zk [],Zz .i64 103],[]);let t1:Nat:=Zx (Ub 1 li)+Zx x+Zx y+Zx z;Zw (chk (l63 x&&l63 y&&l63 z) (some (Zj (Zg (Zu x y z)),[]))) (kL fun b=>sel (!b) t0 (Zw (chk (l63 sv) (some (Zj (Wv sv),[]))) (kL fun b=>sel (!b) t0 (Zw (chk (l63 ins) (some (Zj (Xm ins),[]))) (kL fun b=>sel (!b) t0 (sel (!Zv t 4294967295) (some (Zb [Zk [],Zz .i64 104],[])) (sel (!Zv lf 255) (some (Zb [Zk [],Zz .i64 104],[])) (Zw (chk (decide (t1≤70368744170000)) (some (Zk (Kerb.putPrin (Ub 1 li) (Zu x y z)),[]))) (kB fun b=>Zw (chk (decide (Zx b≤70368744177664)) (some (Xf (b++Yk t 4 li),[]))) (kO fun l=>Zw (chk (decide (Zx l≤70368744177664)) (some (Xf (l++Yk lf 1 false),[]))) (kO fun l=>Zw (chk (decide (Zx l+Zx sv≤70368744177664)) (some (Zk (Wh l sv),[]))) (kB fun b=>Zw (chk (decide (Zx b+Zx ins≤70368744177664)) (some (Zk (Wh b ins),[]))) (kB fun b=>some (Zb [Zk b,Zz .i64 0],[])))))))))))))):Option (AV×Blocks))) (by kernel_rfl) ?_
  delta kB kO kL
  try dsimp only [cStr,cBs,cBool,cU8,cInt,cSl,l63]
  simp only [Yg,decide_eq_true_eq] at hpre
  obtain ⟨⟨⟨⟨q1,q2⟩,q3⟩,q4⟩,q5⟩:=hpre
  simp only [A0]
  unfold Uv
  rw [chk_of (by simp [q1,q2,q3])]
  cases h1:Zg ⟨x,y,z⟩
  ·rfl
  rw [Yv,sel_false,chk_of (by simp [q4])]
  cases h2:Wv sv
  ·rfl
  rw [Yv,sel_false,chk_of (by simp [q5])]
  cases h3:Xm ins
  ·rfl
  rw [Yv,sel_false]
  cases h4:Zv t 4294967295
  ·rfl
  rw [Yv,sel_false]
  cases h5:Zv lf 255
  ·rfl
  rw [Yv,sel_false]
  have l1:=Kerb.valid_len h1
  have l2:=Kerb.validName_len h2
  have l3:=Kerb.validInst_len h3
  have l4:=Kerb.header_len 1 li
  simp only at l1
  rw [chk_of (by simp;omega),chk_of (by simp [Yx];omega),chk_of (by simp [Yx,Zf];omega),chk_of (by simp [Yx,Zf];omega),chk_of (by simp [Xn,Yx,Zf];omega)]
  rfl
 ·cases h
theorem w36:Walked Tryz.prog G 36 8 sp36:=by
 refine ⟨Tryz.f36,Tryz.func36,by decide +kernel,rfl,fun xs bl r h=> ?_⟩
 unfold sp36 at h
 split at h
 ·rename_i li mu kv rl tk au tm lf sv ins
  obtain ⟨hpre,h2⟩:=chk_inv h;cases h2
  refine Eq.trans (b:=(sel mu (some (Zb [Zk [],Zz .i64 100],[])) (Zw (chk (l63 rl) (some (Zb [Zk (Wu (Xq (Xj li mu kv rl tk au))),Zz .i64 (Wq (Xq (Xj li mu kv rl tk au)))],[]))) (kT fun vs=>cBs vs fun b r=>cInt .i64 r fun n r=>onNil r (sel (!n==0) (some (Zb [Zk [],Zz .i64 n],[])) (Zw (chk (l63 sv) (some (Zj (Wv sv),[]))) (kL fun b_1=>sel (!b_1) (some (Zb [Zk [],Zz .i64 103],[])) (Zw (chk (l63 ins) (some (Zj (Xm ins),[]))) (kL fun b_2=>sel (!b_2) (some (Zb [Zk [],Zz .i64 103],[])) (sel (!Zv tm 4294967295) (some (Zb [Zk [],Zz .i64 104],[])) (sel (!Zv lf 255) (some (Zb [Zk [],Zz .i64 104],[])) (Zw (chk (decide (Zx b≤70368744177664)) (some (Xf (b++Yk tm 4 li),[]))) (kO fun l=>Zw (chk (decide (Zx l≤70368744177664)) (some (Xf (l++Yk lf 1 false),[]))) (kO fun l=>Zw (chk (decide (Zx l+Zx sv≤70368744177664)) (some (Zk (Wh l sv),[]))) (kB fun b=>Zw (chk (decide (Zx b+Zx ins≤70368744177664)) (some (Zk (Wh b ins),[]))) (kB fun b=>some (Zb [Zk b,Zz .i64 0],[]))))))))))))))):Option (AV×Blocks))) (by kernel_rfl) ?_
  delta kT kB kO kL
  try dsimp only [cStr,cBs,cBool,cU8,cInt,cSl,l63]
  simp only [Yg,decide_eq_true_eq] at hpre
  obtain ⟨⟨p1,p2⟩,p3⟩:=hpre
  simp only [A0,Zp,Zd,Zq,p1,p2,p3,decide_true]
  have hL:∀ q,Xq ⟨li,mu,kv,rl,tk,au⟩=q→Uw ⟨⟨li,mu,kv,rl,tk,au⟩,tm,lf,sv,ins⟩=if mu then ⟨[],100⟩ else if q.err≠0 then ⟨[],q.err⟩ else if !(Wv sv&&Xm ins) then ⟨[],103⟩ else if !(Zv tm 4294967295&&Zv lf 255) then ⟨[],104⟩ else ⟨Wh (Wh (q.val++Yk tm 4 li++Yk lf 1 false) sv) ins,0⟩:=by rintro _ rfl;rfl
  have hl:=Kerb.encodeAp_len ⟨li,mu,kv,rl,tk,au⟩
  obtain ⟨q,hq⟩:∃ q,Xq ⟨li,mu,kv,rl,tk,au⟩=q:=⟨_,rfl⟩
  rw [hL q hq,hq]
  rw [hq] at hl
  cases mu
  case true=>rfl
  rw [sel_false,if_neg (by simp)]
  by_cases h1:q.err=0
  case neg=>rw [sel_pos (by simpa using h1),if_pos h1]
  rw [sel_neg (by simpa using h1),if_neg (by simpa using h1)]
  cases h2:Wv sv
  ·rfl
  cases h3:Xm ins
  ·rfl
  cases Zv tm 4294967295
  ·rfl
  cases Zv lf 255
  ·rfl
  have l2:=Kerb.validName_len h2
  have l3:=Kerb.validInst_len h3
  simp only [Yv,sel_false,Yh,Uk,if_false]
  rw [chk_of (by simp;omega),chk_of (by simp [Zf];omega),chk_of (by simp [Zf];omega),chk_of (by simp [Zf,Xn];omega)]
 ·cases h
theorem w42:Walked Tryz.prog G 42 8 sp42:=by
 refine ⟨Tryz.f42,Tryz.func42,by decide +kernel,rfl,fun xs bl r h=> ?_⟩
 unfold sp42 at h
 split at h
 ·rename_i o1 o2 o3 els
  obtain ⟨hpre,h2⟩:=chk_inv h;cases h2
  refine Eq.trans (b:=(Zw (chk (l63 o1&&l63 o2&&l63 o3) (some (Zj (Zg (Zu o1 o2 o3)),[]))) (kL fun b=>sel (!b) (some (Zz .i64 103,[])) (sel (decide ((↑(Zx els):Int)>20)) (some (Zz .i64 106,[])) (Zw (loopM (fun (st:List AV)=>cStr st fun b r=>cStr r fun b_1 r=>cStr r fun b_2 r=>cSl 8 r fun b_3 r=>cInt .i64 r fun n r=>cSl 8 r fun b_4 r=>cInt .i64 r fun n_1 r=>cInt .i64 r fun n_2 r=>let t1:List AV:=[Xx 8 b_4,Zz .i64 n_1,Zz .i64 n_2];let t0:Option (List AV ⊕ Ex×List AV):=some (Sum.inr (Ex.ret,Zy b::Zy b_1::Zy b_2::Xx 8 b_3::Zz .i64 104::t1));onNil r (sel (decide (n_2<n_1)) (chk (decide (0≤n_2)&&decide (n_2<(↑(Zx b_4):Int))&&true) (Wx (List.getD b_4 (Vf n_2) AV.undef) fun cs=>cStr cs fun b_5 r=>cStr r fun b_6 r=>cStr r fun b_7 r=>cInt .u64 r fun n_3 r=>cInt .i64 r fun n_4 r=>cInt .i64 r fun n_5 r=>cInt .i64 r fun n_6 r=>cBs r fun b_8 r=>onNil r (Zw (chk (l63 b_5&&l63 b_6&&l63 b_7) (some (Zj (Zg (Zu b_5 b_6 b_7)),[]))) (kL fun b_9=>sel (!b_9) (some (Sum.inr (Ex.ret,Zy b::Zy b_1::Zy b_2::Xx 8 b_3::Zz .i64 103::t1))) (Zw (chk (decide (0≤n_3)&&decide (n_3<18446744073709551616)) (some (Zj (Kerb.keyValid n_3),[]))) (kL fun b_10=>sel (!b_10) (some (Sum.inr (Ex.ret,Zy b::Zy b_1::Zy b_2::Xx 8 b_3::Zz .i64 10::t1))) (sel (!Zv n_4 255) t0 (sel (!Zv n_5 255) t0 (sel (!Zv n_6 4294967295) t0 (sel (decide ((↑(Zx b_8):Int)>255)) (some (Sum.inr (Ex.ret,Zy b::Zy b_1::Zy b_2::Xx 8 b_3::Zz .i64 105::t1))) (Zw (chk (Vg b_3 Wp&&decide (Zx b_3≤1000000)) (some (Zz .i64 (↑(Kerb.credAt (Ww Wk b_3) (Zu b_5 b_6 b_7)):Int),[]))) (kI .i64 fun n_7=>sel (decide (n_7<n_2)) (some (Sum.inr (Ex.ret,Zy b::Zy b_1::Zy b_2::Xx 8 b_3::Zz .i64 107::t1))) (some (Sum.inl [Zy b,Zy b_1,Zy b_2,Xx 8 b_3,Zz .i64 n,Xx 8 b_4,Zz .i64 n_1,Zz .i64 (Zn .i64 (n_2+1))])))))))))))))) (some (Sum.inr (Ex.exit 0,Zy b::Zy b_1::Zy b_2::Xx 8 b_3::Zz .i64 n::t1))))) [Zy o1,Zy o2,Zy o3,Xx 8 els,Zz .i64 0,Xx 8 els,Zz .i64 (↑(Zx els):Int),Zz .i64 0]) fun (r:Ex×List AV)=>cStr (Yq r) fun b r_1=>cStr r_1 fun b r_2=>cStr r_2 fun b r_3=>cSl 8 r_3 fun b r_4=>cInt .i64 r_4 fun n r_5=>cSl 8 r_5 fun b r_6=>cInt .i64 r_6 fun n_1 r_7=>cInt .i64 r_7 fun n_2 r_8=>onNil r_8 (exK r.1 (some (Zz .i64 n,[])) fun (j:Nat)=>sel (Nat.beq j 0) (some (Zz .i64 0,[])) none)))):Option (AV×Blocks))) (by kernel_rfl) ?_
  delta kL kI
  try dsimp only [cStr,cBs,cBool,cU8,cInt,cSl,l63]
  have hpre':=hpre
  simp only [Yg,decide_eq_true_eq] at hpre
  obtain ⟨⟨⟨⟨q1,q2⟩,q3⟩,hall⟩,hlen⟩:=hpre
  simp only [A0,Zp,Zd,Zq]
  rw [chk_of (by simp;omega)]
  obtain ⟨cs,rfl,hok⟩:=Kerb.creds_of hall
  unfold Kerb.Cache.err
  simp only [Vw]
  cases h0:Zg ⟨o1,o2,o3⟩
  ·rfl
  rw [Yv,sel_false,if_neg (by simp)]
  by_cases h20:20<cs.length
  ·rw [sel_pos (by simp;omega),if_pos h20]
  rw [sel_neg (by simp;omega),if_neg h20]
  refine loop_rounds (fun i:Nat=>[Zy o1,Zy o2,Zy o3,Xx 8 (cs.map Zq),Zz Yd 0,Xx 8 (cs.map Zq),Zz Yd (cs.length:Int),Zz Yd (i:Int)]) (fun i=>i≤cs.length∧Un [] cs=Un (cs.take i) (cs.drop i)) (fun i=>cs.length-i)
   (fun r=>∃ (i:Nat) (n:Int),r.2=[Zy o1,Zy o2,Zy o3,Xx 8 (cs.map Zq),Zz Yd n,Xx 8 (cs.map Zq),Zz Yd (cs.length:Int),Zz Yd (i:Int)]∧((r.1 = .ret∧n=Un [] cs)∨(r.1 = .exit 0∧Un [] cs=0))) 0 ⟨Nat.zero_le _,by simp⟩ (by simp) ?_ ?_
  ·rintro i ⟨hi,hp⟩
   simp only [A0,Zp,Zd,Zq]
   by_cases hlt:i<cs.length
   ·rw [sel_pos (by simp;omega),chk_of (by simp;omega),Int.toNat_natCast,Kerb.getD_av hlt]
    obtain ⟨c,hcc⟩:∃ c,cs.getD i Kerb.noCred=c:=⟨_,rfl⟩
    have hst:=Kerb.credsErr_step hlt hcc hp
    have hcok:c.ok:=hok c (by rw [← hcc];simp [List.getD_eq_getElem?_getD,hlt])
    rw [hcc]
    obtain ⟨⟨s1,s2,s3⟩,k,lf,kv,iss,tk⟩:=c
    obtain ⟨u1,u2,u3,u4,u5,u6⟩:=hcok
    simp only at u1 u2 u3 u4 u5 u6
    simp only [Zq,A0,Zp,Zd,Zq]
    have k1:∀ code:Int,code≠0→Wd ⟨⟨s1,s2,s3⟩,k,lf,kv,iss,tk⟩=code→code=Un [] cs:=fun code h0 he=>by
     rw [hst,he,if_pos h0]
    rw [chk_of (by simp;omega)]
    cases h1:Zg ⟨s1,s2,s3⟩
    ·exact ⟨_,rfl,i,_,rfl,.inl ⟨rfl,k1 103 (by decide) (by simp [Wd,h1])⟩⟩
    rw [Yv,sel_false,chk_of (by simp;omega)]
    cases h2:Kerb.keyValid k
    ·exact ⟨_,rfl,i,_,rfl,.inl ⟨rfl,k1 10 (by decide) (by simp [Wd,h1,h2])⟩⟩
    rw [Yv,sel_false]
    cases h3:Zv lf 255
    ·exact ⟨_,rfl,i,_,rfl,.inl ⟨rfl,k1 104 (by decide) (by simp [Wd,h1,h2,h3])⟩⟩
    rw [Yv,sel_false]
    cases h4:Zv kv 255
    ·exact ⟨_,rfl,i,_,rfl,.inl ⟨rfl,k1 104 (by decide) (by simp [Wd,h1,h2,h3,h4])⟩⟩
    rw [Yv,sel_false]
    cases h5:Zv iss 4294967295
    ·exact ⟨_,rfl,i,_,rfl,.inl ⟨rfl,k1 104 (by decide) (by simp [Wd,h1,h2,h3,h4,h5])⟩⟩
    rw [Yv,sel_false]
    by_cases h6:255<tk.length
    ·rw [sel_pos (by simp;omega)]
     exact ⟨_,rfl,i,_,rfl,.inl ⟨rfl,k1 105 (by decide) (by simp [Wd,h1,h2,h3,h4,h5,h6])⟩⟩
    have hz:Wd ⟨⟨s1,s2,s3⟩,k,lf,kv,iss,tk⟩=0:=by simp [Wd,h1,h2,h3,h4,h5];omega
    rw [hz,if_neg (by simp)] at hst
    rw [sel_neg (by simp;omega)]
    rw [chk_of (by rw [Kerb.all_creds hok];simp;omega),Vw]
    have hq:=Kerb.credAt_lt cs ⟨s1,s2,s3⟩ i hi
    have e:decide (((Kerb.credAt cs ⟨s1,s2,s3⟩:Nat):Int)<(i:Int))=decide (Kerb.credAt cs ⟨s1,s2,s3⟩<i):=decide_eq_decide.2 (by omega)
    rw [e,hq]
    cases hd:(cs.take i).any (fun d=>d.service.eqb ⟨s1,s2,s3⟩)
    ·rw [hd,if_neg (by simp)] at hst
     rw [sel_false,wrap_i64 (by omega) (by omega)]
     exact ⟨_,rfl,i+1,rfl,⟨by omega,hst⟩,by dsimp only;omega⟩
    ·rw [hd,if_pos rfl] at hst
     rw [sel_true]
     exact ⟨_,rfl,i,_,rfl,.inl ⟨rfl,hst.symm⟩⟩
   ·rw [sel_neg (by simp;omega)]
    refine ⟨_,rfl,i,_,rfl,.inr ⟨rfl,?_⟩⟩
    rw [hp,List.drop_eq_nil_of_le (by omega)]
    rfl
  ·rintro ⟨e,l⟩ ⟨i,n,rfl,⟨rfl,h⟩ | ⟨rfl,h⟩⟩
   ·simp only [A0,Zp,Zd,Zq,h]
   ·simp only [A0,Zp,Zd,Zq,h]
    rw [sel_pos (Nat.beq_refl _)]
 ·cases h
theorem w103:Walked Tryz.prog G 103 8 sp103:=by
 refine ⟨Tryz.f103,Tryz.func103,by decide +kernel,rfl,fun xs bl r h=> ?_⟩
 unfold sp103 at h
 split at h
 ·rename_i x y z ck tc tm
  obtain ⟨hpre,h2⟩:=chk_inv h;cases h2
  refine Eq.trans (b:=(Zw (chk (decide (Zx x≤9223372036854775807)&&decide (Zx y≤9223372036854775807)&&decide (Zx z≤9223372036854775807)) (some (Zj (Zg (Zu x y z)),[]))) fun (r:AV×Blocks)=>onNilB (Yq r) (Wj (Yn r) fun b=>sel (!b) (some (Zz .i64 103,[])) (sel (!Zv ck 4294967295) (some (Zz .i64 104,[])) (sel (!Zv tc 199) (some (Zz .i64 104,[])) (sel (!Zv tm 4294967295) (some (Zz .i64 104,[])) (some (Zz .i64 0,[])))))):Option (AV×Blocks))) (by kernel_rfl) ?_
  simp only [A0,Zp,Zd,Zq,hpre]
  unfold Vp
  simp only
  cases Zg ⟨x,y,z⟩
  ·rfl
  cases Zv ck 4294967295
  ·rfl
  cases Zv tc 199
  ·rfl
  cases Zv tm 4294967295<;>rfl
 ·cases h
theorem w10:Walked Tryz.prog G 10 9 sp10:=by
 refine ⟨Tryz.f10,Tryz.func10,by decide +kernel,rfl,fun xs bl r h=> ?_⟩
 unfold sp10 at h
 split at h
 ·rename_i x y z ad sk li
  obtain ⟨hpre,h2⟩:=chk_inv h;cases h2
  refine Eq.trans (b:=(let t1:List AV:=[Zz .i64 0,Zy [],Zy [],Zy [],Zz .u64 0,Zz .i64 0,Zz .i64 0,Zz .i64 0,Zz .i64 0];let t2:Kerb.Prin:=Xv (bif Zg (Zu x y z) then Wm (Zu x y z) [] else Kerb.noCache);let t3:Bool:=l63 x&&l63 y&&l63 z;let t0:AV:=Yp (Zy []::Zy []::Zy []::Zz .i64 0::Zz .i64 0::Zj false::Zy []::Zy []::Zy []::Xx 8 []::t1);Zw (chk t3 (some (Zj (Zg (Zu x y z)),[]))) (kL fun b=>sel (!b) (some (Zb [t0,Zz .i64 103],[])) (sel (!Zv ad 4294967295) (some (Zb [t0,Zz .i64 104],[])) (sel (!Zv sk 4294967295) (some (Zb [t0,Zz .i64 104],[])) (Zw (chk t3 (some (Zb [Yp [Zy (Yz t2),Zy (Yy t2),Zy (Zm t2),Xx 8 (Ww Zq (Wb (bif Zg (Zu x y z) then Wm (Zu x y z) [] else Kerb.noCache)))],Zz .i64 (bif Zg (Zu x y z) then 0 else 103)],[]))) (kT fun vs=>onCons vs fun x_1 r=>Wx x_1 fun cs=>onCons cs fun x_2 r_1=>Vu x_2 fun b=>onCons r_1 fun x_3 r_2=>Vu x_3 fun b_1=>onCons r_2 fun x_4 r_3=>Vu x_4 fun b_2=>onCons r_3 fun x_5 r_4=>AV.onSl 8 x_5 fun b_3=>onNil r_4 (onCons r fun x_6 r=>Yj .i64 x_6 fun n=>onNil r (sel (!n==0) (some (Zb [t0,Zz .i64 n],[])) (some (Zb [Yp (Zy x::Zy y::Zy z::Zz .i64 ad::Zz .i64 sk::Zj li::Zy b::Zy b_1::Zy b_2::Xx 8 b_3::t1),Zz .i64 0],[]))))))))):Option (AV×Blocks))) (by kernel_rfl) ?_
  delta kT kL
  try dsimp only [cStr,cBs,cBool,cU8,cInt,cSl,l63]
  simp only [A0,Zp,Zd,Zq,hpre]
  unfold Kerb.newClient
  cases h:Zg ⟨x,y,z⟩
  ·rfl
  cases Zv ad 4294967295
  ·rfl
  cases Zv sk 4294967295<;>rfl
 ·cases h
theorem w18:Walked Tryz.prog G 18 9 sp18:=by
 refine ⟨Tryz.f18,Tryz.func18,by decide +kernel,rfl,fun xs bl r h=> ?_⟩
 unfold sp18 at h
 split at h
 ·rename_i m1 m2 m3 ad sk li o1 o2 o3 els wt w1 w2 w3 se tm lf cs tc
  obtain ⟨hpre,h2⟩:=chk_inv h;cases h2
  refine Eq.trans (b:=(Zw (chk (decide (Zx m1≤9223372036854775807)&&decide (Zx m2≤9223372036854775807)&&decide (Zx m3≤9223372036854775807)) (some (Zj (Zg (Zu m1 m2 m3)),[]))) fun (r:AV×Blocks)=>onNilB (Yq r) (Wj (Yn r) fun b=>sel (!b) (some (Zz .i64 103,[])) (sel (!Zv ad 4294967295) (some (Zz .i64 104,[])) (sel (!Zv sk 4294967295) (some (Zz .i64 104,[])) (sel (decide (wt<0)) (some (Zz .i64 104,[])) (sel (decide (wt>3)) (some (Zz .i64 104,[])) (Zw (chk (decide (Zx o1≤9223372036854775807)&&decide (Zx o2≤9223372036854775807)&&decide (Zx o3≤9223372036854775807)&&Vg els Wp&&decide (Zx els≤1000000)) (some (Zz .i64 (Kerb.Cache.err (Wm (Zu o1 o2 o3) (Ww Wk els))),[]))) fun (r:AV×Blocks)=>onNilB (Yq r) (Yj .i64 (Yn r) fun n=>sel (!n==0) (some (Zz .i64 n,[])) (sel (!(o1==m1&&(o2==m2&&o3==m3))) (some (Zz .i64 103,[])) (some (Zz .i64 0,[])))))))))):Option (AV×Blocks))) (by kernel_rfl) ?_
  simp only [Yg,decide_eq_true_eq] at hpre
  have c1:(decide (m1.length≤9223372036854775807)&&decide (m2.length≤9223372036854775807)&&decide (m3.length≤9223372036854775807))=true:=by simp;omega
  have c2:(decide (o1.length≤9223372036854775807)&&decide (o2.length≤9223372036854775807)&&decide (o3.length≤9223372036854775807)&&els.all Wp&&decide (els.length≤1000000))=true:=by simp only [Yg,decide_eq_true_eq];exact ⟨⟨⟨⟨by omega,by omega⟩,by omega⟩,hpre.1.2⟩,hpre.2⟩
  simp only [A0,Zp,Zd,Zq,c1,c2]
  unfold Uf
  simp only
  cases Zg ⟨m1,m2,m3⟩
  ·rfl
  cases Zv ad 4294967295
  ·rfl
  cases Zv sk 4294967295
  ·rfl
  simp only [Yv,sel_false,Yh]
  rw [if_neg (by simp),if_neg (by simp)]
  by_cases h1:0≤wt
  case neg=>rw [sel_pos (by simp;omega),if_pos (by simp;omega)]
  by_cases h2:wt≤3
  case neg=>rw [sel_neg (by simp;omega),sel_pos (by simp;omega),if_pos (by simp;omega)]
  rw [sel_neg (by simp;omega),sel_neg (by simp;omega),if_neg (by simp;omega)]
  by_cases h3:Kerb.Cache.err ⟨⟨o1,o2,o3⟩,els.map Wk⟩=0
  case neg=>rw [sel_pos (by simpa using h3),if_pos h3]
  rw [sel_neg (by simp [h3]),if_neg (by simpa using h3)]
  show sel (!Kerb.Prin.eqb ⟨o1,o2,o3⟩ ⟨m1,m2,m3⟩) _ _=_
  cases Kerb.Prin.eqb ⟨o1,o2,o3⟩ ⟨m1,m2,m3⟩<;>rfl
 ·cases h
theorem w78:Walked Tryz.prog G 78 9 sp78:=by
 refine ⟨Tryz.f78,Tryz.func78,by decide +kernel,rfl,fun xs bl r h=> ?_⟩
 unfold sp78 at h
 split at h
 ·rename_i x y z ck tc tm li
  obtain ⟨hpre,h2⟩:=chk_inv h;cases h2
  refine Eq.trans (b:=(let t0:Nat:=Zx ([]++Yk 1 1 false)+Zx x+Zx y+Zx z;let t1:Nat:=Zx ([]++Yk 0 1 false)+Zx x+Zx y+Zx z;Zw (chk (l63 x&&l63 y&&l63 z) (some (Zz .i64 (Vp (Xu (Zu x y z) ck tc tm)),[]))) (kI .i64 fun n=>sel (!n==0) (some (Zb [Zk [],Zz .i64 n],[])) (sel li (Zw (chk (decide (t0≤70368744170000)) (some (Zk (Kerb.putPrin ([]++Yk 1 1 false) (Zu x y z)),[]))) (kB fun b=>Zw (chk (decide (Zx b≤70368744177664)) (some (Xf (b++Yk ck 4 li),[]))) (kO fun l=>Zw (chk (decide (Zx l≤70368744177664)) (some (Xf (l++Yk tc 1 false),[]))) (kO fun l=>Zw (chk (decide (Zx l≤70368744177664)) (some (Xf (l++Yk tm 4 li),[]))) (kO fun l=>Zw (chk (decide (Zx l≤70368744177664)) (some (Zk (Kerb.pad l),[]))) (kB fun b=>some (Zb [Zk b,Zz .i64 0],[]))))))) (Zw (chk (decide (t1≤70368744170000)) (some (Zk (Kerb.putPrin ([]++Yk 0 1 false) (Zu x y z)),[]))) (kB fun b=>Zw (chk (decide (Zx b≤70368744177664)) (some (Xf (b++Yk ck 4 li),[]))) (kO fun l=>Zw (chk (decide (Zx l≤70368744177664)) (some (Xf (l++Yk tc 1 false),[]))) (kO fun l=>Zw (chk (decide (Zx l≤70368744177664)) (some (Xf (l++Yk tm 4 li),[]))) (kO fun l=>Zw (chk (decide (Zx l≤70368744177664)) (some (Zk (Kerb.pad l),[]))) (kB fun b=>some (Zb [Zk b,Zz .i64 0],[]))))))))):Option (AV×Blocks))) (by kernel_rfl) ?_
  delta kB kO kI
  try dsimp only [cStr,cBs,cBool,cU8,cInt,cSl,l63]
  simp only [A0,Zp,Zd,Zq,hpre]
  unfold Xh
  by_cases h:(Xu ⟨x,y,z⟩ ck tc tm).check=0
  case neg =>
   rw [sel_pos (by simpa using h),if_pos h]
  have hv:Zg ⟨x,y,z⟩=true:=by
   unfold Vp at h
   cases hv:Zg ⟨x,y,z⟩
   ·simp [hv] at h
   ·rfl
  have l1:=Kerb.valid_len hv
  simp only at l1
  rw [sel_neg (by simp [h]),if_neg (by simpa using h)]
  cases li
  ·simp only [A0,Zp,Zd,Zq,List.nil_append,cond_false,cond_true]
   rw [chk_of (by simp [Zf];omega),chk_of (by simp [Zf,Yx];omega),chk_of (by simp [Zf,Yx];omega),chk_of (by simp [Zf,Yx];omega),chk_of (by simp [Zf,Yx];omega)]
  ·simp only [A0,Zp,Zd,Zq,List.nil_append,cond_false,cond_true]
   rw [chk_of (by simp [Zf];omega),chk_of (by simp [Zf,Yx];omega),chk_of (by simp [Zf,Yx];omega),chk_of (by simp [Zf,Yx];omega),chk_of (by simp [Zf,Yx];omega)]
 ·cases h
theorem w12:Walked Tryz.prog G 12 10 sp12:=by
 refine ⟨Tryz.f12,Tryz.func12,by decide +kernel,rfl,fun xs bl r h=> ?_⟩
 unfold sp12 at h
 split at h
 ·rename_i m1 m2 m3 ad sk li o1 o2 o3 els wt w1 w2 w3 se tm lf cs tc life now
  obtain ⟨hpre,h2⟩:=chk_inv h;cases h2
  refine Eq.trans (b:=(let t0:AV:=Yp [Zy [],Zy [],Zy [],Zz .i64 0,Zz .i64 0,Zj false,Zy [],Zy [],Zy [],Xx 8 [],Zz .i64 0,Zy [],Zy [],Zy [],Zz .u64 0,Zz .i64 0,Zz .i64 0,Zz .i64 0,Zz .i64 0];let t1:Kerb.Enc:=Uv (Kerb.KdcRequest.mk li (Zu m1 m2 m3) now life [(107:UInt8),(114:UInt8),(98:UInt8),(116:UInt8),(103:UInt8),(116:UInt8)] m3);let t2:Bool:=l63 m1&&l63 m2&&l63 m3;Zw (chk (t2&&l63 o1&&l63 o2&&l63 o3&&Vg els Wp&&decide (Zx els≤1000000)) (some (Zz .i64 (Uf (Zh (Zu m1 m2 m3) ad sk li (Wm (Zu o1 o2 o3) (Ww Wk els)) wt (Zu w1 w2 w3) se tm lf cs tc)),[]))) (kI .i64 fun n=>sel (!n==0) (some (Zb [t0,Zk [],Zz .i64 108],[])) (sel (!Zv now 4294967295) (some (Zb [t0,Zk [],Zz .i64 104],[])) (sel (!Zv life 255) (some (Zb [t0,Zk [],Zz .i64 104],[])) (Zw (chk (t2&&true&&l63 m3) (some (Zb [Zk (Wu t1),Zz .i64 (Wq t1)],[]))) (kT fun vs=>cBs vs fun b r=>cInt .i64 r fun n r=>onNil r (sel (!n==0) (some (Zb [t0,Zk [],Zz .i64 n],[])) (some (Zb [Yp [Zy m1,Zy m2,Zy m3,Zz .i64 ad,Zz .i64 sk,Zj li,Zy o1,Zy o2,Zy o3,Xx 8 els,Zz .i64 1,Zy [(107:UInt8),(114:UInt8),(98:UInt8),(116:UInt8),(103:UInt8),(116:UInt8)],Zy m3,Zy m3,Zz .u64 0,Zz .i64 now,Zz .i64 life,Zz .i64 0,Zz .i64 0],Zk b,Zz .i64 0],[])))))))):Option (AV×Blocks))) (by kernel_rfl) ?_
  delta kT kI
  try dsimp only [cStr,cBs,cBool,cU8,cInt,cSl,l63]
  have hall:els.all Wp=true:=by simp only [Yg] at hpre;exact hpre.1.2
  have c3:(decide (m1.length≤9223372036854775807)&&decide (m2.length≤9223372036854775807)&&decide (m3.length≤9223372036854775807)&&true&&decide (m3.length≤9223372036854775807))=true:=by
   simp only [Yg,decide_eq_true_eq] at hpre
   simp;omega
  simp only [A0,Zp,Zd,Zq,hpre,c3]
  obtain ⟨ds,rfl,hok⟩:=Kerb.creds_of hall
  simp only [Vw]
  have hL:∀ e q,(Zh ⟨m1,m2,m3⟩ ad sk li ⟨⟨o1,o2,o3⟩,ds⟩ wt ⟨w1,w2,w3⟩ se tm lf cs tc).err=e→Uv ⟨li,⟨m1,m2,m3⟩,now,life,[107,114,98,116,103,116],m3⟩=q→Kerb.login (Zh ⟨m1,m2,m3⟩ ad sk li ⟨⟨o1,o2,o3⟩,ds⟩ wt ⟨w1,w2,w3⟩ se tm lf cs tc) life now=if e≠0 then ⟨Kerb.noClient,[],108⟩ else if !(Zv now 4294967295&&Zv life 255) then ⟨Kerb.noClient,[],104⟩ else if q.err≠0 then ⟨Kerb.noClient,[],q.err⟩ else ⟨⟨⟨m1,m2,m3⟩,ad,sk,li,⟨⟨o1,o2,o3⟩,ds⟩,1,⟨[107,114,98,116,103,116],m3,m3⟩,0,now,life,0,0⟩,q.val,0⟩:=by rintro _ _ rfl rfl;rfl
  obtain ⟨e,he⟩:∃ e,(Zh ⟨m1,m2,m3⟩ ad sk li ⟨⟨o1,o2,o3⟩,ds⟩ wt ⟨w1,w2,w3⟩ se tm lf cs tc).err=e:=⟨_,rfl⟩
  obtain ⟨q,hq⟩:∃ q,Uv ⟨li,⟨m1,m2,m3⟩,now,life,[107,114,98,116,103,116],m3⟩=q:=⟨_,rfl⟩
  rw [hL e q he hq,he,hq]
  by_cases h1:e=0
  case neg=>rw [sel_pos (by simpa using h1),if_pos h1];rfl
  rw [sel_neg (by simpa using h1),if_neg (by simpa using h1)]
  cases Zv now 4294967295
  ·rfl
  cases Zv life 255
  ·rfl
  simp only [Yv,sel_false,Yh,Uk,if_false]
  by_cases h2:q.err=0
  case neg=>rw [sel_pos (by simpa using h2),if_pos h2];rfl
  rw [sel_neg (by simpa using h2),if_neg (by simpa using h2)]
 ·cases h
theorem w48:Walked Tryz.prog G 48 10 sp48:=by
 refine ⟨Tryz.f48,Tryz.func48,by decide +kernel,rfl,fun xs bl r h=> ?_⟩
 unfold sp48 at h
 split at h
 ·rename_i x y z ck tc tm li k
  obtain ⟨hpre,h2⟩:=chk_inv h;cases h2
  refine Eq.trans (b:=(Zw (chk (decide (Zx x≤9223372036854775807)&&decide (Zx y≤9223372036854775807)&&decide (Zx z≤9223372036854775807)) (some (Zb [Zk (Wu (Xh (Xu (Zu x y z) ck tc tm) li)),Zz .i64 (Wq (Xh (Xu (Zu x y z) ck tc tm) li))],[]))) fun (r:AV×Blocks)=>onNilB (Yq r) (AV.onTup (Yn r) fun vs=>onCons vs fun x r=>Vj x fun b=>onCons r fun x r=>Yj .i64 x fun n=>onNil r (sel (!n==0) (some (Zb [Zk [],Zz .i64 n],[])) (Zw (chk (decide (0≤k)&&decide (k<18446744073709551616)) (some (Zb [Zk (Wu (Kerb.makeBox 2 k b)),Zz .i64 (Wq (Kerb.makeBox 2 k b))],[]))) fun (r:AV×Blocks)=>onNilB (Yq r) (AV.onTup (Yn r) fun vs=>onCons vs fun x r=>Vj x fun b=>onCons r fun x r=>Yj .i64 x fun n=>onNil r (some (Zb [Zk b,Zz .i64 n],[])))))):Option (AV×Blocks))) (by kernel_rfl) ?_
  have hpre':=hpre
  simp only [Yg,decide_eq_true_eq] at hpre
  have c1:(decide (x.length≤9223372036854775807)&&decide (y.length≤9223372036854775807)&&decide (z.length≤9223372036854775807))=true:=by simp;omega
  have c2:(decide (0≤k)&&decide (k<18446744073709551616))=true:=by simp;omega
  simp only [A0,Zp,Zd,Zq,c1,c2]
  unfold Kerb.sealAuth
  by_cases h:(Xh (Xu ⟨x,y,z⟩ ck tc tm) li).err=0
  ·rw [sel_neg (by simp [h]),if_neg (by simpa using h)]
  ·rw [sel_pos (by simpa using h),if_pos h]
 ·cases h
theorem w22:Walked Tryz.prog G 22 11 sp22:=by
 refine ⟨Tryz.f22,Tryz.func22,by decide +kernel,rfl,fun xs bl r h=> ?_⟩
 unfold sp22 at h
 split at h
 ·rename_i m1 m2 m3 ad sk li o1 o2 o3 els wt w1 w2 w3 se tm lf cs tc s1 s2 s3 sk2 lf2 kv2 is2 tk2 mu x y z ck tc2 tm2
  obtain ⟨hpre,h2⟩:=chk_inv h;cases h2
  refine Eq.trans (b:=(Zw (chk (decide (Zx x≤9223372036854775807)&&decide (Zx y≤9223372036854775807)&&decide (Zx z≤9223372036854775807)&&decide (0≤sk2)&&decide (sk2<18446744073709551616)) (some (Zb [Zk (Wu (Kerb.sealAuth (Xu (Zu x y z) ck tc2 tm2) li sk2)),Zz .i64 (Wq (Kerb.sealAuth (Xu (Zu x y z) ck tc2 tm2) li sk2))],[]))) fun (r:AV×Blocks)=>onNilB (Yq r) (AV.onTup (Yn r) fun vs=>onCons vs fun x r=>Vj x fun b=>onCons r fun x r=>Yj .i64 x fun n=>onNil r (sel (!n==0) (some (Zb [Yp [Zj false,Zj false,Zz .i64 0,Zy [],Zk [],Zk []],Zz .i64 n],[])) (some (Zb [Yp [Zj li,Zj mu,Zz .i64 kv2,Zy s3,Zk tk2,Zk b],Zz .i64 0],[])))):Option (AV×Blocks))) (by kernel_rfl) ?_
  simp only [A0,Zp,Zd,Zq,hpre]
  unfold Ux
  simp only
  by_cases h:(Kerb.sealAuth ⟨⟨x,y,z⟩,ck,tc2,tm2⟩ li sk2).err=0
  ·rw [sel_neg (by simp [h]),if_neg (by simpa using h)]
  ·rw [sel_pos (by simpa using h),if_pos h]
   rfl
 ·cases h
theorem w7:Walked Tryz.prog G 7 12 sp7:=by
 refine ⟨Tryz.f7,Tryz.func7,by decide +kernel,rfl,fun xs bl r h=> ?_⟩
 unfold sp7 at h
 split at h
 ·rename_i m1 m2 m3 ad sk li o1 o2 o3 els wt w1 w2 w3 se tm lf cs tc x y z mu sum now tick
  obtain ⟨hpre,h2⟩:=chk_inv h;cases h2
  refine Eq.trans (b:=(let t0:AV:=Yp [Zy [],Zy [],Zy [],Zz .i64 0,Zz .i64 0,Zj false,Zy [],Zy [],Zy [],Xx 8 [],Zz .i64 0,Zy [],Zy [],Zy [],Zz .u64 0,Zz .i64 0,Zz .i64 0,Zz .i64 0,Zz .i64 0];let t1:Kerb.Client:=Zh (Zu m1 m2 m3) ad sk li (Wm (Zu o1 o2 o3) (Ww Wk els)) wt (Zu w1 w2 w3) se tm lf cs tc;let t2:AV:=Yp [Zy [],Zy [],Zy [],Zz .u64 0,Zz .i64 0,Zz .i64 0,Zz .i64 0,Zk []];let t3:Kerb.Cred:=Yu (Vx (Ww Wk els) (Zu x y z) now);let t5:Bool:=l63 m1&&l63 m2&&l63 m3;let t4:Option (AV×Blocks):=some (Zb [t0,Zk [],t2,Zk [],Zz .i64 104],[]);Zw (chk (t5&&l63 o1&&l63 o2&&l63 o3&&Vg els Wp&&decide (Zx els≤1000000)) (some (Zz .i64 (Uf t1),[]))) (kI .i64 fun n=>sel (!n==0) (some (Zb [t0,Zk [],t2,Zk [],Zz .i64 108],[])) (Zw (chk (l63 x&&l63 y&&l63 z) (some (Zj (Zg (Zu x y z)),[]))) (kL fun b=>sel (!b) (some (Zb [t0,Zk [],t2,Zk [],Zz .i64 103],[])) (sel (!Zv now 4294967295) t4 (sel (!Zv tick 199) t4 (sel (!Zv sum 4294967295) t4 (Zw (chk (Vg els Wp&&decide (Zx els≤1000000)&&Vg els Kerb.fitCred) (some (Zb [Yp [Zy (Yz (Yf t3)),Zy (Yy (Yf t3)),Zy (Zm (Yf t3)),Zz .u64 (Uz t3),Zz .i64 (Kerb.Cred.life t3),Zz .i64 (Kerb.Cred.kvno t3),Zz .i64 (Ud t3),Zk (Up t3)],Zz .i64 (Vb (Vx (Ww Wk els) (Zu x y z) now))],[]))) (kT fun vs=>onCons vs fun x_1 r=>Wx x_1 fun cs_1=>onCons cs_1 fun x_2 r_1=>Vu x_2 fun b=>onCons r_1 fun x_3 r_2=>Vu x_3 fun b_1=>onCons r_2 fun x_4 r_3=>Vu x_4 fun b_2=>onCons r_3 fun x_5 r_4=>Yj .u64 x_5 fun n=>onCons r_4 fun x_6 r_5=>Yj .i64 x_6 fun n_1=>onCons r_5 fun x_7 r_6=>Yj .i64 x_7 fun n_2=>onCons r_6 fun x_8 r_7=>Yj .i64 x_8 fun n_3=>onCons r_7 fun x_9 r_8=>Vj x_9 fun b_3=>let t7:AV:=Yp [Zy b,Zy b_1,Zy b_2,Zz .u64 n,Zz .i64 n_1,Zz .i64 n_2,Zz .i64 n_3,Zk b_3];let t8:Kerb.DecAp:=Ux t1 (Kerb.Cred.mk (Zu b b_1 b_2) n n_1 n_2 n_3 b_3) mu (Xu (Zu m1 m2 m3) sum tick now);let t6:Kerb.ApRequest:=Kerb.DecAp.val t8;onNil r_8 (onCons r fun x_10 r=>Yj .i64 x_10 fun n_4=>onNil r (sel (!n_4==0) (some (Zb [t0,Zk [],t2,Zk [],Zz .i64 n_4],[])) (Zw (chk (t5&&decide (0≤n)&&decide (n<18446744073709551616)) (some (Zb [Yp [Zj (Uj t6),Zj (Uy t6),Zz .i64 (Um t6),Zy (Ug t6),Zk (Uq t6),Zk (Uh t6)],Zz .i64 (Kerb.DecAp.err t8)],[]))) (kT fun vs=>onCons vs fun x_11 r=>Wx x_11 fun cs_2=>onCons cs_2 fun x_12 r_9=>Wj x_12 fun b=>onCons r_9 fun x_13 r_10=>Wj x_13 fun b_4=>onCons r_10 fun x_14 r_11=>Yj .i64 x_14 fun n_5=>onCons r_11 fun x_15 r_12=>Vu x_15 fun b_5=>onCons r_12 fun x_16 r_13=>Vj x_16 fun b_6=>onCons r_13 fun x_17 r_14=>Vj x_17 fun b_7=>onNil r_14 (onCons r fun x_18 r=>Yj .i64 x_18 fun n_6=>onNil r (sel (!n_6==0) (some (Zb [t0,Zk [],t2,Zk [],Zz .i64 n_6],[])) (Zw (chk (l63 b_5) (some (Zb [Zk (Wu (Xq (Xj b b_4 n_5 b_5 b_6 b_7))),Zz .i64 (Wq (Xq (Xj b b_4 n_5 b_5 b_6 b_7)))],[]))) (kT fun vs=>onCons vs fun x_19 r=>Vj x_19 fun b=>onCons r fun x_20 r=>Yj .i64 x_20 fun n_7=>onNil r (sel (!n_7==0) (some (Zb [t0,Zk [],t2,Zk [],Zz .i64 n_7],[])) (sel mu (some (Zb [Yp [Zy m1,Zy m2,Zy m3,Zz .i64 ad,Zz .i64 sk,Zj li,Zy o1,Zy o2,Zy o3,Xx 8 els,Zz .i64 3,Zy x,Zy y,Zy z,Zz .u64 n,Zz .i64 now,Zz .i64 0,Zz .i64 sum,Zz .i64 tick],Zk b,t7,Zk b_7,Zz .i64 0],[])) (some (Zb [Yp [Zy m1,Zy m2,Zy m3,Zz .i64 ad,Zz .i64 sk,Zj li,Zy o1,Zy o2,Zy o3,Xx 8 els,Zz .i64 wt,Zy w1,Zy w2,Zy w3,Zz .u64 se,Zz .i64 tm,Zz .i64 lf,Zz .i64 cs,Zz .i64 tc],Zk b,t7,Zk b_7,Zz .i64 0],[])))))))))))))))))))):Option (AV×Blocks))) (by kernel_rfl) ?_
  delta kT kL kI
  try dsimp only [cStr,cBs,cBool,cU8,cInt,cSl,l63]
  simp only [Yg,decide_eq_true_eq] at hpre
  obtain ⟨⟨⟨⟨⟨⟨⟨⟨⟨⟨p1,p2⟩,p3⟩,p4⟩,p5⟩,p6⟩,hall⟩,hlen⟩,p7⟩,p8⟩,p9⟩:=hpre
  obtain ⟨ds,rfl,hok⟩:=Kerb.creds_of hall
  simp only [A0,Zp,Zd,Zq,p1,p2,p3,p4,p5,p6,p7,p8,p9,hall,hlen,decide_true,Yh,Vw]
  have hL:∀ e x' r m,(Zh ⟨m1,m2,m3⟩ ad sk li ⟨⟨o1,o2,o3⟩,ds⟩ wt ⟨w1,w2,w3⟩ se tm lf cs tc).err=e→Vx ds ⟨x,y,z⟩ now=x'→Ux (Zh ⟨m1,m2,m3⟩ ad sk li ⟨⟨o1,o2,o3⟩,ds⟩ wt ⟨w1,w2,w3⟩ se tm lf cs tc) x'.val mu ⟨⟨m1,m2,m3⟩,sum,tick,now⟩=r→Xq r.val=m →
    Kerb.present (Zh ⟨m1,m2,m3⟩ ad sk li ⟨⟨o1,o2,o3⟩,ds⟩ wt ⟨w1,w2,w3⟩ se tm lf cs tc) ⟨x,y,z⟩ mu sum now tick=if e≠0 then Xb 108 else if !(Zg ⟨x,y,z⟩) then Xb 103 else if !(Zv now 4294967295&&Zv tick 199&&Zv sum 4294967295) then Xb 104 else if x'.err≠0 then Xb x'.err else if r.err≠0 then Xb r.err else if m.err≠0 then Xb m.err else ⟨cond mu ⟨⟨m1,m2,m3⟩,ad,sk,li,⟨⟨o1,o2,o3⟩,ds⟩,3,⟨x,y,z⟩,x'.val.session,now,0,sum,tick⟩ (Zh ⟨m1,m2,m3⟩ ad sk li ⟨⟨o1,o2,o3⟩,ds⟩ wt ⟨w1,w2,w3⟩ se tm lf cs tc),m.val,x'.val,r.val.auth,0⟩:=by
   rintro _ _ _ _ rfl rfl rfl rfl;rfl
  have hfit := @Kerb.client_fit (Zh ⟨m1,m2,m3⟩ ad sk li ⟨⟨o1,o2,o3⟩,ds⟩ wt ⟨w1,w2,w3⟩ se tm lf cs tc)
  have hxo:=Kerb.live_ok hok ⟨x,y,z⟩ now
  obtain ⟨e,he⟩:∃ e,(Zh ⟨m1,m2,m3⟩ ad sk li ⟨⟨o1,o2,o3⟩,ds⟩ wt ⟨w1,w2,w3⟩ se tm lf cs tc).err=e:=⟨_,rfl⟩
  obtain ⟨x',hx⟩:∃ x',Vx ds ⟨x,y,z⟩ now=x':=⟨_,rfl⟩
  rw [he] at hfit
  rw [hx] at hxo
  rw [he,hx,hL e x' _ _ he hx rfl rfl]
  clear hL he hx
  by_cases h1:e=0
  case neg=>rw [sel_pos (by simpa using h1),if_pos h1];rfl
  replace hfit:=hfit h1
  simp only at hfit
  rw [sel_neg (by simpa using h1),if_neg (by simpa using h1)]
  cases Zg ⟨x,y,z⟩
  ·rfl
  cases Zv now 4294967295
  ·first | rfl | (cases Zv sum 4294967295<;>rfl)
  cases Zv tick 199
  ·first | rfl | (cases Zv sum 4294967295<;>rfl)
  cases Zv sum 4294967295
  ·first | rfl | (cases Zv sum 4294967295<;>rfl)
  simp only [Yv,sel_false,Yh,Uk,if_false,hfit,A0,Zp,Zd,Zq]
  obtain ⟨⟨⟨s1,s2,s3⟩,sk2,lf2,kv2,is2,tk2⟩,xe⟩:=x'
  have hra:=fun a=>Kerb.apOf_realm (c:=(Zh ⟨m1,m2,m3⟩ ad sk li ⟨⟨o1,o2,o3⟩,ds⟩ wt ⟨w1,w2,w3⟩ se tm lf cs tc)) hxo mu a
  obtain ⟨u1,u2,u3,u4,u5,u6⟩:=hxo
  simp only at u4 u5
  simp only [u4,u5,decide_true,Yh,A0,Zp,Zd,Zq]
  by_cases h2:xe=0
  case neg=>rw [sel_pos (by simpa using h2),if_pos h2];rfl
  rw [sel_neg (by simpa using h2),if_neg (by simpa using h2)]
  replace hra:=hra ⟨⟨m1,m2,m3⟩,sum,tick,now⟩
  obtain ⟨r,hr⟩:∃ r,Ux (Zh ⟨m1,m2,m3⟩ ad sk li ⟨⟨o1,o2,o3⟩,ds⟩ wt ⟨w1,w2,w3⟩ se tm lf cs tc) ⟨⟨s1,s2,s3⟩,sk2,lf2,kv2,is2,tk2⟩ mu ⟨⟨m1,m2,m3⟩,sum,tick,now⟩=r:=⟨_,rfl⟩
  rw [hr] at hra ⊢
  obtain ⟨⟨li',mu',kv',rl',tk',au'⟩,re⟩:=r
  simp only at hra
  simp only [hra,decide_true,Yh,A0,Zp,Zd,Zq]
  by_cases h3:re=0
  case neg=>rw [sel_pos (by simpa using h3),if_pos h3];rfl
  rw [sel_neg (by simpa using h3),if_neg (by simpa using h3)]
  generalize Xq ⟨li',mu',kv',rl',tk',au'⟩=m
  by_cases h4:m.err=0
  case neg=>rw [sel_pos (by simpa using h4),if_pos h4];rfl
  rw [sel_neg (by simpa using h4),if_neg (by simpa using h4)]
  cases mu<;>rfl
 ·cases h
theorem w13:Walked Tryz.prog G 13 12 sp13:=by
 refine ⟨Tryz.f13,Tryz.func13,by decide +kernel,rfl,fun xs bl r h=> ?_⟩
 unfold sp13 at h
 split at h
 ·rename_i m1 m2 m3 ad sk li o1 o2 o3 els wt w1 w2 w3 se tm lf cs tc x y z life now tick
  obtain ⟨hpre,h2⟩:=chk_inv h;cases h2
  refine Eq.trans (b:=(let t0:AV:=Yp [Zy [],Zy [],Zy [],Zz .i64 0,Zz .i64 0,Zj false,Zy [],Zy [],Zy [],Xx 8 [],Zz .i64 0,Zy [],Zy [],Zy [],Zz .u64 0,Zz .i64 0,Zz .i64 0,Zz .i64 0,Zz .i64 0];let t1:Kerb.Client:=Zh (Zu m1 m2 m3) ad sk li (Wm (Zu o1 o2 o3) (Ww Wk els)) wt (Zu w1 w2 w3) se tm lf cs tc;let t2:AV:=Yp [Zy [],Zy [],Zy [],Zz .u64 0,Zz .i64 0,Zz .i64 0,Zz .i64 0,Zk []];let t4:Kerb.Auth:=Xu (Zu m1 m2 m3) 0 tick now;let t6:Kerb.Dec Kerb.Cred:=Vx (Ww Wk els) (Zu [(107:UInt8),(114:UInt8),(98:UInt8),(116:UInt8),(103:UInt8),(116:UInt8)] z m3) now;let t7:Bool:=l63 m1&&l63 m2&&l63 m3;let t3:Kerb.Cred:=Yu t6;let t5:Option (AV×Blocks):=some (Zb [t0,Zk [],t2,Zk [],Zz .i64 104],[]);Zw (chk (t7&&l63 o1&&l63 o2&&l63 o3&&Vg els Wp&&decide (Zx els≤1000000)) (some (Zz .i64 (Uf t1),[]))) (kI .i64 fun n=>sel (!n==0) (some (Zb [t0,Zk [],t2,Zk [],Zz .i64 108],[])) (Zw (chk (l63 x&&l63 y&&l63 z) (some (Zj (Zg (Zu x y z)),[]))) (kL fun b=>sel (!b) (some (Zb [t0,Zk [],t2,Zk [],Zz .i64 103],[])) (sel (!Zv now 4294967295) t5 (sel (!Zv life 255) t5 (sel (!Zv tick 199) t5 (Zw (chk (Vg els Wp&&decide (Zx els≤1000000)&&Vg els Kerb.fitCred) (some (Zb [Yp [Zy (Yz (Yf t3)),Zy (Yy (Yf t3)),Zy (Zm (Yf t3)),Zz .u64 (Uz t3),Zz .i64 (Kerb.Cred.life t3),Zz .i64 (Kerb.Cred.kvno t3),Zz .i64 (Ud t3),Zk (Up t3)],Zz .i64 (Vb t6)],[]))) (kT fun vs=>onCons vs fun x_1 r=>Wx x_1 fun cs=>onCons cs fun x_2 r_1=>Vu x_2 fun b=>onCons r_1 fun x_3 r_2=>Vu x_3 fun b_1=>onCons r_2 fun x_4 r_3=>Vu x_4 fun b_2=>onCons r_3 fun x_5 r_4=>Yj .u64 x_5 fun n=>onCons r_4 fun x_6 r_5=>Yj .i64 x_6 fun n_1=>onCons r_5 fun x_7 r_6=>Yj .i64 x_7 fun n_2=>onCons r_6 fun x_8 r_7=>Yj .i64 x_8 fun n_3=>onCons r_7 fun x_9 r_8=>Vj x_9 fun b_3=>let t8:Kerb.ApRequest:=Kerb.DecAp.val (Ux t1 (Kerb.Cred.mk (Zu b b_1 b_2) n n_1 n_2 n_3 b_3) false t4);onNil r_8 (onCons r fun x_10 r=>Yj .i64 x_10 fun n_4=>onNil r (sel (!n_4==0) (some (Zb [t0,Zk [],t2,Zk [],Zz .i64 n_4],[])) (Zw (chk (t7&&decide (0≤n)&&decide (n<18446744073709551616)) (some (Zb [Yp [Zj (Uj t8),Zj (Uy t8),Zz .i64 (Um t8),Zy (Ug t8),Zk (Uq t8),Zk (Uh t8)],Zz .i64 (Kerb.DecAp.err (Ux t1 (Kerb.Cred.mk (Zu b b_1 b_2) n n_1 n_2 n_3 b_3) false t4))],[]))) (kT fun vs=>onCons vs fun x_11 r=>Wx x_11 fun cs=>onCons cs fun x_12 r_9=>Wj x_12 fun b_4=>onCons r_9 fun x_13 r_10=>Wj x_13 fun b_5=>onCons r_10 fun x_14 r_11=>Yj .i64 x_14 fun n_5=>onCons r_11 fun x_15 r_12=>Vu x_15 fun b_6=>onCons r_12 fun x_16 r_13=>Vj x_16 fun b_7=>onCons r_13 fun x_17 r_14=>Vj x_17 fun b_8=>onNil r_14 (onCons r fun x_18 r=>Yj .i64 x_18 fun n_6=>onNil r (sel (!n_6==0) (some (Zb [t0,Zk [],t2,Zk [],Zz .i64 n_6],[])) (Zw (chk (l63 b_6&&l63 x&&l63 y) (some (Zb [Zk (Wu (Uw (Kerb.TgsRequest.mk (Xj b_4 b_5 n_5 b_6 b_7 b_8) now life x y))),Zz .i64 (Wq (Uw (Kerb.TgsRequest.mk (Xj b_4 b_5 n_5 b_6 b_7 b_8) now life x y)))],[]))) (kT fun vs=>onCons vs fun x_19 r=>Vj x_19 fun b_9=>onCons r fun x_20 r=>Yj .i64 x_20 fun n_7=>onNil r (sel (!n_7==0) (some (Zb [t0,Zk [],t2,Zk [],Zz .i64 n_7],[])) (some (Zb [Yp [Zy m1,Zy m2,Zy m3,Zz .i64 ad,Zz .i64 sk,Zj li,Zy o1,Zy o2,Zy o3,Xx 8 els,Zz .i64 2,Zy x,Zy y,Zy z,Zz .u64 0,Zz .i64 now,Zz .i64 life,Zz .i64 0,Zz .i64 0],Zk b_9,Yp [Zy b,Zy b_1,Zy b_2,Zz .u64 n,Zz .i64 n_1,Zz .i64 n_2,Zz .i64 n_3,Zk b_3],Zk b_8,Zz .i64 0],[]))))))))))))))))))):Option (AV×Blocks))) (by kernel_rfl) ?_
  delta kT kL kI
  try dsimp only [cStr,cBs,cBool,cU8,cInt,cSl,l63]
  simp only [Yg,decide_eq_true_eq] at hpre
  obtain ⟨⟨⟨⟨⟨⟨⟨⟨⟨⟨p1,p2⟩,p3⟩,p4⟩,p5⟩,p6⟩,hall⟩,hlen⟩,p7⟩,p8⟩,p9⟩:=hpre
  obtain ⟨ds,rfl,hok⟩:=Kerb.creds_of hall
  simp only [A0,Zp,Zd,Zq,p1,p2,p3,p4,p5,p6,p7,p8,p9,hall,hlen,decide_true,Yh,Vw]
  have hL:∀ e x' r m,(Zh ⟨m1,m2,m3⟩ ad sk li ⟨⟨o1,o2,o3⟩,ds⟩ wt ⟨w1,w2,w3⟩ se tm lf cs tc).err=e→Vx ds ⟨[107,114,98,116,103,116],z,m3⟩ now=x'→Ux (Zh ⟨m1,m2,m3⟩ ad sk li ⟨⟨o1,o2,o3⟩,ds⟩ wt ⟨w1,w2,w3⟩ se tm lf cs tc) x'.val false ⟨⟨m1,m2,m3⟩,0,tick,now⟩=r→Uw ⟨r.val,now,life,x,y⟩=m →
    Kerb.ask (Zh ⟨m1,m2,m3⟩ ad sk li ⟨⟨o1,o2,o3⟩,ds⟩ wt ⟨w1,w2,w3⟩ se tm lf cs tc) ⟨x,y,z⟩ life now tick=if e≠0 then Xb 108 else if !(Zg ⟨x,y,z⟩) then Xb 103 else if !(Zv now 4294967295&&Zv life 255&&Zv tick 199) then Xb 104 else if x'.err≠0 then Xb x'.err else if r.err≠0 then Xb r.err else if m.err≠0 then Xb m.err else ⟨⟨⟨m1,m2,m3⟩,ad,sk,li,⟨⟨o1,o2,o3⟩,ds⟩,2,⟨x,y,z⟩,0,now,life,0,0⟩,m.val,x'.val,r.val.auth,0⟩:=by
   rintro _ _ _ _ rfl rfl rfl rfl;rfl
  have hfit := @Kerb.client_fit (Zh ⟨m1,m2,m3⟩ ad sk li ⟨⟨o1,o2,o3⟩,ds⟩ wt ⟨w1,w2,w3⟩ se tm lf cs tc)
  have hxo:=Kerb.live_ok hok ⟨[107,114,98,116,103,116],z,m3⟩ now
  obtain ⟨e,he⟩:∃ e,(Zh ⟨m1,m2,m3⟩ ad sk li ⟨⟨o1,o2,o3⟩,ds⟩ wt ⟨w1,w2,w3⟩ se tm lf cs tc).err=e:=⟨_,rfl⟩
  obtain ⟨x',hx⟩:∃ x',Vx ds ⟨[107,114,98,116,103,116],z,m3⟩ now=x':=⟨_,rfl⟩
  rw [he] at hfit
  rw [hx] at hxo
  rw [he,hx,hL e x' _ _ he hx rfl rfl]
  clear hL he hx
  by_cases h1:e=0
  case neg=>rw [sel_pos (by simpa using h1),if_pos h1];rfl
  replace hfit:=hfit h1
  simp only at hfit
  rw [sel_neg (by simpa using h1),if_neg (by simpa using h1)]
  cases Zg ⟨x,y,z⟩
  ·rfl
  cases Zv now 4294967295
  ·first | rfl | (cases Zv sum 4294967295<;>rfl)
  cases Zv life 255
  ·first | rfl | (cases Zv sum 4294967295<;>rfl)
  cases Zv tick 199
  ·first | rfl | (cases Zv sum 4294967295<;>rfl)
  simp only [Yv,sel_false,Yh,Uk,if_false,hfit,A0,Zp,Zd,Zq]
  obtain ⟨⟨⟨s1,s2,s3⟩,sk2,lf2,kv2,is2,tk2⟩,xe⟩:=x'
  have hra:=fun a=>Kerb.apOf_realm (c:=(Zh ⟨m1,m2,m3⟩ ad sk li ⟨⟨o1,o2,o3⟩,ds⟩ wt ⟨w1,w2,w3⟩ se tm lf cs tc)) hxo false a
  obtain ⟨u1,u2,u3,u4,u5,u6⟩:=hxo
  simp only at u4 u5
  simp only [u4,u5,decide_true,Yh,A0,Zp,Zd,Zq]
  by_cases h2:xe=0
  case neg=>rw [sel_pos (by simpa using h2),if_pos h2];rfl
  rw [sel_neg (by simpa using h2),if_neg (by simpa using h2)]
  replace hra:=hra ⟨⟨m1,m2,m3⟩,0,tick,now⟩
  obtain ⟨r,hr⟩:∃ r,Ux (Zh ⟨m1,m2,m3⟩ ad sk li ⟨⟨o1,o2,o3⟩,ds⟩ wt ⟨w1,w2,w3⟩ se tm lf cs tc) ⟨⟨s1,s2,s3⟩,sk2,lf2,kv2,is2,tk2⟩ false ⟨⟨m1,m2,m3⟩,0,tick,now⟩=r:=⟨_,rfl⟩
  rw [hr] at hra ⊢
  obtain ⟨⟨li',mu',kv',rl',tk',au'⟩,re⟩:=r
  simp only at hra
  simp only [hra,decide_true,Yh,A0,Zp,Zd,Zq]
  by_cases h3:re=0
  case neg=>rw [sel_pos (by simpa using h3),if_pos h3];rfl
  rw [sel_neg (by simpa using h3),if_neg (by simpa using h3)]
  generalize Uw ⟨⟨li',mu',kv',rl',tk',au'⟩,now,life,x,y⟩=m
  by_cases h4:m.err=0
  case neg=>rw [sel_pos (by simpa using h4),if_pos h4];rfl
  rw [sel_neg (by simpa using h4),if_neg (by simpa using h4)]
 ·cases h
theorem p4  : runFn (G.env 4 13) G.rts (G.own 4) Tryz.f4 [] []=some (.bool true,[]):=by kernel_rfl
theorem w4:Walked Tryz.prog G 4 13 sp4:=by
 refine ⟨Tryz.f4,Tryz.func4,by decide +kernel,rfl,fun xs bl r h=> ?_⟩
 unfold sp4 at h
 split at h
 ·cases h;exact p4
 ·cases h
set_option maxHeartbeats 4000000 in
theorem w3:Walked Tryz.prog G 3 14 sp3:=by
 refine ⟨Tryz.f3,Tryz.func3,by decide +kernel,rfl,fun xs bl r h=> ?_⟩
 unfold sp3 at h
 split at h
 ·rename_i pw ps pl pc who small tk_ sum mu
  obtain ⟨hpre,h2⟩:=chk_inv h;cases h2
  refine Eq.trans (b:=(let t1:Int:=Int.tmod (Zn .i64 (↑(Yb tk_):Int)) 200;let t2:Int:=Zn .i64 (Int.tdiv (Zn .i64 small) 2);let t3:List AV:=Ww Zq (Wb (Xy (Yw pw ps pl pc)));let t4:Kerb.Prin:=Xv (Xy (Yw pw ps pl pc));let t5:Kerb.Bytes:=Zm (Xd (Yw pw ps pl pc));let t6:Kerb.Bytes:=Yy (Xd (Yw pw ps pl pc));let t7:Kerb.Bytes:=Yz (Xd (Yw pw ps pl pc));let t8:Kerb.Prin:=Xp (Yw pw ps pl pc);let t0:Kerb.Client:=Zh (Zu t7 t6 t5) (Kerb.Client.address (Yw pw ps pl pc)) (Kerb.Client.skew (Yw pw ps pl pc)) (Kerb.Client.little (Yw pw ps pl pc)) (Wm (Zu (Yz t4) (Yy t4) (Zm t4)) (Ww Wk t3)) (Kerb.Client.wait (Yw pw ps pl pc)) (Zu (Yz t8) (Yy t8) (Zm t8)) (Kerb.Client.session (Yw pw ps pl pc)) (Kerb.Client.time (Yw pw ps pl pc)) (Kerb.Client.life (Yw pw ps pl pc)) (Kerb.Client.checksum (Yw pw ps pl pc)) (Kerb.Client.tick (Yw pw ps pl pc));Zw (chk (decide (0≤Zn .i64 (↑(Yb who):Int))&&decide (Zn .i64 (↑(Yb who):Int)≤4611686018427387904)) (some (Yp [Zy (Yz (Kerb.service (Zn .i64 (↑(Yb who):Int)))),Zy (Yy (Kerb.service (Zn .i64 (↑(Yb who):Int)))),Zy (Zm (Kerb.service (Zn .i64 (↑(Yb who):Int))))],[]))) (kA fun cs=>cStr cs fun b r=>cStr r fun b_1 r=>cStr r fun b_2 r=>let t11:Kerb.Sent:=Kerb.present t0 (Zu b b_1 b_2) mu (Zn .i64 sum) t2 t1;let t9:Kerb.Client:=Kerb.Sent.c t11;let t10:Kerb.Cred:=Kerb.Sent.cred t11;onNil r (Zw (chk (l63 t7&&l63 t6&&l63 t5&&decide (Zx (Yz t4)≤9223372036854775807)&&decide (Zx (Yy t4)≤9223372036854775807)&&decide (Zx (Zm t4)≤9223372036854775807)&&Vg t3 Wp&&decide (Zx t3≤1000000)&&l63 b&&l63 b_1&&l63 b_2) (some (Zb [Yp [Zy (Yz (Xd t9)),Zy (Yy (Xd t9)),Zy (Zm (Xd t9)),Zz .i64 (Kerb.Client.address t9),Zz .i64 (Kerb.Client.skew t9),Zj (Kerb.Client.little t9),Zy (Yz (Xv (Xy t9))),Zy (Yy (Xv (Xy t9))),Zy (Zm (Xv (Xy t9))),Xx 8 (Ww Zq (Wb (Xy t9))),Zz .i64 (Kerb.Client.wait t9),Zy (Yz (Xp t9)),Zy (Yy (Xp t9)),Zy (Zm (Xp t9)),Zz .u64 (Kerb.Client.session t9),Zz .i64 (Kerb.Client.time t9),Zz .i64 (Kerb.Client.life t9),Zz .i64 (Kerb.Client.checksum t9),Zz .i64 (Kerb.Client.tick t9)],Zk (Kerb.Sent.msg t11),Yp [Zy (Yz (Yf t10)),Zy (Yy (Yf t10)),Zy (Zm (Yf t10)),Zz .u64 (Uz t10),Zz .i64 (Kerb.Cred.life t10),Zz .i64 (Kerb.Cred.kvno t10),Zz .i64 (Ud t10),Zk (Up t10)],Zk (Kerb.Sent.auth t11),Zz .i64 (Kerb.Sent.err t11)],[]))) (kT fun vs=>onCons vs fun x r=>Wx x fun cs=>cStr cs fun b_3 r_1=>cStr r_1 fun b_4 r_2=>cStr r_2 fun b_5 r_3=>cInt .i64 r_3 fun n r_4=>cInt .i64 r_4 fun n r_5=>cBool r_5 fun b_6 r_6=>cStr r_6 fun b_7 r_7=>cStr r_7 fun b_8 r_8=>cStr r_8 fun b_9 r_9=>cSl 8 r_9 fun b_10 r_10=>cInt .i64 r_10 fun n r_11=>cStr r_11 fun b_11 r_12=>cStr r_12 fun b_12 r_13=>cStr r_13 fun b_13 r_14=>cInt .u64 r_14 fun n r_15=>cInt .i64 r_15 fun n r_16=>cInt .i64 r_16 fun n r_17=>cInt .i64 r_17 fun n r_18=>cInt .i64 r_18 fun n r_19=>onNil r_19 (cBs r fun b_14 r=>onCons r fun x r=>Wx x fun cs=>cStr cs fun b_15 r_20=>cStr r_20 fun b_16 r_21=>cStr r_21 fun b_17 r_22=>cInt .u64 r_22 fun n r_23=>cInt .i64 r_23 fun n_1 r_24=>cInt .i64 r_24 fun n_2 r_25=>cInt .i64 r_25 fun n_3 r_26=>cBs r_26 fun b_18 r_27=>onNil r_27 (cBs r fun b_19 r=>cInt .i64 r fun n_4 r=>onNil r (sel (!n_4==0) (sel ((↑(Zx b_14):Int)==0) (some (Zj ((↑(Zx b_19):Int)==0),[])) (some (Zj false,[]))) (Zw (chk (decide (Zx b_14≤140737488355328)) (some (Zb [Yp [Zj (Uj (Yu (Wg b_14))),Zj (Uy (Yu (Wg b_14))),Zz .i64 (Um (Yu (Wg b_14))),Zy (Ug (Yu (Wg b_14))),Zk (Uq (Yu (Wg b_14))),Zk (Uh (Yu (Wg b_14)))],Zz .i64 (Vb (Wg b_14))],[]))) (kT fun vs=>onCons vs fun x r=>Wx x fun cs=>cBool cs fun b_20 r_28=>cBool r_28 fun b_21 r_29=>cInt .i64 r_29 fun n_5 r_30=>cStr r_30 fun b_22 r_31=>cBs r_31 fun b_23 r_32=>cBs r_32 fun b_24 r_33=>onNil r_33 (cInt .i64 r fun n_6 r=>onNil r (Zw (chk (decide (Zx b_24≤140737488355328)) (some (Zb [Yp [Zy (Yz (Wn (Yu (Wf b_24 b_20 n)))),Zy (Yy (Wn (Yu (Wf b_24 b_20 n)))),Zy (Zm (Wn (Yu (Wf b_24 b_20 n)))),Zz .i64 (Kerb.Auth.checksum (Yu (Wf b_24 b_20 n))),Zz .i64 (Kerb.Auth.tick (Yu (Wf b_24 b_20 n))),Zz .i64 (Kerb.Auth.time (Yu (Wf b_24 b_20 n)))],Zz .i64 (Vb (Wf b_24 b_20 n))],[]))) (kT fun vs=>onCons vs fun x r=>Wx x fun cs=>cStr cs fun b_25 r_34=>cStr r_34 fun b_26 r_35=>cStr r_35 fun b_27 r_36=>cInt .i64 r_36 fun n r_37=>cInt .i64 r_37 fun n_7 r_38=>cInt .i64 r_38 fun n_8 r_39=>onNil r_39 (cInt .i64 r fun n_9 r=>onNil r (sel (n_6==0) (sel (n_9==0) (sel (b_21==mu) (sel (b_22==b_2) (sel (n_5==n_2) (sel (b_23==b_18) (sel (b_24==b_19) (sel (b_15==b&&(b_16==b_1&&b_17==b_2)) (some (Zj (b_25==t7&&(b_26==t6&&(b_27==t5&&(n==Zn .i64 sum&&(n_7==t1&&n_8==t2))))),[])) (some (Zj false,[]))) (some (Zj false,[]))) (some (Zj false,[]))) (some (Zj false,[]))) (some (Zj false,[]))) (some (Zj false,[]))) (some (Zj false,[]))) (some (Zj false,[]))))))))))))))):Option (AV×Blocks))) (by kernel_rfl) ?_
  delta kT kA
  try dsimp only [cStr,cBs,cBool,cU8,cInt,cSl,l63]
  simp only [Yg,decide_eq_true_eq] at hpre
  obtain ⟨⟨⟨s0,s1⟩,u0⟩,u1⟩:=hpre
  have bw:=Kerb.u8i_bd who
  have bt:=Kerb.u8i_bd tk_
  have z1:(decide ((0:Int)≤Xk who)&&decide (Xk who≤4611686018427387904))=true:=by simp;omega
  have z2:Zn .i64 sum=sum:=wrap_i64 (by omega) (by omega)
  have z3:Zn .i64 small=small:=wrap_i64 (by omega) (by omega)
  have z4:Zn .i64 (Int.tdiv small 2)=small / 2:=by rw [Int.tdiv_eq_ediv_of_nonneg s0];exact wrap_i64 (by omega) (by omega)
  have z5:Int.tmod (Xk tk_) 200=Xk tk_ % 200:=Int.tmod_eq_emod_of_nonneg bt.1
  obtain ⟨W,hW⟩:∃ W,Kerb.service (Xk who)=W:=⟨_,rfl⟩
  obtain ⟨l5,l6,l7⟩:=hW ▸ Kerb.service_dec (Xk who)
  have hWe:Zu W.name W.inst W.realm=W:=rfl
  obtain ⟨C,hC⟩:∃ C,Yw pw ps pl pc=C:=⟨_,rfl⟩
  have hg:=hC ▸ Kerb.person_good pw ps pl pc
  have g1:=Kerb.good_all hg
  have g2:=Kerb.good_lenT hg
  have hCe:Zh ⟨C.me.name,C.me.inst,C.me.realm⟩ C.address C.skew C.little ⟨⟨C.cache.owner.name,C.cache.owner.inst,C.cache.owner.realm⟩,C.cache.creds⟩ C.wait ⟨C.wanted.name,C.wanted.inst,C.wanted.realm⟩ C.session C.time C.life C.checksum C.tick=C:=rfl
  have hmk:=fun h=>Kerb.makes (c:=C) (s:=W) (m:=mu) (sum:=sum) (now:=small / 2) (tick:=Xk tk_ % 200) hg h
  have hno:=fun h=>Kerb.makes_no (c:=C) (s:=W) (m:=mu) (sum:=sum) (now:=small / 2) (tick:=Xk tk_ % 200) h
  obtain ⟨O,hO⟩:∃ O,Kerb.present C W mu sum (small / 2) (Xk tk_ % 200)=O:=⟨_,rfl⟩
  rw [hO] at hmk hno
  obtain ⟨⟨q1,q2,q3⟩,⟨q4,q5,q6⟩,q7,q8⟩:=hg
  simp (config:={maxSteps:=10000000}) only [Kerb.wrap_u8i,z1,z2,z3,z4,z5,hW,hWe,hC,hCe,hO,l5,l6,l7,q1,q2,q3,q4,q5,q6,g1,g2,Vw,decide_true,Yh,↓sInt,↓sU8,↓sBool,↓sStr,↓sBs,↓sSl,↓sAgg,↓sTup,↓sCons,↓sNil,↓sNilB,↓sChk,↓sChkBind,↓sSome,↓sOwnL,↓sConsB,↓sOwnB]
  by_cases he:O.err=0
  case neg =>
   obtain ⟨h1,h2⟩:=hno he
   rw [sel_pos (by simpa using he),h1,h2]
   rfl
  rw [sel_neg (by simpa using he)]
  obtain ⟨R,M⟩:=hmk he
  have ho:=M.opens
  obtain ⟨n1,n2⟩:=M.len
  have e1:=M.mtl
  have e2:=M.realm
  have e3:=M.kvno
  have e4:=M.tkt
  have e5:=M.auth
  have e6:=M.service
  rw [e5] at ho n2
  rw [e6.symm] at hO hWe
  simp (config:={maxSteps:=10000000}) only [M.dec,e1,e2,e3,e4,e5,e6,ho,n1,n2,BEq.rfl,↓sTrue,decide_true,Yh,↓sInt,↓sU8,↓sBool,↓sStr,↓sBs,↓sSl,↓sAgg,↓sTup,↓sCons,↓sNil,↓sNilB,↓sChk,↓sChkBind,↓sSome,↓sOwnL,↓sConsB,↓sOwnB]
 ·cases h
end Go.Proofs.YtmipfdjcnkljnaaGreat
