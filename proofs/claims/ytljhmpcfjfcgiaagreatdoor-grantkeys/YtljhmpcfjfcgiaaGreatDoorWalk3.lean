/- What the functions of this seat compute. -/
import Derived.Test.YtljhmpcfjfcgiaaGreatDoorTab
import Derived.Test.YtljhmpcfjfcgiaaGreatDoorKerbPlain
import Derived.Test.YtljhmpcfjfcgiaaGreatDoorAbsStep
import Derived.Test.YtljhmpcfjfcgiaaGreatDoorKerbCli3
import Derived.Test.YtljhmpcfjfcgiaaGreatDoorKerbCli4
import Derived.Test.YtljhmpcfjfcgiaaGreatDoorKerbCli5
import Derived.Test.YtljhmpcfjfcgiaaGreatDoorKerbSrvL
import Derived.Test.YtljhmpcfjfcgiaaGreatDoorKerbKac2
import Derived.Test.YtljhmpcfjfcgiaaGreatDoorKerbKac4
import Derived.Test.YtljhmpcfjfcgiaaGreatDoorKerbSrvB
import Derived.Test.YtljhmpcfjfcgiaaGreatDoorKerbVerL
import Derived.Test.YtljhmpcfjfcgiaaGreatDoorKerbVerL
import Derived.Test.YtljhmpcfjfcgiaaGreatDoorKerbAuthL
open Go.Abs.AV renaming int→Zz,str→Zw,bool→Zk,u8→Zp,bs→Zd,tup→Zm,sl→Yu,ownB→Yj,agg→Xv,onInt→Wu,onBool→Wf,onAgg→Vx,undef→Vg
open List renaming length→Zy,append→Yv,length_map→Yg,map→Xu,getD→Xj,take→Wx,drop→Ww,all→Uw
open Option renaming bind→Zx
open Kerb renaming putPrin_len→Zv,putN_len→Zu,keyBytes_len→Zj,within→Zg,u8i→Yx,putN→Yw,putText→Yp,validInst→Xq,dataEnt→Xk,validName→Xb,text→Xn,putText_len→Xm,u8i_bd→Xh,spoil→Wz,wrap_u8i→Wv,readAp→Wq,user→Wp,validRealm→Wb,header→Vw,readBox→Vv,putPrin→Vu,makeBox→Vq,findCross→Vj,encodeTgs→Vk,serviceEnt→Vm,encodePart→Vh,dataEntPos→Uz,dataDbL→Uy,valid_len→Uv,headIs→Uf,encodeTicket→Ug,marksErr→Un,encodeAp→Um
open Go.IntKind renaming i64→Zq,wrap→Zf,u16→Xw,u64→Uu,u32→Uq
open Int renaming toNat→Zb,tmod→Yf,tmod_eq_emod_of_nonneg→Yb,toNat_natCast→Xp,tdiv→Vf,tdiv_eq_ediv_of_nonneg→Uk
open Kerb.Prin renaming mk→Zn,valid→Yy,realm→Wd,name→Wn,inst→Wm
open Bool renaming not_true→Zh,and_eq_true→Yz,and_self→Yd,not_false→Uj
open UInt8 renaming toNat→Yq,ofNat→Vy
open Prod renaming snd→Yk,fst→Yn
open Kerb.Case renaming mk→Ym,me→Xd
open Kerb.Entry renaming av→Yh
open Kerb.Mark renaming av→Xz,err→Vp
open Kerb.Enc renaming val→Xy,err→Xx
open Kerb.ApRequest renaming mk→Xf
open Sum renaming inr→Xg
open Kerb.Client renaming av→Wy
open Kerb.Cache renaming av→Wj
open Kerb.SKey renaming err→Wk,av→Ub
open Kerb.GotAp renaming val→Wg
open Kerb.Cred renaming av→Wh
open Kerb.Auth renaming mk→Vz
open Kerb.TgsRequest renaming mk→Vd
open Kerb.Ticket renaming mk→Vb
open Kerb.ReplyPart renaming mk→Vn
open Nat renaming beq_refl→Ux
open Kerb.RCache renaming err→Up
open Go.Abs.Ex renaming ret→Ud
namespace Go.Proofs.YtljhmpcfjfcgiaaGreatDoor
open Go Go.Abs Go.Proofs
set_option linter.unusedVariables false
set_option linter.unusedSimpArgs false
set_option maxRecDepth 100000
theorem w6:Walked Tryz.prog G 6 5 sp6:=by
 refine ⟨Tryz.f6,Tryz.func6,by decide +kernel,rfl,fun xs bl r h=> ?_⟩
 unfold sp6 at h
 split at h
 ·rename_i l n
  obtain ⟨hpre,h2⟩:=chk_inv h;cases h2
  refine Eq.trans (b:=(Zx (chk (decide (0≤n)) (some (Zw (Kerb.realm n),[]))) (kS fun b=>Zx (loopM (fun (st:List AV)=>cStr st fun b r=>cSl 9 r fun b_1 r=>cBs r fun b_2 r=>cInt .i64 r fun n r=>cStr r fun b_3 r=>cSl 9 r fun b_4 r=>onNil r (Zx (sel (decide (n<(↑(Zy b_2):Int))) (some [Zw b,Yu 9 b_1,Zd b_2,Zz .i64 n,Zw b_3,Yu 9 b_4,Zk (decide ((↑(Zy b_4):Int)<60))]) (some [Zw b,Yu 9 b_1,Zd b_2,Zz .i64 n,Zw b_3,Yu 9 b_4,Zk false])) fun l=>cStr l fun b r=>cSl 9 r fun b_5 r=>cBs r fun b_6 r=>cInt .i64 r fun n r=>cStr r fun b_7 r=>cSl 9 r fun b_8 r=>cBool r fun b_9 r=>onNil r (sel b_9 (Zx (chk (decide (Zy b_6≤100000)&&decide (0≤n)) (some (Xv [Zw (Kerb.Entry.name (Xk b_6 n)),Zw (Kerb.Entry.inst (Xk b_6 n)),Zz .u64 (Kerb.Entry.key (Xk b_6 n)),Zz .i64 (Kerb.Entry.kvno (Xk b_6 n)),Zz .i64 (Kerb.Entry.expires (Xk b_6 n)),Zz .i64 (Kerb.Entry.maxLife (Xk b_6 n)),Zz .i64 (Kerb.Entry.attr (Xk b_6 n)),Zz .i64 (Kerb.Entry.fails (Xk b_6 n)),Zz .i64 (Kerb.Entry.till (Xk b_6 n))],[[Zd b_6,Zz .i64 (Uz b_6 n)]]))) fun (r:AV×Blocks)=>onConsB (Yk r) fun (x:List AV) (r_1:List (List AV))=>cBs x fun b_10 r_2=>cInt .i64 r_2 fun n r_3=>onNil r_3 (onNilB r_1 (Vx (Yn r) fun cs=>cStr cs fun b_11 r=>cStr r fun b_12 r=>cInt .u64 r fun n_1 r=>cInt .i64 r fun n_2 r=>cInt .i64 r fun n_3 r=>cInt .i64 r fun n_4 r=>cInt .i64 r fun n_5 r=>cInt .i64 r fun n_6 r=>cInt .i64 r fun n_7 r=>onNil r (Zx (loopM (fun (st:List AV)=>cStr st fun b r=>cSl 9 r fun b_13 r=>cBs r fun b_14 r=>cInt .i64 r fun n r=>cStr r fun b_15 r=>cSl 9 r fun b_16 r=>cStr r fun b_17 r=>cStr r fun b_18 r=>cInt .u64 r fun n_8 r=>cInt .i64 r fun n_9 r=>cInt .i64 r fun n_10 r=>cInt .i64 r fun n_11 r=>cInt .i64 r fun n_12 r=>cInt .i64 r fun n_13 r=>cInt .i64 r fun n_14 r=>cInt .i64 r fun n_15 r=>let t0:Option (List AV):=some [Zw b,Yu 9 b_13,Zd b_14,Zz .i64 n,Zw b_15,Yu 9 b_16,Zw b_17,Zw b_18,Zz .u64 n_8,Zz .i64 n_9,Zz .i64 n_10,Zz .i64 n_11,Zz .i64 n_12,Zz .i64 n_13,Zz .i64 n_14,Zz .i64 n_15,Zk false];let t1:Bool:=decide (0≤n_15)&&decide (n_15<(↑(Zy b_16):Int))&&true;onNil r (Zx (sel (decide (n_15<(↑(Zy b_16):Int))) (chk t1 (Vx (Xj b_16 (Zb n_15) Vg) fun cs=>cStr cs fun b_19 r=>cStr r fun b_20 r=>cInt .u64 r fun n_16 r=>cInt .i64 r fun n_17 r=>cInt .i64 r fun n_18 r=>cInt .i64 r fun n_19 r=>cInt .i64 r fun n_20 r=>cInt .i64 r fun n_21 r=>cInt .i64 r fun n_22 r=>onNil r (sel (Op.bytesLess b_19 b_17) (some [Zw b,Yu 9 b_13,Zd b_14,Zz .i64 n,Zw b_15,Yu 9 b_16,Zw b_17,Zw b_18,Zz .u64 n_8,Zz .i64 n_9,Zz .i64 n_10,Zz .i64 n_11,Zz .i64 n_12,Zz .i64 n_13,Zz .i64 n_14,Zz .i64 n_15,Zk true]) (chk t1 (Vx (Xj b_16 (Zb n_15) Vg) fun cs=>cStr cs fun b_21 r=>cStr r fun b_22 r=>cInt .u64 r fun n_23 r=>cInt .i64 r fun n_24 r=>cInt .i64 r fun n_25 r=>cInt .i64 r fun n_26 r=>cInt .i64 r fun n_27 r=>cInt .i64 r fun n_28 r=>cInt .i64 r fun n_29 r=>onNil r (sel (b_21==b_17) (chk t1 (Vx (Xj b_16 (Zb n_15) Vg) fun cs=>cStr cs fun b_23 r=>cStr r fun b_24 r=>cInt .u64 r fun n_30 r=>cInt .i64 r fun n_31 r=>cInt .i64 r fun n_32 r=>cInt .i64 r fun n_33 r=>cInt .i64 r fun n_34 r=>cInt .i64 r fun n_35 r=>cInt .i64 r fun n_36 r=>onNil r (some [Zw b,Yu 9 b_13,Zd b_14,Zz .i64 n,Zw b_15,Yu 9 b_16,Zw b_17,Zw b_18,Zz .u64 n_8,Zz .i64 n_9,Zz .i64 n_10,Zz .i64 n_11,Zz .i64 n_12,Zz .i64 n_13,Zz .i64 n_14,Zz .i64 n_15,Zk (Op.bytesLess b_24 b_18||b_24==b_18)]))) t0)))))) t0) fun l=>cStr l fun b r=>cSl 9 r fun b_19 r=>cBs r fun b_20 r=>cInt .i64 r fun n r=>cStr r fun b_21 r=>cSl 9 r fun b_22 r=>cStr r fun b_23 r=>cStr r fun b_24 r=>cInt .u64 r fun n_16 r=>cInt .i64 r fun n_17 r=>cInt .i64 r fun n_18 r=>cInt .i64 r fun n_19 r=>cInt .i64 r fun n_20 r=>cInt .i64 r fun n_21 r=>cInt .i64 r fun n_22 r=>cInt .i64 r fun n_23 r=>cBool r fun b_25 r=>onNil r (sel b_25 (some (Sum.inl [Zw b,Yu 9 b_19,Zd b_20,Zz .i64 n,Zw b_21,Yu 9 b_22,Zw b_23,Zw b_24,Zz .u64 n_16,Zz .i64 n_17,Zz .i64 n_18,Zz .i64 n_19,Zz .i64 n_20,Zz .i64 n_21,Zz .i64 n_22,Zz .i64 (Zf .i64 (n_23+1))])) (some (Xg (Ex.exit 2,[Zw b,Yu 9 b_19,Zd b_20,Zz .i64 n,Zw b_21,Yu 9 b_22,Zw b_23,Zw b_24,Zz .u64 n_16,Zz .i64 n_17,Zz .i64 n_18,Zz .i64 n_19,Zz .i64 n_20,Zz .i64 n_21,Zz .i64 n_22,Zz .i64 n_23])))))) [Zw b,Yu 9 b_5,Zd b_10,Zz .i64 n,Zw b_7,Yu 9 b_8,Zw b_11,Zw b_12,Zz .u64 n_1,Zz .i64 n_2,Zz .i64 n_3,Zz .i64 n_4,Zz .i64 n_5,Zz .i64 n_6,Zz .i64 n_7,Zz .i64 0]) fun (r:Ex×List AV)=>cStr (Yk r) fun b r_4=>cSl 9 r_4 fun b_13 r_5=>cBs r_5 fun b_14 r_6=>cInt .i64 r_6 fun n r_7=>cStr r_7 fun b_15 r_8=>cSl 9 r_8 fun b_16 r_9=>cStr r_9 fun b_17 r_10=>cStr r_10 fun b_18 r_11=>cInt .u64 r_11 fun n_8 r_12=>cInt .i64 r_12 fun n_9 r_13=>cInt .i64 r_13 fun n_10 r_14=>cInt .i64 r_14 fun n_11 r_15=>cInt .i64 r_15 fun n_12 r_16=>cInt .i64 r_16 fun n_13 r_17=>cInt .i64 r_17 fun n_14 r_18=>let t2:List AV:=[Xv [Zw b_17,Zw b_18,Zz .u64 n_8,Zz .i64 n_9,Zz .i64 n_10,Zz .i64 n_11,Zz .i64 n_12,Zz .i64 n_13,Zz .i64 n_14]];cInt .i64 r_18 fun n_15 r_19=>onNil r_19 (exK r.1 (some (Xg (Ud,[Zw b,Yu 9 b_13,Zd b_14,Zz .i64 n,Zw b_15,Yu 9 b_16]))) fun (j:Nat)=>sel (Nat.beq j 2) (chk (decide ((↑(0:Nat):Int)≤n_15)&&decide (n_15≤(↑(Zy b_16):Int))) (chk (room (Zy (Ww (Zb (↑(0:Nat):Int)) (Wx (Zb n_15) b_16))) (nat_lit 88)) (chk (room (Zy (Ww (Zb (↑(0:Nat):Int)) (Wx (Zb n_15) b_16))+Zy t2) (nat_lit 88)) (chk (decide (0≤n_15)&&decide (n_15≤(↑(Zy b_16):Int))&&decide ((↑(Zy b_16):Int)≤(↑(Zy b_16):Int))) (chk (room (Zy (Ww (Zb (↑(0:Nat):Int)) (Wx (Zb n_15) b_16)++t2)+Zy (Ww (Zb n_15) (Wx (Zb (↑(Zy b_16):Int)) b_16))) (nat_lit 88)) (some (Sum.inl [Zw b,Yu 9 b_13,Zd b_14,Zz .i64 n,Zw b_15,Yu 9 (Ww (Zb (↑(0:Nat):Int)) (Wx (Zb n_15) b_16)++t2++Ww (Zb n_15) (Wx (Zb (↑(Zy b_16):Int)) b_16))]))))))) none))))) (some (Xg (Ex.exit 0,[Zw b,Yu 9 b_5,Zd b_6,Zz .i64 n,Zw b_7,Yu 9 b_8])))))) [Zw [],Yu 9 [],Zd l,Zz .i64 0,Zw b,Yu 9 []]) fun (r:Ex×List AV)=>cStr (Yk r) fun b r_1=>cSl 9 r_1 fun b_1 r_2=>cBs r_2 fun b_2 r_3=>cInt .i64 r_3 fun n r_4=>cStr r_4 fun b_3 r_5=>cSl 9 r_5 fun b_4 r_6=>onNil r_6 (exK r.1 (some (Xv [Zw b,Yu 9 b_1],[])) fun (j:Nat)=>sel (Nat.beq j 0) (some (Xv [Zw b_3,Yu 9 b_4],[])) none)):Option (AV×Blocks))) (by kernel_rfl) ?_
  delta kS
  try dsimp only [cStr,cBs,cBool,cU8,cInt,cSl,l63]
  simp only [Yz,decide_eq_true_eq] at hpre
  obtain ⟨hl,hn0⟩:=hpre
  have c:decide (l.length≤100000)=true:=by simpa using hl
  rw [chk_of (by simp;omega)]
  simp only [↓A0,A0]
  refine loop_rounds (fun s:Nat×Int×List Kerb.Entry=>[Zw [],Yu 9 [],Zd l,Zz Zq s.2.1,Zw (Kerb.realm n),Yu 9 (s.2.2.map Yh)])
   (fun s=>0≤s.2.1∧(l.length:Int)-s.2.1<s.1∧s.2.2.length≤60∧Uy l s.1 s.2.1 s.2.2=Uy l (l.length+1) 0 []) (fun s=>s.1)
   (fun r=>∃ q:Int,r=(.exit 0,[Zw [],Yu 9 [],Zd l,Zz Zq q,Zw (Kerb.realm n),Yu 9 ((Uy l (l.length+1) 0 []).map Yh)])) (l.length+1,0,[]) ⟨by simp,by simp only;omega,by simp,rfl⟩ rfl ?_ ?_
  ·rintro ⟨f,q,es⟩ ⟨hq,hf,hc,he⟩
   simp only at hq hf hc he
   have cq:decide (0≤q)=true:=by simpa using hq
   simp only [c,cq,Yg,Yd,↓A0,A0]
   by_cases hlt:q<l.length
   case neg =>
    rw [sel_neg (by simpa using hlt)]
    refine ⟨_,rfl,q,?_⟩
    rw [← he]
    cases f with
    | zero=>rfl
    | succ f=>rw [Uy,if_neg (by simp [hlt])]
   rw [sel_pos (by simpa using hlt)]
   by_cases h60:es.length<60
   case neg =>
    rw [sel_neg (by simp;omega)]
    refine ⟨_,rfl,q,?_⟩
    rw [← he]
    cases f with
    | zero=>rfl
    | succ f=>rw [Uy,if_neg (by simp [h60])]
   rw [sel_pos (by simp;omega)]
   cases f with
   | zero=>simp at hf;omega
   | succ f =>
    rw [Uy,if_pos ⟨hlt,h60⟩] at he
    have hp1:q<Uz l q:=Kerb.dataEntPos_step hq hlt
    obtain ⟨E,hE⟩:∃ E,Xk l q=E:=⟨_,rfl⟩
    rw [hE] at he ⊢
    have hsp:=Kerb.spot_le es E
    have hil:=Kerb.ins_len es E
    refine loop_ex (Q:=Round _ _ _ _ _) (fun j:Nat=>[Zw [],Yu 9 [],Zd l,Zz Zq (Uz l q),Zw (Kerb.realm n),Yu 9 (es.map Yh),Zw E.name,Zw E.inst,Zz Uu E.key,Zz Zq E.kvno,Zz Zq E.expires,Zz Zq E.maxLife,Zz Zq E.attr,Zz Zq E.fails,Zz Zq E.till,Zz Zq (j:Int)]) (fun j=>j≤Kerb.spotOf es E) (fun j=>es.length-j)
     (fun r=>r=(Ex.exit 2,[Zw [],Yu 9 [],Zd l,Zz Zq (Uz l q),Zw (Kerb.realm n),Yu 9 (es.map Yh),Zw E.name,Zw E.inst,Zz Uu E.key,Zz Zq E.kvno,Zz Zq E.expires,Zz Zq E.maxLife,Zz Zq E.attr,Zz Zq E.fails,Zz Zq E.till,Zz Zq (Kerb.spotOf es E:Int)])) 0 (Nat.zero_le _) rfl ?_ ?_
    ·intro j hj
     simp only [Yg,↓A0,A0]
     rcases Nat.lt_or_ge j es.length with h | h
     ·have hk1:(decide ((0:Int)≤(j:Int))&&decide ((j:Int)<(es.length:Int))&&true)=true:=by simp;omega
      have hg:(Xu Yh es).getD j Vg=(es.getD j Kerb.noEntry).av:=Kerb.getD_ent h
      have hyes:=Kerb.spot_next hj h
      have hno:=Kerb.spot_here hj h
      rw [sel_pos (by simp;omega)]
      simp only [hk1,Xp,hg,Yh,↓A0,A0]
      generalize es.getD j Kerb.noEntry=x at hyes hno ⊢
      unfold Kerb.Entry.leq at hyes hno
      rw [wrap_i64 (by omega) (by omega)]
      cases h1:Op.bytesLess x.name E.name
      ·rw [h1,Bool.false_or] at hyes hno
       rw [sel_false]
       cases h2:x.name==E.name
       ·simp only [sel_false]
        refine ⟨_,rfl,?_⟩
        show _=_
        rw [hno (by rw [h2];rfl)]
       ·rw [h2,Bool.true_and] at hyes hno
        rw [sel_true]
        cases h3:(Op.bytesLess x.inst E.inst||x.inst==E.inst)
        ·rw [sel_false]
         refine ⟨_,rfl,?_⟩
         show _=_
         rw [hno h3]
        ·rw [sel_true]
         exact ⟨_,rfl,j+1,rfl,hyes h3,by dsimp only;omega⟩
      ·rw [h1,Bool.true_or] at hyes
       simp only [sel_true]
       exact ⟨_,rfl,j+1,rfl,hyes rfl,by dsimp only;omega⟩
     ·rw [sel_neg (by simp;omega)]
      try rw [sel_false]
      refine ⟨_,rfl,?_⟩
      show _=_
      rw [show j=Kerb.spotOf es E from by omega]
    ·rintro _ rfl
     simp only [Yg,↓A0,A0]
     rw [sel_pos (Ux _)]
     have r88:∀ {m:Nat},m≤1000→Go.Abs.room m 88=true:=fun h=>Kerb.room_ok2 (by omega)
     rw [chk_of (by simp;omega),chk_of (r88 (by simp;omega)),chk_of (r88 (by simp;omega)),chk_of (by simp;omega),chk_of (r88 (by simp;omega))]
     refine ⟨_,rfl,(f,Uz l q,Kerb.insEnt es E),?_,⟨by simp only;omega,by simp only;push_cast at hf;omega,by simp only;omega,he⟩,by simp⟩
     have hl2:Xu Yh (Kerb.insEnt es E)=(Xu Yh es).take (Kerb.spotOf es E)++[E.av]++(Xu Yh es).drop (Kerb.spotOf es E):=by
      unfold Kerb.insEnt
      simp [List.map_take,List.map_drop]
     dsimp only
     rw [hl2]
     have hz:Zb ((0:Nat):Int)=0:=rfl
     rw [hz,List.drop_zero,Xp,Xp,List.take_of_length_le (l:=Xu Yh es) (i:=es.length) (by simp)]
     rfl
  ·rintro _ ⟨q,rfl⟩
   simp only [↓A0,A0]
   rw [sel_pos (Ux _)]
   rfl
 ·cases h
theorem w16:Walked Tryz.prog G 16 5 sp16:=by
 refine ⟨Tryz.f16,Tryz.func16,by decide +kernel,rfl,fun xs bl r h=> ?_⟩
 unfold sp16 at h
 split at h
 ·rename_i cu co cv cr lt tn mt cad cfr cis ctm ctk clf ccs cky ckv css ctt cau sz sk
  cases h
  refine Eq.trans (b:=(some (Xv [Zw (Wn (Xd (Ym cu co cv cr lt tn mt cad cfr cis ctm ctk clf ccs cky ckv css ctt cau))),Zw (Wm (Xd (Ym cu co cv cr lt tn mt cad cfr cis ctm ctk clf ccs cky ckv css ctt cau))),Zw (Wd (Xd (Ym cu co cv cr lt tn mt cad cfr cis ctm ctk clf ccs cky ckv css ctt cau))),Yu 5 [Xv [Zw (Wn (Xd (Ym cu co cv cr lt tn mt cad cfr cis ctm ctk clf ccs cky ckv css ctt cau))),Zw (Wm (Xd (Ym cu co cv cr lt tn mt cad cfr cis ctm ctk clf ccs cky ckv css ctt cau))),Zw (Wd (Xd (Ym cu co cv cr lt tn mt cad cfr cis ctm ctk clf ccs cky ckv css ctt cau))),Zz .i64 1,Zz .u64 (Kerb.long 1)],Xv [Zw (Wn (Xd (Ym cu co cv cr lt tn mt cad cfr cis ctm ctk clf ccs cky ckv css ctt cau))),Zw (Wm (Xd (Ym cu co cv cr lt tn mt cad cfr cis ctm ctk clf ccs cky ckv css ctt cau))),Zw (Wd (Xd (Ym cu co cv cr lt tn mt cad cfr cis ctm ctk clf ccs cky ckv css ctt cau))),Zz .i64 2,Zz .u64 (Kerb.long 2)],Xv [Zw (Wn (Wp 0)),Zw (Wm (Wp 0)),Zw (Wd (Wp 0)),Zz .i64 1,Zz .u64 (Kerb.long 9)]],Zz .i64 (Zf .i64 (1+Yf (Zf .i64 (↑(Yq sz):Int)) 40)),Zz .i64 0,Yu 5 [],Zz .i64 (Zf .i64 (Zf .i64 (↑(Yq sk):Int)*4))],[]):Option (AV×Blocks))) (by kernel_rfl) ?_
  have b1:=Xh sz
  have b2:=Xh sk
  have f1:Zf .i64 (1+Yf (Yx sz) 40)=1+Yx sz % 40:=by rw [Yb b1.1];exact wrap_i64 (by omega) (by omega)
  have f2:Zf .i64 (Yx sk*4)=Yx sk*4:=wrap_i64 (by omega) (by omega)
  simp only [Wv,f1,f2]
  rfl
 ·cases h
theorem w76:Walked Tryz.prog G 76 5 sp76:=by
 refine ⟨Tryz.f76,Tryz.func76,by decide +kernel,rfl,fun xs bl r h=> ?_⟩
 unfold sp76 at h
 split at h
 ·rename_i li x y z ad k lf iss sv ins
  obtain ⟨hpre,h2⟩:=chk_inv h;cases h2
  refine Eq.trans (b:=(let t0:Nat:=Zy ([]++Yw 1 1 false)+Zy x+Zy y+Zy z;let t1:Nat:=Zy ([]++Yw 0 1 false)+Zy x+Zy y+Zy z;let t2:Option (AV×Blocks):=chk (decide (0≤k)&&decide (k<18446744073709551616)) (some (Zd (Kerb.keyBytes k),[]));Zx (chk (l63 x&&l63 y&&l63 z&&l63 sv&&l63 ins&&decide (0≤k)&&decide (k<18446744073709551616)) (some (Zz .i64 (Kerb.Ticket.err (Vb li (Zn x y z) ad k lf iss sv ins)),[]))) (kI .i64 fun n=>sel (!n==0) (some (Zm [Zd [],Zz .i64 n],[])) (sel li (Zx (chk (decide (t0≤70368744170000)) (some (Zd (Vu ([]++Yw 1 1 false) (Zn x y z)),[]))) (kB fun b=>Zx (chk (decide (Zy b≤70368744177664)) (some (Yj (b++Yw ad 4 li),[]))) (kO fun l=>Zx t2 (kB fun b=>chk (room (Zy l+Zy b) 1) (Zx (chk (decide (Zy (l++b)≤70368744177664)) (some (Yj (l++b++Yw lf 1 false),[]))) (kO fun l=>Zx (chk (decide (Zy l≤70368744177664)) (some (Yj (l++Yw iss 4 li),[]))) (kO fun l=>Zx (chk (decide (Zy l+Zy sv≤70368744177664)) (some (Zd (Yp l sv),[]))) (kB fun b=>Zx (chk (decide (Zy b+Zy ins≤70368744177664)) (some (Zd (Yp b ins),[]))) (kB fun b=>Zx (chk (decide (Zy b≤70368744177664)) (some (Yj (Kerb.pad b),[]))) (kO fun l=>some (Zm [Zd l,Zz .i64 0],[]))))))))))) (Zx (chk (decide (t1≤70368744170000)) (some (Zd (Vu ([]++Yw 0 1 false) (Zn x y z)),[]))) (kB fun b=>Zx (chk (decide (Zy b≤70368744177664)) (some (Yj (b++Yw ad 4 li),[]))) (kO fun l=>Zx t2 (kB fun b=>chk (room (Zy l+Zy b) 1) (Zx (chk (decide (Zy (l++b)≤70368744177664)) (some (Yj (l++b++Yw lf 1 false),[]))) (kO fun l=>Zx (chk (decide (Zy l≤70368744177664)) (some (Yj (l++Yw iss 4 li),[]))) (kO fun l=>Zx (chk (decide (Zy l+Zy sv≤70368744177664)) (some (Zd (Yp l sv),[]))) (kB fun b=>Zx (chk (decide (Zy b+Zy ins≤70368744177664)) (some (Zd (Yp b ins),[]))) (kB fun b=>Zx (chk (decide (Zy b≤70368744177664)) (some (Yj (Kerb.pad b),[]))) (kO fun l=>some (Zm [Zd l,Zz .i64 0],[]))))))))))))):Option (AV×Blocks))) (by kernel_rfl) ?_
  delta kB kO kI
  try dsimp only [cStr,cBs,cBool,cU8,cInt,cSl,l63]
  simp only [Yz,decide_eq_true_eq] at hpre
  obtain ⟨⟨⟨⟨⟨⟨h1,h2⟩,h3⟩,h4⟩,h5⟩,h6⟩,h7⟩:=hpre
  simp only [h1,h2,h3,h4,h5,h6,h7,decide_true,Yd,↓A0,A0]
  have hb := @Kerb.encTicket_inv ⟨li,⟨x,y,z⟩,ad,k,lf,iss,sv,ins⟩
  unfold Ug at hb ⊢
  dsimp only at hb ⊢
  generalize hE:Kerb.Ticket.err _=e at hb ⊢
  by_cases he:e=0
  case neg=>rw [sel_pos (by simpa using he),if_pos he]
  rw [if_neg (by simpa using he)] at hb
  obtain ⟨v1,v2,v3,_⟩:=hb rfl
  have l1:=Uv v1
  have l2:=(Kerb.name_ok v2).1
  have l3:=(Kerb.inst_ok v3).1
  dsimp only at l1
  rw [sel_neg (by simpa using he),if_neg (by simpa using he)]
  cases li
  ·rw [sel_false,chk_of (by first | (simp [Zv,Zu,Zj];done) | (simp [Zv,Zu,Zj];omega)),chk_of (by first | (simp [Zv,Zu,Zj];done) | (simp [Zv,Zu,Zj];omega)),chk_of (Kerb.room_ok (by first | (simp [Zv,Zu,Zj];done) | (simp [Zv,Zu,Zj];omega))),chk_of (by first | (simp [Zv,Zu,Zj];done) | (simp [Zv,Zu,Zj];omega)),chk_of (by first | (simp [Zv,Zu,Zj];done) | (simp [Zv,Zu,Zj];omega)),chk_of (by first | (simp [Zv,Zu,Zj];done) | (simp [Zv,Zu,Zj];omega)),chk_of (by first | (simp [Yp,Zv,Zu,Zj];done) | (simp [Yp,Zv,Zu,Zj];omega)),chk_of (by first | (simp [Yp,Zv,Zu,Zj];done) | (simp [Yp,Zv,Zu,Zj];omega))]
   simp
  ·rw [sel_true,chk_of (by first | (simp [Zv,Zu,Zj];done) | (simp [Zv,Zu,Zj];omega)),chk_of (by first | (simp [Zv,Zu,Zj];done) | (simp [Zv,Zu,Zj];omega)),chk_of (Kerb.room_ok (by first | (simp [Zv,Zu,Zj];done) | (simp [Zv,Zu,Zj];omega))),chk_of (by first | (simp [Zv,Zu,Zj];done) | (simp [Zv,Zu,Zj];omega)),chk_of (by first | (simp [Zv,Zu,Zj];done) | (simp [Zv,Zu,Zj];omega)),chk_of (by first | (simp [Zv,Zu,Zj];done) | (simp [Zv,Zu,Zj];omega)),chk_of (by first | (simp [Yp,Zv,Zu,Zj];done) | (simp [Yp,Zv,Zu,Zj];omega)),chk_of (by first | (simp [Yp,Zv,Zu,Zj];done) | (simp [Yp,Zv,Zu,Zj];omega))]
   simp
 ·cases h
theorem w78:Walked Tryz.prog G 78 5 sp78:=by
 refine ⟨Tryz.f78,Tryz.func78,by decide +kernel,rfl,fun xs bl r h=> ?_⟩
 unfold sp78 at h
 split at h
 ·rename_i x y z ck tc tm li
  obtain ⟨hpre,h2⟩:=chk_inv h;cases h2
  refine Eq.trans (b:=(let t0:Nat:=Zy ([]++Yw (bif li then 1 else 0) 1 false)+Zy x+Zy y+Zy z;Zx (chk (l63 x&&l63 y&&l63 z) (some (Zz .i64 (Kerb.Auth.check (Vz (Zn x y z) ck tc tm)),[]))) (kI .i64 fun n=>sel (!n==0) (some (Zm [Zd [],Zz .i64 n],[])) (Zx (chk (decide (t0≤70368744170000)) (some (Zd (Vu ([]++Yw (bif li then 1 else 0) 1 false) (Zn x y z)),[]))) (kB fun b=>Zx (chk (decide (Zy b≤70368744177664)) (some (Yj (b++Yw ck 4 li),[]))) (kO fun l=>Zx (chk (decide (Zy l≤70368744177664)) (some (Yj (l++Yw tc 1 false),[]))) (kO fun l=>Zx (chk (decide (Zy l≤70368744177664)) (some (Yj (l++Yw tm 4 li),[]))) (kO fun l=>Zx (chk (decide (Zy l≤70368744177664)) (some (Yj (Kerb.pad l),[]))) (kO fun l=>some (Zm [Zd l,Zz .i64 0],[])))))))):Option (AV×Blocks))) (by kernel_rfl) ?_
  delta kB kO kI
  try dsimp only [cStr,cBs,cBool,cU8,cInt,cSl,l63]
  simp only [A0,Wy,Wj,Wh,hpre]
  unfold Kerb.encodeAuth
  by_cases h:(Vz ⟨x,y,z⟩ ck tc tm).check=0
  case neg =>
   rw [sel_pos (by simpa using h),if_pos h]
  have hv:Yy ⟨x,y,z⟩=true:=by
   unfold Kerb.Auth.check at h
   cases hv:Yy ⟨x,y,z⟩
   ·simp [hv] at h
   ·rfl
  have l1:=Uv hv
  simp only at l1
  rw [sel_neg (by simp [h]),if_neg (by simpa using h)]
  cases li
  ·simp only [A0,Wy,Wj,Wh,List.nil_append,cond_false,cond_true]
   rw [chk_of (by simp [Zu];omega),chk_of (by simp [Zu,Zv];omega),chk_of (by simp [Zu,Zv];omega),chk_of (by simp [Zu,Zv];omega),chk_of (by simp [Zu,Zv];omega)]
  ·simp only [A0,Wy,Wj,Wh,List.nil_append,cond_false,cond_true]
   rw [chk_of (by simp [Zu];omega),chk_of (by simp [Zu,Zv];omega),chk_of (by simp [Zu,Zv];omega),chk_of (by simp [Zu,Zv];omega),chk_of (by simp [Zu,Zv];omega)]
 ·cases h
theorem w90:Walked Tryz.prog G 90 5 sp90:=by
 refine ⟨Tryz.f90,Tryz.func90,by decide +kernel,rfl,fun xs bl r h=> ?_⟩
 unfold sp90 at h
 split at h
 ·rename_i s
  obtain ⟨hpre,h2⟩:=chk_inv h;cases h2
  refine Eq.trans (b:=(sel (!s==[]) (sel (decide ((↑(Zy s):Int)≤39)) (Zx (chk (decide (Zy s≤9223372036854775807)) (some (Zk (Kerb.printable s [(46:UInt8),(64:UInt8)]),[]))) fun (r:AV×Blocks)=>onNilB (Yk r) (Wf (Yn r) fun b=>some (Zk b,[]))) (some (Zk false,[]))) (some (Zk false,[])):Option (AV×Blocks))) (by kernel_rfl) ?_
  simp only [A0]
  rw [chk_of hpre,decide_eq_decide.2 (show ((s.length:Int)≤39)↔s.length≤39 from by omega)]
  simp only [Xb]
  cases s with
  | nil=>rfl
  | cons x r=>cases decide ((x::r).length≤39)<;>rfl
 ·cases h
theorem w91:Walked Tryz.prog G 91 5 sp91:=by
 refine ⟨Tryz.f91,Tryz.func91,by decide +kernel,rfl,fun xs bl r h=> ?_⟩
 unfold sp91 at h
 split at h
 ·rename_i s
  obtain ⟨hpre,h2⟩:=chk_inv h;cases h2
  refine Eq.trans (b:=(sel (decide ((↑(Zy s):Int)≤39)) (Zx (chk (decide (Zy s≤9223372036854775807)) (some (Zk (Kerb.printable s [(64:UInt8)]),[]))) fun (r:AV×Blocks)=>onNilB (Yk r) (Wf (Yn r) fun b=>some (Zk b,[]))) (some (Zk false,[])):Option (AV×Blocks))) (by kernel_rfl) ?_
  simp only [A0]
  rw [chk_of hpre,decide_eq_decide.2 (show ((s.length:Int)≤39)↔s.length≤39 from by omega)]
  simp only [Xq]
  cases decide (s.length≤39)<;>rfl
 ·cases h
theorem w113:Walked Tryz.prog G 113 5 sp113:=by
 refine ⟨Tryz.f113,Tryz.func113,by decide +kernel,rfl,fun xs bl r h=> ?_⟩
 unfold sp113 at h
 split at h
 ·rename_i rl els n i now
  obtain ⟨hpre,h2⟩:=chk_inv h;cases h2
  refine Eq.trans (b:=(Zx (chk (Uw els Kerb.isEntry&&decide (Zy els≤1000000)) (some (Zm [Zz .i64 (Yn (Kerb.useEnt (Kerb.Db.mk rl (Xu Kerb.toEntry els)) n i now 2 2 6)),Zz .i64 (Yk (Kerb.useEnt (Kerb.Db.mk rl (Xu Kerb.toEntry els)) n i now 2 2 6))],[]))) fun (r:AV×Blocks)=>onNilB (Yk r) (AV.onTup (Yn r) fun vs=>onCons vs fun x r=>Wu .i64 x fun n=>onCons r fun x r=>Wu .i64 x fun n_1=>onNil r (some (Zm [Zz .i64 n,Zz .i64 n_1],[]))):Option (AV×Blocks))) (by kernel_rfl) ?_
  simp only [hpre,↓A0,A0]
  rfl
 ·cases h
theorem w141:Walked Tryz.prog G 141 5 sp141:=by
 refine ⟨Tryz.f141,Tryz.func141,by decide +kernel,rfl,fun xs bl r h=> ?_⟩
 unfold sp141 at h
 split at h
 ·rename_i b
  obtain ⟨hpre,h2⟩:=chk_inv h;cases h2
  refine Eq.trans (b:=(let t1:Int:=Zf .i64 (↑(BitVec.toNat (BitVec.ofInt (IntKind.bits .i64) (Zf .i64 (Zf .i64 (↑(Yq (Xj b (Zb 10) (0:UInt8))):Int)*2 ^ min (Zb 8) (IntKind.bits .i64))) ||| BitVec.ofInt (IntKind.bits .i64) (Zf .i64 (↑(Yq (Xj b (Zb 11) (0:UInt8))):Int)))):Int);let t2:Option (AV×Blocks):=some (Zm [Xv [Zz .i64 0,Zz .u64 0,Zd []],Zz .i64 0,Zz .i64 100],[]);let t3:Option (AV×Blocks):=some (Zm [Xv [Zz .i64 0,Zz .u64 0,Zd []],Zz .i64 0,Zz .i64 101],[]);let t0:Int:=Zf .i64 (12+t1);sel (decide ((↑(Zy b):Int)<12)) t3 (chk (decide (1<(↑(Zy b):Int))) (chk (decide (10≤(↑(Zy b):Int))) (Zx (chk (decide (Zy (Ww (Zb 2) (Wx (Zb 10) b))≤4611686018427387904)) (some (Zm [Zz .u64 (Yn (Kerb.keyRead (Ww (Zb 2) (Wx (Zb 10) b)))),Zk (Yk (Kerb.keyRead (Ww (Zb 2) (Wx (Zb 10) b))))],[]))) (kT fun vs=>cInt .u64 vs fun n r=>cBool r fun b_1 r=>onNil r (chk (decide (10<(↑(Zy b):Int))) (chk (decide (11<(↑(Zy b):Int))) (chk (decide (0<(↑(Zy b):Int))) (sel (!Xj b (Zb 0) (0:UInt8)==(66:UInt8)) t2 (sel (!Kerb.isKind (Zf .i64 (↑(Yq (Xj b (Zb 1) (0:UInt8))):Int))) t2 (sel (!b_1) t2 (sel (decide (t1>1000)) t2 (sel (decide ((↑(Zy b):Int)<t0)) t3 (chk (decide (12≤t0)&&decide (t0≤t0)&&decide (t0≤(↑(Zy b):Int))) (Zx (chk (decide (Zy (Ww (Zb 12) (Wx (Zb t0) b))≤140737488355328)) (some (Zd (Ww (Zb 12) (Wx (Zb t0) b)),[]))) (kB fun b_2=>some (Zm [Xv [Zz .i64 (Zf .i64 (↑(Yq (Xj b (Zb 1) (0:UInt8))):Int)),Zz .u64 n,Zd b_2],Zz .i64 t0,Zz .i64 0],[])))))))))))))))):Option (AV×Blocks))) (by kernel_rfl) ?_
  delta kT kB
  try dsimp only [cStr,cBs,cBool,cU8,cInt,cSl,l63]
  simp only [decide_eq_true_eq] at hpre
  unfold Vv
  by_cases h0:b.length<12
  ·rw [sel_pos (by simp;omega),if_pos h0];rfl
  rw [sel_neg (by simp;omega),if_neg h0]
  have hc:=Kerb.cut_len b 2 8
  have hs:(b.getD 10 0).toNat*256+(b.getD 11 0).toNat=Kerb.boxSize b:=rfl
  simp only [Kerb.cut_28,Kerb.size_or]
  simp only [show Zb 0=0 from rfl,show Zb 1=1 from rfl,show Zb 10=10 from rfl,show Zb 11=11 from rfl,Kerb.wrap_byte,hs]
  rw [chk_of (by simp;omega),chk_of (by simp;omega),chk_of (by simp;omega)]
  simp only [↓A0]
  rw [chk_of (by simp;omega),chk_of (by simp;omega),chk_of (by simp;omega)]
  by_cases h1:b.getD 0 0=66
  case neg=>rw [sel_pos (by simpa using h1),if_pos (.inl h1)];rfl
  rw [sel_neg (by simpa using h1)]
  cases h2:Kerb.isKind ((b.getD 1 0).toNat:Int)
  ·rw [if_pos (.inr (.inl rfl))];rfl
  rw [Zh,sel_false]
  cases h3:(Kerb.keyRead (Kerb.cut b 2 8)).2
  ·rw [if_pos (.inr (.inr (.inl rfl)))];rfl
  rw [Zh,sel_false]
  by_cases h4:1000<Kerb.boxSize b
  ·rw [sel_pos (by simp;omega),if_pos (.inr (.inr (.inr h4)))];rfl
  rw [sel_neg (by simp;omega),if_neg (by rintro (h | h | h | h)<;>first | exact h h1 | cases h | omega),wrap_i64 (by omega) (by omega)]
  by_cases h5:b.length<12+Kerb.boxSize b
  ·rw [sel_pos (by simp;omega),if_pos h5];rfl
  have hc2:=Kerb.cut_len b 12 (Kerb.boxSize b)
  rw [sel_neg (by simp;omega),if_neg h5,Kerb.cut_12,chk_of (by simp;omega)]
  simp only [↓A0]
  rw [chk_of (by simp;omega)]
  simp
 ·cases h
theorem w43:Walked Tryz.prog G 43 6 sp43:=by
 refine ⟨Tryz.f43,Tryz.func43,by decide +kernel,rfl,fun xs bl r h=> ?_⟩
 unfold sp43 at h
 split at h
 ·rename_i li x y z ad k lf iss sv ins key
  obtain ⟨hpre,h2⟩:=chk_inv h;cases h2
  refine Eq.trans (b:=(Zx (chk (decide (Zy x≤9223372036854775807)&&decide (Zy y≤9223372036854775807)&&decide (Zy z≤9223372036854775807)&&decide (Zy sv≤9223372036854775807)&&decide (Zy ins≤9223372036854775807)&&decide (0≤k)&&decide (k<18446744073709551616)) (some (Zm [Zd (Xy (Ug (Vb li (Zn x y z) ad k lf iss sv ins))),Zz .i64 (Xx (Ug (Vb li (Zn x y z) ad k lf iss sv ins)))],[]))) fun (r:AV×Blocks)=>onNilB (Yk r) (AV.onTup (Yn r) fun vs=>onCons vs fun x r=>AV.onBs x fun b=>onCons r fun x r=>Wu .i64 x fun n=>onNil r (sel (!n==0) (some (Zm [Zd [],Zz .i64 n],[])) (Zx (chk (decide (0≤key)&&decide (key<18446744073709551616)) (some (Zm [Zd (Xy (Vq 1 key b)),Zz .i64 (Xx (Vq 1 key b))],[]))) fun (r:AV×Blocks)=>onNilB (Yk r) (AV.onTup (Yn r) fun vs=>onCons vs fun x r=>AV.onBs x fun b=>onCons r fun x r=>Wu .i64 x fun n=>onNil r (some (Zm [Zd b,Zz .i64 n],[])))))):Option (AV×Blocks))) (by kernel_rfl) ?_
  simp only [Yz,decide_eq_true_eq] at hpre
  obtain ⟨⟨⟨⟨⟨⟨⟨⟨h1,h2⟩,h3⟩,h4⟩,h5⟩,h6⟩,h7⟩,h8⟩,h9⟩:=hpre
  simp only [h1,h2,h3,h4,h5,h6,h7,h8,h9,decide_true,Yd,↓A0,A0]
  unfold Kerb.sealTicket
  generalize Ug _=E
  by_cases he:E.err=0
  ·rw [sel_neg (by simpa using he),if_neg (by simpa using he)]
  ·rw [sel_pos (by simpa using he),if_pos he]
 ·cases h
theorem w44:Walked Tryz.prog G 44 6 sp44:=by
 refine ⟨Tryz.f44,Tryz.func44,by decide +kernel,rfl,fun xs bl r h=> ?_⟩
 unfold sp44 at h
 split at h
 ·rename_i x y z ck tc tm li k
  obtain ⟨hpre,h2⟩:=chk_inv h;cases h2
  refine Eq.trans (b:=(Zx (chk (decide (Zy x≤9223372036854775807)&&decide (Zy y≤9223372036854775807)&&decide (Zy z≤9223372036854775807)) (some (Zm [Zd (Xy (Kerb.encodeAuth (Vz (Zn x y z) ck tc tm) li)),Zz .i64 (Xx (Kerb.encodeAuth (Vz (Zn x y z) ck tc tm) li))],[]))) fun (r:AV×Blocks)=>onNilB (Yk r) (AV.onTup (Yn r) fun vs=>onCons vs fun x r=>AV.onBs x fun b=>onCons r fun x r=>Wu .i64 x fun n=>onNil r (sel (!n==0) (some (Zm [Zd [],Zz .i64 n],[])) (Zx (chk (decide (0≤k)&&decide (k<18446744073709551616)) (some (Zm [Zd (Xy (Vq 2 k b)),Zz .i64 (Xx (Vq 2 k b))],[]))) fun (r:AV×Blocks)=>onNilB (Yk r) (AV.onTup (Yn r) fun vs=>onCons vs fun x r=>AV.onBs x fun b=>onCons r fun x r=>Wu .i64 x fun n=>onNil r (some (Zm [Zd b,Zz .i64 n],[])))))):Option (AV×Blocks))) (by kernel_rfl) ?_
  have hpre':=hpre
  simp only [Yz,decide_eq_true_eq] at hpre
  have c1:(decide (x.length≤9223372036854775807)&&decide (y.length≤9223372036854775807)&&decide (z.length≤9223372036854775807))=true:=by simp;omega
  have c2:(decide (0≤k)&&decide (k<18446744073709551616))=true:=by simp;omega
  simp only [A0,Wy,Wj,Wh,c1,c2]
  unfold Kerb.sealAuth
  by_cases h:(Kerb.encodeAuth (Vz ⟨x,y,z⟩ ck tc tm) li).err=0
  ·rw [sel_neg (by simp [h]),if_neg (by simpa using h)]
  ·rw [sel_pos (by simpa using h),if_pos h]
 ·cases h
theorem w109:Walked Tryz.prog G 109 6 sp109:=by
 refine ⟨Tryz.f109,Tryz.func109,by decide +kernel,rfl,fun xs bl r h=> ?_⟩
 unfold sp109 at h
 split at h
 ·rename_i b kd k
  obtain ⟨hpre,h2⟩:=chk_inv h;cases h2
  refine Eq.trans (b:=(Zx (chk (decide (Zy b≤140737488355328)) (some (Zm [Xv [Zz .i64 (Kerb.Box.kind (Kerb.GotBox.box (Vv b))),Zz .u64 (Kerb.Box.key (Kerb.GotBox.box (Vv b))),Zd (Kerb.Box.body (Kerb.GotBox.box (Vv b)))],Zz .i64 (Kerb.GotBox.n (Vv b)),Zz .i64 (Kerb.GotBox.err (Vv b))],[]))) fun (r:AV×Blocks)=>onNilB (Yk r) (AV.onTup (Yn r) fun vs=>onCons vs fun x r=>Vx x fun cs=>onCons cs fun x r_1=>Wu .i64 x fun n=>onCons r_1 fun x r_2=>Wu .u64 x fun n_1=>onCons r_2 fun x r_3=>AV.onBs x fun b_1=>onNil r_3 (onCons r fun x r=>Wu .i64 x fun n_2=>onCons r fun x r=>Wu .i64 x fun n_3=>onNil r (sel (!n_3==0) (some (Zm [Zd [],Zk false],[])) (sel (!n_2==(↑(Zy b):Int)) (some (Zm [Zd [],Zk false],[])) (sel (!n==kd) (some (Zm [Zd [],Zk false],[])) (sel (!n_1==k) (some (Zm [Zd [],Zk false],[])) (some (Zm [Zd b_1,Zk true],[])))))))):Option (AV×Blocks))) (by kernel_rfl) ?_
  simp only [↓A0,hpre]
  unfold Kerb.openBox
  generalize Vv b=r
  by_cases h1:r.err=0
  case neg=>rw [sel_pos (by simpa using h1),if_pos (.inl h1)]
  rw [sel_neg (by simpa using h1)]
  by_cases h2:r.n=b.length
  case neg=>rw [sel_pos (by simpa using h2),if_pos (.inr (.inl h2))]
  rw [sel_neg (by simpa using h2)]
  by_cases h3:r.box.kind=kd
  case neg=>rw [sel_pos (by simpa using h3),if_pos (.inr (.inr (.inl h3)))]
  rw [sel_neg (by simpa using h3)]
  by_cases h4:r.box.key=k
  case neg=>rw [sel_pos (by simpa using h4),if_pos (.inr (.inr (.inr h4)))]
  rw [sel_neg (by simpa using h4),if_neg (by simp [h1,h2,h3,h4])]
 ·cases h
theorem w111:Walked Tryz.prog G 111 6 sp111:=by
 refine ⟨Tryz.f111,Tryz.func111,by decide +kernel,rfl,fun xs bl r h=> ?_⟩
 unfold sp111 at h
 split at h
 ·rename_i s
  obtain ⟨hpre,h2⟩:=chk_inv h;cases h2
  refine Eq.trans (b:=(sel (!s==[]) (Zx (chk (decide (Zy s≤9223372036854775807)) (some (Zk (Xq s),[]))) fun (r:AV×Blocks)=>onNilB (Yk r) (Wf (Yn r) fun b=>some (Zk b,[]))) (some (Zk false,[])):Option (AV×Blocks))) (by kernel_rfl) ?_
  simp only [A0]
  rw [chk_of hpre]
  simp only [Wb]
  cases s<;>rfl
 ·cases h
set_option maxHeartbeats 4000000 in
theorem w29:Walked Tryz.prog G 29 7 sp29:=by
 refine ⟨Tryz.f29,Tryz.func29,by decide +kernel,rfl,fun xs bl r h=> ?_⟩
 unfold sp29 at h
 split at h
 ·rename_i cu co cv cr lt tn mt cad cfr cis ctm ctk clf ccs cky ckv css ctt cau x y z k v
  obtain ⟨hpre,h2⟩:=chk_inv h;cases h2
  refine Eq.trans (b:=(let t0:Int:=Yf (Zf .i64 (↑(Yq css):Int)) 4;let t1:Int:=Yf (Zf .i64 (↑(Yq cu):Int)) 6;let t2:AV:=Zz .i64 (Zf .i64 (1000+Zf .i64 (Zf .i64 (↑(Yq cis):Int)*8)));Zx (chk (decide (0≤t1)&&decide (t1≤4611686018427387904)) (some (Xv [Zw (Wn (Wp t1)),Zw (Wm (Wp t1)),Zw (Wd (Wp t1))],[]))) (kA fun cs=>onCons cs fun x_1 r=>AV.onStr x_1 fun b=>onCons r fun x_2 r=>AV.onStr x_2 fun b_1=>onCons r fun x_3 r=>AV.onStr x_3 fun b_2=>onNil r (Zx (chk (decide (0≤t0)&&decide (t0≤1000)) (some (Zz .u64 (Kerb.session t0),[]))) (kI .u64 fun n=>Zx (sel (Vy (Zb (Yf (↑(Yq cv):Int) (↑(Yq (7:UInt8)):Int)))==(6:UInt8)) (some [Zz .u64 k,Zz .i64 v,Zp cu,Zp co,Zp cv,Zp cr,Zk lt,Zk tn,Zk mt,Zp cad,Zp cfr,Zp cis,Zp ctm,Zp ctk,Zp clf,Zz .u32 ccs,Zp cky,Zp ckv,Zp css,Zz .u16 ctt,Zz .u16 cau,Zw x,Zw y,Zw z,Zk false,Zk false,Zz .i64 0,Zw [],Zd [],Zd [],Zk tn,Zw b,Zw b_1,Zw b_2,Zz .i64 (Yf (Zf .i64 (↑(Yq cad):Int)) 3),Zz .u64 n,Zz .i64 (Zf .i64 (Vf (Zf .i64 (↑(Yq clf):Int)) 4)),t2,Zw x,Zw [(111:UInt8),(116:UInt8),(104:UInt8),(101:UInt8),(114:UInt8)]]) (some [Zz .u64 k,Zz .i64 v,Zp cu,Zp co,Zp cv,Zp cr,Zk lt,Zk tn,Zk mt,Zp cad,Zp cfr,Zp cis,Zp ctm,Zp ctk,Zp clf,Zz .u32 ccs,Zp cky,Zp ckv,Zp css,Zz .u16 ctt,Zz .u16 cau,Zw x,Zw y,Zw z,Zk false,Zk false,Zz .i64 0,Zw [],Zd [],Zd [],Zk tn,Zw b,Zw b_1,Zw b_2,Zz .i64 (Yf (Zf .i64 (↑(Yq cad):Int)) 3),Zz .u64 n,Zz .i64 (Zf .i64 (Vf (Zf .i64 (↑(Yq clf):Int)) 4)),t2,Zw x,Zw y])) fun l=>cInt .u64 l fun n r=>cInt .i64 r fun n_1 r=>cU8 r fun b r=>cU8 r fun b_3 r=>let t3:Int:=Yf (Zf .i64 (↑(Yq b_3):Int)) 6;cU8 r fun b_4 r=>cU8 r fun b_5 r=>cBool r fun b_6 r=>cBool r fun b_7 r=>cBool r fun b_8 r=>cU8 r fun b_9 r=>cU8 r fun b_10 r=>cU8 r fun b_11 r=>cU8 r fun b_12 r=>let t4:List AV:=[Zz .i64 (Zf .i64 (1000+Zf .i64 (Zf .i64 (↑(Yq b_12):Int)*8)))];cU8 r fun b_13 r=>cU8 r fun b_14 r=>cInt .u32 r fun n_2 r=>let t5:List AV:=Zz .i64 (Zf .i64 n_2)::Zz .i64 (Yf (Zf .i64 (↑(Yq b_13):Int)) 3)::t4;cU8 r fun b_15 r=>cU8 r fun b_16 r=>cU8 r fun b_17 r=>cInt .u16 r fun n_3 r=>cInt .u16 r fun n_4 r=>cStr r fun b_18 r=>cStr r fun b_19 r=>cStr r fun b_20 r=>cBool r fun b_21 r=>cBool r fun b_22 r=>cInt .i64 r fun n_5 r=>cStr r fun b_23 r=>cBs r fun b_24 r=>cBs r fun b_25 r=>cBool r fun b_26 r=>cStr r fun b_27 r=>cStr r fun b_28 r=>cStr r fun b_29 r=>cInt .i64 r fun n_6 r=>cInt .u64 r fun n_7 r=>cInt .i64 r fun n_8 r=>cInt .i64 r fun n_9 r=>cStr r fun b_30 r=>cStr r fun b_31 r=>onNil r (Zx (sel (Vy (Zb (Yf (↑(Yq b_3):Int) (↑(Yq (8:UInt8)):Int)))==(7:UInt8)) (Zx (chk (decide (0≤t3)&&decide (t3≤4611686018427387904)) (some (Xv [Zw (Wn (Wp t3)),Zw (Wm (Wp t3)),Zw (Wd (Wp t3))],[]))) (kA fun cs=>cStr cs fun b_32 r=>cStr r fun b_33 r=>cStr r fun b_34 r=>onNil r (some (Zz .u64 n::Zz .i64 n_1::Zp b::Zp b_3::Zp b_4::Zp b_5::Zk b_6::Zk b_7::Zk b_8::Zp b_9::Zp b_10::Zp b_11::Zp b_12::Zp b_13::Zp b_14::Zz .u32 n_2::Zp b_15::Zp b_16::Zp b_17::Zz .u16 n_3::Zz .u16 n_4::Zw b_18::Zw b_19::Zw b_20::Zk b_21::Zk b_22::Zz .i64 n_5::Zw b_23::Zd b_24::Zd b_25::Zk b_26::Zw b_27::Zw b_28::Zw b_29::Zz .i64 n_6::Zz .u64 n_7::Zz .i64 n_8::Zz .i64 n_9::Zw b_30::Zw b_31::Zw b_32::Zw b_33::Zw b_34::t5)))) (some (Zz .u64 n::Zz .i64 n_1::Zp b::Zp b_3::Zp b_4::Zp b_5::Zk b_6::Zk b_7::Zk b_8::Zp b_9::Zp b_10::Zp b_11::Zp b_12::Zp b_13::Zp b_14::Zz .u32 n_2::Zp b_15::Zp b_16::Zp b_17::Zz .u16 n_3::Zz .u16 n_4::Zw b_18::Zw b_19::Zw b_20::Zk b_21::Zk b_22::Zz .i64 n_5::Zw b_23::Zd b_24::Zd b_25::Zk b_26::Zw b_27::Zw b_28::Zw b_29::Zz .i64 n_6::Zz .u64 n_7::Zz .i64 n_8::Zz .i64 n_9::Zw b_30::Zw b_31::Zw b_27::Zw b_28::Zw b_29::t5))) fun l=>cInt .u64 l fun n r=>cInt .i64 r fun n_10 r=>cU8 r fun b r=>cU8 r fun b_32 r=>cU8 r fun b_33 r=>cU8 r fun b_34 r=>cBool r fun b_35 r=>cBool r fun b_36 r=>cBool r fun b_37 r=>cU8 r fun b_38 r=>cU8 r fun b_39 r=>cU8 r fun b_40 r=>cU8 r fun b_41 r=>cU8 r fun b_42 r=>cU8 r fun b_43 r=>cInt .u32 r fun n_11 r=>cU8 r fun b_44 r=>cU8 r fun b_45 r=>cU8 r fun b_46 r=>cInt .u16 r fun n_12 r=>cInt .u16 r fun n_13 r=>cStr r fun b_47 r=>cStr r fun b_48 r=>cStr r fun b_49 r=>cBool r fun b_50 r=>cBool r fun b_51 r=>cInt .i64 r fun n_14 r=>cStr r fun b_52 r=>cBs r fun b_53 r=>cBs r fun b_54 r=>cBool r fun b_55 r=>cStr r fun b_56 r=>cStr r fun b_57 r=>cStr r fun b_58 r=>cInt .i64 r fun n_15 r=>cInt .u64 r fun n_16 r=>cInt .i64 r fun n_17 r=>cInt .i64 r fun n_18 r=>cStr r fun b_59 r=>cStr r fun b_60 r=>cStr r fun b_61 r=>cStr r fun b_62 r=>cStr r fun b_63 r=>cInt .i64 r fun n_19 r=>cInt .i64 r fun n_20 r=>cInt .i64 r fun n_21 r=>onNil r (Zx (chk (l63 b_56&&l63 b_57&&l63 b_58&&l63 b_59&&l63 b_60&&decide (0≤n_16)&&decide (n_16<18446744073709551616)&&decide (0≤n)&&decide (n<18446744073709551616)) (some (Zm [Zd (Xy (Kerb.sealTicket (Vb b_55 (Zn b_56 b_57 b_58) n_15 n_16 n_17 n_18 b_59 b_60) n)),Zz .i64 (Xx (Kerb.sealTicket (Vb b_55 (Zn b_56 b_57 b_58) n_15 n_16 n_17 n_18 b_59 b_60) n))],[]))) (kT fun vs=>cBs vs fun b_64 r=>cInt .i64 r fun n r=>onNil r (Zx (chk (l63 b_61&&l63 b_62&&l63 b_63&&decide (0≤n_16)&&decide (n_16<18446744073709551616)) (some (Zm [Zd (Xy (Kerb.sealAuth (Vz (Zn b_61 b_62 b_63) n_19 n_20 n_21) b_35 n_16)),Zz .i64 (Xx (Kerb.sealAuth (Vz (Zn b_61 b_62 b_63) n_19 n_20 n_21) b_35 n_16))],[]))) (kT fun vs=>cBs vs fun b_65 r=>cInt .i64 r fun n r=>onNil r (Zx (sel (Yf n_12 16==15) (Zx (chk (decide (Zy b_64≤1000000)&&decide (0≤Zf .u16 (Vf n_12 16))&&decide (Zf .u16 (Vf n_12 16)≤65535)) (some (Zd (Wz b_64 (Zf .u16 (Vf n_12 16))),[]))) (kB fun b_66=>some [Zp b,Zp b_32,Zp b_33,Zp b_34,Zk b_35,Zk b_36,Zk b_37,Zp b_38,Zp b_39,Zp b_40,Zp b_41,Zp b_42,Zp b_43,Zz .u32 n_11,Zp b_44,Zp b_45,Zp b_46,Zz .u16 n_12,Zz .u16 n_13,Zk b_50,Zk b_51,Zz .i64 n_14,Zw b_52,Zd b_53,Zd b_54,Zd b_65,Zk b_35,Zk b_37,Zz .i64 n_10,Zw b_49,Zd b_66,Zd b_65])) (some [Zp b,Zp b_32,Zp b_33,Zp b_34,Zk b_35,Zk b_36,Zk b_37,Zp b_38,Zp b_39,Zp b_40,Zp b_41,Zp b_42,Zp b_43,Zz .u32 n_11,Zp b_44,Zp b_45,Zp b_46,Zz .u16 n_12,Zz .u16 n_13,Zk b_50,Zk b_51,Zz .i64 n_14,Zw b_52,Zd b_53,Zd b_54,Zd b_65,Zk b_35,Zk b_37,Zz .i64 n_10,Zw b_49,Zd b_64,Zd b_65])) fun l=>cU8 l fun b r=>cU8 r fun b_66 r=>cU8 r fun b_67 r=>cU8 r fun b_68 r=>cBool r fun b_69 r=>cBool r fun b_70 r=>cBool r fun b_71 r=>cU8 r fun b_72 r=>cU8 r fun b_73 r=>cU8 r fun b_74 r=>cU8 r fun b_75 r=>cU8 r fun b_76 r=>cU8 r fun b_77 r=>cInt .u32 r fun n r=>cU8 r fun b_78 r=>cU8 r fun b_79 r=>cU8 r fun b_80 r=>cInt .u16 r fun n_22 r=>cInt .u16 r fun n_23 r=>cBool r fun b_81 r=>cBool r fun b_82 r=>cInt .i64 r fun n_24 r=>cStr r fun b_83 r=>cBs r fun b_84 r=>cBs r fun b_85 r=>cBs r fun b_86 r=>cBool r fun b_87 r=>cBool r fun b_88 r=>cInt .i64 r fun n_25 r=>cStr r fun b_89 r=>cBs r fun b_90 r=>cBs r fun b_91 r=>onNil r (Zx (sel (Yf n_23 16==15) (Zx (chk (decide (Zy b_86≤1000000)&&decide (0≤Zf .u16 (Vf n_23 16))&&decide (Zf .u16 (Vf n_23 16)≤65535)) (some (Zd (Wz b_86 (Zf .u16 (Vf n_23 16))),[]))) (kB fun b_92=>some [Zp b,Zp b_66,Zp b_67,Zp b_68,Zk b_69,Zk b_70,Zk b_71,Zp b_72,Zp b_73,Zp b_74,Zp b_75,Zp b_76,Zp b_77,Zz .u32 n,Zp b_78,Zp b_79,Zp b_80,Zz .u16 n_22,Zz .u16 n_23,Zk b_81,Zk b_82,Zz .i64 n_24,Zw b_83,Zd b_84,Zd b_85,Zk b_87,Zk b_88,Zz .i64 n_25,Zw b_89,Zd b_90,Zd b_92])) (some [Zp b,Zp b_66,Zp b_67,Zp b_68,Zk b_69,Zk b_70,Zk b_71,Zp b_72,Zp b_73,Zp b_74,Zp b_75,Zp b_76,Zp b_77,Zz .u32 n,Zp b_78,Zp b_79,Zp b_80,Zz .u16 n_22,Zz .u16 n_23,Zk b_81,Zk b_82,Zz .i64 n_24,Zw b_83,Zd b_84,Zd b_85,Zk b_87,Zk b_88,Zz .i64 n_25,Zw b_89,Zd b_90,Zd b_91])) fun l=>cU8 l fun b r=>cU8 r fun b_92 r=>cU8 r fun b_93 r=>cU8 r fun b_94 r=>cBool r fun b_95 r=>cBool r fun b_96 r=>cBool r fun b_97 r=>cU8 r fun b_98 r=>cU8 r fun b_99 r=>cU8 r fun b_100 r=>cU8 r fun b_101 r=>cU8 r fun b_102 r=>cU8 r fun b_103 r=>cInt .u32 r fun n r=>cU8 r fun b_104 r=>cU8 r fun b_105 r=>cU8 r fun b_106 r=>cInt .u16 r fun n_26 r=>cInt .u16 r fun n_27 r=>cBool r fun b_107 r=>cBool r fun b_108 r=>cInt .i64 r fun n_28 r=>cStr r fun b_109 r=>cBs r fun b_110 r=>cBs r fun b_111 r=>cBool r fun b_112 r=>cBool r fun b_113 r=>cInt .i64 r fun n_29 r=>cStr r fun b_114 r=>cBs r fun b_115 r=>cBs r fun b_116 r=>let t6:List AV:=[Zk b_113,Zz .i64 n_29,Zw b_114,Zd b_115,Zd b_116];onNil r (Zx (sel (Yf n_27 16==14) (some (Zp b::Zp b_92::Zp b_93::Zp b_94::Zk b_95::Zk b_96::Zk b_97::Zp b_98::Zp b_99::Zp b_100::Zp b_101::Zp b_102::Zp b_103::Zz .u32 n::Zp b_104::Zp b_105::Zp b_106::Zz .u16 n_26::Zz .u16 n_27::Zk b_107::Zk b_108::Zz .i64 n_28::Zw b_109::Zd b_110::Zd b_111::(Zk !b_112)::t6)) (some (Zp b::Zp b_92::Zp b_93::Zp b_94::Zk b_95::Zk b_96::Zk b_97::Zp b_98::Zp b_99::Zp b_100::Zp b_101::Zp b_102::Zp b_103::Zz .u32 n::Zp b_104::Zp b_105::Zp b_106::Zz .u16 n_26::Zz .u16 n_27::Zk b_107::Zk b_108::Zz .i64 n_28::Zw b_109::Zd b_110::Zd b_111::Zk b_112::t6))) fun l=>cU8 l fun b r=>cU8 r fun b_117 r=>cU8 r fun b_118 r=>cU8 r fun b_119 r=>cBool r fun b_120 r=>cBool r fun b_121 r=>cBool r fun b_122 r=>cU8 r fun b_123 r=>cU8 r fun b_124 r=>cU8 r fun b_125 r=>cU8 r fun b_126 r=>cU8 r fun b_127 r=>cU8 r fun b_128 r=>cInt .u32 r fun n r=>cU8 r fun b_129 r=>cU8 r fun b_130 r=>cU8 r fun b_131 r=>cInt .u16 r fun n_30 r=>cInt .u16 r fun n_31 r=>cBool r fun b_132 r=>cBool r fun b_133 r=>cInt .i64 r fun n_32 r=>cStr r fun b_134 r=>cBs r fun b_135 r=>cBs r fun b_136 r=>cBool r fun b_137 r=>cBool r fun b_138 r=>cInt .i64 r fun n_33 r=>cStr r fun b_139 r=>cBs r fun b_140 r=>cBs r fun b_141 r=>onNil r (Zx (sel (Vy (Zb (Yf (↑(Yq b_130):Int) (↑(Yq (16:UInt8)):Int)))==(15:UInt8)) (some [Zp b,Zp b_117,Zp b_118,Zp b_119,Zk b_120,Zk b_121,Zk b_122,Zp b_123,Zp b_124,Zp b_125,Zp b_126,Zp b_127,Zp b_128,Zz .u32 n,Zp b_129,Zp b_130,Zp b_131,Zz .u16 n_30,Zz .u16 n_31,Zk b_132,Zk b_133,Zz .i64 n_32,Zw b_134,Zd b_135,Zd b_136,Zk b_137,Zk b_138,Zz .i64 (Zf .i64 (n_33+1)),Zw b_139,Zd b_140,Zd b_141]) (some [Zp b,Zp b_117,Zp b_118,Zp b_119,Zk b_120,Zk b_121,Zk b_122,Zp b_123,Zp b_124,Zp b_125,Zp b_126,Zp b_127,Zp b_128,Zz .u32 n,Zp b_129,Zp b_130,Zp b_131,Zz .u16 n_30,Zz .u16 n_31,Zk b_132,Zk b_133,Zz .i64 n_32,Zw b_134,Zd b_135,Zd b_136,Zk b_137,Zk b_138,Zz .i64 n_33,Zw b_139,Zd b_140,Zd b_141])) fun l=>cU8 l fun b r=>cU8 r fun b r=>cU8 r fun b r=>cU8 r fun b r=>cBool r fun b_142 r=>cBool r fun b_143 r=>cBool r fun b_144 r=>cU8 r fun b_145 r=>cU8 r fun b_146 r=>cU8 r fun b_147 r=>cU8 r fun b_148 r=>cU8 r fun b_149 r=>cU8 r fun b_150 r=>cInt .u32 r fun n r=>cU8 r fun b_151 r=>cU8 r fun b_152 r=>cU8 r fun b_153 r=>cInt .u16 r fun n r=>cInt .u16 r fun n r=>cBool r fun b_154 r=>cBool r fun b_155 r=>cInt .i64 r fun n r=>cStr r fun b_156 r=>cBs r fun b_157 r=>cBs r fun b_158 r=>cBool r fun b_159 r=>cBool r fun b_160 r=>cInt .i64 r fun n_34 r=>cStr r fun b_161 r=>cBs r fun b_162 r=>cBs r fun b_163 r=>onNil r (Zx (sel (Vy (Zb (Yf (↑(Yq b):Int) (↑(Yq (16:UInt8)):Int)))==(15:UInt8)) (some [Zk b_154,Zk b_155,Zz .i64 n,Zw b_156,Zd b_157,Zd b_158,Zk b_159,Zk b_160,Zz .i64 n_34,Zw [(67:UInt8),(65:UInt8),(77:UInt8)],Zd b_162,Zd b_163]) (some [Zk b_154,Zk b_155,Zz .i64 n,Zw b_156,Zd b_157,Zd b_158,Zk b_159,Zk b_160,Zz .i64 n_34,Zw b_161,Zd b_162,Zd b_163])) fun l=>cBool l fun b r=>cBool r fun b r=>cInt .i64 r fun n r=>cStr r fun b r=>cBs r fun b r=>cBs r fun b r=>cBool r fun b r=>cBool r fun b_164 r=>cInt .i64 r fun n r=>cStr r fun b_165 r=>cBs r fun b_166 r=>cBs r fun b_167 r=>onNil r (some (Xv [Zk b,Zk b_164,Zz .i64 n,Zw b_165,Zd b_166,Zd b_167],[]))))))))))))))):Option (AV×Blocks))) (by kernel_rfl) ?_
  delta kT kA kB kI
  try dsimp only [cStr,cBs,cBool,cU8,cInt,cSl,l63]
  simp only [Yz,decide_eq_true_eq] at hpre
  obtain ⟨⟨⟨⟨⟨⟨⟨⟨⟨⟨⟨l1,l2⟩,l3⟩,hk⟩,v0⟩,v1⟩,c0⟩,c1⟩,t0⟩,t1⟩,a0⟩,a1⟩:=hpre
  have hk:=Kerb.isU64_iff.1 hk
  have bcu:=Xh cu
  have bco:=Xh co
  have bcs:=Xh css
  have bca:=Xh cad
  have bci:=Xh cis
  have bct:=Xh ctm
  have bck:=Xh ctk
  have bcl:=Xh clf
  have f1:Yf (Yx cu) 6=Yx cu % 6:=Yb bcu.1
  have f2:Yf (Yx co) 6=Yx co % 6:=Yb bco.1
  have f3:Yf (Yx css) 4=Yx css % 4:=Yb bcs.1
  have f4:Yf (Yx cad) 3=Yx cad % 3:=Yb bca.1
  have f5:Zf .i64 (1000+Zf .i64 (Yx cis*8))=1000+Yx cis*8:=by rw [wrap_i64 (n:=Yx cis*8) (by omega) (by omega)];exact wrap_i64 (by omega) (by omega)
  have f6:Zf .i64 (1000+Zf .i64 (Yx ctm*8))=1000+Yx ctm*8:=by rw [wrap_i64 (n:=Yx ctm*8) (by omega) (by omega)];exact wrap_i64 (by omega) (by omega)
  have f7:Yf (Yx ctk) 3=Yx ctk % 3:=Yb bck.1
  have f8:Zf .i64 (Vf (Yx clf) 4)=Yx clf / 4:=by rw [Uk bcl.1];exact wrap_i64 (by omega) (by omega)
  have f9:Zf .i64 ccs=ccs:=wrap_i64 (by omega) (by omega)
  have fa:Zf .i64 (v+1)=v+1:=wrap_i64 (by omega) (by omega)
  have fb:Yf ctt 16=ctt % 16:=Yb (by omega)
  have fc:Yf cau 16=cau % 16:=Yb (by omega)
  have fd:Zf .u16 (Vf ctt 16)=ctt / 16:=by rw [Uk (by omega)];rw [Kerb.wrap_u16];omega
  have fe:Zf .u16 (Vf cau 16)=cau / 16:=by rw [Uk (by omega)];rw [Kerb.wrap_u16];omega
  have g1:(decide ((0:Int)≤Yx cu % 6)&&decide (Yx cu % 6≤4611686018427387904))=true:=by simp;omega
  have g2:(decide ((0:Int)≤Yx co % 6)&&decide (Yx co % 6≤4611686018427387904))=true:=by simp;omega
  have g3:(decide ((0:Int)≤Yx css % 4)&&decide (Yx css % 4≤1000))=true:=by simp;omega
  have g4:(decide ((0:Int)≤ctt / 16)&&decide (ctt / 16≤65535))=true:=by simp;omega
  have g5:(decide ((0:Int)≤cau / 16)&&decide (cau / 16≤65535))=true:=by simp;omega
  have u1:(Vy (Zb (Yf (cv.toNat:Int) ((7:UInt8).toNat:Int)))==(6:UInt8))=decide (cv.toNat % 7=6):=by
   have h7:Zb (Yf (cv.toNat:Int) ((7:UInt8).toNat:Int))=cv.toNat % 7:=Kerb.tmod_u8 cv 7 (by omega)
   rw [h7];exact Kerb.u8_beq (k:=6) (by omega) (by decide)
  have u2:(Vy (Zb (Yf (co.toNat:Int) ((8:UInt8).toNat:Int)))==(7:UInt8))=decide (co.toNat % 8=7):=by
   have h7:Zb (Yf (co.toNat:Int) ((8:UInt8).toNat:Int))=co.toNat % 8:=Kerb.tmod_u8 co 8 (by omega)
   rw [h7];exact Kerb.u8_beq (k:=7) (by omega) (by decide)
  have u3:(Vy (Zb (Yf (ckv.toNat:Int) ((16:UInt8).toNat:Int)))==(15:UInt8))=decide (ckv.toNat % 16=15):=by
   have h7:Zb (Yf (ckv.toNat:Int) ((16:UInt8).toNat:Int))=ckv.toNat % 16:=Kerb.tmod_u8 ckv 16 (by omega)
   rw [h7];exact Kerb.u8_beq (k:=15) (by omega) (by decide)
  have u4:(Vy (Zb (Yf (cr.toNat:Int) ((16:UInt8).toNat:Int)))==(15:UInt8))=decide (cr.toNat % 16=15):=by
   have h7:Zb (Yf (cr.toNat:Int) ((16:UInt8).toNat:Int))=cr.toNat % 16:=Kerb.tmod_u8 cr 16 (by omega)
   rw [h7];exact Kerb.u8_beq (k:=15) (by omega) (by decide)
  obtain ⟨W,hW⟩:∃ x,Wp (Yx cu % 6)=x:=⟨_,rfl⟩
  obtain ⟨E,hE⟩:∃ x,Kerb.session (Yx css % 4)=x:=⟨_,rfl⟩
  obtain ⟨IN,hIN⟩:∃ q,(if cv.toNat % 7=6 then ([111,116,104,101,114]:List UInt8) else y)=q:=⟨_,rfl⟩
  obtain ⟨V,hV⟩:∃ q,(if co.toNat % 8=7 then Wp (Yx co % 6) else W)=q:=⟨_,rfl⟩
  have hT:Kerb.Case.x (Ym cu co cv cr lt tn mt cad cfr cis ctm ctk clf ccs cky ckv css ctt cau) ⟨x,y,z⟩ k=(Kerb.sealTicket ⟨tn,W,Yx cad % 3,E,Yx clf / 4,1000+Yx cis*8,x,IN⟩ k).val:=by rw [← hW,← hE,← hIN];rfl
  have hA:Kerb.Case.y (Ym cu co cv cr lt tn mt cad cfr cis ctm ctk clf ccs cky ckv css ctt cau)=(Kerb.sealAuth ⟨V,ccs,Yx ctk % 3,1000+Yx ctm*8⟩ lt E).val:=by rw [← hV,← hW,← hE];rfl
  obtain ⟨X,hX⟩:∃ q,Kerb.Case.x (Ym cu co cv cr lt tn mt cad cfr cis ctm ctk clf ccs cky ckv css ctt cau) ⟨x,y,z⟩ k=q:=⟨_,rfl⟩
  obtain ⟨Y,hY⟩:∃ q,Kerb.Case.y (Ym cu co cv cr lt tn mt cad cfr cis ctm ctk clf ccs cky ckv css ctt cau)=q:=⟨_,rfl⟩
  have hR:Kerb.Case.req (Ym cu co cv cr lt tn mt cad cfr cis ctm ctk clf ccs cky ckv css ctt cau) ⟨x,y,z⟩ k v=⟨if cau % 16=14 then !lt else lt,mt,if ckv.toNat % 16=15 then v+1 else v,if cr.toNat % 16=15 then [67,65,77] else z,if ctt % 16=15 then Wz X (ctt / 16) else X,if cau % 16=15 then Wz Y (cau / 16) else Y⟩:=by rw [← hX,← hY];rfl
  rw [hX] at hT
  rw [hY] at hA
  have lW:W.name.length≤9223372036854775807∧W.inst.length≤9223372036854775807∧W.realm.length≤9223372036854775807:=by rw [← hW];exact Kerb.user_dec _
  have lV:V.name.length≤9223372036854775807∧V.inst.length≤9223372036854775807∧V.realm.length≤9223372036854775807:=by
   rw [← hV]
   split
   ·exact Kerb.user_dec _
   ·exact lW
  have lE:0≤E∧E<18446744073709551616:=by rw [← hE];exact Kerb.session_bd2 _
  have lI:IN.length≤9223372036854775807:=by
   rw [← hIN]
   split
   ·simp
   ·exact l2
  have lX:X.length≤1000000:=by rw [hT];have:=Kerb.sealTicket_len ⟨tn,W,Yx cad % 3,E,Yx clf / 4,1000+Yx cis*8,x,IN⟩ k;omega
  have lY:Y.length≤1000000:=by rw [hA];have:=Kerb.sealAuth_len ⟨V,ccs,Yx ctk % 3,1000+Yx ctm*8⟩ lt E;omega
  rw [hR]
  simp (config:={maxSteps:=10000000}) only [Wv,f1,f2,f3,f4,f5,f6,f7,f8,f9,fa,fb,fc,fd,fe,g1,g2,g3,g4,g5,u1,u2,u3,u4,hW,hE,↓sInt,↓sU8,↓sBool,↓sStr,↓sBs,↓sSl,↓sAgg,↓sTup,↓sCons,↓sNil,↓sNilB,↓sChk,↓sChkBind,↓sSome]
  refine bind_via (fun ls=>ls=[Zz Uu k,Zz Zq v,Zp cu,Zp co,Zp cv,Zp cr,Zk lt,Zk tn,Zk mt,Zp cad,Zp cfr,Zp cis,Zp ctm,Zp ctk,Zp clf,Zz Uq ccs,Zp cky,Zp ckv,Zp css,Zz Xw ctt,Zz Xw cau,Zw x,Zw y,Zw z,Zk false,Zk false,Zz Zq 0,Zw [],Zd [],Zd [],Zk tn,Zw W.name,Zw W.inst,Zw W.realm,Zz Zq (Yx cad % 3),Zz Uu E,Zz Zq (Yx clf / 4),Zz Zq (1000+Yx cis*8),Zw x,Zw IN]) ⟨_,?_,rfl⟩ ?_
  ·rw [← hIN]
   by_cases h:cv.toNat % 7=6
   ·rw [if_pos h,decide_eq_true h];rfl
   ·rw [if_neg h,decide_eq_false h];rfl
  rintro _ rfl
  simp (config:={maxSteps:=10000000}) only [Wv,f1,f2,f3,f4,f5,f6,f7,f8,f9,fa,fb,fc,fd,fe,g1,g2,g3,g4,g5,u1,u2,u3,u4,↓sInt,↓sU8,↓sBool,↓sStr,↓sBs,↓sSl,↓sAgg,↓sTup,↓sCons,↓sNil,↓sNilB,↓sChk,↓sChkBind,↓sSome]
  refine bind_via (fun ls=>ls=[Zz Uu k,Zz Zq v,Zp cu,Zp co,Zp cv,Zp cr,Zk lt,Zk tn,Zk mt,Zp cad,Zp cfr,Zp cis,Zp ctm,Zp ctk,Zp clf,Zz Uq ccs,Zp cky,Zp ckv,Zp css,Zz Xw ctt,Zz Xw cau,Zw x,Zw y,Zw z,Zk false,Zk false,Zz Zq 0,Zw [],Zd [],Zd [],Zk tn,Zw W.name,Zw W.inst,Zw W.realm,Zz Zq (Yx cad % 3),Zz Uu E,Zz Zq (Yx clf / 4),Zz Zq (1000+Yx cis*8),Zw x,Zw IN,Zw V.name,Zw V.inst,Zw V.realm,Zz Zq ccs,Zz Zq (Yx ctk % 3),Zz Zq (1000+Yx ctm*8)]) ⟨_,?_,rfl⟩ ?_
  ·rw [← hV]
   by_cases h:co.toNat % 8=7
   ·rw [if_pos h,decide_eq_true h];rfl
   ·rw [if_neg h,decide_eq_false h];rfl
  rintro _ rfl
  simp (config:={maxSteps:=10000000}) only [l1,lW,lV,lE,lI,hk,decide_true,Yd,← hT,← hA,Wv,f1,f2,f3,f4,f5,f6,f7,f8,f9,fa,fb,fc,fd,fe,g1,g2,g3,g4,g5,u1,u2,u3,u4,↓sInt,↓sU8,↓sBool,↓sStr,↓sBs,↓sSl,↓sAgg,↓sTup,↓sCons,↓sNil,↓sNilB,↓sChk,↓sChkBind,↓sSome]
  refine bind_via (fun ls=>ls=[Zp cu,Zp co,Zp cv,Zp cr,Zk lt,Zk tn,Zk mt,Zp cad,Zp cfr,Zp cis,Zp ctm,Zp ctk,Zp clf,Zz Uq ccs,Zp cky,Zp ckv,Zp css,Zz Xw ctt,Zz Xw cau,Zk false,Zk false,Zz Zq 0,Zw [],Zd [],Zd [],Zd Y,Zk lt,Zk mt,Zz Zq v,Zw z,Zd (if ctt % 16=15 then Wz X (ctt / 16) else X),Zd Y]) ⟨_,?_,rfl⟩ ?_
  ·by_cases h:ctt % 16=15
   ·rw [if_pos h,sel_pos (by simpa using h),chk_of (by simp only [lX,g4,decide_true,Bool.true_and])]
   ·rw [if_neg h,sel_neg (by simpa using h)]
  rintro _ rfl
  simp (config:={maxSteps:=10000000}) only [Wv,f1,f2,f3,f4,f5,f6,f7,f8,f9,fa,fb,fc,fd,fe,g1,g2,g3,g4,g5,u1,u2,u3,u4,↓sInt,↓sU8,↓sBool,↓sStr,↓sBs,↓sSl,↓sAgg,↓sTup,↓sCons,↓sNil,↓sNilB,↓sChk,↓sChkBind,↓sSome]
  refine bind_via (fun ls=>ls=[Zp cu,Zp co,Zp cv,Zp cr,Zk lt,Zk tn,Zk mt,Zp cad,Zp cfr,Zp cis,Zp ctm,Zp ctk,Zp clf,Zz Uq ccs,Zp cky,Zp ckv,Zp css,Zz Xw ctt,Zz Xw cau,Zk false,Zk false,Zz Zq 0,Zw [],Zd [],Zd [],Zk lt,Zk mt,Zz Zq v,Zw z,Zd (if ctt % 16=15 then Wz X (ctt / 16) else X),Zd (if cau % 16=15 then Wz Y (cau / 16) else Y)]) ⟨_,?_,rfl⟩ ?_
  ·by_cases h:cau % 16=15
   ·rw [if_pos h,sel_pos (by simpa using h),chk_of (by simp only [lY,g5,decide_true,Bool.true_and])]
   ·rw [if_neg h,sel_neg (by simpa using h)]
  rintro _ rfl
  simp (config:={maxSteps:=10000000}) only [Wv,f1,f2,f3,f4,f5,f6,f7,f8,f9,fa,fb,fc,fd,fe,g1,g2,g3,g4,g5,u1,u2,u3,u4,↓sInt,↓sU8,↓sBool,↓sStr,↓sBs,↓sSl,↓sAgg,↓sTup,↓sCons,↓sNil,↓sNilB,↓sChk,↓sChkBind,↓sSome]
  refine bind_via (fun ls=>ls=[Zp cu,Zp co,Zp cv,Zp cr,Zk lt,Zk tn,Zk mt,Zp cad,Zp cfr,Zp cis,Zp ctm,Zp ctk,Zp clf,Zz Uq ccs,Zp cky,Zp ckv,Zp css,Zz Xw ctt,Zz Xw cau,Zk false,Zk false,Zz Zq 0,Zw [],Zd [],Zd [],Zk (if cau % 16=14 then !lt else lt),Zk mt,Zz Zq v,Zw z,Zd (if ctt % 16=15 then Wz X (ctt / 16) else X),Zd (if cau % 16=15 then Wz Y (cau / 16) else Y)]) ⟨_,?_,rfl⟩ ?_
  ·by_cases h:cau % 16=14
   ·rw [if_pos h,sel_pos (by simpa using h)]
   ·rw [if_neg h,sel_neg (by simpa using h)]
  rintro _ rfl
  simp (config:={maxSteps:=10000000}) only [Wv,f1,f2,f3,f4,f5,f6,f7,f8,f9,fa,fb,fc,fd,fe,g1,g2,g3,g4,g5,u1,u2,u3,u4,↓sInt,↓sU8,↓sBool,↓sStr,↓sBs,↓sSl,↓sAgg,↓sTup,↓sCons,↓sNil,↓sNilB,↓sChk,↓sChkBind,↓sSome]
  refine bind_via (fun ls=>ls=[Zp cu,Zp co,Zp cv,Zp cr,Zk lt,Zk tn,Zk mt,Zp cad,Zp cfr,Zp cis,Zp ctm,Zp ctk,Zp clf,Zz Uq ccs,Zp cky,Zp ckv,Zp css,Zz Xw ctt,Zz Xw cau,Zk false,Zk false,Zz Zq 0,Zw [],Zd [],Zd [],Zk (if cau % 16=14 then !lt else lt),Zk mt,Zz Zq (if ckv.toNat % 16=15 then v+1 else v),Zw z,Zd (if ctt % 16=15 then Wz X (ctt / 16) else X),Zd (if cau % 16=15 then Wz Y (cau / 16) else Y)]) ⟨_,?_,rfl⟩ ?_
  ·by_cases h:ckv.toNat % 16=15
   ·rw [if_pos h,decide_eq_true h];rfl
   ·rw [if_neg h,decide_eq_false h];rfl
  rintro _ rfl
  simp (config:={maxSteps:=10000000}) only [Wv,f1,f2,f3,f4,f5,f6,f7,f8,f9,fa,fb,fc,fd,fe,g1,g2,g3,g4,g5,u1,u2,u3,u4,↓sInt,↓sU8,↓sBool,↓sStr,↓sBs,↓sSl,↓sAgg,↓sTup,↓sCons,↓sNil,↓sNilB,↓sChk,↓sChkBind,↓sSome]
  by_cases h:cr.toNat % 16=15
  ·rw [if_pos h,decide_eq_true h];rfl
  ·rw [if_neg h,decide_eq_false h];rfl
 ·cases h
theorem w69:Walked Tryz.prog G 69 7 sp69:=by
 refine ⟨Tryz.f69,Tryz.func69,by decide +kernel,rfl,fun xs bl r h=> ?_⟩
 unfold sp69 at h
 split at h
 ·rename_i rl els xls n i now
  obtain ⟨hpre,h2⟩:=chk_inv h;cases h2
  refine Eq.trans (b:=(let t0:Option (AV×Blocks):=Zx (chk (Uw els Kerb.isEntry&&decide (Zy els≤1000000)) (some (Zm [Zz .i64 (Yn (Vm (Kerb.Db.mk rl (Xu Kerb.toEntry els)) n i now)),Zz .i64 (Yk (Vm (Kerb.Db.mk rl (Xu Kerb.toEntry els)) n i now))],[]))) (kT fun vs=>cInt .i64 vs fun n r=>cInt .i64 r fun n_1 r=>onNil r (sel (!n_1==0) (some (Zm [Zz .u64 0,Zz .i64 0,Zz .i64 0,Zz .i64 0,Zz .i64 n_1],[])) (chk (decide (0≤n)&&decide (n<(↑(Zy els):Int))&&true) (Vx (Xj els (Zb n) Vg) fun cs=>cStr cs fun b r=>cStr r fun b r=>cInt .u64 r fun n r=>cInt .i64 r fun n_2 r=>cInt .i64 r fun n_3 r=>cInt .i64 r fun n_4 r=>cInt .i64 r fun n_5 r=>cInt .i64 r fun n_6 r=>cInt .i64 r fun n_7 r=>onNil r (some (Zm [Zz .u64 n,Zz .i64 n_2,Zz .i64 n_4,Zz .i64 n_3,Zz .i64 0],[]))))));sel (n==Kerb.krbtgt) (Zx (chk (l63 i) (some (Zk (Wb i),[]))) (kL fun b=>sel b (sel (!i==rl) (Zx (chk (Uw xls Kerb.isCross&&decide (Zy xls≤1000000)) (some (Zm [Zz .i64 (Yn (Vj (Xu Kerb.toCross xls) rl i)),Zk (Yk (Vj (Xu Kerb.toCross xls) rl i))],[]))) (kT fun vs=>cInt .i64 vs fun n r=>cBool r fun b r=>onNil r (sel (!b) (some (Zm [Zz .u64 0,Zz .i64 0,Zz .i64 0,Zz .i64 0,Zz .i64 8],[])) (chk (decide (0≤n)&&decide (n<(↑(Zy xls):Int))&&true) (Vx (Xj xls (Zb n) Vg) fun cs=>cStr cs fun b r=>cStr r fun b r=>cInt .i64 r fun n_1 r=>cInt .u64 r fun n_2 r=>onNil r (chk (decide (0≤n)&&decide (n<(↑(Zy xls):Int))&&true) (Vx (Xj xls (Zb n) Vg) fun cs=>cStr cs fun b r=>cStr r fun b r=>cInt .i64 r fun n r=>cInt .u64 r fun n_3 r=>onNil r (some (Zm [Zz .u64 n_2,Zz .i64 n,Zz .i64 255,Zz .i64 0,Zz .i64 0],[]))))))))) t0) t0)) t0:Option (AV×Blocks))) (by kernel_rfl) ?_
  delta kT kL
  try dsimp only [cStr,cBs,cBool,cU8,cInt,cSl,l63]
  simp only [Yz,decide_eq_true_eq] at hpre
  obtain ⟨⟨⟨⟨hall,hlen⟩,hx⟩,hxl⟩,hi⟩:=hpre
  obtain ⟨es,rfl,hok⟩:=Kerb.ents_of hall
  obtain ⟨cs,rfl⟩:=Kerb.cross_of hx
  rw [Kerb.map_toEntry,Kerb.map_toCross]
  simp only [hall,hlen,hx,hxl,hi,decide_true,Yd,↓A0,A0]
  simp only [Yg] at hlen hxl ⊢
  unfold Kerb.svc
  dsimp only
  have hkr:(n==[(107:UInt8),(114:UInt8),(98:UInt8),(116:UInt8),(103:UInt8),(116:UInt8)])=(n==Kerb.krbtgt):=rfl
  try rw [hkr]
  cases n==Kerb.krbtgt
  ·simp only [Zh,Uj,sel_true,sel_false]
   by_cases he:(Vm ⟨rl,es⟩ n i now).2=0
   case neg=>rw [sel_pos (by simpa using he),if_neg (by simp),if_pos he]
   obtain ⟨u1,u2⟩:=Kerb.serv_lt he
   dsimp only at u2
   rw [sel_neg (by simpa using he),if_neg (by simp),if_neg (by simpa using he),chk_of (by simp;omega),Kerb.getD_ent u2]
   simp only [Yh,↓A0,A0]
  cases Wb i
  ·simp only [Zh,Uj,sel_true,sel_false]
   by_cases he:(Vm ⟨rl,es⟩ n i now).2=0
   case neg=>rw [sel_pos (by simpa using he),if_neg (by simp),if_pos he]
   obtain ⟨u1,u2⟩:=Kerb.serv_lt he
   dsimp only at u2
   rw [sel_neg (by simpa using he),if_neg (by simp),if_neg (by simpa using he),chk_of (by simp;omega),Kerb.getD_ent u2]
   simp only [Yh,↓A0,A0]
  cases i==rl
  ·simp only [Zh,Uj,sel_true,sel_false]
   by_cases he:(Vj cs rl i).2=true
   ·obtain ⟨u1,u2⟩:=Kerb.findCross_lt he
    have hk:(decide (0≤(Vj cs rl i).1)&&decide ((Vj cs rl i).1<(cs.length:Int))&&true)=true:=by simp;omega
    simp only [he,hk,Kerb.getD_cross u2,Kerb.Cross.av,Zh,Yd,Uj,if_true,↓A0,A0]
   ·have he2:(Vj cs rl i).2=false:=by simpa using he
    rw [he2]
    rfl
  ·simp only [Zh,Uj,sel_true,sel_false]
   by_cases he:(Vm ⟨rl,es⟩ n i now).2=0
   case neg=>rw [sel_pos (by simpa using he),if_neg (by simp),if_pos he]
   obtain ⟨u1,u2⟩:=Kerb.serv_lt he
   dsimp only at u2
   rw [sel_neg (by simpa using he),if_neg (by simp),if_neg (by simpa using he),chk_of (by simp;omega),Kerb.getD_ent u2]
   simp only [Yh,↓A0,A0]
 ·cases h
theorem w89:Walked Tryz.prog G 89 7 sp89:=by
 refine ⟨Tryz.f89,Tryz.func89,by decide +kernel,rfl,fun xs bl r h=> ?_⟩
 unfold sp89 at h
 split at h
 ·rename_i li mu kv rl tk au
  obtain ⟨hpre,h2⟩:=chk_inv h;cases h2
  refine Eq.trans (b:=(Zx (chk (l63 rl) (some (Zk (Wb rl),[]))) (kL fun b=>sel (!b) (some (Zm [Zd [],Zz .i64 103],[])) (sel (!Zg kv 255) (some (Zm [Zd [],Zz .i64 104],[])) (sel (decide ((↑(Zy tk):Int)>255)) (some (Zm [Zd [],Zz .i64 105],[])) (sel (decide ((↑(Zy au):Int)>255)) (some (Zm [Zd [],Zz .i64 105],[])) (sel mu (Zx (chk (decide (Zy (Vw 4 li)≤70368744177664)) (some (Yj (Vw 4 li++Yw kv 1 false),[]))) (kO fun l=>Zx (chk (decide (Zy l+Zy rl≤70368744177664)) (some (Zd (Yp l rl),[]))) (kB fun b=>Zx (chk (decide (Zy b≤70368744177664)) (some (Yj (b++Yw (↑(Zy tk):Int) 1 false),[]))) (kO fun l=>Zx (chk (decide (Zy l≤70368744177664)) (some (Yj (l++Yw (↑(Zy au):Int) 1 false),[]))) (kO fun l=>Zx (chk (decide (Zy (Yv l (Yv tk (Yv au [])))≤140737488355328)&&decide (Zy [Zd l,Zd tk,Zd au]≤1000)) (some (Yj (Yv l (Yv tk (Yv au []))),[]))) (kO fun l=>some (Zm [Zd l,Zz .i64 0],[]))))))) (Zx (chk (decide (Zy (Vw 3 li)≤70368744177664)) (some (Yj (Vw 3 li++Yw kv 1 false),[]))) (kO fun l=>Zx (chk (decide (Zy l+Zy rl≤70368744177664)) (some (Zd (Yp l rl),[]))) (kB fun b=>Zx (chk (decide (Zy b≤70368744177664)) (some (Yj (b++Yw (↑(Zy tk):Int) 1 false),[]))) (kO fun l=>Zx (chk (decide (Zy l≤70368744177664)) (some (Yj (l++Yw (↑(Zy au):Int) 1 false),[]))) (kO fun l=>Zx (chk (decide (Zy (Yv l (Yv tk (Yv au [])))≤140737488355328)&&decide (Zy [Zd l,Zd tk,Zd au]≤1000)) (some (Yj (Yv l (Yv tk (Yv au []))),[]))) (kO fun l=>some (Zm [Zd l,Zz .i64 0],[])))))))))))):Option (AV×Blocks))) (by kernel_rfl) ?_
  delta kB kO kL
  try dsimp only [cStr,cBs,cBool,cU8,cInt,cSl,l63]
  simp only [A0,Wy,Wj,Wh,hpre]
  unfold Um
  simp only
  cases h1:Wb rl
  ·rfl
  rw [Zh,sel_false,if_neg (by simp)]
  cases h2:Zg kv 255
  ·rfl
  rw [Zh,sel_false,if_neg (by simp)]
  by_cases h3:255<tk.length
  ·rw [sel_pos (by simp;omega),if_pos (.inl h3)]
  rw [sel_neg (by simp;omega)]
  by_cases h4:255<au.length
  ·rw [sel_pos (by simp;omega),if_pos (.inr h4)]
  rw [sel_neg (by simp;omega),if_neg (by omega)]
  have l1:=Kerb.validRealm_len h1
  have g3:=Kerb.header_len 3 li
  have g4:=Kerb.header_len 4 li
  cases mu
  ·rw [sel_false,chk_of (by simp;omega),chk_of (by simp [Zu];omega),chk_of (by simp [Zu,Xm];omega),chk_of (by simp [Zu,Xm];omega),chk_of (by simp [Zu,Xm];omega)]
   simp
  ·rw [sel_true,chk_of (by simp;omega),chk_of (by simp [Zu];omega),chk_of (by simp [Zu,Xm];omega),chk_of (by simp [Zu,Xm];omega),chk_of (by simp [Zu,Xm];omega)]
   simp
 ·cases h
theorem w96:Walked Tryz.prog G 96 7 sp96:=by
 refine ⟨Tryz.f96,Tryz.func96,by decide +kernel,rfl,fun xs bl r h=> ?_⟩
 unfold sp96 at h
 split at h
 ·rename_i a b c
  obtain ⟨hpre,h2⟩:=chk_inv h;cases h2
  refine Eq.trans (b:=(Zx (chk (decide (Zy a≤9223372036854775807)) (some (Zk (Xb a),[]))) fun (r:AV×Blocks)=>onNilB (Yk r) (Wf (Yn r) fun b_1=>sel b_1 (Zx (chk (decide (Zy b≤9223372036854775807)) (some (Zk (Xq b),[]))) fun (r:AV×Blocks)=>onNilB (Yk r) (Wf (Yn r) fun b=>sel b (Zx (chk (decide (Zy c≤9223372036854775807)) (some (Zk (Wb c),[]))) fun (r:AV×Blocks)=>onNilB (Yk r) (Wf (Yn r) fun b=>some (Zk b,[]))) (some (Zk false,[])))) (some (Zk false,[]))):Option (AV×Blocks))) (by kernel_rfl) ?_
  simp only [Yz,decide_eq_true_eq] at hpre
  simp only [A0]
  rw [chk_of (by simp;omega),chk_of (by simp;omega),chk_of (by simp;omega)]
  simp only [Yy]
  cases Xb a<;>cases Xq b<;>rfl
 ·cases h
theorem w11:Walked Tryz.prog G 11 8 sp11:=by
 refine ⟨Tryz.f11,Tryz.func11,by decide +kernel,rfl,fun xs bl r h=> ?_⟩
 unfold sp11 at h
 split at h
 ·rename_i cu co cv cr lt tn mt cad cfr cis ctm ctk clf ccs cky ckv css ctt cau x y z k v wtm wlf s1 s2 s3
  obtain ⟨hpre,h2⟩:=chk_inv h;cases h2
  refine Eq.trans (b:=(let t0:Kerb.ApRequest:=Kerb.Case.req (Ym cu co cv cr lt tn mt cad cfr cis ctm ctk clf ccs cky ckv css ctt cau) (Zn x y z) k v;Zx (chk (l63 x&&l63 y&&l63 z&&Kerb.isU64 k&&decide (0≤v)&&decide (v≤1000)&&decide (0≤ccs)&&decide (ccs≤4294967295)&&decide (0≤ctt)&&decide (ctt≤65535)&&decide (0≤cau)&&decide (cau≤65535)) (some (Xv [Zk (Kerb.ApRequest.little t0),Zk (Kerb.ApRequest.mutual_ t0),Zz .i64 (Kerb.ApRequest.kvno t0),Zw (Kerb.ApRequest.realm t0),Zd (Kerb.ApRequest.ticket t0),Zd (Kerb.ApRequest.auth t0)],[]))) (kA fun cs=>cBool cs fun b r=>cBool r fun b_1 r=>cInt .i64 r fun n r=>cStr r fun b_2 r=>cBs r fun b_3 r=>cBs r fun b_4 r=>onNil r (Zx (chk (l63 b_2&&l63 s1&&l63 s2) (some (Zm [Zd (Xy (Vk (Vd (Xf b false n b_2 b_3 b_4) wtm wlf s1 s2))),Zz .i64 (Xx (Vk (Vd (Xf b false n b_2 b_3 b_4) wtm wlf s1 s2)))],[]))) (kT fun vs=>cBs vs fun b r=>cInt .i64 r fun n r=>onNil r (some (Zd b,[]))))):Option (AV×Blocks))) (by kernel_rfl) ?_
  delta kT kA
  try dsimp only [cStr,cBs,cBool,cU8,cInt,cSl,l63]
  simp only [Yz,decide_eq_true_eq] at hpre
  obtain ⟨⟨⟨⟨⟨⟨⟨⟨⟨⟨⟨⟨⟨l1,l2⟩,l3⟩,k1⟩,v0⟩,v1⟩,c0⟩,c1⟩,t0⟩,t1⟩,a0⟩,a1⟩,s1l⟩,s2l⟩:=hpre
  have e1:=Kerb.req_realm (Ym cu co cv cr lt tn mt cad cfr cis ctm ctk clf ccs cky ckv css ctt cau) ⟨x,y,z⟩ k v l3
  simp (config:={maxSteps:=10000000}) only [l1,l2,l3,k1,v0,v1,c0,c1,t0,t1,a0,a1,s1l,s2l,e1,decide_true,Yd,↓sInt,↓sU8,↓sBool,↓sStr,↓sBs,↓sSl,↓sAgg,↓sTup,↓sCons,↓sNil,↓sNilB,↓sChk,↓sChkBind,↓sSome,↓sOwnL,↓sConsB,↓sOwnB]
  rfl
 ·cases h
theorem w58:Walked Tryz.prog G 58 8 sp58:=by
 refine ⟨Tryz.f58,Tryz.func58,by decide +kernel,rfl,fun xs bl r h=> ?_⟩
 unfold sp58 at h
 split at h
 ·rename_i li mu kv rl tk au tm lf sv ins
  obtain ⟨hpre,h2⟩:=chk_inv h;cases h2
  refine Eq.trans (b:=(sel mu (some (Zm [Zd [],Zz .i64 100],[])) (Zx (chk (l63 rl) (some (Zm [Zd (Xy (Um (Xf li mu kv rl tk au))),Zz .i64 (Xx (Um (Xf li mu kv rl tk au)))],[]))) (kT fun vs=>cBs vs fun b r=>cInt .i64 r fun n r=>onNil r (sel (!n==0) (some (Zm [Zd [],Zz .i64 n],[])) (Zx (chk (l63 sv) (some (Zk (Xb sv),[]))) (kL fun b_1=>sel (!b_1) (some (Zm [Zd [],Zz .i64 103],[])) (Zx (chk (l63 ins) (some (Zk (Xq ins),[]))) (kL fun b_2=>sel (!b_2) (some (Zm [Zd [],Zz .i64 103],[])) (sel (!Zg tm 4294967295) (some (Zm [Zd [],Zz .i64 104],[])) (sel (!Zg lf 255) (some (Zm [Zd [],Zz .i64 104],[])) (Zx (chk (decide (Zy b≤70368744177664)) (some (Yj (b++Yw tm 4 li),[]))) (kO fun l=>Zx (chk (decide (Zy l≤70368744177664)) (some (Yj (l++Yw lf 1 false),[]))) (kO fun l=>Zx (chk (decide (Zy l+Zy sv≤70368744177664)) (some (Zd (Yp l sv),[]))) (kB fun b=>Zx (chk (decide (Zy b+Zy ins≤70368744177664)) (some (Zd (Yp b ins),[]))) (kB fun b=>some (Zm [Zd b,Zz .i64 0],[]))))))))))))))):Option (AV×Blocks))) (by kernel_rfl) ?_
  delta kT kB kO kL
  try dsimp only [cStr,cBs,cBool,cU8,cInt,cSl,l63]
  simp only [Yz,decide_eq_true_eq] at hpre
  obtain ⟨⟨p1,p2⟩,p3⟩:=hpre
  simp only [A0,Wy,Wj,Wh,p1,p2,p3,decide_true]
  have hL:∀ q,Um ⟨li,mu,kv,rl,tk,au⟩=q→Vk ⟨⟨li,mu,kv,rl,tk,au⟩,tm,lf,sv,ins⟩=if mu then ⟨[],100⟩ else if q.err≠0 then ⟨[],q.err⟩ else if !(Xb sv&&Xq ins) then ⟨[],103⟩ else if !(Zg tm 4294967295&&Zg lf 255) then ⟨[],104⟩ else ⟨Yp (Yp (q.val++Yw tm 4 li++Yw lf 1 false) sv) ins,0⟩:=by rintro _ rfl;rfl
  have hl:=Kerb.encodeAp_len ⟨li,mu,kv,rl,tk,au⟩
  obtain ⟨q,hq⟩:∃ q,Um ⟨li,mu,kv,rl,tk,au⟩=q:=⟨_,rfl⟩
  rw [hL q hq,hq]
  rw [hq] at hl
  cases mu
  case true=>rfl
  rw [sel_false,if_neg (by simp)]
  by_cases h1:q.err=0
  case neg=>rw [sel_pos (by simpa using h1),if_pos h1]
  rw [sel_neg (by simpa using h1),if_neg (by simpa using h1)]
  cases h2:Xb sv
  ·rfl
  cases h3:Xq ins
  ·rfl
  cases Zg tm 4294967295
  ·rfl
  cases Zg lf 255
  ·rfl
  have l2:=Kerb.validName_len h2
  have l3:=Kerb.validInst_len h3
  simp only [Zh,sel_false,Yd,Bool.false_eq_true,if_false]
  rw [chk_of (by simp;omega),chk_of (by simp [Zu];omega),chk_of (by simp [Zu];omega),chk_of (by simp [Zu,Xm];omega)]
 ·cases h
theorem w97:Walked Tryz.prog G 97 8 sp97:=by
 refine ⟨Tryz.f97,Tryz.func97,by decide +kernel,rfl,fun xs bl r h=> ?_⟩
 unfold sp97 at h
 split at h
 ·rename_i kls
  obtain ⟨hpre,h2⟩:=chk_inv h;cases h2
  refine Eq.trans (b:=(sel (decide ((↑(Zy kls):Int)>60)) (some (Zz .i64 106,[])) (Zx (loopM (fun (st:List AV)=>cSl 5 st fun b r=>cInt .i64 r fun n r=>cSl 5 r fun b_1 r=>cInt .i64 r fun n_1 r=>cInt .i64 r fun n_2 r=>let t0:List AV:=[Yu 5 b_1,Zz .i64 n_1,Zz .i64 n_2];onNil r (sel (decide (n_2<n_1)) (chk (decide (0≤n_2)&&decide (n_2<(↑(Zy b_1):Int))&&true) (Vx (Xj b_1 (Zb n_2) Vg) fun cs=>cStr cs fun b_2 r=>cStr r fun b_3 r=>cStr r fun b_4 r=>cInt .i64 r fun n_3 r=>cInt .u64 r fun n_4 r=>onNil r (Zx (chk (l63 b_2&&l63 b_3&&l63 b_4) (some (Zk (Yy (Zn b_2 b_3 b_4)),[]))) (kL fun b_5=>sel (!b_5) (some (Xg (Ud,Yu 5 b::Zz .i64 103::t0))) (sel (decide (n_3<0)) (some (Xg (Ud,Yu 5 b::Zz .i64 104::t0))) (sel (decide (n_3>255)) (some (Xg (Ud,Yu 5 b::Zz .i64 104::t0))) (Zx (chk (decide (0≤n_4)&&decide (n_4<18446744073709551616)) (some (Zk (Kerb.keyValid n_4),[]))) (kL fun b_6=>sel (!b_6) (some (Xg (Ud,Yu 5 b::Zz .i64 10::t0))) (Zx (chk (Uw b Kerb.isSKey&&decide (Zy b≤1000000)) (some (Zz .i64 (↑(Kerb.skAt (Xu Kerb.toSKey b) (Zn b_2 b_3 b_4) n_3):Int),[]))) (kI .i64 fun n_5=>sel (decide (n_5<n_2)) (some (Xg (Ud,Yu 5 b::Zz .i64 107::t0))) (some (Sum.inl [Yu 5 b,Zz .i64 n,Yu 5 b_1,Zz .i64 n_1,Zz .i64 (Zf .i64 (n_2+1))])))))))))))) (some (Xg (Ex.exit 0,Yu 5 b::Zz .i64 n::t0))))) [Yu 5 kls,Zz .i64 0,Yu 5 kls,Zz .i64 (↑(Zy kls):Int),Zz .i64 0]) fun (r:Ex×List AV)=>cSl 5 (Yk r) fun b r_1=>cInt .i64 r_1 fun n r_2=>cSl 5 r_2 fun b r_3=>cInt .i64 r_3 fun n_1 r_4=>cInt .i64 r_4 fun n_2 r_5=>onNil r_5 (exK r.1 (some (Zz .i64 n,[])) fun (j:Nat)=>sel (Nat.beq j 0) (some (Zz .i64 0,[])) none)):Option (AV×Blocks))) (by kernel_rfl) ?_
  delta kL kI
  try dsimp only [cStr,cBs,cBool,cU8,cInt,cSl,l63]
  simp only [Yz,decide_eq_true_eq] at hpre
  obtain ⟨hall,hlen⟩:=hpre
  obtain ⟨cs,rfl,hok⟩:=Kerb.skeys_of hall
  unfold Kerb.skErr
  rw [Kerb.map_toSKey]
  simp only [Yg] at hlen ⊢
  by_cases h60:60<cs.length
  ·rw [sel_pos (by simp;omega),if_pos h60]
  rw [sel_neg (by simp;omega),if_neg h60]
  refine loop_rounds (fun i:Nat=>[Yu 5 (cs.map Ub),Zz Zq 0,Yu 5 (cs.map Ub),Zz Zq (cs.length:Int),Zz Zq (i:Int)]) (fun i=>i≤cs.length∧Kerb.skErrs [] cs=Kerb.skErrs (cs.take i) (cs.drop i)) (fun i=>cs.length-i)
   (fun r=>∃ (i:Nat) (n:Int),r.2=[Yu 5 (cs.map Ub),Zz Zq n,Yu 5 (cs.map Ub),Zz Zq (cs.length:Int),Zz Zq (i:Int)]∧((r.1 = .ret∧n=Kerb.skErrs [] cs)∨(r.1 = .exit 0∧Kerb.skErrs [] cs=0))) 0 ⟨Nat.zero_le _,by simp⟩ rfl ?_ ?_
  ·rintro i ⟨hi,hp⟩
   simp only [↓A0,A0,Yg]
   by_cases hlt:i<cs.length
   ·rw [sel_pos (by simp;omega),chk_of (by simp;omega),Xp,Kerb.getD_row (d:=Kerb.noSKey) hlt]
    obtain ⟨c,hc⟩:∃ c,cs.getD i Kerb.noSKey=c:=⟨_,rfl⟩
    have hst:=Kerb.skErrs_step hlt hc hp
    have hcm:c∈cs:=hc ▸ Kerb.mem_row hlt
    have ho:=hok c hcm
    rw [hc]
    obtain ⟨⟨s1,s2,s3⟩,kv,ky⟩:=c
    obtain ⟨o1,o2,o3,o4,o5⟩:=ho
    have o4:=Kerb.isI64_iff.1 o4
    have o5:=Kerb.isU64_iff.1 o5
    dsimp only at o1 o2 o3 o4 o5 hst
    simp only [Ub,o1,o2,o3,o5,decide_true,Yd,↓A0,A0]
    have k1:∀ code:Int,code≠0→Wk ⟨⟨s1,s2,s3⟩,kv,ky⟩=code→code=Kerb.skErrs [] cs:=fun code h0 he=>by
     rw [he,if_pos h0] at hst;exact hst.symm
    cases h1:Yy ⟨s1,s2,s3⟩
    ·exact ⟨_,rfl,i,_,rfl,.inl ⟨rfl,k1 103 (by decide) (by simp [Wk,h1])⟩⟩
    rw [Zh,sel_false]
    by_cases h2:kv<0
    ·rw [sel_pos (by simpa using h2)]
     exact ⟨_,rfl,i,_,rfl,.inl ⟨rfl,k1 104 (by decide) (by simp [Wk,h1,Zg];omega)⟩⟩
    rw [sel_neg (by simpa using h2)]
    by_cases h3:kv>255
    ·rw [sel_pos (by simpa using h3)]
     exact ⟨_,rfl,i,_,rfl,.inl ⟨rfl,k1 104 (by decide) (by simp [Wk,h1,Zg];omega)⟩⟩
    rw [sel_neg (by simpa using h3)]
    have hw:Zg kv 255=true:=Kerb.within_iff.2 ⟨by omega,by omega⟩
    cases h4:Kerb.keyValid ky
    ·exact ⟨_,rfl,i,_,rfl,.inl ⟨rfl,k1 10 (by decide) (by simp [Wk,h1,hw,h4])⟩⟩
    rw [Zh,sel_false]
    have hz:Wk ⟨⟨s1,s2,s3⟩,kv,ky⟩=0:=by simp [Wk,h1,hw,h4]
    rw [hz,if_neg (by simp)] at hst
    rw [chk_of (by rw [Kerb.skeys_all hok];simp;omega),Kerb.map_toSKey]
    have hq:=Kerb.skAt_lt cs ⟨s1,s2,s3⟩ kv i hi
    have e:decide (((Kerb.skAt cs ⟨s1,s2,s3⟩ kv:Nat):Int)<(i:Int))=decide (Kerb.skAt cs ⟨s1,s2,s3⟩ kv<i):=decide_eq_decide.2 (by omega)
    rw [e,hq]
    cases hd:(cs.take i).any (Kerb.SKey.is ⟨s1,s2,s3⟩ kv)
    ·rw [hd,if_neg (by simp)] at hst
     rw [sel_false,wrap_i64 (by omega) (by omega)]
     exact ⟨_,rfl,i+1,rfl,⟨by omega,hst⟩,by dsimp only;omega⟩
    ·rw [hd,if_pos rfl] at hst
     rw [sel_true]
     exact ⟨_,rfl,i,_,rfl,.inl ⟨rfl,hst.symm⟩⟩
   ·rw [sel_neg (by simp;omega)]
    refine ⟨_,rfl,i,_,rfl,.inr ⟨rfl,?_⟩⟩
    rw [hp,List.drop_eq_nil_of_le (by omega)]
    rfl
  ·rintro ⟨e,l⟩ ⟨i,n,rfl,⟨rfl,h⟩ | ⟨rfl,h⟩⟩
   ·simp only [↓A0,A0,h]
   ·simp only [↓A0,A0,h]
    rw [sel_pos (Ux _)]
 ·cases h
theorem w98:Walked Tryz.prog G 98 8 sp98:=by
 refine ⟨Tryz.f98,Tryz.func98,by decide +kernel,rfl,fun xs bl r h=> ?_⟩
 unfold sp98 at h
 split at h
 ·rename_i sz fl mls
  obtain ⟨hpre,h2⟩:=chk_inv h;cases h2
  refine Eq.trans (b:=(sel (!(decide (1≤sz)&&decide (sz≤40))) (some (Zz .i64 104,[])) (sel (!(decide (0≤fl)&&decide (fl≤4294967295))) (some (Zz .i64 104,[])) (sel (decide ((↑(Zy mls):Int)>sz)) (some (Zz .i64 106,[])) (Zx (loopM (fun (st:List AV)=>cInt .i64 st fun n r=>cInt .i64 r fun n_1 r=>cSl 5 r fun b r=>cInt .i64 r fun n_2 r=>cSl 5 r fun b_1 r=>cInt .i64 r fun n_3 r=>cInt .i64 r fun n_4 r=>let t0:List AV:=[Yu 5 b_1,Zz .i64 n_3,Zz .i64 n_4];let t2:List AV:=Ww (Zb (↑(0:Nat):Int)) (Wx (Zb n_4) b);let t1:Option (List AV ⊕ Ex×List AV):=some (Xg (Ud,Zz .i64 n::Zz .i64 n_1::Yu 5 b::Zz .i64 104::t0));onNil r (sel (decide (n_4<n_3)) (chk (decide (0≤n_4)&&decide (n_4<(↑(Zy b_1):Int))&&true) (Vx (Xj b_1 (Zb n_4) Vg) fun cs=>cStr cs fun b_2 r=>cStr r fun b_3 r=>cStr r fun b_4 r=>cInt .i64 r fun n_5 r=>cInt .i64 r fun n_6 r=>onNil r (Zx (chk (l63 b_2&&l63 b_3&&l63 b_4) (some (Zk (Yy (Zn b_2 b_3 b_4)),[]))) (kL fun b_5=>sel (!b_5) (some (Xg (Ud,Zz .i64 n::Zz .i64 n_1::Yu 5 b::Zz .i64 103::t0))) (sel (!(decide (n_1≤n_5)&&decide (n_5≤4294967295))) t1 (sel (!(decide (0≤n_6)&&decide (n_6≤199))) t1 (chk (decide ((↑(0:Nat):Int)≤n_4)&&decide (n_4≤(↑(Zy b):Int))) (Zx (chk (Uw t2 Kerb.isMark&&decide (Zy t2≤1000000)) (some (Zk (Kerb.hasMark (Xu Kerb.toMark t2) (Kerb.Mark.mk (Zn b_2 b_3 b_4) n_5 n_6)),[]))) (kL fun b_6=>sel b_6 (some (Xg (Ud,Zz .i64 n::Zz .i64 n_1::Yu 5 b::Zz .i64 107::t0))) (some (Sum.inl [Zz .i64 n,Zz .i64 n_1,Yu 5 b,Zz .i64 n_2,Yu 5 b_1,Zz .i64 n_3,Zz .i64 (Zf .i64 (n_4+1))]))))))))))) (some (Xg (Ex.exit 0,Zz .i64 n::Zz .i64 n_1::Yu 5 b::Zz .i64 n_2::t0))))) [Zz .i64 sz,Zz .i64 fl,Yu 5 mls,Zz .i64 0,Yu 5 mls,Zz .i64 (↑(Zy mls):Int),Zz .i64 0]) fun (r:Ex×List AV)=>cInt .i64 (Yk r) fun n r_1=>cInt .i64 r_1 fun n r_2=>cSl 5 r_2 fun b r_3=>cInt .i64 r_3 fun n r_4=>cSl 5 r_4 fun b r_5=>cInt .i64 r_5 fun n_1 r_6=>cInt .i64 r_6 fun n_2 r_7=>onNil r_7 (exK r.1 (some (Zz .i64 n,[])) fun (j:Nat)=>sel (Nat.beq j 0) (some (Zz .i64 0,[])) none)))):Option (AV×Blocks))) (by kernel_rfl) ?_
  delta kL
  try dsimp only [cStr,cBs,cBool,cU8,cInt,cSl,l63]
  simp only [Yz,decide_eq_true_eq] at hpre
  obtain ⟨hall,hlen⟩:=hpre
  obtain ⟨cs,rfl,hok⟩:=Kerb.marks_of hall
  unfold Up
  rw [Kerb.map_toMark]
  simp only [Yg] at hlen ⊢
  cases e1:(decide ((1:Int)≤sz)&&decide (sz≤40))
  ·rw [if_pos (by simp)];rfl
  cases e2:(decide ((0:Int)≤fl)&&decide (fl≤4294967295))
  ·rw [if_pos (by unfold Zg;rw [e2];rfl)];rfl
  rw [Zh,sel_false,sel_false,if_neg (by unfold Zg;rw [e2];simp)]
  simp only [Yz,decide_eq_true_eq] at e1 e2
  by_cases hsz:sz<cs.length
  ·rw [sel_pos (by simp;omega),if_pos hsz]
  rw [sel_neg (by simp;omega),if_neg hsz]
  refine loop_rounds (fun i:Nat=>[Zz Zq sz,Zz Zq fl,Yu 5 (cs.map Xz),Zz Zq 0,Yu 5 (cs.map Xz),Zz Zq (cs.length:Int),Zz Zq (i:Int)]) (fun i=>i≤cs.length∧Un fl [] cs=Un fl (cs.take i) (cs.drop i)) (fun i=>cs.length-i)
   (fun r=>∃ (i:Nat) (n:Int),r.2=[Zz Zq sz,Zz Zq fl,Yu 5 (cs.map Xz),Zz Zq n,Yu 5 (cs.map Xz),Zz Zq (cs.length:Int),Zz Zq (i:Int)]∧((r.1 = .ret∧n=Un fl [] cs)∨(r.1 = .exit 0∧Un fl [] cs=0))) 0 ⟨Nat.zero_le _,by simp⟩ rfl ?_ ?_
  ·rintro i ⟨hi,hp⟩
   simp only [↓A0,A0,Yg]
   by_cases hlt:i<cs.length
   ·rw [sel_pos (by simp;omega),chk_of (by simp;omega),Xp,Kerb.getD_row (d:=Kerb.noMark) hlt]
    obtain ⟨c,hc⟩:∃ c,cs.getD i Kerb.noMark=c:=⟨_,rfl⟩
    have hst:=Kerb.marksErr_step hlt hc hp
    have hcm:c∈cs:=hc ▸ Kerb.mem_row hlt
    have ho:=hok c hcm
    rw [hc]
    obtain ⟨⟨s1,s2,s3⟩,mt,mk⟩:=c
    obtain ⟨o1,o2,o3,o4,o5⟩:=ho
    dsimp only at o1 o2 o3 o4 o5 hst
    simp only [Xz,o1,o2,o3,decide_true,Yd,↓A0,A0]
    have k1:∀ code:Int,code≠0→Vp fl ⟨⟨s1,s2,s3⟩,mt,mk⟩=code→code=Un fl [] cs:=fun code h0 he=>by
     rw [he,if_pos h0] at hst;exact hst.symm
    cases h1:Yy ⟨s1,s2,s3⟩
    ·exact ⟨_,rfl,i,_,rfl,.inl ⟨rfl,k1 103 (by decide) (by simp [Vp,h1])⟩⟩
    rw [Zh,sel_false]
    by_cases h2:fl≤mt∧mt≤4294967295
    case neg =>
     rw [sel_pos (by simp;omega)]
     exact ⟨_,rfl,i,_,rfl,.inl ⟨rfl,k1 104 (by decide) (by unfold Vp;rw [if_neg (by simp [h1]),if_pos (by simp [Zg];omega)])⟩⟩
    rw [sel_neg (by simp;omega)]
    by_cases h3:0≤mk∧mk≤199
    case neg =>
     rw [sel_pos (by simp;omega)]
     exact ⟨_,rfl,i,_,rfl,.inl ⟨rfl,k1 104 (by decide) (by unfold Vp;rw [if_neg (by simp [h1]),if_pos (by simp [Zg];omega)])⟩⟩
    rw [sel_neg (by simp;omega)]
    have hw2:(decide (fl≤mt)&&decide (mt≤4294967295)&&Zg mk 199)=true:=by
     rw [Yz,Yz,decide_eq_true_eq,decide_eq_true_eq]
     exact ⟨⟨by omega,by omega⟩,Kerb.within_iff.2 ⟨by omega,by omega⟩⟩
    have hz:Vp fl ⟨⟨s1,s2,s3⟩,mt,mk⟩=0:=by
     unfold Vp
     rw [if_neg (by simp [h1])]
     dsimp only
     rw [hw2]
     rfl
    rw [hz,if_neg (by simp)] at hst
    rw [chk_of (by simp;omega)]
    simp only [Xp,List.drop_zero,← List.map_take]
    rw [chk_of (by rw [Kerb.marks_all (fun c hc=>hok c (List.mem_of_mem_take hc))];simp;omega),Kerb.map_toMark]
    cases hd:Kerb.hasMark (cs.take i) ⟨⟨s1,s2,s3⟩,mt,mk⟩
    ·rw [hd,if_neg (by simp)] at hst
     rw [sel_false,wrap_i64 (by omega) (by omega)]
     exact ⟨_,rfl,i+1,rfl,⟨by omega,hst⟩,by dsimp only;omega⟩
    ·rw [hd,if_pos rfl] at hst
     rw [sel_true]
     exact ⟨_,rfl,i,_,rfl,.inl ⟨rfl,hst.symm⟩⟩
   ·rw [sel_neg (by simp;omega)]
    refine ⟨_,rfl,i,_,rfl,.inr ⟨rfl,?_⟩⟩
    rw [hp,List.drop_eq_nil_of_le (by omega)]
    rfl
  ·rintro ⟨e,l⟩ ⟨i,n,rfl,⟨rfl,h⟩ | ⟨rfl,h⟩⟩
   ·simp only [↓A0,A0,h]
   ·simp only [↓A0,A0,h]
    rw [sel_pos (Ux _)]
 ·cases h
theorem w108:Walked Tryz.prog G 108 8 sp108:=by
 refine ⟨Tryz.f108,Tryz.func108,by decide +kernel,rfl,fun xs bl r h=> ?_⟩
 unfold sp108 at h
 split at h
 ·rename_i li x y z t cd tx
  obtain ⟨hpre,h2⟩:=chk_inv h;cases h2
  refine Eq.trans (b:=(let t0:Option (AV×Blocks):=some (Zm [Zd [],Zz .i64 104],[]);let t1:Nat:=Zy (Vw 5 li)+Zy x+Zy y+Zy z;Zx (chk (l63 x&&l63 y&&l63 z) (some (Zk (Yy (Zn x y z)),[]))) (kL fun b=>sel (!b) (some (Zm [Zd [],Zz .i64 103],[])) (sel (!Zg t 4294967295) t0 (sel (decide (cd<1)) t0 (sel (decide (cd>99)) t0 (sel (decide ((↑(Zy tx):Int)>39)) (some (Zm [Zd [],Zz .i64 105],[])) (sel (decide (Kerb.indexOf (0:UInt8) tx≥0)) (some (Zm [Zd [],Zz .i64 100],[])) (Zx (chk (decide (t1≤70368744170000)) (some (Zd (Vu (Vw 5 li) (Zn x y z)),[]))) (kB fun b=>Zx (chk (decide (Zy b≤70368744177664)) (some (Yj (b++Yw t 4 li),[]))) (kO fun l=>Zx (chk (decide (Zy l≤70368744177664)) (some (Yj (l++Yw cd 4 li),[]))) (kO fun l=>Zx (chk (decide (Zy l+Zy tx≤70368744177664)) (some (Zd (Yp l tx),[]))) (kB fun b=>some (Zm [Zd b,Zz .i64 0],[])))))))))))):Option (AV×Blocks))) (by kernel_rfl) ?_
  delta kB kO kL
  try dsimp only [cStr,cBs,cBool,cU8,cInt,cSl,l63]
  simp only [Yz,decide_eq_true_eq] at hpre
  obtain ⟨⟨⟨q1,q2⟩,q3⟩,q4⟩:=hpre
  simp only [A0]
  unfold Kerb.encodeError
  rw [chk_of (by simp [q1,q2,q3])]
  cases h1:Yy ⟨x,y,z⟩
  ·rfl
  rw [Zh,sel_false]
  cases h4:Zg t 4294967295
  ·rfl
  rw [Zh,sel_false]
  by_cases h5:1≤cd
  case neg =>
   rw [sel_pos (by simp;omega),if_neg (by simp),if_pos (by simp;omega)]
  by_cases h6:cd≤99
  case neg =>
   rw [sel_neg (by simp;omega),sel_pos (by simp;omega),if_neg (by simp),if_pos (by simp;omega)]
  rw [sel_neg (by simp;omega),sel_neg (by simp;omega),if_neg (by simp),if_neg (by simp;omega)]
  by_cases h7:39<tx.length
  ·rw [sel_pos (by simp;omega),if_pos h7]
  have l1:=Uv h1
  have l4:=Kerb.header_len 5 li
  simp only at l1
  rw [sel_neg (by simp;omega),if_neg h7]
  have hix:=Kerb.indexOf_nonneg 0 tx
  by_cases h8:(0:UInt8)∈tx
  ·rw [sel_pos (by simpa using hix.2 h8),if_pos h8]
  ·rw [sel_neg (by have:=mt hix.1 h8;simp;omega),if_neg h8]
   rw [chk_of (by simp;omega),chk_of (by simp [Zv];omega),chk_of (by simp [Zv,Zu];omega),chk_of (by simp [Zv,Zu];omega)]
 ·cases h
theorem w117:Walked Tryz.prog G 117 8 sp117:=by
 refine ⟨Tryz.f117,Tryz.func117,by decide +kernel,rfl,fun xs bl r h=> ?_⟩
 unfold sp117 at h
 split at h
 ·rename_i k x y z lf kv tk t little
  obtain ⟨hpre,h2⟩:=chk_inv h;cases h2
  refine Eq.trans (b:=(let t0:Option (AV×Blocks):=some (Zm [Zd [],Zz .i64 104],[]);let t1:List UInt8:=[]++Yw 0 1 false;let t2:List UInt8:=[]++Yw 1 1 false;let t3:Option (AV×Blocks):=chk (decide (0≤k)&&decide (k<18446744073709551616)) (some (Zd (Kerb.keyBytes k),[]));Zx (chk (decide (0≤k)&&decide (k<18446744073709551616)) (some (Zk (Kerb.keyValid k),[]))) (kL fun b=>sel (!b) (some (Zm [Zd [],Zz .i64 10],[])) (Zx (chk (l63 x&&l63 y&&l63 z) (some (Zk (Yy (Zn x y z)),[]))) (kL fun b=>sel (!b) (some (Zm [Zd [],Zz .i64 103],[])) (sel (!Zg lf 255) t0 (sel (!Zg kv 255) t0 (sel (!Zg t 4294967295) t0 (sel (decide ((↑(Zy tk):Int)>255)) (some (Zm [Zd [],Zz .i64 105],[])) (sel little (Zx t3 (kB fun b=>Zx (chk (decide (Zy (Yv t2 (Yv b []))≤140737488355328)&&decide (Zy [Zd t2,Zd b]≤1000)) (some (Yj (Yv t2 (Yv b [])),[]))) (kO fun l=>Zx (chk (decide (Zy l+Zy x+Zy y+Zy z≤70368744170000)) (some (Zd (Vu l (Zn x y z)),[]))) (kB fun b=>Zx (chk (decide (Zy b≤70368744177664)) (some (Yj (b++Yw lf 1 false),[]))) (kO fun l=>Zx (chk (decide (Zy l≤70368744177664)) (some (Yj (l++Yw kv 1 false),[]))) (kO fun l=>Zx (chk (decide (Zy l≤70368744177664)) (some (Yj (l++Yw (↑(Zy tk):Int) 1 false),[]))) (kO fun l=>Zx (chk (decide (Zy (Yv l (Yv tk []))≤140737488355328)&&decide (Zy [Zd l,Zd tk]≤1000)) (some (Yj (Yv l (Yv tk [])),[]))) (kO fun l=>Zx (chk (decide (Zy l≤70368744177664)) (some (Yj (l++Yw t 4 little),[]))) (kO fun l=>Zx (chk (decide (Zy l≤70368744177664)) (some (Zd (Kerb.pad l),[]))) (kB fun b=>some (Zm [Zd b,Zz .i64 0],[]))))))))))) (Zx t3 (kB fun b=>Zx (chk (decide (Zy (Yv t1 (Yv b []))≤140737488355328)&&decide (Zy [Zd t1,Zd b]≤1000)) (some (Yj (Yv t1 (Yv b [])),[]))) (kO fun l=>Zx (chk (decide (Zy l+Zy x+Zy y+Zy z≤70368744170000)) (some (Zd (Vu l (Zn x y z)),[]))) (kB fun b=>Zx (chk (decide (Zy b≤70368744177664)) (some (Yj (b++Yw lf 1 false),[]))) (kO fun l=>Zx (chk (decide (Zy l≤70368744177664)) (some (Yj (l++Yw kv 1 false),[]))) (kO fun l=>Zx (chk (decide (Zy l≤70368744177664)) (some (Yj (l++Yw (↑(Zy tk):Int) 1 false),[]))) (kO fun l=>Zx (chk (decide (Zy (Yv l (Yv tk []))≤140737488355328)&&decide (Zy [Zd l,Zd tk]≤1000)) (some (Yj (Yv l (Yv tk [])),[]))) (kO fun l=>Zx (chk (decide (Zy l≤70368744177664)) (some (Yj (l++Yw t 4 little),[]))) (kO fun l=>Zx (chk (decide (Zy l≤70368744177664)) (some (Zd (Kerb.pad l),[]))) (kB fun b=>some (Zm [Zd b,Zz .i64 0],[]))))))))))))))))))):Option (AV×Blocks))) (by kernel_rfl) ?_
  delta kB kO kL
  try dsimp only [cStr,cBs,cBool,cU8,cInt,cSl,l63]
  simp only [Yz,decide_eq_true_eq] at hpre
  obtain ⟨⟨⟨⟨q1,q2⟩,q3⟩,h0⟩,h1⟩:=hpre
  simp only [A0]
  unfold Vh
  rw [chk_of (by simp [h0,h1])]
  cases hk:Kerb.keyValid k
  ·rfl
  rw [Zh,sel_false,chk_of (by simp [q1,q2,q3])]
  cases h1:Yy ⟨x,y,z⟩
  ·rfl
  rw [Zh,sel_false]
  cases h4:Zg lf 255
  ·rfl
  rw [Zh,sel_false]
  cases h5:Zg kv 255
  ·rfl
  rw [Zh,sel_false]
  cases h6:Zg t 4294967295
  ·rfl
  rw [Zh,sel_false]
  by_cases h7:255<tk.length
  ·rw [sel_pos (by simp;omega),if_neg (by simp),if_neg (by simp),if_neg (by simp),if_pos h7]
  have l1:=Uv h1
  simp only at l1
  rw [sel_neg (by simp;omega),if_neg (by simp),if_neg (by simp),if_neg (by simp),if_neg h7]
  cases little
  ·rw [sel_false,chk_of (by simp;omega),chk_of (by first | (simp [Zv,Zu,Zj];done) | (simp [Zv,Zu,Zj];omega)),chk_of (by first | (simp [Zv,Zu,Zj];done) | (simp [Zv,Zu,Zj];omega)),chk_of (by first | (simp [Zv,Zu,Zj];done) | (simp [Zv,Zu,Zj];omega)),chk_of (by first | (simp [Zv,Zu,Zj];done) | (simp [Zv,Zu,Zj];omega)),chk_of (by first | (simp [Zv,Zu,Zj];done) | (simp [Zv,Zu,Zj];omega)),chk_of (by first | (simp [Zv,Zu,Zj];done) | (simp [Zv,Zu,Zj];omega)),chk_of (by first | (simp [Zv,Zu,Zj];done) | (simp [Zv,Zu,Zj];omega)),chk_of (by first | (simp [Zv,Zu,Zj];done) | (simp [Zv,Zu,Zj];omega))]
   simp
  ·rw [sel_true,chk_of (by simp;omega),chk_of (by first | (simp [Zv,Zu,Zj];done) | (simp [Zv,Zu,Zj];omega)),chk_of (by first | (simp [Zv,Zu,Zj];done) | (simp [Zv,Zu,Zj];omega)),chk_of (by first | (simp [Zv,Zu,Zj];done) | (simp [Zv,Zu,Zj];omega)),chk_of (by first | (simp [Zv,Zu,Zj];done) | (simp [Zv,Zu,Zj];omega)),chk_of (by first | (simp [Zv,Zu,Zj];done) | (simp [Zv,Zu,Zj];omega)),chk_of (by first | (simp [Zv,Zu,Zj];done) | (simp [Zv,Zu,Zj];omega)),chk_of (by first | (simp [Zv,Zu,Zj];done) | (simp [Zv,Zu,Zj];omega)),chk_of (by first | (simp [Zv,Zu,Zj];done) | (simp [Zv,Zu,Zj];omega))]
   simp
 ·cases h
theorem w119:Walked Tryz.prog G 119 8 sp119:=by
 refine ⟨Tryz.f119,Tryz.func119,by decide +kernel,rfl,fun xs bl r h=> ?_⟩
 unfold sp119 at h
 split at h
 ·rename_i li x y z t ex kv sd
  obtain ⟨hpre,h2⟩:=chk_inv h;cases h2
  refine Eq.trans (b:=(let t0:Option (AV×Blocks):=some (Zm [Zd [],Zz .i64 104],[]);let t1:Nat:=Zy (Vw 2 li)+Zy x+Zy y+Zy z;Zx (chk (l63 x&&l63 y&&l63 z) (some (Zk (Yy (Zn x y z)),[]))) (kL fun b=>sel (!b) (some (Zm [Zd [],Zz .i64 103],[])) (sel (!Zg t 4294967295) t0 (sel (!Zg ex 4294967295) t0 (sel (!Zg kv 255) t0 (sel (decide ((↑(Zy sd):Int)>1012)) (some (Zm [Zd [],Zz .i64 105],[])) (Zx (chk (decide (t1≤70368744170000)) (some (Zd (Vu (Vw 2 li) (Zn x y z)),[]))) (kB fun b=>Zx (chk (decide (Zy b≤70368744177664)) (some (Yj (b++Yw t 4 li),[]))) (kO fun l=>Zx (chk (decide (Zy l≤70368744177664)) (some (Yj (l++Yw 1 1 false),[]))) (kO fun l=>Zx (chk (decide (Zy l≤70368744177664)) (some (Yj (l++Yw ex 4 li),[]))) (kO fun l=>Zx (chk (decide (Zy l≤70368744177664)) (some (Yj (l++Yw kv 1 false),[]))) (kO fun l=>Zx (chk (decide (Zy l≤70368744177664)) (some (Yj (l++Yw (↑(Zy sd):Int) 2 li),[]))) (kO fun l=>Zx (chk (decide (Zy (Yv l (Yv sd []))≤140737488355328)&&decide (Zy [Zd l,Zd sd]≤1000)) (some (Yj (Yv l (Yv sd [])),[]))) (kO fun l=>some (Zm [Zd l,Zz .i64 0],[])))))))))))))):Option (AV×Blocks))) (by kernel_rfl) ?_
  delta kB kO kL
  try dsimp only [cStr,cBs,cBool,cU8,cInt,cSl,l63]
  simp only [Yz,decide_eq_true_eq] at hpre
  obtain ⟨⟨q1,q2⟩,q3⟩:=hpre
  simp only [A0]
  unfold Kerb.encodeReply
  rw [chk_of (by simp [q1,q2,q3])]
  cases h1:Yy ⟨x,y,z⟩
  ·rfl
  rw [Zh,sel_false]
  cases h4:Zg t 4294967295
  ·rfl
  rw [Zh,sel_false]
  cases h5:Zg ex 4294967295
  ·rfl
  rw [Zh,sel_false]
  cases h6:Zg kv 255
  ·rfl
  rw [Zh,sel_false]
  by_cases h7:1012<sd.length
  ·rw [sel_pos (by simp;omega),if_neg (by simp),if_neg (by simp),if_pos h7]
  have l1:=Uv h1
  have l4:=Kerb.header_len 2 li
  simp only at l1
  rw [sel_neg (by simp;omega),if_neg (by simp),if_neg (by simp),if_neg h7]
  rw [chk_of (by simp;omega),chk_of (by simp [Zv];omega),chk_of (by simp [Zv,Zu];omega),chk_of (by simp [Zv,Zu];omega),chk_of (by simp [Zv,Zu];omega),chk_of (by simp [Zv,Zu];omega),chk_of (by simp [Zv,Zu];omega)]
  simp
 ·cases h
theorem w142:Walked Tryz.prog G 142 8 sp142:=by
 refine ⟨Tryz.f142,Tryz.func142,by decide +kernel,rfl,fun xs bl r h=> ?_⟩
 unfold sp142 at h
 split at h
 ·rename_i b pos
  obtain ⟨hpre,h2⟩:=chk_inv h;cases h2
  refine Eq.trans (b:=(Zx (loopM (fun (st:List AV)=>cBs st fun b r=>cInt .i64 r fun n r=>let t0:Option (AV×Blocks):=chk (decide (Zy b≤4611686018427387904)) (some (Zm [Zw (Kerb.GotB.val (Xn b n)),Zz .i64 (Kerb.GotB.next (Xn b n)),Zz .i64 (Kerb.GotB.err (Xn b n))],[]));cStr r fun b_1 r=>cStr r fun b_2 r=>cStr r fun b_3 r=>cInt .i64 r fun n_1 r=>cInt .i64 r fun n_2 r=>cStr r fun b_4 r=>cStr r fun b_5 r=>cStr r fun b_6 r=>cInt .i64 r fun n_3 r=>cInt .i64 r fun n_4 r=>let t1:List AV:=[Zw b_6,Zz .i64 n_3,Zz .i64 (Zf .i64 (n_4+1))];onNil r (sel (decide (n_4<n_3)) (chk (decide (0≤n_4)&&decide (n_4<(↑(Zy [0,1,2]):Int))&&true) (sel (Nat.beq (Zb n_4) 0) (Zx t0 (kT fun vs=>cStr vs fun b_7 r=>cInt .i64 r fun n r=>cInt .i64 r fun n_5 r=>onNil r (sel (!n_5==0) (some (Xg (Ud,[Zd b,Zz .i64 n,Zw [],Zw [],Zw [],Zz .i64 0,Zz .i64 n_5,Zw b_7,Zw b_5,Zw b_6,Zz .i64 n_3,Zz .i64 n_4]))) (some (Sum.inl (Zd b::Zz .i64 n::Zw b_1::Zw b_2::Zw b_3::Zz .i64 n_1::Zz .i64 n_2::Zw b_7::Zw b_5::t1)))))) (sel (Nat.beq (Zb n_4-1) 0) (Zx t0 (kT fun vs=>cStr vs fun b_7 r=>cInt .i64 r fun n r=>cInt .i64 r fun n_5 r=>onNil r (sel (!n_5==0) (some (Xg (Ud,[Zd b,Zz .i64 n,Zw [],Zw [],Zw [],Zz .i64 0,Zz .i64 n_5,Zw b_4,Zw b_7,Zw b_6,Zz .i64 n_3,Zz .i64 n_4]))) (some (Sum.inl (Zd b::Zz .i64 n::Zw b_1::Zw b_2::Zw b_3::Zz .i64 n_1::Zz .i64 n_2::Zw b_4::Zw b_7::t1)))))) (sel (Nat.beq (Zb n_4-1-1) 0) (Zx t0 (kT fun vs=>cStr vs fun b_7 r=>cInt .i64 r fun n r=>cInt .i64 r fun n_5 r=>onNil r (sel (!n_5==0) (some (Xg (Ud,[Zd b,Zz .i64 n,Zw [],Zw [],Zw [],Zz .i64 0,Zz .i64 n_5,Zw b_4,Zw b_5,Zw b_7,Zz .i64 n_3,Zz .i64 n_4]))) (some (Sum.inl [Zd b,Zz .i64 n,Zw b_1,Zw b_2,Zw b_3,Zz .i64 n_1,Zz .i64 n_2,Zw b_4,Zw b_5,Zw b_7,Zz .i64 n_3,Zz .i64 (Zf .i64 (n_4+1))]))))) none)))) (some (Xg (Ex.exit 0,[Zd b,Zz .i64 n,Zw b_1,Zw b_2,Zw b_3,Zz .i64 n_1,Zz .i64 n_2,Zw b_4,Zw b_5,Zw b_6,Zz .i64 n_3,Zz .i64 n_4]))))) [Zd b,Zz .i64 pos,Zw [],Zw [],Zw [],Zz .i64 0,Zz .i64 0,Zw [],Zw [],Zw [],Zz .i64 (↑(Zy [0+0,0+1,0+2]):Int),Zz .i64 0]) fun (r:Ex×List AV)=>cBs (Yk r) fun b r_1=>cInt .i64 r_1 fun n r_2=>cStr r_2 fun b r_3=>cStr r_3 fun b_1 r_4=>cStr r_4 fun b_2 r_5=>cInt .i64 r_5 fun n_1 r_6=>cInt .i64 r_6 fun n_2 r_7=>cStr r_7 fun b_3 r_8=>cStr r_8 fun b_4 r_9=>cStr r_9 fun b_5 r_10=>cInt .i64 r_10 fun n_3 r_11=>cInt .i64 r_11 fun n_4 r_12=>onNil r_12 (exK r.1 (some (Zm [Xv [Zw b,Zw b_1,Zw b_2],Zz .i64 n_1,Zz .i64 n_2],[])) fun (j:Nat)=>sel (Nat.beq j 0) (Zx (chk (l63 b_3&&l63 b_4&&l63 b_5) (some (Zk (Yy (Zn b_3 b_4 b_5)),[]))) (kL fun b=>sel (!b) (some (Zm [Xv [Zw [],Zw [],Zw []],Zz .i64 0,Zz .i64 103],[])) (some (Zm [Xv [Zw b_3,Zw b_4,Zw b_5],Zz .i64 n,Zz .i64 0],[])))) none):Option (AV×Blocks))) (by kernel_rfl) ?_
  delta kT kL
  try dsimp only [cStr,cBs,cBool,cU8,cInt,cSl,l63]
  have hb:=of_decide_eq_true hpre
  obtain ⟨T0,hT0⟩:∃ T,T=Xn b pos:=⟨_,rfl⟩
  obtain ⟨T1,hT1⟩:∃ T,T=Xn b T0.next:=⟨_,rfl⟩
  obtain ⟨T2,hT2⟩:∃ T,T=Xn b T1.next:=⟨_,rfl⟩
  have hp:Kerb.prin b pos=if T0.err≠0 then ⟨Kerb.noPrin,0,T0.err⟩ else if T1.err≠0 then ⟨Kerb.noPrin,0,T1.err⟩ else if T2.err≠0 then ⟨Kerb.noPrin,0,T2.err⟩
    else if Yy ⟨T0.val,T1.val,T2.val⟩ then ⟨⟨T0.val,T1.val,T2.val⟩,T2.next,0⟩ else ⟨Kerb.noPrin,0,103⟩:=by
   rw [hT2,hT1,hT0];rfl
  have k0:=Kerb.text_len b pos
  rw [← hT0] at k0
  have k1:=Kerb.text_len b T0.next
  rw [← hT1] at k1
  have k2:=Kerb.text_len b T1.next
  rw [← hT2] at k2
  refine loop_rounds (fun i:Nat=>match i with
    | 0=>[Zd b,Zz Zq pos,Zw [],Zw [],Zw [],Zz Zq 0,Zz Zq 0,Zw [],Zw [],Zw [],Zz Zq 3,Zz Zq 0]
    | 1=>[Zd b,Zz Zq T0.next,Zw [],Zw [],Zw [],Zz Zq 0,Zz Zq 0,Zw T0.val,Zw [],Zw [],Zz Zq 3,Zz Zq 1]
    | 2=>[Zd b,Zz Zq T1.next,Zw [],Zw [],Zw [],Zz Zq 0,Zz Zq 0,Zw T0.val,Zw T1.val,Zw [],Zz Zq 3,Zz Zq 2]
    | _=>[Zd b,Zz Zq T2.next,Zw [],Zw [],Zw [],Zz Zq 0,Zz Zq 0,Zw T0.val,Zw T1.val,Zw T2.val,Zz Zq 3,Zz Zq 3])
   (fun i=>i≤3∧(1≤i→T0.err=0)∧(2≤i→T1.err=0)∧(3≤i→T2.err=0)) (fun i=>3-i)
   (fun r=>(T0.err=0∧T1.err=0∧T2.err=0∧r=(Ex.exit 0,[Zd b,Zz Zq T2.next,Zw [],Zw [],Zw [],Zz Zq 0,Zz Zq 0,Zw T0.val,Zw T1.val,Zw T2.val,Zz Zq 3,Zz Zq 3])) ∨
    ∃ n x y z i,Kerb.prin b pos=⟨Kerb.noPrin,0,(Kerb.prin b pos).err⟩∧r=(Ud,[Zd b,Zz Zq n,Zw [],Zw [],Zw [],Zz Zq 0,Zz Zq (Kerb.prin b pos).err,Zw x,Zw y,Zw z,Zz Zq 3,Zz Zq i])) 0 ⟨by omega,by omega,by omega,by omega⟩ rfl ?_ ?_
  ·rintro i ⟨hi,g0,g1,g2⟩
   have hc:i=0∨i=1∨i=2∨i=3:=by omega
   rcases hc with rfl | rfl | rfl | rfl
   ·simp only [A0]
    rw [sel_pos (by decide),chk_of (by decide),sel_pos (by decide),chk_of hpre,← hT0]
    by_cases h:T0.err=0
    ·rw [sel_neg (by simp [h])]
     exact ⟨_,rfl,1,rfl,⟨by omega,fun _=>h,by omega,by omega⟩,by dsimp only;omega⟩
    ·rw [sel_pos (by simpa using h)]
     exact ⟨_,rfl,.inr ⟨_,_,_,_,_,by rw [hp,if_pos h],by rw [hp,if_pos h]⟩⟩
   ·simp only [A0]
    have e0:=g0 (by omega)
    rw [sel_pos (by decide),chk_of (by decide),sel_neg (by decide),sel_pos (by decide),chk_of hpre,← hT1]
    by_cases h:T1.err=0
    ·rw [sel_neg (by simp [h])]
     exact ⟨_,rfl,2,rfl,⟨by omega,fun _=>e0,fun _=>h,by omega⟩,by dsimp only;omega⟩
    ·rw [sel_pos (by simpa using h)]
     exact ⟨_,rfl,.inr ⟨_,_,_,_,_,by rw [hp,if_neg (by simp [e0]),if_pos h],by rw [hp,if_neg (by simp [e0]),if_pos h]⟩⟩
   ·simp only [A0]
    have e0:=g0 (by omega)
    have e1:=g1 (by omega)
    rw [sel_pos (by decide),chk_of (by decide),sel_neg (by decide),sel_neg (by decide),sel_pos (by decide),chk_of hpre,← hT2]
    by_cases h:T2.err=0
    ·rw [sel_neg (by simp [h])]
     exact ⟨_,rfl,3,rfl,⟨by omega,fun _=>e0,fun _=>e1,fun _=>h⟩,by dsimp only;omega⟩
    ·rw [sel_pos (by simpa using h)]
     exact ⟨_,rfl,.inr ⟨_,_,_,_,_,by rw [hp,if_neg (by simp [e0]),if_neg (by simp [e1]),if_pos h],by rw [hp,if_neg (by simp [e0]),if_neg (by simp [e1]),if_pos h]⟩⟩
   ·simp only [A0]
    rw [sel_neg (by decide)]
    exact ⟨_,rfl,.inl ⟨g0 (by omega),g1 (by omega),g2 (by omega),rfl⟩⟩
  ·rintro r (⟨e0,e1,e2,rfl⟩ | ⟨n,x,y,z,i,h,rfl⟩)
   ·simp only [A0]
    rw [sel_pos (Ux _),chk_of (by simp;omega),hp,if_neg (by simp [e0]),if_neg (by simp [e1]),if_neg (by simp [e2])]
    cases hv:Yy ⟨T0.val,T1.val,T2.val⟩
    ·rfl
    ·rfl
   ·simp only [A0]
    rw [h]
    rfl
 ·cases h
theorem w159:Walked Tryz.prog G 159 8 sp159:=by
 refine ⟨Tryz.f159,Tryz.func159,by decide +kernel,rfl,fun xs bl r h=> ?_⟩
 unfold sp159 at h
 split at h
 ·rename_i li x y z ad k lf iss sv ins
  obtain ⟨hpre,h2⟩:=chk_inv h;cases h2
  refine Eq.trans (b:=(Zx (chk (decide (Zy x≤9223372036854775807)&&decide (Zy y≤9223372036854775807)&&decide (Zy z≤9223372036854775807)) (some (Zk (Yy (Zn x y z)),[]))) fun (r:AV×Blocks)=>onNilB (Yk r) (Wf (Yn r) fun b=>sel (!b) (some (Zz .i64 103,[])) (Zx (chk (decide (Zy sv≤9223372036854775807)) (some (Zk (Xb sv),[]))) fun (r:AV×Blocks)=>onNilB (Yk r) (Wf (Yn r) fun b=>sel (!b) (some (Zz .i64 103,[])) (Zx (chk (decide (Zy ins≤9223372036854775807)) (some (Zk (Xq ins),[]))) fun (r:AV×Blocks)=>onNilB (Yk r) (Wf (Yn r) fun b=>sel (!b) (some (Zz .i64 103,[])) (Zx (chk (decide (0≤k)&&decide (k<18446744073709551616)) (some (Zz .i64 (Kerb.classOf k),[]))) fun (r:AV×Blocks)=>onNilB (Yk r) (Wu .i64 (Yn r) fun n=>sel (!n==2) (some (Zz .i64 10,[])) (sel (!Zg ad 4294967295) (some (Zz .i64 104,[])) (sel (!Zg lf 255) (some (Zz .i64 104,[])) (sel (!Zg iss 4294967295) (some (Zz .i64 104,[])) (some (Zz .i64 0,[])))))))))))):Option (AV×Blocks))) (by kernel_rfl) ?_
  simp only [Yz,decide_eq_true_eq] at hpre
  obtain ⟨⟨⟨⟨⟨⟨h1,h2⟩,h3⟩,h4⟩,h5⟩,h6⟩,h7⟩:=hpre
  simp only [h1,h2,h3,h4,h5,h6,h7,decide_true,Yd,↓A0,A0]
  unfold Kerb.Ticket.err
  dsimp only
  cases Yy ⟨x,y,z⟩
  ·rfl
  cases Xb sv
  ·rfl
  cases Xq ins
  ·rfl
  simp only [Zh,Yd,sel_false]
  by_cases hc:Kerb.classOf k=2
  case neg=>rw [sel_pos (by simpa using hc),if_neg (by simp),if_pos hc]
  rw [sel_neg (by simp [hc]),if_neg (by simp),if_neg (by simp [hc])]
  cases Zg ad 4294967295
  ·rfl
  cases Zg lf 255
  ·rfl
  cases Zg iss 4294967295
  ·rfl
  rfl
 ·cases h
theorem w160:Walked Tryz.prog G 160 8 sp160:=by
 refine ⟨Tryz.f160,Tryz.func160,by decide +kernel,rfl,fun xs bl r h=> ?_⟩
 unfold sp160 at h
 split at h
 ·rename_i x y z ck tc tm
  obtain ⟨hpre,h2⟩:=chk_inv h;cases h2
  refine Eq.trans (b:=(Zx (chk (decide (Zy x≤9223372036854775807)&&decide (Zy y≤9223372036854775807)&&decide (Zy z≤9223372036854775807)) (some (Zk (Yy (Zn x y z)),[]))) fun (r:AV×Blocks)=>onNilB (Yk r) (Wf (Yn r) fun b=>sel (!b) (some (Zz .i64 103,[])) (sel (!Zg ck 4294967295) (some (Zz .i64 104,[])) (sel (!Zg tc 199) (some (Zz .i64 104,[])) (sel (!Zg tm 4294967295) (some (Zz .i64 104,[])) (some (Zz .i64 0,[])))))):Option (AV×Blocks))) (by kernel_rfl) ?_
  simp only [A0,Wy,Wj,Wh,hpre]
  unfold Kerb.Auth.check
  simp only
  cases Yy ⟨x,y,z⟩
  ·rfl
  cases Zg ck 4294967295
  ·rfl
  cases Zg tc 199
  ·rfl
  cases Zg tm 4294967295<;>rfl
 ·cases h
theorem w33:Walked Tryz.prog G 33 9 sp33:=by
 refine ⟨Tryz.f33,Tryz.func33,by decide +kernel,rfl,fun xs bl r h=> ?_⟩
 unfold sp33 at h
 split at h
 ·rename_i b
  obtain ⟨hpre,h2⟩:=chk_inv h;cases h2
  refine Eq.trans (b:=(let t1:AV:=Xv [Zk false,Zk false,Zz .i64 0,Zw [],Zd [],Zd [],Zz .i64 0,Zz .i64 0,Zw [],Zw []];let t0:Option (AV×Blocks):=some (Zm [t1,Zz .i64 100],[]);sel (!Yk (Uf b [3])==0) (some (Zm [t1,Zz .i64 (Yk (Uf b [3]))],[])) (Zx (chk (decide (Zy b≤140737488355328)) (some (Zm [Xv [Zk (Kerb.ApRequest.little (Wg (Wq b))),Zk (Kerb.ApRequest.mutual_ (Wg (Wq b))),Zz .i64 (Kerb.ApRequest.kvno (Wg (Wq b))),Zw (Kerb.ApRequest.realm (Wg (Wq b))),Zd (Kerb.ApRequest.ticket (Wg (Wq b))),Zd (Kerb.ApRequest.auth (Wg (Wq b)))],Zz .i64 (Kerb.GotAp.next (Wq b))],[]))) (kT fun vs=>onCons vs fun x r=>Vx x fun cs=>cBool cs fun b_1 r_1=>cBool r_1 fun b_2 r_2=>cInt .i64 r_2 fun n r_3=>cStr r_3 fun b_3 r_4=>cBs r_4 fun b_4 r_5=>cBs r_5 fun b_5 r_6=>onNil r_6 (cInt .i64 r fun n_1 r=>let t2:Kerb.Got:=Kerb.get b n_1 4 (Yn (Uf b [3]));onNil r (Zx (chk (decide (Zy b≤4611686018427387904)) (some (Zm [Zz .i64 (Kerb.Got.val t2),Zz .i64 (Kerb.Got.next t2),Zz .i64 (Kerb.Got.err t2)],[]))) (kT fun vs=>cInt .i64 vs fun n_2 r=>cInt .i64 r fun n_3 r=>cInt .i64 r fun n_4 r=>onNil r (Zx (chk (decide (Zy b≤4611686018427387904)) (some (Zm [Zz .i64 (Kerb.Got.val (Kerb.get b n_3 1 false)),Zz .i64 (Kerb.Got.next (Kerb.get b n_3 1 false)),Zz .i64 (Kerb.Got.err (Kerb.get b n_3 1 false))],[]))) (kT fun vs=>cInt .i64 vs fun n_5 r=>cInt .i64 r fun n_6 r=>cInt .i64 r fun n_7 r=>onNil r (Zx (chk (decide (Zy b≤4611686018427387904)) (some (Zm [Zw (Kerb.GotB.val (Xn b n_6)),Zz .i64 (Kerb.GotB.next (Xn b n_6)),Zz .i64 (Kerb.GotB.err (Xn b n_6))],[]))) (kT fun vs=>cStr vs fun b_6 r=>cInt .i64 r fun n_8 r=>cInt .i64 r fun n_9 r=>onNil r (Zx (chk (decide (Zy b≤4611686018427387904)) (some (Zm [Zw (Kerb.GotB.val (Xn b n_8)),Zz .i64 (Kerb.GotB.next (Xn b n_8)),Zz .i64 (Kerb.GotB.err (Xn b n_8))],[]))) (kT fun vs=>cStr vs fun b_7 r=>cInt .i64 r fun n_10 r=>cInt .i64 r fun n_11 r=>onNil r (Zx (chk (l63 b_3&&l63 b_6&&l63 b_7) (some (Zm [Zd (Xy (Vk (Vd (Xf b_1 b_2 n b_3 b_4 b_5) n_2 n_5 b_6 b_7))),Zz .i64 (Xx (Vk (Vd (Xf b_1 b_2 n b_3 b_4 b_5) n_2 n_5 b_6 b_7)))],[]))) (kT fun vs=>cBs vs fun b_8 r=>cInt .i64 r fun n_12 r=>onNil r (sel (!n_12==0) t0 (sel (!b_8==b) t0 (some (Zm [Xv [Zk b_1,Zk b_2,Zz .i64 n,Zw b_3,Zd b_4,Zd b_5,Zz .i64 n_2,Zz .i64 n_5,Zw b_6,Zw b_7],Zz .i64 0],[]))))))))))))))))):Option (AV×Blocks))) (by kernel_rfl) ?_
  delta kT
  try dsimp only [cStr,cBs,cBool,cU8,cInt,cSl,l63]
  have hb:=of_decide_eq_true hpre
  have hpre2:decide (b.length≤4611686018427387904)=true:=by simp;omega
  obtain ⟨g1,g2,g3⟩:=Kerb.readTgs_bd b (Uf b [3]).1
  have e1:∀ p,decide ((Xn b p).val.length≤9223372036854775807)=true:=fun p=>by have:=Kerb.text_len b p;simp;omega
  unfold Kerb.decodeTgs
  by_cases h:(Uf b [3]).2=0
  case neg=>rw [sel_pos (by simpa using h),if_pos h];rfl
  rw [sel_neg (by simpa using h),if_neg (by simpa using h)]
  have g4:decide ((Wq b).val.realm.length≤9223372036854775807)=true:=decide_eq_true (show (Wq b).val.realm.length≤9223372036854775807 from g1)
  simp only [hpre,hpre2,g4,e1,decide_true,Yd,↓A0,A0]
  exact Kerb.decBy_fin (b:=b) (no:=Kerb.noTgs) (enc:=Vk) (rd:=fun b=>(Kerb.readTgs b (Uf b [3]).1,false)) _ false rfl (fun x e=>(Zm [.agg [.bool (x).ap.little,.bool (x).ap.mutual_,.int .i64 (x).ap.kvno,.str (x).ap.realm,.bs (x).ap.ticket,.bs (x).ap.auth,.int .i64 (x).time,.int .i64 (x).life,.str (x).service,.str (x).inst],Zz Zq e],([]:Blocks)))
 ·cases h
theorem w61:Walked Tryz.prog G 61 9 sp61:=by
 refine ⟨Tryz.f61,Tryz.func61,by decide +kernel,rfl,fun xs bl r h=> ?_⟩
 unfold sp61 at h
 split at h
 ·rename_i m1 m2 m3 kls sz fl mls sk
  obtain ⟨hpre,h2⟩:=chk_inv h;cases h2
  refine Eq.trans (b:=(Zx (chk (decide (Zy m1≤9223372036854775807)&&decide (Zy m2≤9223372036854775807)&&decide (Zy m3≤9223372036854775807)) (some (Zk (Yy (Zn m1 m2 m3)),[]))) fun (r:AV×Blocks)=>onNilB (Yk r) (Wf (Yn r) fun b=>sel (!b) (some (Zz .i64 103,[])) (Zx (chk (Uw kls Kerb.isSKey&&decide (Zy kls≤1000000)) (some (Zz .i64 (Kerb.skErr (Xu Kerb.toSKey kls)),[]))) fun (r:AV×Blocks)=>onNilB (Yk r) (Wu .i64 (Yn r) fun n=>sel (!n==0) (some (Zz .i64 n,[])) (Zx (chk (Uw mls Kerb.isMark&&decide (Zy mls≤1000000)) (some (Zz .i64 (Up (Kerb.RCache.mk sz fl (Xu Kerb.toMark mls))),[]))) fun (r:AV×Blocks)=>onNilB (Yk r) (Wu .i64 (Yn r) fun n=>sel (!n==0) (some (Zz .i64 n,[])) (sel (!Zg sk 4294967295) (some (Zz .i64 104,[])) (some (Zz .i64 0,[])))))))):Option (AV×Blocks))) (by kernel_rfl) ?_
  simp only [Yz,decide_eq_true_eq] at hpre
  obtain ⟨⟨⟨⟨⟨⟨l1,l2⟩,l3⟩,ka⟩,kl⟩,ma⟩,ml⟩:=hpre
  obtain ⟨ks,rfl,hks⟩:=Kerb.skeys_of ka
  obtain ⟨ms,rfl,hms⟩:=Kerb.marks_of ma
  have hkT:=Kerb.skeys_all hks
  have hmT:=Kerb.marks_all hms
  simp only [Yg] at kl ml
  simp only [Kerb.map_toSKey,Kerb.map_toMark,Yg,hkT,hmT,kl,ml,l1,l2,l3,decide_true,Yd,↓A0,A0]
  unfold Kerb.Server.err
  dsimp only
  cases g1:Yy ⟨m1,m2,m3⟩
  ·rfl
  rw [Zh,sel_false,if_neg (by simp)]
  by_cases g2:Kerb.skErr ks=0
  case neg=>rw [sel_pos (by simpa using g2),if_pos g2]
  rw [sel_neg (by simpa using g2),if_neg (by simpa using g2)]
  by_cases g3:Up ⟨sz,fl,ms⟩=0
  case neg=>rw [sel_pos (by simpa using g3),if_pos g3]
  rw [sel_neg (by simpa using g3),if_neg (by simpa using g3)]
  cases Zg sk 4294967295<;>rfl
 ·cases h
theorem w64:Walked Tryz.prog G 64 9 sp64:=by
 refine ⟨Tryz.f64,Tryz.func64,by decide +kernel,rfl,fun xs bl r h=> ?_⟩
 unfold sp64 at h
 split at h
 ·rename_i sz fl mls a1 a2 a3 at_ atk now skw
  obtain ⟨hpre,h2⟩:=chk_inv h;cases h2
  refine Eq.trans (b:=(let t0:AV:=Xv [Zz .i64 0,Zz .i64 0,Yu 5 []];Zx (chk (Uw mls Kerb.isMark&&decide (Zy mls≤1000000)) (some (Zz .i64 (Up (Kerb.RCache.mk sz fl (Xu Kerb.toMark mls))),[]))) (kI .i64 fun n=>sel (!n==0) (some (Zm [t0,Zz .i64 108],[])) (Zx (chk (l63 a1&&l63 a2&&l63 a3) (some (Zk (Yy (Zn a1 a2 a3)),[]))) (kL fun b=>sel (!b) (some (Zm [t0,Zz .i64 103],[])) (sel (!(decide (0≤atk)&&decide (atk≤199))) (some (Zm [t0,Zz .i64 104],[])) (sel (!Kerb.near at_ now skw) (some (Zm [t0,Zz .i64 37],[])) (sel (decide (at_<fl)) (some (Zm [t0,Zz .i64 37],[])) (Zx (chk (Uw mls Kerb.isMark&&decide (Zy mls≤1000000)) (some (Zk (Kerb.hasMark (Xu Kerb.toMark mls) (Kerb.Mark.mk (Zn a1 a2 a3) at_ atk)),[]))) (kL fun b=>sel b (some (Zm [t0,Zz .i64 34],[])) (Zx (loopM (fun (st:List AV)=>cInt .i64 st fun n r=>cInt .i64 r fun n_1 r=>cSl 5 r fun b r=>cStr r fun b_1 r=>cStr r fun b_2 r=>cStr r fun b_3 r=>cInt .i64 r fun n_2 r=>cInt .i64 r fun n_3 r=>cInt .i64 r fun n_4 r=>cInt .i64 r fun n_5 r=>cSl 5 r fun b_4 r=>cInt .i64 r fun n_6 r=>cInt .i64 r fun n_7 r=>onCons r fun x r=>AV.onOwnL x fun y=>cSl 5 r fun b_5 r=>cInt .i64 r fun n_8 r=>cInt .i64 r fun n_9 r=>let t1:List AV:=[Yu 5 b_5,Zz .i64 n_8,Zz .i64 (Zf .i64 (n_9+1))];onNil r (sel (decide (n_9<n_8)) (chk (decide (0≤n_9)&&decide (n_9<(↑(Zy b_5):Int))&&true) (Vx (Xj b_5 (Zb n_9) Vg) fun cs=>cStr cs fun b_6 r=>cStr r fun b_7 r=>cStr r fun b_8 r=>cInt .i64 r fun n_10 r=>cInt .i64 r fun n_11 r=>let t2:List AV:=[Xv [Zw b_6,Zw b_7,Zw b_8,Zz .i64 n_10,Zz .i64 n_11]];onNil r (sel (decide (n_10≥n_7)) (chk (room (Zy y+Zy t2) (nat_lit 64)) (some (Sum.inl (Zz .i64 n::Zz .i64 n_1::Yu 5 b::Zw b_1::Zw b_2::Zw b_3::Zz .i64 n_2::Zz .i64 n_3::Zz .i64 n_4::Zz .i64 n_5::Yu 5 b_4::Zz .i64 n_6::Zz .i64 n_7::AV.ownL (y++t2)::t1)))) (some (Sum.inl (Zz .i64 n::Zz .i64 n_1::Yu 5 b::Zw b_1::Zw b_2::Zw b_3::Zz .i64 n_2::Zz .i64 n_3::Zz .i64 n_4::Zz .i64 n_5::Yu 5 b_4::Zz .i64 n_6::Zz .i64 n_7::AV.ownL y::t1)))))) (some (Xg (Ex.exit 1,[Zz .i64 n,Zz .i64 n_1,Yu 5 b,Zw b_1,Zw b_2,Zw b_3,Zz .i64 n_2,Zz .i64 n_3,Zz .i64 n_4,Zz .i64 n_5,Yu 5 b_4,Zz .i64 n_6,Zz .i64 n_7,AV.ownL y,Yu 5 b_5,Zz .i64 n_8,Zz .i64 n_9]))))) [Zz .i64 sz,Zz .i64 fl,Yu 5 mls,Zw a1,Zw a2,Zw a3,Zz .i64 at_,Zz .i64 atk,Zz .i64 0,Zz .i64 0,Yu 5 [],Zz .i64 sz,Zz .i64 (Kerb.imax fl (Zf .i64 (now-skw))),AV.ownL [],Yu 5 mls,Zz .i64 (↑(Zy mls):Int),Zz .i64 0]) fun (r:Ex×List AV)=>cInt .i64 (Yk r) fun n r_1=>cInt .i64 r_1 fun n_1 r_2=>cSl 5 r_2 fun b r_3=>cStr r_3 fun b r_4=>cStr r_4 fun b_1 r_5=>cStr r_5 fun b_2 r_6=>cInt .i64 r_6 fun n_2 r_7=>cInt .i64 r_7 fun n_3 r_8=>let t3:List AV:=[Xv [Zw b,Zw b_1,Zw b_2,Zz .i64 n_2,Zz .i64 n_3]];cInt .i64 r_8 fun n_4 r_9=>cInt .i64 r_9 fun n_5 r_10=>cSl 5 r_10 fun b r_11=>cInt .i64 r_11 fun n_6 r_12=>cInt .i64 r_12 fun n_7 r_13=>onCons r_13 fun x r_14=>AV.onOwnL x fun y=>cSl 5 r_14 fun b r_15=>cInt .i64 r_15 fun n_8 r_16=>cInt .i64 r_16 fun n_9 r_17=>onNil r_17 (exK r.1 none fun (j:Nat)=>sel (Nat.beq j 1) (sel (decide ((↑(Zy y):Int)≥n)) (some (Zm [t0,Zz .i64 82],[])) (chk (room (Zy y+Zy t3) (nat_lit 64)) (some (Zm [Xv [Zz .i64 n_6,Zz .i64 n_7,Yu 5 (y++t3)],Zz .i64 0],[])))) none)))))))))):Option (AV×Blocks))) (by kernel_rfl) ?_
  delta kL kI
  try dsimp only [cStr,cBs,cBool,cU8,cInt,cSl,l63]
  simp only [Yz,decide_eq_true_eq] at hpre
  obtain ⟨⟨⟨⟨hall,hlen⟩,l1⟩,l2⟩,l3⟩:=hpre
  obtain ⟨cs,rfl,hok⟩:=Kerb.marks_of hall
  have hma:=Kerb.marks_all hok
  simp only [Yg] at hlen
  have hlT:decide (cs.length≤1000000)=true:=decide_eq_true hlen
  simp only [Kerb.map_toMark,Yg,hma,hlT,l1,l2,l3,decide_true,Yd,↓A0,A0]
  obtain ⟨R,hR⟩:∃ R,Kerb.RCache.mk sz fl cs=R:=⟨_,rfl⟩
  unfold Kerb.addMark
  by_cases h1:(Kerb.RCache.mk sz fl cs).err=0
  case neg=>rw [sel_pos (by simpa using h1),if_pos h1];rfl
  rw [sel_neg (by simpa using h1),if_neg (by simpa using h1)]
  cases h2:Yy ⟨a1,a2,a3⟩
  ·rfl
  rw [Zh,sel_false,if_neg (by simp)]
  cases h3:(decide ((0:Int)≤atk)&&decide (atk≤199))
  ·rw [if_pos (by unfold Zg;rw [h3];rfl)];rfl
  rw [Zh,sel_false,if_neg (by unfold Zg;rw [h3];simp)]
  cases h4:Kerb.near at_ now skw
  ·rw [if_pos (.inl rfl)];rfl
  rw [Zh,sel_false]
  by_cases h5:at_<fl
  ·rw [sel_pos (by simpa using h5),if_pos (.inr h5)];rfl
  rw [sel_neg (by simpa using h5),if_neg (by simp;omega)]
  cases h6:Kerb.hasMark cs ⟨⟨a1,a2,a3⟩,at_,atk⟩
  case true=>rfl
  rw [sel_false,if_neg (by simp)]
  have hn:(0≤now∧now≤4294967295)∧(0≤skw∧skw≤4294967295):=by
   simp only [Kerb.near,Yz,Kerb.within_iff] at h4
   omega
  rw [wrap_i64 (n:=now-skw) (by omega) (by omega)]
  obtain ⟨FL,hFL⟩:∃ FL,Kerb.imax fl (now-skw)=FL:=⟨_,rfl⟩
  have hfr:Kerb.freshMarks ⟨sz,fl,cs⟩ now skw=cs.filter (fun x=>decide (FL≤x.time)):=by rw [← hFL];rfl
  rw [hfr,hFL]
  have r64:∀ {m:Nat},m≤1000001→Go.Abs.room m 64=true:=fun h=>by simp [Go.Abs.room];omega
  have hfl:∀ i,((cs.take i).filter (fun x=>decide (FL≤x.time))).length≤1000000:=fun i=>by
   refine Nat.le_trans (List.length_filter_le _ _) ?_
   rw [List.length_take];omega
  refine loop_rounds (fun i:Nat=>[Zz Zq sz,Zz Zq fl,Yu 5 (cs.map Xz),Zw a1,Zw a2,Zw a3,Zz Zq at_,Zz Zq atk,Zz Zq 0,Zz Zq 0,Yu 5 [],Zz Zq sz,Zz Zq FL,AV.ownL (((cs.take i).filter (fun x=>decide (FL≤x.time))).map Xz),Yu 5 (cs.map Xz),Zz Zq (cs.length:Int),Zz Zq (i:Int)]) (fun i=>i≤cs.length) (fun i=>cs.length-i)
   (fun r=>∃ i:Nat,r=(Ex.exit 1,[Zz Zq sz,Zz Zq fl,Yu 5 (cs.map Xz),Zw a1,Zw a2,Zw a3,Zz Zq at_,Zz Zq atk,Zz Zq 0,Zz Zq 0,Yu 5 [],Zz Zq sz,Zz Zq FL,AV.ownL (((cs.take i).filter (fun x=>decide (FL≤x.time))).map Xz),Yu 5 (cs.map Xz),Zz Zq (cs.length:Int),Zz Zq (i:Int)])∧i=cs.length) 0 (Nat.zero_le _) rfl ?_ ?_
  ·intro i hi
   simp only [↓A0,A0,Yg,List.length_cons,List.length_nil]
   by_cases hlt:i<cs.length
   ·have hk1:(decide ((0:Int)≤(i:Int))&&decide ((i:Int)<(cs.length:Int))&&true)=true:=by simp;omega
    have hg:(cs.map Xz).getD i Vg=(cs.getD i Kerb.noMark).av:=Kerb.getD_row hlt
    obtain ⟨c,hc⟩:∃ c,cs.getD i Kerb.noMark=c:=⟨_,rfl⟩
    have hs:(cs.take (i+1)).filter (fun x=>decide (FL≤x.time))=(cs.take i).filter (fun x=>decide (FL≤x.time))++(if FL≤c.time then [c] else []):=by
     rw [Kerb.take_row (d:=Kerb.noMark) hlt,hc,List.filter_append]
     congr 1
     by_cases q:FL≤c.time<;>simp [q]
    rw [hc] at hg
    rw [sel_pos (by simp;omega)]
    simp only [hk1,Xp,hg,Xz,↓A0,A0]
    rw [wrap_i64 (by omega) (by omega)]
    by_cases hq:FL≤c.time
    ·rw [if_pos hq] at hs
     rw [sel_pos (by simpa using hq),chk_of (r64 (by have:=hfl i;omega))]
     refine ⟨_,rfl,i+1,?_,by omega,by dsimp only;omega⟩
     dsimp only
     rw [hs,List.map_append]
     rfl
    ·rw [if_neg hq,List.append_nil] at hs
     rw [sel_neg (by simpa using hq)]
     exact ⟨_,rfl,i+1,by dsimp only;rw [hs];rfl,by omega,by dsimp only;omega⟩
   ·rw [sel_neg (by simp;omega)]
    exact ⟨_,rfl,i,rfl,by omega⟩
  ·rintro _ ⟨i,rfl,rfl⟩
   simp only [↓A0,A0,Yg,List.length_cons,List.length_nil]
   rw [sel_pos (Ux _),List.take_length]
   have hF:=hfl cs.length
   rw [List.take_length] at hF
   by_cases h7:sz≤((cs.filter (fun x=>decide (FL≤x.time))).length:Int)
   ·rw [sel_pos (by simp;omega),if_pos h7];rfl
   ·rw [sel_neg (by simp;omega),if_neg h7,chk_of (r64 (by omega)),List.map_append]
    rfl
 ·cases h
theorem w66:Walked Tryz.prog G 66 9 sp66:=by
 refine ⟨Tryz.f66,Tryz.func66,by decide +kernel,rfl,fun xs bl r h=> ?_⟩
 unfold sp66 at h
 split at h
 ·rename_i x y z cd now li
  obtain ⟨hpre,h2⟩:=chk_inv h;cases h2
  refine Eq.trans (b:=(Zx (chk (decide (Zy x≤9223372036854775807)&&decide (Zy y≤9223372036854775807)&&decide (Zy z≤9223372036854775807)&&decide (Zy (Kerb.message cd)≤9223372036854775807)) (some (Zm [Zd (Xy (Kerb.encodeError (Kerb.ErrorReply.mk li (Zn x y z) now cd (Kerb.message cd)))),Zz .i64 (Xx (Kerb.encodeError (Kerb.ErrorReply.mk li (Zn x y z) now cd (Kerb.message cd))))],[]))) fun (r:AV×Blocks)=>onNilB (Yk r) (AV.onTup (Yn r) fun vs=>onCons vs fun x r=>AV.onBs x fun b=>onCons r fun x r=>Wu .i64 x fun n=>onNil r (sel (!n==0) (some (Zd [],[])) (some (Zd b,[])))):Option (AV×Blocks))) (by kernel_rfl) ?_
  simp only [Yz,decide_eq_true_eq] at hpre
  obtain ⟨⟨l1,l2⟩,l3⟩:=hpre
  have hm:(Kerb.message cd).length≤9223372036854775807:=by have:=Kerb.message_len cd;omega
  simp only [l1,l2,l3,hm,decide_true,Yd,↓A0,A0]
  unfold Kerb.refuse
  by_cases h:(Kerb.encodeError ⟨li,⟨x,y,z⟩,now,cd,Kerb.message cd⟩).err=0
  ·rw [sel_neg (by simpa using h)]
  ·rw [sel_pos (by simpa using h),Kerb.encError_no h]
 ·cases h
theorem w73:Walked Tryz.prog G 73 9 sp73:=by
 refine ⟨Tryz.f73,Tryz.func73,by decide +kernel,rfl,fun xs bl r h=> ?_⟩
 unfold sp73 at h
 split at h
 ·rename_i rl els xls now li se rli rmu rkv rrl rtk rau wtm wlf wsv win cx cy cz ck2 cad ccs ctm ctc cis clf ctk cau pk p1 p2 p3 pl pv pt pm
  obtain ⟨hpre,h2⟩:=chk_inv h;cases h2
  refine Eq.trans (b:=(Zx (chk (l63 p1&&l63 p2&&l63 p3&&decide (0≤pk)&&decide (pk<18446744073709551616)) (some (Zm [Zd (Xy (Vh (Vn pk (Zn p1 p2 p3) pl pv pt pm) li)),Zz .i64 (Xx (Vh (Vn pk (Zn p1 p2 p3) pl pv pt pm) li))],[]))) (kT fun vs=>cBs vs fun b r=>cInt .i64 r fun n r=>onNil r (sel (!n==0) (some (Zm [Zd [],Zz .i64 n],[])) (Zx (chk (decide (0≤ck2)&&decide (ck2<18446744073709551616)) (some (Zm [Zd (Xy (Vq 3 ck2 b)),Zz .i64 (Xx (Vq 3 ck2 b))],[]))) (kT fun vs=>cBs vs fun b r=>cInt .i64 r fun n r=>onNil r (sel (!n==0) (some (Zm [Zd [],Zz .i64 n],[])) (Zx (chk (l63 cx&&l63 cy&&l63 cz) (some (Zm [Zd (Xy (Kerb.encodeReply (Kerb.KdcReply.mk li (Zn cx cy cz) wtm 0 0 b))),Zz .i64 (Xx (Kerb.encodeReply (Kerb.KdcReply.mk li (Zn cx cy cz) wtm 0 0 b)))],[]))) (kT fun vs=>cBs vs fun b r=>cInt .i64 r fun n r=>onNil r (some (Zm [Zd b,Zz .i64 n],[]))))))))):Option (AV×Blocks))) (by kernel_rfl) ?_
  delta kT
  try dsimp only [cStr,cBs,cBool,cU8,cInt,cSl,l63]
  simp only [Yz,decide_eq_true_eq] at hpre
  obtain ⟨⟨⟨⟨⟨⟨⟨l1,l2⟩,l3⟩,l4⟩,l5⟩,l6⟩,k1⟩,k2⟩:=hpre
  have k1:=Kerb.isU64_iff.1 k1
  have k2:=Kerb.isU64_iff.1 k2
  simp only [l1,l2,l3,l4,l5,l6,k1,k2,decide_true,Yd,↓A0,A0]
  unfold Kerb.sealReply
  by_cases h1:(Vh (Vn pk ⟨p1,p2,p3⟩ pl pv pt pm) li).err=0
  case neg=>rw [sel_pos (by simpa using h1),if_pos h1]
  rw [sel_neg (by simpa using h1),if_neg (by simpa using h1)]
  by_cases h2:(Vq 3 ck2 (Vh (Vn pk ⟨p1,p2,p3⟩ pl pv pt pm) li).val).err=0
  case neg=>rw [sel_pos (by simpa using h2),if_pos h2]
  rw [sel_neg (by simpa using h2),if_neg (by simpa using h2)]
 ·cases h
end Go.Proofs.YtljhmpcfjfcgiaaGreatDoor
