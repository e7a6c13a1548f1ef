/- What the functions of this seat compute. -/
import Derived.Test.YtiplnpablmohiaaGreatTab
import Derived.Test.YtiplnpablmohiaaGreatKerbPlain
import Derived.Test.YtiplnpablmohiaaGreatAbsStep
import Derived.Test.YtiplnpablmohiaaGreatKerbCli3
import Derived.Test.YtiplnpablmohiaaGreatKerbCli4
import Derived.Test.YtiplnpablmohiaaGreatKerbKac4
import Derived.Test.YtiplnpablmohiaaGreatKerbVerL
open Go.Abs.AV renaming int→Zz,bool→Zu,str→Zq,u8→Zd,bs→Zf,tup→Zn,ownB→Yj,onInt→Yg,sl→Yh,agg→Xf,onBool→Xb,onBs→Up,onTup→Ub
open List renaming length→Zy,append→Yk,length_map→Xq,getD→Wm
open Option renaming bind→Zx
open Kerb renaming putPrin_len→Zw,putN_len→Zv,keyBytes_len→Zj,putN→Zg,within→Zb,putText→Yx,u8i→Yw,get→Yp,encodeMutual→Xz,readBox→Xu,headIs→Xg,validInst→Wx,printable→Ww,u8i_bd→Wv,spoil→Wu,wrap_u8i→Wq,validName→Wk,readAp→Wp,encodeAns→Wd,bytes→Wf,user→Wh,putText_len→Vz,text→Vp,header→Vd,putPrin→Vf,makeBox→Vg,encodeTicket→Vb,encodeAp→Uz,encodeAuth→Uv,pad→Uq,marksErr→Um
open Go.IntKind renaming i64→Zk,wrap→Zp,u16→Xd,bits→Uw,u64→Uj,u32→Uk
open Int renaming toNat→Zm,tmod→Yd,tmod_eq_emod_of_nonneg→Yf,toNat_natCast→Wj,tdiv→Vh,tdiv_eq_ediv_of_nonneg→Ud
open Kerb.Prin renaming mk→Zh,valid→Yy,realm→Vy,name→Vq,inst→Vj
open Prod renaming snd→Yz,fst→Yv
open UInt8 renaming toNat→Yu,ofNat→Vk
open Bool renaming and_eq_true→Yq,not_true→Yn,and_self→Xw
open Kerb.Case renaming mk→Yb,me→Xh
open Kerb.Got renaming err→Ym,next→Xp,val→Xm
open Kerb.Enc renaming val→Xy,err→Xx
open Kerb.Mark renaming av→Xv,err→Vn
open Kerb.Client renaming av→Xj
open Kerb.Cache renaming av→Xk
open Kerb.Cred renaming av→Xn
open Kerb.Auth renaming mk→Wz,check→Vx
open Sum renaming inr→Wy
open Kerb.Ticket renaming err→Wg,mk→Vw
open Kerb.GotBox renaming box→Wb
open Kerb.SKey renaming err→Wn,av→Un
open Kerb.Mutual renaming mk→Vv
open Kerb.GotAp renaming val→Vu
open Kerb.GotB renaming err→Vm,next→Ux,val→Uu
open Kerb.ApRequest renaming mk→Uy
open Kerb.RCache renaming err→Uf
open Go.Abs.Ex renaming ret→Ug
namespace Go.Proofs.YtiplnpablmohiaaGreat
open Go Go.Abs Go.Proofs
set_option linter.unusedVariables false
set_option linter.unusedSimpArgs false
set_option maxRecDepth 100000
theorem w70:Walked Tryz.prog G 70 4 sp70:=by
 refine ⟨Tryz.f70,Tryz.func70,by decide +kernel,rfl,fun xs bl r h=> ?_⟩
 unfold sp70 at h
 split at h
 ·rename_i B at_ li bad
  obtain ⟨hpre,h2⟩:=chk_inv h;cases h2
  show runFnH (G.env 70 4) G.rts (G.own 70) Tryz.f70 _ _ [0]=_
  refine Eq.trans (b:=(Zx (chk (decide (Zy B≤140737488355328)) (some (Zn [Zz .i64 (Xm (Yp B at_ 1 false)),Zz .i64 (Xp (Yp B at_ 1 false)),Zz .i64 (Ym (Yp B at_ 1 false))],[]))) fun (r:AV×Blocks)=>onNilB (Yz r) (Ub (Yv r) fun vs=>onCons vs fun x r=>Yg .i64 x fun n=>onCons r fun x r=>Yg .i64 x fun n_1=>onCons r fun x r=>Yg .i64 x fun n_2=>onNil r (some (Zz .i64 n,[[Zf B,Zz .i64 (bif bad || !n_2==0 then at_ else n_1),Zu li,Zu (bad || !n_2==0)]]))):Option (AV×Blocks))) (by kernel_rfl) ?_
  simp only [A0]
  rw [chk_of hpre]
 ·cases h
theorem w71:Walked Tryz.prog G 71 4 sp71:=by
 refine ⟨Tryz.f71,Tryz.func71,by decide +kernel,rfl,fun xs bl r h=> ?_⟩
 unfold sp71 at h
 split at h
 ·rename_i B at_ li bad
  obtain ⟨hpre,h2⟩:=chk_inv h;cases h2
  show runFnH (G.env 71 4) G.rts (G.own 71) Tryz.f71 _ _ [0]=_
  refine Eq.trans (b:=(Zx (chk (decide (Zy B≤140737488355328)) (some (Zn [Zz .i64 (Xm (Yp B at_ 4 li)),Zz .i64 (Xp (Yp B at_ 4 li)),Zz .i64 (Ym (Yp B at_ 4 li))],[]))) fun (r:AV×Blocks)=>onNilB (Yz r) (Ub (Yv r) fun vs=>onCons vs fun x r=>Yg .i64 x fun n=>onCons r fun x r=>Yg .i64 x fun n_1=>onCons r fun x r=>Yg .i64 x fun n_2=>onNil r (some (Zz .i64 n,[[Zf B,Zz .i64 (bif bad || !n_2==0 then at_ else n_1),Zu li,Zu (bad || !n_2==0)]]))):Option (AV×Blocks))) (by kernel_rfl) ?_
  simp only [A0]
  rw [chk_of hpre]
 ·cases h
theorem w87:Walked Tryz.prog G 87 4 sp87:=by
 refine ⟨Tryz.f87,Tryz.func87,by decide +kernel,rfl,fun xs bl r h=> ?_⟩
 unfold sp87 at h
 split at h
 ·rename_i b
  obtain ⟨hpre,h2⟩:=chk_inv h;cases h2
  refine Eq.trans (b:=(Zx (chk (decide (Zy b≤4611686018427387904)) (some (Zn [Zz .i64 (Xm (Yp b 2 1 false)),Zz .i64 (Xp (Yp b 2 1 false)),Zz .i64 (Ym (Yp b 2 1 false))],[]))) (kT fun vs=>cInt .i64 vs fun n r=>cInt .i64 r fun n_1 r=>cInt .i64 r fun n_2 r=>onNil r (Zx (chk (decide (Zy b≤4611686018427387904)) (some (Zn [Zq (Uu (Vp b n_1)),Zz .i64 (Ux (Vp b n_1)),Zz .i64 (Vm (Vp b n_1))],[]))) (kT fun vs=>cStr vs fun b_1 r=>cInt .i64 r fun n_3 r=>cInt .i64 r fun n_4 r=>onNil r (Zx (chk (decide (Zy b≤4611686018427387904)) (some (Zn [Zz .i64 (Xm (Yp b n_3 1 false)),Zz .i64 (Xp (Yp b n_3 1 false)),Zz .i64 (Ym (Yp b n_3 1 false))],[]))) (kT fun vs=>cInt .i64 vs fun n_5 r=>cInt .i64 r fun n_6 r=>cInt .i64 r fun n_7 r=>onNil r (Zx (chk (decide (Zy b≤4611686018427387904)) (some (Zn [Zz .i64 (Xm (Yp b n_6 1 false)),Zz .i64 (Xp (Yp b n_6 1 false)),Zz .i64 (Ym (Yp b n_6 1 false))],[]))) (kT fun vs=>cInt .i64 vs fun n_8 r=>cInt .i64 r fun n_9 r=>cInt .i64 r fun n_10 r=>onNil r (Zx (chk (decide (Zy b≤140737488355328)) (some (Zn [Zf (Uu (Wf b n_9 n_5)),Zz .i64 (Ux (Wf b n_9 n_5)),Zz .i64 (Vm (Wf b n_9 n_5))],[]))) (kT fun vs=>cBs vs fun b_2 r=>cInt .i64 r fun n_11 r=>cInt .i64 r fun n_12 r=>onNil r (Zx (chk (decide (Zy b≤140737488355328)) (some (Zn [Zf (Uu (Wf b n_11 n_8)),Zz .i64 (Ux (Wf b n_11 n_8)),Zz .i64 (Vm (Wf b n_11 n_8))],[]))) (kT fun vs=>cBs vs fun b_3 r=>cInt .i64 r fun n_13 r=>cInt .i64 r fun n_14 r=>onNil r (some (Zn [Xf [Zu (Kerb.Head.little (Kerb.readHead b)),Zu (Kerb.Head.kind (Kerb.readHead b)==4),Zz .i64 n,Zq b_1,Zf b_2,Zf b_3],Zz .i64 n_13],[]))))))))))))):Option (AV×Blocks))) (by kernel_rfl) ?_
  delta kT
  try dsimp only [cStr,cBs,cBool,cU8,cInt,cSl,l63]
  have hb:=of_decide_eq_true hpre
  have hpre2:decide (b.length≤4611686018427387904)=true:=by simp;omega
  simp only [hpre,hpre2,↓A0,A0]
  rfl
 ·cases h
theorem w110:Walked Tryz.prog G 110 4 sp110:=by
 refine ⟨Tryz.f110,Tryz.func110,by decide +kernel,rfl,fun xs bl r h=> ?_⟩
 unfold sp110 at h
 split at h
 ·rename_i b n
  obtain ⟨hpre,h2⟩:=chk_inv h;cases h2
  refine Eq.trans (b:=(Zx (chk (decide (Zy b≤70368744177664)) (some (Yj (b++Zg n (Zm 1) false),[]))) fun (r:AV×Blocks)=>onNilB (Yz r) (AV.onOwnB (Yv r) fun l=>some (Yj l,[])):Option (AV×Blocks))) (by kernel_rfl) ?_
  simp only [decide_eq_true_eq] at hpre
  simp only [A0]
  rw [chk_of (by simp;omega)]
  rfl
 ·cases h
theorem w111:Walked Tryz.prog G 111 4 sp111:=by
 refine ⟨Tryz.f111,Tryz.func111,by decide +kernel,rfl,fun xs bl r h=> ?_⟩
 unfold sp111 at h
 split at h
 ·rename_i b n little
  obtain ⟨hpre,h2⟩:=chk_inv h;cases h2
  refine Eq.trans (b:=(Zx (chk (decide (Zy b≤70368744177664)) (some (Yj (b++Zg n (Zm 4) little),[]))) fun (r:AV×Blocks)=>onNilB (Yz r) (AV.onOwnB (Yv r) fun l=>some (Yj l,[])):Option (AV×Blocks))) (by kernel_rfl) ?_
  simp only [decide_eq_true_eq] at hpre
  simp only [A0]
  rw [chk_of (by simp;omega)]
  rfl
 ·cases h
theorem w117:Walked Tryz.prog G 117 4 sp117:=by
 refine ⟨Tryz.f117,Tryz.func117,by decide +kernel,rfl,fun xs bl r h=> ?_⟩
 unfold sp117 at h
 split at h
 ·rename_i b n little
  obtain ⟨hpre,h2⟩:=chk_inv h;cases h2
  refine Eq.trans (b:=(Zx (chk (decide (Zy b≤70368744177664)) (some (Yj (b++Zg n (Zm 2) little),[]))) fun (r:AV×Blocks)=>onNilB (Yz r) (AV.onOwnB (Yv r) fun l=>some (Yj l,[])):Option (AV×Blocks))) (by kernel_rfl) ?_
  simp only [decide_eq_true_eq] at hpre
  simp only [A0]
  rw [chk_of (by simp;omega)]
  rfl
 ·cases h
theorem w150:Walked Tryz.prog G 150 4 sp150:=by
 refine ⟨Tryz.f150,Tryz.func150,by decide +kernel,rfl,fun xs bl r h=> ?_⟩
 unfold sp150 at h
 split at h
 ·rename_i li x y z ad k lf iss sv ins
  obtain ⟨hpre,h2⟩:=chk_inv h;cases h2
  refine Eq.trans (b:=(Zx (chk (decide (Zy x≤9223372036854775807)&&decide (Zy y≤9223372036854775807)&&decide (Zy z≤9223372036854775807)) (some (Zu (Yy (Zh x y z)),[]))) fun (r:AV×Blocks)=>onNilB (Yz r) (Xb (Yv r) fun b=>sel (!b) (some (Zz .i64 103,[])) (Zx (chk (decide (Zy sv≤9223372036854775807)) (some (Zu (Wk sv),[]))) fun (r:AV×Blocks)=>onNilB (Yz r) (Xb (Yv r) fun b=>sel (!b) (some (Zz .i64 103,[])) (Zx (chk (decide (Zy ins≤9223372036854775807)) (some (Zu (Wx ins),[]))) fun (r:AV×Blocks)=>onNilB (Yz r) (Xb (Yv r) fun b=>sel (!b) (some (Zz .i64 103,[])) (Zx (chk (decide (0≤k)&&decide (k<18446744073709551616)) (some (Zz .i64 (Kerb.classOf k),[]))) fun (r:AV×Blocks)=>onNilB (Yz r) (Yg .i64 (Yv r) fun n=>sel (!n==2) (some (Zz .i64 10,[])) (sel (!Zb ad 4294967295) (some (Zz .i64 104,[])) (sel (!Zb lf 255) (some (Zz .i64 104,[])) (sel (!Zb iss 4294967295) (some (Zz .i64 104,[])) (some (Zz .i64 0,[])))))))))))):Option (AV×Blocks))) (by kernel_rfl) ?_
  simp only [Yq,decide_eq_true_eq] at hpre
  obtain ⟨⟨⟨⟨⟨⟨h1,h2⟩,h3⟩,h4⟩,h5⟩,h6⟩,h7⟩:=hpre
  simp only [h1,h2,h3,h4,h5,h6,h7,decide_true,Xw,↓A0,A0]
  unfold Wg
  dsimp only
  cases Yy ⟨x,y,z⟩
  ·rfl
  cases Wk sv
  ·rfl
  cases Wx ins
  ·rfl
  simp only [Yn,Xw,sel_false]
  by_cases hc:Kerb.classOf k=2
  case neg=>rw [sel_pos (by simpa using hc),if_neg (by simp),if_pos hc]
  rw [sel_neg (by simp [hc]),if_neg (by simp),if_neg (by simp [hc])]
  cases Zb ad 4294967295
  ·rfl
  cases Zb lf 255
  ·rfl
  cases Zb iss 4294967295
  ·rfl
  rfl
 ·cases h
theorem w152:Walked Tryz.prog G 152 4 sp152:=by
 refine ⟨Tryz.f152,Tryz.func152,by decide +kernel,rfl,fun xs bl r h=> ?_⟩
 unfold sp152 at h
 split at h
 ·rename_i x y z ck tc tm
  obtain ⟨hpre,h2⟩:=chk_inv h;cases h2
  refine Eq.trans (b:=(Zx (chk (decide (Zy x≤9223372036854775807)&&decide (Zy y≤9223372036854775807)&&decide (Zy z≤9223372036854775807)) (some (Zu (Yy (Zh x y z)),[]))) fun (r:AV×Blocks)=>onNilB (Yz r) (Xb (Yv r) fun b=>sel (!b) (some (Zz .i64 103,[])) (sel (!Zb ck 4294967295) (some (Zz .i64 104,[])) (sel (!Zb tc 199) (some (Zz .i64 104,[])) (sel (!Zb tm 4294967295) (some (Zz .i64 104,[])) (some (Zz .i64 0,[])))))):Option (AV×Blocks))) (by kernel_rfl) ?_
  simp only [A0,Xj,Xk,Xn,hpre]
  unfold Vx
  simp only
  cases Yy ⟨x,y,z⟩
  ·rfl
  cases Zb ck 4294967295
  ·rfl
  cases Zb tc 199
  ·rfl
  cases Zb tm 4294967295<;>rfl
 ·cases h
theorem w165:Walked Tryz.prog G 165 4 sp165:=by
 refine ⟨Tryz.f165,Tryz.func165,by decide +kernel,rfl,fun xs bl r h=> ?_⟩
 unfold sp165 at h
 split at h
 ·rename_i s bad
  obtain ⟨hpre,h2⟩:=chk_inv h;cases h2
  refine Eq.trans (b:=(Zx (loopM (fun (st:List AV)=>cStr st fun b r=>cStr r fun b_1 r=>cBool r fun b_2 r=>cInt .i64 r fun n r=>cInt .i64 r fun n_1 r=>let t0:Option (List AV ⊕ Ex×List AV):=some (Wy (Ug,[Zq b,Zq b_1,Zu false,Zz .i64 n,Zz .i64 n_1]));let t1:Bool:=decide (0≤n_1)&&decide (n_1<(↑(Zy b):Int));let t2:Int:=(↑(Yu (Wm b (Zm n_1) (0:UInt8))):Int);onNil r (sel (decide (n_1<n)) (chk t1 (sel (decide (t2<(↑(Yu (33:UInt8)):Int))) t0 (chk t1 (sel (decide (t2>(↑(Yu (126:UInt8)):Int))) t0 (chk t1 (sel (decide (Kerb.indexOf (Wm b (Zm n_1) (0:UInt8)) b_1≥0)) t0 (some (Sum.inl [Zq b,Zq b_1,Zu b_2,Zz .i64 n,Zz .i64 (Zp .i64 (n_1+1))])))))))) (some (Wy (Ex.exit 0,[Zq b,Zq b_1,Zu b_2,Zz .i64 n,Zz .i64 n_1]))))) [Zq s,Zq bad,Zu false,Zz .i64 (↑(Zy s):Int),Zz .i64 0]) fun (r:Ex×List AV)=>cStr (Yz r) fun b r_1=>cStr r_1 fun b r_2=>cBool r_2 fun b r_3=>cInt .i64 r_3 fun n r_4=>cInt .i64 r_4 fun n r_5=>onNil r_5 (exK r.1 (some (Zu b,[])) fun (j:Nat)=>sel (Nat.beq j 0) (some (Zu true,[])) none):Option (AV×Blocks))) (by kernel_rfl) ?_
  try dsimp only [cStr,cBs,cBool,cU8,cInt,cSl,l63]
  simp only [decide_eq_true_eq] at hpre
  refine loop_rounds (fun i:Nat=>[Zq s,Zq bad,Zu false,Zz Zk (s.length:Int),Zz Zk (i:Int)]) (fun i=>i≤s.length∧Ww s bad=Ww (s.drop i) bad) (fun i=>s.length-i)
   (fun r=>∃ i:Nat,r.2=[Zq s,Zq bad,Zu false,Zz Zk (s.length:Int),Zz Zk (i:Int)]∧((r.1 = .ret∧Ww s bad=false)∨(r.1 = .exit 0∧Ww s bad=true))) 0 ⟨Nat.zero_le _,rfl⟩ rfl ?_ ?_
  ·rintro i ⟨hi,hp⟩
   simp only [A0]
   by_cases hlt:i<s.length
   ·have hc:(decide ((0:Int)≤(i:Int))&&decide ((i:Int)<(s.length:Int)))=true:=by simp;omega
    have hd:=Kerb.drop_all_cons hlt
    rw [sel_pos (by simp;omega),chk_of hc,Wj]
    have hpr:Ww (s.drop i) bad=(Kerb.okB bad (s.getD i 0)&&Ww (s.drop (i+1)) bad):=by rw [hd];rfl
    generalize s.getD i 0=c at *
    by_cases h1:c.toNat<33
    ·rw [sel_pos (by simp;omega)]
     exact ⟨_,rfl,i,rfl,.inl ⟨rfl,by rw [hp,hpr];simp [Kerb.okB,h1]⟩⟩
    rw [sel_neg (by simp;omega),chk_of hc]
    by_cases h2:126<c.toNat
    ·rw [sel_pos (by simp;omega)]
     exact ⟨_,rfl,i,rfl,.inl ⟨rfl,by rw [hp,hpr];simp [Kerb.okB,h2]⟩⟩
    rw [sel_neg (by simp;omega),chk_of hc]
    have h4:=Kerb.indexOf_nonneg c bad
    by_cases h3:c∈bad
    ·rw [sel_pos (by simpa using h4.2 h3)]
     exact ⟨_,rfl,i,rfl,.inl ⟨rfl,by rw [hp,hpr];simp [Kerb.okB,h3]⟩⟩
    rw [sel_neg (by have:=mt h4.1 h3;simp;omega),wrap_i64 (by omega) (by omega)]
    exact ⟨_,rfl,i+1,rfl,⟨by omega,by rw [hp,hpr];simp [Kerb.okB,h1,h2,h3]⟩,by dsimp only;omega⟩
   ·rw [sel_neg (by simp;omega)]
    exact ⟨_,rfl,i,rfl,.inr ⟨rfl,by rw [hp,List.drop_eq_nil_of_le (by omega)];rfl⟩⟩
  ·rintro ⟨e,l⟩ ⟨i,rfl,⟨rfl,hp⟩ | ⟨rfl,hp⟩⟩
   ·simp only [A0,hp]
   ·simp only [A0,hp]
    rfl
 ·cases h
theorem w177:Walked Tryz.prog G 177 4 sp177:=by
 refine ⟨Tryz.f177,Tryz.func177,by decide +kernel,rfl,fun xs bl r h=> ?_⟩
 unfold sp177 at h
 split at h
 ·rename_i b
  obtain ⟨hpre,h2⟩:=chk_inv h;cases h2
  refine Eq.trans (b:=(sel (!(↑(Zy b):Int)==8) (some (Zn [Zz .u64 0,Zu false],[])) (Zx (loopM (fun (st:List AV)=>cInt .u64 st fun n r=>cBs r fun b r=>cInt .i64 r fun n_1 r=>cInt .i64 r fun n_2 r=>onNil r (sel (decide (n_2<n_1)) (chk (decide (0≤n_2)&&decide (n_2<(↑(Zy b):Int))) (some (Sum.inl [Zz .u64 (Zp .u64 (↑(BitVec.toNat (BitVec.ofInt (Uw .u64) (Zp .u64 (n*2 ^ min (Zm 8) (Uw .u64))) ||| BitVec.ofInt (Uw .u64) (Zp .u64 (↑(Yu (Wm b (Zm n_2) (0:UInt8))):Int)))):Int)),Zf b,Zz .i64 n_1,Zz .i64 (Zp .i64 (n_2+1))]))) (some (Wy (Ex.exit 0,[Zz .u64 n,Zf b,Zz .i64 n_1,Zz .i64 n_2]))))) [Zz .u64 0,Zf b,Zz .i64 (↑(Zy b):Int),Zz .i64 0]) fun (r:Ex×List AV)=>cInt .u64 (Yz r) fun n r_1=>cBs r_1 fun b r_2=>cInt .i64 r_2 fun n_1 r_3=>cInt .i64 r_3 fun n_2 r_4=>onNil r_4 (exK r.1 none fun (j:Nat)=>sel (Nat.beq j 0) (Zx (chk (decide (0≤n)&&decide (n<18446744073709551616)) (some (Zu (Kerb.keyValid n),[]))) (kL fun b=>sel (!b) (some (Zn [Zz .u64 0,Zu false],[])) (some (Zn [Zz .u64 n,Zu true],[])))) none)):Option (AV×Blocks))) (by kernel_rfl) ?_
  delta kL
  try dsimp only [cStr,cBs,cBool,cU8,cInt,cSl,l63]
  have hb:=of_decide_eq_true hpre
  unfold Kerb.keyRead
  by_cases h8:b.length=8
  case neg =>
   rw [sel_pos (by simp;omega),if_neg (by omega)]
  rw [sel_neg (by simp [h8])]
  refine loop_rounds (fun i:Nat=>[Zz Uj (Kerb.valB (b.take i)),Zf b,Zz Zk (b.length:Int),Zz Zk (i:Int)]) (fun i=>i≤8) (fun i=>8-i)
   (fun r=>r=(Ex.exit 0,[Zz Uj (Kerb.valB b),Zf b,Zz Zk (b.length:Int),Zz Zk 8])) 0 (by omega) rfl ?_ ?_
  ·intro i hi
   simp only [A0]
   by_cases hlt:i<8
   ·have hv:=Kerb.valB_take (l:=b) (i:=i) (by omega)
    have hbd:=Kerb.valB_bd7 (l:=b.take i) (by simp;omega)
    rw [sel_pos (by simp;omega),chk_of (by simp;omega),Wj,Kerb.shl8_oru _ hbd.1 hbd.2,wrap_i64 (by omega) (by omega),← hv]
    exact ⟨_,rfl,i+1,rfl,by omega,by dsimp only;omega⟩
   ·rw [sel_neg (by simp;omega)]
    refine ⟨_,rfl,?_⟩
    show _=_
    rw [List.take_of_length_le (by omega),show i=8 from by omega]
    rfl
  rintro r rfl
  have hbd:=Kerb.valB_bd8 (l:=b) (by omega)
  simp only [A0]
  rw [sel_pos (Nat.beq_refl _),chk_of (by simp;omega)]
  cases hv:Kerb.keyValid (Kerb.valB b)
  ·rw [if_neg (by simp)]
   rfl
  ·rw [if_pos ⟨h8,rfl⟩]
   rfl
 ·cases h
theorem w185:Walked Tryz.prog G 185 4 sp185:=by
 refine ⟨Tryz.f185,Tryz.func185,by decide +kernel,rfl,fun xs bl r h=> ?_⟩
 unfold sp185 at h
 split at h
 ·rename_i b x y z
  obtain ⟨hpre,h2⟩:=chk_inv h;cases h2
  refine Eq.trans (b:=(Zx (chk (decide (Zy b+Zy x≤70368744177664)) (some (Zf (Yx b x),[]))) fun (r:AV×Blocks)=>onNilB (Yz r) (Up (Yv r) fun b=>Zx (chk (decide (Zy b+Zy y≤70368744177664)) (some (Zf (Yx b y),[]))) fun (r:AV×Blocks)=>onNilB (Yz r) (Up (Yv r) fun b=>Zx (chk (decide (Zy b+Zy z≤70368744177664)) (some (Zf (Yx b z),[]))) fun (r:AV×Blocks)=>onNilB (Yz r) (Up (Yv r) fun b=>some (Zf b,[])))):Option (AV×Blocks))) (by kernel_rfl) ?_
  simp only [decide_eq_true_eq] at hpre
  simp only [A0]
  rw [chk_of (by simp;omega),chk_of (by simp [Yx];omega),chk_of (by simp [Yx];omega)]
  rfl
 ·cases h
theorem w10:Walked Tryz.prog G 10 5 sp10:=by
 refine ⟨Tryz.f10,Tryz.func10,by decide +kernel,rfl,fun xs bl r h=> ?_⟩
 unfold sp10 at h
 split at h
 ·rename_i cu co cv cr lt tn mt cad cfr cis ctm ctk clf ccs cky ckv css ctt cau sz sk
  cases h
  refine Eq.trans (b:=(some (Xf [Zq (Vq (Xh (Yb cu co cv cr lt tn mt cad cfr cis ctm ctk clf ccs cky ckv css ctt cau))),Zq (Vj (Xh (Yb cu co cv cr lt tn mt cad cfr cis ctm ctk clf ccs cky ckv css ctt cau))),Zq (Vy (Xh (Yb cu co cv cr lt tn mt cad cfr cis ctm ctk clf ccs cky ckv css ctt cau))),Yh 5 [Xf [Zq (Vq (Xh (Yb cu co cv cr lt tn mt cad cfr cis ctm ctk clf ccs cky ckv css ctt cau))),Zq (Vj (Xh (Yb cu co cv cr lt tn mt cad cfr cis ctm ctk clf ccs cky ckv css ctt cau))),Zq (Vy (Xh (Yb cu co cv cr lt tn mt cad cfr cis ctm ctk clf ccs cky ckv css ctt cau))),Zz .i64 1,Zz .u64 (Kerb.long 1)],Xf [Zq (Vq (Xh (Yb cu co cv cr lt tn mt cad cfr cis ctm ctk clf ccs cky ckv css ctt cau))),Zq (Vj (Xh (Yb cu co cv cr lt tn mt cad cfr cis ctm ctk clf ccs cky ckv css ctt cau))),Zq (Vy (Xh (Yb cu co cv cr lt tn mt cad cfr cis ctm ctk clf ccs cky ckv css ctt cau))),Zz .i64 2,Zz .u64 (Kerb.long 2)],Xf [Zq (Vq (Wh 0)),Zq (Vj (Wh 0)),Zq (Vy (Wh 0)),Zz .i64 1,Zz .u64 (Kerb.long 9)]],Zz .i64 (Zp .i64 (1+Yd (Zp .i64 (↑(Yu sz):Int)) 40)),Zz .i64 0,Yh 5 [],Zz .i64 (Zp .i64 (Zp .i64 (↑(Yu sk):Int)*4))],[]):Option (AV×Blocks))) (by kernel_rfl) ?_
  have b1:=Wv sz
  have b2:=Wv sk
  have f1:Zp .i64 (1+Yd (Yw sz) 40)=1+Yw sz % 40:=by rw [Yf b1.1];exact wrap_i64 (by omega) (by omega)
  have f2:Zp .i64 (Yw sk*4)=Yw sk*4:=wrap_i64 (by omega) (by omega)
  simp only [Wq,f1,f2]
  rfl
 ·cases h
theorem w27:Walked Tryz.prog G 27 5 sp27:=by
 refine ⟨Tryz.f27,Tryz.func27,by decide +kernel,rfl,fun xs bl r h=> ?_⟩
 unfold sp27 at h
 split at h
 ·rename_i b
  obtain ⟨hpre,h2⟩:=chk_inv h;cases h2
  refine Eq.trans (b:=(let t0:Option (AV×Blocks):=some (Zn [Zf [],Zu false,Zz .i64 100],[]);let t1:Kerb.Got:=Yp b 2 2 (Yv (Xg b [8]));sel (!Yz (Xg b [8])==0) (some (Zn [Zf [],Zu false,Zz .i64 (Yz (Xg b [8]))],[])) (Zx (chk (decide (Zy b≤140737488355328)) (some (Zz .i64 (Xm t1),[[Zf b,Zz .i64 (bif false || !Ym t1==0 then 2 else Xp t1),Zu (Yv (Xg b [8])),Zu !Ym t1==0]]))) fun (r:AV×Blocks)=>onConsB (Yz r) fun (x:List AV) (r_1:List (List AV))=>cBs x fun b_1 r_2=>cInt .i64 r_2 fun n r_3=>cBool r_3 fun b_2 r_4=>cBool r_4 fun b_3 r_5=>onNil r_5 (onNilB r_1 (Yg .i64 (Yv r) fun n_1=>Zx (chk (decide (Zy b_1≤140737488355328)) (some (Zf (Uu (Wf b_1 n n_1)),[[Zf b_1,Zz .i64 (bif b_3 || !Vm (Wf b_1 n n_1)==0 then n else Ux (Wf b_1 n n_1)),Zu b_2,Zu (b_3 || !Vm (Wf b_1 n n_1)==0)]]))) fun (r:AV×Blocks)=>onConsB (Yz r) fun (x:List AV) (r_6:List (List AV))=>cBs x fun b_4 r_7=>cInt .i64 r_7 fun n r_8=>cBool r_8 fun b_5 r_9=>cBool r_9 fun b_6 r_10=>onNil r_10 (onNilB r_6 (Up (Yv r) fun b_7=>sel b_6 t0 (sel (!Xx (Wd b_7 (Yv (Xg b [8])))==0) t0 (sel (!Xy (Wd b_7 (Yv (Xg b [8])))==b) t0 (some (Zn [Zf b_7,Zu (Yv (Xg b [8])),Zz .i64 0],[]))))))))):Option (AV×Blocks))) (by kernel_rfl) ?_
  try dsimp only [cStr,cBs,cBool,cU8,cInt,cSl,l63]
  have hb:=of_decide_eq_true hpre
  have hpre2:decide (b.length≤4611686018427387904)=true:=by simp;omega
  unfold Kerb.decodeAns
  by_cases h:(Xg b [8]).2=0
  case neg=>rw [sel_pos (by simpa using h),if_pos h]
  rw [sel_neg (by simpa using h),if_neg (by simpa using h)]
  simp only [↓A0]
  rw [chk_of hpre,chk_of hpre]
  generalize (Xg b [8]).1=li
  rw [Kerb.decAnsC_ref]
  have key:=Kerb.decBy_fin (no:=([]:List UInt8)) (enc:=fun s=>Wd s li) (rd:=fun b'=>((Kerb.rdAns b' li).val,(Kerb.rdAns b' li).bad)) (b:=b) _ _ rfl (fun x e=>(Zn [Zf x,Zu (cond (e==0) li false),Zz Zk e],([]:Blocks)))
  refine Eq.trans key ?_
  generalize hD:Kerb.decBy ([]:List UInt8) (fun s=>Wd s li) (fun b'=>((Kerb.rdAns b' li).val,(Kerb.rdAns b' li).bad)) b=D
  have hD2:D.err=0∨(D.err=100∧D.val=[]):=by
   rw [← hD];unfold Kerb.decBy;split
   ·exact .inr ⟨rfl,rfl⟩
   ·exact .inl rfl
  rcases hD2 with h0 | ⟨h0,h1⟩
  ·rw [h0,if_pos rfl];rfl
  ·rw [h0,h1,if_neg (by decide)];rfl
 ·cases h
theorem w28:Walked Tryz.prog G 28 5 sp28:=by
 refine ⟨Tryz.f28,Tryz.func28,by decide +kernel,rfl,fun xs bl r h=> ?_⟩
 unfold sp28 at h
 split at h
 ·rename_i b kd k
  obtain ⟨hpre,h2⟩:=chk_inv h;cases h2
  refine Eq.trans (b:=(Zx (chk (decide (Zy b≤140737488355328)) (some (Zn [Xf [Zz .i64 (Kerb.Box.kind (Wb (Xu b))),Zz .u64 (Kerb.Box.key (Wb (Xu b))),Zf (Kerb.Box.body (Wb (Xu b)))],Zz .i64 (Kerb.GotBox.n (Xu b)),Zz .i64 (Kerb.GotBox.err (Xu b))],[]))) fun (r:AV×Blocks)=>onNilB (Yz r) (Ub (Yv r) fun vs=>onCons vs fun x r=>AV.onAgg x fun cs=>onCons cs fun x r_1=>Yg .i64 x fun n=>onCons r_1 fun x r_2=>Yg .u64 x fun n_1=>onCons r_2 fun x r_3=>Up x fun b_1=>onNil r_3 (onCons r fun x r=>Yg .i64 x fun n_2=>onCons r fun x r=>Yg .i64 x fun n_3=>onNil r (sel (!n_3==0) (some (Zn [Zf [],Zu false],[])) (sel (!n_2==(↑(Zy b):Int)) (some (Zn [Zf [],Zu false],[])) (sel (!n==kd) (some (Zn [Zf [],Zu false],[])) (sel (!n_1==k) (some (Zn [Zf [],Zu false],[])) (some (Zn [Zf b_1,Zu true],[])))))))):Option (AV×Blocks))) (by kernel_rfl) ?_
  simp only [↓A0,hpre]
  unfold Kerb.openBox
  generalize Xu b=r
  by_cases h1:r.err=0
  case neg=>rw [sel_pos (by simpa using h1),if_pos (.inl h1)]
  rw [sel_neg (by simpa using h1)]
  by_cases h2:r.n=b.length
  case neg=>rw [sel_pos (by simpa using h2),if_pos (.inr (.inl h2))]
  rw [sel_neg (by simpa using h2)]
  by_cases h3:r.box.kind=kd
  case neg=>rw [sel_pos (by simpa using h3),if_pos (.inr (.inr (.inl h3)))]
  rw [sel_neg (by simpa using h3)]
  by_cases h4:r.box.key=k
  case neg=>rw [sel_pos (by simpa using h4),if_pos (.inr (.inr (.inr h4)))]
  rw [sel_neg (by simpa using h4),if_neg (by simp [h1,h2,h3,h4])]
 ·cases h
theorem w29:Walked Tryz.prog G 29 5 sp29:=by
 refine ⟨Tryz.f29,Tryz.func29,by decide +kernel,rfl,fun xs bl r h=> ?_⟩
 unfold sp29 at h
 split at h
 ·rename_i b li
  obtain ⟨hpre,h2⟩:=chk_inv h;cases h2
  refine Eq.trans (b:=(let t0:Option (AV×Blocks):=some (Zn [Xf [Zz .i64 0,Zz .i64 0,Zz .i64 0],Zz .i64 100],[]);Zx (chk (decide (Zy b≤140737488355328)) (some (Zz .i64 (Xm (Yp b 0 1 false)),[[Zf b,Zz .i64 (bif false || !Ym (Yp b 0 1 false)==0 then 0 else Xp (Yp b 0 1 false)),Zu li,Zu !Ym (Yp b 0 1 false)==0]]))) fun (r:AV×Blocks)=>onConsB (Yz r) fun (x:List AV) (r_1:List (List AV))=>cBs x fun b_1 r_2=>cInt .i64 r_2 fun n r_3=>cBool r_3 fun b_2 r_4=>cBool r_4 fun b_3 r_5=>onNil r_5 (onNilB r_1 (Yg .i64 (Yv r) fun n_1=>Zx (chk (decide (Zy b_1≤140737488355328)) (some (Zz .i64 (Xm (Yp b_1 n 4 b_2)),[[Zf b_1,Zz .i64 (bif b_3 || !Ym (Yp b_1 n 4 b_2)==0 then n else Xp (Yp b_1 n 4 b_2)),Zu b_2,Zu (b_3 || !Ym (Yp b_1 n 4 b_2)==0)]]))) fun (r:AV×Blocks)=>onConsB (Yz r) fun (x:List AV) (r_6:List (List AV))=>cBs x fun b_4 r_7=>cInt .i64 r_7 fun n r_8=>cBool r_8 fun b_5 r_9=>cBool r_9 fun b_6 r_10=>onNil r_10 (onNilB r_6 (Yg .i64 (Yv r) fun n_2=>Zx (chk (decide (Zy b_4≤140737488355328)) (some (Zz .i64 (Xm (Yp b_4 n 1 false)),[[Zf b_4,Zz .i64 (bif b_6 || !Ym (Yp b_4 n 1 false)==0 then n else Xp (Yp b_4 n 1 false)),Zu b_5,Zu (b_6 || !Ym (Yp b_4 n 1 false)==0)]]))) fun (r:AV×Blocks)=>onConsB (Yz r) fun (x:List AV) (r_11:List (List AV))=>cBs x fun b_7 r_12=>cInt .i64 r_12 fun n r_13=>cBool r_13 fun b_8 r_14=>cBool r_14 fun b_9 r_15=>onNil r_15 (onNilB r_11 (Yg .i64 (Yv r) fun n_3=>Zx (chk (decide (Zy b_7≤140737488355328)) (some (Zz .i64 (Xm (Yp b_7 n 4 b_8)),[[Zf b_7,Zz .i64 (bif b_9 || !Ym (Yp b_7 n 4 b_8)==0 then n else Xp (Yp b_7 n 4 b_8)),Zu b_8,Zu (b_9 || !Ym (Yp b_7 n 4 b_8)==0)]]))) fun (r:AV×Blocks)=>onConsB (Yz r) fun (x:List AV) (r_16:List (List AV))=>cBs x fun b_10 r_17=>cInt .i64 r_17 fun n r_18=>cBool r_18 fun b_11 r_19=>cBool r_19 fun b_12 r_20=>onNil r_20 (onNilB r_16 (Yg .i64 (Yv r) fun n=>sel b_12 t0 (sel (!Xx (Xz (Vv n_2 n_3 n) li)==0) t0 (sel (!Xy (Xz (Vv n_2 n_3 n) li)==b) t0 (some (Zn [Xf [Zz .i64 n_2,Zz .i64 n_3,Zz .i64 n],Zz .i64 0],[])))))))))))):Option (AV×Blocks))) (by kernel_rfl) ?_
  try dsimp only [cStr,cBs,cBool,cU8,cInt,cSl,l63]
  have hb:=of_decide_eq_true hpre
  simp only [↓A0]
  rw [chk_of hpre,chk_of hpre,chk_of hpre,chk_of hpre,Kerb.decMutual_ref]
  exact Kerb.decBy_fin (no:=Kerb.noMutual) (enc:=fun m=>Xz m li) (rd:=fun b=>((Kerb.rdMutual b li).val,(Kerb.rdMutual b li).bad)) _ _ rfl (fun x e=>(Zn [Xf [Zz Zk x.checksum,Zz Zk x.tick,Zz Zk x.time],Zz Zk e],([]:Blocks)))
 ·cases h
theorem w55:Walked Tryz.prog G 55 5 sp55:=by
 refine ⟨Tryz.f55,Tryz.func55,by decide +kernel,rfl,fun xs bl r h=> ?_⟩
 unfold sp55 at h
 split at h
 ·rename_i ck tc tm li
  cases h
  refine Eq.trans (b:=(let t0:Option (AV×Blocks):=some (Zn [Zf [],Zz .i64 104],[]);let t1:Nat:=Zy ([]++Zg 0 1 false++Zg ck 4 li);let t2:Nat:=Zy ([]++Zg 1 1 false++Zg ck 4 li);sel (!Zb ck 4294967295) t0 (sel (!Zb tc 199) t0 (sel (!Zb tm 4294967295) t0 (sel li (Zx (chk (decide (t2≤70368744177664)) (some (Yj ([]++Zg 1 1 false++Zg ck 4 li++Zg tc 1 false),[]))) (kO fun l=>Zx (chk (decide (Zy l≤70368744177664)) (some (Yj (l++Zg tm 4 li),[]))) (kO fun l=>Zx (chk (decide (Zy l≤70368744177664)) (some (Zf (Uq l),[]))) (kB fun b=>some (Zn [Zf b,Zz .i64 0],[]))))) (Zx (chk (decide (t1≤70368744177664)) (some (Yj ([]++Zg 0 1 false++Zg ck 4 li++Zg tc 1 false),[]))) (kO fun l=>Zx (chk (decide (Zy l≤70368744177664)) (some (Yj (l++Zg tm 4 li),[]))) (kO fun l=>Zx (chk (decide (Zy l≤70368744177664)) (some (Zf (Uq l),[]))) (kB fun b=>some (Zn [Zf b,Zz .i64 0],[])))))))):Option (AV×Blocks))) (by kernel_rfl) ?_
  delta kB kO
  try dsimp only [cStr,cBs,cBool,cU8,cInt,cSl,l63]
  unfold Xz
  cases h1:Zb ck 4294967295
  ·rfl
  cases h2:Zb tc 199
  ·rfl
  cases h3:Zb tm 4294967295
  ·rfl
  rw [if_neg (by simp)]
  simp only [↓A0,Yn]
  cases li
  ·simp only [↓A0]
   rw [chk_of (by simp [Zv]),chk_of (by simp [Zv]),chk_of (by simp [Zv])]
   rfl
  ·simp only [↓A0]
   rw [chk_of (by simp [Zv]),chk_of (by simp [Zv]),chk_of (by simp [Zv])]
   rfl
 ·cases h
theorem w57:Walked Tryz.prog G 57 5 sp57:=by
 refine ⟨Tryz.f57,Tryz.func57,by decide +kernel,rfl,fun xs bl r h=> ?_⟩
 unfold sp57 at h
 split at h
 ·rename_i s li
  cases h
  refine Eq.trans (b:=(sel (decide ((↑(Zy s):Int)>1012)) (some (Zn [Zf [],Zz .i64 105],[])) (Zx (chk (decide (Zy (Vd 8 li)≤70368744177664)) (some (Yj (Vd 8 li++Zg (↑(Zy s):Int) 2 li),[]))) fun (r:AV×Blocks)=>onNilB (Yz r) (AV.onOwnB (Yv r) fun l=>Zx (chk (decide (Zy (Yk l (Yk s []))≤140737488355328)&&decide (Zy [Zf l,Zf s]≤1000)) (some (Yj (Yk l (Yk s [])),[]))) fun (r:AV×Blocks)=>onNilB (Yz r) (AV.onOwnB (Yv r) fun l=>some (Zn [Zf l,Zz .i64 0],[])))):Option (AV×Blocks))) (by kernel_rfl) ?_
  unfold Wd
  by_cases h:1012<s.length
  ·rw [sel_pos (by simp;omega),if_pos h]
  rw [sel_neg (by simp;omega),if_neg h]
  have hl:(Vd 8 li).length=2:=by cases li<;>rfl
  simp only [↓A0]
  rw [chk_of (by simp [hl]),chk_of (by simp [Zv,hl];omega)]
  show some (Zn [Zf ((Vd 8 li++Zg (↑s.length:Int) 2 li)++(s++[])),Zz Zk 0],([]:Blocks))=_
  rw [List.append_nil]
 ·cases h
theorem w94:Walked Tryz.prog G 94 5 sp94:=by
 refine ⟨Tryz.f94,Tryz.func94,by decide +kernel,rfl,fun xs bl r h=> ?_⟩
 unfold sp94 at h
 split at h
 ·rename_i li x y z ad k lf iss sv ins
  obtain ⟨hpre,h2⟩:=chk_inv h;cases h2
  refine Eq.trans (b:=(let t0:Nat:=Zy ([]++Zg 0 1 false)+Zy x+Zy y+Zy z;let t1:Nat:=Zy ([]++Zg 1 1 false)+Zy x+Zy y+Zy z;let t2:Option (AV×Blocks):=chk (decide (0≤k)&&decide (k<18446744073709551616)) (some (Zf (Kerb.keyBytes k),[]));Zx (chk (l63 x&&l63 y&&l63 z&&l63 sv&&l63 ins&&decide (0≤k)&&decide (k<18446744073709551616)) (some (Zz .i64 (Wg (Vw li (Zh x y z) ad k lf iss sv ins)),[]))) (kI .i64 fun n=>sel (!n==0) (some (Zn [Zf [],Zz .i64 n],[])) (sel li (Zx (chk (decide (t1≤70368744170000)) (some (Zf (Vf ([]++Zg 1 1 false) (Zh x y z)),[]))) (kB fun b=>Zx (chk (decide (Zy b≤70368744177664)) (some (Yj (b++Zg ad 4 li),[]))) (kO fun l=>Zx t2 (kB fun b=>chk (room (Zy l+Zy b) 1) (Zx (chk (decide (Zy (l++b)≤70368744177664)) (some (Yj (l++b++Zg lf 1 false),[]))) (kO fun l=>Zx (chk (decide (Zy l≤70368744177664)) (some (Yj (l++Zg iss 4 li),[]))) (kO fun l=>Zx (chk (decide (Zy l+Zy sv≤70368744177664)) (some (Zf (Yx l sv),[]))) (kB fun b=>Zx (chk (decide (Zy b+Zy ins≤70368744177664)) (some (Zf (Yx b ins),[]))) (kB fun b=>Zx (chk (decide (Zy b≤70368744177664)) (some (Yj (Uq b),[]))) (kO fun l=>some (Zn [Zf l,Zz .i64 0],[]))))))))))) (Zx (chk (decide (t0≤70368744170000)) (some (Zf (Vf ([]++Zg 0 1 false) (Zh x y z)),[]))) (kB fun b=>Zx (chk (decide (Zy b≤70368744177664)) (some (Yj (b++Zg ad 4 li),[]))) (kO fun l=>Zx t2 (kB fun b=>chk (room (Zy l+Zy b) 1) (Zx (chk (decide (Zy (l++b)≤70368744177664)) (some (Yj (l++b++Zg lf 1 false),[]))) (kO fun l=>Zx (chk (decide (Zy l≤70368744177664)) (some (Yj (l++Zg iss 4 li),[]))) (kO fun l=>Zx (chk (decide (Zy l+Zy sv≤70368744177664)) (some (Zf (Yx l sv),[]))) (kB fun b=>Zx (chk (decide (Zy b+Zy ins≤70368744177664)) (some (Zf (Yx b ins),[]))) (kB fun b=>Zx (chk (decide (Zy b≤70368744177664)) (some (Yj (Uq b),[]))) (kO fun l=>some (Zn [Zf l,Zz .i64 0],[]))))))))))))):Option (AV×Blocks))) (by kernel_rfl) ?_
  delta kB kO kI
  try dsimp only [cStr,cBs,cBool,cU8,cInt,cSl,l63]
  simp only [Yq,decide_eq_true_eq] at hpre
  obtain ⟨⟨⟨⟨⟨⟨h1,h2⟩,h3⟩,h4⟩,h5⟩,h6⟩,h7⟩:=hpre
  simp only [h1,h2,h3,h4,h5,h6,h7,decide_true,Xw,↓A0,A0]
  have hb := @Kerb.encTicket_inv ⟨li,⟨x,y,z⟩,ad,k,lf,iss,sv,ins⟩
  unfold Vb at hb ⊢
  dsimp only at hb ⊢
  generalize hE:Wg _=e at hb ⊢
  by_cases he:e=0
  case neg=>rw [sel_pos (by simpa using he),if_pos he]
  rw [if_neg (by simpa using he)] at hb
  obtain ⟨v1,v2,v3,_⟩:=hb rfl
  have l1:=Kerb.valid_len v1
  have l2:=(Kerb.name_ok v2).1
  have l3:=(Kerb.inst_ok v3).1
  dsimp only at l1
  rw [sel_neg (by simpa using he),if_neg (by simpa using he)]
  cases li
  ·rw [sel_false,chk_of (by first | (simp [Zw,Zv,Zj];done) | (simp [Zw,Zv,Zj];omega)),chk_of (by first | (simp [Zw,Zv,Zj];done) | (simp [Zw,Zv,Zj];omega)),chk_of (Kerb.room_ok (by first | (simp [Zw,Zv,Zj];done) | (simp [Zw,Zv,Zj];omega))),chk_of (by first | (simp [Zw,Zv,Zj];done) | (simp [Zw,Zv,Zj];omega)),chk_of (by first | (simp [Zw,Zv,Zj];done) | (simp [Zw,Zv,Zj];omega)),chk_of (by first | (simp [Zw,Zv,Zj];done) | (simp [Zw,Zv,Zj];omega)),chk_of (by first | (simp [Yx,Zw,Zv,Zj];done) | (simp [Yx,Zw,Zv,Zj];omega)),chk_of (by first | (simp [Yx,Zw,Zv,Zj];done) | (simp [Yx,Zw,Zv,Zj];omega))]
   simp
  ·rw [sel_true,chk_of (by first | (simp [Zw,Zv,Zj];done) | (simp [Zw,Zv,Zj];omega)),chk_of (by first | (simp [Zw,Zv,Zj];done) | (simp [Zw,Zv,Zj];omega)),chk_of (Kerb.room_ok (by first | (simp [Zw,Zv,Zj];done) | (simp [Zw,Zv,Zj];omega))),chk_of (by first | (simp [Zw,Zv,Zj];done) | (simp [Zw,Zv,Zj];omega)),chk_of (by first | (simp [Zw,Zv,Zj];done) | (simp [Zw,Zv,Zj];omega)),chk_of (by first | (simp [Zw,Zv,Zj];done) | (simp [Zw,Zv,Zj];omega)),chk_of (by first | (simp [Yx,Zw,Zv,Zj];done) | (simp [Yx,Zw,Zv,Zj];omega)),chk_of (by first | (simp [Yx,Zw,Zv,Zj];done) | (simp [Yx,Zw,Zv,Zj];omega))]
   simp
 ·cases h
theorem w95:Walked Tryz.prog G 95 5 sp95:=by
 refine ⟨Tryz.f95,Tryz.func95,by decide +kernel,rfl,fun xs bl r h=> ?_⟩
 unfold sp95 at h
 split at h
 ·rename_i x y z ck tc tm li
  obtain ⟨hpre,h2⟩:=chk_inv h;cases h2
  refine Eq.trans (b:=(let t0:Nat:=Zy ([]++Zg (bif li then 1 else 0) 1 false)+Zy x+Zy y+Zy z;Zx (chk (l63 x&&l63 y&&l63 z) (some (Zz .i64 (Vx (Wz (Zh x y z) ck tc tm)),[]))) (kI .i64 fun n=>sel (!n==0) (some (Zn [Zf [],Zz .i64 n],[])) (Zx (chk (decide (t0≤70368744170000)) (some (Zf (Vf ([]++Zg (bif li then 1 else 0) 1 false) (Zh x y z)),[]))) (kB fun b=>Zx (chk (decide (Zy b≤70368744177664)) (some (Yj (b++Zg ck 4 li),[]))) (kO fun l=>Zx (chk (decide (Zy l≤70368744177664)) (some (Yj (l++Zg tc 1 false),[]))) (kO fun l=>Zx (chk (decide (Zy l≤70368744177664)) (some (Yj (l++Zg tm 4 li),[]))) (kO fun l=>Zx (chk (decide (Zy l≤70368744177664)) (some (Yj (Uq l),[]))) (kO fun l=>some (Zn [Zf l,Zz .i64 0],[])))))))):Option (AV×Blocks))) (by kernel_rfl) ?_
  delta kB kO kI
  try dsimp only [cStr,cBs,cBool,cU8,cInt,cSl,l63]
  simp only [A0,Xj,Xk,Xn,hpre]
  unfold Uv
  by_cases h:(Wz ⟨x,y,z⟩ ck tc tm).check=0
  case neg =>
   rw [sel_pos (by simpa using h),if_pos h]
  have hv:Yy ⟨x,y,z⟩=true:=by
   unfold Vx at h
   cases hv:Yy ⟨x,y,z⟩
   ·simp [hv] at h
   ·rfl
  have l1:=Kerb.valid_len hv
  simp only at l1
  rw [sel_neg (by simp [h]),if_neg (by simpa using h)]
  cases li
  ·simp only [A0,Xj,Xk,Xn,List.nil_append,cond_false,cond_true]
   rw [chk_of (by simp [Zv];omega),chk_of (by simp [Zv,Zw];omega),chk_of (by simp [Zv,Zw];omega),chk_of (by simp [Zv,Zw];omega),chk_of (by simp [Zv,Zw];omega)]
  ·simp only [A0,Xj,Xk,Xn,List.nil_append,cond_false,cond_true]
   rw [chk_of (by simp [Zv];omega),chk_of (by simp [Zv,Zw];omega),chk_of (by simp [Zv,Zw];omega),chk_of (by simp [Zv,Zw];omega),chk_of (by simp [Zv,Zw];omega)]
 ·cases h
theorem w126:Walked Tryz.prog G 126 5 sp126:=by
 refine ⟨Tryz.f126,Tryz.func126,by decide +kernel,rfl,fun xs bl r h=> ?_⟩
 unfold sp126 at h
 split at h
 ·rename_i s
  obtain ⟨hpre,h2⟩:=chk_inv h;cases h2
  refine Eq.trans (b:=(sel (!s==[]) (sel (decide ((↑(Zy s):Int)≤39)) (Zx (chk (decide (Zy s≤9223372036854775807)) (some (Zu (Ww s [(46:UInt8),(64:UInt8)]),[]))) fun (r:AV×Blocks)=>onNilB (Yz r) (Xb (Yv r) fun b=>some (Zu b,[]))) (some (Zu false,[]))) (some (Zu false,[])):Option (AV×Blocks))) (by kernel_rfl) ?_
  simp only [A0]
  rw [chk_of hpre,decide_eq_decide.2 (show ((s.length:Int)≤39)↔s.length≤39 from by omega)]
  simp only [Wk]
  cases s with
  | nil=>rfl
  | cons x r=>cases decide ((x::r).length≤39)<;>rfl
 ·cases h
theorem w127:Walked Tryz.prog G 127 5 sp127:=by
 refine ⟨Tryz.f127,Tryz.func127,by decide +kernel,rfl,fun xs bl r h=> ?_⟩
 unfold sp127 at h
 split at h
 ·rename_i s
  obtain ⟨hpre,h2⟩:=chk_inv h;cases h2
  refine Eq.trans (b:=(sel (decide ((↑(Zy s):Int)≤39)) (Zx (chk (decide (Zy s≤9223372036854775807)) (some (Zu (Ww s [(64:UInt8)]),[]))) fun (r:AV×Blocks)=>onNilB (Yz r) (Xb (Yv r) fun b=>some (Zu b,[]))) (some (Zu false,[])):Option (AV×Blocks))) (by kernel_rfl) ?_
  simp only [A0]
  rw [chk_of hpre,decide_eq_decide.2 (show ((s.length:Int)≤39)↔s.length≤39 from by omega)]
  simp only [Wx]
  cases decide (s.length≤39)<;>rfl
 ·cases h
theorem w174:Walked Tryz.prog G 174 5 sp174:=by
 refine ⟨Tryz.f174,Tryz.func174,by decide +kernel,rfl,fun xs bl r h=> ?_⟩
 unfold sp174 at h
 split at h
 ·rename_i b
  obtain ⟨hpre,h2⟩:=chk_inv h;cases h2
  refine Eq.trans (b:=(let t1:Int:=Zp .i64 (↑(BitVec.toNat (BitVec.ofInt (Uw .i64) (Zp .i64 (Zp .i64 (↑(Yu (Wm b (Zm 10) (0:UInt8))):Int)*2 ^ min (Zm 8) (Uw .i64))) ||| BitVec.ofInt (Uw .i64) (Zp .i64 (↑(Yu (Wm b (Zm 11) (0:UInt8))):Int)))):Int);let t2:Option (AV×Blocks):=some (Zn [Xf [Zz .i64 0,Zz .u64 0,Zf []],Zz .i64 0,Zz .i64 100],[]);let t3:Option (AV×Blocks):=some (Zn [Xf [Zz .i64 0,Zz .u64 0,Zf []],Zz .i64 0,Zz .i64 101],[]);let t0:Int:=Zp .i64 (12+t1);sel (decide ((↑(Zy b):Int)<12)) t3 (chk (decide (1<(↑(Zy b):Int))) (chk (decide (10≤(↑(Zy b):Int))) (Zx (chk (decide (Zy (List.drop (Zm 2) (List.take (Zm 10) b))≤4611686018427387904)) (some (Zn [Zz .u64 (Yv (Kerb.keyRead (List.drop (Zm 2) (List.take (Zm 10) b)))),Zu (Yz (Kerb.keyRead (List.drop (Zm 2) (List.take (Zm 10) b))))],[]))) (kT fun vs=>cInt .u64 vs fun n r=>cBool r fun b_1 r=>onNil r (chk (decide (10<(↑(Zy b):Int))) (chk (decide (11<(↑(Zy b):Int))) (chk (decide (0<(↑(Zy b):Int))) (sel (!Wm b (Zm 0) (0:UInt8)==(66:UInt8)) t2 (sel (!Kerb.isKind (Zp .i64 (↑(Yu (Wm b (Zm 1) (0:UInt8))):Int))) t2 (sel (!b_1) t2 (sel (decide (t1>1000)) t2 (sel (decide ((↑(Zy b):Int)<t0)) t3 (chk (decide (12≤t0)&&decide (t0≤t0)&&decide (t0≤(↑(Zy b):Int))) (Zx (chk (decide (Zy (List.drop (Zm 12) (List.take (Zm t0) b))≤140737488355328)) (some (Zf (List.drop (Zm 12) (List.take (Zm t0) b)),[]))) (kB fun b_2=>some (Zn [Xf [Zz .i64 (Zp .i64 (↑(Yu (Wm b (Zm 1) (0:UInt8))):Int)),Zz .u64 n,Zf b_2],Zz .i64 t0,Zz .i64 0],[])))))))))))))))):Option (AV×Blocks))) (by kernel_rfl) ?_
  delta kT kB
  try dsimp only [cStr,cBs,cBool,cU8,cInt,cSl,l63]
  simp only [decide_eq_true_eq] at hpre
  unfold Xu
  by_cases h0:b.length<12
  ·rw [sel_pos (by simp;omega),if_pos h0];rfl
  rw [sel_neg (by simp;omega),if_neg h0]
  have hc:=Kerb.cut_len b 2 8
  have hs:(b.getD 10 0).toNat*256+(b.getD 11 0).toNat=Kerb.boxSize b:=rfl
  simp only [Kerb.cut_28,Kerb.size_or]
  simp only [show Zm 0=0 from rfl,show Zm 1=1 from rfl,show Zm 10=10 from rfl,show Zm 11=11 from rfl,Kerb.wrap_byte,hs]
  rw [chk_of (by simp;omega),chk_of (by simp;omega),chk_of (by simp;omega)]
  simp only [↓A0]
  rw [chk_of (by simp;omega),chk_of (by simp;omega),chk_of (by simp;omega)]
  by_cases h1:b.getD 0 0=66
  case neg=>rw [sel_pos (by simpa using h1),if_pos (.inl h1)];rfl
  rw [sel_neg (by simpa using h1)]
  cases h2:Kerb.isKind ((b.getD 1 0).toNat:Int)
  ·rw [if_pos (.inr (.inl rfl))];rfl
  rw [Yn,sel_false]
  cases h3:(Kerb.keyRead (Kerb.cut b 2 8)).2
  ·rw [if_pos (.inr (.inr (.inl rfl)))];rfl
  rw [Yn,sel_false]
  by_cases h4:1000<Kerb.boxSize b
  ·rw [sel_pos (by simp;omega),if_pos (.inr (.inr (.inr h4)))];rfl
  rw [sel_neg (by simp;omega),if_neg (by rintro (h | h | h | h)<;>first | exact h h1 | cases h | omega),wrap_i64 (by omega) (by omega)]
  by_cases h5:b.length<12+Kerb.boxSize b
  ·rw [sel_pos (by simp;omega),if_pos h5];rfl
  have hc2:=Kerb.cut_len b 12 (Kerb.boxSize b)
  rw [sel_neg (by simp;omega),if_neg h5,Kerb.cut_12,chk_of (by simp;omega)]
  simp only [↓A0]
  rw [chk_of (by simp;omega)]
  simp
 ·cases h
theorem w23:Walked Tryz.prog G 23 6 sp23:=by
 refine ⟨Tryz.f23,Tryz.func23,by decide +kernel,rfl,fun xs bl r h=> ?_⟩
 unfold sp23 at h
 split at h
 ·rename_i x y z k ad ck tm tc iss lf tk au li
  obtain ⟨hpre,h2⟩:=chk_inv h;cases h2
  refine Eq.trans (b:=(sel (!Xx (Xz (Vv (Zp .i64 (Zp .u32 (Zp .i64 (ck+1)))) tc tm) li)==0) (some (Zn [Zf [],Zz .i64 (Xx (Xz (Vv (Zp .i64 (Zp .u32 (Zp .i64 (ck+1)))) tc tm) li))],[])) (Zx (chk (decide (0≤k)&&decide (k<18446744073709551616)) (some (Zn [Zf (Xy (Vg 4 k (Xy (Xz (Vv (Zp .i64 (Zp .u32 (Zp .i64 (ck+1)))) tc tm) li)))),Zz .i64 (Xx (Vg 4 k (Xy (Xz (Vv (Zp .i64 (Zp .u32 (Zp .i64 (ck+1)))) tc tm) li))))],[]))) fun (r:AV×Blocks)=>onNilB (Yz r) (Ub (Yv r) fun vs=>onCons vs fun x r=>Up x fun b=>onCons r fun x r=>Yg .i64 x fun n=>onNil r (sel (!n==0) (some (Zn [Zf [],Zz .i64 n],[])) (some (Zn [Zf (Xy (Wd b li)),Zz .i64 (Xx (Wd b li))],[]))))):Option (AV×Blocks))) (by kernel_rfl) ?_
  simp only [Yq,decide_eq_true_eq] at hpre
  have hs:Zp .i64 (Zp .u32 (Zp .i64 (ck+1)))=Kerb.nextSum ck:=Kerb.nextSum_in ck
  rw [hs]
  unfold Kerb.serviceAnswer
  simp only [hpre,decide_true,Xw,↓A0,A0]
  by_cases h1:(Xz ⟨Kerb.nextSum ck,tc,tm⟩ li).err=0
  case neg=>rw [sel_pos (by simpa using h1),if_pos h1]
  rw [sel_neg (by simpa using h1),if_neg (by simpa using h1)]
  by_cases h2:(Vg 4 k (Xz ⟨Kerb.nextSum ck,tc,tm⟩ li).val).err=0
  case neg=>rw [sel_pos (by simpa using h2),if_pos h2]
  rw [sel_neg (by simpa using h2),if_neg (by simpa using h2)]
 ·cases h
theorem w43:Walked Tryz.prog G 43 6 sp43:=by
 refine ⟨Tryz.f43,Tryz.func43,by decide +kernel,rfl,fun xs bl r h=> ?_⟩
 unfold sp43 at h
 split at h
 ·rename_i li x y z ad k lf iss sv ins key
  obtain ⟨hpre,h2⟩:=chk_inv h;cases h2
  refine Eq.trans (b:=(Zx (chk (decide (Zy x≤9223372036854775807)&&decide (Zy y≤9223372036854775807)&&decide (Zy z≤9223372036854775807)&&decide (Zy sv≤9223372036854775807)&&decide (Zy ins≤9223372036854775807)&&decide (0≤k)&&decide (k<18446744073709551616)) (some (Zn [Zf (Xy (Vb (Vw li (Zh x y z) ad k lf iss sv ins))),Zz .i64 (Xx (Vb (Vw li (Zh x y z) ad k lf iss sv ins)))],[]))) fun (r:AV×Blocks)=>onNilB (Yz r) (Ub (Yv r) fun vs=>onCons vs fun x r=>Up x fun b=>onCons r fun x r=>Yg .i64 x fun n=>onNil r (sel (!n==0) (some (Zn [Zf [],Zz .i64 n],[])) (Zx (chk (decide (0≤key)&&decide (key<18446744073709551616)) (some (Zn [Zf (Xy (Vg 1 key b)),Zz .i64 (Xx (Vg 1 key b))],[]))) fun (r:AV×Blocks)=>onNilB (Yz r) (Ub (Yv r) fun vs=>onCons vs fun x r=>Up x fun b=>onCons r fun x r=>Yg .i64 x fun n=>onNil r (some (Zn [Zf b,Zz .i64 n],[])))))):Option (AV×Blocks))) (by kernel_rfl) ?_
  simp only [Yq,decide_eq_true_eq] at hpre
  obtain ⟨⟨⟨⟨⟨⟨⟨⟨h1,h2⟩,h3⟩,h4⟩,h5⟩,h6⟩,h7⟩,h8⟩,h9⟩:=hpre
  simp only [h1,h2,h3,h4,h5,h6,h7,h8,h9,decide_true,Xw,↓A0,A0]
  unfold Kerb.sealTicket
  generalize Vb _=E
  by_cases he:E.err=0
  ·rw [sel_neg (by simpa using he),if_neg (by simpa using he)]
  ·rw [sel_pos (by simpa using he),if_pos he]
 ·cases h
theorem w44:Walked Tryz.prog G 44 6 sp44:=by
 refine ⟨Tryz.f44,Tryz.func44,by decide +kernel,rfl,fun xs bl r h=> ?_⟩
 unfold sp44 at h
 split at h
 ·rename_i x y z ck tc tm li k
  obtain ⟨hpre,h2⟩:=chk_inv h;cases h2
  refine Eq.trans (b:=(Zx (chk (decide (Zy x≤9223372036854775807)&&decide (Zy y≤9223372036854775807)&&decide (Zy z≤9223372036854775807)) (some (Zn [Zf (Xy (Uv (Wz (Zh x y z) ck tc tm) li)),Zz .i64 (Xx (Uv (Wz (Zh x y z) ck tc tm) li))],[]))) fun (r:AV×Blocks)=>onNilB (Yz r) (Ub (Yv r) fun vs=>onCons vs fun x r=>Up x fun b=>onCons r fun x r=>Yg .i64 x fun n=>onNil r (sel (!n==0) (some (Zn [Zf [],Zz .i64 n],[])) (Zx (chk (decide (0≤k)&&decide (k<18446744073709551616)) (some (Zn [Zf (Xy (Vg 2 k b)),Zz .i64 (Xx (Vg 2 k b))],[]))) fun (r:AV×Blocks)=>onNilB (Yz r) (Ub (Yv r) fun vs=>onCons vs fun x r=>Up x fun b=>onCons r fun x r=>Yg .i64 x fun n=>onNil r (some (Zn [Zf b,Zz .i64 n],[])))))):Option (AV×Blocks))) (by kernel_rfl) ?_
  have hpre':=hpre
  simp only [Yq,decide_eq_true_eq] at hpre
  have c1:(decide (x.length≤9223372036854775807)&&decide (y.length≤9223372036854775807)&&decide (z.length≤9223372036854775807))=true:=by simp;omega
  have c2:(decide (0≤k)&&decide (k<18446744073709551616))=true:=by simp;omega
  simp only [A0,Xj,Xk,Xn,c1,c2]
  unfold Kerb.sealAuth
  by_cases h:(Uv (Wz ⟨x,y,z⟩ ck tc tm) li).err=0
  ·rw [sel_neg (by simp [h]),if_neg (by simpa using h)]
  ·rw [sel_pos (by simpa using h),if_pos h]
 ·cases h
theorem w128:Walked Tryz.prog G 128 6 sp128:=by
 refine ⟨Tryz.f128,Tryz.func128,by decide +kernel,rfl,fun xs bl r h=> ?_⟩
 unfold sp128 at h
 split at h
 ·rename_i s
  obtain ⟨hpre,h2⟩:=chk_inv h;cases h2
  refine Eq.trans (b:=(sel (!s==[]) (Zx (chk (decide (Zy s≤9223372036854775807)) (some (Zu (Wx s),[]))) fun (r:AV×Blocks)=>onNilB (Yz r) (Xb (Yv r) fun b=>some (Zu b,[]))) (some (Zu false,[])):Option (AV×Blocks))) (by kernel_rfl) ?_
  simp only [A0]
  rw [chk_of hpre]
  simp only [Kerb.validRealm]
  cases s<;>rfl
 ·cases h
theorem w153:Walked Tryz.prog G 153 6 sp153:=by
 refine ⟨Tryz.f153,Tryz.func153,by decide +kernel,rfl,fun xs bl r h=> ?_⟩
 unfold sp153 at h
 split at h
 ·rename_i b kd k
  obtain ⟨hpre,h2⟩:=chk_inv h;cases h2
  refine Eq.trans (b:=(Zx (chk (decide (Zy b≤140737488355328)) (some (Zn [Xf [Zz .i64 (Kerb.Box.kind (Wb (Xu b))),Zz .u64 (Kerb.Box.key (Wb (Xu b))),Zf (Kerb.Box.body (Wb (Xu b)))],Zz .i64 (Kerb.GotBox.n (Xu b)),Zz .i64 (Kerb.GotBox.err (Xu b))],[]))) fun (r:AV×Blocks)=>onNilB (Yz r) (Ub (Yv r) fun vs=>onCons vs fun x r=>AV.onAgg x fun cs=>onCons cs fun x r_1=>Yg .i64 x fun n=>onCons r_1 fun x r_2=>Yg .u64 x fun n_1=>onCons r_2 fun x r_3=>Up x fun b_1=>onNil r_3 (onCons r fun x r=>Yg .i64 x fun n_2=>onCons r fun x r=>Yg .i64 x fun n_3=>onNil r (sel (!n_3==0) (some (Zn [Zf [],Zu false],[])) (sel (!n_2==(↑(Zy b):Int)) (some (Zn [Zf [],Zu false],[])) (sel (!n==kd) (some (Zn [Zf [],Zu false],[])) (sel (!n_1==k) (some (Zn [Zf [],Zu false],[])) (some (Zn [Zf b_1,Zu true],[])))))))):Option (AV×Blocks))) (by kernel_rfl) ?_
  simp only [↓A0,hpre]
  unfold Kerb.openBox
  generalize Xu b=r
  by_cases h1:r.err=0
  case neg=>rw [sel_pos (by simpa using h1),if_pos (.inl h1)]
  rw [sel_neg (by simpa using h1)]
  by_cases h2:r.n=b.length
  case neg=>rw [sel_pos (by simpa using h2),if_pos (.inr (.inl h2))]
  rw [sel_neg (by simpa using h2)]
  by_cases h3:r.box.kind=kd
  case neg=>rw [sel_pos (by simpa using h3),if_pos (.inr (.inr (.inl h3)))]
  rw [sel_neg (by simpa using h3)]
  by_cases h4:r.box.key=k
  case neg=>rw [sel_pos (by simpa using h4),if_pos (.inr (.inr (.inr h4)))]
  rw [sel_neg (by simpa using h4),if_neg (by simp [h1,h2,h3,h4])]
 ·cases h
set_option maxHeartbeats 4000000 in
theorem w19:Walked Tryz.prog G 19 7 sp19:=by
 refine ⟨Tryz.f19,Tryz.func19,by decide +kernel,rfl,fun xs bl r h=> ?_⟩
 unfold sp19 at h
 split at h
 ·rename_i cu co cv cr lt tn mt cad cfr cis ctm ctk clf ccs cky ckv css ctt cau x y z k v
  obtain ⟨hpre,h2⟩:=chk_inv h;cases h2
  refine Eq.trans (b:=(let t0:Int:=Yd (Zp .i64 (↑(Yu cu):Int)) 6;let t1:Int:=Yd (Zp .i64 (↑(Yu css):Int)) 4;let t2:AV:=Zz .i64 (Zp .i64 (1000+Zp .i64 (Zp .i64 (↑(Yu cis):Int)*8)));Zx (chk (decide (0≤t0)&&decide (t0≤4611686018427387904)) (some (Xf [Zq (Vq (Wh t0)),Zq (Vj (Wh t0)),Zq (Vy (Wh t0))],[]))) (kA fun cs=>onCons cs fun x_1 r=>AV.onStr x_1 fun b=>onCons r fun x_2 r=>AV.onStr x_2 fun b_1=>onCons r fun x_3 r=>AV.onStr x_3 fun b_2=>onNil r (Zx (chk (decide (0≤t1)&&decide (t1≤1000)) (some (Zz .u64 (Kerb.session t1),[]))) (kI .u64 fun n=>Zx (sel (Vk (Zm (Yd (↑(Yu cv):Int) (↑(Yu (7:UInt8)):Int)))==(6:UInt8)) (some [Zz .u64 k,Zz .i64 v,Zd cu,Zd co,Zd cv,Zd cr,Zu lt,Zu tn,Zu mt,Zd cad,Zd cfr,Zd cis,Zd ctm,Zd ctk,Zd clf,Zz .u32 ccs,Zd cky,Zd ckv,Zd css,Zz .u16 ctt,Zz .u16 cau,Zq x,Zq y,Zq z,Zu false,Zu false,Zz .i64 0,Zq [],Zf [],Zf [],Zu tn,Zq b,Zq b_1,Zq b_2,Zz .i64 (Yd (Zp .i64 (↑(Yu cad):Int)) 3),Zz .u64 n,Zz .i64 (Zp .i64 (Vh (Zp .i64 (↑(Yu clf):Int)) 4)),t2,Zq x,Zq [(111:UInt8),(116:UInt8),(104:UInt8),(101:UInt8),(114:UInt8)]]) (some [Zz .u64 k,Zz .i64 v,Zd cu,Zd co,Zd cv,Zd cr,Zu lt,Zu tn,Zu mt,Zd cad,Zd cfr,Zd cis,Zd ctm,Zd ctk,Zd clf,Zz .u32 ccs,Zd cky,Zd ckv,Zd css,Zz .u16 ctt,Zz .u16 cau,Zq x,Zq y,Zq z,Zu false,Zu false,Zz .i64 0,Zq [],Zf [],Zf [],Zu tn,Zq b,Zq b_1,Zq b_2,Zz .i64 (Yd (Zp .i64 (↑(Yu cad):Int)) 3),Zz .u64 n,Zz .i64 (Zp .i64 (Vh (Zp .i64 (↑(Yu clf):Int)) 4)),t2,Zq x,Zq y])) fun l=>cInt .u64 l fun n r=>cInt .i64 r fun n_1 r=>cU8 r fun b r=>cU8 r fun b_3 r=>let t3:Int:=Yd (Zp .i64 (↑(Yu b_3):Int)) 6;cU8 r fun b_4 r=>cU8 r fun b_5 r=>cBool r fun b_6 r=>cBool r fun b_7 r=>cBool r fun b_8 r=>cU8 r fun b_9 r=>cU8 r fun b_10 r=>cU8 r fun b_11 r=>cU8 r fun b_12 r=>let t4:List AV:=[Zz .i64 (Zp .i64 (1000+Zp .i64 (Zp .i64 (↑(Yu b_12):Int)*8)))];cU8 r fun b_13 r=>cU8 r fun b_14 r=>cInt .u32 r fun n_2 r=>let t5:List AV:=Zz .i64 (Zp .i64 n_2)::Zz .i64 (Yd (Zp .i64 (↑(Yu b_13):Int)) 3)::t4;cU8 r fun b_15 r=>cU8 r fun b_16 r=>cU8 r fun b_17 r=>cInt .u16 r fun n_3 r=>cInt .u16 r fun n_4 r=>cStr r fun b_18 r=>cStr r fun b_19 r=>cStr r fun b_20 r=>cBool r fun b_21 r=>cBool r fun b_22 r=>cInt .i64 r fun n_5 r=>cStr r fun b_23 r=>cBs r fun b_24 r=>cBs r fun b_25 r=>cBool r fun b_26 r=>cStr r fun b_27 r=>cStr r fun b_28 r=>cStr r fun b_29 r=>cInt .i64 r fun n_6 r=>cInt .u64 r fun n_7 r=>cInt .i64 r fun n_8 r=>cInt .i64 r fun n_9 r=>cStr r fun b_30 r=>cStr r fun b_31 r=>onNil r (Zx (sel (Vk (Zm (Yd (↑(Yu b_3):Int) (↑(Yu (8:UInt8)):Int)))==(7:UInt8)) (Zx (chk (decide (0≤t3)&&decide (t3≤4611686018427387904)) (some (Xf [Zq (Vq (Wh t3)),Zq (Vj (Wh t3)),Zq (Vy (Wh t3))],[]))) (kA fun cs=>cStr cs fun b_32 r=>cStr r fun b_33 r=>cStr r fun b_34 r=>onNil r (some (Zz .u64 n::Zz .i64 n_1::Zd b::Zd b_3::Zd b_4::Zd b_5::Zu b_6::Zu b_7::Zu b_8::Zd b_9::Zd b_10::Zd b_11::Zd b_12::Zd b_13::Zd b_14::Zz .u32 n_2::Zd b_15::Zd b_16::Zd b_17::Zz .u16 n_3::Zz .u16 n_4::Zq b_18::Zq b_19::Zq b_20::Zu b_21::Zu b_22::Zz .i64 n_5::Zq b_23::Zf b_24::Zf b_25::Zu b_26::Zq b_27::Zq b_28::Zq b_29::Zz .i64 n_6::Zz .u64 n_7::Zz .i64 n_8::Zz .i64 n_9::Zq b_30::Zq b_31::Zq b_32::Zq b_33::Zq b_34::t5)))) (some (Zz .u64 n::Zz .i64 n_1::Zd b::Zd b_3::Zd b_4::Zd b_5::Zu b_6::Zu b_7::Zu b_8::Zd b_9::Zd b_10::Zd b_11::Zd b_12::Zd b_13::Zd b_14::Zz .u32 n_2::Zd b_15::Zd b_16::Zd b_17::Zz .u16 n_3::Zz .u16 n_4::Zq b_18::Zq b_19::Zq b_20::Zu b_21::Zu b_22::Zz .i64 n_5::Zq b_23::Zf b_24::Zf b_25::Zu b_26::Zq b_27::Zq b_28::Zq b_29::Zz .i64 n_6::Zz .u64 n_7::Zz .i64 n_8::Zz .i64 n_9::Zq b_30::Zq b_31::Zq b_27::Zq b_28::Zq b_29::t5))) fun l=>cInt .u64 l fun n r=>cInt .i64 r fun n_10 r=>cU8 r fun b r=>cU8 r fun b_32 r=>cU8 r fun b_33 r=>cU8 r fun b_34 r=>cBool r fun b_35 r=>cBool r fun b_36 r=>cBool r fun b_37 r=>cU8 r fun b_38 r=>cU8 r fun b_39 r=>cU8 r fun b_40 r=>cU8 r fun b_41 r=>cU8 r fun b_42 r=>cU8 r fun b_43 r=>cInt .u32 r fun n_11 r=>cU8 r fun b_44 r=>cU8 r fun b_45 r=>cU8 r fun b_46 r=>cInt .u16 r fun n_12 r=>cInt .u16 r fun n_13 r=>cStr r fun b_47 r=>cStr r fun b_48 r=>cStr r fun b_49 r=>cBool r fun b_50 r=>cBool r fun b_51 r=>cInt .i64 r fun n_14 r=>cStr r fun b_52 r=>cBs r fun b_53 r=>cBs r fun b_54 r=>cBool r fun b_55 r=>cStr r fun b_56 r=>cStr r fun b_57 r=>cStr r fun b_58 r=>cInt .i64 r fun n_15 r=>cInt .u64 r fun n_16 r=>cInt .i64 r fun n_17 r=>cInt .i64 r fun n_18 r=>cStr r fun b_59 r=>cStr r fun b_60 r=>cStr r fun b_61 r=>cStr r fun b_62 r=>cStr r fun b_63 r=>cInt .i64 r fun n_19 r=>cInt .i64 r fun n_20 r=>cInt .i64 r fun n_21 r=>onNil r (Zx (chk (l63 b_56&&l63 b_57&&l63 b_58&&l63 b_59&&l63 b_60&&decide (0≤n_16)&&decide (n_16<18446744073709551616)&&decide (0≤n)&&decide (n<18446744073709551616)) (some (Zn [Zf (Xy (Kerb.sealTicket (Vw b_55 (Zh b_56 b_57 b_58) n_15 n_16 n_17 n_18 b_59 b_60) n)),Zz .i64 (Xx (Kerb.sealTicket (Vw b_55 (Zh b_56 b_57 b_58) n_15 n_16 n_17 n_18 b_59 b_60) n))],[]))) (kT fun vs=>cBs vs fun b_64 r=>cInt .i64 r fun n r=>onNil r (Zx (chk (l63 b_61&&l63 b_62&&l63 b_63&&decide (0≤n_16)&&decide (n_16<18446744073709551616)) (some (Zn [Zf (Xy (Kerb.sealAuth (Wz (Zh b_61 b_62 b_63) n_19 n_20 n_21) b_35 n_16)),Zz .i64 (Xx (Kerb.sealAuth (Wz (Zh b_61 b_62 b_63) n_19 n_20 n_21) b_35 n_16))],[]))) (kT fun vs=>cBs vs fun b_65 r=>cInt .i64 r fun n r=>onNil r (Zx (sel (Yd n_12 16==15) (Zx (chk (decide (Zy b_64≤1000000)&&decide (0≤Zp .u16 (Vh n_12 16))&&decide (Zp .u16 (Vh n_12 16)≤65535)) (some (Zf (Wu b_64 (Zp .u16 (Vh n_12 16))),[]))) (kB fun b_66=>some [Zd b,Zd b_32,Zd b_33,Zd b_34,Zu b_35,Zu b_36,Zu b_37,Zd b_38,Zd b_39,Zd b_40,Zd b_41,Zd b_42,Zd b_43,Zz .u32 n_11,Zd b_44,Zd b_45,Zd b_46,Zz .u16 n_12,Zz .u16 n_13,Zu b_50,Zu b_51,Zz .i64 n_14,Zq b_52,Zf b_53,Zf b_54,Zf b_65,Zu b_35,Zu b_37,Zz .i64 n_10,Zq b_49,Zf b_66,Zf b_65])) (some [Zd b,Zd b_32,Zd b_33,Zd b_34,Zu b_35,Zu b_36,Zu b_37,Zd b_38,Zd b_39,Zd b_40,Zd b_41,Zd b_42,Zd b_43,Zz .u32 n_11,Zd b_44,Zd b_45,Zd b_46,Zz .u16 n_12,Zz .u16 n_13,Zu b_50,Zu b_51,Zz .i64 n_14,Zq b_52,Zf b_53,Zf b_54,Zf b_65,Zu b_35,Zu b_37,Zz .i64 n_10,Zq b_49,Zf b_64,Zf b_65])) fun l=>cU8 l fun b r=>cU8 r fun b_66 r=>cU8 r fun b_67 r=>cU8 r fun b_68 r=>cBool r fun b_69 r=>cBool r fun b_70 r=>cBool r fun b_71 r=>cU8 r fun b_72 r=>cU8 r fun b_73 r=>cU8 r fun b_74 r=>cU8 r fun b_75 r=>cU8 r fun b_76 r=>cU8 r fun b_77 r=>cInt .u32 r fun n r=>cU8 r fun b_78 r=>cU8 r fun b_79 r=>cU8 r fun b_80 r=>cInt .u16 r fun n_22 r=>cInt .u16 r fun n_23 r=>cBool r fun b_81 r=>cBool r fun b_82 r=>cInt .i64 r fun n_24 r=>cStr r fun b_83 r=>cBs r fun b_84 r=>cBs r fun b_85 r=>cBs r fun b_86 r=>cBool r fun b_87 r=>cBool r fun b_88 r=>cInt .i64 r fun n_25 r=>cStr r fun b_89 r=>cBs r fun b_90 r=>cBs r fun b_91 r=>onNil r (Zx (sel (Yd n_23 16==15) (Zx (chk (decide (Zy b_86≤1000000)&&decide (0≤Zp .u16 (Vh n_23 16))&&decide (Zp .u16 (Vh n_23 16)≤65535)) (some (Zf (Wu b_86 (Zp .u16 (Vh n_23 16))),[]))) (kB fun b_92=>some [Zd b,Zd b_66,Zd b_67,Zd b_68,Zu b_69,Zu b_70,Zu b_71,Zd b_72,Zd b_73,Zd b_74,Zd b_75,Zd b_76,Zd b_77,Zz .u32 n,Zd b_78,Zd b_79,Zd b_80,Zz .u16 n_22,Zz .u16 n_23,Zu b_81,Zu b_82,Zz .i64 n_24,Zq b_83,Zf b_84,Zf b_85,Zu b_87,Zu b_88,Zz .i64 n_25,Zq b_89,Zf b_90,Zf b_92])) (some [Zd b,Zd b_66,Zd b_67,Zd b_68,Zu b_69,Zu b_70,Zu b_71,Zd b_72,Zd b_73,Zd b_74,Zd b_75,Zd b_76,Zd b_77,Zz .u32 n,Zd b_78,Zd b_79,Zd b_80,Zz .u16 n_22,Zz .u16 n_23,Zu b_81,Zu b_82,Zz .i64 n_24,Zq b_83,Zf b_84,Zf b_85,Zu b_87,Zu b_88,Zz .i64 n_25,Zq b_89,Zf b_90,Zf b_91])) fun l=>cU8 l fun b r=>cU8 r fun b_92 r=>cU8 r fun b_93 r=>cU8 r fun b_94 r=>cBool r fun b_95 r=>cBool r fun b_96 r=>cBool r fun b_97 r=>cU8 r fun b_98 r=>cU8 r fun b_99 r=>cU8 r fun b_100 r=>cU8 r fun b_101 r=>cU8 r fun b_102 r=>cU8 r fun b_103 r=>cInt .u32 r fun n r=>cU8 r fun b_104 r=>cU8 r fun b_105 r=>cU8 r fun b_106 r=>cInt .u16 r fun n_26 r=>cInt .u16 r fun n_27 r=>cBool r fun b_107 r=>cBool r fun b_108 r=>cInt .i64 r fun n_28 r=>cStr r fun b_109 r=>cBs r fun b_110 r=>cBs r fun b_111 r=>cBool r fun b_112 r=>cBool r fun b_113 r=>cInt .i64 r fun n_29 r=>cStr r fun b_114 r=>cBs r fun b_115 r=>cBs r fun b_116 r=>let t6:List AV:=[Zu b_113,Zz .i64 n_29,Zq b_114,Zf b_115,Zf b_116];onNil r (Zx (sel (Yd n_27 16==14) (some (Zd b::Zd b_92::Zd b_93::Zd b_94::Zu b_95::Zu b_96::Zu b_97::Zd b_98::Zd b_99::Zd b_100::Zd b_101::Zd b_102::Zd b_103::Zz .u32 n::Zd b_104::Zd b_105::Zd b_106::Zz .u16 n_26::Zz .u16 n_27::Zu b_107::Zu b_108::Zz .i64 n_28::Zq b_109::Zf b_110::Zf b_111::(Zu !b_112)::t6)) (some (Zd b::Zd b_92::Zd b_93::Zd b_94::Zu b_95::Zu b_96::Zu b_97::Zd b_98::Zd b_99::Zd b_100::Zd b_101::Zd b_102::Zd b_103::Zz .u32 n::Zd b_104::Zd b_105::Zd b_106::Zz .u16 n_26::Zz .u16 n_27::Zu b_107::Zu b_108::Zz .i64 n_28::Zq b_109::Zf b_110::Zf b_111::Zu b_112::t6))) fun l=>cU8 l fun b r=>cU8 r fun b_117 r=>cU8 r fun b_118 r=>cU8 r fun b_119 r=>cBool r fun b_120 r=>cBool r fun b_121 r=>cBool r fun b_122 r=>cU8 r fun b_123 r=>cU8 r fun b_124 r=>cU8 r fun b_125 r=>cU8 r fun b_126 r=>cU8 r fun b_127 r=>cU8 r fun b_128 r=>cInt .u32 r fun n r=>cU8 r fun b_129 r=>cU8 r fun b_130 r=>cU8 r fun b_131 r=>cInt .u16 r fun n_30 r=>cInt .u16 r fun n_31 r=>cBool r fun b_132 r=>cBool r fun b_133 r=>cInt .i64 r fun n_32 r=>cStr r fun b_134 r=>cBs r fun b_135 r=>cBs r fun b_136 r=>cBool r fun b_137 r=>cBool r fun b_138 r=>cInt .i64 r fun n_33 r=>cStr r fun b_139 r=>cBs r fun b_140 r=>cBs r fun b_141 r=>onNil r (Zx (sel (Vk (Zm (Yd (↑(Yu b_130):Int) (↑(Yu (16:UInt8)):Int)))==(15:UInt8)) (some [Zd b,Zd b_117,Zd b_118,Zd b_119,Zu b_120,Zu b_121,Zu b_122,Zd b_123,Zd b_124,Zd b_125,Zd b_126,Zd b_127,Zd b_128,Zz .u32 n,Zd b_129,Zd b_130,Zd b_131,Zz .u16 n_30,Zz .u16 n_31,Zu b_132,Zu b_133,Zz .i64 n_32,Zq b_134,Zf b_135,Zf b_136,Zu b_137,Zu b_138,Zz .i64 (Zp .i64 (n_33+1)),Zq b_139,Zf b_140,Zf b_141]) (some [Zd b,Zd b_117,Zd b_118,Zd b_119,Zu b_120,Zu b_121,Zu b_122,Zd b_123,Zd b_124,Zd b_125,Zd b_126,Zd b_127,Zd b_128,Zz .u32 n,Zd b_129,Zd b_130,Zd b_131,Zz .u16 n_30,Zz .u16 n_31,Zu b_132,Zu b_133,Zz .i64 n_32,Zq b_134,Zf b_135,Zf b_136,Zu b_137,Zu b_138,Zz .i64 n_33,Zq b_139,Zf b_140,Zf b_141])) fun l=>cU8 l fun b r=>cU8 r fun b r=>cU8 r fun b r=>cU8 r fun b r=>cBool r fun b_142 r=>cBool r fun b_143 r=>cBool r fun b_144 r=>cU8 r fun b_145 r=>cU8 r fun b_146 r=>cU8 r fun b_147 r=>cU8 r fun b_148 r=>cU8 r fun b_149 r=>cU8 r fun b_150 r=>cInt .u32 r fun n r=>cU8 r fun b_151 r=>cU8 r fun b_152 r=>cU8 r fun b_153 r=>cInt .u16 r fun n r=>cInt .u16 r fun n r=>cBool r fun b_154 r=>cBool r fun b_155 r=>cInt .i64 r fun n r=>cStr r fun b_156 r=>cBs r fun b_157 r=>cBs r fun b_158 r=>cBool r fun b_159 r=>cBool r fun b_160 r=>cInt .i64 r fun n_34 r=>cStr r fun b_161 r=>cBs r fun b_162 r=>cBs r fun b_163 r=>onNil r (Zx (sel (Vk (Zm (Yd (↑(Yu b):Int) (↑(Yu (16:UInt8)):Int)))==(15:UInt8)) (some [Zu b_154,Zu b_155,Zz .i64 n,Zq b_156,Zf b_157,Zf b_158,Zu b_159,Zu b_160,Zz .i64 n_34,Zq [(67:UInt8),(65:UInt8),(77:UInt8)],Zf b_162,Zf b_163]) (some [Zu b_154,Zu b_155,Zz .i64 n,Zq b_156,Zf b_157,Zf b_158,Zu b_159,Zu b_160,Zz .i64 n_34,Zq b_161,Zf b_162,Zf b_163])) fun l=>cBool l fun b r=>cBool r fun b r=>cInt .i64 r fun n r=>cStr r fun b r=>cBs r fun b r=>cBs r fun b r=>cBool r fun b r=>cBool r fun b_164 r=>cInt .i64 r fun n r=>cStr r fun b_165 r=>cBs r fun b_166 r=>cBs r fun b_167 r=>onNil r (some (Xf [Zu b,Zu b_164,Zz .i64 n,Zq b_165,Zf b_166,Zf b_167],[]))))))))))))))):Option (AV×Blocks))) (by kernel_rfl) ?_
  delta kT kA kB kI
  try dsimp only [cStr,cBs,cBool,cU8,cInt,cSl,l63]
  simp only [Yq,decide_eq_true_eq] at hpre
  obtain ⟨⟨⟨⟨⟨⟨⟨⟨⟨⟨⟨l1,l2⟩,l3⟩,hk⟩,v0⟩,v1⟩,c0⟩,c1⟩,t0⟩,t1⟩,a0⟩,a1⟩:=hpre
  have hk:=Kerb.isU64_iff.1 hk
  have bcu:=Wv cu
  have bco:=Wv co
  have bcs:=Wv css
  have bca:=Wv cad
  have bci:=Wv cis
  have bct:=Wv ctm
  have bck:=Wv ctk
  have bcl:=Wv clf
  have f1:Yd (Yw cu) 6=Yw cu % 6:=Yf bcu.1
  have f2:Yd (Yw co) 6=Yw co % 6:=Yf bco.1
  have f3:Yd (Yw css) 4=Yw css % 4:=Yf bcs.1
  have f4:Yd (Yw cad) 3=Yw cad % 3:=Yf bca.1
  have f5:Zp .i64 (1000+Zp .i64 (Yw cis*8))=1000+Yw cis*8:=by rw [wrap_i64 (n:=Yw cis*8) (by omega) (by omega)];exact wrap_i64 (by omega) (by omega)
  have f6:Zp .i64 (1000+Zp .i64 (Yw ctm*8))=1000+Yw ctm*8:=by rw [wrap_i64 (n:=Yw ctm*8) (by omega) (by omega)];exact wrap_i64 (by omega) (by omega)
  have f7:Yd (Yw ctk) 3=Yw ctk % 3:=Yf bck.1
  have f8:Zp .i64 (Vh (Yw clf) 4)=Yw clf / 4:=by rw [Ud bcl.1];exact wrap_i64 (by omega) (by omega)
  have f9:Zp .i64 ccs=ccs:=wrap_i64 (by omega) (by omega)
  have fa:Zp .i64 (v+1)=v+1:=wrap_i64 (by omega) (by omega)
  have fb:Yd ctt 16=ctt % 16:=Yf (by omega)
  have fc:Yd cau 16=cau % 16:=Yf (by omega)
  have fd:Zp .u16 (Vh ctt 16)=ctt / 16:=by rw [Ud (by omega)];rw [Kerb.wrap_u16];omega
  have fe:Zp .u16 (Vh cau 16)=cau / 16:=by rw [Ud (by omega)];rw [Kerb.wrap_u16];omega
  have g1:(decide ((0:Int)≤Yw cu % 6)&&decide (Yw cu % 6≤4611686018427387904))=true:=by simp;omega
  have g2:(decide ((0:Int)≤Yw co % 6)&&decide (Yw co % 6≤4611686018427387904))=true:=by simp;omega
  have g3:(decide ((0:Int)≤Yw css % 4)&&decide (Yw css % 4≤1000))=true:=by simp;omega
  have g4:(decide ((0:Int)≤ctt / 16)&&decide (ctt / 16≤65535))=true:=by simp;omega
  have g5:(decide ((0:Int)≤cau / 16)&&decide (cau / 16≤65535))=true:=by simp;omega
  have u1:(Vk (Zm (Yd (cv.toNat:Int) ((7:UInt8).toNat:Int)))==(6:UInt8))=decide (cv.toNat % 7=6):=by
   have h7:Zm (Yd (cv.toNat:Int) ((7:UInt8).toNat:Int))=cv.toNat % 7:=Kerb.tmod_u8 cv 7 (by omega)
   rw [h7];exact Kerb.u8_beq (k:=6) (by omega) (by decide)
  have u2:(Vk (Zm (Yd (co.toNat:Int) ((8:UInt8).toNat:Int)))==(7:UInt8))=decide (co.toNat % 8=7):=by
   have h7:Zm (Yd (co.toNat:Int) ((8:UInt8).toNat:Int))=co.toNat % 8:=Kerb.tmod_u8 co 8 (by omega)
   rw [h7];exact Kerb.u8_beq (k:=7) (by omega) (by decide)
  have u3:(Vk (Zm (Yd (ckv.toNat:Int) ((16:UInt8).toNat:Int)))==(15:UInt8))=decide (ckv.toNat % 16=15):=by
   have h7:Zm (Yd (ckv.toNat:Int) ((16:UInt8).toNat:Int))=ckv.toNat % 16:=Kerb.tmod_u8 ckv 16 (by omega)
   rw [h7];exact Kerb.u8_beq (k:=15) (by omega) (by decide)
  have u4:(Vk (Zm (Yd (cr.toNat:Int) ((16:UInt8).toNat:Int)))==(15:UInt8))=decide (cr.toNat % 16=15):=by
   have h7:Zm (Yd (cr.toNat:Int) ((16:UInt8).toNat:Int))=cr.toNat % 16:=Kerb.tmod_u8 cr 16 (by omega)
   rw [h7];exact Kerb.u8_beq (k:=15) (by omega) (by decide)
  obtain ⟨W,hW⟩:∃ x,Wh (Yw cu % 6)=x:=⟨_,rfl⟩
  obtain ⟨E,hE⟩:∃ x,Kerb.session (Yw css % 4)=x:=⟨_,rfl⟩
  obtain ⟨IN,hIN⟩:∃ q,(if cv.toNat % 7=6 then ([111,116,104,101,114]:List UInt8) else y)=q:=⟨_,rfl⟩
  obtain ⟨V,hV⟩:∃ q,(if co.toNat % 8=7 then Wh (Yw co % 6) else W)=q:=⟨_,rfl⟩
  have hT:Kerb.Case.x (Yb cu co cv cr lt tn mt cad cfr cis ctm ctk clf ccs cky ckv css ctt cau) ⟨x,y,z⟩ k=(Kerb.sealTicket ⟨tn,W,Yw cad % 3,E,Yw clf / 4,1000+Yw cis*8,x,IN⟩ k).val:=by rw [← hW,← hE,← hIN];rfl
  have hA:Kerb.Case.y (Yb cu co cv cr lt tn mt cad cfr cis ctm ctk clf ccs cky ckv css ctt cau)=(Kerb.sealAuth ⟨V,ccs,Yw ctk % 3,1000+Yw ctm*8⟩ lt E).val:=by rw [← hV,← hW,← hE];rfl
  obtain ⟨X,hX⟩:∃ q,Kerb.Case.x (Yb cu co cv cr lt tn mt cad cfr cis ctm ctk clf ccs cky ckv css ctt cau) ⟨x,y,z⟩ k=q:=⟨_,rfl⟩
  obtain ⟨Y,hY⟩:∃ q,Kerb.Case.y (Yb cu co cv cr lt tn mt cad cfr cis ctm ctk clf ccs cky ckv css ctt cau)=q:=⟨_,rfl⟩
  have hR:Kerb.Case.req (Yb cu co cv cr lt tn mt cad cfr cis ctm ctk clf ccs cky ckv css ctt cau) ⟨x,y,z⟩ k v=⟨if cau % 16=14 then !lt else lt,mt,if ckv.toNat % 16=15 then v+1 else v,if cr.toNat % 16=15 then [67,65,77] else z,if ctt % 16=15 then Wu X (ctt / 16) else X,if cau % 16=15 then Wu Y (cau / 16) else Y⟩:=by rw [← hX,← hY];rfl
  rw [hX] at hT
  rw [hY] at hA
  have lW:W.name.length≤9223372036854775807∧W.inst.length≤9223372036854775807∧W.realm.length≤9223372036854775807:=by rw [← hW];exact Kerb.user_dec _
  have lV:V.name.length≤9223372036854775807∧V.inst.length≤9223372036854775807∧V.realm.length≤9223372036854775807:=by
   rw [← hV]
   split
   ·exact Kerb.user_dec _
   ·exact lW
  have lE:0≤E∧E<18446744073709551616:=by rw [← hE];exact Kerb.session_bd2 _
  have lI:IN.length≤9223372036854775807:=by
   rw [← hIN]
   split
   ·simp
   ·exact l2
  have lX:X.length≤1000000:=by rw [hT];have:=Kerb.sealTicket_len ⟨tn,W,Yw cad % 3,E,Yw clf / 4,1000+Yw cis*8,x,IN⟩ k;omega
  have lY:Y.length≤1000000:=by rw [hA];have:=Kerb.sealAuth_len ⟨V,ccs,Yw ctk % 3,1000+Yw ctm*8⟩ lt E;omega
  rw [hR]
  simp (config:={maxSteps:=10000000}) only [Wq,f1,f2,f3,f4,f5,f6,f7,f8,f9,fa,fb,fc,fd,fe,g1,g2,g3,g4,g5,u1,u2,u3,u4,hW,hE,↓sInt,↓sU8,↓sBool,↓sStr,↓sBs,↓sSl,↓sAgg,↓sTup,↓sCons,↓sNil,↓sNilB,↓sChk,↓sChkBind,↓sSome]
  refine bind_via (fun ls=>ls=[Zz Uj k,Zz Zk v,Zd cu,Zd co,Zd cv,Zd cr,Zu lt,Zu tn,Zu mt,Zd cad,Zd cfr,Zd cis,Zd ctm,Zd ctk,Zd clf,Zz Uk ccs,Zd cky,Zd ckv,Zd css,Zz Xd ctt,Zz Xd cau,Zq x,Zq y,Zq z,Zu false,Zu false,Zz Zk 0,Zq [],Zf [],Zf [],Zu tn,Zq W.name,Zq W.inst,Zq W.realm,Zz Zk (Yw cad % 3),Zz Uj E,Zz Zk (Yw clf / 4),Zz Zk (1000+Yw cis*8),Zq x,Zq IN]) ⟨_,?_,rfl⟩ ?_
  ·rw [← hIN]
   by_cases h:cv.toNat % 7=6
   ·rw [if_pos h,decide_eq_true h];rfl
   ·rw [if_neg h,decide_eq_false h];rfl
  rintro _ rfl
  simp (config:={maxSteps:=10000000}) only [Wq,f1,f2,f3,f4,f5,f6,f7,f8,f9,fa,fb,fc,fd,fe,g1,g2,g3,g4,g5,u1,u2,u3,u4,↓sInt,↓sU8,↓sBool,↓sStr,↓sBs,↓sSl,↓sAgg,↓sTup,↓sCons,↓sNil,↓sNilB,↓sChk,↓sChkBind,↓sSome]
  refine bind_via (fun ls=>ls=[Zz Uj k,Zz Zk v,Zd cu,Zd co,Zd cv,Zd cr,Zu lt,Zu tn,Zu mt,Zd cad,Zd cfr,Zd cis,Zd ctm,Zd ctk,Zd clf,Zz Uk ccs,Zd cky,Zd ckv,Zd css,Zz Xd ctt,Zz Xd cau,Zq x,Zq y,Zq z,Zu false,Zu false,Zz Zk 0,Zq [],Zf [],Zf [],Zu tn,Zq W.name,Zq W.inst,Zq W.realm,Zz Zk (Yw cad % 3),Zz Uj E,Zz Zk (Yw clf / 4),Zz Zk (1000+Yw cis*8),Zq x,Zq IN,Zq V.name,Zq V.inst,Zq V.realm,Zz Zk ccs,Zz Zk (Yw ctk % 3),Zz Zk (1000+Yw ctm*8)]) ⟨_,?_,rfl⟩ ?_
  ·rw [← hV]
   by_cases h:co.toNat % 8=7
   ·rw [if_pos h,decide_eq_true h];rfl
   ·rw [if_neg h,decide_eq_false h];rfl
  rintro _ rfl
  simp (config:={maxSteps:=10000000}) only [l1,lW,lV,lE,lI,hk,decide_true,Xw,← hT,← hA,Wq,f1,f2,f3,f4,f5,f6,f7,f8,f9,fa,fb,fc,fd,fe,g1,g2,g3,g4,g5,u1,u2,u3,u4,↓sInt,↓sU8,↓sBool,↓sStr,↓sBs,↓sSl,↓sAgg,↓sTup,↓sCons,↓sNil,↓sNilB,↓sChk,↓sChkBind,↓sSome]
  refine bind_via (fun ls=>ls=[Zd cu,Zd co,Zd cv,Zd cr,Zu lt,Zu tn,Zu mt,Zd cad,Zd cfr,Zd cis,Zd ctm,Zd ctk,Zd clf,Zz Uk ccs,Zd cky,Zd ckv,Zd css,Zz Xd ctt,Zz Xd cau,Zu false,Zu false,Zz Zk 0,Zq [],Zf [],Zf [],Zf Y,Zu lt,Zu mt,Zz Zk v,Zq z,Zf (if ctt % 16=15 then Wu X (ctt / 16) else X),Zf Y]) ⟨_,?_,rfl⟩ ?_
  ·by_cases h:ctt % 16=15
   ·rw [if_pos h,sel_pos (by simpa using h),chk_of (by simp only [lX,g4,decide_true,Bool.true_and])]
   ·rw [if_neg h,sel_neg (by simpa using h)]
  rintro _ rfl
  simp (config:={maxSteps:=10000000}) only [Wq,f1,f2,f3,f4,f5,f6,f7,f8,f9,fa,fb,fc,fd,fe,g1,g2,g3,g4,g5,u1,u2,u3,u4,↓sInt,↓sU8,↓sBool,↓sStr,↓sBs,↓sSl,↓sAgg,↓sTup,↓sCons,↓sNil,↓sNilB,↓sChk,↓sChkBind,↓sSome]
  refine bind_via (fun ls=>ls=[Zd cu,Zd co,Zd cv,Zd cr,Zu lt,Zu tn,Zu mt,Zd cad,Zd cfr,Zd cis,Zd ctm,Zd ctk,Zd clf,Zz Uk ccs,Zd cky,Zd ckv,Zd css,Zz Xd ctt,Zz Xd cau,Zu false,Zu false,Zz Zk 0,Zq [],Zf [],Zf [],Zu lt,Zu mt,Zz Zk v,Zq z,Zf (if ctt % 16=15 then Wu X (ctt / 16) else X),Zf (if cau % 16=15 then Wu Y (cau / 16) else Y)]) ⟨_,?_,rfl⟩ ?_
  ·by_cases h:cau % 16=15
   ·rw [if_pos h,sel_pos (by simpa using h),chk_of (by simp only [lY,g5,decide_true,Bool.true_and])]
   ·rw [if_neg h,sel_neg (by simpa using h)]
  rintro _ rfl
  simp (config:={maxSteps:=10000000}) only [Wq,f1,f2,f3,f4,f5,f6,f7,f8,f9,fa,fb,fc,fd,fe,g1,g2,g3,g4,g5,u1,u2,u3,u4,↓sInt,↓sU8,↓sBool,↓sStr,↓sBs,↓sSl,↓sAgg,↓sTup,↓sCons,↓sNil,↓sNilB,↓sChk,↓sChkBind,↓sSome]
  refine bind_via (fun ls=>ls=[Zd cu,Zd co,Zd cv,Zd cr,Zu lt,Zu tn,Zu mt,Zd cad,Zd cfr,Zd cis,Zd ctm,Zd ctk,Zd clf,Zz Uk ccs,Zd cky,Zd ckv,Zd css,Zz Xd ctt,Zz Xd cau,Zu false,Zu false,Zz Zk 0,Zq [],Zf [],Zf [],Zu (if cau % 16=14 then !lt else lt),Zu mt,Zz Zk v,Zq z,Zf (if ctt % 16=15 then Wu X (ctt / 16) else X),Zf (if cau % 16=15 then Wu Y (cau / 16) else Y)]) ⟨_,?_,rfl⟩ ?_
  ·by_cases h:cau % 16=14
   ·rw [if_pos h,sel_pos (by simpa using h)]
   ·rw [if_neg h,sel_neg (by simpa using h)]
  rintro _ rfl
  simp (config:={maxSteps:=10000000}) only [Wq,f1,f2,f3,f4,f5,f6,f7,f8,f9,fa,fb,fc,fd,fe,g1,g2,g3,g4,g5,u1,u2,u3,u4,↓sInt,↓sU8,↓sBool,↓sStr,↓sBs,↓sSl,↓sAgg,↓sTup,↓sCons,↓sNil,↓sNilB,↓sChk,↓sChkBind,↓sSome]
  refine bind_via (fun ls=>ls=[Zd cu,Zd co,Zd cv,Zd cr,Zu lt,Zu tn,Zu mt,Zd cad,Zd cfr,Zd cis,Zd ctm,Zd ctk,Zd clf,Zz Uk ccs,Zd cky,Zd ckv,Zd css,Zz Xd ctt,Zz Xd cau,Zu false,Zu false,Zz Zk 0,Zq [],Zf [],Zf [],Zu (if cau % 16=14 then !lt else lt),Zu mt,Zz Zk (if ckv.toNat % 16=15 then v+1 else v),Zq z,Zf (if ctt % 16=15 then Wu X (ctt / 16) else X),Zf (if cau % 16=15 then Wu Y (cau / 16) else Y)]) ⟨_,?_,rfl⟩ ?_
  ·by_cases h:ckv.toNat % 16=15
   ·rw [if_pos h,decide_eq_true h];rfl
   ·rw [if_neg h,decide_eq_false h];rfl
  rintro _ rfl
  simp (config:={maxSteps:=10000000}) only [Wq,f1,f2,f3,f4,f5,f6,f7,f8,f9,fa,fb,fc,fd,fe,g1,g2,g3,g4,g5,u1,u2,u3,u4,↓sInt,↓sU8,↓sBool,↓sStr,↓sBs,↓sSl,↓sAgg,↓sTup,↓sCons,↓sNil,↓sNilB,↓sChk,↓sChkBind,↓sSome]
  by_cases h:cr.toNat % 16=15
  ·rw [if_pos h,decide_eq_true h];rfl
  ·rw [if_neg h,decide_eq_false h];rfl
 ·cases h
theorem w62:Walked Tryz.prog G 62 7 sp62:=by
 refine ⟨Tryz.f62,Tryz.func62,by decide +kernel,rfl,fun xs bl r h=> ?_⟩
 unfold sp62 at h
 split at h
 ·rename_i a b c
  obtain ⟨hpre,h2⟩:=chk_inv h;cases h2
  refine Eq.trans (b:=(Zx (chk (decide (Zy a≤9223372036854775807)) (some (Zu (Wk a),[]))) fun (r:AV×Blocks)=>onNilB (Yz r) (Xb (Yv r) fun b_1=>sel b_1 (Zx (chk (decide (Zy b≤9223372036854775807)) (some (Zu (Wx b),[]))) fun (r:AV×Blocks)=>onNilB (Yz r) (Xb (Yv r) fun b=>sel b (Zx (chk (decide (Zy c≤9223372036854775807)) (some (Zu (Kerb.validRealm c),[]))) fun (r:AV×Blocks)=>onNilB (Yz r) (Xb (Yv r) fun b=>some (Zu b,[]))) (some (Zu false,[])))) (some (Zu false,[]))):Option (AV×Blocks))) (by kernel_rfl) ?_
  simp only [Yq,decide_eq_true_eq] at hpre
  simp only [A0]
  rw [chk_of (by simp;omega),chk_of (by simp;omega),chk_of (by simp;omega)]
  simp only [Yy]
  cases Wk a<;>cases Wx b<;>rfl
 ·cases h
theorem w88:Walked Tryz.prog G 88 7 sp88:=by
 refine ⟨Tryz.f88,Tryz.func88,by decide +kernel,rfl,fun xs bl r h=> ?_⟩
 unfold sp88 at h
 split at h
 ·rename_i li mu kv rl tk au
  obtain ⟨hpre,h2⟩:=chk_inv h;cases h2
  refine Eq.trans (b:=(Zx (chk (l63 rl) (some (Zu (Kerb.validRealm rl),[]))) (kL fun b=>sel (!b) (some (Zn [Zf [],Zz .i64 103],[])) (sel (!Zb kv 255) (some (Zn [Zf [],Zz .i64 104],[])) (sel (decide ((↑(Zy tk):Int)>255)) (some (Zn [Zf [],Zz .i64 105],[])) (sel (decide ((↑(Zy au):Int)>255)) (some (Zn [Zf [],Zz .i64 105],[])) (sel mu (Zx (chk (decide (Zy (Vd 4 li)≤70368744177664)) (some (Yj (Vd 4 li++Zg kv 1 false),[]))) (kO fun l=>Zx (chk (decide (Zy l+Zy rl≤70368744177664)) (some (Zf (Yx l rl),[]))) (kB fun b=>Zx (chk (decide (Zy b≤70368744177664)) (some (Yj (b++Zg (↑(Zy tk):Int) 1 false),[]))) (kO fun l=>Zx (chk (decide (Zy l≤70368744177664)) (some (Yj (l++Zg (↑(Zy au):Int) 1 false),[]))) (kO fun l=>Zx (chk (decide (Zy (Yk l (Yk tk (Yk au [])))≤140737488355328)&&decide (Zy [Zf l,Zf tk,Zf au]≤1000)) (some (Yj (Yk l (Yk tk (Yk au []))),[]))) (kO fun l=>some (Zn [Zf l,Zz .i64 0],[]))))))) (Zx (chk (decide (Zy (Vd 3 li)≤70368744177664)) (some (Yj (Vd 3 li++Zg kv 1 false),[]))) (kO fun l=>Zx (chk (decide (Zy l+Zy rl≤70368744177664)) (some (Zf (Yx l rl),[]))) (kB fun b=>Zx (chk (decide (Zy b≤70368744177664)) (some (Yj (b++Zg (↑(Zy tk):Int) 1 false),[]))) (kO fun l=>Zx (chk (decide (Zy l≤70368744177664)) (some (Yj (l++Zg (↑(Zy au):Int) 1 false),[]))) (kO fun l=>Zx (chk (decide (Zy (Yk l (Yk tk (Yk au [])))≤140737488355328)&&decide (Zy [Zf l,Zf tk,Zf au]≤1000)) (some (Yj (Yk l (Yk tk (Yk au []))),[]))) (kO fun l=>some (Zn [Zf l,Zz .i64 0],[])))))))))))):Option (AV×Blocks))) (by kernel_rfl) ?_
  delta kB kO kL
  try dsimp only [cStr,cBs,cBool,cU8,cInt,cSl,l63]
  simp only [A0,Xj,Xk,Xn,hpre]
  unfold Uz
  simp only
  cases h1:Kerb.validRealm rl
  ·rfl
  rw [Yn,sel_false,if_neg (by simp)]
  cases h2:Zb kv 255
  ·rfl
  rw [Yn,sel_false,if_neg (by simp)]
  by_cases h3:255<tk.length
  ·rw [sel_pos (by simp;omega),if_pos (.inl h3)]
  rw [sel_neg (by simp;omega)]
  by_cases h4:255<au.length
  ·rw [sel_pos (by simp;omega),if_pos (.inr h4)]
  rw [sel_neg (by simp;omega),if_neg (by omega)]
  have l1:=Kerb.validRealm_len h1
  have g3:=Kerb.header_len 3 li
  have g4:=Kerb.header_len 4 li
  cases mu
  ·rw [sel_false,chk_of (by simp;omega),chk_of (by simp [Zv];omega),chk_of (by simp [Zv,Vz];omega),chk_of (by simp [Zv,Vz];omega),chk_of (by simp [Zv,Vz];omega)]
   simp
  ·rw [sel_true,chk_of (by simp;omega),chk_of (by simp [Zv];omega),chk_of (by simp [Zv,Vz];omega),chk_of (by simp [Zv,Vz];omega),chk_of (by simp [Zv,Vz];omega)]
   simp
 ·cases h
theorem w11:Walked Tryz.prog G 11 8 sp11:=by
 refine ⟨Tryz.f11,Tryz.func11,by decide +kernel,rfl,fun xs bl r h=> ?_⟩
 unfold sp11 at h
 split at h
 ·rename_i cu co cv cr lt tn mt cad cfr cis ctm ctk clf ccs cky ckv css ctt cau x y z k v
  obtain ⟨hpre,h2⟩:=chk_inv h;cases h2
  refine Eq.trans (b:=(let t0:Kerb.ApRequest:=Kerb.Case.req (Yb cu co cv cr lt tn mt cad cfr cis ctm ctk clf ccs cky ckv css ctt cau) (Zh x y z) k v;Zx (chk (l63 x&&l63 y&&l63 z&&Kerb.isU64 k&&decide (0≤v)&&decide (v≤1000)&&decide (0≤ccs)&&decide (ccs≤4294967295)&&decide (0≤ctt)&&decide (ctt≤65535)&&decide (0≤cau)&&decide (cau≤65535)) (some (Xf [Zu (Kerb.ApRequest.little t0),Zu (Kerb.ApRequest.mutual_ t0),Zz .i64 (Kerb.ApRequest.kvno t0),Zq (Kerb.ApRequest.realm t0),Zf (Kerb.ApRequest.ticket t0),Zf (Kerb.ApRequest.auth t0)],[]))) (kA fun cs=>cBool cs fun b r=>cBool r fun b_1 r=>cInt .i64 r fun n r=>cStr r fun b_2 r=>cBs r fun b_3 r=>cBs r fun b_4 r=>onNil r (Zx (chk (l63 b_2) (some (Zn [Zf (Xy (Uz (Uy b b_1 n b_2 b_3 b_4))),Zz .i64 (Xx (Uz (Uy b b_1 n b_2 b_3 b_4)))],[]))) (kT fun vs=>cBs vs fun b r=>cInt .i64 r fun n r=>onNil r (some (Zf b,[]))))):Option (AV×Blocks))) (by kernel_rfl) ?_
  delta kT kA
  try dsimp only [cStr,cBs,cBool,cU8,cInt,cSl,l63]
  have hp:=hpre
  simp only [Yq,decide_eq_true_eq] at hp
  have lr:(Kerb.Case.req (Yb cu co cv cr lt tn mt cad cfr cis ctm ctk clf ccs cky ckv css ctt cau) ⟨x,y,z⟩ k v).realm.length≤9223372036854775807:=by
   show (if cr.toNat % 16=15 then ([67,65,77]:List UInt8) else z).length≤_
   split
   ·simp
   ·exact hp.1.1.1.1.1.1.1.1.1.2
  simp only [hpre,lr,decide_true,↓A0,A0]
  rfl
 ·cases h
theorem w37:Walked Tryz.prog G 37 8 sp37:=by
 refine ⟨Tryz.f37,Tryz.func37,by decide +kernel,rfl,fun xs bl r h=> ?_⟩
 unfold sp37 at h
 split at h
 ·rename_i b
  obtain ⟨hpre,h2⟩:=chk_inv h;cases h2
  refine Eq.trans (b:=(let t1:AV:=Xf [Zu false,Zu false,Zz .i64 0,Zq [],Zf [],Zf []];let t0:Option (AV×Blocks):=some (Zn [t1,Zz .i64 100],[]);sel (!Yz (Xg b [3,4])==0) (some (Zn [t1,Zz .i64 (Yz (Xg b [3,4]))],[])) (Zx (chk (decide (Zy b≤140737488355328)) (some (Zn [Xf [Zu (Kerb.ApRequest.little (Vu (Wp b))),Zu (Kerb.ApRequest.mutual_ (Vu (Wp b))),Zz .i64 (Kerb.ApRequest.kvno (Vu (Wp b))),Zq (Kerb.ApRequest.realm (Vu (Wp b))),Zf (Kerb.ApRequest.ticket (Vu (Wp b))),Zf (Kerb.ApRequest.auth (Vu (Wp b)))],Zz .i64 (Kerb.GotAp.next (Wp b))],[]))) (kT fun vs=>onCons vs fun x r=>AV.onAgg x fun cs=>cBool cs fun b_1 r_1=>cBool r_1 fun b_2 r_2=>cInt .i64 r_2 fun n r_3=>cStr r_3 fun b_3 r_4=>cBs r_4 fun b_4 r_5=>cBs r_5 fun b_5 r_6=>onNil r_6 (cInt .i64 r fun n_1 r=>onNil r (Zx (chk (l63 b_3) (some (Zn [Zf (Xy (Uz (Uy b_1 b_2 n b_3 b_4 b_5))),Zz .i64 (Xx (Uz (Uy b_1 b_2 n b_3 b_4 b_5)))],[]))) (kT fun vs=>cBs vs fun b_6 r=>cInt .i64 r fun n_2 r=>onNil r (sel (!n_2==0) t0 (sel (!b_6==b) t0 (some (Zn [Xf [Zu b_1,Zu b_2,Zz .i64 n,Zq b_3,Zf b_4,Zf b_5],Zz .i64 0],[]))))))))):Option (AV×Blocks))) (by kernel_rfl) ?_
  delta kT
  try dsimp only [cStr,cBs,cBool,cU8,cInt,cSl,l63]
  have hb:=of_decide_eq_true hpre
  have hpre2:decide (b.length≤4611686018427387904)=true:=by simp;omega
  have hr:=Kerb.text_len b (Yp b 2 1 false).next
  have g1:(Wp b).val.realm.length≤9223372036854775807:=by show (Vp b (Yp b 2 1 false).next).val.length≤_;omega
  unfold Kerb.decodeAp
  by_cases h:(Xg b [3,4]).2=0
  case neg=>rw [sel_pos (by simpa using h),if_pos h];rfl
  rw [sel_neg (by simpa using h),if_neg (by simpa using h)]
  simp only [hpre,g1,decide_true,↓A0,A0]
  exact Kerb.decBy_fin (no:=Kerb.noAp) (enc:=Uz) (rd:=fun b=>((Wp b).val,false)) _ false rfl (fun x e=>(Zn [.agg [.bool (x).little,.bool (x).mutual_,.int .i64 (x).kvno,.str (x).realm,.bs (x).ticket,.bs (x).auth],Zz Zk e],([]:Blocks)))
 ·cases h
theorem w63:Walked Tryz.prog G 63 8 sp63:=by
 refine ⟨Tryz.f63,Tryz.func63,by decide +kernel,rfl,fun xs bl r h=> ?_⟩
 unfold sp63 at h
 split at h
 ·rename_i kls
  obtain ⟨hpre,h2⟩:=chk_inv h;cases h2
  refine Eq.trans (b:=(sel (decide ((↑(Zy kls):Int)>60)) (some (Zz .i64 106,[])) (Zx (loopM (fun (st:List AV)=>cSl 5 st fun b r=>cInt .i64 r fun n r=>cSl 5 r fun b_1 r=>cInt .i64 r fun n_1 r=>cInt .i64 r fun n_2 r=>let t0:List AV:=[Yh 5 b_1,Zz .i64 n_1,Zz .i64 n_2];onNil r (sel (decide (n_2<n_1)) (chk (decide (0≤n_2)&&decide (n_2<(↑(Zy b_1):Int))&&true) (AV.onAgg (Wm b_1 (Zm n_2) AV.undef) fun cs=>cStr cs fun b_2 r=>cStr r fun b_3 r=>cStr r fun b_4 r=>cInt .i64 r fun n_3 r=>cInt .u64 r fun n_4 r=>onNil r (Zx (chk (l63 b_2&&l63 b_3&&l63 b_4) (some (Zu (Yy (Zh b_2 b_3 b_4)),[]))) (kL fun b_5=>sel (!b_5) (some (Wy (Ug,Yh 5 b::Zz .i64 103::t0))) (sel (decide (n_3<0)) (some (Wy (Ug,Yh 5 b::Zz .i64 104::t0))) (sel (decide (n_3>255)) (some (Wy (Ug,Yh 5 b::Zz .i64 104::t0))) (Zx (chk (decide (0≤n_4)&&decide (n_4<18446744073709551616)) (some (Zu (Kerb.keyValid n_4),[]))) (kL fun b_6=>sel (!b_6) (some (Wy (Ug,Yh 5 b::Zz .i64 10::t0))) (Zx (chk (List.all b Kerb.isSKey&&decide (Zy b≤1000000)) (some (Zz .i64 (↑(Kerb.skAt (List.map Kerb.toSKey b) (Zh b_2 b_3 b_4) n_3):Int),[]))) (kI .i64 fun n_5=>sel (decide (n_5<n_2)) (some (Wy (Ug,Yh 5 b::Zz .i64 107::t0))) (some (Sum.inl [Yh 5 b,Zz .i64 n,Yh 5 b_1,Zz .i64 n_1,Zz .i64 (Zp .i64 (n_2+1))])))))))))))) (some (Wy (Ex.exit 0,Yh 5 b::Zz .i64 n::t0))))) [Yh 5 kls,Zz .i64 0,Yh 5 kls,Zz .i64 (↑(Zy kls):Int),Zz .i64 0]) fun (r:Ex×List AV)=>cSl 5 (Yz r) fun b r_1=>cInt .i64 r_1 fun n r_2=>cSl 5 r_2 fun b r_3=>cInt .i64 r_3 fun n_1 r_4=>cInt .i64 r_4 fun n_2 r_5=>onNil r_5 (exK r.1 (some (Zz .i64 n,[])) fun (j:Nat)=>sel (Nat.beq j 0) (some (Zz .i64 0,[])) none)):Option (AV×Blocks))) (by kernel_rfl) ?_
  delta kL kI
  try dsimp only [cStr,cBs,cBool,cU8,cInt,cSl,l63]
  simp only [Yq,decide_eq_true_eq] at hpre
  obtain ⟨hall,hlen⟩:=hpre
  obtain ⟨cs,rfl,hok⟩:=Kerb.skeys_of hall
  unfold Kerb.skErr
  rw [Kerb.map_toSKey]
  simp only [Xq] at hlen ⊢
  by_cases h60:60<cs.length
  ·rw [sel_pos (by simp;omega),if_pos h60]
  rw [sel_neg (by simp;omega),if_neg h60]
  refine loop_rounds (fun i:Nat=>[Yh 5 (cs.map Un),Zz Zk 0,Yh 5 (cs.map Un),Zz Zk (cs.length:Int),Zz Zk (i:Int)]) (fun i=>i≤cs.length∧Kerb.skErrs [] cs=Kerb.skErrs (cs.take i) (cs.drop i)) (fun i=>cs.length-i)
   (fun r=>∃ (i:Nat) (n:Int),r.2=[Yh 5 (cs.map Un),Zz Zk n,Yh 5 (cs.map Un),Zz Zk (cs.length:Int),Zz Zk (i:Int)]∧((r.1 = .ret∧n=Kerb.skErrs [] cs)∨(r.1 = .exit 0∧Kerb.skErrs [] cs=0))) 0 ⟨Nat.zero_le _,by simp⟩ rfl ?_ ?_
  ·rintro i ⟨hi,hp⟩
   simp only [↓A0,A0,Xq]
   by_cases hlt:i<cs.length
   ·rw [sel_pos (by simp;omega),chk_of (by simp;omega),Wj,Kerb.getD_row (d:=Kerb.noSKey) hlt]
    obtain ⟨c,hc⟩:∃ c,cs.getD i Kerb.noSKey=c:=⟨_,rfl⟩
    have hst:=Kerb.skErrs_step hlt hc hp
    have hcm:c∈cs:=hc ▸ Kerb.mem_row hlt
    have ho:=hok c hcm
    rw [hc]
    obtain ⟨⟨s1,s2,s3⟩,kv,ky⟩:=c
    obtain ⟨o1,o2,o3,o4,o5⟩:=ho
    have o4:=Kerb.isI64_iff.1 o4
    have o5:=Kerb.isU64_iff.1 o5
    dsimp only at o1 o2 o3 o4 o5 hst
    simp only [Un,o1,o2,o3,o5,decide_true,Xw,↓A0,A0]
    have k1:∀ code:Int,code≠0→Wn ⟨⟨s1,s2,s3⟩,kv,ky⟩=code→code=Kerb.skErrs [] cs:=fun code h0 he=>by
     rw [he,if_pos h0] at hst;exact hst.symm
    cases h1:Yy ⟨s1,s2,s3⟩
    ·exact ⟨_,rfl,i,_,rfl,.inl ⟨rfl,k1 103 (by decide) (by simp [Wn,h1])⟩⟩
    rw [Yn,sel_false]
    by_cases h2:kv<0
    ·rw [sel_pos (by simpa using h2)]
     exact ⟨_,rfl,i,_,rfl,.inl ⟨rfl,k1 104 (by decide) (by simp [Wn,h1,Zb];omega)⟩⟩
    rw [sel_neg (by simpa using h2)]
    by_cases h3:kv>255
    ·rw [sel_pos (by simpa using h3)]
     exact ⟨_,rfl,i,_,rfl,.inl ⟨rfl,k1 104 (by decide) (by simp [Wn,h1,Zb];omega)⟩⟩
    rw [sel_neg (by simpa using h3)]
    have hw:Zb kv 255=true:=Kerb.within_iff.2 ⟨by omega,by omega⟩
    cases h4:Kerb.keyValid ky
    ·exact ⟨_,rfl,i,_,rfl,.inl ⟨rfl,k1 10 (by decide) (by simp [Wn,h1,hw,h4])⟩⟩
    rw [Yn,sel_false]
    have hz:Wn ⟨⟨s1,s2,s3⟩,kv,ky⟩=0:=by simp [Wn,h1,hw,h4]
    rw [hz,if_neg (by simp)] at hst
    rw [chk_of (by rw [Kerb.skeys_all hok];simp;omega),Kerb.map_toSKey]
    have hq:=Kerb.skAt_lt cs ⟨s1,s2,s3⟩ kv i hi
    have e:decide (((Kerb.skAt cs ⟨s1,s2,s3⟩ kv:Nat):Int)<(i:Int))=decide (Kerb.skAt cs ⟨s1,s2,s3⟩ kv<i):=decide_eq_decide.2 (by omega)
    rw [e,hq]
    cases hd:(cs.take i).any (Kerb.SKey.is ⟨s1,s2,s3⟩ kv)
    ·rw [hd,if_neg (by simp)] at hst
     rw [sel_false,wrap_i64 (by omega) (by omega)]
     exact ⟨_,rfl,i+1,rfl,⟨by omega,hst⟩,by dsimp only;omega⟩
    ·rw [hd,if_pos rfl] at hst
     rw [sel_true]
     exact ⟨_,rfl,i,_,rfl,.inl ⟨rfl,hst.symm⟩⟩
   ·rw [sel_neg (by simp;omega)]
    refine ⟨_,rfl,i,_,rfl,.inr ⟨rfl,?_⟩⟩
    rw [hp,List.drop_eq_nil_of_le (by omega)]
    rfl
  ·rintro ⟨e,l⟩ ⟨i,n,rfl,⟨rfl,h⟩ | ⟨rfl,h⟩⟩
   ·simp only [↓A0,A0,h]
   ·simp only [↓A0,A0,h]
    rw [sel_pos (Nat.beq_refl _)]
 ·cases h
theorem w64:Walked Tryz.prog G 64 8 sp64:=by
 refine ⟨Tryz.f64,Tryz.func64,by decide +kernel,rfl,fun xs bl r h=> ?_⟩
 unfold sp64 at h
 split at h
 ·rename_i sz fl mls
  obtain ⟨hpre,h2⟩:=chk_inv h;cases h2
  refine Eq.trans (b:=(sel (!(decide (1≤sz)&&decide (sz≤40))) (some (Zz .i64 104,[])) (sel (!(decide (0≤fl)&&decide (fl≤4294967295))) (some (Zz .i64 104,[])) (sel (decide ((↑(Zy mls):Int)>sz)) (some (Zz .i64 106,[])) (Zx (loopM (fun (st:List AV)=>cInt .i64 st fun n r=>cInt .i64 r fun n_1 r=>cSl 5 r fun b r=>cInt .i64 r fun n_2 r=>cSl 5 r fun b_1 r=>cInt .i64 r fun n_3 r=>cInt .i64 r fun n_4 r=>let t0:List AV:=[Yh 5 b_1,Zz .i64 n_3,Zz .i64 n_4];let t2:List AV:=List.drop (Zm (↑(0:Nat):Int)) (List.take (Zm n_4) b);let t1:Option (List AV ⊕ Ex×List AV):=some (Wy (Ug,Zz .i64 n::Zz .i64 n_1::Yh 5 b::Zz .i64 104::t0));onNil r (sel (decide (n_4<n_3)) (chk (decide (0≤n_4)&&decide (n_4<(↑(Zy b_1):Int))&&true) (AV.onAgg (Wm b_1 (Zm n_4) AV.undef) fun cs=>cStr cs fun b_2 r=>cStr r fun b_3 r=>cStr r fun b_4 r=>cInt .i64 r fun n_5 r=>cInt .i64 r fun n_6 r=>onNil r (Zx (chk (l63 b_2&&l63 b_3&&l63 b_4) (some (Zu (Yy (Zh b_2 b_3 b_4)),[]))) (kL fun b_5=>sel (!b_5) (some (Wy (Ug,Zz .i64 n::Zz .i64 n_1::Yh 5 b::Zz .i64 103::t0))) (sel (!(decide (n_1≤n_5)&&decide (n_5≤4294967295))) t1 (sel (!(decide (0≤n_6)&&decide (n_6≤199))) t1 (chk (decide ((↑(0:Nat):Int)≤n_4)&&decide (n_4≤(↑(Zy b):Int))) (Zx (chk (List.all t2 Kerb.isMark&&decide (Zy t2≤1000000)) (some (Zu (Kerb.hasMark (List.map Kerb.toMark t2) (Kerb.Mark.mk (Zh b_2 b_3 b_4) n_5 n_6)),[]))) (kL fun b_6=>sel b_6 (some (Wy (Ug,Zz .i64 n::Zz .i64 n_1::Yh 5 b::Zz .i64 107::t0))) (some (Sum.inl [Zz .i64 n,Zz .i64 n_1,Yh 5 b,Zz .i64 n_2,Yh 5 b_1,Zz .i64 n_3,Zz .i64 (Zp .i64 (n_4+1))]))))))))))) (some (Wy (Ex.exit 0,Zz .i64 n::Zz .i64 n_1::Yh 5 b::Zz .i64 n_2::t0))))) [Zz .i64 sz,Zz .i64 fl,Yh 5 mls,Zz .i64 0,Yh 5 mls,Zz .i64 (↑(Zy mls):Int),Zz .i64 0]) fun (r:Ex×List AV)=>cInt .i64 (Yz r) fun n r_1=>cInt .i64 r_1 fun n r_2=>cSl 5 r_2 fun b r_3=>cInt .i64 r_3 fun n r_4=>cSl 5 r_4 fun b r_5=>cInt .i64 r_5 fun n_1 r_6=>cInt .i64 r_6 fun n_2 r_7=>onNil r_7 (exK r.1 (some (Zz .i64 n,[])) fun (j:Nat)=>sel (Nat.beq j 0) (some (Zz .i64 0,[])) none)))):Option (AV×Blocks))) (by kernel_rfl) ?_
  delta kL
  try dsimp only [cStr,cBs,cBool,cU8,cInt,cSl,l63]
  simp only [Yq,decide_eq_true_eq] at hpre
  obtain ⟨hall,hlen⟩:=hpre
  obtain ⟨cs,rfl,hok⟩:=Kerb.marks_of hall
  unfold Uf
  rw [Kerb.map_toMark]
  simp only [Xq] at hlen ⊢
  cases e1:(decide ((1:Int)≤sz)&&decide (sz≤40))
  ·rw [if_pos (by simp)];rfl
  cases e2:(decide ((0:Int)≤fl)&&decide (fl≤4294967295))
  ·rw [if_pos (by unfold Zb;rw [e2];rfl)];rfl
  rw [Yn,sel_false,sel_false,if_neg (by unfold Zb;rw [e2];simp)]
  simp only [Yq,decide_eq_true_eq] at e1 e2
  by_cases hsz:sz<cs.length
  ·rw [sel_pos (by simp;omega),if_pos hsz]
  rw [sel_neg (by simp;omega),if_neg hsz]
  refine loop_rounds (fun i:Nat=>[Zz Zk sz,Zz Zk fl,Yh 5 (cs.map Xv),Zz Zk 0,Yh 5 (cs.map Xv),Zz Zk (cs.length:Int),Zz Zk (i:Int)]) (fun i=>i≤cs.length∧Um fl [] cs=Um fl (cs.take i) (cs.drop i)) (fun i=>cs.length-i)
   (fun r=>∃ (i:Nat) (n:Int),r.2=[Zz Zk sz,Zz Zk fl,Yh 5 (cs.map Xv),Zz Zk n,Yh 5 (cs.map Xv),Zz Zk (cs.length:Int),Zz Zk (i:Int)]∧((r.1 = .ret∧n=Um fl [] cs)∨(r.1 = .exit 0∧Um fl [] cs=0))) 0 ⟨Nat.zero_le _,by simp⟩ rfl ?_ ?_
  ·rintro i ⟨hi,hp⟩
   simp only [↓A0,A0,Xq]
   by_cases hlt:i<cs.length
   ·rw [sel_pos (by simp;omega),chk_of (by simp;omega),Wj,Kerb.getD_row (d:=Kerb.noMark) hlt]
    obtain ⟨c,hc⟩:∃ c,cs.getD i Kerb.noMark=c:=⟨_,rfl⟩
    have hst:=Kerb.marksErr_step hlt hc hp
    have hcm:c∈cs:=hc ▸ Kerb.mem_row hlt
    have ho:=hok c hcm
    rw [hc]
    obtain ⟨⟨s1,s2,s3⟩,mt,mk⟩:=c
    obtain ⟨o1,o2,o3,o4,o5⟩:=ho
    dsimp only at o1 o2 o3 o4 o5 hst
    simp only [Xv,o1,o2,o3,decide_true,Xw,↓A0,A0]
    have k1:∀ code:Int,code≠0→Vn fl ⟨⟨s1,s2,s3⟩,mt,mk⟩=code→code=Um fl [] cs:=fun code h0 he=>by
     rw [he,if_pos h0] at hst;exact hst.symm
    cases h1:Yy ⟨s1,s2,s3⟩
    ·exact ⟨_,rfl,i,_,rfl,.inl ⟨rfl,k1 103 (by decide) (by simp [Vn,h1])⟩⟩
    rw [Yn,sel_false]
    by_cases h2:fl≤mt∧mt≤4294967295
    case neg =>
     rw [sel_pos (by simp;omega)]
     exact ⟨_,rfl,i,_,rfl,.inl ⟨rfl,k1 104 (by decide) (by unfold Vn;rw [if_neg (by simp [h1]),if_pos (by simp [Zb];omega)])⟩⟩
    rw [sel_neg (by simp;omega)]
    by_cases h3:0≤mk∧mk≤199
    case neg =>
     rw [sel_pos (by simp;omega)]
     exact ⟨_,rfl,i,_,rfl,.inl ⟨rfl,k1 104 (by decide) (by unfold Vn;rw [if_neg (by simp [h1]),if_pos (by simp [Zb];omega)])⟩⟩
    rw [sel_neg (by simp;omega)]
    have hw2:(decide (fl≤mt)&&decide (mt≤4294967295)&&Zb mk 199)=true:=by
     rw [Yq,Yq,decide_eq_true_eq,decide_eq_true_eq]
     exact ⟨⟨by omega,by omega⟩,Kerb.within_iff.2 ⟨by omega,by omega⟩⟩
    have hz:Vn fl ⟨⟨s1,s2,s3⟩,mt,mk⟩=0:=by
     unfold Vn
     rw [if_neg (by simp [h1])]
     dsimp only
     rw [hw2]
     rfl
    rw [hz,if_neg (by simp)] at hst
    rw [chk_of (by simp;omega)]
    simp only [Wj,List.drop_zero,← List.map_take]
    rw [chk_of (by rw [Kerb.marks_all (fun c hc=>hok c (List.mem_of_mem_take hc))];simp;omega),Kerb.map_toMark]
    cases hd:Kerb.hasMark (cs.take i) ⟨⟨s1,s2,s3⟩,mt,mk⟩
    ·rw [hd,if_neg (by simp)] at hst
     rw [sel_false,wrap_i64 (by omega) (by omega)]
     exact ⟨_,rfl,i+1,rfl,⟨by omega,hst⟩,by dsimp only;omega⟩
    ·rw [hd,if_pos rfl] at hst
     rw [sel_true]
     exact ⟨_,rfl,i,_,rfl,.inl ⟨rfl,hst.symm⟩⟩
   ·rw [sel_neg (by simp;omega)]
    refine ⟨_,rfl,i,_,rfl,.inr ⟨rfl,?_⟩⟩
    rw [hp,List.drop_eq_nil_of_le (by omega)]
    rfl
  ·rintro ⟨e,l⟩ ⟨i,n,rfl,⟨rfl,h⟩ | ⟨rfl,h⟩⟩
   ·simp only [↓A0,A0,h]
   ·simp only [↓A0,A0,h]
    rw [sel_pos (Nat.beq_refl _)]
 ·cases h
theorem w175:Walked Tryz.prog G 175 8 sp175:=by
 refine ⟨Tryz.f175,Tryz.func175,by decide +kernel,rfl,fun xs bl r h=> ?_⟩
 unfold sp175 at h
 split at h
 ·rename_i b pos
  obtain ⟨hpre,h2⟩:=chk_inv h;cases h2
  refine Eq.trans (b:=(Zx (loopM (fun (st:List AV)=>cBs st fun b r=>cInt .i64 r fun n r=>let t0:Option (AV×Blocks):=chk (decide (Zy b≤4611686018427387904)) (some (Zn [Zq (Uu (Vp b n)),Zz .i64 (Ux (Vp b n)),Zz .i64 (Vm (Vp b n))],[]));cStr r fun b_1 r=>cStr r fun b_2 r=>cStr r fun b_3 r=>cInt .i64 r fun n_1 r=>cInt .i64 r fun n_2 r=>cStr r fun b_4 r=>cStr r fun b_5 r=>cStr r fun b_6 r=>cInt .i64 r fun n_3 r=>cInt .i64 r fun n_4 r=>let t1:List AV:=[Zq b_6,Zz .i64 n_3,Zz .i64 (Zp .i64 (n_4+1))];onNil r (sel (decide (n_4<n_3)) (chk (decide (0≤n_4)&&decide (n_4<(↑(Zy [0,1,2]):Int))&&true) (sel (Nat.beq (Zm n_4) 0) (Zx t0 (kT fun vs=>cStr vs fun b_7 r=>cInt .i64 r fun n r=>cInt .i64 r fun n_5 r=>onNil r (sel (!n_5==0) (some (Wy (Ug,[Zf b,Zz .i64 n,Zq [],Zq [],Zq [],Zz .i64 0,Zz .i64 n_5,Zq b_7,Zq b_5,Zq b_6,Zz .i64 n_3,Zz .i64 n_4]))) (some (Sum.inl (Zf b::Zz .i64 n::Zq b_1::Zq b_2::Zq b_3::Zz .i64 n_1::Zz .i64 n_2::Zq b_7::Zq b_5::t1)))))) (sel (Nat.beq (Zm n_4-1) 0) (Zx t0 (kT fun vs=>cStr vs fun b_7 r=>cInt .i64 r fun n r=>cInt .i64 r fun n_5 r=>onNil r (sel (!n_5==0) (some (Wy (Ug,[Zf b,Zz .i64 n,Zq [],Zq [],Zq [],Zz .i64 0,Zz .i64 n_5,Zq b_4,Zq b_7,Zq b_6,Zz .i64 n_3,Zz .i64 n_4]))) (some (Sum.inl (Zf b::Zz .i64 n::Zq b_1::Zq b_2::Zq b_3::Zz .i64 n_1::Zz .i64 n_2::Zq b_4::Zq b_7::t1)))))) (sel (Nat.beq (Zm n_4-1-1) 0) (Zx t0 (kT fun vs=>cStr vs fun b_7 r=>cInt .i64 r fun n r=>cInt .i64 r fun n_5 r=>onNil r (sel (!n_5==0) (some (Wy (Ug,[Zf b,Zz .i64 n,Zq [],Zq [],Zq [],Zz .i64 0,Zz .i64 n_5,Zq b_4,Zq b_5,Zq b_7,Zz .i64 n_3,Zz .i64 n_4]))) (some (Sum.inl [Zf b,Zz .i64 n,Zq b_1,Zq b_2,Zq b_3,Zz .i64 n_1,Zz .i64 n_2,Zq b_4,Zq b_5,Zq b_7,Zz .i64 n_3,Zz .i64 (Zp .i64 (n_4+1))]))))) none)))) (some (Wy (Ex.exit 0,[Zf b,Zz .i64 n,Zq b_1,Zq b_2,Zq b_3,Zz .i64 n_1,Zz .i64 n_2,Zq b_4,Zq b_5,Zq b_6,Zz .i64 n_3,Zz .i64 n_4]))))) [Zf b,Zz .i64 pos,Zq [],Zq [],Zq [],Zz .i64 0,Zz .i64 0,Zq [],Zq [],Zq [],Zz .i64 (↑(Zy [0+0,0+1,0+2]):Int),Zz .i64 0]) fun (r:Ex×List AV)=>cBs (Yz r) fun b r_1=>cInt .i64 r_1 fun n r_2=>cStr r_2 fun b r_3=>cStr r_3 fun b_1 r_4=>cStr r_4 fun b_2 r_5=>cInt .i64 r_5 fun n_1 r_6=>cInt .i64 r_6 fun n_2 r_7=>cStr r_7 fun b_3 r_8=>cStr r_8 fun b_4 r_9=>cStr r_9 fun b_5 r_10=>cInt .i64 r_10 fun n_3 r_11=>cInt .i64 r_11 fun n_4 r_12=>onNil r_12 (exK r.1 (some (Zn [Xf [Zq b,Zq b_1,Zq b_2],Zz .i64 n_1,Zz .i64 n_2],[])) fun (j:Nat)=>sel (Nat.beq j 0) (Zx (chk (l63 b_3&&l63 b_4&&l63 b_5) (some (Zu (Yy (Zh b_3 b_4 b_5)),[]))) (kL fun b=>sel (!b) (some (Zn [Xf [Zq [],Zq [],Zq []],Zz .i64 0,Zz .i64 103],[])) (some (Zn [Xf [Zq b_3,Zq b_4,Zq b_5],Zz .i64 n,Zz .i64 0],[])))) none):Option (AV×Blocks))) (by kernel_rfl) ?_
  delta kT kL
  try dsimp only [cStr,cBs,cBool,cU8,cInt,cSl,l63]
  have hb:=of_decide_eq_true hpre
  obtain ⟨T0,hT0⟩:∃ T,T=Vp b pos:=⟨_,rfl⟩
  obtain ⟨T1,hT1⟩:∃ T,T=Vp b T0.next:=⟨_,rfl⟩
  obtain ⟨T2,hT2⟩:∃ T,T=Vp b T1.next:=⟨_,rfl⟩
  have hp:Kerb.prin b pos=if T0.err≠0 then ⟨Kerb.noPrin,0,T0.err⟩ else if T1.err≠0 then ⟨Kerb.noPrin,0,T1.err⟩ else if T2.err≠0 then ⟨Kerb.noPrin,0,T2.err⟩
    else if Yy ⟨T0.val,T1.val,T2.val⟩ then ⟨⟨T0.val,T1.val,T2.val⟩,T2.next,0⟩ else ⟨Kerb.noPrin,0,103⟩:=by
   rw [hT2,hT1,hT0];rfl
  have k0:=Kerb.text_len b pos
  rw [← hT0] at k0
  have k1:=Kerb.text_len b T0.next
  rw [← hT1] at k1
  have k2:=Kerb.text_len b T1.next
  rw [← hT2] at k2
  refine loop_rounds (fun i:Nat=>match i with
    | 0=>[Zf b,Zz Zk pos,Zq [],Zq [],Zq [],Zz Zk 0,Zz Zk 0,Zq [],Zq [],Zq [],Zz Zk 3,Zz Zk 0]
    | 1=>[Zf b,Zz Zk T0.next,Zq [],Zq [],Zq [],Zz Zk 0,Zz Zk 0,Zq T0.val,Zq [],Zq [],Zz Zk 3,Zz Zk 1]
    | 2=>[Zf b,Zz Zk T1.next,Zq [],Zq [],Zq [],Zz Zk 0,Zz Zk 0,Zq T0.val,Zq T1.val,Zq [],Zz Zk 3,Zz Zk 2]
    | _=>[Zf b,Zz Zk T2.next,Zq [],Zq [],Zq [],Zz Zk 0,Zz Zk 0,Zq T0.val,Zq T1.val,Zq T2.val,Zz Zk 3,Zz Zk 3])
   (fun i=>i≤3∧(1≤i→T0.err=0)∧(2≤i→T1.err=0)∧(3≤i→T2.err=0)) (fun i=>3-i)
   (fun r=>(T0.err=0∧T1.err=0∧T2.err=0∧r=(Ex.exit 0,[Zf b,Zz Zk T2.next,Zq [],Zq [],Zq [],Zz Zk 0,Zz Zk 0,Zq T0.val,Zq T1.val,Zq T2.val,Zz Zk 3,Zz Zk 3])) ∨
    ∃ n x y z i,Kerb.prin b pos=⟨Kerb.noPrin,0,(Kerb.prin b pos).err⟩∧r=(Ug,[Zf b,Zz Zk n,Zq [],Zq [],Zq [],Zz Zk 0,Zz Zk (Kerb.prin b pos).err,Zq x,Zq y,Zq z,Zz Zk 3,Zz Zk i])) 0 ⟨by omega,by omega,by omega,by omega⟩ rfl ?_ ?_
  ·rintro i ⟨hi,g0,g1,g2⟩
   have hc:i=0∨i=1∨i=2∨i=3:=by omega
   rcases hc with rfl | rfl | rfl | rfl
   ·simp only [A0]
    rw [sel_pos (by decide),chk_of (by decide),sel_pos (by decide),chk_of hpre,← hT0]
    by_cases h:T0.err=0
    ·rw [sel_neg (by simp [h])]
     exact ⟨_,rfl,1,rfl,⟨by omega,fun _=>h,by omega,by omega⟩,by dsimp only;omega⟩
    ·rw [sel_pos (by simpa using h)]
     exact ⟨_,rfl,.inr ⟨_,_,_,_,_,by rw [hp,if_pos h],by rw [hp,if_pos h]⟩⟩
   ·simp only [A0]
    have e0:=g0 (by omega)
    rw [sel_pos (by decide),chk_of (by decide),sel_neg (by decide),sel_pos (by decide),chk_of hpre,← hT1]
    by_cases h:T1.err=0
    ·rw [sel_neg (by simp [h])]
     exact ⟨_,rfl,2,rfl,⟨by omega,fun _=>e0,fun _=>h,by omega⟩,by dsimp only;omega⟩
    ·rw [sel_pos (by simpa using h)]
     exact ⟨_,rfl,.inr ⟨_,_,_,_,_,by rw [hp,if_neg (by simp [e0]),if_pos h],by rw [hp,if_neg (by simp [e0]),if_pos h]⟩⟩
   ·simp only [A0]
    have e0:=g0 (by omega)
    have e1:=g1 (by omega)
    rw [sel_pos (by decide),chk_of (by decide),sel_neg (by decide),sel_neg (by decide),sel_pos (by decide),chk_of hpre,← hT2]
    by_cases h:T2.err=0
    ·rw [sel_neg (by simp [h])]
     exact ⟨_,rfl,3,rfl,⟨by omega,fun _=>e0,fun _=>e1,fun _=>h⟩,by dsimp only;omega⟩
    ·rw [sel_pos (by simpa using h)]
     exact ⟨_,rfl,.inr ⟨_,_,_,_,_,by rw [hp,if_neg (by simp [e0]),if_neg (by simp [e1]),if_pos h],by rw [hp,if_neg (by simp [e0]),if_neg (by simp [e1]),if_pos h]⟩⟩
   ·simp only [A0]
    rw [sel_neg (by decide)]
    exact ⟨_,rfl,.inl ⟨g0 (by omega),g1 (by omega),g2 (by omega),rfl⟩⟩
  ·rintro r (⟨e0,e1,e2,rfl⟩ | ⟨n,x,y,z,i,h,rfl⟩)
   ·simp only [A0]
    rw [sel_pos (Nat.beq_refl _),chk_of (by simp;omega),hp,if_neg (by simp [e0]),if_neg (by simp [e1]),if_neg (by simp [e2])]
    cases hv:Yy ⟨T0.val,T1.val,T2.val⟩
    ·rfl
    ·rfl
   ·simp only [A0]
    rw [h]
    rfl
 ·cases h
theorem w184:Walked Tryz.prog G 184 8 sp184:=by
 refine ⟨Tryz.f184,Tryz.func184,by decide +kernel,rfl,fun xs bl r h=> ?_⟩
 unfold sp184 at h
 split at h
 ·rename_i li x y z ad k lf iss sv ins
  obtain ⟨hpre,h2⟩:=chk_inv h;cases h2
  refine Eq.trans (b:=(Zx (chk (decide (Zy x≤9223372036854775807)&&decide (Zy y≤9223372036854775807)&&decide (Zy z≤9223372036854775807)) (some (Zu (Yy (Zh x y z)),[]))) fun (r:AV×Blocks)=>onNilB (Yz r) (Xb (Yv r) fun b=>sel (!b) (some (Zz .i64 103,[])) (Zx (chk (decide (Zy sv≤9223372036854775807)) (some (Zu (Wk sv),[]))) fun (r:AV×Blocks)=>onNilB (Yz r) (Xb (Yv r) fun b=>sel (!b) (some (Zz .i64 103,[])) (Zx (chk (decide (Zy ins≤9223372036854775807)) (some (Zu (Wx ins),[]))) fun (r:AV×Blocks)=>onNilB (Yz r) (Xb (Yv r) fun b=>sel (!b) (some (Zz .i64 103,[])) (Zx (chk (decide (0≤k)&&decide (k<18446744073709551616)) (some (Zz .i64 (Kerb.classOf k),[]))) fun (r:AV×Blocks)=>onNilB (Yz r) (Yg .i64 (Yv r) fun n=>sel (!n==2) (some (Zz .i64 10,[])) (sel (!Zb ad 4294967295) (some (Zz .i64 104,[])) (sel (!Zb lf 255) (some (Zz .i64 104,[])) (sel (!Zb iss 4294967295) (some (Zz .i64 104,[])) (some (Zz .i64 0,[])))))))))))):Option (AV×Blocks))) (by kernel_rfl) ?_
  simp only [Yq,decide_eq_true_eq] at hpre
  obtain ⟨⟨⟨⟨⟨⟨h1,h2⟩,h3⟩,h4⟩,h5⟩,h6⟩,h7⟩:=hpre
  simp only [h1,h2,h3,h4,h5,h6,h7,decide_true,Xw,↓A0,A0]
  unfold Wg
  dsimp only
  cases Yy ⟨x,y,z⟩
  ·rfl
  cases Wk sv
  ·rfl
  cases Wx ins
  ·rfl
  simp only [Yn,Xw,sel_false]
  by_cases hc:Kerb.classOf k=2
  case neg=>rw [sel_pos (by simpa using hc),if_neg (by simp),if_pos hc]
  rw [sel_neg (by simp [hc]),if_neg (by simp),if_neg (by simp [hc])]
  cases Zb ad 4294967295
  ·rfl
  cases Zb lf 255
  ·rfl
  cases Zb iss 4294967295
  ·rfl
  rfl
 ·cases h
theorem w186:Walked Tryz.prog G 186 8 sp186:=by
 refine ⟨Tryz.f186,Tryz.func186,by decide +kernel,rfl,fun xs bl r h=> ?_⟩
 unfold sp186 at h
 split at h
 ·rename_i x y z ck tc tm
  obtain ⟨hpre,h2⟩:=chk_inv h;cases h2
  refine Eq.trans (b:=(Zx (chk (decide (Zy x≤9223372036854775807)&&decide (Zy y≤9223372036854775807)&&decide (Zy z≤9223372036854775807)) (some (Zu (Yy (Zh x y z)),[]))) fun (r:AV×Blocks)=>onNilB (Yz r) (Xb (Yv r) fun b=>sel (!b) (some (Zz .i64 103,[])) (sel (!Zb ck 4294967295) (some (Zz .i64 104,[])) (sel (!Zb tc 199) (some (Zz .i64 104,[])) (sel (!Zb tm 4294967295) (some (Zz .i64 104,[])) (some (Zz .i64 0,[])))))):Option (AV×Blocks))) (by kernel_rfl) ?_
  simp only [A0,Xj,Xk,Xn,hpre]
  unfold Vx
  simp only
  cases Yy ⟨x,y,z⟩
  ·rfl
  cases Zb ck 4294967295
  ·rfl
  cases Zb tc 199
  ·rfl
  cases Zb tm 4294967295<;>rfl
 ·cases h
theorem w26:Walked Tryz.prog G 26 9 sp26:=by
 refine ⟨Tryz.f26,Tryz.func26,by decide +kernel,rfl,fun xs bl r h=> ?_⟩
 unfold sp26 at h
 split at h
 ·rename_i m1 m2 m3 kls sz fl mls sk
  obtain ⟨hpre,h2⟩:=chk_inv h;cases h2
  refine Eq.trans (b:=(Zx (chk (decide (Zy m1≤9223372036854775807)&&decide (Zy m2≤9223372036854775807)&&decide (Zy m3≤9223372036854775807)) (some (Zu (Yy (Zh m1 m2 m3)),[]))) fun (r:AV×Blocks)=>onNilB (Yz r) (Xb (Yv r) fun b=>sel (!b) (some (Zz .i64 103,[])) (Zx (chk (List.all kls Kerb.isSKey&&decide (Zy kls≤1000000)) (some (Zz .i64 (Kerb.skErr (List.map Kerb.toSKey kls)),[]))) fun (r:AV×Blocks)=>onNilB (Yz r) (Yg .i64 (Yv r) fun n=>sel (!n==0) (some (Zz .i64 n,[])) (Zx (chk (List.all mls Kerb.isMark&&decide (Zy mls≤1000000)) (some (Zz .i64 (Uf (Kerb.RCache.mk sz fl (List.map Kerb.toMark mls))),[]))) fun (r:AV×Blocks)=>onNilB (Yz r) (Yg .i64 (Yv r) fun n=>sel (!n==0) (some (Zz .i64 n,[])) (sel (!Zb sk 4294967295) (some (Zz .i64 104,[])) (some (Zz .i64 0,[])))))))):Option (AV×Blocks))) (by kernel_rfl) ?_
  simp only [Yq,decide_eq_true_eq] at hpre
  obtain ⟨⟨⟨⟨⟨⟨l1,l2⟩,l3⟩,ka⟩,kl⟩,ma⟩,ml⟩:=hpre
  obtain ⟨ks,rfl,hks⟩:=Kerb.skeys_of ka
  obtain ⟨ms,rfl,hms⟩:=Kerb.marks_of ma
  have hkT:=Kerb.skeys_all hks
  have hmT:=Kerb.marks_all hms
  simp only [Xq] at kl ml
  simp only [Kerb.map_toSKey,Kerb.map_toMark,Xq,hkT,hmT,kl,ml,l1,l2,l3,decide_true,Xw,↓A0,A0]
  unfold Kerb.Server.err
  dsimp only
  cases g1:Yy ⟨m1,m2,m3⟩
  ·rfl
  rw [Yn,sel_false,if_neg (by simp)]
  by_cases g2:Kerb.skErr ks=0
  case neg=>rw [sel_pos (by simpa using g2),if_pos g2]
  rw [sel_neg (by simpa using g2),if_neg (by simpa using g2)]
  by_cases g3:Uf ⟨sz,fl,ms⟩=0
  case neg=>rw [sel_pos (by simpa using g3),if_pos g3]
  rw [sel_neg (by simpa using g3),if_neg (by simpa using g3)]
  cases Zb sk 4294967295<;>rfl
 ·cases h
theorem w47:Walked Tryz.prog G 47 9 sp47:=by
 refine ⟨Tryz.f47,Tryz.func47,by decide +kernel,rfl,fun xs bl r h=> ?_⟩
 unfold sp47 at h
 split at h
 ·rename_i sz fl mls a1 a2 a3 at_ atk now skw
  obtain ⟨hpre,h2⟩:=chk_inv h;cases h2
  refine Eq.trans (b:=(let t0:AV:=Xf [Zz .i64 0,Zz .i64 0,Yh 5 []];Zx (chk (List.all mls Kerb.isMark&&decide (Zy mls≤1000000)) (some (Zz .i64 (Uf (Kerb.RCache.mk sz fl (List.map Kerb.toMark mls))),[]))) (kI .i64 fun n=>sel (!n==0) (some (Zn [t0,Zz .i64 108],[])) (Zx (chk (l63 a1&&l63 a2&&l63 a3) (some (Zu (Yy (Zh a1 a2 a3)),[]))) (kL fun b=>sel (!b) (some (Zn [t0,Zz .i64 103],[])) (sel (!(decide (0≤atk)&&decide (atk≤199))) (some (Zn [t0,Zz .i64 104],[])) (sel (!Kerb.near at_ now skw) (some (Zn [t0,Zz .i64 37],[])) (sel (decide (at_<fl)) (some (Zn [t0,Zz .i64 37],[])) (Zx (chk (List.all mls Kerb.isMark&&decide (Zy mls≤1000000)) (some (Zu (Kerb.hasMark (List.map Kerb.toMark mls) (Kerb.Mark.mk (Zh a1 a2 a3) at_ atk)),[]))) (kL fun b=>sel b (some (Zn [t0,Zz .i64 34],[])) (Zx (loopM (fun (st:List AV)=>cInt .i64 st fun n r=>cInt .i64 r fun n_1 r=>cSl 5 r fun b r=>cStr r fun b_1 r=>cStr r fun b_2 r=>cStr r fun b_3 r=>cInt .i64 r fun n_2 r=>cInt .i64 r fun n_3 r=>cInt .i64 r fun n_4 r=>cInt .i64 r fun n_5 r=>cSl 5 r fun b_4 r=>cInt .i64 r fun n_6 r=>cInt .i64 r fun n_7 r=>onCons r fun x r=>AV.onOwnL x fun y=>cSl 5 r fun b_5 r=>cInt .i64 r fun n_8 r=>cInt .i64 r fun n_9 r=>let t1:List AV:=[Yh 5 b_5,Zz .i64 n_8,Zz .i64 (Zp .i64 (n_9+1))];onNil r (sel (decide (n_9<n_8)) (chk (decide (0≤n_9)&&decide (n_9<(↑(Zy b_5):Int))&&true) (AV.onAgg (Wm b_5 (Zm n_9) AV.undef) fun cs=>cStr cs fun b_6 r=>cStr r fun b_7 r=>cStr r fun b_8 r=>cInt .i64 r fun n_10 r=>cInt .i64 r fun n_11 r=>let t2:List AV:=[Xf [Zq b_6,Zq b_7,Zq b_8,Zz .i64 n_10,Zz .i64 n_11]];onNil r (sel (decide (n_10≥n_7)) (chk (room (Zy y+Zy t2) (nat_lit 64)) (some (Sum.inl (Zz .i64 n::Zz .i64 n_1::Yh 5 b::Zq b_1::Zq b_2::Zq b_3::Zz .i64 n_2::Zz .i64 n_3::Zz .i64 n_4::Zz .i64 n_5::Yh 5 b_4::Zz .i64 n_6::Zz .i64 n_7::AV.ownL (y++t2)::t1)))) (some (Sum.inl (Zz .i64 n::Zz .i64 n_1::Yh 5 b::Zq b_1::Zq b_2::Zq b_3::Zz .i64 n_2::Zz .i64 n_3::Zz .i64 n_4::Zz .i64 n_5::Yh 5 b_4::Zz .i64 n_6::Zz .i64 n_7::AV.ownL y::t1)))))) (some (Wy (Ex.exit 1,[Zz .i64 n,Zz .i64 n_1,Yh 5 b,Zq b_1,Zq b_2,Zq b_3,Zz .i64 n_2,Zz .i64 n_3,Zz .i64 n_4,Zz .i64 n_5,Yh 5 b_4,Zz .i64 n_6,Zz .i64 n_7,AV.ownL y,Yh 5 b_5,Zz .i64 n_8,Zz .i64 n_9]))))) [Zz .i64 sz,Zz .i64 fl,Yh 5 mls,Zq a1,Zq a2,Zq a3,Zz .i64 at_,Zz .i64 atk,Zz .i64 0,Zz .i64 0,Yh 5 [],Zz .i64 sz,Zz .i64 (Kerb.imax fl (Zp .i64 (now-skw))),AV.ownL [],Yh 5 mls,Zz .i64 (↑(Zy mls):Int),Zz .i64 0]) fun (r:Ex×List AV)=>cInt .i64 (Yz r) fun n r_1=>cInt .i64 r_1 fun n_1 r_2=>cSl 5 r_2 fun b r_3=>cStr r_3 fun b r_4=>cStr r_4 fun b_1 r_5=>cStr r_5 fun b_2 r_6=>cInt .i64 r_6 fun n_2 r_7=>cInt .i64 r_7 fun n_3 r_8=>let t3:List AV:=[Xf [Zq b,Zq b_1,Zq b_2,Zz .i64 n_2,Zz .i64 n_3]];cInt .i64 r_8 fun n_4 r_9=>cInt .i64 r_9 fun n_5 r_10=>cSl 5 r_10 fun b r_11=>cInt .i64 r_11 fun n_6 r_12=>cInt .i64 r_12 fun n_7 r_13=>onCons r_13 fun x r_14=>AV.onOwnL x fun y=>cSl 5 r_14 fun b r_15=>cInt .i64 r_15 fun n_8 r_16=>cInt .i64 r_16 fun n_9 r_17=>onNil r_17 (exK r.1 none fun (j:Nat)=>sel (Nat.beq j 1) (sel (decide ((↑(Zy y):Int)≥n)) (some (Zn [t0,Zz .i64 82],[])) (chk (room (Zy y+Zy t3) (nat_lit 64)) (some (Zn [Xf [Zz .i64 n_6,Zz .i64 n_7,Yh 5 (y++t3)],Zz .i64 0],[])))) none)))))))))):Option (AV×Blocks))) (by kernel_rfl) ?_
  delta kL kI
  try dsimp only [cStr,cBs,cBool,cU8,cInt,cSl,l63]
  simp only [Yq,decide_eq_true_eq] at hpre
  obtain ⟨⟨⟨⟨hall,hlen⟩,l1⟩,l2⟩,l3⟩:=hpre
  obtain ⟨cs,rfl,hok⟩:=Kerb.marks_of hall
  have hma:=Kerb.marks_all hok
  simp only [Xq] at hlen
  have hlT:decide (cs.length≤1000000)=true:=decide_eq_true hlen
  simp only [Kerb.map_toMark,Xq,hma,hlT,l1,l2,l3,decide_true,Xw,↓A0,A0]
  obtain ⟨R,hR⟩:∃ R,Kerb.RCache.mk sz fl cs=R:=⟨_,rfl⟩
  unfold Kerb.addMark
  by_cases h1:(Kerb.RCache.mk sz fl cs).err=0
  case neg=>rw [sel_pos (by simpa using h1),if_pos h1];rfl
  rw [sel_neg (by simpa using h1),if_neg (by simpa using h1)]
  cases h2:Yy ⟨a1,a2,a3⟩
  ·rfl
  rw [Yn,sel_false,if_neg (by simp)]
  cases h3:(decide ((0:Int)≤atk)&&decide (atk≤199))
  ·rw [if_pos (by unfold Zb;rw [h3];rfl)];rfl
  rw [Yn,sel_false,if_neg (by unfold Zb;rw [h3];simp)]
  cases h4:Kerb.near at_ now skw
  ·rw [if_pos (.inl rfl)];rfl
  rw [Yn,sel_false]
  by_cases h5:at_<fl
  ·rw [sel_pos (by simpa using h5),if_pos (.inr h5)];rfl
  rw [sel_neg (by simpa using h5),if_neg (by simp;omega)]
  cases h6:Kerb.hasMark cs ⟨⟨a1,a2,a3⟩,at_,atk⟩
  case true=>rfl
  rw [sel_false,if_neg (by simp)]
  have hn:(0≤now∧now≤4294967295)∧(0≤skw∧skw≤4294967295):=by
   simp only [Kerb.near,Yq,Kerb.within_iff] at h4
   omega
  rw [wrap_i64 (n:=now-skw) (by omega) (by omega)]
  obtain ⟨FL,hFL⟩:∃ FL,Kerb.imax fl (now-skw)=FL:=⟨_,rfl⟩
  have hfr:Kerb.freshMarks ⟨sz,fl,cs⟩ now skw=cs.filter (fun x=>decide (FL≤x.time)):=by rw [← hFL];rfl
  rw [hfr,hFL]
  have r64:∀ {m:Nat},m≤1000001→Go.Abs.room m 64=true:=fun h=>by simp [Go.Abs.room];omega
  have hfl:∀ i,((cs.take i).filter (fun x=>decide (FL≤x.time))).length≤1000000:=fun i=>by
   refine Nat.le_trans (List.length_filter_le _ _) ?_
   rw [List.length_take];omega
  refine loop_rounds (fun i:Nat=>[Zz Zk sz,Zz Zk fl,Yh 5 (cs.map Xv),Zq a1,Zq a2,Zq a3,Zz Zk at_,Zz Zk atk,Zz Zk 0,Zz Zk 0,Yh 5 [],Zz Zk sz,Zz Zk FL,AV.ownL (((cs.take i).filter (fun x=>decide (FL≤x.time))).map Xv),Yh 5 (cs.map Xv),Zz Zk (cs.length:Int),Zz Zk (i:Int)]) (fun i=>i≤cs.length) (fun i=>cs.length-i)
   (fun r=>∃ i:Nat,r=(Ex.exit 1,[Zz Zk sz,Zz Zk fl,Yh 5 (cs.map Xv),Zq a1,Zq a2,Zq a3,Zz Zk at_,Zz Zk atk,Zz Zk 0,Zz Zk 0,Yh 5 [],Zz Zk sz,Zz Zk FL,AV.ownL (((cs.take i).filter (fun x=>decide (FL≤x.time))).map Xv),Yh 5 (cs.map Xv),Zz Zk (cs.length:Int),Zz Zk (i:Int)])∧i=cs.length) 0 (Nat.zero_le _) rfl ?_ ?_
  ·intro i hi
   simp only [↓A0,A0,Xq,List.length_cons,List.length_nil]
   by_cases hlt:i<cs.length
   ·have hk1:(decide ((0:Int)≤(i:Int))&&decide ((i:Int)<(cs.length:Int))&&true)=true:=by simp;omega
    have hg:(cs.map Xv).getD i AV.undef=(cs.getD i Kerb.noMark).av:=Kerb.getD_row hlt
    obtain ⟨c,hc⟩:∃ c,cs.getD i Kerb.noMark=c:=⟨_,rfl⟩
    have hs:(cs.take (i+1)).filter (fun x=>decide (FL≤x.time))=(cs.take i).filter (fun x=>decide (FL≤x.time))++(if FL≤c.time then [c] else []):=by
     rw [Kerb.take_row (d:=Kerb.noMark) hlt,hc,List.filter_append]
     congr 1
     by_cases q:FL≤c.time<;>simp [q]
    rw [hc] at hg
    rw [sel_pos (by simp;omega)]
    simp only [hk1,Wj,hg,Xv,↓A0,A0]
    rw [wrap_i64 (by omega) (by omega)]
    by_cases hq:FL≤c.time
    ·rw [if_pos hq] at hs
     rw [sel_pos (by simpa using hq),chk_of (r64 (by have:=hfl i;omega))]
     refine ⟨_,rfl,i+1,?_,by omega,by dsimp only;omega⟩
     dsimp only
     rw [hs,List.map_append]
     rfl
    ·rw [if_neg hq,List.append_nil] at hs
     rw [sel_neg (by simpa using hq)]
     exact ⟨_,rfl,i+1,by dsimp only;rw [hs];rfl,by omega,by dsimp only;omega⟩
   ·rw [sel_neg (by simp;omega)]
    exact ⟨_,rfl,i,rfl,by omega⟩
  ·rintro _ ⟨i,rfl,rfl⟩
   simp only [↓A0,A0,Xq,List.length_cons,List.length_nil]
   rw [sel_pos (Nat.beq_refl _),List.take_length]
   have hF:=hfl cs.length
   rw [List.take_length] at hF
   by_cases h7:sz≤((cs.filter (fun x=>decide (FL≤x.time))).length:Int)
   ·rw [sel_pos (by simp;omega),if_pos h7];rfl
   ·rw [sel_neg (by simp;omega),if_neg h7,chk_of (r64 (by omega)),List.map_append]
    rfl
 ·cases h
theorem w178:Walked Tryz.prog G 178 9 sp178:=by
 refine ⟨Tryz.f178,Tryz.func178,by decide +kernel,rfl,fun xs bl r h=> ?_⟩
 unfold sp178 at h
 split at h
 ·rename_i li x y z ad k lf iss sv ins
  obtain ⟨hpre,h2⟩:=chk_inv h;cases h2
  refine Eq.trans (b:=(let t0:Nat:=Zy ([]++Zg 1 1 false)+Zy x+Zy y+Zy z;let t1:Nat:=Zy ([]++Zg 0 1 false)+Zy x+Zy y+Zy z;let t2:Option (AV×Blocks):=chk (decide (0≤k)&&decide (k<18446744073709551616)) (some (Zf (Kerb.keyBytes k),[]));Zx (chk (l63 x&&l63 y&&l63 z&&l63 sv&&l63 ins&&decide (0≤k)&&decide (k<18446744073709551616)) (some (Zz .i64 (Wg (Vw li (Zh x y z) ad k lf iss sv ins)),[]))) (kI .i64 fun n=>sel (!n==0) (some (Zn [Zf [],Zz .i64 n],[])) (sel li (Zx (chk (decide (t0≤70368744170000)) (some (Zf (Vf ([]++Zg 1 1 false) (Zh x y z)),[]))) (kB fun b=>Zx (chk (decide (Zy b≤70368744177664)) (some (Yj (b++Zg ad 4 li),[]))) (kO fun l=>Zx t2 (kB fun b=>Zx (chk (decide (Zy (Yk l (Yk b []))≤140737488355328)&&decide (Zy [Zf l,Zf b]≤1000)) (some (Yj (Yk l (Yk b [])),[]))) (kO fun l=>Zx (chk (decide (Zy l≤70368744177664)) (some (Yj (l++Zg lf 1 false),[]))) (kO fun l=>Zx (chk (decide (Zy l≤70368744177664)) (some (Yj (l++Zg iss 4 li),[]))) (kO fun l=>Zx (chk (decide (Zy l+Zy sv≤70368744177664)) (some (Zf (Yx l sv),[]))) (kB fun b=>Zx (chk (decide (Zy b+Zy ins≤70368744177664)) (some (Zf (Yx b ins),[]))) (kB fun b=>Zx (chk (decide (Zy b≤70368744177664)) (some (Zf (Uq b),[]))) (kB fun b=>some (Zn [Zf b,Zz .i64 0],[]))))))))))) (Zx (chk (decide (t1≤70368744170000)) (some (Zf (Vf ([]++Zg 0 1 false) (Zh x y z)),[]))) (kB fun b=>Zx (chk (decide (Zy b≤70368744177664)) (some (Yj (b++Zg ad 4 li),[]))) (kO fun l=>Zx t2 (kB fun b=>Zx (chk (decide (Zy (Yk l (Yk b []))≤140737488355328)&&decide (Zy [Zf l,Zf b]≤1000)) (some (Yj (Yk l (Yk b [])),[]))) (kO fun l=>Zx (chk (decide (Zy l≤70368744177664)) (some (Yj (l++Zg lf 1 false),[]))) (kO fun l=>Zx (chk (decide (Zy l≤70368744177664)) (some (Yj (l++Zg iss 4 li),[]))) (kO fun l=>Zx (chk (decide (Zy l+Zy sv≤70368744177664)) (some (Zf (Yx l sv),[]))) (kB fun b=>Zx (chk (decide (Zy b+Zy ins≤70368744177664)) (some (Zf (Yx b ins),[]))) (kB fun b=>Zx (chk (decide (Zy b≤70368744177664)) (some (Zf (Uq b),[]))) (kB fun b=>some (Zn [Zf b,Zz .i64 0],[]))))))))))))):Option (AV×Blocks))) (by kernel_rfl) ?_
  delta kB kO kI
  try dsimp only [cStr,cBs,cBool,cU8,cInt,cSl,l63]
  simp only [Yq,decide_eq_true_eq] at hpre
  obtain ⟨⟨⟨⟨⟨⟨h1,h2⟩,h3⟩,h4⟩,h5⟩,h6⟩,h7⟩:=hpre
  simp only [h1,h2,h3,h4,h5,h6,h7,decide_true,Xw,↓A0,A0]
  have hb := @Kerb.encTicket_inv ⟨li,⟨x,y,z⟩,ad,k,lf,iss,sv,ins⟩
  unfold Vb at hb ⊢
  dsimp only at hb ⊢
  generalize hE:Wg _=e at hb ⊢
  by_cases he:e=0
  case neg=>rw [sel_pos (by simpa using he),if_pos he]
  rw [if_neg (by simpa using he)] at hb
  obtain ⟨v1,v2,v3,_⟩:=hb rfl
  have l1:=Kerb.valid_len v1
  have l2:=(Kerb.name_ok v2).1
  have l3:=(Kerb.inst_ok v3).1
  dsimp only at l1
  rw [sel_neg (by simpa using he),if_neg (by simpa using he)]
  cases li
  ·rw [sel_false,chk_of (by first | (simp [Zw,Zv,Zj];done) | (simp [Zw,Zv,Zj];omega)),chk_of (by first | (simp [Zw,Zv,Zj];done) | (simp [Zw,Zv,Zj];omega)),chk_of (by first | (simp [Zw,Zv,Zj];done) | (simp [Zw,Zv,Zj];omega)),chk_of (by first | (simp [Zw,Zv,Zj];done) | (simp [Zw,Zv,Zj];omega)),chk_of (by first | (simp [Zw,Zv,Zj];done) | (simp [Zw,Zv,Zj];omega)),chk_of (by first | (simp [Zw,Zv,Zj];done) | (simp [Zw,Zv,Zj];omega)),chk_of (by first | (simp [Yx,Zw,Zv,Zj];done) | (simp [Yx,Zw,Zv,Zj];omega)),chk_of (by first | (simp [Yx,Zw,Zv,Zj];done) | (simp [Yx,Zw,Zv,Zj];omega))]
   simp
  ·rw [sel_true,chk_of (by first | (simp [Zw,Zv,Zj];done) | (simp [Zw,Zv,Zj];omega)),chk_of (by first | (simp [Zw,Zv,Zj];done) | (simp [Zw,Zv,Zj];omega)),chk_of (by first | (simp [Zw,Zv,Zj];done) | (simp [Zw,Zv,Zj];omega)),chk_of (by first | (simp [Zw,Zv,Zj];done) | (simp [Zw,Zv,Zj];omega)),chk_of (by first | (simp [Zw,Zv,Zj];done) | (simp [Zw,Zv,Zj];omega)),chk_of (by first | (simp [Zw,Zv,Zj];done) | (simp [Zw,Zv,Zj];omega)),chk_of (by first | (simp [Yx,Zw,Zv,Zj];done) | (simp [Yx,Zw,Zv,Zj];omega)),chk_of (by first | (simp [Yx,Zw,Zv,Zj];done) | (simp [Yx,Zw,Zv,Zj];omega))]
   simp
 ·cases h
theorem w179:Walked Tryz.prog G 179 9 sp179:=by
 refine ⟨Tryz.f179,Tryz.func179,by decide +kernel,rfl,fun xs bl r h=> ?_⟩
 unfold sp179 at h
 split at h
 ·rename_i x y z ck tc tm li
  obtain ⟨hpre,h2⟩:=chk_inv h;cases h2
  refine Eq.trans (b:=(let t0:Nat:=Zy ([]++Zg 0 1 false)+Zy x+Zy y+Zy z;let t1:Nat:=Zy ([]++Zg 1 1 false)+Zy x+Zy y+Zy z;Zx (chk (l63 x&&l63 y&&l63 z) (some (Zz .i64 (Vx (Wz (Zh x y z) ck tc tm)),[]))) (kI .i64 fun n=>sel (!n==0) (some (Zn [Zf [],Zz .i64 n],[])) (sel li (Zx (chk (decide (t1≤70368744170000)) (some (Zf (Vf ([]++Zg 1 1 false) (Zh x y z)),[]))) (kB fun b=>Zx (chk (decide (Zy b≤70368744177664)) (some (Yj (b++Zg ck 4 li),[]))) (kO fun l=>Zx (chk (decide (Zy l≤70368744177664)) (some (Yj (l++Zg tc 1 false),[]))) (kO fun l=>Zx (chk (decide (Zy l≤70368744177664)) (some (Yj (l++Zg tm 4 li),[]))) (kO fun l=>Zx (chk (decide (Zy l≤70368744177664)) (some (Zf (Uq l),[]))) (kB fun b=>some (Zn [Zf b,Zz .i64 0],[]))))))) (Zx (chk (decide (t0≤70368744170000)) (some (Zf (Vf ([]++Zg 0 1 false) (Zh x y z)),[]))) (kB fun b=>Zx (chk (decide (Zy b≤70368744177664)) (some (Yj (b++Zg ck 4 li),[]))) (kO fun l=>Zx (chk (decide (Zy l≤70368744177664)) (some (Yj (l++Zg tc 1 false),[]))) (kO fun l=>Zx (chk (decide (Zy l≤70368744177664)) (some (Yj (l++Zg tm 4 li),[]))) (kO fun l=>Zx (chk (decide (Zy l≤70368744177664)) (some (Zf (Uq l),[]))) (kB fun b=>some (Zn [Zf b,Zz .i64 0],[]))))))))):Option (AV×Blocks))) (by kernel_rfl) ?_
  delta kB kO kI
  try dsimp only [cStr,cBs,cBool,cU8,cInt,cSl,l63]
  simp only [A0,Xj,Xk,Xn,hpre]
  unfold Uv
  by_cases h:(Wz ⟨x,y,z⟩ ck tc tm).check=0
  case neg =>
   rw [sel_pos (by simpa using h),if_pos h]
  have hv:Yy ⟨x,y,z⟩=true:=by
   unfold Vx at h
   cases hv:Yy ⟨x,y,z⟩
   ·simp [hv] at h
   ·rfl
  have l1:=Kerb.valid_len hv
  simp only at l1
  rw [sel_neg (by simp [h]),if_neg (by simpa using h)]
  cases li
  ·simp only [A0,Xj,Xk,Xn,List.nil_append,cond_false,cond_true]
   rw [chk_of (by simp [Zv];omega),chk_of (by simp [Zv,Zw];omega),chk_of (by simp [Zv,Zw];omega),chk_of (by simp [Zv,Zw];omega),chk_of (by simp [Zv,Zw];omega)]
  ·simp only [A0,Xj,Xk,Xn,List.nil_append,cond_false,cond_true]
   rw [chk_of (by simp [Zv];omega),chk_of (by simp [Zv,Zw];omega),chk_of (by simp [Zv,Zw];omega),chk_of (by simp [Zv,Zw];omega),chk_of (by simp [Zv,Zw];omega)]
 ·cases h
end Go.Proofs.YtiplnpablmohiaaGreat
