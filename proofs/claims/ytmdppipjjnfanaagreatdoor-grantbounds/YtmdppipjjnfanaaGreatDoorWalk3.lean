/- What the functions of this seat compute. -/
import Derived.Test.YtmdppipjjnfanaaGreatDoorTab
import Derived.Test.YtmdppipjjnfanaaGreatDoorKerbPlain
import Derived.Test.YtmdppipjjnfanaaGreatDoorAbsStep
import Derived.Test.YtmdppipjjnfanaaGreatDoorKerbCli3
import Derived.Test.YtmdppipjjnfanaaGreatDoorKerbCli4
import Derived.Test.YtmdppipjjnfanaaGreatDoorKerbCli5
import Derived.Test.YtmdppipjjnfanaaGreatDoorKerbSrvL
import Derived.Test.YtmdppipjjnfanaaGreatDoorKerbKac2
import Derived.Test.YtmdppipjjnfanaaGreatDoorKerbKac4
import Derived.Test.YtmdppipjjnfanaaGreatDoorKerbSrvB
import Derived.Test.YtmdppipjjnfanaaGreatDoorKerbVerL
import Derived.Test.YtmdppipjjnfanaaGreatDoorKerbVerL
import Derived.Test.YtmdppipjjnfanaaGreatDoorKerbAuthL
import Derived.Test.YtmdppipjjnfanaaGreatDoorKerbGrtL
open Go.Abs.AV renaming int→Zz,bool→Zw,str→Zq,u8→Zk,bs→Zp,tup→Zm,ownB→Yf,onInt→Yh,agg→Xm,sl→Wx,onBool→Vj,onAgg→Uy
open List renaming length→Zy,append→Yu,getD→Wp,length_map→Vm
open Option renaming bind→Zx
open Kerb renaming putPrin_len→Zv,putN_len→Zu,keyBytes_len→Zj,get→Zg,within→Zb,u8i→Yx,putN→Yw,rdPrin→Yd,putText→Yg,bytes→Xy,readBox→Xu,text→Xq,keyRead→Xn,validInst→Xh,encodeTicket→Wz,validName→Ww,putText_len→Wv,u8i_bd→Wu,spoil→Wq,wrap_u8i→Wd,user→Wh,validRealm→Vy,header→Vq,putPrin→Vk,findCross→Vp,text_len→Vg,headIs→Vn,serviceEnt→Vh,encodePart→Uz,valid_len→Ux,marksErr→Uk,encodeAp→Up
open Go.IntKind renaming i64→Zd,wrap→Zf,u16→Xf,u32→Uw
open Kerb.Prin renaming mk→Zn,valid→Yk,realm→Xk,name→Xg,inst→Xb
open Prod renaming snd→Zh,fst→Yy
open Int renaming toNat→Yz,tmod→Yb,tmod_eq_emod_of_nonneg→Ym,tdiv→Vf,tdiv_eq_ediv_of_nonneg→Uu
open Bool renaming and_eq_true→Yv,not_true→Yq,and_self→Xj,not_false→Uv
open Kerb.Got renaming err→Yj,next→Xx,val→Xv
open UInt8 renaming toNat→Yp,ofNat→Vv
open Nat renaming le_trans→Yn
open Kerb.Case renaming mk→Xz,me→Wy
open Kerb.GotB renaming err→Xw,next→Wf,val→Wm
open Kerb.Enc renaming val→Xp,err→Xd
open Kerb.Ticket renaming mk→Wj
open Kerb.Client renaming av→Wk
open Kerb.GotBox renaming box→Wg
open Kerb.Cache renaming av→Wb
open Kerb.SKey renaming err→Wn,av→Uq
open Kerb.RdP renaming p→Vz
open Kerb.Cred renaming av→Vx
open Kerb.Auth renaming mk→Vw
open Sum renaming inr→Vu
open Kerb.Mark renaming err→Vd,av→Uj
open Kerb.ApRequest renaming mk→Vb
namespace Go.Proofs.YtmdppipjjnfanaaGreatDoor
open Go Go.Abs Go.Proofs
set_option linter.unusedVariables false
set_option linter.unusedSimpArgs false
set_option maxRecDepth 100000
theorem w7:Walked Tryz.prog G 7 5 sp7:=by
 refine ⟨Tryz.f7,Tryz.func7,by decide +kernel,rfl,fun xs bl r h=> ?_⟩
 unfold sp7 at h
 split at h
 ·rename_i cu co cv cr lt tn mt cad cfr cis ctm ctk clf ccs cky ckv css ctt cau sz sk
  cases h
  refine Eq.trans (b:=(some (Xm [Zq (Xg (Wy (Xz cu co cv cr lt tn mt cad cfr cis ctm ctk clf ccs cky ckv css ctt cau))),Zq (Xb (Wy (Xz cu co cv cr lt tn mt cad cfr cis ctm ctk clf ccs cky ckv css ctt cau))),Zq (Xk (Wy (Xz cu co cv cr lt tn mt cad cfr cis ctm ctk clf ccs cky ckv css ctt cau))),Wx 5 [Xm [Zq (Xg (Wy (Xz cu co cv cr lt tn mt cad cfr cis ctm ctk clf ccs cky ckv css ctt cau))),Zq (Xb (Wy (Xz cu co cv cr lt tn mt cad cfr cis ctm ctk clf ccs cky ckv css ctt cau))),Zq (Xk (Wy (Xz cu co cv cr lt tn mt cad cfr cis ctm ctk clf ccs cky ckv css ctt cau))),Zz .i64 1,Zz .u64 (Kerb.long 1)],Xm [Zq (Xg (Wy (Xz cu co cv cr lt tn mt cad cfr cis ctm ctk clf ccs cky ckv css ctt cau))),Zq (Xb (Wy (Xz cu co cv cr lt tn mt cad cfr cis ctm ctk clf ccs cky ckv css ctt cau))),Zq (Xk (Wy (Xz cu co cv cr lt tn mt cad cfr cis ctm ctk clf ccs cky ckv css ctt cau))),Zz .i64 2,Zz .u64 (Kerb.long 2)],Xm [Zq (Xg (Wh 0)),Zq (Xb (Wh 0)),Zq (Xk (Wh 0)),Zz .i64 1,Zz .u64 (Kerb.long 9)]],Zz .i64 (Zf .i64 (1+Yb (Zf .i64 (↑(Yp sz):Int)) 40)),Zz .i64 0,Wx 5 [],Zz .i64 (Zf .i64 (Zf .i64 (↑(Yp sk):Int)*4))],[]):Option (AV×Blocks))) (by kernel_rfl) ?_
  have b1:=Wu sz
  have b2:=Wu sk
  have f1:Zf .i64 (1+Yb (Yx sz) 40)=1+Yx sz % 40:=by rw [Ym b1.1];exact wrap_i64 (by omega) (by omega)
  have f2:Zf .i64 (Yx sk*4)=Yx sk*4:=wrap_i64 (by omega) (by omega)
  simp only [Wd,f1,f2]
  rfl
 ·cases h
theorem w12:Walked Tryz.prog G 12 5 sp12:=by
 refine ⟨Tryz.f12,Tryz.func12,by decide +kernel,rfl,fun xs bl r h=> ?_⟩
 unfold sp12 at h
 split at h
 ·rename_i b
  obtain ⟨hpre,h2⟩:=chk_inv h;cases h2
  refine Eq.trans (b:=(let t1:AV:=Xm [Zw false,Zq [],Zq [],Zq [],Zz .i64 0,Zz .i64 0,Zz .i64 0,Zp []];let t0:Option (AV×Blocks):=some (Zm [t1,Zz .i64 100],[]);sel (!Zh (Vn b [2])==0) (some (Zm [t1,Zz .i64 (Zh (Vn b [2]))],[])) (Zx (chk (decide (Zy b≤140737488355328)) (some (Xm [Zq (Xg (Vz (Yd b 2 false))),Zq (Xb (Vz (Yd b 2 false))),Zq (Xk (Vz (Yd b 2 false)))],[[Zp b,Zz .i64 (Kerb.RdP.pos (Yd b 2 false)),Zw (Yy (Vn b [2])),Zw (Kerb.RdP.bad (Yd b 2 false))]]))) fun (r:AV×Blocks)=>onConsB (Zh r) fun (x:List AV) (r_1:List (List AV))=>cBs x fun b_1 r_2=>cInt .i64 r_2 fun n r_3=>cBool r_3 fun b_2 r_4=>cBool r_4 fun b_3 r_5=>onNil r_5 (onNilB r_1 (Uy (Yy r) fun cs=>cStr cs fun b_4 r=>cStr r fun b_5 r=>cStr r fun b_6 r=>onNil r (Zx (chk (decide (Zy b_1≤140737488355328)) (some (Zz .i64 (Xv (Zg b_1 n 4 b_2)),[[Zp b_1,Zz .i64 (bif b_3 || !Yj (Zg b_1 n 4 b_2)==0 then n else Xx (Zg b_1 n 4 b_2)),Zw b_2,Zw (b_3 || !Yj (Zg b_1 n 4 b_2)==0)]]))) fun (r:AV×Blocks)=>onConsB (Zh r) fun (x:List AV) (r_6:List (List AV))=>cBs x fun b_7 r_7=>cInt .i64 r_7 fun n r_8=>cBool r_8 fun b_8 r_9=>cBool r_9 fun b_9 r_10=>onNil r_10 (onNilB r_6 (Yh .i64 (Yy r) fun n_1=>Zx (chk (decide (Zy b_7≤140737488355328)) (some (Zz .i64 (Xv (Zg b_7 n 1 false)),[[Zp b_7,Zz .i64 (bif b_9 || !Yj (Zg b_7 n 1 false)==0 then n else Xx (Zg b_7 n 1 false)),Zw b_8,Zw (b_9 || !Yj (Zg b_7 n 1 false)==0)]]))) fun (r:AV×Blocks)=>onConsB (Zh r) fun (x:List AV) (r_11:List (List AV))=>cBs x fun b_10 r_12=>cInt .i64 r_12 fun n r_13=>cBool r_13 fun b_11 r_14=>cBool r_14 fun b_12 r_15=>onNil r_15 (onNilB r_11 (Yh .i64 (Yy r) fun n_2=>Zx (chk (decide (Zy b_10≤140737488355328)) (some (Zz .i64 (Xv (Zg b_10 n 4 b_11)),[[Zp b_10,Zz .i64 (bif b_12 || !Yj (Zg b_10 n 4 b_11)==0 then n else Xx (Zg b_10 n 4 b_11)),Zw b_11,Zw (b_12 || !Yj (Zg b_10 n 4 b_11)==0)]]))) fun (r:AV×Blocks)=>onConsB (Zh r) fun (x:List AV) (r_16:List (List AV))=>cBs x fun b_13 r_17=>cInt .i64 r_17 fun n r_18=>cBool r_18 fun b_14 r_19=>cBool r_19 fun b_15 r_20=>onNil r_20 (onNilB r_16 (Yh .i64 (Yy r) fun n_3=>Zx (chk (decide (Zy b_13≤140737488355328)) (some (Zz .i64 (Xv (Zg b_13 n 1 false)),[[Zp b_13,Zz .i64 (bif b_15 || !Yj (Zg b_13 n 1 false)==0 then n else Xx (Zg b_13 n 1 false)),Zw b_14,Zw (b_15 || !Yj (Zg b_13 n 1 false)==0)]]))) fun (r:AV×Blocks)=>onConsB (Zh r) fun (x:List AV) (r_21:List (List AV))=>cBs x fun b_16 r_22=>cInt .i64 r_22 fun n r_23=>cBool r_23 fun b_17 r_24=>cBool r_24 fun b_18 r_25=>onNil r_25 (onNilB r_21 (Yh .i64 (Yy r) fun n_4=>Zx (chk (decide (Zy b_16≤140737488355328)) (some (Zz .i64 (Xv (Zg b_16 n 2 b_17)),[[Zp b_16,Zz .i64 (bif b_18 || !Yj (Zg b_16 n 2 b_17)==0 then n else Xx (Zg b_16 n 2 b_17)),Zw b_17,Zw (b_18 || !Yj (Zg b_16 n 2 b_17)==0)]]))) fun (r:AV×Blocks)=>onConsB (Zh r) fun (x:List AV) (r_26:List (List AV))=>cBs x fun b_19 r_27=>cInt .i64 r_27 fun n r_28=>cBool r_28 fun b_20 r_29=>cBool r_29 fun b_21 r_30=>onNil r_30 (onNilB r_26 (Yh .i64 (Yy r) fun n_5=>Zx (chk (decide (Zy b_19≤140737488355328)) (some (Zp (Wm (Xy b_19 n n_5)),[[Zp b_19,Zz .i64 (bif b_21 || !Xw (Xy b_19 n n_5)==0 then n else Wf (Xy b_19 n n_5)),Zw b_20,Zw (b_21 || !Xw (Xy b_19 n n_5)==0)]]))) fun (r:AV×Blocks)=>onConsB (Zh r) fun (x:List AV) (r_31:List (List AV))=>cBs x fun b_22 r_32=>cInt .i64 r_32 fun n r_33=>cBool r_33 fun b_23 r_34=>cBool r_34 fun b_24 r_35=>onNil r_35 (onNilB r_31 (AV.onBs (Yy r) fun b_25=>let t2:Kerb.Enc:=Kerb.encodeReply (Kerb.KdcReply.mk (Yy (Vn b [2])) (Zn b_4 b_5 b_6) n_1 n_3 n_4 b_25);Zx (chk (l63 b_4&&l63 b_5&&l63 b_6) (some (Zm [Zp (Xp t2),Zz .i64 (Xd t2)],[]))) (kT fun vs=>cBs vs fun b_26 r=>cInt .i64 r fun n r=>onNil r (sel b_24 t0 (sel (!n==0) t0 (sel (!b_26==b) t0 (some (Zm [Xm [Zw (Yy (Vn b [2])),Zq b_4,Zq b_5,Zq b_6,Zz .i64 n_1,Zz .i64 n_3,Zz .i64 n_4,Zp b_25],Zz .i64 0],[])))))))))))))))))))))):Option (AV×Blocks))) (by kernel_rfl) ?_
  delta kT
  try dsimp only [cStr,cBs,cBool,cU8,cInt,cSl,l63]
  have hb:=of_decide_eq_true hpre
  simp only [A0]
  by_cases h:(Vn b [2]).2=0
  case neg =>
   unfold Kerb.decodeReply
   rw [sel_pos (by simpa using h),if_pos h]
   rfl
  rw [sel_neg (by simp [h]),Kerb.rdReply_dec h]
  rw [chk_of hpre,chk_of hpre,chk_of hpre,chk_of hpre,chk_of hpre,chk_of hpre,chk_of hpre]
  have lp:=Kerb.rdPrin_len b 2 false
  have hx:∀ q,(Xq b q).val.length≤40:=Vg b
  rw [chk_of (by simp only [Yv,decide_eq_true_eq];refine ⟨⟨Yn lp.1 (by decide),Yn lp.2.1 (by decide)⟩,Yn lp.2.2 (by decide)⟩)]
  obtain ⟨R,hR⟩:∃ R,R=Kerb.rdReply b:=⟨_,rfl⟩
  have eb:_=R.bad:=(congrArg Kerb.Rd.bad hR).symm
  have ev:_=R.val:=(congrArg Kerb.Rd.val hR).symm
  rw [← hR]
  unfold Kerb.rdReply at eb ev
  dsimp only [Kerb.rdGet,Kerb.rdText,Kerb.rdBytes] at eb ev
  rw [eb]
  have ev2:Kerb.KdcReply.mk (Vn b [2]).1 (Zn (Yd b 2 false).p.name (Yd b 2 false).p.inst (Yd b 2 false).p.realm) _ _ _ _=R.val:=ev
  rw [ev2]
  cases hbad:R.bad
  case true=>rw [if_pos (.inl rfl)];rfl
  rw [sel_false]
  by_cases h1:(Kerb.encodeReply R.val).err=0
  ·rw [sel_neg (by simp [h1])]
   by_cases h2:(Kerb.encodeReply R.val).val=b
   ·rw [sel_neg (by simp [h2]),if_neg (by simp [h1,h2]),← ev2]
   ·rw [sel_pos (by simpa using h2),if_pos (.inr (.inr h2))]
    rfl
  ·rw [sel_pos (by simpa using h1),if_pos (.inr (.inl h1))]
   rfl
 ·cases h
theorem w13:Walked Tryz.prog G 13 5 sp13:=by
 refine ⟨Tryz.f13,Tryz.func13,by decide +kernel,rfl,fun xs bl r h=> ?_⟩
 unfold sp13 at h
 split at h
 ·rename_i b kd k
  obtain ⟨hpre,h2⟩:=chk_inv h;cases h2
  refine Eq.trans (b:=(Zx (chk (decide (Zy b≤140737488355328)) (some (Zm [Xm [Zz .i64 (Kerb.Box.kind (Wg (Xu b))),Zz .u64 (Kerb.Box.key (Wg (Xu b))),Zp (Kerb.Box.body (Wg (Xu b)))],Zz .i64 (Kerb.GotBox.n (Xu b)),Zz .i64 (Kerb.GotBox.err (Xu b))],[]))) fun (r:AV×Blocks)=>onNilB (Zh r) (AV.onTup (Yy r) fun vs=>onCons vs fun x r=>Uy x fun cs=>onCons cs fun x r_1=>Yh .i64 x fun n=>onCons r_1 fun x r_2=>Yh .u64 x fun n_1=>onCons r_2 fun x r_3=>AV.onBs x fun b_1=>onNil r_3 (onCons r fun x r=>Yh .i64 x fun n_2=>onCons r fun x r=>Yh .i64 x fun n_3=>onNil r (sel (!n_3==0) (some (Zm [Zp [],Zw false],[])) (sel (!n_2==(↑(Zy b):Int)) (some (Zm [Zp [],Zw false],[])) (sel (!n==kd) (some (Zm [Zp [],Zw false],[])) (sel (!n_1==k) (some (Zm [Zp [],Zw false],[])) (some (Zm [Zp b_1,Zw true],[])))))))):Option (AV×Blocks))) (by kernel_rfl) ?_
  simp only [↓A0,hpre]
  unfold Kerb.openBox
  generalize Xu b=r
  by_cases h1:r.err=0
  case neg=>rw [sel_pos (by simpa using h1),if_pos (.inl h1)]
  rw [sel_neg (by simpa using h1)]
  by_cases h2:r.n=b.length
  case neg=>rw [sel_pos (by simpa using h2),if_pos (.inr (.inl h2))]
  rw [sel_neg (by simpa using h2)]
  by_cases h3:r.box.kind=kd
  case neg=>rw [sel_pos (by simpa using h3),if_pos (.inr (.inr (.inl h3)))]
  rw [sel_neg (by simpa using h3)]
  by_cases h4:r.box.key=k
  case neg=>rw [sel_pos (by simpa using h4),if_pos (.inr (.inr (.inr h4)))]
  rw [sel_neg (by simpa using h4),if_neg (by simp [h1,h2,h3,h4])]
 ·cases h
theorem w14:Walked Tryz.prog G 14 5 sp14:=by
 refine ⟨Tryz.f14,Tryz.func14,by decide +kernel,rfl,fun xs bl r h=> ?_⟩
 unfold sp14 at h
 split at h
 ·rename_i b little
  obtain ⟨hpre,h2⟩:=chk_inv h;cases h2
  refine Eq.trans (b:=(let t0:Option (AV×Blocks):=some (Zm [Xm [Zz .u64 0,Zq [],Zq [],Zq [],Zz .i64 0,Zz .i64 0,Zp [],Zz .i64 0],Zz .i64 100],[]);Zx (chk (decide (Zy b≤140737488355328)) (some (Zz .i64 (Xv (Zg b 0 1 false)),[[Zp b,Zz .i64 (bif false || !Yj (Zg b 0 1 false)==0 then 0 else Xx (Zg b 0 1 false)),Zw little,Zw !Yj (Zg b 0 1 false)==0]]))) fun (r:AV×Blocks)=>onConsB (Zh r) fun (x:List AV) (r_1:List (List AV))=>cBs x fun b_1 r_2=>cInt .i64 r_2 fun n r_3=>cBool r_3 fun b_2 r_4=>cBool r_4 fun b_3 r_5=>onNil r_5 (onNilB r_1 (Yh .i64 (Yy r) fun n_1=>Zx (chk (decide (Zy b_1≤140737488355328)) (some (Zp (Wm (Xy b_1 n 8)),[[Zp b_1,Zz .i64 (bif b_3 || !Xw (Xy b_1 n 8)==0 then n else Wf (Xy b_1 n 8)),Zw b_2,Zw (b_3 || !Xw (Xy b_1 n 8)==0)]]))) fun (r:AV×Blocks)=>onConsB (Zh r) fun (x:List AV) (r_6:List (List AV))=>cBs x fun b_4 r_7=>cInt .i64 r_7 fun n r_8=>cBool r_8 fun b_5 r_9=>cBool r_9 fun b_6 r_10=>onNil r_10 (onNilB r_6 (AV.onBs (Yy r) fun b_7=>Zx (chk (decide (Zy b_7≤4611686018427387904)) (some (Zm [Zz .u64 (Yy (Xn b_7)),Zw (Zh (Xn b_7))],[]))) (kT fun vs=>cInt .u64 vs fun n_2 r=>cBool r fun b_8 r=>onNil r (Zx (chk (decide (Zy b_4≤140737488355328)) (some (Xm [Zq (Xg (Vz (Yd b_4 n b_6))),Zq (Xb (Vz (Yd b_4 n b_6))),Zq (Xk (Vz (Yd b_4 n b_6)))],[[Zp b_4,Zz .i64 (Kerb.RdP.pos (Yd b_4 n b_6)),Zw b_5,Zw (Kerb.RdP.bad (Yd b_4 n b_6))]]))) fun (r:AV×Blocks)=>onConsB (Zh r) fun (x:List AV) (r_11:List (List AV))=>cBs x fun b_9 r_12=>cInt .i64 r_12 fun n r_13=>cBool r_13 fun b_10 r_14=>cBool r_14 fun b_11 r_15=>onNil r_15 (onNilB r_11 (Uy (Yy r) fun cs=>cStr cs fun b_12 r=>cStr r fun b_13 r=>cStr r fun b_14 r=>onNil r (Zx (chk (decide (Zy b_9≤140737488355328)) (some (Zz .i64 (Xv (Zg b_9 n 1 false)),[[Zp b_9,Zz .i64 (bif b_11 || !Yj (Zg b_9 n 1 false)==0 then n else Xx (Zg b_9 n 1 false)),Zw b_10,Zw (b_11 || !Yj (Zg b_9 n 1 false)==0)]]))) fun (r:AV×Blocks)=>onConsB (Zh r) fun (x:List AV) (r_16:List (List AV))=>cBs x fun b_15 r_17=>cInt .i64 r_17 fun n r_18=>cBool r_18 fun b_16 r_19=>cBool r_19 fun b_17 r_20=>onNil r_20 (onNilB r_16 (Yh .i64 (Yy r) fun n_3=>Zx (chk (decide (Zy b_15≤140737488355328)) (some (Zz .i64 (Xv (Zg b_15 n 1 false)),[[Zp b_15,Zz .i64 (bif b_17 || !Yj (Zg b_15 n 1 false)==0 then n else Xx (Zg b_15 n 1 false)),Zw b_16,Zw (b_17 || !Yj (Zg b_15 n 1 false)==0)]]))) fun (r:AV×Blocks)=>onConsB (Zh r) fun (x:List AV) (r_21:List (List AV))=>cBs x fun b_18 r_22=>cInt .i64 r_22 fun n r_23=>cBool r_23 fun b_19 r_24=>cBool r_24 fun b_20 r_25=>onNil r_25 (onNilB r_21 (Yh .i64 (Yy r) fun n_4=>Zx (chk (decide (Zy b_18≤140737488355328)) (some (Zz .i64 (Xv (Zg b_18 n 1 false)),[[Zp b_18,Zz .i64 (bif b_20 || !Yj (Zg b_18 n 1 false)==0 then n else Xx (Zg b_18 n 1 false)),Zw b_19,Zw (b_20 || !Yj (Zg b_18 n 1 false)==0)]]))) fun (r:AV×Blocks)=>onConsB (Zh r) fun (x:List AV) (r_26:List (List AV))=>cBs x fun b_21 r_27=>cInt .i64 r_27 fun n r_28=>cBool r_28 fun b_22 r_29=>cBool r_29 fun b_23 r_30=>onNil r_30 (onNilB r_26 (Yh .i64 (Yy r) fun n_5=>Zx (chk (decide (Zy b_21≤140737488355328)) (some (Zp (Wm (Xy b_21 n n_5)),[[Zp b_21,Zz .i64 (bif b_23 || !Xw (Xy b_21 n n_5)==0 then n else Wf (Xy b_21 n n_5)),Zw b_22,Zw (b_23 || !Xw (Xy b_21 n n_5)==0)]]))) fun (r:AV×Blocks)=>onConsB (Zh r) fun (x:List AV) (r_31:List (List AV))=>cBs x fun b_24 r_32=>cInt .i64 r_32 fun n r_33=>cBool r_33 fun b_25 r_34=>cBool r_34 fun b_26 r_35=>onNil r_35 (onNilB r_31 (AV.onBs (Yy r) fun b_27=>Zx (chk (decide (Zy b_24≤140737488355328)) (some (Zz .i64 (Xv (Zg b_24 n 4 b_25)),[[Zp b_24,Zz .i64 (bif b_26 || !Yj (Zg b_24 n 4 b_25)==0 then n else Xx (Zg b_24 n 4 b_25)),Zw b_25,Zw (b_26 || !Yj (Zg b_24 n 4 b_25)==0)]]))) fun (r:AV×Blocks)=>onConsB (Zh r) fun (x:List AV) (r_36:List (List AV))=>cBs x fun b_28 r_37=>cInt .i64 r_37 fun n r_38=>cBool r_38 fun b_29 r_39=>cBool r_39 fun b_30 r_40=>onNil r_40 (onNilB r_36 (Yh .i64 (Yy r) fun n=>Zx (chk (l63 b_12&&l63 b_13&&l63 b_14&&decide (0≤n_2)&&decide (n_2<18446744073709551616)) (some (Zm [Zp (Xp (Uz (Kerb.ReplyPart.mk n_2 (Zn b_12 b_13 b_14) n_3 n_4 b_27 n) little)),Zz .i64 (Xd (Uz (Kerb.ReplyPart.mk n_2 (Zn b_12 b_13 b_14) n_3 n_4 b_27 n) little))],[]))) (kT fun vs=>cBs vs fun b_31 r=>cInt .i64 r fun n_6 r=>onNil r (sel b_30 t0 (sel (!n_6==0) t0 (sel (!b_31==b) t0 (some (Zm [Xm [Zz .u64 n_2,Zq b_12,Zq b_13,Zq b_14,Zz .i64 n_3,Zz .i64 n_4,Zp b_27,Zz .i64 n],Zz .i64 0],[]))))))))))))))))))))))))):Option (AV×Blocks))) (by kernel_rfl) ?_
  delta kT
  try dsimp only [cStr,cBs,cBool,cU8,cInt,cSl,l63]
  have hb:=of_decide_eq_true hpre
  simp only [A0]
  rw [Kerb.rdPart_dec b little]
  rw [chk_of hpre,chk_of hpre]
  have lr:=Kerb.bytes_len b (cond (false || !((Zg b 0 1 false).err==0)) 0 (Zg b 0 1 false).next) 8
  rw [chk_of (by simp only [decide_eq_true_eq];exact Yn lr (by omega)),chk_of hpre,chk_of hpre,chk_of hpre,chk_of hpre,chk_of hpre,chk_of hpre]
  have hx:∀ q,(Xq b q).val.length≤40:=Vg b
  have lp:∀ q bd,(Yd b q bd).p.name.length≤40∧(Yd b q bd).p.inst.length≤40∧(Yd b q bd).p.realm.length≤40:=Kerb.rdPrin_len b
  have hk:∀ q,0≤(Xn q).1∧(Xn q).1<18446744073709551616:=Kerb.keyRead_bd
  rw [chk_of (by simp only [Yv,decide_eq_true_eq];exact ⟨⟨⟨⟨Yn (lp _ _).1 (by decide),Yn (lp _ _).2.1 (by decide)⟩,Yn (lp _ _).2.2 (by decide)⟩,(hk _).1⟩,(hk _).2⟩)]
  obtain ⟨R,hR⟩:∃ R,R=Kerb.rdPart b little:=⟨_,rfl⟩
  have eb:_=R.bad:=(congrArg Kerb.Rd.bad hR).symm
  have ev:_=R.val:=(congrArg Kerb.Rd.val hR).symm
  rw [← hR]
  unfold Kerb.rdPart at eb ev
  dsimp only [Kerb.rdGet,Kerb.rdText,Kerb.rdBytes] at eb ev
  simp only [Bool.false_or] at eb ev ⊢
  generalize (Yd b (cond ((!((Zg b 0 1 false).err==0)) || !((Xy b (cond (!((Zg b 0 1 false).err==0)) 0 (Zg b 0 1 false).next) 8).err==0)) (cond (!((Zg b 0 1 false).err==0)) 0 (Zg b 0 1 false).next) (Xy b (cond (!((Zg b 0 1 false).err==0)) 0 (Zg b 0 1 false).next) 8).next) ((!((Zg b 0 1 false).err==0)) || !((Xy b (cond (!((Zg b 0 1 false).err==0)) 0 (Zg b 0 1 false).next) 8).err==0)))=X at eb ev ⊢
  have ev2:Kerb.ReplyPart.mk _ (Zn X.p.name X.p.inst X.p.realm) _ _ _ _=R.val:=ev
  rw [eb]
  rw [ev2]
  cases hbad:R.bad
  case true=>rw [if_pos (.inl rfl)];rfl
  rw [sel_false]
  by_cases h1:(Uz R.val little).err=0
  ·rw [sel_neg (by simp [h1])]
   by_cases h2:(Uz R.val little).val=b
   ·rw [sel_neg (by simp [h2]),if_neg (by simp [h1,h2]),← ev2]
   ·rw [sel_pos (by simpa using h2),if_pos (.inr (.inr h2))]
    rfl
  ·rw [sel_pos (by simpa using h1),if_pos (.inr (.inl h1))]
   rfl
 ·cases h
theorem w45:Walked Tryz.prog G 45 5 sp45:=by
 refine ⟨Tryz.f45,Tryz.func45,by decide +kernel,rfl,fun xs bl r h=> ?_⟩
 unfold sp45 at h
 split at h
 ·rename_i li x y z ad k lf iss sv ins
  obtain ⟨hpre,h2⟩:=chk_inv h;cases h2
  refine Eq.trans (b:=(let t0:Nat:=Zy ([]++Yw 0 1 false)+Zy x+Zy y+Zy z;let t1:Nat:=Zy ([]++Yw 1 1 false)+Zy x+Zy y+Zy z;let t2:Option (AV×Blocks):=chk (decide (0≤k)&&decide (k<18446744073709551616)) (some (Zp (Kerb.keyBytes k),[]));Zx (chk (l63 x&&l63 y&&l63 z&&l63 sv&&l63 ins&&decide (0≤k)&&decide (k<18446744073709551616)) (some (Zz .i64 (Kerb.Ticket.err (Wj li (Zn x y z) ad k lf iss sv ins)),[]))) (kI .i64 fun n=>sel (!n==0) (some (Zm [Zp [],Zz .i64 n],[])) (sel li (Zx (chk (decide (t1≤70368744170000)) (some (Zp (Vk ([]++Yw 1 1 false) (Zn x y z)),[]))) (kB fun b=>Zx (chk (decide (Zy b≤70368744177664)) (some (Yf (b++Yw ad 4 li),[]))) (kO fun l=>Zx t2 (kB fun b=>chk (room (Zy l+Zy b) 1) (Zx (chk (decide (Zy (l++b)≤70368744177664)) (some (Yf (l++b++Yw lf 1 false),[]))) (kO fun l=>Zx (chk (decide (Zy l≤70368744177664)) (some (Yf (l++Yw iss 4 li),[]))) (kO fun l=>Zx (chk (decide (Zy l+Zy sv≤70368744177664)) (some (Zp (Yg l sv),[]))) (kB fun b=>Zx (chk (decide (Zy b+Zy ins≤70368744177664)) (some (Zp (Yg b ins),[]))) (kB fun b=>Zx (chk (decide (Zy b≤70368744177664)) (some (Yf (Kerb.pad b),[]))) (kO fun l=>some (Zm [Zp l,Zz .i64 0],[]))))))))))) (Zx (chk (decide (t0≤70368744170000)) (some (Zp (Vk ([]++Yw 0 1 false) (Zn x y z)),[]))) (kB fun b=>Zx (chk (decide (Zy b≤70368744177664)) (some (Yf (b++Yw ad 4 li),[]))) (kO fun l=>Zx t2 (kB fun b=>chk (room (Zy l+Zy b) 1) (Zx (chk (decide (Zy (l++b)≤70368744177664)) (some (Yf (l++b++Yw lf 1 false),[]))) (kO fun l=>Zx (chk (decide (Zy l≤70368744177664)) (some (Yf (l++Yw iss 4 li),[]))) (kO fun l=>Zx (chk (decide (Zy l+Zy sv≤70368744177664)) (some (Zp (Yg l sv),[]))) (kB fun b=>Zx (chk (decide (Zy b+Zy ins≤70368744177664)) (some (Zp (Yg b ins),[]))) (kB fun b=>Zx (chk (decide (Zy b≤70368744177664)) (some (Yf (Kerb.pad b),[]))) (kO fun l=>some (Zm [Zp l,Zz .i64 0],[]))))))))))))):Option (AV×Blocks))) (by kernel_rfl) ?_
  delta kB kO kI
  try dsimp only [cStr,cBs,cBool,cU8,cInt,cSl,l63]
  simp only [Yv,decide_eq_true_eq] at hpre
  obtain ⟨⟨⟨⟨⟨⟨h1,h2⟩,h3⟩,h4⟩,h5⟩,h6⟩,h7⟩:=hpre
  simp only [h1,h2,h3,h4,h5,h6,h7,decide_true,Xj,↓A0,A0]
  have hb := @Kerb.encTicket_inv ⟨li,⟨x,y,z⟩,ad,k,lf,iss,sv,ins⟩
  unfold Wz at hb ⊢
  dsimp only at hb ⊢
  generalize hE:Kerb.Ticket.err _=e at hb ⊢
  by_cases he:e=0
  case neg=>rw [sel_pos (by simpa using he),if_pos he]
  rw [if_neg (by simpa using he)] at hb
  obtain ⟨v1,v2,v3,_⟩:=hb rfl
  have l1:=Ux v1
  have l2:=(Kerb.name_ok v2).1
  have l3:=(Kerb.inst_ok v3).1
  dsimp only at l1
  rw [sel_neg (by simpa using he),if_neg (by simpa using he)]
  cases li
  ·rw [sel_false,chk_of (by first | (simp [Zv,Zu,Zj];done) | (simp [Zv,Zu,Zj];omega)),chk_of (by first | (simp [Zv,Zu,Zj];done) | (simp [Zv,Zu,Zj];omega)),chk_of (Kerb.room_ok (by first | (simp [Zv,Zu,Zj];done) | (simp [Zv,Zu,Zj];omega))),chk_of (by first | (simp [Zv,Zu,Zj];done) | (simp [Zv,Zu,Zj];omega)),chk_of (by first | (simp [Zv,Zu,Zj];done) | (simp [Zv,Zu,Zj];omega)),chk_of (by first | (simp [Zv,Zu,Zj];done) | (simp [Zv,Zu,Zj];omega)),chk_of (by first | (simp [Yg,Zv,Zu,Zj];done) | (simp [Yg,Zv,Zu,Zj];omega)),chk_of (by first | (simp [Yg,Zv,Zu,Zj];done) | (simp [Yg,Zv,Zu,Zj];omega))]
   simp
  ·rw [sel_true,chk_of (by first | (simp [Zv,Zu,Zj];done) | (simp [Zv,Zu,Zj];omega)),chk_of (by first | (simp [Zv,Zu,Zj];done) | (simp [Zv,Zu,Zj];omega)),chk_of (Kerb.room_ok (by first | (simp [Zv,Zu,Zj];done) | (simp [Zv,Zu,Zj];omega))),chk_of (by first | (simp [Zv,Zu,Zj];done) | (simp [Zv,Zu,Zj];omega)),chk_of (by first | (simp [Zv,Zu,Zj];done) | (simp [Zv,Zu,Zj];omega)),chk_of (by first | (simp [Zv,Zu,Zj];done) | (simp [Zv,Zu,Zj];omega)),chk_of (by first | (simp [Yg,Zv,Zu,Zj];done) | (simp [Yg,Zv,Zu,Zj];omega)),chk_of (by first | (simp [Yg,Zv,Zu,Zj];done) | (simp [Yg,Zv,Zu,Zj];omega))]
   simp
 ·cases h
theorem w108:Walked Tryz.prog G 108 5 sp108:=by
 refine ⟨Tryz.f108,Tryz.func108,by decide +kernel,rfl,fun xs bl r h=> ?_⟩
 unfold sp108 at h
 split at h
 ·rename_i s
  obtain ⟨hpre,h2⟩:=chk_inv h;cases h2
  refine Eq.trans (b:=(sel (!s==[]) (sel (decide ((↑(Zy s):Int)≤39)) (Zx (chk (decide (Zy s≤9223372036854775807)) (some (Zw (Kerb.printable s [(46:UInt8),(64:UInt8)]),[]))) fun (r:AV×Blocks)=>onNilB (Zh r) (Vj (Yy r) fun b=>some (Zw b,[]))) (some (Zw false,[]))) (some (Zw false,[])):Option (AV×Blocks))) (by kernel_rfl) ?_
  simp only [A0]
  rw [chk_of hpre,decide_eq_decide.2 (show ((s.length:Int)≤39)↔s.length≤39 from by omega)]
  simp only [Ww]
  cases s with
  | nil=>rfl
  | cons x r=>cases decide ((x::r).length≤39)<;>rfl
 ·cases h
theorem w109:Walked Tryz.prog G 109 5 sp109:=by
 refine ⟨Tryz.f109,Tryz.func109,by decide +kernel,rfl,fun xs bl r h=> ?_⟩
 unfold sp109 at h
 split at h
 ·rename_i s
  obtain ⟨hpre,h2⟩:=chk_inv h;cases h2
  refine Eq.trans (b:=(sel (decide ((↑(Zy s):Int)≤39)) (Zx (chk (decide (Zy s≤9223372036854775807)) (some (Zw (Kerb.printable s [(64:UInt8)]),[]))) fun (r:AV×Blocks)=>onNilB (Zh r) (Vj (Yy r) fun b=>some (Zw b,[]))) (some (Zw false,[])):Option (AV×Blocks))) (by kernel_rfl) ?_
  simp only [A0]
  rw [chk_of hpre,decide_eq_decide.2 (show ((s.length:Int)≤39)↔s.length≤39 from by omega)]
  simp only [Xh]
  cases decide (s.length≤39)<;>rfl
 ·cases h
theorem w131:Walked Tryz.prog G 131 5 sp131:=by
 refine ⟨Tryz.f131,Tryz.func131,by decide +kernel,rfl,fun xs bl r h=> ?_⟩
 unfold sp131 at h
 split at h
 ·rename_i rl els n i now
  obtain ⟨hpre,h2⟩:=chk_inv h;cases h2
  refine Eq.trans (b:=(Zx (chk (List.all els Kerb.isEntry&&decide (Zy els≤1000000)) (some (Zm [Zz .i64 (Yy (Kerb.useEnt (Kerb.Db.mk rl (List.map Kerb.toEntry els)) n i now 2 2 6)),Zz .i64 (Zh (Kerb.useEnt (Kerb.Db.mk rl (List.map Kerb.toEntry els)) n i now 2 2 6))],[]))) fun (r:AV×Blocks)=>onNilB (Zh r) (AV.onTup (Yy r) fun vs=>onCons vs fun x r=>Yh .i64 x fun n=>onCons r fun x r=>Yh .i64 x fun n_1=>onNil r (some (Zm [Zz .i64 n,Zz .i64 n_1],[]))):Option (AV×Blocks))) (by kernel_rfl) ?_
  simp only [hpre,↓A0,A0]
  rfl
 ·cases h
theorem w145:Walked Tryz.prog G 145 5 sp145:=by
 refine ⟨Tryz.f145,Tryz.func145,by decide +kernel,rfl,fun xs bl r h=> ?_⟩
 unfold sp145 at h
 split at h
 ·rename_i x y z ck tc tm li
  obtain ⟨hpre,h2⟩:=chk_inv h;cases h2
  refine Eq.trans (b:=(let t0:Nat:=Zy ([]++Yw (bif li then 1 else 0) 1 false)+Zy x+Zy y+Zy z;Zx (chk (l63 x&&l63 y&&l63 z) (some (Zz .i64 (Kerb.Auth.check (Vw (Zn x y z) ck tc tm)),[]))) (kI .i64 fun n=>sel (!n==0) (some (Zm [Zp [],Zz .i64 n],[])) (Zx (chk (decide (t0≤70368744170000)) (some (Zp (Vk ([]++Yw (bif li then 1 else 0) 1 false) (Zn x y z)),[]))) (kB fun b=>Zx (chk (decide (Zy b≤70368744177664)) (some (Yf (b++Yw ck 4 li),[]))) (kO fun l=>Zx (chk (decide (Zy l≤70368744177664)) (some (Yf (l++Yw tc 1 false),[]))) (kO fun l=>Zx (chk (decide (Zy l≤70368744177664)) (some (Yf (l++Yw tm 4 li),[]))) (kO fun l=>Zx (chk (decide (Zy l≤70368744177664)) (some (Yf (Kerb.pad l),[]))) (kO fun l=>some (Zm [Zp l,Zz .i64 0],[])))))))):Option (AV×Blocks))) (by kernel_rfl) ?_
  delta kB kO kI
  try dsimp only [cStr,cBs,cBool,cU8,cInt,cSl,l63]
  simp only [A0,Wk,Wb,Vx,hpre]
  unfold Kerb.encodeAuth
  by_cases h:(Vw ⟨x,y,z⟩ ck tc tm).check=0
  case neg =>
   rw [sel_pos (by simpa using h),if_pos h]
  have hv:Yk ⟨x,y,z⟩=true:=by
   unfold Kerb.Auth.check at h
   cases hv:Yk ⟨x,y,z⟩
   ·simp [hv] at h
   ·rfl
  have l1:=Ux hv
  simp only at l1
  rw [sel_neg (by simp [h]),if_neg (by simpa using h)]
  cases li
  ·simp only [A0,Wk,Wb,Vx,List.nil_append,cond_false,cond_true]
   rw [chk_of (by simp [Zu];omega),chk_of (by simp [Zu,Zv];omega),chk_of (by simp [Zu,Zv];omega),chk_of (by simp [Zu,Zv];omega),chk_of (by simp [Zu,Zv];omega)]
  ·simp only [A0,Wk,Wb,Vx,List.nil_append,cond_false,cond_true]
   rw [chk_of (by simp [Zu];omega),chk_of (by simp [Zu,Zv];omega),chk_of (by simp [Zu,Zv];omega),chk_of (by simp [Zu,Zv];omega),chk_of (by simp [Zu,Zv];omega)]
 ·cases h
theorem w164:Walked Tryz.prog G 164 5 sp164:=by
 refine ⟨Tryz.f164,Tryz.func164,by decide +kernel,rfl,fun xs bl r h=> ?_⟩
 unfold sp164 at h
 split at h
 ·rename_i b
  obtain ⟨hpre,h2⟩:=chk_inv h;cases h2
  refine Eq.trans (b:=(let t1:Int:=Zf .i64 (↑(BitVec.toNat (BitVec.ofInt (IntKind.bits .i64) (Zf .i64 (Zf .i64 (↑(Yp (Wp b (Yz 10) (0:UInt8))):Int)*2 ^ min (Yz 8) (IntKind.bits .i64))) ||| BitVec.ofInt (IntKind.bits .i64) (Zf .i64 (↑(Yp (Wp b (Yz 11) (0:UInt8))):Int)))):Int);let t2:Option (AV×Blocks):=some (Zm [Xm [Zz .i64 0,Zz .u64 0,Zp []],Zz .i64 0,Zz .i64 100],[]);let t3:Option (AV×Blocks):=some (Zm [Xm [Zz .i64 0,Zz .u64 0,Zp []],Zz .i64 0,Zz .i64 101],[]);let t0:Int:=Zf .i64 (12+t1);sel (decide ((↑(Zy b):Int)<12)) t3 (chk (decide (1<(↑(Zy b):Int))) (chk (decide (10≤(↑(Zy b):Int))) (Zx (chk (decide (Zy (List.drop (Yz 2) (List.take (Yz 10) b))≤4611686018427387904)) (some (Zm [Zz .u64 (Yy (Xn (List.drop (Yz 2) (List.take (Yz 10) b)))),Zw (Zh (Xn (List.drop (Yz 2) (List.take (Yz 10) b))))],[]))) (kT fun vs=>cInt .u64 vs fun n r=>cBool r fun b_1 r=>onNil r (chk (decide (10<(↑(Zy b):Int))) (chk (decide (11<(↑(Zy b):Int))) (chk (decide (0<(↑(Zy b):Int))) (sel (!Wp b (Yz 0) (0:UInt8)==(66:UInt8)) t2 (sel (!Kerb.isKind (Zf .i64 (↑(Yp (Wp b (Yz 1) (0:UInt8))):Int))) t2 (sel (!b_1) t2 (sel (decide (t1>1000)) t2 (sel (decide ((↑(Zy b):Int)<t0)) t3 (chk (decide (12≤t0)&&decide (t0≤t0)&&decide (t0≤(↑(Zy b):Int))) (Zx (chk (decide (Zy (List.drop (Yz 12) (List.take (Yz t0) b))≤140737488355328)) (some (Zp (List.drop (Yz 12) (List.take (Yz t0) b)),[]))) (kB fun b_2=>some (Zm [Xm [Zz .i64 (Zf .i64 (↑(Yp (Wp b (Yz 1) (0:UInt8))):Int)),Zz .u64 n,Zp b_2],Zz .i64 t0,Zz .i64 0],[])))))))))))))))):Option (AV×Blocks))) (by kernel_rfl) ?_
  delta kT kB
  try dsimp only [cStr,cBs,cBool,cU8,cInt,cSl,l63]
  simp only [decide_eq_true_eq] at hpre
  unfold Xu
  by_cases h0:b.length<12
  ·rw [sel_pos (by simp;omega),if_pos h0];rfl
  rw [sel_neg (by simp;omega),if_neg h0]
  have hc:=Kerb.cut_len b 2 8
  have hs:(b.getD 10 0).toNat*256+(b.getD 11 0).toNat=Kerb.boxSize b:=rfl
  simp only [Kerb.cut_28,Kerb.size_or]
  simp only [show Yz 0=0 from rfl,show Yz 1=1 from rfl,show Yz 10=10 from rfl,show Yz 11=11 from rfl,Kerb.wrap_byte,hs]
  rw [chk_of (by simp;omega),chk_of (by simp;omega),chk_of (by simp;omega)]
  simp only [↓A0]
  rw [chk_of (by simp;omega),chk_of (by simp;omega),chk_of (by simp;omega)]
  by_cases h1:b.getD 0 0=66
  case neg=>rw [sel_pos (by simpa using h1),if_pos (.inl h1)];rfl
  rw [sel_neg (by simpa using h1)]
  cases h2:Kerb.isKind ((b.getD 1 0).toNat:Int)
  ·rw [if_pos (.inr (.inl rfl))];rfl
  rw [Yq,sel_false]
  cases h3:(Xn (Kerb.cut b 2 8)).2
  ·rw [if_pos (.inr (.inr (.inl rfl)))];rfl
  rw [Yq,sel_false]
  by_cases h4:1000<Kerb.boxSize b
  ·rw [sel_pos (by simp;omega),if_pos (.inr (.inr (.inr h4)))];rfl
  rw [sel_neg (by simp;omega),if_neg (by rintro (h | h | h | h)<;>first | exact h h1 | cases h | omega),wrap_i64 (by omega) (by omega)]
  by_cases h5:b.length<12+Kerb.boxSize b
  ·rw [sel_pos (by simp;omega),if_pos h5];rfl
  have hc2:=Kerb.cut_len b 12 (Kerb.boxSize b)
  rw [sel_neg (by simp;omega),if_neg h5,Kerb.cut_12,chk_of (by simp;omega)]
  simp only [↓A0]
  rw [chk_of (by simp;omega)]
  simp
 ·cases h
theorem w17:Walked Tryz.prog G 17 6 sp17:=by
 refine ⟨Tryz.f17,Tryz.func17,by decide +kernel,rfl,fun xs bl r h=> ?_⟩
 unfold sp17 at h
 split at h
 ·rename_i b
  obtain ⟨hpre,h2⟩:=chk_inv h;cases h2
  refine Eq.trans (b:=(let t2:AV:=Xm [Zw false,Zq [],Zq [],Zq [],Zz .i64 0,Zz .u64 0,Zz .i64 0,Zz .i64 0,Zq [],Zq []];let t1:Option (AV×Blocks):=some (Zm [t2,Zz .i64 100],[]);let t0:Option (AV×Blocks):=Zx (chk (decide (Zy b≤140737488355328)) (some (Zz .i64 (Xv (Zg b 0 1 false)),[[Zp b,Zz .i64 (bif false || !Yj (Zg b 0 1 false)==0 then 0 else Xx (Zg b 0 1 false)),Zw false,Zw !Yj (Zg b 0 1 false)==0]]))) fun (r:AV×Blocks)=>onConsB (Zh r) fun (x:List AV) (r_1:List (List AV))=>cBs x fun b_1 r_2=>cInt .i64 r_2 fun n r_3=>cBool r_3 fun b_2 r_4=>cBool r_4 fun b_3 r_5=>onNil r_5 (onNilB r_1 (Yh .i64 (Yy r) fun n_1=>Zx (chk (decide (Zy b_1≤140737488355328)) (some (Xm [Zq (Xg (Vz (Yd b_1 n b_3))),Zq (Xb (Vz (Yd b_1 n b_3))),Zq (Xk (Vz (Yd b_1 n b_3)))],[[Zp b_1,Zz .i64 (Kerb.RdP.pos (Yd b_1 n b_3)),Zw (n_1==1),Zw (Kerb.RdP.bad (Yd b_1 n b_3))]]))) fun (r:AV×Blocks)=>onConsB (Zh r) fun (x:List AV) (r_6:List (List AV))=>cBs x fun b_4 r_7=>cInt .i64 r_7 fun n r_8=>cBool r_8 fun b_5 r_9=>cBool r_9 fun b_6 r_10=>onNil r_10 (onNilB r_6 (Uy (Yy r) fun cs=>cStr cs fun b_7 r=>cStr r fun b_8 r=>cStr r fun b_9 r=>onNil r (Zx (chk (decide (Zy b_4≤140737488355328)) (some (Zz .i64 (Xv (Zg b_4 n 4 b_5)),[[Zp b_4,Zz .i64 (bif b_6 || !Yj (Zg b_4 n 4 b_5)==0 then n else Xx (Zg b_4 n 4 b_5)),Zw b_5,Zw (b_6 || !Yj (Zg b_4 n 4 b_5)==0)]]))) fun (r:AV×Blocks)=>onConsB (Zh r) fun (x:List AV) (r_11:List (List AV))=>cBs x fun b_10 r_12=>cInt .i64 r_12 fun n r_13=>cBool r_13 fun b_11 r_14=>cBool r_14 fun b_12 r_15=>onNil r_15 (onNilB r_11 (Yh .i64 (Yy r) fun n_2=>Zx (chk (decide (Zy b_10≤140737488355328)) (some (Zp (Wm (Xy b_10 n 8)),[[Zp b_10,Zz .i64 (bif b_12 || !Xw (Xy b_10 n 8)==0 then n else Wf (Xy b_10 n 8)),Zw b_11,Zw (b_12 || !Xw (Xy b_10 n 8)==0)]]))) fun (r:AV×Blocks)=>onConsB (Zh r) fun (x:List AV) (r_16:List (List AV))=>cBs x fun b_13 r_17=>cInt .i64 r_17 fun n r_18=>cBool r_18 fun b_14 r_19=>cBool r_19 fun b_15 r_20=>onNil r_20 (onNilB r_16 (AV.onBs (Yy r) fun b_16=>Zx (chk (decide (Zy b_16≤4611686018427387904)) (some (Zm [Zz .u64 (Yy (Xn b_16)),Zw (Zh (Xn b_16))],[]))) (kT fun vs=>cInt .u64 vs fun n_3 r=>cBool r fun b_17 r=>onNil r (Zx (chk (decide (Zy b_13≤140737488355328)) (some (Zz .i64 (Xv (Zg b_13 n 1 false)),[[Zp b_13,Zz .i64 (bif b_15 || !Yj (Zg b_13 n 1 false)==0 then n else Xx (Zg b_13 n 1 false)),Zw b_14,Zw (b_15 || !Yj (Zg b_13 n 1 false)==0)]]))) fun (r:AV×Blocks)=>onConsB (Zh r) fun (x:List AV) (r_21:List (List AV))=>cBs x fun b_18 r_22=>cInt .i64 r_22 fun n r_23=>cBool r_23 fun b_19 r_24=>cBool r_24 fun b_20 r_25=>onNil r_25 (onNilB r_21 (Yh .i64 (Yy r) fun n_4=>Zx (chk (decide (Zy b_18≤140737488355328)) (some (Zz .i64 (Xv (Zg b_18 n 4 b_19)),[[Zp b_18,Zz .i64 (bif b_20 || !Yj (Zg b_18 n 4 b_19)==0 then n else Xx (Zg b_18 n 4 b_19)),Zw b_19,Zw (b_20 || !Yj (Zg b_18 n 4 b_19)==0)]]))) fun (r:AV×Blocks)=>onConsB (Zh r) fun (x:List AV) (r_26:List (List AV))=>cBs x fun b_21 r_27=>cInt .i64 r_27 fun n r_28=>cBool r_28 fun b_22 r_29=>cBool r_29 fun b_23 r_30=>onNil r_30 (onNilB r_26 (Yh .i64 (Yy r) fun n_5=>Zx (chk (decide (Zy b_21≤140737488355328)) (some (Zq (Wm (Xq b_21 n)),[[Zp b_21,Zz .i64 (bif b_23 || !Xw (Xq b_21 n)==0 then n else Wf (Xq b_21 n)),Zw b_22,Zw (b_23 || !Xw (Xq b_21 n)==0)]]))) fun (r:AV×Blocks)=>onConsB (Zh r) fun (x:List AV) (r_31:List (List AV))=>cBs x fun b_24 r_32=>cInt .i64 r_32 fun n r_33=>cBool r_33 fun b_25 r_34=>cBool r_34 fun b_26 r_35=>onNil r_35 (onNilB r_31 (AV.onStr (Yy r) fun b_27=>Zx (chk (decide (Zy b_24≤140737488355328)) (some (Zq (Wm (Xq b_24 n)),[[Zp b_24,Zz .i64 (bif b_26 || !Xw (Xq b_24 n)==0 then n else Wf (Xq b_24 n)),Zw b_25,Zw (b_26 || !Xw (Xq b_24 n)==0)]]))) fun (r:AV×Blocks)=>onConsB (Zh r) fun (x:List AV) (r_36:List (List AV))=>cBs x fun b_28 r_37=>cInt .i64 r_37 fun n r_38=>cBool r_38 fun b_29 r_39=>cBool r_39 fun b_30 r_40=>onNil r_40 (onNilB r_36 (AV.onStr (Yy r) fun b_31=>Zx (chk (l63 b_7&&l63 b_8&&l63 b_9&&l63 b_27&&l63 b_31&&decide (0≤n_3)&&decide (n_3<18446744073709551616)) (some (Zm [Zp (Xp (Wz (Wj (n_1==1) (Zn b_7 b_8 b_9) n_2 n_3 n_4 n_5 b_27 b_31))),Zz .i64 (Xd (Wz (Wj (n_1==1) (Zn b_7 b_8 b_9) n_2 n_3 n_4 n_5 b_27 b_31)))],[]))) (kT fun vs=>cBs vs fun b_32 r=>cInt .i64 r fun n r=>onNil r (sel b_30 t1 (sel (!n==0) t1 (sel (!b_32==b) t1 (some (Zm [Xm [Zw (n_1==1),Zq b_7,Zq b_8,Zq b_9,Zz .i64 n_2,Zz .u64 n_3,Zz .i64 n_4,Zz .i64 n_5,Zq b_27,Zq b_31],Zz .i64 0],[])))))))))))))))))))))))));sel (decide ((↑(Zy b):Int)>0)) (chk (decide (0<(↑(Zy b):Int))) (sel (decide ((↑(Yp (Wp b (Yz 0) (0:UInt8))):Int)>(↑(Yp (1:UInt8)):Int))) (some (Zm [t2,Zz .i64 7],[])) t0)) t0:Option (AV×Blocks))) (by kernel_rfl) ?_
  delta kT
  try dsimp only [cStr,cBs,cBool,cU8,cInt,cSl,l63]
  have hb:=of_decide_eq_true hpre
  simp only [hpre,↓A0,A0]
  unfold Kerb.decodeTicket
  rw [Kerb.decTicket_ref]
  have hl:∀ p n,(Xy b p n).val.length≤4611686018427387904:=fun p n=>Yn (Kerb.bytes_len b p n) (by omega)
  have hk:∀ q,0≤(Xn q).1∧(Xn q).1<18446744073709551616:=Kerb.keyRead_bd
  have hx:∀ q,(Xq b q).val.length≤40:=Vg b
  have lp:∀ q bd,(Yd b q bd).p.name.length≤40∧(Yd b q bd).p.inst.length≤40∧(Yd b q bd).p.realm.length≤40:=Kerb.rdPrin_len b
  have h7b:¬ (0<b.length)→¬ 1<(Zg b 0 1 false).val:=by
   intro h
   have:b=[]:=List.eq_nil_of_length_eq_zero (by omega)
   subst this
   decide
  have hv:0<b.length→(Zg b 0 1 false).val=((Wp b (Yz 0) 0).toNat:Int):=by
   intro h
   cases b with
   | nil=>simp at h
   | cons c r =>
    have hr:Kerb.room (c::r) 0 1=0:=Kerb.room_zero.2 ⟨by omega,by simp only [List.length_cons];omega,by omega,by simp only [List.length_cons];omega⟩
    unfold Zg
    rw [if_pos hr]
    simp [Kerb.cut,Kerb.valB]
  have fin:=Kerb.decBy_fin (no:=Kerb.noTicket) (enc:=Wz) (b:=b) (rd:=fun b=>((Kerb.rdTicket b).val,(Kerb.rdTicket b).bad)) _ _ rfl (fun x e=>(Zm [Xm [Zw (x).little,Zq (x).client.name,Zq (x).client.inst,Zq (x).client.realm,Zz Zd (x).address,Zz IntKind.u64 (x).session,Zz Zd (x).life,Zz Zd (x).issued,Zq (x).service,Zq (x).inst],Zz Zd e],([]:Blocks)))
  by_cases h:0<b.length
  ·rw [sel_pos (by simp only [decide_eq_true_eq];omega),chk_of (by simp only [decide_eq_true_eq];omega)]
   have hv:=hv h
   by_cases h7:1<(Zg b 0 1 false).val
   ·rw [sel_pos (by rw [hv] at h7;exact decide_eq_true h7),if_pos h7]
    rfl
   rw [sel_neg (by rw [hv] at h7;exact decide_eq_false h7),if_neg h7]
   rw [chk_of (by simp only [decide_eq_true_eq];exact hl _ _),chk_of (by simp only [Yv,decide_eq_true_eq];exact ⟨⟨⟨⟨⟨⟨Yn (lp _ _).1 (by decide),Yn (lp _ _).2.1 (by decide)⟩,Yn (lp _ _).2.2 (by decide)⟩,Yn (hx _) (by decide)⟩,Yn (hx _) (by decide)⟩,(hk _).1⟩,(hk _).2⟩)]
   exact fin
  ·rw [sel_neg (by simp only [decide_eq_false_iff_not];omega),if_neg (h7b h)]
   rw [chk_of (by simp only [decide_eq_true_eq];exact hl _ _),chk_of (by simp only [Yv,decide_eq_true_eq];exact ⟨⟨⟨⟨⟨⟨Yn (lp _ _).1 (by decide),Yn (lp _ _).2.1 (by decide)⟩,Yn (lp _ _).2.2 (by decide)⟩,Yn (hx _) (by decide)⟩,Yn (hx _) (by decide)⟩,(hk _).1⟩,(hk _).2⟩)]
   exact fin
 ·cases h
theorem w94:Walked Tryz.prog G 94 6 sp94:=by
 refine ⟨Tryz.f94,Tryz.func94,by decide +kernel,rfl,fun xs bl r h=> ?_⟩
 unfold sp94 at h
 split at h
 ·rename_i li x y z ad k lf iss sv ins key
  obtain ⟨hpre,h2⟩:=chk_inv h;cases h2
  refine Eq.trans (b:=(Zx (chk (decide (Zy x≤9223372036854775807)&&decide (Zy y≤9223372036854775807)&&decide (Zy z≤9223372036854775807)&&decide (Zy sv≤9223372036854775807)&&decide (Zy ins≤9223372036854775807)&&decide (0≤k)&&decide (k<18446744073709551616)) (some (Zm [Zp (Xp (Wz (Wj li (Zn x y z) ad k lf iss sv ins))),Zz .i64 (Xd (Wz (Wj li (Zn x y z) ad k lf iss sv ins)))],[]))) fun (r:AV×Blocks)=>onNilB (Zh r) (AV.onTup (Yy r) fun vs=>onCons vs fun x r=>AV.onBs x fun b=>onCons r fun x r=>Yh .i64 x fun n=>onNil r (sel (!n==0) (some (Zm [Zp [],Zz .i64 n],[])) (Zx (chk (decide (0≤key)&&decide (key<18446744073709551616)) (some (Zm [Zp (Xp (Kerb.makeBox 1 key b)),Zz .i64 (Xd (Kerb.makeBox 1 key b))],[]))) fun (r:AV×Blocks)=>onNilB (Zh r) (AV.onTup (Yy r) fun vs=>onCons vs fun x r=>AV.onBs x fun b=>onCons r fun x r=>Yh .i64 x fun n=>onNil r (some (Zm [Zp b,Zz .i64 n],[])))))):Option (AV×Blocks))) (by kernel_rfl) ?_
  simp only [Yv,decide_eq_true_eq] at hpre
  obtain ⟨⟨⟨⟨⟨⟨⟨⟨h1,h2⟩,h3⟩,h4⟩,h5⟩,h6⟩,h7⟩,h8⟩,h9⟩:=hpre
  simp only [h1,h2,h3,h4,h5,h6,h7,h8,h9,decide_true,Xj,↓A0,A0]
  unfold Kerb.sealTicket
  generalize Wz _=E
  by_cases he:E.err=0
  ·rw [sel_neg (by simpa using he),if_neg (by simpa using he)]
  ·rw [sel_pos (by simpa using he),if_pos he]
 ·cases h
theorem w95:Walked Tryz.prog G 95 6 sp95:=by
 refine ⟨Tryz.f95,Tryz.func95,by decide +kernel,rfl,fun xs bl r h=> ?_⟩
 unfold sp95 at h
 split at h
 ·rename_i x y z ck tc tm li k
  obtain ⟨hpre,h2⟩:=chk_inv h;cases h2
  refine Eq.trans (b:=(Zx (chk (decide (Zy x≤9223372036854775807)&&decide (Zy y≤9223372036854775807)&&decide (Zy z≤9223372036854775807)) (some (Zm [Zp (Xp (Kerb.encodeAuth (Vw (Zn x y z) ck tc tm) li)),Zz .i64 (Xd (Kerb.encodeAuth (Vw (Zn x y z) ck tc tm) li))],[]))) fun (r:AV×Blocks)=>onNilB (Zh r) (AV.onTup (Yy r) fun vs=>onCons vs fun x r=>AV.onBs x fun b=>onCons r fun x r=>Yh .i64 x fun n=>onNil r (sel (!n==0) (some (Zm [Zp [],Zz .i64 n],[])) (Zx (chk (decide (0≤k)&&decide (k<18446744073709551616)) (some (Zm [Zp (Xp (Kerb.makeBox 2 k b)),Zz .i64 (Xd (Kerb.makeBox 2 k b))],[]))) fun (r:AV×Blocks)=>onNilB (Zh r) (AV.onTup (Yy r) fun vs=>onCons vs fun x r=>AV.onBs x fun b=>onCons r fun x r=>Yh .i64 x fun n=>onNil r (some (Zm [Zp b,Zz .i64 n],[])))))):Option (AV×Blocks))) (by kernel_rfl) ?_
  have hpre':=hpre
  simp only [Yv,decide_eq_true_eq] at hpre
  have c1:(decide (x.length≤9223372036854775807)&&decide (y.length≤9223372036854775807)&&decide (z.length≤9223372036854775807))=true:=by simp;omega
  have c2:(decide (0≤k)&&decide (k<18446744073709551616))=true:=by simp;omega
  simp only [A0,Wk,Wb,Vx,c1,c2]
  unfold Kerb.sealAuth
  by_cases h:(Kerb.encodeAuth (Vw ⟨x,y,z⟩ ck tc tm) li).err=0
  ·rw [sel_neg (by simp [h]),if_neg (by simpa using h)]
  ·rw [sel_pos (by simpa using h),if_pos h]
 ·cases h
theorem w127:Walked Tryz.prog G 127 6 sp127:=by
 refine ⟨Tryz.f127,Tryz.func127,by decide +kernel,rfl,fun xs bl r h=> ?_⟩
 unfold sp127 at h
 split at h
 ·rename_i b kd k
  obtain ⟨hpre,h2⟩:=chk_inv h;cases h2
  refine Eq.trans (b:=(Zx (chk (decide (Zy b≤140737488355328)) (some (Zm [Xm [Zz .i64 (Kerb.Box.kind (Wg (Xu b))),Zz .u64 (Kerb.Box.key (Wg (Xu b))),Zp (Kerb.Box.body (Wg (Xu b)))],Zz .i64 (Kerb.GotBox.n (Xu b)),Zz .i64 (Kerb.GotBox.err (Xu b))],[]))) fun (r:AV×Blocks)=>onNilB (Zh r) (AV.onTup (Yy r) fun vs=>onCons vs fun x r=>Uy x fun cs=>onCons cs fun x r_1=>Yh .i64 x fun n=>onCons r_1 fun x r_2=>Yh .u64 x fun n_1=>onCons r_2 fun x r_3=>AV.onBs x fun b_1=>onNil r_3 (onCons r fun x r=>Yh .i64 x fun n_2=>onCons r fun x r=>Yh .i64 x fun n_3=>onNil r (sel (!n_3==0) (some (Zm [Zp [],Zw false],[])) (sel (!n_2==(↑(Zy b):Int)) (some (Zm [Zp [],Zw false],[])) (sel (!n==kd) (some (Zm [Zp [],Zw false],[])) (sel (!n_1==k) (some (Zm [Zp [],Zw false],[])) (some (Zm [Zp b_1,Zw true],[])))))))):Option (AV×Blocks))) (by kernel_rfl) ?_
  simp only [↓A0,hpre]
  unfold Kerb.openBox
  generalize Xu b=r
  by_cases h1:r.err=0
  case neg=>rw [sel_pos (by simpa using h1),if_pos (.inl h1)]
  rw [sel_neg (by simpa using h1)]
  by_cases h2:r.n=b.length
  case neg=>rw [sel_pos (by simpa using h2),if_pos (.inr (.inl h2))]
  rw [sel_neg (by simpa using h2)]
  by_cases h3:r.box.kind=kd
  case neg=>rw [sel_pos (by simpa using h3),if_pos (.inr (.inr (.inl h3)))]
  rw [sel_neg (by simpa using h3)]
  by_cases h4:r.box.key=k
  case neg=>rw [sel_pos (by simpa using h4),if_pos (.inr (.inr (.inr h4)))]
  rw [sel_neg (by simpa using h4),if_neg (by simp [h1,h2,h3,h4])]
 ·cases h
theorem w129:Walked Tryz.prog G 129 6 sp129:=by
 refine ⟨Tryz.f129,Tryz.func129,by decide +kernel,rfl,fun xs bl r h=> ?_⟩
 unfold sp129 at h
 split at h
 ·rename_i s
  obtain ⟨hpre,h2⟩:=chk_inv h;cases h2
  refine Eq.trans (b:=(sel (!s==[]) (Zx (chk (decide (Zy s≤9223372036854775807)) (some (Zw (Xh s),[]))) fun (r:AV×Blocks)=>onNilB (Zh r) (Vj (Yy r) fun b=>some (Zw b,[]))) (some (Zw false,[])):Option (AV×Blocks))) (by kernel_rfl) ?_
  simp only [A0]
  rw [chk_of hpre]
  simp only [Vy]
  cases s<;>rfl
 ·cases h
set_option maxHeartbeats 4000000 in
theorem w46:Walked Tryz.prog G 46 7 sp46:=by
 refine ⟨Tryz.f46,Tryz.func46,by decide +kernel,rfl,fun xs bl r h=> ?_⟩
 unfold sp46 at h
 split at h
 ·rename_i cu co cv cr lt tn mt cad cfr cis ctm ctk clf ccs cky ckv css ctt cau x y z k v
  obtain ⟨hpre,h2⟩:=chk_inv h;cases h2
  refine Eq.trans (b:=(let t0:Int:=Yb (Zf .i64 (↑(Yp css):Int)) 4;let t1:Int:=Yb (Zf .i64 (↑(Yp cu):Int)) 6;let t2:AV:=Zz .i64 (Zf .i64 (1000+Zf .i64 (Zf .i64 (↑(Yp cis):Int)*8)));Zx (chk (decide (0≤t1)&&decide (t1≤4611686018427387904)) (some (Xm [Zq (Xg (Wh t1)),Zq (Xb (Wh t1)),Zq (Xk (Wh t1))],[]))) (kA fun cs=>onCons cs fun x_1 r=>AV.onStr x_1 fun b=>onCons r fun x_2 r=>AV.onStr x_2 fun b_1=>onCons r fun x_3 r=>AV.onStr x_3 fun b_2=>onNil r (Zx (chk (decide (0≤t0)&&decide (t0≤1000)) (some (Zz .u64 (Kerb.session t0),[]))) (kI .u64 fun n=>Zx (sel (Vv (Yz (Yb (↑(Yp cv):Int) (↑(Yp (7:UInt8)):Int)))==(6:UInt8)) (some [Zz .u64 k,Zz .i64 v,Zk cu,Zk co,Zk cv,Zk cr,Zw lt,Zw tn,Zw mt,Zk cad,Zk cfr,Zk cis,Zk ctm,Zk ctk,Zk clf,Zz .u32 ccs,Zk cky,Zk ckv,Zk css,Zz .u16 ctt,Zz .u16 cau,Zq x,Zq y,Zq z,Zw false,Zw false,Zz .i64 0,Zq [],Zp [],Zp [],Zw tn,Zq b,Zq b_1,Zq b_2,Zz .i64 (Yb (Zf .i64 (↑(Yp cad):Int)) 3),Zz .u64 n,Zz .i64 (Zf .i64 (Vf (Zf .i64 (↑(Yp clf):Int)) 4)),t2,Zq x,Zq [(111:UInt8),(116:UInt8),(104:UInt8),(101:UInt8),(114:UInt8)]]) (some [Zz .u64 k,Zz .i64 v,Zk cu,Zk co,Zk cv,Zk cr,Zw lt,Zw tn,Zw mt,Zk cad,Zk cfr,Zk cis,Zk ctm,Zk ctk,Zk clf,Zz .u32 ccs,Zk cky,Zk ckv,Zk css,Zz .u16 ctt,Zz .u16 cau,Zq x,Zq y,Zq z,Zw false,Zw false,Zz .i64 0,Zq [],Zp [],Zp [],Zw tn,Zq b,Zq b_1,Zq b_2,Zz .i64 (Yb (Zf .i64 (↑(Yp cad):Int)) 3),Zz .u64 n,Zz .i64 (Zf .i64 (Vf (Zf .i64 (↑(Yp clf):Int)) 4)),t2,Zq x,Zq y])) fun l=>cInt .u64 l fun n r=>cInt .i64 r fun n_1 r=>cU8 r fun b r=>cU8 r fun b_3 r=>let t3:Int:=Yb (Zf .i64 (↑(Yp b_3):Int)) 6;cU8 r fun b_4 r=>cU8 r fun b_5 r=>cBool r fun b_6 r=>cBool r fun b_7 r=>cBool r fun b_8 r=>cU8 r fun b_9 r=>cU8 r fun b_10 r=>cU8 r fun b_11 r=>cU8 r fun b_12 r=>let t4:List AV:=[Zz .i64 (Zf .i64 (1000+Zf .i64 (Zf .i64 (↑(Yp b_12):Int)*8)))];cU8 r fun b_13 r=>cU8 r fun b_14 r=>cInt .u32 r fun n_2 r=>let t5:List AV:=Zz .i64 (Zf .i64 n_2)::Zz .i64 (Yb (Zf .i64 (↑(Yp b_13):Int)) 3)::t4;cU8 r fun b_15 r=>cU8 r fun b_16 r=>cU8 r fun b_17 r=>cInt .u16 r fun n_3 r=>cInt .u16 r fun n_4 r=>cStr r fun b_18 r=>cStr r fun b_19 r=>cStr r fun b_20 r=>cBool r fun b_21 r=>cBool r fun b_22 r=>cInt .i64 r fun n_5 r=>cStr r fun b_23 r=>cBs r fun b_24 r=>cBs r fun b_25 r=>cBool r fun b_26 r=>cStr r fun b_27 r=>cStr r fun b_28 r=>cStr r fun b_29 r=>cInt .i64 r fun n_6 r=>cInt .u64 r fun n_7 r=>cInt .i64 r fun n_8 r=>cInt .i64 r fun n_9 r=>cStr r fun b_30 r=>cStr r fun b_31 r=>onNil r (Zx (sel (Vv (Yz (Yb (↑(Yp b_3):Int) (↑(Yp (8:UInt8)):Int)))==(7:UInt8)) (Zx (chk (decide (0≤t3)&&decide (t3≤4611686018427387904)) (some (Xm [Zq (Xg (Wh t3)),Zq (Xb (Wh t3)),Zq (Xk (Wh t3))],[]))) (kA fun cs=>cStr cs fun b_32 r=>cStr r fun b_33 r=>cStr r fun b_34 r=>onNil r (some (Zz .u64 n::Zz .i64 n_1::Zk b::Zk b_3::Zk b_4::Zk b_5::Zw b_6::Zw b_7::Zw b_8::Zk b_9::Zk b_10::Zk b_11::Zk b_12::Zk b_13::Zk b_14::Zz .u32 n_2::Zk b_15::Zk b_16::Zk b_17::Zz .u16 n_3::Zz .u16 n_4::Zq b_18::Zq b_19::Zq b_20::Zw b_21::Zw b_22::Zz .i64 n_5::Zq b_23::Zp b_24::Zp b_25::Zw b_26::Zq b_27::Zq b_28::Zq b_29::Zz .i64 n_6::Zz .u64 n_7::Zz .i64 n_8::Zz .i64 n_9::Zq b_30::Zq b_31::Zq b_32::Zq b_33::Zq b_34::t5)))) (some (Zz .u64 n::Zz .i64 n_1::Zk b::Zk b_3::Zk b_4::Zk b_5::Zw b_6::Zw b_7::Zw b_8::Zk b_9::Zk b_10::Zk b_11::Zk b_12::Zk b_13::Zk b_14::Zz .u32 n_2::Zk b_15::Zk b_16::Zk b_17::Zz .u16 n_3::Zz .u16 n_4::Zq b_18::Zq b_19::Zq b_20::Zw b_21::Zw b_22::Zz .i64 n_5::Zq b_23::Zp b_24::Zp b_25::Zw b_26::Zq b_27::Zq b_28::Zq b_29::Zz .i64 n_6::Zz .u64 n_7::Zz .i64 n_8::Zz .i64 n_9::Zq b_30::Zq b_31::Zq b_27::Zq b_28::Zq b_29::t5))) fun l=>cInt .u64 l fun n r=>cInt .i64 r fun n_10 r=>cU8 r fun b r=>cU8 r fun b_32 r=>cU8 r fun b_33 r=>cU8 r fun b_34 r=>cBool r fun b_35 r=>cBool r fun b_36 r=>cBool r fun b_37 r=>cU8 r fun b_38 r=>cU8 r fun b_39 r=>cU8 r fun b_40 r=>cU8 r fun b_41 r=>cU8 r fun b_42 r=>cU8 r fun b_43 r=>cInt .u32 r fun n_11 r=>cU8 r fun b_44 r=>cU8 r fun b_45 r=>cU8 r fun b_46 r=>cInt .u16 r fun n_12 r=>cInt .u16 r fun n_13 r=>cStr r fun b_47 r=>cStr r fun b_48 r=>cStr r fun b_49 r=>cBool r fun b_50 r=>cBool r fun b_51 r=>cInt .i64 r fun n_14 r=>cStr r fun b_52 r=>cBs r fun b_53 r=>cBs r fun b_54 r=>cBool r fun b_55 r=>cStr r fun b_56 r=>cStr r fun b_57 r=>cStr r fun b_58 r=>cInt .i64 r fun n_15 r=>cInt .u64 r fun n_16 r=>cInt .i64 r fun n_17 r=>cInt .i64 r fun n_18 r=>cStr r fun b_59 r=>cStr r fun b_60 r=>cStr r fun b_61 r=>cStr r fun b_62 r=>cStr r fun b_63 r=>cInt .i64 r fun n_19 r=>cInt .i64 r fun n_20 r=>cInt .i64 r fun n_21 r=>onNil r (Zx (chk (l63 b_56&&l63 b_57&&l63 b_58&&l63 b_59&&l63 b_60&&decide (0≤n_16)&&decide (n_16<18446744073709551616)&&decide (0≤n)&&decide (n<18446744073709551616)) (some (Zm [Zp (Xp (Kerb.sealTicket (Wj b_55 (Zn b_56 b_57 b_58) n_15 n_16 n_17 n_18 b_59 b_60) n)),Zz .i64 (Xd (Kerb.sealTicket (Wj b_55 (Zn b_56 b_57 b_58) n_15 n_16 n_17 n_18 b_59 b_60) n))],[]))) (kT fun vs=>cBs vs fun b_64 r=>cInt .i64 r fun n r=>onNil r (Zx (chk (l63 b_61&&l63 b_62&&l63 b_63&&decide (0≤n_16)&&decide (n_16<18446744073709551616)) (some (Zm [Zp (Xp (Kerb.sealAuth (Vw (Zn b_61 b_62 b_63) n_19 n_20 n_21) b_35 n_16)),Zz .i64 (Xd (Kerb.sealAuth (Vw (Zn b_61 b_62 b_63) n_19 n_20 n_21) b_35 n_16))],[]))) (kT fun vs=>cBs vs fun b_65 r=>cInt .i64 r fun n r=>onNil r (Zx (sel (Yb n_12 16==15) (Zx (chk (decide (Zy b_64≤1000000)&&decide (0≤Zf .u16 (Vf n_12 16))&&decide (Zf .u16 (Vf n_12 16)≤65535)) (some (Zp (Wq b_64 (Zf .u16 (Vf n_12 16))),[]))) (kB fun b_66=>some [Zk b,Zk b_32,Zk b_33,Zk b_34,Zw b_35,Zw b_36,Zw b_37,Zk b_38,Zk b_39,Zk b_40,Zk b_41,Zk b_42,Zk b_43,Zz .u32 n_11,Zk b_44,Zk b_45,Zk b_46,Zz .u16 n_12,Zz .u16 n_13,Zw b_50,Zw b_51,Zz .i64 n_14,Zq b_52,Zp b_53,Zp b_54,Zp b_65,Zw b_35,Zw b_37,Zz .i64 n_10,Zq b_49,Zp b_66,Zp b_65])) (some [Zk b,Zk b_32,Zk b_33,Zk b_34,Zw b_35,Zw b_36,Zw b_37,Zk b_38,Zk b_39,Zk b_40,Zk b_41,Zk b_42,Zk b_43,Zz .u32 n_11,Zk b_44,Zk b_45,Zk b_46,Zz .u16 n_12,Zz .u16 n_13,Zw b_50,Zw b_51,Zz .i64 n_14,Zq b_52,Zp b_53,Zp b_54,Zp b_65,Zw b_35,Zw b_37,Zz .i64 n_10,Zq b_49,Zp b_64,Zp b_65])) fun l=>cU8 l fun b r=>cU8 r fun b_66 r=>cU8 r fun b_67 r=>cU8 r fun b_68 r=>cBool r fun b_69 r=>cBool r fun b_70 r=>cBool r fun b_71 r=>cU8 r fun b_72 r=>cU8 r fun b_73 r=>cU8 r fun b_74 r=>cU8 r fun b_75 r=>cU8 r fun b_76 r=>cU8 r fun b_77 r=>cInt .u32 r fun n r=>cU8 r fun b_78 r=>cU8 r fun b_79 r=>cU8 r fun b_80 r=>cInt .u16 r fun n_22 r=>cInt .u16 r fun n_23 r=>cBool r fun b_81 r=>cBool r fun b_82 r=>cInt .i64 r fun n_24 r=>cStr r fun b_83 r=>cBs r fun b_84 r=>cBs r fun b_85 r=>cBs r fun b_86 r=>cBool r fun b_87 r=>cBool r fun b_88 r=>cInt .i64 r fun n_25 r=>cStr r fun b_89 r=>cBs r fun b_90 r=>cBs r fun b_91 r=>onNil r (Zx (sel (Yb n_23 16==15) (Zx (chk (decide (Zy b_86≤1000000)&&decide (0≤Zf .u16 (Vf n_23 16))&&decide (Zf .u16 (Vf n_23 16)≤65535)) (some (Zp (Wq b_86 (Zf .u16 (Vf n_23 16))),[]))) (kB fun b_92=>some [Zk b,Zk b_66,Zk b_67,Zk b_68,Zw b_69,Zw b_70,Zw b_71,Zk b_72,Zk b_73,Zk b_74,Zk b_75,Zk b_76,Zk b_77,Zz .u32 n,Zk b_78,Zk b_79,Zk b_80,Zz .u16 n_22,Zz .u16 n_23,Zw b_81,Zw b_82,Zz .i64 n_24,Zq b_83,Zp b_84,Zp b_85,Zw b_87,Zw b_88,Zz .i64 n_25,Zq b_89,Zp b_90,Zp b_92])) (some [Zk b,Zk b_66,Zk b_67,Zk b_68,Zw b_69,Zw b_70,Zw b_71,Zk b_72,Zk b_73,Zk b_74,Zk b_75,Zk b_76,Zk b_77,Zz .u32 n,Zk b_78,Zk b_79,Zk b_80,Zz .u16 n_22,Zz .u16 n_23,Zw b_81,Zw b_82,Zz .i64 n_24,Zq b_83,Zp b_84,Zp b_85,Zw b_87,Zw b_88,Zz .i64 n_25,Zq b_89,Zp b_90,Zp b_91])) fun l=>cU8 l fun b r=>cU8 r fun b_92 r=>cU8 r fun b_93 r=>cU8 r fun b_94 r=>cBool r fun b_95 r=>cBool r fun b_96 r=>cBool r fun b_97 r=>cU8 r fun b_98 r=>cU8 r fun b_99 r=>cU8 r fun b_100 r=>cU8 r fun b_101 r=>cU8 r fun b_102 r=>cU8 r fun b_103 r=>cInt .u32 r fun n r=>cU8 r fun b_104 r=>cU8 r fun b_105 r=>cU8 r fun b_106 r=>cInt .u16 r fun n_26 r=>cInt .u16 r fun n_27 r=>cBool r fun b_107 r=>cBool r fun b_108 r=>cInt .i64 r fun n_28 r=>cStr r fun b_109 r=>cBs r fun b_110 r=>cBs r fun b_111 r=>cBool r fun b_112 r=>cBool r fun b_113 r=>cInt .i64 r fun n_29 r=>cStr r fun b_114 r=>cBs r fun b_115 r=>cBs r fun b_116 r=>let t6:List AV:=[Zw b_113,Zz .i64 n_29,Zq b_114,Zp b_115,Zp b_116];onNil r (Zx (sel (Yb n_27 16==14) (some (Zk b::Zk b_92::Zk b_93::Zk b_94::Zw b_95::Zw b_96::Zw b_97::Zk b_98::Zk b_99::Zk b_100::Zk b_101::Zk b_102::Zk b_103::Zz .u32 n::Zk b_104::Zk b_105::Zk b_106::Zz .u16 n_26::Zz .u16 n_27::Zw b_107::Zw b_108::Zz .i64 n_28::Zq b_109::Zp b_110::Zp b_111::(Zw !b_112)::t6)) (some (Zk b::Zk b_92::Zk b_93::Zk b_94::Zw b_95::Zw b_96::Zw b_97::Zk b_98::Zk b_99::Zk b_100::Zk b_101::Zk b_102::Zk b_103::Zz .u32 n::Zk b_104::Zk b_105::Zk b_106::Zz .u16 n_26::Zz .u16 n_27::Zw b_107::Zw b_108::Zz .i64 n_28::Zq b_109::Zp b_110::Zp b_111::Zw b_112::t6))) fun l=>cU8 l fun b r=>cU8 r fun b_117 r=>cU8 r fun b_118 r=>cU8 r fun b_119 r=>cBool r fun b_120 r=>cBool r fun b_121 r=>cBool r fun b_122 r=>cU8 r fun b_123 r=>cU8 r fun b_124 r=>cU8 r fun b_125 r=>cU8 r fun b_126 r=>cU8 r fun b_127 r=>cU8 r fun b_128 r=>cInt .u32 r fun n r=>cU8 r fun b_129 r=>cU8 r fun b_130 r=>cU8 r fun b_131 r=>cInt .u16 r fun n_30 r=>cInt .u16 r fun n_31 r=>cBool r fun b_132 r=>cBool r fun b_133 r=>cInt .i64 r fun n_32 r=>cStr r fun b_134 r=>cBs r fun b_135 r=>cBs r fun b_136 r=>cBool r fun b_137 r=>cBool r fun b_138 r=>cInt .i64 r fun n_33 r=>cStr r fun b_139 r=>cBs r fun b_140 r=>cBs r fun b_141 r=>onNil r (Zx (sel (Vv (Yz (Yb (↑(Yp b_130):Int) (↑(Yp (16:UInt8)):Int)))==(15:UInt8)) (some [Zk b,Zk b_117,Zk b_118,Zk b_119,Zw b_120,Zw b_121,Zw b_122,Zk b_123,Zk b_124,Zk b_125,Zk b_126,Zk b_127,Zk b_128,Zz .u32 n,Zk b_129,Zk b_130,Zk b_131,Zz .u16 n_30,Zz .u16 n_31,Zw b_132,Zw b_133,Zz .i64 n_32,Zq b_134,Zp b_135,Zp b_136,Zw b_137,Zw b_138,Zz .i64 (Zf .i64 (n_33+1)),Zq b_139,Zp b_140,Zp b_141]) (some [Zk b,Zk b_117,Zk b_118,Zk b_119,Zw b_120,Zw b_121,Zw b_122,Zk b_123,Zk b_124,Zk b_125,Zk b_126,Zk b_127,Zk b_128,Zz .u32 n,Zk b_129,Zk b_130,Zk b_131,Zz .u16 n_30,Zz .u16 n_31,Zw b_132,Zw b_133,Zz .i64 n_32,Zq b_134,Zp b_135,Zp b_136,Zw b_137,Zw b_138,Zz .i64 n_33,Zq b_139,Zp b_140,Zp b_141])) fun l=>cU8 l fun b r=>cU8 r fun b r=>cU8 r fun b r=>cU8 r fun b r=>cBool r fun b_142 r=>cBool r fun b_143 r=>cBool r fun b_144 r=>cU8 r fun b_145 r=>cU8 r fun b_146 r=>cU8 r fun b_147 r=>cU8 r fun b_148 r=>cU8 r fun b_149 r=>cU8 r fun b_150 r=>cInt .u32 r fun n r=>cU8 r fun b_151 r=>cU8 r fun b_152 r=>cU8 r fun b_153 r=>cInt .u16 r fun n r=>cInt .u16 r fun n r=>cBool r fun b_154 r=>cBool r fun b_155 r=>cInt .i64 r fun n r=>cStr r fun b_156 r=>cBs r fun b_157 r=>cBs r fun b_158 r=>cBool r fun b_159 r=>cBool r fun b_160 r=>cInt .i64 r fun n_34 r=>cStr r fun b_161 r=>cBs r fun b_162 r=>cBs r fun b_163 r=>onNil r (Zx (sel (Vv (Yz (Yb (↑(Yp b):Int) (↑(Yp (16:UInt8)):Int)))==(15:UInt8)) (some [Zw b_154,Zw b_155,Zz .i64 n,Zq b_156,Zp b_157,Zp b_158,Zw b_159,Zw b_160,Zz .i64 n_34,Zq [(67:UInt8),(65:UInt8),(77:UInt8)],Zp b_162,Zp b_163]) (some [Zw b_154,Zw b_155,Zz .i64 n,Zq b_156,Zp b_157,Zp b_158,Zw b_159,Zw b_160,Zz .i64 n_34,Zq b_161,Zp b_162,Zp b_163])) fun l=>cBool l fun b r=>cBool r fun b r=>cInt .i64 r fun n r=>cStr r fun b r=>cBs r fun b r=>cBs r fun b r=>cBool r fun b r=>cBool r fun b_164 r=>cInt .i64 r fun n r=>cStr r fun b_165 r=>cBs r fun b_166 r=>cBs r fun b_167 r=>onNil r (some (Xm [Zw b,Zw b_164,Zz .i64 n,Zq b_165,Zp b_166,Zp b_167],[]))))))))))))))):Option (AV×Blocks))) (by kernel_rfl) ?_
  delta kT kA kB kI
  try dsimp only [cStr,cBs,cBool,cU8,cInt,cSl,l63]
  simp only [Yv,decide_eq_true_eq] at hpre
  obtain ⟨⟨⟨⟨⟨⟨⟨⟨⟨⟨⟨l1,l2⟩,l3⟩,hk⟩,v0⟩,v1⟩,c0⟩,c1⟩,t0⟩,t1⟩,a0⟩,a1⟩:=hpre
  have hk:=Kerb.isU64_iff.1 hk
  have bcu:=Wu cu
  have bco:=Wu co
  have bcs:=Wu css
  have bca:=Wu cad
  have bci:=Wu cis
  have bct:=Wu ctm
  have bck:=Wu ctk
  have bcl:=Wu clf
  have f1:Yb (Yx cu) 6=Yx cu % 6:=Ym bcu.1
  have f2:Yb (Yx co) 6=Yx co % 6:=Ym bco.1
  have f3:Yb (Yx css) 4=Yx css % 4:=Ym bcs.1
  have f4:Yb (Yx cad) 3=Yx cad % 3:=Ym bca.1
  have f5:Zf .i64 (1000+Zf .i64 (Yx cis*8))=1000+Yx cis*8:=by rw [wrap_i64 (n:=Yx cis*8) (by omega) (by omega)];exact wrap_i64 (by omega) (by omega)
  have f6:Zf .i64 (1000+Zf .i64 (Yx ctm*8))=1000+Yx ctm*8:=by rw [wrap_i64 (n:=Yx ctm*8) (by omega) (by omega)];exact wrap_i64 (by omega) (by omega)
  have f7:Yb (Yx ctk) 3=Yx ctk % 3:=Ym bck.1
  have f8:Zf .i64 (Vf (Yx clf) 4)=Yx clf / 4:=by rw [Uu bcl.1];exact wrap_i64 (by omega) (by omega)
  have f9:Zf .i64 ccs=ccs:=wrap_i64 (by omega) (by omega)
  have fa:Zf .i64 (v+1)=v+1:=wrap_i64 (by omega) (by omega)
  have fb:Yb ctt 16=ctt % 16:=Ym (by omega)
  have fc:Yb cau 16=cau % 16:=Ym (by omega)
  have fd:Zf .u16 (Vf ctt 16)=ctt / 16:=by rw [Uu (by omega)];rw [Kerb.wrap_u16];omega
  have fe:Zf .u16 (Vf cau 16)=cau / 16:=by rw [Uu (by omega)];rw [Kerb.wrap_u16];omega
  have g1:(decide ((0:Int)≤Yx cu % 6)&&decide (Yx cu % 6≤4611686018427387904))=true:=by simp;omega
  have g2:(decide ((0:Int)≤Yx co % 6)&&decide (Yx co % 6≤4611686018427387904))=true:=by simp;omega
  have g3:(decide ((0:Int)≤Yx css % 4)&&decide (Yx css % 4≤1000))=true:=by simp;omega
  have g4:(decide ((0:Int)≤ctt / 16)&&decide (ctt / 16≤65535))=true:=by simp;omega
  have g5:(decide ((0:Int)≤cau / 16)&&decide (cau / 16≤65535))=true:=by simp;omega
  have u1:(Vv (Yz (Yb (cv.toNat:Int) ((7:UInt8).toNat:Int)))==(6:UInt8))=decide (cv.toNat % 7=6):=by
   have h7:Yz (Yb (cv.toNat:Int) ((7:UInt8).toNat:Int))=cv.toNat % 7:=Kerb.tmod_u8 cv 7 (by omega)
   rw [h7];exact Kerb.u8_beq (k:=6) (by omega) (by decide)
  have u2:(Vv (Yz (Yb (co.toNat:Int) ((8:UInt8).toNat:Int)))==(7:UInt8))=decide (co.toNat % 8=7):=by
   have h7:Yz (Yb (co.toNat:Int) ((8:UInt8).toNat:Int))=co.toNat % 8:=Kerb.tmod_u8 co 8 (by omega)
   rw [h7];exact Kerb.u8_beq (k:=7) (by omega) (by decide)
  have u3:(Vv (Yz (Yb (ckv.toNat:Int) ((16:UInt8).toNat:Int)))==(15:UInt8))=decide (ckv.toNat % 16=15):=by
   have h7:Yz (Yb (ckv.toNat:Int) ((16:UInt8).toNat:Int))=ckv.toNat % 16:=Kerb.tmod_u8 ckv 16 (by omega)
   rw [h7];exact Kerb.u8_beq (k:=15) (by omega) (by decide)
  have u4:(Vv (Yz (Yb (cr.toNat:Int) ((16:UInt8).toNat:Int)))==(15:UInt8))=decide (cr.toNat % 16=15):=by
   have h7:Yz (Yb (cr.toNat:Int) ((16:UInt8).toNat:Int))=cr.toNat % 16:=Kerb.tmod_u8 cr 16 (by omega)
   rw [h7];exact Kerb.u8_beq (k:=15) (by omega) (by decide)
  obtain ⟨W,hW⟩:∃ x,Wh (Yx cu % 6)=x:=⟨_,rfl⟩
  obtain ⟨E,hE⟩:∃ x,Kerb.session (Yx css % 4)=x:=⟨_,rfl⟩
  obtain ⟨IN,hIN⟩:∃ q,(if cv.toNat % 7=6 then ([111,116,104,101,114]:List UInt8) else y)=q:=⟨_,rfl⟩
  obtain ⟨V,hV⟩:∃ q,(if co.toNat % 8=7 then Wh (Yx co % 6) else W)=q:=⟨_,rfl⟩
  have hT:Kerb.Case.x (Xz cu co cv cr lt tn mt cad cfr cis ctm ctk clf ccs cky ckv css ctt cau) ⟨x,y,z⟩ k=(Kerb.sealTicket ⟨tn,W,Yx cad % 3,E,Yx clf / 4,1000+Yx cis*8,x,IN⟩ k).val:=by rw [← hW,← hE,← hIN];rfl
  have hA:Kerb.Case.y (Xz cu co cv cr lt tn mt cad cfr cis ctm ctk clf ccs cky ckv css ctt cau)=(Kerb.sealAuth ⟨V,ccs,Yx ctk % 3,1000+Yx ctm*8⟩ lt E).val:=by rw [← hV,← hW,← hE];rfl
  obtain ⟨X,hX⟩:∃ q,Kerb.Case.x (Xz cu co cv cr lt tn mt cad cfr cis ctm ctk clf ccs cky ckv css ctt cau) ⟨x,y,z⟩ k=q:=⟨_,rfl⟩
  obtain ⟨Y,hY⟩:∃ q,Kerb.Case.y (Xz cu co cv cr lt tn mt cad cfr cis ctm ctk clf ccs cky ckv css ctt cau)=q:=⟨_,rfl⟩
  have hR:Kerb.Case.req (Xz cu co cv cr lt tn mt cad cfr cis ctm ctk clf ccs cky ckv css ctt cau) ⟨x,y,z⟩ k v=⟨if cau % 16=14 then !lt else lt,mt,if ckv.toNat % 16=15 then v+1 else v,if cr.toNat % 16=15 then [67,65,77] else z,if ctt % 16=15 then Wq X (ctt / 16) else X,if cau % 16=15 then Wq Y (cau / 16) else Y⟩:=by rw [← hX,← hY];rfl
  rw [hX] at hT
  rw [hY] at hA
  have lW:W.name.length≤9223372036854775807∧W.inst.length≤9223372036854775807∧W.realm.length≤9223372036854775807:=by rw [← hW];exact Kerb.user_dec _
  have lV:V.name.length≤9223372036854775807∧V.inst.length≤9223372036854775807∧V.realm.length≤9223372036854775807:=by
   rw [← hV]
   split
   ·exact Kerb.user_dec _
   ·exact lW
  have lE:0≤E∧E<18446744073709551616:=by rw [← hE];exact Kerb.session_bd2 _
  have lI:IN.length≤9223372036854775807:=by
   rw [← hIN]
   split
   ·simp
   ·exact l2
  have lX:X.length≤1000000:=by rw [hT];have:=Kerb.sealTicket_len ⟨tn,W,Yx cad % 3,E,Yx clf / 4,1000+Yx cis*8,x,IN⟩ k;omega
  have lY:Y.length≤1000000:=by rw [hA];have:=Kerb.sealAuth_len ⟨V,ccs,Yx ctk % 3,1000+Yx ctm*8⟩ lt E;omega
  rw [hR]
  simp (config:={maxSteps:=10000000}) only [Wd,f1,f2,f3,f4,f5,f6,f7,f8,f9,fa,fb,fc,fd,fe,g1,g2,g3,g4,g5,u1,u2,u3,u4,hW,hE,↓sInt,↓sU8,↓sBool,↓sStr,↓sBs,↓sSl,↓sAgg,↓sTup,↓sCons,↓sNil,↓sNilB,↓sChk,↓sChkBind,↓sSome]
  refine bind_via (fun ls=>ls=[Zz IntKind.u64 k,Zz Zd v,Zk cu,Zk co,Zk cv,Zk cr,Zw lt,Zw tn,Zw mt,Zk cad,Zk cfr,Zk cis,Zk ctm,Zk ctk,Zk clf,Zz Uw ccs,Zk cky,Zk ckv,Zk css,Zz Xf ctt,Zz Xf cau,Zq x,Zq y,Zq z,Zw false,Zw false,Zz Zd 0,Zq [],Zp [],Zp [],Zw tn,Zq W.name,Zq W.inst,Zq W.realm,Zz Zd (Yx cad % 3),Zz IntKind.u64 E,Zz Zd (Yx clf / 4),Zz Zd (1000+Yx cis*8),Zq x,Zq IN]) ⟨_,?_,rfl⟩ ?_
  ·rw [← hIN]
   by_cases h:cv.toNat % 7=6
   ·rw [if_pos h,decide_eq_true h];rfl
   ·rw [if_neg h,decide_eq_false h];rfl
  rintro _ rfl
  simp (config:={maxSteps:=10000000}) only [Wd,f1,f2,f3,f4,f5,f6,f7,f8,f9,fa,fb,fc,fd,fe,g1,g2,g3,g4,g5,u1,u2,u3,u4,↓sInt,↓sU8,↓sBool,↓sStr,↓sBs,↓sSl,↓sAgg,↓sTup,↓sCons,↓sNil,↓sNilB,↓sChk,↓sChkBind,↓sSome]
  refine bind_via (fun ls=>ls=[Zz IntKind.u64 k,Zz Zd v,Zk cu,Zk co,Zk cv,Zk cr,Zw lt,Zw tn,Zw mt,Zk cad,Zk cfr,Zk cis,Zk ctm,Zk ctk,Zk clf,Zz Uw ccs,Zk cky,Zk ckv,Zk css,Zz Xf ctt,Zz Xf cau,Zq x,Zq y,Zq z,Zw false,Zw false,Zz Zd 0,Zq [],Zp [],Zp [],Zw tn,Zq W.name,Zq W.inst,Zq W.realm,Zz Zd (Yx cad % 3),Zz IntKind.u64 E,Zz Zd (Yx clf / 4),Zz Zd (1000+Yx cis*8),Zq x,Zq IN,Zq V.name,Zq V.inst,Zq V.realm,Zz Zd ccs,Zz Zd (Yx ctk % 3),Zz Zd (1000+Yx ctm*8)]) ⟨_,?_,rfl⟩ ?_
  ·rw [← hV]
   by_cases h:co.toNat % 8=7
   ·rw [if_pos h,decide_eq_true h];rfl
   ·rw [if_neg h,decide_eq_false h];rfl
  rintro _ rfl
  simp (config:={maxSteps:=10000000}) only [l1,lW,lV,lE,lI,hk,decide_true,Xj,← hT,← hA,Wd,f1,f2,f3,f4,f5,f6,f7,f8,f9,fa,fb,fc,fd,fe,g1,g2,g3,g4,g5,u1,u2,u3,u4,↓sInt,↓sU8,↓sBool,↓sStr,↓sBs,↓sSl,↓sAgg,↓sTup,↓sCons,↓sNil,↓sNilB,↓sChk,↓sChkBind,↓sSome]
  refine bind_via (fun ls=>ls=[Zk cu,Zk co,Zk cv,Zk cr,Zw lt,Zw tn,Zw mt,Zk cad,Zk cfr,Zk cis,Zk ctm,Zk ctk,Zk clf,Zz Uw ccs,Zk cky,Zk ckv,Zk css,Zz Xf ctt,Zz Xf cau,Zw false,Zw false,Zz Zd 0,Zq [],Zp [],Zp [],Zp Y,Zw lt,Zw mt,Zz Zd v,Zq z,Zp (if ctt % 16=15 then Wq X (ctt / 16) else X),Zp Y]) ⟨_,?_,rfl⟩ ?_
  ·by_cases h:ctt % 16=15
   ·rw [if_pos h,sel_pos (by simpa using h),chk_of (by simp only [lX,g4,decide_true,Bool.true_and])]
   ·rw [if_neg h,sel_neg (by simpa using h)]
  rintro _ rfl
  simp (config:={maxSteps:=10000000}) only [Wd,f1,f2,f3,f4,f5,f6,f7,f8,f9,fa,fb,fc,fd,fe,g1,g2,g3,g4,g5,u1,u2,u3,u4,↓sInt,↓sU8,↓sBool,↓sStr,↓sBs,↓sSl,↓sAgg,↓sTup,↓sCons,↓sNil,↓sNilB,↓sChk,↓sChkBind,↓sSome]
  refine bind_via (fun ls=>ls=[Zk cu,Zk co,Zk cv,Zk cr,Zw lt,Zw tn,Zw mt,Zk cad,Zk cfr,Zk cis,Zk ctm,Zk ctk,Zk clf,Zz Uw ccs,Zk cky,Zk ckv,Zk css,Zz Xf ctt,Zz Xf cau,Zw false,Zw false,Zz Zd 0,Zq [],Zp [],Zp [],Zw lt,Zw mt,Zz Zd v,Zq z,Zp (if ctt % 16=15 then Wq X (ctt / 16) else X),Zp (if cau % 16=15 then Wq Y (cau / 16) else Y)]) ⟨_,?_,rfl⟩ ?_
  ·by_cases h:cau % 16=15
   ·rw [if_pos h,sel_pos (by simpa using h),chk_of (by simp only [lY,g5,decide_true,Bool.true_and])]
   ·rw [if_neg h,sel_neg (by simpa using h)]
  rintro _ rfl
  simp (config:={maxSteps:=10000000}) only [Wd,f1,f2,f3,f4,f5,f6,f7,f8,f9,fa,fb,fc,fd,fe,g1,g2,g3,g4,g5,u1,u2,u3,u4,↓sInt,↓sU8,↓sBool,↓sStr,↓sBs,↓sSl,↓sAgg,↓sTup,↓sCons,↓sNil,↓sNilB,↓sChk,↓sChkBind,↓sSome]
  refine bind_via (fun ls=>ls=[Zk cu,Zk co,Zk cv,Zk cr,Zw lt,Zw tn,Zw mt,Zk cad,Zk cfr,Zk cis,Zk ctm,Zk ctk,Zk clf,Zz Uw ccs,Zk cky,Zk ckv,Zk css,Zz Xf ctt,Zz Xf cau,Zw false,Zw false,Zz Zd 0,Zq [],Zp [],Zp [],Zw (if cau % 16=14 then !lt else lt),Zw mt,Zz Zd v,Zq z,Zp (if ctt % 16=15 then Wq X (ctt / 16) else X),Zp (if cau % 16=15 then Wq Y (cau / 16) else Y)]) ⟨_,?_,rfl⟩ ?_
  ·by_cases h:cau % 16=14
   ·rw [if_pos h,sel_pos (by simpa using h)]
   ·rw [if_neg h,sel_neg (by simpa using h)]
  rintro _ rfl
  simp (config:={maxSteps:=10000000}) only [Wd,f1,f2,f3,f4,f5,f6,f7,f8,f9,fa,fb,fc,fd,fe,g1,g2,g3,g4,g5,u1,u2,u3,u4,↓sInt,↓sU8,↓sBool,↓sStr,↓sBs,↓sSl,↓sAgg,↓sTup,↓sCons,↓sNil,↓sNilB,↓sChk,↓sChkBind,↓sSome]
  refine bind_via (fun ls=>ls=[Zk cu,Zk co,Zk cv,Zk cr,Zw lt,Zw tn,Zw mt,Zk cad,Zk cfr,Zk cis,Zk ctm,Zk ctk,Zk clf,Zz Uw ccs,Zk cky,Zk ckv,Zk css,Zz Xf ctt,Zz Xf cau,Zw false,Zw false,Zz Zd 0,Zq [],Zp [],Zp [],Zw (if cau % 16=14 then !lt else lt),Zw mt,Zz Zd (if ckv.toNat % 16=15 then v+1 else v),Zq z,Zp (if ctt % 16=15 then Wq X (ctt / 16) else X),Zp (if cau % 16=15 then Wq Y (cau / 16) else Y)]) ⟨_,?_,rfl⟩ ?_
  ·by_cases h:ckv.toNat % 16=15
   ·rw [if_pos h,decide_eq_true h];rfl
   ·rw [if_neg h,decide_eq_false h];rfl
  rintro _ rfl
  simp (config:={maxSteps:=10000000}) only [Wd,f1,f2,f3,f4,f5,f6,f7,f8,f9,fa,fb,fc,fd,fe,g1,g2,g3,g4,g5,u1,u2,u3,u4,↓sInt,↓sU8,↓sBool,↓sStr,↓sBs,↓sSl,↓sAgg,↓sTup,↓sCons,↓sNil,↓sNilB,↓sChk,↓sChkBind,↓sSome]
  by_cases h:cr.toNat % 16=15
  ·rw [if_pos h,decide_eq_true h];rfl
  ·rw [if_neg h,decide_eq_false h];rfl
 ·cases h
theorem w68:Walked Tryz.prog G 68 7 sp68:=by
 refine ⟨Tryz.f68,Tryz.func68,by decide +kernel,rfl,fun xs bl r h=> ?_⟩
 unfold sp68 at h
 split at h
 ·rename_i rl els xls n i now
  obtain ⟨hpre,h2⟩:=chk_inv h;cases h2
  refine Eq.trans (b:=(let t0:Option (AV×Blocks):=Zx (chk (List.all els Kerb.isEntry&&decide (Zy els≤1000000)) (some (Zm [Zz .i64 (Yy (Vh (Kerb.Db.mk rl (List.map Kerb.toEntry els)) n i now)),Zz .i64 (Zh (Vh (Kerb.Db.mk rl (List.map Kerb.toEntry els)) n i now))],[]))) (kT fun vs=>cInt .i64 vs fun n r=>cInt .i64 r fun n_1 r=>onNil r (sel (!n_1==0) (some (Zm [Zz .u64 0,Zz .i64 0,Zz .i64 0,Zz .i64 0,Zz .i64 n_1],[])) (chk (decide (0≤n)&&decide (n<(↑(Zy els):Int))&&true) (Uy (Wp els (Yz n) AV.undef) fun cs=>cStr cs fun b r=>cStr r fun b r=>cInt .u64 r fun n r=>cInt .i64 r fun n_2 r=>cInt .i64 r fun n_3 r=>cInt .i64 r fun n_4 r=>cInt .i64 r fun n_5 r=>cInt .i64 r fun n_6 r=>cInt .i64 r fun n_7 r=>onNil r (some (Zm [Zz .u64 n,Zz .i64 n_2,Zz .i64 n_4,Zz .i64 n_3,Zz .i64 0],[]))))));sel (n==Kerb.krbtgt) (Zx (chk (l63 i) (some (Zw (Vy i),[]))) (kL fun b=>sel b (sel (!i==rl) (Zx (chk (List.all xls Kerb.isCross&&decide (Zy xls≤1000000)) (some (Zm [Zz .i64 (Yy (Vp (List.map Kerb.toCross xls) rl i)),Zw (Zh (Vp (List.map Kerb.toCross xls) rl i))],[]))) (kT fun vs=>cInt .i64 vs fun n r=>cBool r fun b r=>onNil r (sel (!b) (some (Zm [Zz .u64 0,Zz .i64 0,Zz .i64 0,Zz .i64 0,Zz .i64 8],[])) (chk (decide (0≤n)&&decide (n<(↑(Zy xls):Int))&&true) (Uy (Wp xls (Yz n) AV.undef) fun cs=>cStr cs fun b r=>cStr r fun b r=>cInt .i64 r fun n_1 r=>cInt .u64 r fun n_2 r=>onNil r (chk (decide (0≤n)&&decide (n<(↑(Zy xls):Int))&&true) (Uy (Wp xls (Yz n) AV.undef) fun cs=>cStr cs fun b r=>cStr r fun b r=>cInt .i64 r fun n r=>cInt .u64 r fun n_3 r=>onNil r (some (Zm [Zz .u64 n_2,Zz .i64 n,Zz .i64 255,Zz .i64 0,Zz .i64 0],[]))))))))) t0) t0)) t0:Option (AV×Blocks))) (by kernel_rfl) ?_
  delta kT kL
  try dsimp only [cStr,cBs,cBool,cU8,cInt,cSl,l63]
  simp only [Yv,decide_eq_true_eq] at hpre
  obtain ⟨⟨⟨⟨hall,hlen⟩,hx⟩,hxl⟩,hi⟩:=hpre
  obtain ⟨es,rfl,hok⟩:=Kerb.ents_of hall
  obtain ⟨cs,rfl⟩:=Kerb.cross_of hx
  rw [Kerb.map_toEntry,Kerb.map_toCross]
  simp only [hall,hlen,hx,hxl,hi,decide_true,Xj,↓A0,A0]
  simp only [Vm] at hlen hxl ⊢
  unfold Kerb.svc
  dsimp only
  have hkr:(n==[(107:UInt8),(114:UInt8),(98:UInt8),(116:UInt8),(103:UInt8),(116:UInt8)])=(n==Kerb.krbtgt):=rfl
  try rw [hkr]
  cases n==Kerb.krbtgt
  ·simp only [Yq,Uv,sel_true,sel_false]
   by_cases he:(Vh ⟨rl,es⟩ n i now).2=0
   case neg=>rw [sel_pos (by simpa using he),if_neg (by simp),if_pos he]
   obtain ⟨u1,u2⟩:=Kerb.serv_lt he
   dsimp only at u2
   rw [sel_neg (by simpa using he),if_neg (by simp),if_neg (by simpa using he),chk_of (by simp;omega),Kerb.getD_ent u2]
   simp only [Kerb.Entry.av,↓A0,A0]
  cases Vy i
  ·simp only [Yq,Uv,sel_true,sel_false]
   by_cases he:(Vh ⟨rl,es⟩ n i now).2=0
   case neg=>rw [sel_pos (by simpa using he),if_neg (by simp),if_pos he]
   obtain ⟨u1,u2⟩:=Kerb.serv_lt he
   dsimp only at u2
   rw [sel_neg (by simpa using he),if_neg (by simp),if_neg (by simpa using he),chk_of (by simp;omega),Kerb.getD_ent u2]
   simp only [Kerb.Entry.av,↓A0,A0]
  cases i==rl
  ·simp only [Yq,Uv,sel_true,sel_false]
   by_cases he:(Vp cs rl i).2=true
   ·obtain ⟨u1,u2⟩:=Kerb.findCross_lt he
    have hk:(decide (0≤(Vp cs rl i).1)&&decide ((Vp cs rl i).1<(cs.length:Int))&&true)=true:=by simp;omega
    simp only [he,hk,Kerb.getD_cross u2,Kerb.Cross.av,Yq,Xj,Uv,if_true,↓A0,A0]
   ·have he2:(Vp cs rl i).2=false:=by simpa using he
    rw [he2]
    rfl
  ·simp only [Yq,Uv,sel_true,sel_false]
   by_cases he:(Vh ⟨rl,es⟩ n i now).2=0
   case neg=>rw [sel_pos (by simpa using he),if_neg (by simp),if_pos he]
   obtain ⟨u1,u2⟩:=Kerb.serv_lt he
   dsimp only at u2
   rw [sel_neg (by simpa using he),if_neg (by simp),if_neg (by simpa using he),chk_of (by simp;omega),Kerb.getD_ent u2]
   simp only [Kerb.Entry.av,↓A0,A0]
 ·cases h
theorem w107:Walked Tryz.prog G 107 7 sp107:=by
 refine ⟨Tryz.f107,Tryz.func107,by decide +kernel,rfl,fun xs bl r h=> ?_⟩
 unfold sp107 at h
 split at h
 ·rename_i li mu kv rl tk au
  obtain ⟨hpre,h2⟩:=chk_inv h;cases h2
  refine Eq.trans (b:=(Zx (chk (l63 rl) (some (Zw (Vy rl),[]))) (kL fun b=>sel (!b) (some (Zm [Zp [],Zz .i64 103],[])) (sel (!Zb kv 255) (some (Zm [Zp [],Zz .i64 104],[])) (sel (decide ((↑(Zy tk):Int)>255)) (some (Zm [Zp [],Zz .i64 105],[])) (sel (decide ((↑(Zy au):Int)>255)) (some (Zm [Zp [],Zz .i64 105],[])) (sel mu (Zx (chk (decide (Zy (Vq 4 li)≤70368744177664)) (some (Yf (Vq 4 li++Yw kv 1 false),[]))) (kO fun l=>Zx (chk (decide (Zy l+Zy rl≤70368744177664)) (some (Zp (Yg l rl),[]))) (kB fun b=>Zx (chk (decide (Zy b≤70368744177664)) (some (Yf (b++Yw (↑(Zy tk):Int) 1 false),[]))) (kO fun l=>Zx (chk (decide (Zy l≤70368744177664)) (some (Yf (l++Yw (↑(Zy au):Int) 1 false),[]))) (kO fun l=>Zx (chk (decide (Zy (Yu l (Yu tk (Yu au [])))≤140737488355328)&&decide (Zy [Zp l,Zp tk,Zp au]≤1000)) (some (Yf (Yu l (Yu tk (Yu au []))),[]))) (kO fun l=>some (Zm [Zp l,Zz .i64 0],[]))))))) (Zx (chk (decide (Zy (Vq 3 li)≤70368744177664)) (some (Yf (Vq 3 li++Yw kv 1 false),[]))) (kO fun l=>Zx (chk (decide (Zy l+Zy rl≤70368744177664)) (some (Zp (Yg l rl),[]))) (kB fun b=>Zx (chk (decide (Zy b≤70368744177664)) (some (Yf (b++Yw (↑(Zy tk):Int) 1 false),[]))) (kO fun l=>Zx (chk (decide (Zy l≤70368744177664)) (some (Yf (l++Yw (↑(Zy au):Int) 1 false),[]))) (kO fun l=>Zx (chk (decide (Zy (Yu l (Yu tk (Yu au [])))≤140737488355328)&&decide (Zy [Zp l,Zp tk,Zp au]≤1000)) (some (Yf (Yu l (Yu tk (Yu au []))),[]))) (kO fun l=>some (Zm [Zp l,Zz .i64 0],[])))))))))))):Option (AV×Blocks))) (by kernel_rfl) ?_
  delta kB kO kL
  try dsimp only [cStr,cBs,cBool,cU8,cInt,cSl,l63]
  simp only [A0,Wk,Wb,Vx,hpre]
  unfold Up
  simp only
  cases h1:Vy rl
  ·rfl
  rw [Yq,sel_false,if_neg (by simp)]
  cases h2:Zb kv 255
  ·rfl
  rw [Yq,sel_false,if_neg (by simp)]
  by_cases h3:255<tk.length
  ·rw [sel_pos (by simp;omega),if_pos (.inl h3)]
  rw [sel_neg (by simp;omega)]
  by_cases h4:255<au.length
  ·rw [sel_pos (by simp;omega),if_pos (.inr h4)]
  rw [sel_neg (by simp;omega),if_neg (by omega)]
  have l1:=Kerb.validRealm_len h1
  have g3:=Kerb.header_len 3 li
  have g4:=Kerb.header_len 4 li
  cases mu
  ·rw [sel_false,chk_of (by simp;omega),chk_of (by simp [Zu];omega),chk_of (by simp [Zu,Wv];omega),chk_of (by simp [Zu,Wv];omega),chk_of (by simp [Zu,Wv];omega)]
   simp
  ·rw [sel_true,chk_of (by simp;omega),chk_of (by simp [Zu];omega),chk_of (by simp [Zu,Wv];omega),chk_of (by simp [Zu,Wv];omega),chk_of (by simp [Zu,Wv];omega)]
   simp
 ·cases h
theorem w114:Walked Tryz.prog G 114 7 sp114:=by
 refine ⟨Tryz.f114,Tryz.func114,by decide +kernel,rfl,fun xs bl r h=> ?_⟩
 unfold sp114 at h
 split at h
 ·rename_i a b c
  obtain ⟨hpre,h2⟩:=chk_inv h;cases h2
  refine Eq.trans (b:=(Zx (chk (decide (Zy a≤9223372036854775807)) (some (Zw (Ww a),[]))) fun (r:AV×Blocks)=>onNilB (Zh r) (Vj (Yy r) fun b_1=>sel b_1 (Zx (chk (decide (Zy b≤9223372036854775807)) (some (Zw (Xh b),[]))) fun (r:AV×Blocks)=>onNilB (Zh r) (Vj (Yy r) fun b=>sel b (Zx (chk (decide (Zy c≤9223372036854775807)) (some (Zw (Vy c),[]))) fun (r:AV×Blocks)=>onNilB (Zh r) (Vj (Yy r) fun b=>some (Zw b,[]))) (some (Zw false,[])))) (some (Zw false,[]))):Option (AV×Blocks))) (by kernel_rfl) ?_
  simp only [Yv,decide_eq_true_eq] at hpre
  simp only [A0]
  rw [chk_of (by simp;omega),chk_of (by simp;omega),chk_of (by simp;omega)]
  simp only [Yk]
  cases Ww a<;>cases Xh b<;>rfl
 ·cases h
theorem w18:Walked Tryz.prog G 18 8 sp18:=by
 refine ⟨Tryz.f18,Tryz.func18,by decide +kernel,rfl,fun xs bl r h=> ?_⟩
 unfold sp18 at h
 split at h
 ·rename_i cu co cv cr lt tn mt cad cfr cis ctm ctk clf ccs cky ckv css ctt cau x y z k v wtm wlf s1 s2 s3
  obtain ⟨hpre,h2⟩:=chk_inv h;cases h2
  refine Eq.trans (b:=(let t0:Kerb.ApRequest:=Kerb.Case.req (Xz cu co cv cr lt tn mt cad cfr cis ctm ctk clf ccs cky ckv css ctt cau) (Zn x y z) k v;Zx (chk (l63 x&&l63 y&&l63 z&&Kerb.isU64 k&&decide (0≤v)&&decide (v≤1000)&&decide (0≤ccs)&&decide (ccs≤4294967295)&&decide (0≤ctt)&&decide (ctt≤65535)&&decide (0≤cau)&&decide (cau≤65535)) (some (Xm [Zw (Kerb.ApRequest.little t0),Zw (Kerb.ApRequest.mutual_ t0),Zz .i64 (Kerb.ApRequest.kvno t0),Zq (Kerb.ApRequest.realm t0),Zp (Kerb.ApRequest.ticket t0),Zp (Kerb.ApRequest.auth t0)],[]))) (kA fun cs=>cBool cs fun b r=>cBool r fun b_1 r=>cInt .i64 r fun n r=>cStr r fun b_2 r=>cBs r fun b_3 r=>cBs r fun b_4 r=>onNil r (Zx (chk (l63 b_2&&l63 s1&&l63 s2) (some (Zm [Zp (Xp (Kerb.encodeTgs (Kerb.TgsRequest.mk (Vb b false n b_2 b_3 b_4) wtm wlf s1 s2))),Zz .i64 (Xd (Kerb.encodeTgs (Kerb.TgsRequest.mk (Vb b false n b_2 b_3 b_4) wtm wlf s1 s2)))],[]))) (kT fun vs=>cBs vs fun b r=>cInt .i64 r fun n r=>onNil r (some (Zp b,[]))))):Option (AV×Blocks))) (by kernel_rfl) ?_
  delta kT kA
  try dsimp only [cStr,cBs,cBool,cU8,cInt,cSl,l63]
  simp only [Yv,decide_eq_true_eq] at hpre
  obtain ⟨⟨⟨⟨⟨⟨⟨⟨⟨⟨⟨⟨⟨l1,l2⟩,l3⟩,k1⟩,v0⟩,v1⟩,c0⟩,c1⟩,t0⟩,t1⟩,a0⟩,a1⟩,s1l⟩,s2l⟩:=hpre
  have e1:=Kerb.req_realm (Xz cu co cv cr lt tn mt cad cfr cis ctm ctk clf ccs cky ckv css ctt cau) ⟨x,y,z⟩ k v l3
  simp (config:={maxSteps:=10000000}) only [l1,l2,l3,k1,v0,v1,c0,c1,t0,t1,a0,a1,s1l,s2l,e1,decide_true,Xj,↓sInt,↓sU8,↓sBool,↓sStr,↓sBs,↓sSl,↓sAgg,↓sTup,↓sCons,↓sNil,↓sNilB,↓sChk,↓sChkBind,↓sSome,↓sOwnL,↓sConsB,↓sOwnB]
  rfl
 ·cases h
theorem w57:Walked Tryz.prog G 57 8 sp57:=by
 refine ⟨Tryz.f57,Tryz.func57,by decide +kernel,rfl,fun xs bl r h=> ?_⟩
 unfold sp57 at h
 split at h
 ·rename_i li mu kv rl tk au tm lf sv ins
  obtain ⟨hpre,h2⟩:=chk_inv h;cases h2
  refine Eq.trans (b:=(sel mu (some (Zm [Zp [],Zz .i64 100],[])) (Zx (chk (l63 rl) (some (Zm [Zp (Xp (Up (Vb li mu kv rl tk au))),Zz .i64 (Xd (Up (Vb li mu kv rl tk au)))],[]))) (kT fun vs=>cBs vs fun b r=>cInt .i64 r fun n r=>onNil r (sel (!n==0) (some (Zm [Zp [],Zz .i64 n],[])) (Zx (chk (l63 sv) (some (Zw (Ww sv),[]))) (kL fun b_1=>sel (!b_1) (some (Zm [Zp [],Zz .i64 103],[])) (Zx (chk (l63 ins) (some (Zw (Xh ins),[]))) (kL fun b_2=>sel (!b_2) (some (Zm [Zp [],Zz .i64 103],[])) (sel (!Zb tm 4294967295) (some (Zm [Zp [],Zz .i64 104],[])) (sel (!Zb lf 255) (some (Zm [Zp [],Zz .i64 104],[])) (Zx (chk (decide (Zy b≤70368744177664)) (some (Yf (b++Yw tm 4 li),[]))) (kO fun l=>Zx (chk (decide (Zy l≤70368744177664)) (some (Yf (l++Yw lf 1 false),[]))) (kO fun l=>Zx (chk (decide (Zy l+Zy sv≤70368744177664)) (some (Zp (Yg l sv),[]))) (kB fun b=>Zx (chk (decide (Zy b+Zy ins≤70368744177664)) (some (Zp (Yg b ins),[]))) (kB fun b=>some (Zm [Zp b,Zz .i64 0],[]))))))))))))))):Option (AV×Blocks))) (by kernel_rfl) ?_
  delta kT kB kO kL
  try dsimp only [cStr,cBs,cBool,cU8,cInt,cSl,l63]
  simp only [Yv,decide_eq_true_eq] at hpre
  obtain ⟨⟨p1,p2⟩,p3⟩:=hpre
  simp only [A0,Wk,Wb,Vx,p1,p2,p3,decide_true]
  have hL:∀ q,Up ⟨li,mu,kv,rl,tk,au⟩=q→Kerb.encodeTgs ⟨⟨li,mu,kv,rl,tk,au⟩,tm,lf,sv,ins⟩=if mu then ⟨[],100⟩ else if q.err≠0 then ⟨[],q.err⟩ else if !(Ww sv&&Xh ins) then ⟨[],103⟩ else if !(Zb tm 4294967295&&Zb lf 255) then ⟨[],104⟩ else ⟨Yg (Yg (q.val++Yw tm 4 li++Yw lf 1 false) sv) ins,0⟩:=by rintro _ rfl;rfl
  have hl:=Kerb.encodeAp_len ⟨li,mu,kv,rl,tk,au⟩
  obtain ⟨q,hq⟩:∃ q,Up ⟨li,mu,kv,rl,tk,au⟩=q:=⟨_,rfl⟩
  rw [hL q hq,hq]
  rw [hq] at hl
  cases mu
  case true=>rfl
  rw [sel_false,if_neg (by simp)]
  by_cases h1:q.err=0
  case neg=>rw [sel_pos (by simpa using h1),if_pos h1]
  rw [sel_neg (by simpa using h1),if_neg (by simpa using h1)]
  cases h2:Ww sv
  ·rfl
  cases h3:Xh ins
  ·rfl
  cases Zb tm 4294967295
  ·rfl
  cases Zb lf 255
  ·rfl
  have l2:=Kerb.validName_len h2
  have l3:=Kerb.validInst_len h3
  simp only [Yq,sel_false,Xj,Bool.false_eq_true,if_false]
  rw [chk_of (by simp;omega),chk_of (by simp [Zu];omega),chk_of (by simp [Zu];omega),chk_of (by simp [Zu,Wv];omega)]
 ·cases h
theorem w115:Walked Tryz.prog G 115 8 sp115:=by
 refine ⟨Tryz.f115,Tryz.func115,by decide +kernel,rfl,fun xs bl r h=> ?_⟩
 unfold sp115 at h
 split at h
 ·rename_i kls
  obtain ⟨hpre,h2⟩:=chk_inv h;cases h2
  refine Eq.trans (b:=(sel (decide ((↑(Zy kls):Int)>60)) (some (Zz .i64 106,[])) (Zx (loopM (fun (st:List AV)=>cSl 5 st fun b r=>cInt .i64 r fun n r=>cSl 5 r fun b_1 r=>cInt .i64 r fun n_1 r=>cInt .i64 r fun n_2 r=>let t0:List AV:=[Wx 5 b_1,Zz .i64 n_1,Zz .i64 n_2];onNil r (sel (decide (n_2<n_1)) (chk (decide (0≤n_2)&&decide (n_2<(↑(Zy b_1):Int))&&true) (Uy (Wp b_1 (Yz n_2) AV.undef) fun cs=>cStr cs fun b_2 r=>cStr r fun b_3 r=>cStr r fun b_4 r=>cInt .i64 r fun n_3 r=>cInt .u64 r fun n_4 r=>onNil r (Zx (chk (l63 b_2&&l63 b_3&&l63 b_4) (some (Zw (Yk (Zn b_2 b_3 b_4)),[]))) (kL fun b_5=>sel (!b_5) (some (Vu (Ex.ret,Wx 5 b::Zz .i64 103::t0))) (sel (decide (n_3<0)) (some (Vu (Ex.ret,Wx 5 b::Zz .i64 104::t0))) (sel (decide (n_3>255)) (some (Vu (Ex.ret,Wx 5 b::Zz .i64 104::t0))) (Zx (chk (decide (0≤n_4)&&decide (n_4<18446744073709551616)) (some (Zw (Kerb.keyValid n_4),[]))) (kL fun b_6=>sel (!b_6) (some (Vu (Ex.ret,Wx 5 b::Zz .i64 10::t0))) (Zx (chk (List.all b Kerb.isSKey&&decide (Zy b≤1000000)) (some (Zz .i64 (↑(Kerb.skAt (List.map Kerb.toSKey b) (Zn b_2 b_3 b_4) n_3):Int),[]))) (kI .i64 fun n_5=>sel (decide (n_5<n_2)) (some (Vu (Ex.ret,Wx 5 b::Zz .i64 107::t0))) (some (Sum.inl [Wx 5 b,Zz .i64 n,Wx 5 b_1,Zz .i64 n_1,Zz .i64 (Zf .i64 (n_2+1))])))))))))))) (some (Vu (Ex.exit 0,Wx 5 b::Zz .i64 n::t0))))) [Wx 5 kls,Zz .i64 0,Wx 5 kls,Zz .i64 (↑(Zy kls):Int),Zz .i64 0]) fun (r:Ex×List AV)=>cSl 5 (Zh r) fun b r_1=>cInt .i64 r_1 fun n r_2=>cSl 5 r_2 fun b r_3=>cInt .i64 r_3 fun n_1 r_4=>cInt .i64 r_4 fun n_2 r_5=>onNil r_5 (exK r.1 (some (Zz .i64 n,[])) fun (j:Nat)=>sel (Nat.beq j 0) (some (Zz .i64 0,[])) none)):Option (AV×Blocks))) (by kernel_rfl) ?_
  delta kL kI
  try dsimp only [cStr,cBs,cBool,cU8,cInt,cSl,l63]
  simp only [Yv,decide_eq_true_eq] at hpre
  obtain ⟨hall,hlen⟩:=hpre
  obtain ⟨cs,rfl,hok⟩:=Kerb.skeys_of hall
  unfold Kerb.skErr
  rw [Kerb.map_toSKey]
  simp only [Vm] at hlen ⊢
  by_cases h60:60<cs.length
  ·rw [sel_pos (by simp;omega),if_pos h60]
  rw [sel_neg (by simp;omega),if_neg h60]
  refine loop_rounds (fun i:Nat=>[Wx 5 (cs.map Uq),Zz Zd 0,Wx 5 (cs.map Uq),Zz Zd (cs.length:Int),Zz Zd (i:Int)]) (fun i=>i≤cs.length∧Kerb.skErrs [] cs=Kerb.skErrs (cs.take i) (cs.drop i)) (fun i=>cs.length-i)
   (fun r=>∃ (i:Nat) (n:Int),r.2=[Wx 5 (cs.map Uq),Zz Zd n,Wx 5 (cs.map Uq),Zz Zd (cs.length:Int),Zz Zd (i:Int)]∧((r.1 = .ret∧n=Kerb.skErrs [] cs)∨(r.1 = .exit 0∧Kerb.skErrs [] cs=0))) 0 ⟨Nat.zero_le _,by simp⟩ rfl ?_ ?_
  ·rintro i ⟨hi,hp⟩
   simp only [↓A0,A0,Vm]
   by_cases hlt:i<cs.length
   ·rw [sel_pos (by simp;omega),chk_of (by simp;omega),Int.toNat_natCast,Kerb.getD_row (d:=Kerb.noSKey) hlt]
    obtain ⟨c,hc⟩:∃ c,cs.getD i Kerb.noSKey=c:=⟨_,rfl⟩
    have hst:=Kerb.skErrs_step hlt hc hp
    have hcm:c∈cs:=hc ▸ Kerb.mem_row hlt
    have ho:=hok c hcm
    rw [hc]
    obtain ⟨⟨s1,s2,s3⟩,kv,ky⟩:=c
    obtain ⟨o1,o2,o3,o4,o5⟩:=ho
    have o4:=Kerb.isI64_iff.1 o4
    have o5:=Kerb.isU64_iff.1 o5
    dsimp only at o1 o2 o3 o4 o5 hst
    simp only [Uq,o1,o2,o3,o5,decide_true,Xj,↓A0,A0]
    have k1:∀ code:Int,code≠0→Wn ⟨⟨s1,s2,s3⟩,kv,ky⟩=code→code=Kerb.skErrs [] cs:=fun code h0 he=>by
     rw [he,if_pos h0] at hst;exact hst.symm
    cases h1:Yk ⟨s1,s2,s3⟩
    ·exact ⟨_,rfl,i,_,rfl,.inl ⟨rfl,k1 103 (by decide) (by simp [Wn,h1])⟩⟩
    rw [Yq,sel_false]
    by_cases h2:kv<0
    ·rw [sel_pos (by simpa using h2)]
     exact ⟨_,rfl,i,_,rfl,.inl ⟨rfl,k1 104 (by decide) (by simp [Wn,h1,Zb];omega)⟩⟩
    rw [sel_neg (by simpa using h2)]
    by_cases h3:kv>255
    ·rw [sel_pos (by simpa using h3)]
     exact ⟨_,rfl,i,_,rfl,.inl ⟨rfl,k1 104 (by decide) (by simp [Wn,h1,Zb];omega)⟩⟩
    rw [sel_neg (by simpa using h3)]
    have hw:Zb kv 255=true:=Kerb.within_iff.2 ⟨by omega,by omega⟩
    cases h4:Kerb.keyValid ky
    ·exact ⟨_,rfl,i,_,rfl,.inl ⟨rfl,k1 10 (by decide) (by simp [Wn,h1,hw,h4])⟩⟩
    rw [Yq,sel_false]
    have hz:Wn ⟨⟨s1,s2,s3⟩,kv,ky⟩=0:=by simp [Wn,h1,hw,h4]
    rw [hz,if_neg (by simp)] at hst
    rw [chk_of (by rw [Kerb.skeys_all hok];simp;omega),Kerb.map_toSKey]
    have hq:=Kerb.skAt_lt cs ⟨s1,s2,s3⟩ kv i hi
    have e:decide (((Kerb.skAt cs ⟨s1,s2,s3⟩ kv:Nat):Int)<(i:Int))=decide (Kerb.skAt cs ⟨s1,s2,s3⟩ kv<i):=decide_eq_decide.2 (by omega)
    rw [e,hq]
    cases hd:(cs.take i).any (Kerb.SKey.is ⟨s1,s2,s3⟩ kv)
    ·rw [hd,if_neg (by simp)] at hst
     rw [sel_false,wrap_i64 (by omega) (by omega)]
     exact ⟨_,rfl,i+1,rfl,⟨by omega,hst⟩,by dsimp only;omega⟩
    ·rw [hd,if_pos rfl] at hst
     rw [sel_true]
     exact ⟨_,rfl,i,_,rfl,.inl ⟨rfl,hst.symm⟩⟩
   ·rw [sel_neg (by simp;omega)]
    refine ⟨_,rfl,i,_,rfl,.inr ⟨rfl,?_⟩⟩
    rw [hp,List.drop_eq_nil_of_le (by omega)]
    rfl
  ·rintro ⟨e,l⟩ ⟨i,n,rfl,⟨rfl,h⟩ | ⟨rfl,h⟩⟩
   ·simp only [↓A0,A0,h]
   ·simp only [↓A0,A0,h]
    rw [sel_pos (Nat.beq_refl _)]
 ·cases h
theorem w116:Walked Tryz.prog G 116 8 sp116:=by
 refine ⟨Tryz.f116,Tryz.func116,by decide +kernel,rfl,fun xs bl r h=> ?_⟩
 unfold sp116 at h
 split at h
 ·rename_i sz fl mls
  obtain ⟨hpre,h2⟩:=chk_inv h;cases h2
  refine Eq.trans (b:=(sel (!(decide (1≤sz)&&decide (sz≤40))) (some (Zz .i64 104,[])) (sel (!(decide (0≤fl)&&decide (fl≤4294967295))) (some (Zz .i64 104,[])) (sel (decide ((↑(Zy mls):Int)>sz)) (some (Zz .i64 106,[])) (Zx (loopM (fun (st:List AV)=>cInt .i64 st fun n r=>cInt .i64 r fun n_1 r=>cSl 5 r fun b r=>cInt .i64 r fun n_2 r=>cSl 5 r fun b_1 r=>cInt .i64 r fun n_3 r=>cInt .i64 r fun n_4 r=>let t0:List AV:=[Wx 5 b_1,Zz .i64 n_3,Zz .i64 n_4];let t2:List AV:=List.drop (Yz (↑(0:Nat):Int)) (List.take (Yz n_4) b);let t1:Option (List AV ⊕ Ex×List AV):=some (Vu (Ex.ret,Zz .i64 n::Zz .i64 n_1::Wx 5 b::Zz .i64 104::t0));onNil r (sel (decide (n_4<n_3)) (chk (decide (0≤n_4)&&decide (n_4<(↑(Zy b_1):Int))&&true) (Uy (Wp b_1 (Yz n_4) AV.undef) fun cs=>cStr cs fun b_2 r=>cStr r fun b_3 r=>cStr r fun b_4 r=>cInt .i64 r fun n_5 r=>cInt .i64 r fun n_6 r=>onNil r (Zx (chk (l63 b_2&&l63 b_3&&l63 b_4) (some (Zw (Yk (Zn b_2 b_3 b_4)),[]))) (kL fun b_5=>sel (!b_5) (some (Vu (Ex.ret,Zz .i64 n::Zz .i64 n_1::Wx 5 b::Zz .i64 103::t0))) (sel (!(decide (n_1≤n_5)&&decide (n_5≤4294967295))) t1 (sel (!(decide (0≤n_6)&&decide (n_6≤199))) t1 (chk (decide ((↑(0:Nat):Int)≤n_4)&&decide (n_4≤(↑(Zy b):Int))) (Zx (chk (List.all t2 Kerb.isMark&&decide (Zy t2≤1000000)) (some (Zw (Kerb.hasMark (List.map Kerb.toMark t2) (Kerb.Mark.mk (Zn b_2 b_3 b_4) n_5 n_6)),[]))) (kL fun b_6=>sel b_6 (some (Vu (Ex.ret,Zz .i64 n::Zz .i64 n_1::Wx 5 b::Zz .i64 107::t0))) (some (Sum.inl [Zz .i64 n,Zz .i64 n_1,Wx 5 b,Zz .i64 n_2,Wx 5 b_1,Zz .i64 n_3,Zz .i64 (Zf .i64 (n_4+1))]))))))))))) (some (Vu (Ex.exit 0,Zz .i64 n::Zz .i64 n_1::Wx 5 b::Zz .i64 n_2::t0))))) [Zz .i64 sz,Zz .i64 fl,Wx 5 mls,Zz .i64 0,Wx 5 mls,Zz .i64 (↑(Zy mls):Int),Zz .i64 0]) fun (r:Ex×List AV)=>cInt .i64 (Zh r) fun n r_1=>cInt .i64 r_1 fun n r_2=>cSl 5 r_2 fun b r_3=>cInt .i64 r_3 fun n r_4=>cSl 5 r_4 fun b r_5=>cInt .i64 r_5 fun n_1 r_6=>cInt .i64 r_6 fun n_2 r_7=>onNil r_7 (exK r.1 (some (Zz .i64 n,[])) fun (j:Nat)=>sel (Nat.beq j 0) (some (Zz .i64 0,[])) none)))):Option (AV×Blocks))) (by kernel_rfl) ?_
  delta kL
  try dsimp only [cStr,cBs,cBool,cU8,cInt,cSl,l63]
  simp only [Yv,decide_eq_true_eq] at hpre
  obtain ⟨hall,hlen⟩:=hpre
  obtain ⟨cs,rfl,hok⟩:=Kerb.marks_of hall
  unfold Kerb.RCache.err
  rw [Kerb.map_toMark]
  simp only [Vm] at hlen ⊢
  cases e1:(decide ((1:Int)≤sz)&&decide (sz≤40))
  ·rw [if_pos (by simp)];rfl
  cases e2:(decide ((0:Int)≤fl)&&decide (fl≤4294967295))
  ·rw [if_pos (by unfold Zb;rw [e2];rfl)];rfl
  rw [Yq,sel_false,sel_false,if_neg (by unfold Zb;rw [e2];simp)]
  simp only [Yv,decide_eq_true_eq] at e1 e2
  by_cases hsz:sz<cs.length
  ·rw [sel_pos (by simp;omega),if_pos hsz]
  rw [sel_neg (by simp;omega),if_neg hsz]
  refine loop_rounds (fun i:Nat=>[Zz Zd sz,Zz Zd fl,Wx 5 (cs.map Uj),Zz Zd 0,Wx 5 (cs.map Uj),Zz Zd (cs.length:Int),Zz Zd (i:Int)]) (fun i=>i≤cs.length∧Uk fl [] cs=Uk fl (cs.take i) (cs.drop i)) (fun i=>cs.length-i)
   (fun r=>∃ (i:Nat) (n:Int),r.2=[Zz Zd sz,Zz Zd fl,Wx 5 (cs.map Uj),Zz Zd n,Wx 5 (cs.map Uj),Zz Zd (cs.length:Int),Zz Zd (i:Int)]∧((r.1 = .ret∧n=Uk fl [] cs)∨(r.1 = .exit 0∧Uk fl [] cs=0))) 0 ⟨Nat.zero_le _,by simp⟩ rfl ?_ ?_
  ·rintro i ⟨hi,hp⟩
   simp only [↓A0,A0,Vm]
   by_cases hlt:i<cs.length
   ·rw [sel_pos (by simp;omega),chk_of (by simp;omega),Int.toNat_natCast,Kerb.getD_row (d:=Kerb.noMark) hlt]
    obtain ⟨c,hc⟩:∃ c,cs.getD i Kerb.noMark=c:=⟨_,rfl⟩
    have hst:=Kerb.marksErr_step hlt hc hp
    have hcm:c∈cs:=hc ▸ Kerb.mem_row hlt
    have ho:=hok c hcm
    rw [hc]
    obtain ⟨⟨s1,s2,s3⟩,mt,mk⟩:=c
    obtain ⟨o1,o2,o3,o4,o5⟩:=ho
    dsimp only at o1 o2 o3 o4 o5 hst
    simp only [Uj,o1,o2,o3,decide_true,Xj,↓A0,A0]
    have k1:∀ code:Int,code≠0→Vd fl ⟨⟨s1,s2,s3⟩,mt,mk⟩=code→code=Uk fl [] cs:=fun code h0 he=>by
     rw [he,if_pos h0] at hst;exact hst.symm
    cases h1:Yk ⟨s1,s2,s3⟩
    ·exact ⟨_,rfl,i,_,rfl,.inl ⟨rfl,k1 103 (by decide) (by simp [Vd,h1])⟩⟩
    rw [Yq,sel_false]
    by_cases h2:fl≤mt∧mt≤4294967295
    case neg =>
     rw [sel_pos (by simp;omega)]
     exact ⟨_,rfl,i,_,rfl,.inl ⟨rfl,k1 104 (by decide) (by unfold Vd;rw [if_neg (by simp [h1]),if_pos (by simp [Zb];omega)])⟩⟩
    rw [sel_neg (by simp;omega)]
    by_cases h3:0≤mk∧mk≤199
    case neg =>
     rw [sel_pos (by simp;omega)]
     exact ⟨_,rfl,i,_,rfl,.inl ⟨rfl,k1 104 (by decide) (by unfold Vd;rw [if_neg (by simp [h1]),if_pos (by simp [Zb];omega)])⟩⟩
    rw [sel_neg (by simp;omega)]
    have hw2:(decide (fl≤mt)&&decide (mt≤4294967295)&&Zb mk 199)=true:=by
     rw [Yv,Yv,decide_eq_true_eq,decide_eq_true_eq]
     exact ⟨⟨by omega,by omega⟩,Kerb.within_iff.2 ⟨by omega,by omega⟩⟩
    have hz:Vd fl ⟨⟨s1,s2,s3⟩,mt,mk⟩=0:=by
     unfold Vd
     rw [if_neg (by simp [h1])]
     dsimp only
     rw [hw2]
     rfl
    rw [hz,if_neg (by simp)] at hst
    rw [chk_of (by simp;omega)]
    simp only [Int.toNat_natCast,List.drop_zero,← List.map_take]
    rw [chk_of (by rw [Kerb.marks_all (fun c hc=>hok c (List.mem_of_mem_take hc))];simp;omega),Kerb.map_toMark]
    cases hd:Kerb.hasMark (cs.take i) ⟨⟨s1,s2,s3⟩,mt,mk⟩
    ·rw [hd,if_neg (by simp)] at hst
     rw [sel_false,wrap_i64 (by omega) (by omega)]
     exact ⟨_,rfl,i+1,rfl,⟨by omega,hst⟩,by dsimp only;omega⟩
    ·rw [hd,if_pos rfl] at hst
     rw [sel_true]
     exact ⟨_,rfl,i,_,rfl,.inl ⟨rfl,hst.symm⟩⟩
   ·rw [sel_neg (by simp;omega)]
    refine ⟨_,rfl,i,_,rfl,.inr ⟨rfl,?_⟩⟩
    rw [hp,List.drop_eq_nil_of_le (by omega)]
    rfl
  ·rintro ⟨e,l⟩ ⟨i,n,rfl,⟨rfl,h⟩ | ⟨rfl,h⟩⟩
   ·simp only [↓A0,A0,h]
   ·simp only [↓A0,A0,h]
    rw [sel_pos (Nat.beq_refl _)]
 ·cases h
theorem w126:Walked Tryz.prog G 126 8 sp126:=by
 refine ⟨Tryz.f126,Tryz.func126,by decide +kernel,rfl,fun xs bl r h=> ?_⟩
 unfold sp126 at h
 split at h
 ·rename_i li x y z t cd tx
  obtain ⟨hpre,h2⟩:=chk_inv h;cases h2
  refine Eq.trans (b:=(let t0:Option (AV×Blocks):=some (Zm [Zp [],Zz .i64 104],[]);let t1:Nat:=Zy (Vq 5 li)+Zy x+Zy y+Zy z;Zx (chk (l63 x&&l63 y&&l63 z) (some (Zw (Yk (Zn x y z)),[]))) (kL fun b=>sel (!b) (some (Zm [Zp [],Zz .i64 103],[])) (sel (!Zb t 4294967295) t0 (sel (decide (cd<1)) t0 (sel (decide (cd>99)) t0 (sel (decide ((↑(Zy tx):Int)>39)) (some (Zm [Zp [],Zz .i64 105],[])) (sel (decide (Kerb.indexOf (0:UInt8) tx≥0)) (some (Zm [Zp [],Zz .i64 100],[])) (Zx (chk (decide (t1≤70368744170000)) (some (Zp (Vk (Vq 5 li) (Zn x y z)),[]))) (kB fun b=>Zx (chk (decide (Zy b≤70368744177664)) (some (Yf (b++Yw t 4 li),[]))) (kO fun l=>Zx (chk (decide (Zy l≤70368744177664)) (some (Yf (l++Yw cd 4 li),[]))) (kO fun l=>Zx (chk (decide (Zy l+Zy tx≤70368744177664)) (some (Zp (Yg l tx),[]))) (kB fun b=>some (Zm [Zp b,Zz .i64 0],[])))))))))))):Option (AV×Blocks))) (by kernel_rfl) ?_
  delta kB kO kL
  try dsimp only [cStr,cBs,cBool,cU8,cInt,cSl,l63]
  simp only [Yv,decide_eq_true_eq] at hpre
  obtain ⟨⟨⟨q1,q2⟩,q3⟩,q4⟩:=hpre
  simp only [A0]
  unfold Kerb.encodeError
  rw [chk_of (by simp [q1,q2,q3])]
  cases h1:Yk ⟨x,y,z⟩
  ·rfl
  rw [Yq,sel_false]
  cases h4:Zb t 4294967295
  ·rfl
  rw [Yq,sel_false]
  by_cases h5:1≤cd
  case neg =>
   rw [sel_pos (by simp;omega),if_neg (by simp),if_pos (by simp;omega)]
  by_cases h6:cd≤99
  case neg =>
   rw [sel_neg (by simp;omega),sel_pos (by simp;omega),if_neg (by simp),if_pos (by simp;omega)]
  rw [sel_neg (by simp;omega),sel_neg (by simp;omega),if_neg (by simp),if_neg (by simp;omega)]
  by_cases h7:39<tx.length
  ·rw [sel_pos (by simp;omega),if_pos h7]
  have l1:=Ux h1
  have l4:=Kerb.header_len 5 li
  simp only at l1
  rw [sel_neg (by simp;omega),if_neg h7]
  have hix:=Kerb.indexOf_nonneg 0 tx
  by_cases h8:(0:UInt8)∈tx
  ·rw [sel_pos (by simpa using hix.2 h8),if_pos h8]
  ·rw [sel_neg (by have:=mt hix.1 h8;simp;omega),if_neg h8]
   rw [chk_of (by simp;omega),chk_of (by simp [Zv];omega),chk_of (by simp [Zv,Zu];omega),chk_of (by simp [Zv,Zu];omega)]
 ·cases h
theorem w135:Walked Tryz.prog G 135 8 sp135:=by
 refine ⟨Tryz.f135,Tryz.func135,by decide +kernel,rfl,fun xs bl r h=> ?_⟩
 unfold sp135 at h
 split at h
 ·rename_i k x y z lf kv tk t little
  obtain ⟨hpre,h2⟩:=chk_inv h;cases h2
  refine Eq.trans (b:=(let t0:Option (AV×Blocks):=some (Zm [Zp [],Zz .i64 104],[]);let t1:List UInt8:=[]++Yw 0 1 false;let t2:List UInt8:=[]++Yw 1 1 false;let t3:Option (AV×Blocks):=chk (decide (0≤k)&&decide (k<18446744073709551616)) (some (Zp (Kerb.keyBytes k),[]));Zx (chk (decide (0≤k)&&decide (k<18446744073709551616)) (some (Zw (Kerb.keyValid k),[]))) (kL fun b=>sel (!b) (some (Zm [Zp [],Zz .i64 10],[])) (Zx (chk (l63 x&&l63 y&&l63 z) (some (Zw (Yk (Zn x y z)),[]))) (kL fun b=>sel (!b) (some (Zm [Zp [],Zz .i64 103],[])) (sel (!Zb lf 255) t0 (sel (!Zb kv 255) t0 (sel (!Zb t 4294967295) t0 (sel (decide ((↑(Zy tk):Int)>255)) (some (Zm [Zp [],Zz .i64 105],[])) (sel little (Zx t3 (kB fun b=>Zx (chk (decide (Zy (Yu t2 (Yu b []))≤140737488355328)&&decide (Zy [Zp t2,Zp b]≤1000)) (some (Yf (Yu t2 (Yu b [])),[]))) (kO fun l=>Zx (chk (decide (Zy l+Zy x+Zy y+Zy z≤70368744170000)) (some (Zp (Vk l (Zn x y z)),[]))) (kB fun b=>Zx (chk (decide (Zy b≤70368744177664)) (some (Yf (b++Yw lf 1 false),[]))) (kO fun l=>Zx (chk (decide (Zy l≤70368744177664)) (some (Yf (l++Yw kv 1 false),[]))) (kO fun l=>Zx (chk (decide (Zy l≤70368744177664)) (some (Yf (l++Yw (↑(Zy tk):Int) 1 false),[]))) (kO fun l=>Zx (chk (decide (Zy (Yu l (Yu tk []))≤140737488355328)&&decide (Zy [Zp l,Zp tk]≤1000)) (some (Yf (Yu l (Yu tk [])),[]))) (kO fun l=>Zx (chk (decide (Zy l≤70368744177664)) (some (Yf (l++Yw t 4 little),[]))) (kO fun l=>Zx (chk (decide (Zy l≤70368744177664)) (some (Zp (Kerb.pad l),[]))) (kB fun b=>some (Zm [Zp b,Zz .i64 0],[]))))))))))) (Zx t3 (kB fun b=>Zx (chk (decide (Zy (Yu t1 (Yu b []))≤140737488355328)&&decide (Zy [Zp t1,Zp b]≤1000)) (some (Yf (Yu t1 (Yu b [])),[]))) (kO fun l=>Zx (chk (decide (Zy l+Zy x+Zy y+Zy z≤70368744170000)) (some (Zp (Vk l (Zn x y z)),[]))) (kB fun b=>Zx (chk (decide (Zy b≤70368744177664)) (some (Yf (b++Yw lf 1 false),[]))) (kO fun l=>Zx (chk (decide (Zy l≤70368744177664)) (some (Yf (l++Yw kv 1 false),[]))) (kO fun l=>Zx (chk (decide (Zy l≤70368744177664)) (some (Yf (l++Yw (↑(Zy tk):Int) 1 false),[]))) (kO fun l=>Zx (chk (decide (Zy (Yu l (Yu tk []))≤140737488355328)&&decide (Zy [Zp l,Zp tk]≤1000)) (some (Yf (Yu l (Yu tk [])),[]))) (kO fun l=>Zx (chk (decide (Zy l≤70368744177664)) (some (Yf (l++Yw t 4 little),[]))) (kO fun l=>Zx (chk (decide (Zy l≤70368744177664)) (some (Zp (Kerb.pad l),[]))) (kB fun b=>some (Zm [Zp b,Zz .i64 0],[]))))))))))))))))))):Option (AV×Blocks))) (by kernel_rfl) ?_
  delta kB kO kL
  try dsimp only [cStr,cBs,cBool,cU8,cInt,cSl,l63]
  simp only [Yv,decide_eq_true_eq] at hpre
  obtain ⟨⟨⟨⟨q1,q2⟩,q3⟩,h0⟩,h1⟩:=hpre
  simp only [A0]
  unfold Uz
  rw [chk_of (by simp [h0,h1])]
  cases hk:Kerb.keyValid k
  ·rfl
  rw [Yq,sel_false,chk_of (by simp [q1,q2,q3])]
  cases h1:Yk ⟨x,y,z⟩
  ·rfl
  rw [Yq,sel_false]
  cases h4:Zb lf 255
  ·rfl
  rw [Yq,sel_false]
  cases h5:Zb kv 255
  ·rfl
  rw [Yq,sel_false]
  cases h6:Zb t 4294967295
  ·rfl
  rw [Yq,sel_false]
  by_cases h7:255<tk.length
  ·rw [sel_pos (by simp;omega),if_neg (by simp),if_neg (by simp),if_neg (by simp),if_pos h7]
  have l1:=Ux h1
  simp only at l1
  rw [sel_neg (by simp;omega),if_neg (by simp),if_neg (by simp),if_neg (by simp),if_neg h7]
  cases little
  ·rw [sel_false,chk_of (by simp;omega),chk_of (by first | (simp [Zv,Zu,Zj];done) | (simp [Zv,Zu,Zj];omega)),chk_of (by first | (simp [Zv,Zu,Zj];done) | (simp [Zv,Zu,Zj];omega)),chk_of (by first | (simp [Zv,Zu,Zj];done) | (simp [Zv,Zu,Zj];omega)),chk_of (by first | (simp [Zv,Zu,Zj];done) | (simp [Zv,Zu,Zj];omega)),chk_of (by first | (simp [Zv,Zu,Zj];done) | (simp [Zv,Zu,Zj];omega)),chk_of (by first | (simp [Zv,Zu,Zj];done) | (simp [Zv,Zu,Zj];omega)),chk_of (by first | (simp [Zv,Zu,Zj];done) | (simp [Zv,Zu,Zj];omega)),chk_of (by first | (simp [Zv,Zu,Zj];done) | (simp [Zv,Zu,Zj];omega))]
   simp
  ·rw [sel_true,chk_of (by simp;omega),chk_of (by first | (simp [Zv,Zu,Zj];done) | (simp [Zv,Zu,Zj];omega)),chk_of (by first | (simp [Zv,Zu,Zj];done) | (simp [Zv,Zu,Zj];omega)),chk_of (by first | (simp [Zv,Zu,Zj];done) | (simp [Zv,Zu,Zj];omega)),chk_of (by first | (simp [Zv,Zu,Zj];done) | (simp [Zv,Zu,Zj];omega)),chk_of (by first | (simp [Zv,Zu,Zj];done) | (simp [Zv,Zu,Zj];omega)),chk_of (by first | (simp [Zv,Zu,Zj];done) | (simp [Zv,Zu,Zj];omega)),chk_of (by first | (simp [Zv,Zu,Zj];done) | (simp [Zv,Zu,Zj];omega)),chk_of (by first | (simp [Zv,Zu,Zj];done) | (simp [Zv,Zu,Zj];omega))]
   simp
 ·cases h
theorem w137:Walked Tryz.prog G 137 8 sp137:=by
 refine ⟨Tryz.f137,Tryz.func137,by decide +kernel,rfl,fun xs bl r h=> ?_⟩
 unfold sp137 at h
 split at h
 ·rename_i li x y z t ex kv sd
  obtain ⟨hpre,h2⟩:=chk_inv h;cases h2
  refine Eq.trans (b:=(let t0:Option (AV×Blocks):=some (Zm [Zp [],Zz .i64 104],[]);let t1:Nat:=Zy (Vq 2 li)+Zy x+Zy y+Zy z;Zx (chk (l63 x&&l63 y&&l63 z) (some (Zw (Yk (Zn x y z)),[]))) (kL fun b=>sel (!b) (some (Zm [Zp [],Zz .i64 103],[])) (sel (!Zb t 4294967295) t0 (sel (!Zb ex 4294967295) t0 (sel (!Zb kv 255) t0 (sel (decide ((↑(Zy sd):Int)>1012)) (some (Zm [Zp [],Zz .i64 105],[])) (Zx (chk (decide (t1≤70368744170000)) (some (Zp (Vk (Vq 2 li) (Zn x y z)),[]))) (kB fun b=>Zx (chk (decide (Zy b≤70368744177664)) (some (Yf (b++Yw t 4 li),[]))) (kO fun l=>Zx (chk (decide (Zy l≤70368744177664)) (some (Yf (l++Yw 1 1 false),[]))) (kO fun l=>Zx (chk (decide (Zy l≤70368744177664)) (some (Yf (l++Yw ex 4 li),[]))) (kO fun l=>Zx (chk (decide (Zy l≤70368744177664)) (some (Yf (l++Yw kv 1 false),[]))) (kO fun l=>Zx (chk (decide (Zy l≤70368744177664)) (some (Yf (l++Yw (↑(Zy sd):Int) 2 li),[]))) (kO fun l=>Zx (chk (decide (Zy (Yu l (Yu sd []))≤140737488355328)&&decide (Zy [Zp l,Zp sd]≤1000)) (some (Yf (Yu l (Yu sd [])),[]))) (kO fun l=>some (Zm [Zp l,Zz .i64 0],[])))))))))))))):Option (AV×Blocks))) (by kernel_rfl) ?_
  delta kB kO kL
  try dsimp only [cStr,cBs,cBool,cU8,cInt,cSl,l63]
  simp only [Yv,decide_eq_true_eq] at hpre
  obtain ⟨⟨q1,q2⟩,q3⟩:=hpre
  simp only [A0]
  unfold Kerb.encodeReply
  rw [chk_of (by simp [q1,q2,q3])]
  cases h1:Yk ⟨x,y,z⟩
  ·rfl
  rw [Yq,sel_false]
  cases h4:Zb t 4294967295
  ·rfl
  rw [Yq,sel_false]
  cases h5:Zb ex 4294967295
  ·rfl
  rw [Yq,sel_false]
  cases h6:Zb kv 255
  ·rfl
  rw [Yq,sel_false]
  by_cases h7:1012<sd.length
  ·rw [sel_pos (by simp;omega),if_neg (by simp),if_neg (by simp),if_pos h7]
  have l1:=Ux h1
  have l4:=Kerb.header_len 2 li
  simp only at l1
  rw [sel_neg (by simp;omega),if_neg (by simp),if_neg (by simp),if_neg h7]
  rw [chk_of (by simp;omega),chk_of (by simp [Zv];omega),chk_of (by simp [Zv,Zu];omega),chk_of (by simp [Zv,Zu];omega),chk_of (by simp [Zv,Zu];omega),chk_of (by simp [Zv,Zu];omega),chk_of (by simp [Zv,Zu];omega)]
  simp
 ·cases h
theorem w165:Walked Tryz.prog G 165 8 sp165:=by
 refine ⟨Tryz.f165,Tryz.func165,by decide +kernel,rfl,fun xs bl r h=> ?_⟩
 unfold sp165 at h
 split at h
 ·rename_i b pos
  obtain ⟨hpre,h2⟩:=chk_inv h;cases h2
  refine Eq.trans (b:=(Zx (loopM (fun (st:List AV)=>cBs st fun b r=>cInt .i64 r fun n r=>let t0:Option (AV×Blocks):=chk (decide (Zy b≤4611686018427387904)) (some (Zm [Zq (Wm (Xq b n)),Zz .i64 (Wf (Xq b n)),Zz .i64 (Xw (Xq b n))],[]));cStr r fun b_1 r=>cStr r fun b_2 r=>cStr r fun b_3 r=>cInt .i64 r fun n_1 r=>cInt .i64 r fun n_2 r=>cStr r fun b_4 r=>cStr r fun b_5 r=>cStr r fun b_6 r=>cInt .i64 r fun n_3 r=>cInt .i64 r fun n_4 r=>let t1:List AV:=[Zq b_6,Zz .i64 n_3,Zz .i64 (Zf .i64 (n_4+1))];onNil r (sel (decide (n_4<n_3)) (chk (decide (0≤n_4)&&decide (n_4<(↑(Zy [0,1,2]):Int))&&true) (sel (Nat.beq (Yz n_4) 0) (Zx t0 (kT fun vs=>cStr vs fun b_7 r=>cInt .i64 r fun n r=>cInt .i64 r fun n_5 r=>onNil r (sel (!n_5==0) (some (Vu (Ex.ret,[Zp b,Zz .i64 n,Zq [],Zq [],Zq [],Zz .i64 0,Zz .i64 n_5,Zq b_7,Zq b_5,Zq b_6,Zz .i64 n_3,Zz .i64 n_4]))) (some (Sum.inl (Zp b::Zz .i64 n::Zq b_1::Zq b_2::Zq b_3::Zz .i64 n_1::Zz .i64 n_2::Zq b_7::Zq b_5::t1)))))) (sel (Nat.beq (Yz n_4-1) 0) (Zx t0 (kT fun vs=>cStr vs fun b_7 r=>cInt .i64 r fun n r=>cInt .i64 r fun n_5 r=>onNil r (sel (!n_5==0) (some (Vu (Ex.ret,[Zp b,Zz .i64 n,Zq [],Zq [],Zq [],Zz .i64 0,Zz .i64 n_5,Zq b_4,Zq b_7,Zq b_6,Zz .i64 n_3,Zz .i64 n_4]))) (some (Sum.inl (Zp b::Zz .i64 n::Zq b_1::Zq b_2::Zq b_3::Zz .i64 n_1::Zz .i64 n_2::Zq b_4::Zq b_7::t1)))))) (sel (Nat.beq (Yz n_4-1-1) 0) (Zx t0 (kT fun vs=>cStr vs fun b_7 r=>cInt .i64 r fun n r=>cInt .i64 r fun n_5 r=>onNil r (sel (!n_5==0) (some (Vu (Ex.ret,[Zp b,Zz .i64 n,Zq [],Zq [],Zq [],Zz .i64 0,Zz .i64 n_5,Zq b_4,Zq b_5,Zq b_7,Zz .i64 n_3,Zz .i64 n_4]))) (some (Sum.inl [Zp b,Zz .i64 n,Zq b_1,Zq b_2,Zq b_3,Zz .i64 n_1,Zz .i64 n_2,Zq b_4,Zq b_5,Zq b_7,Zz .i64 n_3,Zz .i64 (Zf .i64 (n_4+1))]))))) none)))) (some (Vu (Ex.exit 0,[Zp b,Zz .i64 n,Zq b_1,Zq b_2,Zq b_3,Zz .i64 n_1,Zz .i64 n_2,Zq b_4,Zq b_5,Zq b_6,Zz .i64 n_3,Zz .i64 n_4]))))) [Zp b,Zz .i64 pos,Zq [],Zq [],Zq [],Zz .i64 0,Zz .i64 0,Zq [],Zq [],Zq [],Zz .i64 (↑(Zy [0+0,0+1,0+2]):Int),Zz .i64 0]) fun (r:Ex×List AV)=>cBs (Zh r) fun b r_1=>cInt .i64 r_1 fun n r_2=>cStr r_2 fun b r_3=>cStr r_3 fun b_1 r_4=>cStr r_4 fun b_2 r_5=>cInt .i64 r_5 fun n_1 r_6=>cInt .i64 r_6 fun n_2 r_7=>cStr r_7 fun b_3 r_8=>cStr r_8 fun b_4 r_9=>cStr r_9 fun b_5 r_10=>cInt .i64 r_10 fun n_3 r_11=>cInt .i64 r_11 fun n_4 r_12=>onNil r_12 (exK r.1 (some (Zm [Xm [Zq b,Zq b_1,Zq b_2],Zz .i64 n_1,Zz .i64 n_2],[])) fun (j:Nat)=>sel (Nat.beq j 0) (Zx (chk (l63 b_3&&l63 b_4&&l63 b_5) (some (Zw (Yk (Zn b_3 b_4 b_5)),[]))) (kL fun b=>sel (!b) (some (Zm [Xm [Zq [],Zq [],Zq []],Zz .i64 0,Zz .i64 103],[])) (some (Zm [Xm [Zq b_3,Zq b_4,Zq b_5],Zz .i64 n,Zz .i64 0],[])))) none):Option (AV×Blocks))) (by kernel_rfl) ?_
  delta kT kL
  try dsimp only [cStr,cBs,cBool,cU8,cInt,cSl,l63]
  have hb:=of_decide_eq_true hpre
  obtain ⟨T0,hT0⟩:∃ T,T=Xq b pos:=⟨_,rfl⟩
  obtain ⟨T1,hT1⟩:∃ T,T=Xq b T0.next:=⟨_,rfl⟩
  obtain ⟨T2,hT2⟩:∃ T,T=Xq b T1.next:=⟨_,rfl⟩
  have hp:Kerb.prin b pos=if T0.err≠0 then ⟨Kerb.noPrin,0,T0.err⟩ else if T1.err≠0 then ⟨Kerb.noPrin,0,T1.err⟩ else if T2.err≠0 then ⟨Kerb.noPrin,0,T2.err⟩
    else if Yk ⟨T0.val,T1.val,T2.val⟩ then ⟨⟨T0.val,T1.val,T2.val⟩,T2.next,0⟩ else ⟨Kerb.noPrin,0,103⟩:=by
   rw [hT2,hT1,hT0];rfl
  have k0:=Vg b pos
  rw [← hT0] at k0
  have k1:=Vg b T0.next
  rw [← hT1] at k1
  have k2:=Vg b T1.next
  rw [← hT2] at k2
  refine loop_rounds (fun i:Nat=>match i with
    | 0=>[Zp b,Zz Zd pos,Zq [],Zq [],Zq [],Zz Zd 0,Zz Zd 0,Zq [],Zq [],Zq [],Zz Zd 3,Zz Zd 0]
    | 1=>[Zp b,Zz Zd T0.next,Zq [],Zq [],Zq [],Zz Zd 0,Zz Zd 0,Zq T0.val,Zq [],Zq [],Zz Zd 3,Zz Zd 1]
    | 2=>[Zp b,Zz Zd T1.next,Zq [],Zq [],Zq [],Zz Zd 0,Zz Zd 0,Zq T0.val,Zq T1.val,Zq [],Zz Zd 3,Zz Zd 2]
    | _=>[Zp b,Zz Zd T2.next,Zq [],Zq [],Zq [],Zz Zd 0,Zz Zd 0,Zq T0.val,Zq T1.val,Zq T2.val,Zz Zd 3,Zz Zd 3])
   (fun i=>i≤3∧(1≤i→T0.err=0)∧(2≤i→T1.err=0)∧(3≤i→T2.err=0)) (fun i=>3-i)
   (fun r=>(T0.err=0∧T1.err=0∧T2.err=0∧r=(Ex.exit 0,[Zp b,Zz Zd T2.next,Zq [],Zq [],Zq [],Zz Zd 0,Zz Zd 0,Zq T0.val,Zq T1.val,Zq T2.val,Zz Zd 3,Zz Zd 3])) ∨
    ∃ n x y z i,Kerb.prin b pos=⟨Kerb.noPrin,0,(Kerb.prin b pos).err⟩∧r=(Ex.ret,[Zp b,Zz Zd n,Zq [],Zq [],Zq [],Zz Zd 0,Zz Zd (Kerb.prin b pos).err,Zq x,Zq y,Zq z,Zz Zd 3,Zz Zd i])) 0 ⟨by omega,by omega,by omega,by omega⟩ rfl ?_ ?_
  ·rintro i ⟨hi,g0,g1,g2⟩
   have hc:i=0∨i=1∨i=2∨i=3:=by omega
   rcases hc with rfl | rfl | rfl | rfl
   ·simp only [A0]
    rw [sel_pos (by decide),chk_of (by decide),sel_pos (by decide),chk_of hpre,← hT0]
    by_cases h:T0.err=0
    ·rw [sel_neg (by simp [h])]
     exact ⟨_,rfl,1,rfl,⟨by omega,fun _=>h,by omega,by omega⟩,by dsimp only;omega⟩
    ·rw [sel_pos (by simpa using h)]
     exact ⟨_,rfl,.inr ⟨_,_,_,_,_,by rw [hp,if_pos h],by rw [hp,if_pos h]⟩⟩
   ·simp only [A0]
    have e0:=g0 (by omega)
    rw [sel_pos (by decide),chk_of (by decide),sel_neg (by decide),sel_pos (by decide),chk_of hpre,← hT1]
    by_cases h:T1.err=0
    ·rw [sel_neg (by simp [h])]
     exact ⟨_,rfl,2,rfl,⟨by omega,fun _=>e0,fun _=>h,by omega⟩,by dsimp only;omega⟩
    ·rw [sel_pos (by simpa using h)]
     exact ⟨_,rfl,.inr ⟨_,_,_,_,_,by rw [hp,if_neg (by simp [e0]),if_pos h],by rw [hp,if_neg (by simp [e0]),if_pos h]⟩⟩
   ·simp only [A0]
    have e0:=g0 (by omega)
    have e1:=g1 (by omega)
    rw [sel_pos (by decide),chk_of (by decide),sel_neg (by decide),sel_neg (by decide),sel_pos (by decide),chk_of hpre,← hT2]
    by_cases h:T2.err=0
    ·rw [sel_neg (by simp [h])]
     exact ⟨_,rfl,3,rfl,⟨by omega,fun _=>e0,fun _=>e1,fun _=>h⟩,by dsimp only;omega⟩
    ·rw [sel_pos (by simpa using h)]
     exact ⟨_,rfl,.inr ⟨_,_,_,_,_,by rw [hp,if_neg (by simp [e0]),if_neg (by simp [e1]),if_pos h],by rw [hp,if_neg (by simp [e0]),if_neg (by simp [e1]),if_pos h]⟩⟩
   ·simp only [A0]
    rw [sel_neg (by decide)]
    exact ⟨_,rfl,.inl ⟨g0 (by omega),g1 (by omega),g2 (by omega),rfl⟩⟩
  ·rintro r (⟨e0,e1,e2,rfl⟩ | ⟨n,x,y,z,i,h,rfl⟩)
   ·simp only [A0]
    rw [sel_pos (Nat.beq_refl _),chk_of (by simp;omega),hp,if_neg (by simp [e0]),if_neg (by simp [e1]),if_neg (by simp [e2])]
    cases hv:Yk ⟨T0.val,T1.val,T2.val⟩
    ·rfl
    ·rfl
   ·simp only [A0]
    rw [h]
    rfl
 ·cases h
theorem w179:Walked Tryz.prog G 179 8 sp179:=by
 refine ⟨Tryz.f179,Tryz.func179,by decide +kernel,rfl,fun xs bl r h=> ?_⟩
 unfold sp179 at h
 split at h
 ·rename_i li x y z ad k lf iss sv ins
  obtain ⟨hpre,h2⟩:=chk_inv h;cases h2
  refine Eq.trans (b:=(Zx (chk (decide (Zy x≤9223372036854775807)&&decide (Zy y≤9223372036854775807)&&decide (Zy z≤9223372036854775807)) (some (Zw (Yk (Zn x y z)),[]))) fun (r:AV×Blocks)=>onNilB (Zh r) (Vj (Yy r) fun b=>sel (!b) (some (Zz .i64 103,[])) (Zx (chk (decide (Zy sv≤9223372036854775807)) (some (Zw (Ww sv),[]))) fun (r:AV×Blocks)=>onNilB (Zh r) (Vj (Yy r) fun b=>sel (!b) (some (Zz .i64 103,[])) (Zx (chk (decide (Zy ins≤9223372036854775807)) (some (Zw (Xh ins),[]))) fun (r:AV×Blocks)=>onNilB (Zh r) (Vj (Yy r) fun b=>sel (!b) (some (Zz .i64 103,[])) (Zx (chk (decide (0≤k)&&decide (k<18446744073709551616)) (some (Zz .i64 (Kerb.classOf k),[]))) fun (r:AV×Blocks)=>onNilB (Zh r) (Yh .i64 (Yy r) fun n=>sel (!n==2) (some (Zz .i64 10,[])) (sel (!Zb ad 4294967295) (some (Zz .i64 104,[])) (sel (!Zb lf 255) (some (Zz .i64 104,[])) (sel (!Zb iss 4294967295) (some (Zz .i64 104,[])) (some (Zz .i64 0,[])))))))))))):Option (AV×Blocks))) (by kernel_rfl) ?_
  simp only [Yv,decide_eq_true_eq] at hpre
  obtain ⟨⟨⟨⟨⟨⟨h1,h2⟩,h3⟩,h4⟩,h5⟩,h6⟩,h7⟩:=hpre
  simp only [h1,h2,h3,h4,h5,h6,h7,decide_true,Xj,↓A0,A0]
  unfold Kerb.Ticket.err
  dsimp only
  cases Yk ⟨x,y,z⟩
  ·rfl
  cases Ww sv
  ·rfl
  cases Xh ins
  ·rfl
  simp only [Yq,Xj,sel_false]
  by_cases hc:Kerb.classOf k=2
  case neg=>rw [sel_pos (by simpa using hc),if_neg (by simp),if_pos hc]
  rw [sel_neg (by simp [hc]),if_neg (by simp),if_neg (by simp [hc])]
  cases Zb ad 4294967295
  ·rfl
  cases Zb lf 255
  ·rfl
  cases Zb iss 4294967295
  ·rfl
  rfl
 ·cases h
theorem w181:Walked Tryz.prog G 181 8 sp181:=by
 refine ⟨Tryz.f181,Tryz.func181,by decide +kernel,rfl,fun xs bl r h=> ?_⟩
 unfold sp181 at h
 split at h
 ·rename_i x y z ck tc tm
  obtain ⟨hpre,h2⟩:=chk_inv h;cases h2
  refine Eq.trans (b:=(Zx (chk (decide (Zy x≤9223372036854775807)&&decide (Zy y≤9223372036854775807)&&decide (Zy z≤9223372036854775807)) (some (Zw (Yk (Zn x y z)),[]))) fun (r:AV×Blocks)=>onNilB (Zh r) (Vj (Yy r) fun b=>sel (!b) (some (Zz .i64 103,[])) (sel (!Zb ck 4294967295) (some (Zz .i64 104,[])) (sel (!Zb tc 199) (some (Zz .i64 104,[])) (sel (!Zb tm 4294967295) (some (Zz .i64 104,[])) (some (Zz .i64 0,[])))))):Option (AV×Blocks))) (by kernel_rfl) ?_
  simp only [A0,Wk,Wb,Vx,hpre]
  unfold Kerb.Auth.check
  simp only
  cases Yk ⟨x,y,z⟩
  ·rfl
  cases Zb ck 4294967295
  ·rfl
  cases Zb tc 199
  ·rfl
  cases Zb tm 4294967295<;>rfl
 ·cases h
end Go.Proofs.YtmdppipjjnfanaaGreatDoor
