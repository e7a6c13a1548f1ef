/- What the functions of this seat compute. -/
import Derived.Test.YtojagnkahnpklaaGreatDoorTab
import Derived.Test.YtojagnkahnpklaaGreatDoorKerbPlain
import Derived.Test.YtojagnkahnpklaaGreatDoorAbsStep
import Derived.Test.YtojagnkahnpklaaGreatDoorKerbCli3
import Derived.Test.YtojagnkahnpklaaGreatDoorKerbCli4
import Derived.Test.YtojagnkahnpklaaGreatDoorKerbCli5
import Derived.Test.YtojagnkahnpklaaGreatDoorKerbSrvL
import Derived.Test.YtojagnkahnpklaaGreatDoorKerbKac2
import Derived.Test.YtojagnkahnpklaaGreatDoorKerbKac4
import Derived.Test.YtojagnkahnpklaaGreatDoorKerbSrvP
open Go.Abs.AV renaming int→Zz,str→Zy,agg→Zd,bool→Zh,bs→Yw,sl→Yp,undef→Yb,tup→Yh,onInt→Xw,ownL→Xv,onAgg→Xd,u8→Wp,onOwnL→Vz,ownB→Vn
open Go.IntKind renaming i64→Zx,wrap→Zk,u64→Yq,bits→Vb
open Kerb renaming service→Zw,user→Zv,simpleEnt→Zp,dataEntPrin→Zg,u8i→Zb,nextPos→Zn,nextPos_dec→Zm,next→Yy,eq11→Yu,next_dec1000→Yj,eq3→Yf,next_dec62→Yg,long→Yn,next_dec→Xz,eq2→Xx,findCross→Xq,serviceEnt→Xp,eq10→Xg,toEntry→Xb,dataEnt→Wy,getD_ent→Ww,putPrin_len→Wv,putN→Wu,printable→Wq,validRealm→Wj,bfd→Wk,putText→Wg,dataEntPos→Wn,rdPrin→Wh,validInst→Vy,serv_lt→Vx,get→Vw,crossStep→Vv,useEnt→Vf,headIs→Vg,noCross→Vm,isEntry→Vh,dataDbL→Uz,validName→Uw,within→Uv,byteAt→Uu,bfd_eq→Uq,putN_len→Uk
open List renaming length→Zu,getD→Yd,length_map→Xk,map→Xf,range_succ→Wb,take→Vj,drop→Vk,all→Ux
open Kerb.Entry renaming av→Zq
open Option renaming bind→Zj
open Int renaming toNat→Zf,toNat_natCast→Xu
open Prod renaming snd→Yz,fst→Yv
open Bool renaming and_self→Yx,not_true→Yk,and_eq_true→Xy,not_false→Xj
open Kerb.Cross renaming av→Ym
open Nat renaming beq_refl→Xn,beq→Vd,le_trans→Uy,zero_le→Uj
open Kerb.Prin renaming realm→Xm,name→Xh,inst→Wz,valid→Vq,mk→Vp
open Go.Abs.Ex renaming exit→Wx
open Kerb.Db renaming mk→Wd
open UInt8 renaming toNat→Wf
open Sum renaming inl→Wm,inr→Vu
open Kerb.Got renaming err→Up
namespace Go.Proofs.YtojagnkahnpklaaGreatDoor
open Go Go.Abs Go.Proofs
set_option linter.unusedVariables false
set_option linter.unusedSimpArgs false
set_option maxRecDepth 100000
theorem w116:Walked Tryz.prog G 116 3 sp116:=by
 refine ⟨Tryz.f116,Tryz.func116,by decide +kernel,rfl,fun xs bl r h=> ?_⟩
 unfold sp116 at h
 split at h
 ·rename_i b n k little
  obtain ⟨hpre,h2⟩:=chk_inv h;cases h2
  refine Eq.trans (b:=(Zj (loopM (fun (st:List AV)=>cBs st fun b r=>cInt .i64 r fun n r=>cInt .i64 r fun n_1 r=>cBool r fun b_1 r=>cBs r fun c r=>cInt .i64 r fun n_2 r=>cInt .i64 r fun n_3 r=>let t0:Int:=Zk .i64 (Zk .i64 (n_1-1)-n_3);let t1:UInt8:=UInt8.ofNat (Zf (Zk .u8 (Int.fdiv n (2 ^ min (Zf (Zk .i64 (8*n_3))) (Vb .i64)))));onNil r (sel (decide (n_3<n_2)) (sel (!b_1) (chk (decide (0≤Zk .i64 (8*n_3))) (chk (decide (0≤t0)&&decide (t0<(↑(Zu c):Int))&&Vd (Zu c) 4&&true) (chk (Nat.blt (Zf t0) (Zu c)&&true&&true&&true&&true) (some (Wm [Yw b,Zz .i64 n,Zz .i64 n_1,Zh b_1,Yw (List.set c (Zf t0) t1),Zz .i64 n_2,Zz .i64 (Zk .i64 (n_3+1))]))))) (chk (decide (0≤Zk .i64 (8*n_3))) (chk (decide (0≤n_3)&&decide (n_3<(↑(Zu c):Int))&&Vd (Zu c) 4&&true) (chk (Nat.blt (Zf n_3) (Zu c)&&true&&true&&true&&true) (some (Wm [Yw b,Zz .i64 n,Zz .i64 n_1,Zh b_1,Yw (List.set c (Zf n_3) t1),Zz .i64 n_2,Zz .i64 (Zk .i64 (n_3+1))])))))) (some (Vu (Wx 0,[Yw b,Zz .i64 n,Zz .i64 n_1,Zh b_1,Yw c,Zz .i64 n_2,Zz .i64 n_3]))))) [Yw b,Zz .i64 n,Zz .i64 k,Zh little,Yw [(0:UInt8),(0:UInt8),(0:UInt8),(0:UInt8)],Zz .i64 k,Zz .i64 0]) fun (r:Ex×List AV)=>cBs (Yz r) fun b r_1=>cInt .i64 r_1 fun n r_2=>cInt .i64 r_2 fun n r_3=>cBool r_3 fun b_1 r_4=>cBs r_4 fun c r_5=>let t2:Nat:=Zu [Yw b,Yw (Vk (Zf (↑(0:Nat):Int)) (Vj (Zf n) c))];let t3:Nat:=Zu (List.append b (List.append (Vk (Zf (↑(0:Nat):Int)) (Vj (Zf n) c)) []));cInt .i64 r_5 fun n_1 r_6=>cInt .i64 r_6 fun n_2 r_7=>onNil r_7 (exK r.1 none fun (j:Nat)=>sel (Vd j 0) (chk (decide ((↑(0:Nat):Int)≤n)&&decide (n≤(↑(Zu c):Int))&&Vd (Zu c) 4) (Zj (chk (decide (t3≤140737488355328)&&decide (t2≤1000)) (some (Vn (List.append b (List.append (Vk (Zf (↑(0:Nat):Int)) (Vj (Zf n) c)) [])),[]))) (kO fun l=>some (Vn l,[])))) none):Option (AV×Blocks))) (by kernel_rfl) ?_
  delta kO
  try dsimp only [cStr,cBs,cBool,cU8,cInt,cSl,l63]
  simp only [Xy,decide_eq_true_eq] at hpre
  obtain ⟨hk,hb⟩:=hpre
  rcases hk with rfl | rfl | rfl<;>cases little
  ·refine loop_unroll 2 (Wx 0,[Yw b,Zz Zx n,Zz Zx 1,Zh false,Yw [Wk n 0,(0:UInt8),(0:UInt8),(0:UInt8)],Zz Zx 1,Zz Zx 1]) (by kernel_rfl) ?_
   simp only [A0]
   rw [sel_pos (Xn _),chk_of (by simp),chk_of (by simp;omega)]
   simp [Uq,Wu,Uu,Wb]
  ·refine loop_unroll 2 (Wx 0,[Yw b,Zz Zx n,Zz Zx 1,Zh true,Yw [Wk n 0,(0:UInt8),(0:UInt8),(0:UInt8)],Zz Zx 1,Zz Zx 1]) (by kernel_rfl) ?_
   simp only [A0]
   rw [sel_pos (Xn _),chk_of (by simp),chk_of (by simp;omega)]
   simp [Uq,Wu,Uu,Wb]
  ·refine loop_unroll 3 (Wx 0,[Yw b,Zz Zx n,Zz Zx 2,Zh false,Yw [Wk n 8,Wk n 0,(0:UInt8),(0:UInt8)],Zz Zx 2,Zz Zx 2]) (by kernel_rfl) ?_
   simp only [A0]
   rw [sel_pos (Xn _),chk_of (by simp),chk_of (by simp;omega)]
   simp [Uq,Wu,Uu,Wb]
  ·refine loop_unroll 3 (Wx 0,[Yw b,Zz Zx n,Zz Zx 2,Zh true,Yw [Wk n 0,Wk n 8,(0:UInt8),(0:UInt8)],Zz Zx 2,Zz Zx 2]) (by kernel_rfl) ?_
   simp only [A0]
   rw [sel_pos (Xn _),chk_of (by simp),chk_of (by simp;omega)]
   simp [Uq,Wu,Uu,Wb]
  ·refine loop_unroll 5 (Wx 0,[Yw b,Zz Zx n,Zz Zx 4,Zh false,Yw [Wk n 24,Wk n 16,Wk n 8,Wk n 0],Zz Zx 4,Zz Zx 4]) (by kernel_rfl) ?_
   simp only [A0]
   rw [sel_pos (Xn _),chk_of (by simp),chk_of (by simp;omega)]
   simp [Uq,Wu,Uu,Wb]
  ·refine loop_unroll 5 (Wx 0,[Yw b,Zz Zx n,Zz Zx 4,Zh true,Yw [Wk n 0,Wk n 8,Wk n 16,Wk n 24],Zz Zx 4,Zz Zx 4]) (by kernel_rfl) ?_
   simp only [A0]
   rw [sel_pos (Xn _),chk_of (by simp),chk_of (by simp;omega)]
   simp [Uq,Wu,Uu,Wb]
 ·cases h
theorem w5:Walked Tryz.prog G 5 4 sp5:=by
 refine ⟨Tryz.f5,Tryz.func5,by decide +kernel,rfl,fun xs bl r h=> ?_⟩
 unfold sp5 at h
 split at h
 ·rename_i l
  obtain ⟨hpre,h2⟩:=chk_inv h;cases h2
  refine Eq.trans (b:=(Zj (chk (decide (Zu l≤100000)) (some (Yp 4 (Xf Ym (Kerb.dataCross l)),[]))) fun (r:AV×Blocks)=>onNilB (Yz r) (AV.onSl 4 (Yv r) fun b=>Zj (loopM (fun (st:List AV)=>cSl 4 st fun b r=>onCons r fun x r=>Vz x fun b_1=>cInt .i64 r fun n r=>let t0:Option (List AV ⊕ Ex×List AV):=some (Vu (Wx 0,[Yp 4 b,Xv b_1,Zz .i64 n]));onNil r (sel (decide (n<(↑(Zu b):Int))) (sel (decide ((↑(Zu b_1):Int)<20)) (chk (decide (0≤n)&&decide (n<(↑(Zu b):Int))&&true) (Xd (Yd b (Zf n) Yb) fun cs=>cStr cs fun b_2 r=>cStr r fun b_3 r=>cInt .i64 r fun n_1 r=>cInt .u64 r fun n_2 r=>onNil r (chk (decide (0≤n)&&decide (n<(↑(Zu b):Int))&&true) (Xd (Yd b (Zf n) Yb) fun cs=>cStr cs fun b_4 r=>cStr r fun b_5 r=>cInt .i64 r fun n_3 r=>cInt .u64 r fun n_4 r=>onNil r (Zj (loopM (fun (st:List AV)=>cSl 4 st fun b r=>onCons r fun x r=>Vz x fun b_6=>cInt .i64 r fun n r=>let t1:Bool:=decide (0≤n)&&decide (n<(↑(Zu b):Int))&&true;cBool r fun b_7 r=>cInt .i64 r fun n_5 r=>let t2:Bool:=decide (0≤n_5)&&decide (n_5<(↑(Zu b_6):Int))&&true;let t4:List AV:=[Zz .i64 (Zk .i64 (n_5+1))];let t3:Option (List AV ⊕ Ex×List AV):=some (Wm (Yp 4 b::Xv b_6::Zz .i64 n::Zh true::t4));onNil r (sel (decide (n_5<(↑(Zu b_6):Int))) (sel b_7 (chk t2 (chk (Nat.blt (Zf n_5) (Zu b_6)&&true) (Xd (Yd b_6 (Zf n_5) Yb) fun cs=>cStr cs fun b_8 r=>cStr r fun b_9 r=>cInt .i64 r fun n_6 r=>cInt .u64 r fun n_7 r=>onNil r (chk t1 (Xd (Yd b (Zf n) Yb) fun cs=>cStr cs fun b_10 r=>cStr r fun b_11 r=>cInt .i64 r fun n_8 r=>cInt .u64 r fun n_9 r=>onNil r (sel (!b_8==b_10) t3 (chk t2 (chk (Nat.blt (Zf n_5) (Zu b_6)&&true) (Xd (Yd b_6 (Zf n_5) Yb) fun cs=>cStr cs fun b_12 r=>cStr r fun b_13 r=>cInt .i64 r fun n_10 r=>cInt .u64 r fun n_11 r=>onNil r (chk t1 (Xd (Yd b (Zf n) Yb) fun cs=>cStr cs fun b_14 r=>cStr r fun b_15 r=>cInt .i64 r fun n_12 r=>cInt .u64 r fun n_13 r=>onNil r (sel (!b_13==b_15) t3 (chk t2 (chk (Nat.blt (Zf n_5) (Zu b_6)&&true) (Xd (Yd b_6 (Zf n_5) Yb) fun cs=>cStr cs fun b_16 r=>cStr r fun b_17 r=>cInt .i64 r fun n_14 r=>cInt .u64 r fun n_15 r=>onNil r (chk t1 (Xd (Yd b (Zf n) Yb) fun cs=>cStr cs fun b_18 r=>cStr r fun b_19 r=>cInt .i64 r fun n_16 r=>cInt .u64 r fun n_17 r=>onNil r (some (Wm (Yp 4 b::Xv b_6::Zz .i64 n::(Zh !n_14==n_16)::t4)))))))))))))))))))) (some (Wm (Yp 4 b::Xv b_6::Zz .i64 n::Zh false::t4)))) (some (Vu (Wx 2,[Yp 4 b,Xv b_6,Zz .i64 n,Zh b_7,Zz .i64 n_5]))))) [Yp 4 b,Xv b_1,Zz .i64 n,Zh !b_2==b_5,Zz .i64 0]) fun (r:Ex×List AV)=>cSl 4 (Yz r) fun b r_1=>onCons r_1 fun x r_2=>Vz x fun b_6=>cInt .i64 r_2 fun n r_3=>cBool r_3 fun b_7 r_4=>cInt .i64 r_4 fun n_5 r_5=>onNil r_5 (exK r.1 (some (Vu (Ex.ret,[Yp 4 b,Xv b_6,Zz .i64 n]))) fun (j:Nat)=>sel (Vd j 2) (sel b_7 (chk (decide (0≤n)&&decide (n<(↑(Zu b):Int))&&true) (Xd (Yd b (Zf n) Yb) fun cs=>cStr cs fun b_8 r=>cStr r fun b_9 r=>cInt .i64 r fun n_6 r=>cInt .u64 r fun n_7 r=>let t5:List AV:=[Zd [Zy b_8,Zy b_9,Zz .i64 n_6,Zz .u64 n_7]];onNil r (chk (room (Zu b_6+Zu t5) (nat_lit 48)) (some (Wm [Yp 4 b,Xv (b_6++t5),Zz .i64 (Zk .i64 (n+1))]))))) (some (Wm [Yp 4 b,Xv b_6,Zz .i64 (Zk .i64 (n+1))]))) none)))))) t0) t0)) [Yp 4 b,Xv [],Zz .i64 0]) fun (r:Ex×List AV)=>cSl 4 (Yz r) fun b r_1=>onCons r_1 fun x r_2=>Vz x fun b=>cInt .i64 r_2 fun n r_3=>onNil r_3 (exK r.1 none fun (j:Nat)=>sel (Vd j 0) (some (Yp 4 b,[])) none)):Option (AV×Blocks))) (by kernel_rfl) ?_
  try dsimp only [cStr,cBs,cBool,cU8,cInt,cSl,l63]
  have hl:=of_decide_eq_true hpre
  obtain ⟨al,has⟩:∃ a,Kerb.dataCross l=a:=⟨_,rfl⟩
  have hgood:Kerb.goodCross l=al.foldl Vv []:=by rw [← has];rfl
  have r48:∀ {m:Nat},m≤1000→Go.Abs.room m 48=true:=fun h=>by simp [Go.Abs.room];omega
  have hla:al.length≤25:=by rw [← has];exact (Kerb.dataCross_ok l).1
  simp (config:={maxSteps:=10000000}) only [hpre,has,hgood,↓A0,A0]
  refine loop_rounds (fun q:Nat×List Kerb.Cross=>[Yp 4 (al.map Ym),Xv (q.2.map Ym),Zz Zx (q.1:Int)]) (fun q=>q.1≤al.length∧q.2.length≤20∧al.foldl Vv []=(al.drop q.1).foldl Vv q.2) (fun q=>al.length-q.1)
   (fun r=>∃ i:Int,r=(Wx 0,[Yp 4 (al.map Ym),Xv ((al.foldl Vv []).map Ym),Zz Zx i])) (0,[]) ⟨Uj _,by simp,by simp⟩ rfl ?_ ?_
  ·rintro ⟨i,out⟩ ⟨hi,ho,he⟩
   dsimp only at hi ho he
   simp (config:={maxSteps:=10000000}) only [Xk,↓sInt,↓sU8,↓sBool,↓sStr,↓sBs,↓sSl,↓sAgg,↓sTup,↓sCons,↓sNil,↓sNilB,↓sChk,↓sChkBind,↓sSome,↓sOwnL,↓sConsB,↓sOwnB]
   by_cases h1:i<al.length
   case neg =>
    rw [sel_neg (by simp;omega)]
    rw [List.drop_eq_nil_of_le (by omega)] at he
    exact ⟨_,rfl,(i:Int),by rw [he];rfl⟩
   rw [sel_pos (by simp;omega)]
   by_cases h2:out.length<20
   case neg =>
    rw [sel_neg (by simp;omega)]
    rw [Kerb.crossStep_full (out:=out) (by omega)] at he
    exact ⟨_,rfl,(i:Int),by rw [he]⟩
   rw [sel_pos (by simp;omega)]
   obtain ⟨c,hc⟩:∃ c,al.getD i Vm=c:=⟨_,rfl⟩
   have hgi:(al.map Ym).getD i Yb=c.av:=by rw [Kerb.getD_row (d:=Vm) h1,hc]
   have hki:(decide ((0:Int)≤(i:Int))&&decide ((i:Int)<(al.length:Int))&&true)=true:=by simp;omega
   rw [Kerb.drop_row (d:=Vm) h1,hc,List.foldl_cons] at he
   simp (config:={maxSteps:=10000000}) only [hki,hgi,Xu,Ym,↓sInt,↓sU8,↓sBool,↓sStr,↓sBs,↓sSl,↓sAgg,↓sTup,↓sCons,↓sNil,↓sNilB,↓sChk,↓sChkBind,↓sSome,↓sOwnL,↓sConsB,↓sOwnB]
   refine loop_ex (fun k:Nat=>[Yp 4 (al.map Ym),Xv (out.map Ym),Zz Zx (i:Int),Zh (!(c.source==c.target) && !(out.take k).any c.alike),Zz Zx (k:Int)]) (fun k=>k≤out.length) (fun k=>out.length-k)
    (fun r=>r=(Wx 2,[Yp 4 (al.map Ym),Xv (out.map Ym),Zz Zx (i:Int),Zh (!(c.source==c.target) && !out.any c.alike),Zz Zx (out.length:Int)])) 0 (Uj _) (by simp) ?_ ?_
   ·intro k hk
    simp (config:={maxSteps:=10000000}) only [Xk,↓sInt,↓sU8,↓sBool,↓sStr,↓sBs,↓sSl,↓sAgg,↓sTup,↓sCons,↓sNil,↓sNilB,↓sChk,↓sChkBind,↓sSome,↓sOwnL,↓sConsB,↓sOwnB]
    by_cases h3:k<out.length
    case neg =>
     rw [sel_neg (by simp;omega)]
     have:k=out.length:=by omega
     subst this
     rw [List.take_length]
     exact ⟨_,rfl,rfl⟩
    rw [sel_pos (by simp;omega)]
    obtain ⟨d,hd⟩:∃ d,out.getD k Vm=d:=⟨_,rfl⟩
    have hgk:(out.map Ym).getD k Yb=d.av:=by rw [Kerb.getD_row (d:=Vm) h3,hd]
    have hkk:(decide ((0:Int)≤(k:Int))&&decide ((k:Int)<(out.length:Int))&&true)=true:=by simp;omega
    have hbk:(Nat.blt k out.length&&true)=true:=by simp [Nat.blt_eq];omega
    have htk:(out.take (k+1)).any c.alike=((out.take k).any c.alike||c.alike d):=by
     rw [Kerb.take_row (d:=Vm) h3,hd,List.any_append];simp
    rw [wrap_i64 (by omega) (by omega)]
    cases h4:(!(c.source==c.target) && !(out.take k).any c.alike)
    ·have h9:(!(c.source==c.target) && !(out.take (k+1)).any c.alike)=false:=by
      rw [htk,Bool.not_or,← Bool.and_assoc,h4];rfl
     exact ⟨_,rfl,k+1,by dsimp only;rw [h9];rfl,by omega,by dsimp only;omega⟩
    ·have h9:(!(c.source==c.target) && !(out.take (k+1)).any c.alike) = !(c.alike d):=by
      rw [htk,Bool.not_or,← Bool.and_assoc,h4,Bool.true_and]
     have he0:c.alike d=(d.source==c.source&&(d.target==c.target&&d.kvno==c.kvno)):=rfl
     simp (config:={maxSteps:=10000000}) only [↓sTrue,hkk,hki,hbk,hgk,hgi,Xu,Ym,↓sInt,↓sU8,↓sBool,↓sStr,↓sBs,↓sSl,↓sAgg,↓sTup,↓sCons,↓sNil,↓sNilB,↓sChk,↓sChkBind,↓sSome,↓sOwnL,↓sConsB,↓sOwnB]
     cases h5:(d.source==c.source)
     ·rw [h5,Bool.false_and] at he0
      exact ⟨_,rfl,k+1,by dsimp only;rw [h9,he0];rfl,by omega,by dsimp only;omega⟩
     rw [h5,Bool.true_and] at he0
     cases h6:(d.target==c.target)
     ·rw [h6,Bool.false_and] at he0
      exact ⟨_,rfl,k+1,by dsimp only;rw [h9,he0];rfl,by omega,by dsimp only;omega⟩
     rw [h6,Bool.true_and] at he0
     exact ⟨_,rfl,k+1,by dsimp only;rw [h9,he0];rfl,by omega,by dsimp only;omega⟩
   ·rintro _ rfl
    simp (config:={maxSteps:=10000000}) only [Xk,↓A0,A0]
    rw [sel_pos (Xn _),wrap_i64 (by omega) (by omega)]
    have hst:Vv out c=if (!(c.source==c.target) && !out.any c.alike)=true then out++[c] else out:=by
     unfold Vv
     by_cases q1:c.source=c.target
     ·rw [if_pos (.inr (.inl q1)),if_neg (by simp [q1])]
     by_cases q:out.any c.alike=true
     ·rw [if_pos (.inr (.inr q)),if_neg (by simp [q])]
     ·rw [if_neg (by rintro (h | h | h);omega;exact q1 h;exact q h),if_pos (by simp [q1];simpa using q)]
    cases h6:(!(c.source==c.target) && !out.any c.alike)
    case true =>
     rw [h6,if_pos rfl] at hst
     rw [hst] at he
     simp (config:={maxSteps:=10000000}) only [↓sTrue,hki,hgi,Xu,Ym,List.length_cons,List.length_nil,↓sInt,↓sU8,↓sBool,↓sStr,↓sBs,↓sSl,↓sAgg,↓sTup,↓sCons,↓sNil,↓sNilB,↓sChk,↓sChkBind,↓sSome,↓sOwnL,↓sConsB,↓sOwnB]
     rw [chk_of (r48 (by omega))]
     refine ⟨_,rfl,(i+1,out++[c]),?_,⟨by dsimp only;omega,by dsimp only;simp;omega,he⟩,by dsimp only;omega⟩
     dsimp only
     rw [List.map_append]
     rfl
    ·rw [h6,if_neg (by simp)] at hst
     rw [hst] at he
     exact ⟨_,rfl,(i+1,out),rfl,⟨by dsimp only;omega,ho,he⟩,by dsimp only;omega⟩
  ·rintro _ ⟨p,rfl⟩
   simp only [↓A0,A0]
   rw [sel_pos (Xn _)]
 ·cases h
theorem w8:Walked Tryz.prog G 8 4 sp8:=by
 refine ⟨Tryz.f8,Tryz.func8,by decide +kernel,rfl,fun xs bl r h=> ?_⟩
 unfold sp8 at h
 split at h
 ·rename_i lf xp bd
  cases h
  refine Eq.trans (b:=(Zj (loopM (fun (st:List AV)=>cU8 st fun b r=>cU8 r fun b_1 r=>cU8 r fun b_2 r=>cStr r fun b_3 r=>cSl 9 r fun b_4 r=>cStr r fun b_5 r=>onCons r fun x r=>Vz x fun y=>cSl 3 r fun b_6 r=>cInt .i64 r fun n r=>onNil r (sel (decide (n<(↑(Zu b_6):Int))) (chk (decide (0≤n)&&decide (n<(↑(Zu b_6):Int))&&true) (Xd (Yd b_6 (Zf n) Yb) fun cs=>cStr cs fun b_7 r=>cStr r fun b_8 r=>cStr r fun b_9 r=>onNil r (chk (decide (0≤n)&&decide (n<(↑(Zu b_6):Int))&&true) (Xd (Yd b_6 (Zf n) Yb) fun cs=>cStr cs fun b_10 r=>cStr r fun b_11 r=>cStr r fun b_12 r=>onNil r (Zj (chk (decide (0≤n)&&decide (n≤1000)) (some (Zz .u64 (Yn n),[]))) (kI .u64 fun n_1=>Zj (sel (Int.tmod (Zk .i64 (↑(Wf b_2):Int)) 16==n) (some [Wp b,Wp b_1,Wp b_2,Zy b_3,Yp 9 b_4,Zy b_5,Xv y,Yp 3 b_6,Zz .i64 n,Zy b_7,Zy b_11,Zz .u64 n_1,Zz .i64 (Zk .i64 (3+n)),Zz .i64 0,Zz .i64 (Zk .i64 (↑(Wf b):Int)),Zz .i64 (Zk .i64 (1+Int.tmod (Zk .i64 (Int.tdiv (Zk .i64 (↑(Wf b_2):Int)) 16)) 3)),Zz .i64 0,Zz .i64 0]) (some [Wp b,Wp b_1,Wp b_2,Zy b_3,Yp 9 b_4,Zy b_5,Xv y,Yp 3 b_6,Zz .i64 n,Zy b_7,Zy b_11,Zz .u64 n_1,Zz .i64 (Zk .i64 (3+n)),Zz .i64 0,Zz .i64 (Zk .i64 (↑(Wf b):Int)),Zz .i64 0,Zz .i64 0,Zz .i64 0])) fun l=>cU8 l fun b r=>cU8 r fun b_13 r=>cU8 r fun b_14 r=>cStr r fun b_15 r=>cSl 9 r fun b_16 r=>cStr r fun b_17 r=>onCons r fun x r=>Vz x fun y=>cSl 3 r fun b_18 r=>cInt .i64 r fun n r=>cStr r fun b_19 r=>cStr r fun b_20 r=>cInt .u64 r fun n_2 r=>cInt .i64 r fun n_3 r=>cInt .i64 r fun n_4 r=>cInt .i64 r fun n_5 r=>cInt .i64 r fun n_6 r=>cInt .i64 r fun n_7 r=>cInt .i64 r fun n_8 r=>let t0:List AV:=[Zz .i64 n_5,Zz .i64 n_6,Zz .i64 n_7,Zz .i64 n_8];onNil r (Zj (sel (Int.tmod (Zk .i64 (↑(Wf b_14):Int)) 16==Zk .i64 (8+n)) (some (Wp b::Wp b_13::Wp b_14::Zy b_15::Yp 9 b_16::Zy b_17::Xv y::Yp 3 b_18::Zz .i64 n::Zy b_19::Zy b_20::Zz .u64 n_2::Zz .i64 n_3::Zz .i64 (Zk .i64 (1000+Zk .i64 (Zk .i64 (↑(Wf b_13):Int)*100)))::t0)) (some (Wp b::Wp b_13::Wp b_14::Zy b_15::Yp 9 b_16::Zy b_17::Xv y::Yp 3 b_18::Zz .i64 n::Zy b_19::Zy b_20::Zz .u64 n_2::Zz .i64 n_3::Zz .i64 n_4::t0))) fun l=>cU8 l fun b r=>cU8 r fun b_21 r=>cU8 r fun b_22 r=>cStr r fun b_23 r=>cSl 9 r fun b_24 r=>cStr r fun b_25 r=>onCons r fun x r=>Vz x fun y=>cSl 3 r fun b_26 r=>cInt .i64 r fun n r=>cStr r fun b_27 r=>cStr r fun b_28 r=>cInt .u64 r fun n_9 r=>cInt .i64 r fun n_10 r=>cInt .i64 r fun n_11 r=>cInt .i64 r fun n_12 r=>cInt .i64 r fun n_13 r=>cInt .i64 r fun n_14 r=>cInt .i64 r fun n_15 r=>let t1:List AV:=[Zd [Zy b_27,Zy b_28,Zz .u64 n_9,Zz .i64 n_10,Zz .i64 n_11,Zz .i64 n_12,Zz .i64 n_13,Zz .i64 n_14,Zz .i64 n_15]];onNil r (chk (room (Zu y+Zu t1) (nat_lit 88)) (some (Wm [Wp b,Wp b_21,Wp b_22,Zy b_23,Yp 9 b_24,Zy b_25,Xv (y++t1),Yp 3 b_26,Zz .i64 (Zk .i64 (n+1))])))))))))) (some (Vu (Wx 0,[Wp b,Wp b_1,Wp b_2,Zy b_3,Yp 9 b_4,Zy b_5,Xv y,Yp 3 b_6,Zz .i64 n]))))) [Wp lf,Wp xp,Wp bd,Zy [],Yp 9 [],Zy [(65:UInt8),(84:UInt8),(72:UInt8)],Xv [],Yp 3 [Zd [Zy (Xh (Zv 0)),Zy (Wz (Zv 0)),Zy (Xm (Zv 0))],Zd [Zy (Xh (Zv 1)),Zy (Wz (Zv 1)),Zy (Xm (Zv 1))],Zd [Zy (Xh (Zv 2)),Zy (Wz (Zv 2)),Zy (Xm (Zv 2))],Zd [Zy (Xh (Zw 2)),Zy (Wz (Zw 2)),Zy (Xm (Zw 2))],Zd [Zy (Xh (Zw 0)),Zy (Wz (Zw 0)),Zy (Xm (Zw 0))],Zd [Zy (Xh (Zw 1)),Zy (Wz (Zw 1)),Zy (Xm (Zw 1))]],Zz .i64 0]) fun (r:Ex×List AV)=>cU8 (Yz r) fun b r_1=>cU8 r_1 fun b r_2=>cU8 r_2 fun b r_3=>cStr r_3 fun b r_4=>cSl 9 r_4 fun b_1 r_5=>cStr r_5 fun b_2 r_6=>onCons r_6 fun x r_7=>Vz x fun y=>cSl 3 r_7 fun b_3 r_8=>cInt .i64 r_8 fun n r_9=>onNil r_9 (exK r.1 (some (Zd [Zy b,Yp 9 b_1],[])) fun (j:Nat)=>sel (Vd j 0) (some (Zd [Zy b_2,Yp 9 y],[])) none):Option (AV×Blocks))) (by kernel_rfl) ?_
  delta kI
  try dsimp only [cStr,cBs,cBool,cU8,cInt,cSl,l63]
  have b0:=Kerb.u8i_bd lf
  have b1:=Kerb.u8i_bd xp
  have b2:=Kerb.u8i_bd bd
  have e0:=Kerb.wrap_u8i
  have e1:Int.tmod (Zb bd) 16=Zb bd % 16:=Int.tmod_eq_emod_of_nonneg b2.1
  have e2:Zk .i64 (1000+Zk .i64 (Zb xp*100))=1000+Zb xp*100:=by rw [wrap_i64 (n:=Zb xp*100) (by omega) (by omega),wrap_i64 (by omega) (by omega)]
  have e3:Zk .i64 (1+Int.tmod (Zk .i64 (Int.tdiv (Zb bd) 16)) 3)=1+Zb bd / 16 % 3:=by
   rw [Int.tdiv_eq_ediv_of_nonneg b2.1,wrap_i64 (n:=Zb bd / 16) (by omega) (by omega),Int.tmod_eq_emod_of_nonneg (by omega),wrap_i64 (by omega) (by omega)]
  refine loop_rounds (fun i:Nat=>[Wp lf,Wp xp,Wp bd,Zy [],Yp 9 [],Zy [65,84,72],Xv (((Kerb.simpleDb lf xp bd).entries.take i).map Zq),Yp 3 [Zd [Zy (Zv 0).name,Zy (Zv 0).inst,Zy (Zv 0).realm],Zd [Zy (Zv 1).name,Zy (Zv 1).inst,Zy (Zv 1).realm],Zd [Zy (Zv 2).name,Zy (Zv 2).inst,Zy (Zv 2).realm],Zd [Zy (Zw 2).name,Zy (Zw 2).inst,Zy (Zw 2).realm],Zd [Zy (Zw 0).name,Zy (Zw 0).inst,Zy (Zw 0).realm],Zd [Zy (Zw 1).name,Zy (Zw 1).inst,Zy (Zw 1).realm]],Zz Zx (i:Int)]) (fun i=>i≤6) (fun i=>6-i)
   (fun r=>r=(Wx 0,[Wp lf,Wp xp,Wp bd,Zy [],Yp 9 [],Zy [65,84,72],Xv ((Kerb.simpleDb lf xp bd).entries.map Zq),Yp 3 [Zd [Zy (Zv 0).name,Zy (Zv 0).inst,Zy (Zv 0).realm],Zd [Zy (Zv 1).name,Zy (Zv 1).inst,Zy (Zv 1).realm],Zd [Zy (Zv 2).name,Zy (Zv 2).inst,Zy (Zv 2).realm],Zd [Zy (Zw 2).name,Zy (Zw 2).inst,Zy (Zw 2).realm],Zd [Zy (Zw 0).name,Zy (Zw 0).inst,Zy (Zw 0).realm],Zd [Zy (Zw 1).name,Zy (Zw 1).inst,Zy (Zw 1).realm]],Zz Zx 6])) 0 (by decide) rfl ?_ ?_
  ·intro i hi
   have hc:i=0∨i=1∨i=2∨i=3∨i=4∨i=5∨i=6:=by omega
   rcases hc with rfl | rfl | rfl | rfl | rfl | rfl | rfl
   ·have g:Yd [Zd [Zy (Zv 0).name,Zy (Zv 0).inst,Zy (Zv 0).realm],Zd [Zy (Zv 1).name,Zy (Zv 1).inst,Zy (Zv 1).realm],Zd [Zy (Zv 2).name,Zy (Zv 2).inst,Zy (Zv 2).realm],Zd [Zy (Zw 2).name,Zy (Zw 2).inst,Zy (Zw 2).realm],Zd [Zy (Zw 0).name,Zy (Zw 0).inst,Zy (Zw 0).realm],Zd [Zy (Zw 1).name,Zy (Zw 1).inst,Zy (Zw 1).realm]] (Zf ((0:Nat):Int)) Yb=Zd [Zy (Zv 0).name,Zy (Zv 0).inst,Zy (Zv 0).realm]:=rfl
    have k0:decide (((0:Nat):Int)<((Zu [Zd [Zy (Zv 0).name,Zy (Zv 0).inst,Zy (Zv 0).realm],Zd [Zy (Zv 1).name,Zy (Zv 1).inst,Zy (Zv 1).realm],Zd [Zy (Zv 2).name,Zy (Zv 2).inst,Zy (Zv 2).realm],Zd [Zy (Zw 2).name,Zy (Zw 2).inst,Zy (Zw 2).realm],Zd [Zy (Zw 0).name,Zy (Zw 0).inst,Zy (Zw 0).realm],Zd [Zy (Zw 1).name,Zy (Zw 1).inst,Zy (Zw 1).realm]]:Nat):Int))=true:=rfl
    have k1:decide ((0:Int)≤((0:Nat):Int))=true:=rfl
    have k2:decide (((0:Nat):Int)≤1000)=true:=rfl
    have k3:Zk .i64 (3+((0:Nat):Int))=3+((0:Nat):Int):=rfl
    have k4:Zk .i64 (8+((0:Nat):Int))=8+((0:Nat):Int):=rfl
    simp only [g,k0,k1,k2,k3,k4,e0,e1,e2,e3,Yx,↓A0,A0]
    by_cases h1:Zb bd % 16=((0:Nat):Int)
    all_goals by_cases h2:Zb bd % 16=8+((0:Nat):Int)
    ·have hE:Zq (Zp ((0:Nat):Int) (Zv 0) lf xp bd)=Zd [Zy (Zv 0).name,Zy (Zv 0).inst,Zz Yq (Yn ((0:Nat):Int)),Zz Zx (3+((0:Nat):Int)),Zz Zx (1000+Zb xp*100),Zz Zx (Zb lf),Zz Zx (1+Zb bd / 16 % 3),Zz Zx 0,Zz Zx 0]:=by
      unfold Zq Zp
      dsimp only
      rw [if_pos h2,if_pos h1]
     rw [sel_pos (by simpa using h1),sel_pos (by simpa using h2),chk_of (by rfl),← hE]
     exact ⟨_,rfl,1,rfl,by decide,by decide⟩
    ·have hE:Zq (Zp ((0:Nat):Int) (Zv 0) lf xp bd)=Zd [Zy (Zv 0).name,Zy (Zv 0).inst,Zz Yq (Yn ((0:Nat):Int)),Zz Zx (3+((0:Nat):Int)),Zz Zx (0),Zz Zx (Zb lf),Zz Zx (1+Zb bd / 16 % 3),Zz Zx 0,Zz Zx 0]:=by
      unfold Zq Zp
      dsimp only
      rw [if_neg h2,if_pos h1]
     rw [sel_pos (by simpa using h1),sel_neg (by simpa using h2),chk_of (by rfl),← hE]
     exact ⟨_,rfl,1,rfl,by decide,by decide⟩
    ·have hE:Zq (Zp ((0:Nat):Int) (Zv 0) lf xp bd)=Zd [Zy (Zv 0).name,Zy (Zv 0).inst,Zz Yq (Yn ((0:Nat):Int)),Zz Zx (3+((0:Nat):Int)),Zz Zx (1000+Zb xp*100),Zz Zx (Zb lf),Zz Zx (0),Zz Zx 0,Zz Zx 0]:=by
      unfold Zq Zp
      dsimp only
      rw [if_pos h2,if_neg h1]
     rw [sel_neg (by simpa using h1),sel_pos (by simpa using h2),chk_of (by rfl),← hE]
     exact ⟨_,rfl,1,rfl,by decide,by decide⟩
    ·have hE:Zq (Zp ((0:Nat):Int) (Zv 0) lf xp bd)=Zd [Zy (Zv 0).name,Zy (Zv 0).inst,Zz Yq (Yn ((0:Nat):Int)),Zz Zx (3+((0:Nat):Int)),Zz Zx (0),Zz Zx (Zb lf),Zz Zx (0),Zz Zx 0,Zz Zx 0]:=by
      unfold Zq Zp
      dsimp only
      rw [if_neg h2,if_neg h1]
     rw [sel_neg (by simpa using h1),sel_neg (by simpa using h2),chk_of (by rfl),← hE]
     exact ⟨_,rfl,1,rfl,by decide,by decide⟩
   ·have g:Yd [Zd [Zy (Zv 0).name,Zy (Zv 0).inst,Zy (Zv 0).realm],Zd [Zy (Zv 1).name,Zy (Zv 1).inst,Zy (Zv 1).realm],Zd [Zy (Zv 2).name,Zy (Zv 2).inst,Zy (Zv 2).realm],Zd [Zy (Zw 2).name,Zy (Zw 2).inst,Zy (Zw 2).realm],Zd [Zy (Zw 0).name,Zy (Zw 0).inst,Zy (Zw 0).realm],Zd [Zy (Zw 1).name,Zy (Zw 1).inst,Zy (Zw 1).realm]] (Zf ((1:Nat):Int)) Yb=Zd [Zy (Zv 1).name,Zy (Zv 1).inst,Zy (Zv 1).realm]:=rfl
    have k0:decide (((1:Nat):Int)<((Zu [Zd [Zy (Zv 0).name,Zy (Zv 0).inst,Zy (Zv 0).realm],Zd [Zy (Zv 1).name,Zy (Zv 1).inst,Zy (Zv 1).realm],Zd [Zy (Zv 2).name,Zy (Zv 2).inst,Zy (Zv 2).realm],Zd [Zy (Zw 2).name,Zy (Zw 2).inst,Zy (Zw 2).realm],Zd [Zy (Zw 0).name,Zy (Zw 0).inst,Zy (Zw 0).realm],Zd [Zy (Zw 1).name,Zy (Zw 1).inst,Zy (Zw 1).realm]]:Nat):Int))=true:=rfl
    have k1:decide ((0:Int)≤((1:Nat):Int))=true:=rfl
    have k2:decide (((1:Nat):Int)≤1000)=true:=rfl
    have k3:Zk .i64 (3+((1:Nat):Int))=3+((1:Nat):Int):=rfl
    have k4:Zk .i64 (8+((1:Nat):Int))=8+((1:Nat):Int):=rfl
    simp only [g,k0,k1,k2,k3,k4,e0,e1,e2,e3,Yx,↓A0,A0]
    by_cases h1:Zb bd % 16=((1:Nat):Int)
    all_goals by_cases h2:Zb bd % 16=8+((1:Nat):Int)
    ·have hE:Zq (Zp ((1:Nat):Int) (Zv 1) lf xp bd)=Zd [Zy (Zv 1).name,Zy (Zv 1).inst,Zz Yq (Yn ((1:Nat):Int)),Zz Zx (3+((1:Nat):Int)),Zz Zx (1000+Zb xp*100),Zz Zx (Zb lf),Zz Zx (1+Zb bd / 16 % 3),Zz Zx 0,Zz Zx 0]:=by
      unfold Zq Zp
      dsimp only
      rw [if_pos h2,if_pos h1]
     rw [sel_pos (by simpa using h1),sel_pos (by simpa using h2),chk_of (by rfl),← hE]
     exact ⟨_,rfl,2,rfl,by decide,by decide⟩
    ·have hE:Zq (Zp ((1:Nat):Int) (Zv 1) lf xp bd)=Zd [Zy (Zv 1).name,Zy (Zv 1).inst,Zz Yq (Yn ((1:Nat):Int)),Zz Zx (3+((1:Nat):Int)),Zz Zx (0),Zz Zx (Zb lf),Zz Zx (1+Zb bd / 16 % 3),Zz Zx 0,Zz Zx 0]:=by
      unfold Zq Zp
      dsimp only
      rw [if_neg h2,if_pos h1]
     rw [sel_pos (by simpa using h1),sel_neg (by simpa using h2),chk_of (by rfl),← hE]
     exact ⟨_,rfl,2,rfl,by decide,by decide⟩
    ·have hE:Zq (Zp ((1:Nat):Int) (Zv 1) lf xp bd)=Zd [Zy (Zv 1).name,Zy (Zv 1).inst,Zz Yq (Yn ((1:Nat):Int)),Zz Zx (3+((1:Nat):Int)),Zz Zx (1000+Zb xp*100),Zz Zx (Zb lf),Zz Zx (0),Zz Zx 0,Zz Zx 0]:=by
      unfold Zq Zp
      dsimp only
      rw [if_pos h2,if_neg h1]
     rw [sel_neg (by simpa using h1),sel_pos (by simpa using h2),chk_of (by rfl),← hE]
     exact ⟨_,rfl,2,rfl,by decide,by decide⟩
    ·have hE:Zq (Zp ((1:Nat):Int) (Zv 1) lf xp bd)=Zd [Zy (Zv 1).name,Zy (Zv 1).inst,Zz Yq (Yn ((1:Nat):Int)),Zz Zx (3+((1:Nat):Int)),Zz Zx (0),Zz Zx (Zb lf),Zz Zx (0),Zz Zx 0,Zz Zx 0]:=by
      unfold Zq Zp
      dsimp only
      rw [if_neg h2,if_neg h1]
     rw [sel_neg (by simpa using h1),sel_neg (by simpa using h2),chk_of (by rfl),← hE]
     exact ⟨_,rfl,2,rfl,by decide,by decide⟩
   ·have g:Yd [Zd [Zy (Zv 0).name,Zy (Zv 0).inst,Zy (Zv 0).realm],Zd [Zy (Zv 1).name,Zy (Zv 1).inst,Zy (Zv 1).realm],Zd [Zy (Zv 2).name,Zy (Zv 2).inst,Zy (Zv 2).realm],Zd [Zy (Zw 2).name,Zy (Zw 2).inst,Zy (Zw 2).realm],Zd [Zy (Zw 0).name,Zy (Zw 0).inst,Zy (Zw 0).realm],Zd [Zy (Zw 1).name,Zy (Zw 1).inst,Zy (Zw 1).realm]] (Zf ((2:Nat):Int)) Yb=Zd [Zy (Zv 2).name,Zy (Zv 2).inst,Zy (Zv 2).realm]:=rfl
    have k0:decide (((2:Nat):Int)<((Zu [Zd [Zy (Zv 0).name,Zy (Zv 0).inst,Zy (Zv 0).realm],Zd [Zy (Zv 1).name,Zy (Zv 1).inst,Zy (Zv 1).realm],Zd [Zy (Zv 2).name,Zy (Zv 2).inst,Zy (Zv 2).realm],Zd [Zy (Zw 2).name,Zy (Zw 2).inst,Zy (Zw 2).realm],Zd [Zy (Zw 0).name,Zy (Zw 0).inst,Zy (Zw 0).realm],Zd [Zy (Zw 1).name,Zy (Zw 1).inst,Zy (Zw 1).realm]]:Nat):Int))=true:=rfl
    have k1:decide ((0:Int)≤((2:Nat):Int))=true:=rfl
    have k2:decide (((2:Nat):Int)≤1000)=true:=rfl
    have k3:Zk .i64 (3+((2:Nat):Int))=3+((2:Nat):Int):=rfl
    have k4:Zk .i64 (8+((2:Nat):Int))=8+((2:Nat):Int):=rfl
    simp only [g,k0,k1,k2,k3,k4,e0,e1,e2,e3,Yx,↓A0,A0]
    by_cases h1:Zb bd % 16=((2:Nat):Int)
    all_goals by_cases h2:Zb bd % 16=8+((2:Nat):Int)
    ·have hE:Zq (Zp ((2:Nat):Int) (Zv 2) lf xp bd)=Zd [Zy (Zv 2).name,Zy (Zv 2).inst,Zz Yq (Yn ((2:Nat):Int)),Zz Zx (3+((2:Nat):Int)),Zz Zx (1000+Zb xp*100),Zz Zx (Zb lf),Zz Zx (1+Zb bd / 16 % 3),Zz Zx 0,Zz Zx 0]:=by
      unfold Zq Zp
      dsimp only
      rw [if_pos h2,if_pos h1]
     rw [sel_pos (by simpa using h1),sel_pos (by simpa using h2),chk_of (by rfl),← hE]
     exact ⟨_,rfl,3,rfl,by decide,by decide⟩
    ·have hE:Zq (Zp ((2:Nat):Int) (Zv 2) lf xp bd)=Zd [Zy (Zv 2).name,Zy (Zv 2).inst,Zz Yq (Yn ((2:Nat):Int)),Zz Zx (3+((2:Nat):Int)),Zz Zx (0),Zz Zx (Zb lf),Zz Zx (1+Zb bd / 16 % 3),Zz Zx 0,Zz Zx 0]:=by
      unfold Zq Zp
      dsimp only
      rw [if_neg h2,if_pos h1]
     rw [sel_pos (by simpa using h1),sel_neg (by simpa using h2),chk_of (by rfl),← hE]
     exact ⟨_,rfl,3,rfl,by decide,by decide⟩
    ·have hE:Zq (Zp ((2:Nat):Int) (Zv 2) lf xp bd)=Zd [Zy (Zv 2).name,Zy (Zv 2).inst,Zz Yq (Yn ((2:Nat):Int)),Zz Zx (3+((2:Nat):Int)),Zz Zx (1000+Zb xp*100),Zz Zx (Zb lf),Zz Zx (0),Zz Zx 0,Zz Zx 0]:=by
      unfold Zq Zp
      dsimp only
      rw [if_pos h2,if_neg h1]
     rw [sel_neg (by simpa using h1),sel_pos (by simpa using h2),chk_of (by rfl),← hE]
     exact ⟨_,rfl,3,rfl,by decide,by decide⟩
    ·have hE:Zq (Zp ((2:Nat):Int) (Zv 2) lf xp bd)=Zd [Zy (Zv 2).name,Zy (Zv 2).inst,Zz Yq (Yn ((2:Nat):Int)),Zz Zx (3+((2:Nat):Int)),Zz Zx (0),Zz Zx (Zb lf),Zz Zx (0),Zz Zx 0,Zz Zx 0]:=by
      unfold Zq Zp
      dsimp only
      rw [if_neg h2,if_neg h1]
     rw [sel_neg (by simpa using h1),sel_neg (by simpa using h2),chk_of (by rfl),← hE]
     exact ⟨_,rfl,3,rfl,by decide,by decide⟩
   ·have g:Yd [Zd [Zy (Zv 0).name,Zy (Zv 0).inst,Zy (Zv 0).realm],Zd [Zy (Zv 1).name,Zy (Zv 1).inst,Zy (Zv 1).realm],Zd [Zy (Zv 2).name,Zy (Zv 2).inst,Zy (Zv 2).realm],Zd [Zy (Zw 2).name,Zy (Zw 2).inst,Zy (Zw 2).realm],Zd [Zy (Zw 0).name,Zy (Zw 0).inst,Zy (Zw 0).realm],Zd [Zy (Zw 1).name,Zy (Zw 1).inst,Zy (Zw 1).realm]] (Zf ((3:Nat):Int)) Yb=Zd [Zy (Zw 2).name,Zy (Zw 2).inst,Zy (Zw 2).realm]:=rfl
    have k0:decide (((3:Nat):Int)<((Zu [Zd [Zy (Zv 0).name,Zy (Zv 0).inst,Zy (Zv 0).realm],Zd [Zy (Zv 1).name,Zy (Zv 1).inst,Zy (Zv 1).realm],Zd [Zy (Zv 2).name,Zy (Zv 2).inst,Zy (Zv 2).realm],Zd [Zy (Zw 2).name,Zy (Zw 2).inst,Zy (Zw 2).realm],Zd [Zy (Zw 0).name,Zy (Zw 0).inst,Zy (Zw 0).realm],Zd [Zy (Zw 1).name,Zy (Zw 1).inst,Zy (Zw 1).realm]]:Nat):Int))=true:=rfl
    have k1:decide ((0:Int)≤((3:Nat):Int))=true:=rfl
    have k2:decide (((3:Nat):Int)≤1000)=true:=rfl
    have k3:Zk .i64 (3+((3:Nat):Int))=3+((3:Nat):Int):=rfl
    have k4:Zk .i64 (8+((3:Nat):Int))=8+((3:Nat):Int):=rfl
    simp only [g,k0,k1,k2,k3,k4,e0,e1,e2,e3,Yx,↓A0,A0]
    by_cases h1:Zb bd % 16=((3:Nat):Int)
    all_goals by_cases h2:Zb bd % 16=8+((3:Nat):Int)
    ·have hE:Zq (Zp ((3:Nat):Int) (Zw 2) lf xp bd)=Zd [Zy (Zw 2).name,Zy (Zw 2).inst,Zz Yq (Yn ((3:Nat):Int)),Zz Zx (3+((3:Nat):Int)),Zz Zx (1000+Zb xp*100),Zz Zx (Zb lf),Zz Zx (1+Zb bd / 16 % 3),Zz Zx 0,Zz Zx 0]:=by
      unfold Zq Zp
      dsimp only
      rw [if_pos h2,if_pos h1]
     rw [sel_pos (by simpa using h1),sel_pos (by simpa using h2),chk_of (by rfl),← hE]
     exact ⟨_,rfl,4,rfl,by decide,by decide⟩
    ·have hE:Zq (Zp ((3:Nat):Int) (Zw 2) lf xp bd)=Zd [Zy (Zw 2).name,Zy (Zw 2).inst,Zz Yq (Yn ((3:Nat):Int)),Zz Zx (3+((3:Nat):Int)),Zz Zx (0),Zz Zx (Zb lf),Zz Zx (1+Zb bd / 16 % 3),Zz Zx 0,Zz Zx 0]:=by
      unfold Zq Zp
      dsimp only
      rw [if_neg h2,if_pos h1]
     rw [sel_pos (by simpa using h1),sel_neg (by simpa using h2),chk_of (by rfl),← hE]
     exact ⟨_,rfl,4,rfl,by decide,by decide⟩
    ·have hE:Zq (Zp ((3:Nat):Int) (Zw 2) lf xp bd)=Zd [Zy (Zw 2).name,Zy (Zw 2).inst,Zz Yq (Yn ((3:Nat):Int)),Zz Zx (3+((3:Nat):Int)),Zz Zx (1000+Zb xp*100),Zz Zx (Zb lf),Zz Zx (0),Zz Zx 0,Zz Zx 0]:=by
      unfold Zq Zp
      dsimp only
      rw [if_pos h2,if_neg h1]
     rw [sel_neg (by simpa using h1),sel_pos (by simpa using h2),chk_of (by rfl),← hE]
     exact ⟨_,rfl,4,rfl,by decide,by decide⟩
    ·have hE:Zq (Zp ((3:Nat):Int) (Zw 2) lf xp bd)=Zd [Zy (Zw 2).name,Zy (Zw 2).inst,Zz Yq (Yn ((3:Nat):Int)),Zz Zx (3+((3:Nat):Int)),Zz Zx (0),Zz Zx (Zb lf),Zz Zx (0),Zz Zx 0,Zz Zx 0]:=by
      unfold Zq Zp
      dsimp only
      rw [if_neg h2,if_neg h1]
     rw [sel_neg (by simpa using h1),sel_neg (by simpa using h2),chk_of (by rfl),← hE]
     exact ⟨_,rfl,4,rfl,by decide,by decide⟩
   ·have g:Yd [Zd [Zy (Zv 0).name,Zy (Zv 0).inst,Zy (Zv 0).realm],Zd [Zy (Zv 1).name,Zy (Zv 1).inst,Zy (Zv 1).realm],Zd [Zy (Zv 2).name,Zy (Zv 2).inst,Zy (Zv 2).realm],Zd [Zy (Zw 2).name,Zy (Zw 2).inst,Zy (Zw 2).realm],Zd [Zy (Zw 0).name,Zy (Zw 0).inst,Zy (Zw 0).realm],Zd [Zy (Zw 1).name,Zy (Zw 1).inst,Zy (Zw 1).realm]] (Zf ((4:Nat):Int)) Yb=Zd [Zy (Zw 0).name,Zy (Zw 0).inst,Zy (Zw 0).realm]:=rfl
    have k0:decide (((4:Nat):Int)<((Zu [Zd [Zy (Zv 0).name,Zy (Zv 0).inst,Zy (Zv 0).realm],Zd [Zy (Zv 1).name,Zy (Zv 1).inst,Zy (Zv 1).realm],Zd [Zy (Zv 2).name,Zy (Zv 2).inst,Zy (Zv 2).realm],Zd [Zy (Zw 2).name,Zy (Zw 2).inst,Zy (Zw 2).realm],Zd [Zy (Zw 0).name,Zy (Zw 0).inst,Zy (Zw 0).realm],Zd [Zy (Zw 1).name,Zy (Zw 1).inst,Zy (Zw 1).realm]]:Nat):Int))=true:=rfl
    have k1:decide ((0:Int)≤((4:Nat):Int))=true:=rfl
    have k2:decide (((4:Nat):Int)≤1000)=true:=rfl
    have k3:Zk .i64 (3+((4:Nat):Int))=3+((4:Nat):Int):=rfl
    have k4:Zk .i64 (8+((4:Nat):Int))=8+((4:Nat):Int):=rfl
    simp only [g,k0,k1,k2,k3,k4,e0,e1,e2,e3,Yx,↓A0,A0]
    by_cases h1:Zb bd % 16=((4:Nat):Int)
    all_goals by_cases h2:Zb bd % 16=8+((4:Nat):Int)
    ·have hE:Zq (Zp ((4:Nat):Int) (Zw 0) lf xp bd)=Zd [Zy (Zw 0).name,Zy (Zw 0).inst,Zz Yq (Yn ((4:Nat):Int)),Zz Zx (3+((4:Nat):Int)),Zz Zx (1000+Zb xp*100),Zz Zx (Zb lf),Zz Zx (1+Zb bd / 16 % 3),Zz Zx 0,Zz Zx 0]:=by
      unfold Zq Zp
      dsimp only
      rw [if_pos h2,if_pos h1]
     rw [sel_pos (by simpa using h1),sel_pos (by simpa using h2),chk_of (by rfl),← hE]
     exact ⟨_,rfl,5,rfl,by decide,by decide⟩
    ·have hE:Zq (Zp ((4:Nat):Int) (Zw 0) lf xp bd)=Zd [Zy (Zw 0).name,Zy (Zw 0).inst,Zz Yq (Yn ((4:Nat):Int)),Zz Zx (3+((4:Nat):Int)),Zz Zx (0),Zz Zx (Zb lf),Zz Zx (1+Zb bd / 16 % 3),Zz Zx 0,Zz Zx 0]:=by
      unfold Zq Zp
      dsimp only
      rw [if_neg h2,if_pos h1]
     rw [sel_pos (by simpa using h1),sel_neg (by simpa using h2),chk_of (by rfl),← hE]
     exact ⟨_,rfl,5,rfl,by decide,by decide⟩
    ·have hE:Zq (Zp ((4:Nat):Int) (Zw 0) lf xp bd)=Zd [Zy (Zw 0).name,Zy (Zw 0).inst,Zz Yq (Yn ((4:Nat):Int)),Zz Zx (3+((4:Nat):Int)),Zz Zx (1000+Zb xp*100),Zz Zx (Zb lf),Zz Zx (0),Zz Zx 0,Zz Zx 0]:=by
      unfold Zq Zp
      dsimp only
      rw [if_pos h2,if_neg h1]
     rw [sel_neg (by simpa using h1),sel_pos (by simpa using h2),chk_of (by rfl),← hE]
     exact ⟨_,rfl,5,rfl,by decide,by decide⟩
    ·have hE:Zq (Zp ((4:Nat):Int) (Zw 0) lf xp bd)=Zd [Zy (Zw 0).name,Zy (Zw 0).inst,Zz Yq (Yn ((4:Nat):Int)),Zz Zx (3+((4:Nat):Int)),Zz Zx (0),Zz Zx (Zb lf),Zz Zx (0),Zz Zx 0,Zz Zx 0]:=by
      unfold Zq Zp
      dsimp only
      rw [if_neg h2,if_neg h1]
     rw [sel_neg (by simpa using h1),sel_neg (by simpa using h2),chk_of (by rfl),← hE]
     exact ⟨_,rfl,5,rfl,by decide,by decide⟩
   ·have g:Yd [Zd [Zy (Zv 0).name,Zy (Zv 0).inst,Zy (Zv 0).realm],Zd [Zy (Zv 1).name,Zy (Zv 1).inst,Zy (Zv 1).realm],Zd [Zy (Zv 2).name,Zy (Zv 2).inst,Zy (Zv 2).realm],Zd [Zy (Zw 2).name,Zy (Zw 2).inst,Zy (Zw 2).realm],Zd [Zy (Zw 0).name,Zy (Zw 0).inst,Zy (Zw 0).realm],Zd [Zy (Zw 1).name,Zy (Zw 1).inst,Zy (Zw 1).realm]] (Zf ((5:Nat):Int)) Yb=Zd [Zy (Zw 1).name,Zy (Zw 1).inst,Zy (Zw 1).realm]:=rfl
    have k0:decide (((5:Nat):Int)<((Zu [Zd [Zy (Zv 0).name,Zy (Zv 0).inst,Zy (Zv 0).realm],Zd [Zy (Zv 1).name,Zy (Zv 1).inst,Zy (Zv 1).realm],Zd [Zy (Zv 2).name,Zy (Zv 2).inst,Zy (Zv 2).realm],Zd [Zy (Zw 2).name,Zy (Zw 2).inst,Zy (Zw 2).realm],Zd [Zy (Zw 0).name,Zy (Zw 0).inst,Zy (Zw 0).realm],Zd [Zy (Zw 1).name,Zy (Zw 1).inst,Zy (Zw 1).realm]]:Nat):Int))=true:=rfl
    have k1:decide ((0:Int)≤((5:Nat):Int))=true:=rfl
    have k2:decide (((5:Nat):Int)≤1000)=true:=rfl
    have k3:Zk .i64 (3+((5:Nat):Int))=3+((5:Nat):Int):=rfl
    have k4:Zk .i64 (8+((5:Nat):Int))=8+((5:Nat):Int):=rfl
    simp only [g,k0,k1,k2,k3,k4,e0,e1,e2,e3,Yx,↓A0,A0]
    by_cases h1:Zb bd % 16=((5:Nat):Int)
    all_goals by_cases h2:Zb bd % 16=8+((5:Nat):Int)
    ·have hE:Zq (Zp ((5:Nat):Int) (Zw 1) lf xp bd)=Zd [Zy (Zw 1).name,Zy (Zw 1).inst,Zz Yq (Yn ((5:Nat):Int)),Zz Zx (3+((5:Nat):Int)),Zz Zx (1000+Zb xp*100),Zz Zx (Zb lf),Zz Zx (1+Zb bd / 16 % 3),Zz Zx 0,Zz Zx 0]:=by
      unfold Zq Zp
      dsimp only
      rw [if_pos h2,if_pos h1]
     rw [sel_pos (by simpa using h1),sel_pos (by simpa using h2),chk_of (by rfl),← hE]
     exact ⟨_,rfl,6,rfl,by decide,by decide⟩
    ·have hE:Zq (Zp ((5:Nat):Int) (Zw 1) lf xp bd)=Zd [Zy (Zw 1).name,Zy (Zw 1).inst,Zz Yq (Yn ((5:Nat):Int)),Zz Zx (3+((5:Nat):Int)),Zz Zx (0),Zz Zx (Zb lf),Zz Zx (1+Zb bd / 16 % 3),Zz Zx 0,Zz Zx 0]:=by
      unfold Zq Zp
      dsimp only
      rw [if_neg h2,if_pos h1]
     rw [sel_pos (by simpa using h1),sel_neg (by simpa using h2),chk_of (by rfl),← hE]
     exact ⟨_,rfl,6,rfl,by decide,by decide⟩
    ·have hE:Zq (Zp ((5:Nat):Int) (Zw 1) lf xp bd)=Zd [Zy (Zw 1).name,Zy (Zw 1).inst,Zz Yq (Yn ((5:Nat):Int)),Zz Zx (3+((5:Nat):Int)),Zz Zx (1000+Zb xp*100),Zz Zx (Zb lf),Zz Zx (0),Zz Zx 0,Zz Zx 0]:=by
      unfold Zq Zp
      dsimp only
      rw [if_pos h2,if_neg h1]
     rw [sel_neg (by simpa using h1),sel_pos (by simpa using h2),chk_of (by rfl),← hE]
     exact ⟨_,rfl,6,rfl,by decide,by decide⟩
    ·have hE:Zq (Zp ((5:Nat):Int) (Zw 1) lf xp bd)=Zd [Zy (Zw 1).name,Zy (Zw 1).inst,Zz Yq (Yn ((5:Nat):Int)),Zz Zx (3+((5:Nat):Int)),Zz Zx (0),Zz Zx (Zb lf),Zz Zx (0),Zz Zx 0,Zz Zx 0]:=by
      unfold Zq Zp
      dsimp only
      rw [if_neg h2,if_neg h1]
     rw [sel_neg (by simpa using h1),sel_neg (by simpa using h2),chk_of (by rfl),← hE]
     exact ⟨_,rfl,6,rfl,by decide,by decide⟩
   ·exact ⟨_,rfl,rfl⟩
  ·rintro _ rfl
   rfl
 ·cases h
theorem w12:Walked Tryz.prog G 12 4 sp12:=by
 refine ⟨Tryz.f12,Tryz.func12,by decide +kernel,rfl,fun xs bl r h=> ?_⟩
 unfold sp12 at h
 split at h
 ·rename_i li x y z t lf sv ins
  obtain ⟨hpre,h2⟩:=chk_inv h;cases h2
  refine Eq.trans (b:=(let t0:Option (AV×Blocks):=some (Yh [Yw [],Zz .i64 103],[]);let t1:Nat:=Zu (Kerb.header 1 li)+Zu x+Zu y+Zu z;Zj (chk (l63 x&&l63 y&&l63 z) (some (Zh (Vq (Vp x y z)),[]))) (kL fun b=>sel (!b) t0 (Zj (chk (l63 sv) (some (Zh (Uw sv),[]))) (kL fun b=>sel (!b) t0 (Zj (chk (l63 ins) (some (Zh (Vy ins),[]))) (kL fun b=>sel (!b) t0 (sel (!Uv t 4294967295) (some (Yh [Yw [],Zz .i64 104],[])) (sel (!Uv lf 255) (some (Yh [Yw [],Zz .i64 104],[])) (Zj (chk (decide (t1≤70368744170000)) (some (Yw (Kerb.putPrin (Kerb.header 1 li) (Vp x y z)),[]))) (kB fun b=>Zj (chk (decide (Zu b≤70368744177664)) (some (Vn (b++Wu t 4 li),[]))) (kO fun l=>Zj (chk (decide (Zu l≤70368744177664)) (some (Vn (l++Wu lf 1 false),[]))) (kO fun l=>Zj (chk (decide (Zu l+Zu sv≤70368744177664)) (some (Yw (Wg l sv),[]))) (kB fun b=>Zj (chk (decide (Zu b+Zu ins≤70368744177664)) (some (Yw (Wg b ins),[]))) (kB fun b=>some (Yh [Yw b,Zz .i64 0],[])))))))))))))):Option (AV×Blocks))) (by kernel_rfl) ?_
  delta kB kO kL
  try dsimp only [cStr,cBs,cBool,cU8,cInt,cSl,l63]
  simp only [Xy,decide_eq_true_eq] at hpre
  obtain ⟨⟨⟨⟨q1,q2⟩,q3⟩,q4⟩,q5⟩:=hpre
  simp only [A0]
  unfold Kerb.encodeRequest
  rw [chk_of (by simp [q1,q2,q3])]
  cases h1:Vq ⟨x,y,z⟩
  ·rfl
  rw [Yk,sel_false,chk_of (by simp [q4])]
  cases h2:Uw sv
  ·rfl
  rw [Yk,sel_false,chk_of (by simp [q5])]
  cases h3:Vy ins
  ·rfl
  rw [Yk,sel_false]
  cases h4:Uv t 4294967295
  ·rfl
  rw [Yk,sel_false]
  cases h5:Uv lf 255
  ·rfl
  rw [Yk,sel_false]
  have l1:=Kerb.valid_len h1
  have l2:=Kerb.validName_len h2
  have l3:=Kerb.validInst_len h3
  have l4:=Kerb.header_len 1 li
  simp only at l1
  rw [chk_of (by simp;omega),chk_of (by simp [Wv];omega),chk_of (by simp [Wv,Uk];omega),chk_of (by simp [Wv,Uk];omega),chk_of (by simp [Kerb.putText_len,Wv,Uk];omega)]
  rfl
 ·cases h
set_option maxHeartbeats 4000000 in
theorem w21:Walked Tryz.prog G 21 4 sp21:=by
 refine ⟨Tryz.f21,Tryz.func21,by decide +kernel,rfl,fun xs bl r h=> ?_⟩
 unfold sp21 at h
 split at h
 ·rename_i l pos
  obtain ⟨hpre,h2⟩:=chk_inv h;cases h2
  show runFnH (G.env 21 4) G.rts (G.own 21) Tryz.f21 _ _ [0]=_
  refine Eq.trans (b:=(Zj (chk (decide (Zu l≤4611686018427387904)&&decide (0≤pos)) (some (Zz .i64 (Yy l pos 3),[[Yw l,Zz .i64 (Zn l pos 3)]]))) fun (r:AV×Blocks)=>onConsB (Yz r) fun (x:List AV) (r_1:List (List AV))=>cBs x fun b r_2=>cInt .i64 r_2 fun n r_3=>onNil r_3 (onNilB r_1 (Xw .i64 (Yv r) fun n_1=>Zj (chk (decide (0≤n_1)&&decide (n_1≤4611686018427387904)) (some (Zd [Zy (Xh (Zv n_1)),Zy (Wz (Zv n_1)),Zy (Xm (Zv n_1))],[]))) (kA fun cs=>cStr cs fun b_1 r=>cStr r fun b_2 r=>cStr r fun b_3 r=>onNil r (Zj (chk (decide (Zu b≤4611686018427387904)&&decide (0≤n)) (some (Zz .i64 (Yy b n 2),[[Yw b,Zz .i64 (Zn b n 2)]]))) fun (r:AV×Blocks)=>onConsB (Yz r) fun (x:List AV) (r_4:List (List AV))=>cBs x fun b r_5=>cInt .i64 r_5 fun n r_6=>onNil r_6 (onNilB r_4 (Xw .i64 (Yv r) fun n_2=>Zj (sel (n_2==1) (Zj (chk (decide (Zu b≤4611686018427387904)&&decide (0≤n)) (some (Zz .i64 (Yy b n 3),[[Yw b,Zz .i64 (Zn b n 3)]]))) fun (r:AV×Blocks)=>onConsB (Yz r) fun (x:List AV) (r_7:List (List AV))=>cBs x fun b r_8=>cInt .i64 r_8 fun n r_9=>onNil r_9 (onNilB r_7 (Xw .i64 (Yv r) fun n_3=>Zj (chk (decide (0≤n_3)&&decide (n_3≤4611686018427387904)) (some (Zd [Zy (Xh (Zw n_3)),Zy (Wz (Zw n_3)),Zy (Xm (Zw n_3))],[]))) (kA fun cs=>cStr cs fun b_4 r=>cStr r fun b_5 r=>cStr r fun b_6 r=>onNil r (some [Yw b,Zz .i64 n,Zy [],Zy [],Zz .u64 0,Zz .i64 0,Zz .i64 0,Zz .i64 0,Zz .i64 0,Zz .i64 0,Zz .i64 0,Zy b_4,Zy b_5,Zy b_6]))))) (some [Yw b,Zz .i64 n,Zy [],Zy [],Zz .u64 0,Zz .i64 0,Zz .i64 0,Zz .i64 0,Zz .i64 0,Zz .i64 0,Zz .i64 0,Zy b_1,Zy b_2,Zy b_3])) fun l=>cBs l fun b r=>cInt .i64 r fun n r=>cStr r fun b_4 r=>cStr r fun b_5 r=>cInt .u64 r fun n_3 r=>cInt .i64 r fun n_4 r=>cInt .i64 r fun n_5 r=>cInt .i64 r fun n_6 r=>cInt .i64 r fun n_7 r=>cInt .i64 r fun n_8 r=>cInt .i64 r fun n_9 r=>cStr r fun b_6 r=>cStr r fun b_7 r=>cStr r fun b_8 r=>onNil r (Zj (chk (decide (Zu b≤4611686018427387904)&&decide (0≤n)) (some (Zz .i64 (Yy b n 40),[[Yw b,Zz .i64 (Zn b n 40)]]))) fun (r:AV×Blocks)=>onConsB (Yz r) fun (x:List AV) (r_7:List (List AV))=>cBs x fun b r_8=>cInt .i64 r_8 fun n r_9=>onNil r_9 (onNilB r_7 (Xw .i64 (Yv r) fun n_10=>Zj (chk (decide (0≤n_10)&&decide (n_10≤1000)) (some (Zz .u64 (Yn n_10),[]))) (kI .u64 fun n_11=>Zj (chk (decide (Zu b≤4611686018427387904)&&decide (0≤n)) (some (Zz .i64 (Yy b n 256),[[Yw b,Zz .i64 (Zn b n 256)]]))) fun (r:AV×Blocks)=>onConsB (Yz r) fun (x:List AV) (r_10:List (List AV))=>cBs x fun b r_11=>cInt .i64 r_11 fun n r_12=>onNil r_12 (onNilB r_10 (Xw .i64 (Yv r) fun n_12=>Zj (chk (decide (Zu b≤4611686018427387904)&&decide (0≤n)) (some (Zz .i64 (Yy b n 256),[[Yw b,Zz .i64 (Zn b n 256)]]))) fun (r:AV×Blocks)=>onConsB (Yz r) fun (x:List AV) (r_13:List (List AV))=>cBs x fun b r_14=>cInt .i64 r_14 fun n r_15=>onNil r_15 (onNilB r_13 (Xw .i64 (Yv r) fun n_13=>Zj (chk (decide (Zu b≤4611686018427387904)&&decide (0≤n)) (some (Zz .i64 (Yy b n 5),[[Yw b,Zz .i64 (Zn b n 5)]]))) fun (r:AV×Blocks)=>onConsB (Yz r) fun (x:List AV) (r_16:List (List AV))=>cBs x fun b r_17=>cInt .i64 r_17 fun n r_18=>onNil r_18 (onNilB r_16 (Xw .i64 (Yv r) fun n_14=>Zj (chk (decide (Zu b≤4611686018427387904)&&decide (0≤n)) (some (Zz .i64 (Yy b n 4),[[Yw b,Zz .i64 (Zn b n 4)]]))) fun (r:AV×Blocks)=>onConsB (Yz r) fun (x:List AV) (r_19:List (List AV))=>cBs x fun b r_20=>cInt .i64 r_20 fun n r_21=>onNil r_21 (onNilB r_19 (Xw .i64 (Yv r) fun n_15=>Zj (chk (decide (Zu b≤4611686018427387904)&&decide (0≤n)) (some (Zz .i64 (Yy b n 21),[[Yw b,Zz .i64 (Zn b n 21)]]))) fun (r:AV×Blocks)=>onConsB (Yz r) fun (x:List AV) (r_22:List (List AV))=>cBs x fun b r_23=>cInt .i64 r_23 fun n r_24=>onNil r_24 (onNilB r_22 (Xw .i64 (Yv r) fun n_16=>let t0:List AV:=[Zz .i64 n_13,Zz .i64 (Zk .i64 (Zk .i64 (Int.tdiv n_14 4)*n_15)),Zz .i64 n_16,Zz .i64 0];Zj (chk (decide (Zu b≤4611686018427387904)&&decide (0≤n)) (some (Zz .i64 (Yy b n 5),[[Yw b,Zz .i64 (Zn b n 5)]]))) fun (r:AV×Blocks)=>onConsB (Yz r) fun (x:List AV) (r_25:List (List AV))=>cBs x fun b r_26=>cInt .i64 r_26 fun n r_27=>onNil r_27 (onNilB r_25 (Xw .i64 (Yv r) fun n_17=>Zj (sel (n_17==4) (Zj (chk (decide (Zu b≤4611686018427387904)&&decide (0≤n)) (some (Zz .i64 (Yy b n 256),[[Yw b,Zz .i64 (Zn b n 256)]]))) fun (r:AV×Blocks)=>onConsB (Yz r) fun (x:List AV) (r_28:List (List AV))=>cBs x fun b r_29=>cInt .i64 r_29 fun n r_30=>onNil r_30 (onNilB r_28 (Xw .i64 (Yv r) fun n_18=>some (Yw b::Zz .i64 n::Zy b_4::Zy b_5::Zz .u64 n_3::Zz .i64 n_4::Zz .i64 n_5::Zz .i64 n_6::Zz .i64 n_7::Zz .i64 n_8::Zz .i64 n_9::Zy b_6::Zy b_7::Zz .u64 n_11::Zz .i64 n_12::Zz .i64 (Zk .i64 (n_18*200))::t0)))) (some (Yw b::Zz .i64 n::Zy b_4::Zy b_5::Zz .u64 n_3::Zz .i64 n_4::Zz .i64 n_5::Zz .i64 n_6::Zz .i64 n_7::Zz .i64 n_8::Zz .i64 n_9::Zy b_6::Zy b_7::Zz .u64 n_11::Zz .i64 n_12::Zz .i64 0::t0))) fun l=>cBs l fun b r=>cInt .i64 r fun n r=>cStr r fun b_9 r=>cStr r fun b_10 r=>cInt .u64 r fun n_18 r=>cInt .i64 r fun n_19 r=>cInt .i64 r fun n_20 r=>cInt .i64 r fun n_21 r=>cInt .i64 r fun n_22 r=>cInt .i64 r fun n_23 r=>cInt .i64 r fun n_24 r=>cStr r fun b_11 r=>cStr r fun b_12 r=>cInt .u64 r fun n_25 r=>cInt .i64 r fun n_26 r=>cInt .i64 r fun n_27 r=>cInt .i64 r fun n_28 r=>cInt .i64 r fun n_29 r=>cInt .i64 r fun n_30 r=>cInt .i64 r fun n_31 r=>let t1:List AV:=[Zz .i64 n_26,Zz .i64 n_27,Zz .i64 n_28,Zz .i64 n_29,Zz .i64 n_30,Zz .i64 n_31];onNil r (Zj (chk (decide (Zu b≤4611686018427387904)&&decide (0≤n)) (some (Zz .i64 (Yy b n 9),[[Yw b,Zz .i64 (Zn b n 9)]]))) fun (r:AV×Blocks)=>onConsB (Yz r) fun (x:List AV) (r_28:List (List AV))=>cBs x fun b r_29=>cInt .i64 r_29 fun n r_30=>onNil r_30 (onNilB r_28 (Xw .i64 (Yv r) fun n_32=>Zj (sel (n_32==8) (some (Yw b::Zz .i64 n::Zy b_9::Zy b_10::Zz .u64 n_18::Zz .i64 n_19::Zz .i64 n_20::Zz .i64 n_21::Zz .i64 n_22::Zz .i64 n_23::Zz .i64 n_24::Zy b_11::Zy b_12::Zz .u64 0::t1)) (some (Yw b::Zz .i64 n::Zy b_9::Zy b_10::Zz .u64 n_18::Zz .i64 n_19::Zz .i64 n_20::Zz .i64 n_21::Zz .i64 n_22::Zz .i64 n_23::Zz .i64 n_24::Zy b_11::Zy b_12::Zz .u64 n_25::t1))) fun l=>cBs l fun b r=>cInt .i64 r fun n r=>cStr r fun b_13 r=>cStr r fun b_14 r=>cInt .u64 r fun n_33 r=>cInt .i64 r fun n_34 r=>cInt .i64 r fun n_35 r=>cInt .i64 r fun n_36 r=>cInt .i64 r fun n_37 r=>cInt .i64 r fun n_38 r=>cInt .i64 r fun n_39 r=>cStr r fun b_15 r=>cStr r fun b_16 r=>cInt .u64 r fun n_40 r=>cInt .i64 r fun n_41 r=>cInt .i64 r fun n_42 r=>cInt .i64 r fun n_43 r=>cInt .i64 r fun n_44 r=>cInt .i64 r fun n_45 r=>cInt .i64 r fun n_46 r=>onNil r (Zj (chk (decide (Zu b≤4611686018427387904)&&decide (0≤n)) (some (Zz .i64 (Yy b n 9),[[Yw b,Zz .i64 (Zn b n 9)]]))) fun (r:AV×Blocks)=>onConsB (Yz r) fun (x:List AV) (r_31:List (List AV))=>cBs x fun b r_32=>cInt .i64 r_32 fun n r_33=>onNil r_33 (onNilB r_31 (Xw .i64 (Yv r) fun n_47=>sel (n_47==8) (Zj (chk (decide (Zu b≤4611686018427387904)&&decide (0≤n)) (some (Zz .i64 (Yy b n 256),[[Yw b,Zz .i64 (Zn b n 256)]]))) fun (r:AV×Blocks)=>onConsB (Yz r) fun (x:List AV) (r_34:List (List AV))=>cBs x fun b r_35=>cInt .i64 r_35 fun n r_36=>onNil r_36 (onNilB r_34 (Xw .i64 (Yv r) fun n_48=>some (Zd [Zy b_15,Zy b_16,Zz .u64 n_40,Zz .i64 n_41,Zz .i64 n_42,Zz .i64 n_43,Zz .i64 n_44,Zz .i64 n_45,Zz .i64 (Zk .i64 (n_48*100))],[[Yw b,Zz .i64 n]])))) (some (Zd [Zy b_15,Zy b_16,Zz .u64 n_40,Zz .i64 n_41,Zz .i64 n_42,Zz .i64 n_43,Zz .i64 n_44,Zz .i64 n_45,Zz .i64 n_46],[[Yw b,Zz .i64 n]])))))))))))))))))))))))))))))):Option (AV×Blocks))) (by kernel_rfl) ?_
  delta kA kI
  try dsimp only [cStr,cBs,cBool,cU8,cInt,cSl,l63]
  simp only [Xy,decide_eq_true_eq] at hpre
  obtain ⟨hl,hp0⟩:=hpre
  have c:decide (l.length≤4611686018427387904)=true:=by simp;omega
  have c0:decide (0≤pos)=true:=by simpa using hp0
  have wA:∀ q,Zk .i64 (Yy l q 256*200)=Yy l q 256*200:=fun q=>by have:=Kerb.next_bd l q 256;exact wrap_i64 (by omega) (by omega)
  have wB:∀ q,Zk .i64 (Yy l q 256*100)=Yy l q 256*100:=fun q=>by have:=Kerb.next_bd l q 256;exact wrap_i64 (by omega) (by omega)
  have wC:∀ q,Zk .i64 (Int.tdiv (Yy l q 5) 4)=Yy l q 5 / 4:=fun q=>by have:=Kerb.next_bd l q 5;rw [Int.tdiv_eq_ediv_of_nonneg (by omega)];exact wrap_i64 (by omega) (by omega)
  have wD:∀ q r,Zk .i64 (Yy l q 5 / 4*Yy l r 4)=Yy l q 5 / 4*Yy l r 4:=fun q r=>by
   have h1:=Kerb.next_bd l q 5
   have h2:=Kerb.next_bd l r 4
   have h3:Yy l q 5 / 4=0∨Yy l q 5 / 4=1:=by omega
   rcases h3 with h3 | h3<;>rw [h3]<;>exact wrap_i64 (by omega) (by omega)
  have E1:Zn l pos 3=Kerb.eq1 l pos:=rfl
  have E2:Zn l (Kerb.eq1 l pos) 2=Xx l pos:=rfl
  have E4:Zn l (Yf l pos) 40=Kerb.eq4 l pos:=rfl
  have E5:Zn l (Kerb.eq4 l pos) 256=Kerb.eq5 l pos:=rfl
  have E6:Zn l (Kerb.eq5 l pos) 256=Kerb.eq6 l pos:=rfl
  have E7:Zn l (Kerb.eq6 l pos) 5=Kerb.eq7 l pos:=rfl
  have E8:Zn l (Kerb.eq7 l pos) 4=Kerb.eq8 l pos:=rfl
  have E9:Zn l (Kerb.eq8 l pos) 21=Kerb.eq9 l pos:=rfl
  have E10:Zn l (Kerb.eq9 l pos) 5=Xg l pos:=rfl
  have E12:Zn l (Yu l pos) 9=Kerb.eq12 l pos:=rfl
  have E13:Zn l (Kerb.eq12 l pos) 9=Kerb.eq13 l pos:=rfl
  have d1:decide (0≤Kerb.eq1 l pos)=true:=Zm _ _ _
  have d2:decide (0≤Xx l pos)=true:=Zm _ _ _
  have d4:decide (0≤Kerb.eq4 l pos)=true:=Zm _ _ _
  have d5:decide (0≤Kerb.eq5 l pos)=true:=Zm _ _ _
  have d6:decide (0≤Kerb.eq6 l pos)=true:=Zm _ _ _
  have d7:decide (0≤Kerb.eq7 l pos)=true:=Zm _ _ _
  have d8:decide (0≤Kerb.eq8 l pos)=true:=Zm _ _ _
  have d9:decide (0≤Kerb.eq9 l pos)=true:=Zm _ _ _
  have d10:decide (0≤Xg l pos)=true:=Zm _ _ _
  have d12:decide (0≤Kerb.eq12 l pos)=true:=Zm _ _ _
  have d13:decide (0≤Kerb.eq13 l pos)=true:=Zm _ _ _
  have E3:∃ q,Yf l pos=q∧decide (0≤q)=true:=by
   refine ⟨_,rfl,?_⟩
   unfold Yf
   cases (Yy l (Kerb.eq1 l pos) 2==1)
   ·exact d2
   ·exact Zm _ _ _
  obtain ⟨_,rfl,d3⟩:=E3
  have E11:∃ q,Yu l pos=q∧decide (0≤q)=true:=by
   refine ⟨_,rfl,?_⟩
   unfold Yu
   cases (Yy l (Kerb.eq9 l pos) 5==4)
   ·exact d10
   ·exact Zm _ _ _
  obtain ⟨_,rfl,d11⟩:=E11
  unfold Wy Wn
  cases h1:(Yy l (Kerb.eq1 l pos) 2==1)
  all_goals cases h2:(Yy l (Kerb.eq9 l pos) 5==4)
  all_goals cases h3:(Yy l (Yu l pos) 9==8)
  all_goals cases h4:(Yy l (Kerb.eq12 l pos) 9==8)
  ·have F3:Xx l pos=Yf l pos:=by unfold Yf;rw [h1];rfl
   have F11:Xg l pos=Yu l pos:=by unfold Yu;rw [h2];rfl
   have FP:Zg l pos=Zv (Yy l pos 3):=by unfold Zg;rw [h1];rfl
   simp only [FP,h1,h2,h3,h4,F3,E1,E2,E4,E5,E6,E7,E8,E9,E10,E12,E13,F11,wA,wB,wC,wD,d1,d2,d3,d4,d5,d6,d7,d8,d9,d10,d11,d12,d13,c,c0,Zm,Xz,Yg,Yj,Yx,cond_true,cond_false,↓A0,A0]
  ·have F3:Xx l pos=Yf l pos:=by unfold Yf;rw [h1];rfl
   have F11:Xg l pos=Yu l pos:=by unfold Yu;rw [h2];rfl
   have FP:Zg l pos=Zv (Yy l pos 3):=by unfold Zg;rw [h1];rfl
   simp only [FP,h1,h2,h3,h4,F3,E1,E2,E4,E5,E6,E7,E8,E9,E10,E12,E13,F11,wA,wB,wC,wD,d1,d2,d3,d4,d5,d6,d7,d8,d9,d10,d11,d12,d13,c,c0,Zm,Xz,Yg,Yj,Yx,cond_true,cond_false,↓A0,A0]
  ·have F3:Xx l pos=Yf l pos:=by unfold Yf;rw [h1];rfl
   have F11:Xg l pos=Yu l pos:=by unfold Yu;rw [h2];rfl
   have FP:Zg l pos=Zv (Yy l pos 3):=by unfold Zg;rw [h1];rfl
   simp only [FP,h1,h2,h3,h4,F3,E1,E2,E4,E5,E6,E7,E8,E9,E10,E12,E13,F11,wA,wB,wC,wD,d1,d2,d3,d4,d5,d6,d7,d8,d9,d10,d11,d12,d13,c,c0,Zm,Xz,Yg,Yj,Yx,cond_true,cond_false,↓A0,A0]
  ·have F3:Xx l pos=Yf l pos:=by unfold Yf;rw [h1];rfl
   have F11:Xg l pos=Yu l pos:=by unfold Yu;rw [h2];rfl
   have FP:Zg l pos=Zv (Yy l pos 3):=by unfold Zg;rw [h1];rfl
   simp only [FP,h1,h2,h3,h4,F3,E1,E2,E4,E5,E6,E7,E8,E9,E10,E12,E13,F11,wA,wB,wC,wD,d1,d2,d3,d4,d5,d6,d7,d8,d9,d10,d11,d12,d13,c,c0,Zm,Xz,Yg,Yj,Yx,cond_true,cond_false,↓A0,A0]
  ·have F3:Xx l pos=Yf l pos:=by unfold Yf;rw [h1];rfl
   have F11:Zn l (Xg l pos) 256=Yu l pos:=by unfold Yu;rw [h2];rfl
   have FP:Zg l pos=Zv (Yy l pos 3):=by unfold Zg;rw [h1];rfl
   simp only [FP,h1,h2,h3,h4,F3,E1,E2,E4,E5,E6,E7,E8,E9,E10,E12,E13,F11,wA,wB,wC,wD,d1,d2,d3,d4,d5,d6,d7,d8,d9,d10,d11,d12,d13,c,c0,Zm,Xz,Yg,Yj,Yx,cond_true,cond_false,↓A0,A0]
  ·have F3:Xx l pos=Yf l pos:=by unfold Yf;rw [h1];rfl
   have F11:Zn l (Xg l pos) 256=Yu l pos:=by unfold Yu;rw [h2];rfl
   have FP:Zg l pos=Zv (Yy l pos 3):=by unfold Zg;rw [h1];rfl
   simp only [FP,h1,h2,h3,h4,F3,E1,E2,E4,E5,E6,E7,E8,E9,E10,E12,E13,F11,wA,wB,wC,wD,d1,d2,d3,d4,d5,d6,d7,d8,d9,d10,d11,d12,d13,c,c0,Zm,Xz,Yg,Yj,Yx,cond_true,cond_false,↓A0,A0]
  ·have F3:Xx l pos=Yf l pos:=by unfold Yf;rw [h1];rfl
   have F11:Zn l (Xg l pos) 256=Yu l pos:=by unfold Yu;rw [h2];rfl
   have FP:Zg l pos=Zv (Yy l pos 3):=by unfold Zg;rw [h1];rfl
   simp only [FP,h1,h2,h3,h4,F3,E1,E2,E4,E5,E6,E7,E8,E9,E10,E12,E13,F11,wA,wB,wC,wD,d1,d2,d3,d4,d5,d6,d7,d8,d9,d10,d11,d12,d13,c,c0,Zm,Xz,Yg,Yj,Yx,cond_true,cond_false,↓A0,A0]
  ·have F3:Xx l pos=Yf l pos:=by unfold Yf;rw [h1];rfl
   have F11:Zn l (Xg l pos) 256=Yu l pos:=by unfold Yu;rw [h2];rfl
   have FP:Zg l pos=Zv (Yy l pos 3):=by unfold Zg;rw [h1];rfl
   simp only [FP,h1,h2,h3,h4,F3,E1,E2,E4,E5,E6,E7,E8,E9,E10,E12,E13,F11,wA,wB,wC,wD,d1,d2,d3,d4,d5,d6,d7,d8,d9,d10,d11,d12,d13,c,c0,Zm,Xz,Yg,Yj,Yx,cond_true,cond_false,↓A0,A0]
  ·have F3:Zn l (Xx l pos) 3=Yf l pos:=by unfold Yf;rw [h1];rfl
   have F11:Xg l pos=Yu l pos:=by unfold Yu;rw [h2];rfl
   have FP:Zg l pos=Zw (Yy l (Xx l pos) 3):=by unfold Zg;rw [h1];rfl
   simp only [FP,h1,h2,h3,h4,F3,E1,E2,E4,E5,E6,E7,E8,E9,E10,E12,E13,F11,wA,wB,wC,wD,d1,d2,d3,d4,d5,d6,d7,d8,d9,d10,d11,d12,d13,c,c0,Zm,Xz,Yg,Yj,Yx,cond_true,cond_false,↓A0,A0]
  ·have F3:Zn l (Xx l pos) 3=Yf l pos:=by unfold Yf;rw [h1];rfl
   have F11:Xg l pos=Yu l pos:=by unfold Yu;rw [h2];rfl
   have FP:Zg l pos=Zw (Yy l (Xx l pos) 3):=by unfold Zg;rw [h1];rfl
   simp only [FP,h1,h2,h3,h4,F3,E1,E2,E4,E5,E6,E7,E8,E9,E10,E12,E13,F11,wA,wB,wC,wD,d1,d2,d3,d4,d5,d6,d7,d8,d9,d10,d11,d12,d13,c,c0,Zm,Xz,Yg,Yj,Yx,cond_true,cond_false,↓A0,A0]
  ·have F3:Zn l (Xx l pos) 3=Yf l pos:=by unfold Yf;rw [h1];rfl
   have F11:Xg l pos=Yu l pos:=by unfold Yu;rw [h2];rfl
   have FP:Zg l pos=Zw (Yy l (Xx l pos) 3):=by unfold Zg;rw [h1];rfl
   simp only [FP,h1,h2,h3,h4,F3,E1,E2,E4,E5,E6,E7,E8,E9,E10,E12,E13,F11,wA,wB,wC,wD,d1,d2,d3,d4,d5,d6,d7,d8,d9,d10,d11,d12,d13,c,c0,Zm,Xz,Yg,Yj,Yx,cond_true,cond_false,↓A0,A0]
  ·have F3:Zn l (Xx l pos) 3=Yf l pos:=by unfold Yf;rw [h1];rfl
   have F11:Xg l pos=Yu l pos:=by unfold Yu;rw [h2];rfl
   have FP:Zg l pos=Zw (Yy l (Xx l pos) 3):=by unfold Zg;rw [h1];rfl
   simp only [FP,h1,h2,h3,h4,F3,E1,E2,E4,E5,E6,E7,E8,E9,E10,E12,E13,F11,wA,wB,wC,wD,d1,d2,d3,d4,d5,d6,d7,d8,d9,d10,d11,d12,d13,c,c0,Zm,Xz,Yg,Yj,Yx,cond_true,cond_false,↓A0,A0]
  ·have F3:Zn l (Xx l pos) 3=Yf l pos:=by unfold Yf;rw [h1];rfl
   have F11:Zn l (Xg l pos) 256=Yu l pos:=by unfold Yu;rw [h2];rfl
   have FP:Zg l pos=Zw (Yy l (Xx l pos) 3):=by unfold Zg;rw [h1];rfl
   simp only [FP,h1,h2,h3,h4,F3,E1,E2,E4,E5,E6,E7,E8,E9,E10,E12,E13,F11,wA,wB,wC,wD,d1,d2,d3,d4,d5,d6,d7,d8,d9,d10,d11,d12,d13,c,c0,Zm,Xz,Yg,Yj,Yx,cond_true,cond_false,↓A0,A0]
  ·have F3:Zn l (Xx l pos) 3=Yf l pos:=by unfold Yf;rw [h1];rfl
   have F11:Zn l (Xg l pos) 256=Yu l pos:=by unfold Yu;rw [h2];rfl
   have FP:Zg l pos=Zw (Yy l (Xx l pos) 3):=by unfold Zg;rw [h1];rfl
   simp only [FP,h1,h2,h3,h4,F3,E1,E2,E4,E5,E6,E7,E8,E9,E10,E12,E13,F11,wA,wB,wC,wD,d1,d2,d3,d4,d5,d6,d7,d8,d9,d10,d11,d12,d13,c,c0,Zm,Xz,Yg,Yj,Yx,cond_true,cond_false,↓A0,A0]
  ·have F3:Zn l (Xx l pos) 3=Yf l pos:=by unfold Yf;rw [h1];rfl
   have F11:Zn l (Xg l pos) 256=Yu l pos:=by unfold Yu;rw [h2];rfl
   have FP:Zg l pos=Zw (Yy l (Xx l pos) 3):=by unfold Zg;rw [h1];rfl
   simp only [FP,h1,h2,h3,h4,F3,E1,E2,E4,E5,E6,E7,E8,E9,E10,E12,E13,F11,wA,wB,wC,wD,d1,d2,d3,d4,d5,d6,d7,d8,d9,d10,d11,d12,d13,c,c0,Zm,Xz,Yg,Yj,Yx,cond_true,cond_false,↓A0,A0]
  ·have F3:Zn l (Xx l pos) 3=Yf l pos:=by unfold Yf;rw [h1];rfl
   have F11:Zn l (Xg l pos) 256=Yu l pos:=by unfold Yu;rw [h2];rfl
   have FP:Zg l pos=Zw (Yy l (Xx l pos) 3):=by unfold Zg;rw [h1];rfl
   simp only [FP,h1,h2,h3,h4,F3,E1,E2,E4,E5,E6,E7,E8,E9,E10,E12,E13,F11,wA,wB,wC,wD,d1,d2,d3,d4,d5,d6,d7,d8,d9,d10,d11,d12,d13,c,c0,Zm,Xz,Yg,Yj,Yx,cond_true,cond_false,↓A0,A0]
 ·cases h
theorem w28:Walked Tryz.prog G 28 4 sp28:=by
 refine ⟨Tryz.f28,Tryz.func28,by decide +kernel,rfl,fun xs bl r h=> ?_⟩
 unfold sp28 at h
 split at h
 ·rename_i rl els n i now
  obtain ⟨hpre,h2⟩:=chk_inv h;cases h2
  refine Eq.trans (b:=(Zj (chk (Ux els Vh&&decide (Zu els≤1000000)) (some (Yh [Zz .i64 (Yv (Vf (Wd rl (Xf Xb els)) n i now 2 2 6)),Zz .i64 (Yz (Vf (Wd rl (Xf Xb els)) n i now 2 2 6))],[]))) fun (r:AV×Blocks)=>onNilB (Yz r) (AV.onTup (Yv r) fun vs=>onCons vs fun x r=>Xw .i64 x fun n=>onCons r fun x r=>Xw .i64 x fun n_1=>onNil r (some (Yh [Zz .i64 n,Zz .i64 n_1],[]))):Option (AV×Blocks))) (by kernel_rfl) ?_
  simp only [hpre,↓A0,A0]
  rfl
 ·cases h
theorem w43:Walked Tryz.prog G 43 4 sp43:=by
 refine ⟨Tryz.f43,Tryz.func43,by decide +kernel,rfl,fun xs bl r h=> ?_⟩
 unfold sp43 at h
 split at h
 ·rename_i now w els
  obtain ⟨hpre,h2⟩:=chk_inv h;cases h2
  refine Eq.trans (b:=(Zj (loopM (fun (st:List AV)=>cInt .i64 st fun n r=>cInt .i64 r fun n_1 r=>onCons r fun x r=>Vz x fun b=>cSl 1 r fun b_1 r=>cInt .i64 r fun n_2 r=>cInt .i64 r fun n_3 r=>let t0:List AV:=[Yp 1 b_1,Zz .i64 n_2,Zz .i64 (Zk .i64 (n_3+1))];onNil r (sel (decide (n_3<n_2)) (chk (decide (0≤n_3)&&decide (n_3<(↑(Zu b_1):Int))&&true) (Xw .i64 (Yd b_1 (Zf n_3) Yb) fun n_4=>sel (!n_4==0) (chk (room (Zu b+Zu [Zz .i64 n_4]) (nat_lit 8)) (some (Wm (Zz .i64 n::Zz .i64 n_1::Xv (b++[Zz .i64 n_4])::t0)))) (some (Wm (Zz .i64 n::Zz .i64 n_1::Xv b::t0))))) (some (Vu (Wx 0,[Zz .i64 n,Zz .i64 n_1,Xv b,Yp 1 b_1,Zz .i64 n_2,Zz .i64 n_3]))))) [Zz .i64 now,Zz .i64 w,Xv [],Yp 1 els,Zz .i64 (↑(Zu els):Int),Zz .i64 0]) fun (r:Ex×List AV)=>cInt .i64 (Yz r) fun n r_1=>cInt .i64 r_1 fun n_1 r_2=>onCons r_2 fun x r_3=>Vz x fun b=>cSl 1 r_3 fun b_1 r_4=>cInt .i64 r_4 fun n_2 r_5=>cInt .i64 r_5 fun n_3 r_6=>onNil r_6 (exK r.1 none fun (j:Nat)=>sel (Vd j 0) (Zj (chk (allInts b&&decide (Zu b≤1000000)&&Ux (intsIn b) Kerb.isI64) (some (Yh [Zz .i64 (Yv (Kerb.grantLife n n_1 (intsIn b))),Zh (Yz (Kerb.grantLife n n_1 (intsIn b)))],[]))) (kT fun vs=>cInt .i64 vs fun n r=>cBool r fun b r=>onNil r (some (Yh [Zz .i64 n,Zh b],[])))) none):Option (AV×Blocks))) (by kernel_rfl) ?_
  delta kT
  try dsimp only [cStr,cBs,cBool,cU8,cInt,cSl,l63]
  simp only [Xy,decide_eq_true_eq] at hpre
  obtain ⟨⟨ha,hlen⟩,hi⟩:=hpre
  have hil:=Kerb.ints_len ha
  have r8:∀ {m:Nat},m≤1000001→Go.Abs.room m 8=true:=fun h=>by simp [Go.Abs.room];omega
  have hfl:∀ i,(((intsIn els).take i).filter (fun n => !(n==0))).length≤1000000:=fun i=>by
   refine Uy (List.length_filter_le _ _) ?_
   rw [List.length_take];omega
  refine loop_rounds (fun i:Nat=>[Zz Zx now,Zz Zx w,Xv ((((intsIn els).take i).filter (fun n => !(n==0))).map (Zz Zx)),Yp 1 els,Zz Zx (els.length:Int),Zz Zx (i:Int)]) (fun i=>i≤els.length) (fun i=>els.length-i)
   (fun r=>r=(Wx 0,[Zz Zx now,Zz Zx w,Xv (((intsIn els).filter (fun n => !(n==0))).map (Zz Zx)),Yp 1 els,Zz Zx (els.length:Int),Zz Zx (els.length:Int)])) 0 (Uj _) rfl ?_ ?_
  ·intro i h0
   simp only [↓A0,A0,Xk,List.length_cons,List.length_nil]
   rcases Nat.lt_or_ge i els.length with h | h
   ·obtain ⟨m,h1,h2⟩:=Kerb.ints_get ha h
    rw [sel_pos (by simp;omega),chk_of (by simp;omega),Xu,h1,onInt_int]
    have ht:(intsIn els).take (i+1)=(intsIn els).take i++[m]:=by
     have h4:i<(intsIn els).length:=by omega
     rw [List.take_succ_eq_append_getElem h4]
     rw [List.drop_eq_getElem_cons h4] at h2
     rw [(List.cons.inj h2).1]
    have hs:((intsIn els).take (i+1)).filter (fun n => !(n==0))=((intsIn els).take i).filter (fun n => !(n==0))++(if m=0 then [] else [m]):=by
     rw [ht,List.filter_append]
     congr 1
     by_cases q:m=0<;>simp [q]
    rw [wrap_i64 (by omega) (by omega)]
    by_cases hm:m=0
    ·rw [if_pos hm,List.append_nil] at hs
     rw [sel_neg (by simpa using hm)]
     exact ⟨_,rfl,i+1,by dsimp only;rw [hs];rfl,by omega,by dsimp only;omega⟩
    ·rw [if_neg hm] at hs
     rw [sel_pos (by simpa using hm),chk_of (r8 (by have:=hfl i;omega))]
     exact ⟨_,rfl,i+1,by dsimp only;rw [hs,List.map_append];rfl,by omega,by dsimp only;omega⟩
   ·have h1:i=els.length:=by omega
    subst h1
    rw [sel_neg (by simp)]
    refine ⟨_,rfl,?_⟩
    show _=_
    rw [List.take_of_length_le (by omega)]
  ·rintro _ rfl
   have hall:=Kerb.ints_map ((intsIn els).filter (fun n => !(n==0)))
   have hfl2:((intsIn els).filter (fun n => !(n==0))).length≤1000000:=Uy (List.length_filter_le _ _) (by omega)
   have hI:((intsIn els).filter (fun n => !(n==0))).all Kerb.isI64=true:=by
    rw [List.all_eq_true] at hi ⊢
    exact fun x hx=>hi x (List.mem_filter.1 hx).1
   simp only [hall.1,hall.2,hfl2,hI,Xk,decide_true,Yx,↓A0,A0]
   rw [sel_pos (Xn _)]
 ·cases h
theorem w49:Walked Tryz.prog G 49 4 sp49:=by
 refine ⟨Tryz.f49,Tryz.func49,by decide +kernel,rfl,fun xs bl r h=> ?_⟩
 unfold sp49 at h
 split at h
 ·rename_i B at_ li bad
  obtain ⟨hpre,h2⟩:=chk_inv h;cases h2
  show runFnH (G.env 49 4) G.rts (G.own 49) Tryz.f49 _ _ [0]=_
  refine Eq.trans (b:=(Zj (chk (decide (Zu B≤140737488355328)) (some (Yh [Zz .i64 (Kerb.Got.val (Vw B at_ 4 li)),Zz .i64 (Kerb.Got.next (Vw B at_ 4 li)),Zz .i64 (Up (Vw B at_ 4 li))],[]))) fun (r:AV×Blocks)=>onNilB (Yz r) (AV.onTup (Yv r) fun vs=>onCons vs fun x r=>Xw .i64 x fun n=>onCons r fun x r=>Xw .i64 x fun n_1=>onCons r fun x r=>Xw .i64 x fun n_2=>onNil r (some (Zz .i64 n,[[Yw B,Zz .i64 (bif bad || !n_2==0 then at_ else n_1),Zh li,Zh (bad || !n_2==0)]]))):Option (AV×Blocks))) (by kernel_rfl) ?_
  simp only [A0]
  rw [chk_of hpre]
 ·cases h
theorem w51:Walked Tryz.prog G 51 4 sp51:=by
 refine ⟨Tryz.f51,Tryz.func51,by decide +kernel,rfl,fun xs bl r h=> ?_⟩
 unfold sp51 at h
 split at h
 ·rename_i li x y z t cd tx
  obtain ⟨hpre,h2⟩:=chk_inv h;cases h2
  refine Eq.trans (b:=(let t0:Option (AV×Blocks):=some (Yh [Yw [],Zz .i64 104],[]);Zj (chk (l63 x&&l63 y&&l63 z) (some (Zh (Vq (Vp x y z)),[]))) (kL fun b=>sel (!b) (some (Yh [Yw [],Zz .i64 103],[])) (sel (!Uv t 4294967295) t0 (sel (decide (cd<1)) t0 (sel (decide (cd>99)) t0 (sel (decide ((↑(Zu tx):Int)>39)) (some (Yh [Yw [],Zz .i64 105],[])) (Zj (loopM (fun (st:List AV)=>cBool st fun b r=>cStr r fun b_1 r=>cStr r fun b_2 r=>cStr r fun b_3 r=>cInt .i64 r fun n r=>cInt .i64 r fun n_1 r=>cStr r fun b_4 r=>cBs r fun b_5 r=>cInt .i64 r fun n_2 r=>cInt .i64 r fun n_3 r=>onNil r (sel (decide (n_3<(↑(Zu b_4):Int))) (chk (decide (0≤n_3)&&decide (n_3<(↑(Zu b_4):Int))) (sel (Yd b_4 (Zf n_3) (0:UInt8)==(0:UInt8)) (some (Vu (Ex.ret,[Zh b,Zy b_1,Zy b_2,Zy b_3,Zz .i64 n,Zz .i64 n_1,Zy b_4,Yw [],Zz .i64 100,Zz .i64 n_3]))) (some (Wm [Zh b,Zy b_1,Zy b_2,Zy b_3,Zz .i64 n,Zz .i64 n_1,Zy b_4,Yw b_5,Zz .i64 n_2,Zz .i64 (Zk .i64 (n_3+1))])))) (some (Vu (Wx 0,[Zh b,Zy b_1,Zy b_2,Zy b_3,Zz .i64 n,Zz .i64 n_1,Zy b_4,Yw b_5,Zz .i64 n_2,Zz .i64 n_3]))))) [Zh li,Zy x,Zy y,Zy z,Zz .i64 t,Zz .i64 cd,Zy tx,Yw [],Zz .i64 0,Zz .i64 0]) fun (r:Ex×List AV)=>cBool (Yz r) fun b r_1=>cStr r_1 fun b_1 r_2=>cStr r_2 fun b_2 r_3=>cStr r_3 fun b_3 r_4=>let t1:Nat:=Zu (Kerb.header 5 b)+Zu b_1+Zu b_2+Zu b_3;cInt .i64 r_4 fun n r_5=>cInt .i64 r_5 fun n_1 r_6=>cStr r_6 fun b_4 r_7=>cBs r_7 fun b_5 r_8=>cInt .i64 r_8 fun n_2 r_9=>cInt .i64 r_9 fun n_3 r_10=>onNil r_10 (exK r.1 (some (Yh [Yw b_5,Zz .i64 n_2],[])) fun (j:Nat)=>sel (Vd j 0) (Zj (chk (decide (t1≤70368744170000)) (some (Yw (Kerb.putPrin (Kerb.header 5 b) (Vp b_1 b_2 b_3)),[]))) (kB fun b_6=>Zj (chk (decide (Zu b_6≤70368744177664)) (some (Vn (b_6++Wu n 4 b),[]))) (kO fun l=>Zj (chk (decide (Zu l≤70368744177664)) (some (Vn (l++Wu n_1 4 b),[]))) (kO fun l=>Zj (chk (decide (Zu l+Zu b_4≤70368744177664)) (some (Yw (Wg l b_4),[]))) (kB fun b=>some (Yh [Yw b,Zz .i64 0],[])))))) none))))))):Option (AV×Blocks))) (by kernel_rfl) ?_
  delta kB kO kL
  try dsimp only [cStr,cBs,cBool,cU8,cInt,cSl,l63]
  simp only [Xy,decide_eq_true_eq] at hpre
  obtain ⟨⟨⟨q1,q2⟩,q3⟩,q4⟩:=hpre
  simp only [A0]
  unfold Kerb.encodeError
  rw [chk_of (by simp [q1,q2,q3])]
  cases h1:Vq ⟨x,y,z⟩
  ·rfl
  rw [Yk,sel_false]
  cases h4:Uv t 4294967295
  ·rfl
  rw [Yk,sel_false]
  by_cases h5:1≤cd
  case neg =>
   rw [sel_pos (by simp;omega),if_neg (by simp),if_pos (by simp;omega)]
  by_cases h6:cd≤99
  case neg =>
   rw [sel_neg (by simp;omega),sel_pos (by simp;omega),if_neg (by simp),if_pos (by simp;omega)]
  rw [sel_neg (by simp;omega),sel_neg (by simp;omega),if_neg (by simp),if_neg (by simp;omega)]
  by_cases h7:39<tx.length
  ·rw [sel_pos (by simp;omega),if_pos h7]
  have l1:=Kerb.valid_len h1
  have l4:=Kerb.header_len 5 li
  simp only at l1
  rw [sel_neg (by simp;omega),if_neg h7]
  refine loop_rounds (fun i:Nat=>[Zh li,Zy x,Zy y,Zy z,Zz Zx t,Zz Zx cd,Zy tx,Yw [],Zz Zx 0,Zz Zx (i:Int)]) (fun i=>i≤tx.length∧((0:UInt8)∈tx↔(0:UInt8)∈tx.drop i)) (fun i=>tx.length-i)
   (fun r=>∃ (i:Nat) (e:Int),r.2=[Zh li,Zy x,Zy y,Zy z,Zz Zx t,Zz Zx cd,Zy tx,Yw [],Zz Zx e,Zz Zx (i:Int)]∧((r.1 = .ret∧e=100∧(0:UInt8)∈tx)∨(r.1 = .exit 0∧(0:UInt8) ∉ tx))) 0 ⟨Uj _,by simp⟩ rfl ?_ ?_
  ·rintro i ⟨hi,hm⟩
   simp only [A0]
   by_cases hlt:i<tx.length
   ·have hd:=Kerb.drop_all_cons hlt
    rw [sel_pos (by simp;omega),chk_of (by simp;omega),Xu]
    rw [hd,List.mem_cons] at hm
    by_cases h3:tx.getD i 0=0
    ·rw [sel_pos (by rw [h3];rfl)]
     exact ⟨_,rfl,i,100,rfl,.inl ⟨rfl,rfl,hm.2 (.inl h3.symm)⟩⟩
    ·rw [sel_neg (beq_eq_false_iff_ne.2 h3),wrap_i64 (by omega) (by omega)]
     exact ⟨_,rfl,i+1,rfl,⟨by omega,hm.trans ⟨fun h=>h.resolve_left fun e=>h3 e.symm,.inr⟩⟩,by dsimp only;omega⟩
   ·rw [sel_neg (by simp;omega)]
    refine ⟨_,rfl,i,0,rfl,.inr ⟨rfl,?_⟩⟩
    rw [hm,List.drop_eq_nil_of_le (by omega)];simp
  ·rintro ⟨e,l⟩ ⟨i,x,rfl,⟨rfl,rfl,h⟩ | ⟨rfl,h⟩⟩
   ·simp only [A0]
    rw [if_pos h]
   ·simp only [A0]
    rw [if_neg h,sel_pos (Xn _)]
    rw [chk_of (by simp;omega),chk_of (by simp [Wv];omega),chk_of (by simp [Wv,Uk];omega),chk_of (by simp [Wv,Uk];omega)]
 ·cases h
theorem w55:Walked Tryz.prog G 55 4 sp55:=by
 refine ⟨Tryz.f55,Tryz.func55,by decide +kernel,rfl,fun xs bl r h=> ?_⟩
 unfold sp55 at h
 split at h
 ·rename_i rl els n i now bit xp br
  obtain ⟨hpre,h2⟩:=chk_inv h;cases h2
  refine Eq.trans (b:=(Zj (chk (Ux els Vh&&decide (Zu els≤1000000)) (some (Yh [Zz .i64 (Yv (Kerb.findEnt (Xf Xb els) n i)),Zz .i64 (Yz (Kerb.findEnt (Xf Xb els) n i))],[]))) (kT fun vs=>cInt .i64 vs fun n r=>cInt .i64 r fun n_1 r=>onNil r (sel (!n_1==0) (some (Yh [Zz .i64 0,Zz .i64 n_1],[])) (chk (decide (0≤n)&&decide (n<(↑(Zu els):Int))&&true) (Xd (Yd els (Zf n) Yb) fun cs=>cStr cs fun b r=>cStr r fun b r=>cInt .u64 r fun n_2 r=>cInt .i64 r fun n_3 r=>cInt .i64 r fun n_4 r=>cInt .i64 r fun n_5 r=>cInt .i64 r fun n_6 r=>let t0:Option (AV×Blocks):=sel (!Zk .i64 (↑(BitVec.toNat (BitVec.ofInt (Vb .i64) n_6 &&& BitVec.ofInt (Vb .i64) bit)):Int)==0) (some (Yh [Zz .i64 0,Zz .i64 br],[])) (some (Yh [Zz .i64 n,Zz .i64 0],[]));cInt .i64 r fun n r=>cInt .i64 r fun n r=>onNil r (Zj (chk (decide (0≤n_2)&&decide (n_2<18446744073709551616)) (some (Zh (Kerb.keyValid n_2),[]))) (kL fun b=>sel (!b) (some (Yh [Zz .i64 0,Zz .i64 10],[])) (sel (!n_4==0) (sel (decide (n_4≤now)) (some (Yh [Zz .i64 0,Zz .i64 xp],[])) t0) t0))))))):Option (AV×Blocks))) (by kernel_rfl) ?_
  delta kT kL
  try dsimp only [cStr,cBs,cBool,cU8,cInt,cSl,l63]
  simp only [Xy,decide_eq_true_eq] at hpre
  obtain ⟨hall,hlen⟩:=hpre
  obtain ⟨es,rfl,hok⟩:=Kerb.ents_of hall
  simp only [hall,hlen,Kerb.map_toEntry,decide_true,Yx,↓A0,A0]
  unfold Vf
  dsimp only
  have hf:=Kerb.find_count (es:=es) (n:=n) (i:=i)
  generalize Kerb.findEnt es n i=F at hf
  obtain ⟨j,e⟩:=F
  dsimp only at hf ⊢
  by_cases he:e=0
  case neg=>rw [sel_pos (by simpa using he),if_pos he]
  obtain ⟨_,f2,f3⟩:=hf he
  subst f2
  rw [sel_neg (by simpa using he),if_neg (by simpa using he),chk_of (by simp only [Xk,Bool.and_true,Xy,decide_eq_true_eq];omega),Xu,Ww f3]
  have hx:=hok _ (Kerb.ent_mem f3)
  generalize es.getD (es.findIdx (Kerb.Entry.named n i)) Kerb.noEntry=x at hx
  obtain ⟨_,_,x3,_⟩:=hx
  have h4:(decide (0≤x.key)&&decide (x.key<18446744073709551616))=true:=x3
  simp only [Zq,↓A0,A0,h4]
  cases hk:Kerb.keyValid x.key
  ·rfl
  simp only [Yk,Xj,sel_true,sel_false]
  rw [if_neg (by simp)]
  have hb:Zk .i64 (BitVec.toNat (BitVec.ofInt (Vb .i64) x.attr &&& BitVec.ofInt (Vb .i64) bit):Int)=Kerb.bitOf x.attr bit:=rfl
  rw [hb]
  by_cases h1:x.expires=0
  ·rw [sel_neg (by simp [h1]),if_neg (by simp [h1])]
   by_cases h2:Kerb.bitOf x.attr bit=0
   ·rw [sel_neg (by simp [h2]),if_neg (by simp [h2])]
   ·rw [sel_pos (by simpa using h2),if_pos h2]
  ·rw [sel_pos (by simpa using h1)]
   by_cases h3:x.expires≤now
   ·rw [sel_pos (by simpa using h3),if_pos ⟨h1,h3⟩]
   ·rw [sel_neg (by simpa using h3),if_neg (by simp [h3])]
    by_cases h2:Kerb.bitOf x.attr bit=0
    ·rw [sel_neg (by simp [h2]),if_neg (by simp [h2])]
    ·rw [sel_pos (by simpa using h2),if_pos h2]
 ·cases h
theorem w75:Walked Tryz.prog G 75 4 sp75:=by
 refine ⟨Tryz.f75,Tryz.func75,by decide +kernel,rfl,fun xs bl r h=> ?_⟩
 unfold sp75 at h
 split at h
 ·rename_i kd k bd
  obtain ⟨hpre,h2⟩:=chk_inv h;cases h2
  refine Eq.trans (b:=(let t0:List UInt8:=[UInt8.ofNat (Zf (Zk .u8 (Int.fdiv (↑(Zu bd):Int) (2 ^ min (Zf 8) (Vb .i64))))),UInt8.ofNat (Zf (Zk .u8 (↑(Zu bd):Int)))];let t1:List UInt8:=List.replicate (Zf 0) (0:UInt8)++[(66:UInt8),UInt8.ofNat (Zf (Zk .u8 kd))];let t2:Int:=Zk .i64 (12+(↑(Zu bd):Int));sel (!Kerb.isKind kd) (some (Yh [Yw [],Zz .i64 104],[])) (Zj (chk (decide (0≤k)&&decide (k<18446744073709551616)) (some (Zh (Kerb.keyValid k),[]))) (kL fun b=>sel (!b) (some (Yh [Yw [],Zz .i64 10],[])) (sel (decide ((↑(Zu bd):Int)>1000)) (some (Yh [Yw [],Zz .i64 105],[])) (chk (decide (0≤t2)&&decide (t2≤140737488355328)) (chk (room (Zu (List.replicate (Zf 0) (0:UInt8))+Zu [(66:UInt8),UInt8.ofNat (Zf (Zk .u8 kd))]) 1) (Zj (chk (decide (0≤k)&&decide (k<18446744073709551616)) (some (Yw (Kerb.keyBytes k),[]))) (kB fun b=>chk (room (Zu t1+Zu b) 1) (chk (room (Zu (t1++b)+Zu t0) 1) (chk (room (Zu (t1++b++t0)+Zu bd) 1) (some (Yh [Yw (t1++b++t0++bd),Zz .i64 0],[]))))))))))):Option (AV×Blocks))) (by kernel_rfl) ?_
  delta kB kL
  try dsimp only [cStr,cBs,cBool,cU8,cInt,cSl,l63]
  simp only [A0,Kerb.Client.av,Kerb.Cache.av,Kerb.Cred.av,hpre]
  unfold Kerb.makeBox
  cases h1:Kerb.isKind kd
  ·rfl
  rw [Yk,sel_false,if_neg (by simp)]
  cases h2:Kerb.keyValid k
  ·rfl
  rw [Yk,sel_false,if_neg (by simp)]
  by_cases h3:1000<bd.length
  ·rw [sel_pos (by simp;omega),if_pos h3]
  have hk:1≤kd∧kd≤10:=by simp [Kerb.isKind] at h1;omega
  have lk:=Kerb.keyBytes_len k
  rw [sel_neg (by simp;omega),if_neg h3,wrap_i64 (by omega) (by omega),chk_of (by simp;omega),chk_of (Kerb.room_ok (by simp)),chk_of (Kerb.room_ok (by simp;omega)),chk_of (Kerb.room_ok (by simp;omega)),chk_of (Kerb.room_ok (by simp;omega)),Kerb.two_bytes,Kerb.wrap_u8,Int.emod_eq_of_lt (by omega) (by omega)]
  rfl
 ·cases h
theorem w81:Walked Tryz.prog G 81 4 sp81:=by
 refine ⟨Tryz.f81,Tryz.func81,by decide +kernel,rfl,fun xs bl r h=> ?_⟩
 unfold sp81 at h
 split at h
 ·rename_i s bad
  obtain ⟨hpre,h2⟩:=chk_inv h;cases h2
  refine Eq.trans (b:=(Zj (loopM (fun (st:List AV)=>cStr st fun b r=>cStr r fun b_1 r=>cBool r fun b_2 r=>cInt .i64 r fun n r=>cInt .i64 r fun n_1 r=>let t0:Option (List AV ⊕ Ex×List AV):=some (Vu (Ex.ret,[Zy b,Zy b_1,Zh false,Zz .i64 n,Zz .i64 n_1]));let t1:Bool:=decide (0≤n_1)&&decide (n_1<(↑(Zu b):Int));let t2:Int:=(↑(Wf (Yd b (Zf n_1) (0:UInt8))):Int);onNil r (sel (decide (n_1<n)) (chk t1 (sel (decide (t2<(↑(Wf (33:UInt8)):Int))) t0 (chk t1 (sel (decide (t2>(↑(Wf (126:UInt8)):Int))) t0 (chk t1 (sel (decide (Kerb.indexOf (Yd b (Zf n_1) (0:UInt8)) b_1≥0)) t0 (some (Wm [Zy b,Zy b_1,Zh b_2,Zz .i64 n,Zz .i64 (Zk .i64 (n_1+1))])))))))) (some (Vu (Wx 0,[Zy b,Zy b_1,Zh b_2,Zz .i64 n,Zz .i64 n_1]))))) [Zy s,Zy bad,Zh false,Zz .i64 (↑(Zu s):Int),Zz .i64 0]) fun (r:Ex×List AV)=>cStr (Yz r) fun b r_1=>cStr r_1 fun b r_2=>cBool r_2 fun b r_3=>cInt .i64 r_3 fun n r_4=>cInt .i64 r_4 fun n r_5=>onNil r_5 (exK r.1 (some (Zh b,[])) fun (j:Nat)=>sel (Vd j 0) (some (Zh true,[])) none):Option (AV×Blocks))) (by kernel_rfl) ?_
  try dsimp only [cStr,cBs,cBool,cU8,cInt,cSl,l63]
  simp only [decide_eq_true_eq] at hpre
  refine loop_rounds (fun i:Nat=>[Zy s,Zy bad,Zh false,Zz Zx (s.length:Int),Zz Zx (i:Int)]) (fun i=>i≤s.length∧Wq s bad=Wq (s.drop i) bad) (fun i=>s.length-i)
   (fun r=>∃ i:Nat,r.2=[Zy s,Zy bad,Zh false,Zz Zx (s.length:Int),Zz Zx (i:Int)]∧((r.1 = .ret∧Wq s bad=false)∨(r.1 = .exit 0∧Wq s bad=true))) 0 ⟨Uj _,rfl⟩ rfl ?_ ?_
  ·rintro i ⟨hi,hp⟩
   simp only [A0]
   by_cases hlt:i<s.length
   ·have hc:(decide ((0:Int)≤(i:Int))&&decide ((i:Int)<(s.length:Int)))=true:=by simp;omega
    have hd:=Kerb.drop_all_cons hlt
    rw [sel_pos (by simp;omega),chk_of hc,Xu]
    have hpr:Wq (s.drop i) bad=(Kerb.okB bad (s.getD i 0)&&Wq (s.drop (i+1)) bad):=by rw [hd];rfl
    generalize s.getD i 0=c at *
    by_cases h1:c.toNat<33
    ·rw [sel_pos (by simp;omega)]
     exact ⟨_,rfl,i,rfl,.inl ⟨rfl,by rw [hp,hpr];simp [Kerb.okB,h1]⟩⟩
    rw [sel_neg (by simp;omega),chk_of hc]
    by_cases h2:126<c.toNat
    ·rw [sel_pos (by simp;omega)]
     exact ⟨_,rfl,i,rfl,.inl ⟨rfl,by rw [hp,hpr];simp [Kerb.okB,h2]⟩⟩
    rw [sel_neg (by simp;omega),chk_of hc]
    have h4:=Kerb.indexOf_nonneg c bad
    by_cases h3:c∈bad
    ·rw [sel_pos (by simpa using h4.2 h3)]
     exact ⟨_,rfl,i,rfl,.inl ⟨rfl,by rw [hp,hpr];simp [Kerb.okB,h3]⟩⟩
    rw [sel_neg (by have:=mt h4.1 h3;simp;omega),wrap_i64 (by omega) (by omega)]
    exact ⟨_,rfl,i+1,rfl,⟨by omega,by rw [hp,hpr];simp [Kerb.okB,h1,h2,h3]⟩,by dsimp only;omega⟩
   ·rw [sel_neg (by simp;omega)]
    exact ⟨_,rfl,i,rfl,.inr ⟨rfl,by rw [hp,List.drop_eq_nil_of_le (by omega)];rfl⟩⟩
  ·rintro ⟨e,l⟩ ⟨i,rfl,⟨rfl,hp⟩ | ⟨rfl,hp⟩⟩
   ·simp only [A0,hp]
   ·simp only [A0,hp]
    rfl
 ·cases h
theorem w95:Walked Tryz.prog G 95 4 sp95:=by
 refine ⟨Tryz.f95,Tryz.func95,by decide +kernel,rfl,fun xs bl r h=> ?_⟩
 unfold sp95 at h
 split at h
 ·rename_i b x y z
  obtain ⟨hpre,h2⟩:=chk_inv h;cases h2
  refine Eq.trans (b:=(Zj (chk (decide (Zu b+Zu x≤70368744177664)) (some (Yw (Wg b x),[]))) fun (r:AV×Blocks)=>onNilB (Yz r) (AV.onBs (Yv r) fun b=>Zj (chk (decide (Zu b+Zu y≤70368744177664)) (some (Yw (Wg b y),[]))) fun (r:AV×Blocks)=>onNilB (Yz r) (AV.onBs (Yv r) fun b=>Zj (chk (decide (Zu b+Zu z≤70368744177664)) (some (Yw (Wg b z),[]))) fun (r:AV×Blocks)=>onNilB (Yz r) (AV.onBs (Yv r) fun b=>some (Yw b,[])))):Option (AV×Blocks))) (by kernel_rfl) ?_
  simp only [decide_eq_true_eq] at hpre
  simp only [A0]
  rw [chk_of (by simp;omega),chk_of (by simp [Wg];omega),chk_of (by simp [Wg];omega)]
  rfl
 ·cases h
theorem w96:Walked Tryz.prog G 96 4 sp96:=by
 refine ⟨Tryz.f96,Tryz.func96,by decide +kernel,rfl,fun xs bl r h=> ?_⟩
 unfold sp96 at h
 split at h
 ·rename_i b n little
  obtain ⟨hpre,h2⟩:=chk_inv h;cases h2
  refine Eq.trans (b:=(Zj (chk (decide (Zu b≤70368744177664)) (some (Vn (b++Wu n (Zf 4) little),[]))) fun (r:AV×Blocks)=>onNilB (Yz r) (AV.onOwnB (Yv r) fun l=>some (Vn l,[])):Option (AV×Blocks))) (by kernel_rfl) ?_
  simp only [decide_eq_true_eq] at hpre
  simp only [A0]
  rw [chk_of (by simp;omega)]
  rfl
 ·cases h
theorem w97:Walked Tryz.prog G 97 4 sp97:=by
 refine ⟨Tryz.f97,Tryz.func97,by decide +kernel,rfl,fun xs bl r h=> ?_⟩
 unfold sp97 at h
 split at h
 ·rename_i b n
  obtain ⟨hpre,h2⟩:=chk_inv h;cases h2
  refine Eq.trans (b:=(Zj (chk (decide (Zu b≤70368744177664)) (some (Vn (b++Wu n (Zf 1) false),[]))) fun (r:AV×Blocks)=>onNilB (Yz r) (AV.onOwnB (Yv r) fun l=>some (Vn l,[])):Option (AV×Blocks))) (by kernel_rfl) ?_
  simp only [decide_eq_true_eq] at hpre
  simp only [A0]
  rw [chk_of (by simp;omega)]
  rfl
 ·cases h
theorem w111:Walked Tryz.prog G 111 4 sp111:=by
 refine ⟨Tryz.f111,Tryz.func111,by decide +kernel,rfl,fun xs bl r h=> ?_⟩
 unfold sp111 at h
 split at h
 ·rename_i b n little
  obtain ⟨hpre,h2⟩:=chk_inv h;cases h2
  refine Eq.trans (b:=(Zj (chk (decide (Zu b≤70368744177664)) (some (Vn (b++Wu n (Zf 2) little),[]))) fun (r:AV×Blocks)=>onNilB (Yz r) (AV.onOwnB (Yv r) fun l=>some (Vn l,[])):Option (AV×Blocks))) (by kernel_rfl) ?_
  simp only [decide_eq_true_eq] at hpre
  simp only [A0]
  rw [chk_of (by simp;omega)]
  rfl
 ·cases h
theorem w9:Walked Tryz.prog G 9 5 sp9:=by
 refine ⟨Tryz.f9,Tryz.func9,by decide +kernel,rfl,fun xs bl r h=> ?_⟩
 unfold sp9 at h
 split at h
 ·rename_i l n
  obtain ⟨hpre,h2⟩:=chk_inv h;cases h2
  refine Eq.trans (b:=(Zj (chk (decide (0≤n)) (some (Zy (Kerb.realm n),[]))) (kS fun b=>Zj (loopM (fun (st:List AV)=>cStr st fun b r=>cSl 9 r fun b_1 r=>cBs r fun b_2 r=>cInt .i64 r fun n r=>cStr r fun b_3 r=>cSl 9 r fun b_4 r=>onNil r (Zj (sel (decide (n<(↑(Zu b_2):Int))) (some [Zy b,Yp 9 b_1,Yw b_2,Zz .i64 n,Zy b_3,Yp 9 b_4,Zh (decide ((↑(Zu b_4):Int)<60))]) (some [Zy b,Yp 9 b_1,Yw b_2,Zz .i64 n,Zy b_3,Yp 9 b_4,Zh false])) fun l=>cStr l fun b r=>cSl 9 r fun b_5 r=>cBs r fun b_6 r=>cInt .i64 r fun n r=>cStr r fun b_7 r=>cSl 9 r fun b_8 r=>cBool r fun b_9 r=>onNil r (sel b_9 (Zj (chk (decide (Zu b_6≤100000)&&decide (0≤n)) (some (Zd [Zy (Kerb.Entry.name (Wy b_6 n)),Zy (Kerb.Entry.inst (Wy b_6 n)),Zz .u64 (Kerb.Entry.key (Wy b_6 n)),Zz .i64 (Kerb.Entry.kvno (Wy b_6 n)),Zz .i64 (Kerb.Entry.expires (Wy b_6 n)),Zz .i64 (Kerb.Entry.maxLife (Wy b_6 n)),Zz .i64 (Kerb.Entry.attr (Wy b_6 n)),Zz .i64 (Kerb.Entry.fails (Wy b_6 n)),Zz .i64 (Kerb.Entry.till (Wy b_6 n))],[[Yw b_6,Zz .i64 (Wn b_6 n)]]))) fun (r:AV×Blocks)=>onConsB (Yz r) fun (x:List AV) (r_1:List (List AV))=>cBs x fun b_10 r_2=>cInt .i64 r_2 fun n r_3=>onNil r_3 (onNilB r_1 (Xd (Yv r) fun cs=>cStr cs fun b_11 r=>cStr r fun b_12 r=>cInt .u64 r fun n_1 r=>cInt .i64 r fun n_2 r=>cInt .i64 r fun n_3 r=>cInt .i64 r fun n_4 r=>cInt .i64 r fun n_5 r=>cInt .i64 r fun n_6 r=>cInt .i64 r fun n_7 r=>onNil r (Zj (loopM (fun (st:List AV)=>cStr st fun b r=>cSl 9 r fun b_13 r=>cBs r fun b_14 r=>cInt .i64 r fun n r=>cStr r fun b_15 r=>cSl 9 r fun b_16 r=>cStr r fun b_17 r=>cStr r fun b_18 r=>cInt .u64 r fun n_8 r=>cInt .i64 r fun n_9 r=>cInt .i64 r fun n_10 r=>cInt .i64 r fun n_11 r=>cInt .i64 r fun n_12 r=>cInt .i64 r fun n_13 r=>cInt .i64 r fun n_14 r=>cInt .i64 r fun n_15 r=>let t0:Option (List AV):=some [Zy b,Yp 9 b_13,Yw b_14,Zz .i64 n,Zy b_15,Yp 9 b_16,Zy b_17,Zy b_18,Zz .u64 n_8,Zz .i64 n_9,Zz .i64 n_10,Zz .i64 n_11,Zz .i64 n_12,Zz .i64 n_13,Zz .i64 n_14,Zz .i64 n_15,Zh false];let t1:Bool:=decide (0≤n_15)&&decide (n_15<(↑(Zu b_16):Int))&&true;onNil r (Zj (sel (decide (n_15<(↑(Zu b_16):Int))) (chk t1 (Xd (Yd b_16 (Zf n_15) Yb) fun cs=>cStr cs fun b_19 r=>cStr r fun b_20 r=>cInt .u64 r fun n_16 r=>cInt .i64 r fun n_17 r=>cInt .i64 r fun n_18 r=>cInt .i64 r fun n_19 r=>cInt .i64 r fun n_20 r=>cInt .i64 r fun n_21 r=>cInt .i64 r fun n_22 r=>onNil r (sel (Op.bytesLess b_19 b_17) (some [Zy b,Yp 9 b_13,Yw b_14,Zz .i64 n,Zy b_15,Yp 9 b_16,Zy b_17,Zy b_18,Zz .u64 n_8,Zz .i64 n_9,Zz .i64 n_10,Zz .i64 n_11,Zz .i64 n_12,Zz .i64 n_13,Zz .i64 n_14,Zz .i64 n_15,Zh true]) (chk t1 (Xd (Yd b_16 (Zf n_15) Yb) fun cs=>cStr cs fun b_21 r=>cStr r fun b_22 r=>cInt .u64 r fun n_23 r=>cInt .i64 r fun n_24 r=>cInt .i64 r fun n_25 r=>cInt .i64 r fun n_26 r=>cInt .i64 r fun n_27 r=>cInt .i64 r fun n_28 r=>cInt .i64 r fun n_29 r=>onNil r (sel (b_21==b_17) (chk t1 (Xd (Yd b_16 (Zf n_15) Yb) fun cs=>cStr cs fun b_23 r=>cStr r fun b_24 r=>cInt .u64 r fun n_30 r=>cInt .i64 r fun n_31 r=>cInt .i64 r fun n_32 r=>cInt .i64 r fun n_33 r=>cInt .i64 r fun n_34 r=>cInt .i64 r fun n_35 r=>cInt .i64 r fun n_36 r=>onNil r (some [Zy b,Yp 9 b_13,Yw b_14,Zz .i64 n,Zy b_15,Yp 9 b_16,Zy b_17,Zy b_18,Zz .u64 n_8,Zz .i64 n_9,Zz .i64 n_10,Zz .i64 n_11,Zz .i64 n_12,Zz .i64 n_13,Zz .i64 n_14,Zz .i64 n_15,Zh (Op.bytesLess b_24 b_18||b_24==b_18)]))) t0)))))) t0) fun l=>cStr l fun b r=>cSl 9 r fun b_19 r=>cBs r fun b_20 r=>cInt .i64 r fun n r=>cStr r fun b_21 r=>cSl 9 r fun b_22 r=>cStr r fun b_23 r=>cStr r fun b_24 r=>cInt .u64 r fun n_16 r=>cInt .i64 r fun n_17 r=>cInt .i64 r fun n_18 r=>cInt .i64 r fun n_19 r=>cInt .i64 r fun n_20 r=>cInt .i64 r fun n_21 r=>cInt .i64 r fun n_22 r=>cInt .i64 r fun n_23 r=>cBool r fun b_25 r=>onNil r (sel b_25 (some (Wm [Zy b,Yp 9 b_19,Yw b_20,Zz .i64 n,Zy b_21,Yp 9 b_22,Zy b_23,Zy b_24,Zz .u64 n_16,Zz .i64 n_17,Zz .i64 n_18,Zz .i64 n_19,Zz .i64 n_20,Zz .i64 n_21,Zz .i64 n_22,Zz .i64 (Zk .i64 (n_23+1))])) (some (Vu (Wx 2,[Zy b,Yp 9 b_19,Yw b_20,Zz .i64 n,Zy b_21,Yp 9 b_22,Zy b_23,Zy b_24,Zz .u64 n_16,Zz .i64 n_17,Zz .i64 n_18,Zz .i64 n_19,Zz .i64 n_20,Zz .i64 n_21,Zz .i64 n_22,Zz .i64 n_23])))))) [Zy b,Yp 9 b_5,Yw b_10,Zz .i64 n,Zy b_7,Yp 9 b_8,Zy b_11,Zy b_12,Zz .u64 n_1,Zz .i64 n_2,Zz .i64 n_3,Zz .i64 n_4,Zz .i64 n_5,Zz .i64 n_6,Zz .i64 n_7,Zz .i64 0]) fun (r:Ex×List AV)=>cStr (Yz r) fun b r_4=>cSl 9 r_4 fun b_13 r_5=>cBs r_5 fun b_14 r_6=>cInt .i64 r_6 fun n r_7=>cStr r_7 fun b_15 r_8=>cSl 9 r_8 fun b_16 r_9=>cStr r_9 fun b_17 r_10=>cStr r_10 fun b_18 r_11=>cInt .u64 r_11 fun n_8 r_12=>cInt .i64 r_12 fun n_9 r_13=>cInt .i64 r_13 fun n_10 r_14=>cInt .i64 r_14 fun n_11 r_15=>cInt .i64 r_15 fun n_12 r_16=>cInt .i64 r_16 fun n_13 r_17=>cInt .i64 r_17 fun n_14 r_18=>let t2:List AV:=[Zd [Zy b_17,Zy b_18,Zz .u64 n_8,Zz .i64 n_9,Zz .i64 n_10,Zz .i64 n_11,Zz .i64 n_12,Zz .i64 n_13,Zz .i64 n_14]];cInt .i64 r_18 fun n_15 r_19=>onNil r_19 (exK r.1 (some (Vu (Ex.ret,[Zy b,Yp 9 b_13,Yw b_14,Zz .i64 n,Zy b_15,Yp 9 b_16]))) fun (j:Nat)=>sel (Vd j 2) (chk (decide ((↑(0:Nat):Int)≤n_15)&&decide (n_15≤(↑(Zu b_16):Int))) (chk (room (Zu (Vk (Zf (↑(0:Nat):Int)) (Vj (Zf n_15) b_16))) (nat_lit 88)) (chk (room (Zu (Vk (Zf (↑(0:Nat):Int)) (Vj (Zf n_15) b_16))+Zu t2) (nat_lit 88)) (chk (decide (0≤n_15)&&decide (n_15≤(↑(Zu b_16):Int))&&decide ((↑(Zu b_16):Int)≤(↑(Zu b_16):Int))) (chk (room (Zu (Vk (Zf (↑(0:Nat):Int)) (Vj (Zf n_15) b_16)++t2)+Zu (Vk (Zf n_15) (Vj (Zf (↑(Zu b_16):Int)) b_16))) (nat_lit 88)) (some (Wm [Zy b,Yp 9 b_13,Yw b_14,Zz .i64 n,Zy b_15,Yp 9 (Vk (Zf (↑(0:Nat):Int)) (Vj (Zf n_15) b_16)++t2++Vk (Zf n_15) (Vj (Zf (↑(Zu b_16):Int)) b_16))]))))))) none))))) (some (Vu (Wx 0,[Zy b,Yp 9 b_5,Yw b_6,Zz .i64 n,Zy b_7,Yp 9 b_8])))))) [Zy [],Yp 9 [],Yw l,Zz .i64 0,Zy b,Yp 9 []]) fun (r:Ex×List AV)=>cStr (Yz r) fun b r_1=>cSl 9 r_1 fun b_1 r_2=>cBs r_2 fun b_2 r_3=>cInt .i64 r_3 fun n r_4=>cStr r_4 fun b_3 r_5=>cSl 9 r_5 fun b_4 r_6=>onNil r_6 (exK r.1 (some (Zd [Zy b,Yp 9 b_1],[])) fun (j:Nat)=>sel (Vd j 0) (some (Zd [Zy b_3,Yp 9 b_4],[])) none)):Option (AV×Blocks))) (by kernel_rfl) ?_
  delta kS
  try dsimp only [cStr,cBs,cBool,cU8,cInt,cSl,l63]
  simp only [Xy,decide_eq_true_eq] at hpre
  obtain ⟨hl,hn0⟩:=hpre
  have c:decide (l.length≤100000)=true:=by simpa using hl
  rw [chk_of (by simp;omega)]
  simp only [↓A0,A0]
  refine loop_rounds (fun s:Nat×Int×List Kerb.Entry=>[Zy [],Yp 9 [],Yw l,Zz Zx s.2.1,Zy (Kerb.realm n),Yp 9 (s.2.2.map Zq)])
   (fun s=>0≤s.2.1∧(l.length:Int)-s.2.1<s.1∧s.2.2.length≤60∧Uz l s.1 s.2.1 s.2.2=Uz l (l.length+1) 0 []) (fun s=>s.1)
   (fun r=>∃ q:Int,r=(.exit 0,[Zy [],Yp 9 [],Yw l,Zz Zx q,Zy (Kerb.realm n),Yp 9 ((Uz l (l.length+1) 0 []).map Zq)])) (l.length+1,0,[]) ⟨by simp,by simp only;omega,by simp,rfl⟩ rfl ?_ ?_
  ·rintro ⟨f,q,es⟩ ⟨hq,hf,hc,he⟩
   simp only at hq hf hc he
   have cq:decide (0≤q)=true:=by simpa using hq
   simp only [c,cq,Xk,Yx,↓A0,A0]
   by_cases hlt:q<l.length
   case neg =>
    rw [sel_neg (by simpa using hlt)]
    refine ⟨_,rfl,q,?_⟩
    rw [← he]
    cases f with
    | zero=>rfl
    | succ f=>rw [Uz,if_neg (by simp [hlt])]
   rw [sel_pos (by simpa using hlt)]
   by_cases h60:es.length<60
   case neg =>
    rw [sel_neg (by simp;omega)]
    refine ⟨_,rfl,q,?_⟩
    rw [← he]
    cases f with
    | zero=>rfl
    | succ f=>rw [Uz,if_neg (by simp [h60])]
   rw [sel_pos (by simp;omega)]
   cases f with
   | zero=>simp at hf;omega
   | succ f =>
    rw [Uz,if_pos ⟨hlt,h60⟩] at he
    have hp1:q<Wn l q:=Kerb.dataEntPos_step hq hlt
    obtain ⟨E,hE⟩:∃ E,Wy l q=E:=⟨_,rfl⟩
    rw [hE] at he ⊢
    have hsp:=Kerb.spot_le es E
    have hil:=Kerb.ins_len es E
    refine loop_ex (Q:=Round _ _ _ _ _) (fun j:Nat=>[Zy [],Yp 9 [],Yw l,Zz Zx (Wn l q),Zy (Kerb.realm n),Yp 9 (es.map Zq),Zy E.name,Zy E.inst,Zz Yq E.key,Zz Zx E.kvno,Zz Zx E.expires,Zz Zx E.maxLife,Zz Zx E.attr,Zz Zx E.fails,Zz Zx E.till,Zz Zx (j:Int)]) (fun j=>j≤Kerb.spotOf es E) (fun j=>es.length-j)
     (fun r=>r=(Wx 2,[Zy [],Yp 9 [],Yw l,Zz Zx (Wn l q),Zy (Kerb.realm n),Yp 9 (es.map Zq),Zy E.name,Zy E.inst,Zz Yq E.key,Zz Zx E.kvno,Zz Zx E.expires,Zz Zx E.maxLife,Zz Zx E.attr,Zz Zx E.fails,Zz Zx E.till,Zz Zx (Kerb.spotOf es E:Int)])) 0 (Uj _) rfl ?_ ?_
    ·intro j hj
     simp only [Xk,↓A0,A0]
     rcases Nat.lt_or_ge j es.length with h | h
     ·have hk1:(decide ((0:Int)≤(j:Int))&&decide ((j:Int)<(es.length:Int))&&true)=true:=by simp;omega
      have hg:(Xf Zq es).getD j Yb=(es.getD j Kerb.noEntry).av:=Ww h
      have hyes:=Kerb.spot_next hj h
      have hno:=Kerb.spot_here hj h
      rw [sel_pos (by simp;omega)]
      simp only [hk1,Xu,hg,Zq,↓A0,A0]
      generalize es.getD j Kerb.noEntry=x at hyes hno ⊢
      unfold Kerb.Entry.leq at hyes hno
      rw [wrap_i64 (by omega) (by omega)]
      cases h1:Op.bytesLess x.name E.name
      ·rw [h1,Bool.false_or] at hyes hno
       rw [sel_false]
       cases h2:x.name==E.name
       ·simp only [sel_false]
        refine ⟨_,rfl,?_⟩
        show _=_
        rw [hno (by rw [h2];rfl)]
       ·rw [h2,Bool.true_and] at hyes hno
        rw [sel_true]
        cases h3:(Op.bytesLess x.inst E.inst||x.inst==E.inst)
        ·rw [sel_false]
         refine ⟨_,rfl,?_⟩
         show _=_
         rw [hno h3]
        ·rw [sel_true]
         exact ⟨_,rfl,j+1,rfl,hyes h3,by dsimp only;omega⟩
      ·rw [h1,Bool.true_or] at hyes
       simp only [sel_true]
       exact ⟨_,rfl,j+1,rfl,hyes rfl,by dsimp only;omega⟩
     ·rw [sel_neg (by simp;omega)]
      try rw [sel_false]
      refine ⟨_,rfl,?_⟩
      show _=_
      rw [show j=Kerb.spotOf es E from by omega]
    ·rintro _ rfl
     simp only [Xk,↓A0,A0]
     rw [sel_pos (Xn _)]
     have r88:∀ {m:Nat},m≤1000→Go.Abs.room m 88=true:=fun h=>Kerb.room_ok2 (by omega)
     rw [chk_of (by simp;omega),chk_of (r88 (by simp;omega)),chk_of (r88 (by simp;omega)),chk_of (by simp;omega),chk_of (r88 (by simp;omega))]
     refine ⟨_,rfl,(f,Wn l q,Kerb.insEnt es E),?_,⟨by simp only;omega,by simp only;push_cast at hf;omega,by simp only;omega,he⟩,by simp⟩
     have hl2:Xf Zq (Kerb.insEnt es E)=(Xf Zq es).take (Kerb.spotOf es E)++[E.av]++(Xf Zq es).drop (Kerb.spotOf es E):=by
      unfold Kerb.insEnt
      simp [List.map_take,List.map_drop]
     dsimp only
     rw [hl2]
     have hz:Zf ((0:Nat):Int)=0:=rfl
     rw [hz,List.drop_zero,Xu,Xu,List.take_of_length_le (l:=Xf Zq es) (i:=es.length) (by simp)]
     rfl
  ·rintro _ ⟨q,rfl⟩
   simp only [↓A0,A0]
   rw [sel_pos (Xn _)]
   rfl
 ·cases h
theorem w11:Walked Tryz.prog G 11 5 sp11:=by
 refine ⟨Tryz.f11,Tryz.func11,by decide +kernel,rfl,fun xs bl r h=> ?_⟩
 unfold sp11 at h
 split at h
 ·rename_i rl els xls n i now
  obtain ⟨hpre,h2⟩:=chk_inv h;cases h2
  refine Eq.trans (b:=(let t0:Option (AV×Blocks):=Zj (chk (Ux els Vh&&decide (Zu els≤1000000)) (some (Yh [Zz .i64 (Yv (Xp (Wd rl (Xf Xb els)) n i now)),Zz .i64 (Yz (Xp (Wd rl (Xf Xb els)) n i now))],[]))) (kT fun vs=>cInt .i64 vs fun n r=>cInt .i64 r fun n_1 r=>onNil r (sel (!n_1==0) (some (Yh [Zz .u64 0,Zz .i64 0,Zz .i64 0,Zz .i64 0,Zz .i64 n_1],[])) (chk (decide (0≤n)&&decide (n<(↑(Zu els):Int))&&true) (Xd (Yd els (Zf n) Yb) fun cs=>cStr cs fun b r=>cStr r fun b r=>cInt .u64 r fun n r=>cInt .i64 r fun n_2 r=>cInt .i64 r fun n_3 r=>cInt .i64 r fun n_4 r=>cInt .i64 r fun n_5 r=>cInt .i64 r fun n_6 r=>cInt .i64 r fun n_7 r=>onNil r (some (Yh [Zz .u64 n,Zz .i64 n_2,Zz .i64 n_4,Zz .i64 n_3,Zz .i64 0],[]))))));sel (n==[(107:UInt8),(114:UInt8),(98:UInt8),(116:UInt8),(103:UInt8),(116:UInt8)]) (sel (!i==rl) (Zj (chk (l63 i) (some (Zh (Wj i),[]))) (kL fun b=>sel b (Zj (chk (Ux xls Kerb.isCross&&decide (Zu xls≤1000000)) (some (Yh [Zz .i64 (Yv (Xq (Xf Kerb.toCross xls) rl i)),Zh (Yz (Xq (Xf Kerb.toCross xls) rl i))],[]))) (kT fun vs=>cInt .i64 vs fun n r=>cBool r fun b r=>onNil r (sel (!b) (some (Yh [Zz .u64 0,Zz .i64 0,Zz .i64 0,Zz .i64 0,Zz .i64 8],[])) (chk (decide (0≤n)&&decide (n<(↑(Zu xls):Int))&&true) (Xd (Yd xls (Zf n) Yb) fun cs=>cStr cs fun b r=>cStr r fun b r=>cInt .i64 r fun n_1 r=>cInt .u64 r fun n_2 r=>onNil r (chk (decide (0≤n)&&decide (n<(↑(Zu xls):Int))&&true) (Xd (Yd xls (Zf n) Yb) fun cs=>cStr cs fun b r=>cStr r fun b r=>cInt .i64 r fun n r=>cInt .u64 r fun n_3 r=>onNil r (some (Yh [Zz .u64 n_2,Zz .i64 n,Zz .i64 255,Zz .i64 0,Zz .i64 0],[]))))))))) t0)) t0) t0:Option (AV×Blocks))) (by kernel_rfl) ?_
  delta kT kL
  try dsimp only [cStr,cBs,cBool,cU8,cInt,cSl,l63]
  simp only [Xy,decide_eq_true_eq] at hpre
  obtain ⟨⟨⟨⟨hall,hlen⟩,hx⟩,hxl⟩,hi⟩:=hpre
  obtain ⟨es,rfl,hok⟩:=Kerb.ents_of hall
  obtain ⟨cs,rfl⟩:=Kerb.cross_of hx
  rw [Kerb.map_toEntry,Kerb.map_toCross]
  simp only [hall,hlen,hx,hxl,hi,decide_true,Yx,↓A0,A0]
  simp only [Xk] at hlen hxl ⊢
  unfold Kerb.svc
  dsimp only
  have hkr:(n==[(107:UInt8),(114:UInt8),(98:UInt8),(116:UInt8),(103:UInt8),(116:UInt8)])=(n==Kerb.krbtgt):=rfl
  try rw [hkr]
  cases n==Kerb.krbtgt
  ·simp only [Yk,Xj,sel_true,sel_false]
   by_cases he:(Xp ⟨rl,es⟩ n i now).2=0
   case neg=>rw [sel_pos (by simpa using he),if_neg (by simp),if_pos he]
   obtain ⟨u1,u2⟩:=Vx he
   dsimp only at u2
   rw [sel_neg (by simpa using he),if_neg (by simp),if_neg (by simpa using he),chk_of (by simp;omega),Ww u2]
   simp only [Zq,↓A0,A0]
  cases i==rl
  case true =>
   cases Wj i
   ·simp only [Yk,Xj,sel_true,sel_false]
    by_cases he:(Xp ⟨rl,es⟩ n i now).2=0
    case neg=>rw [sel_pos (by simpa using he),if_neg (by simp),if_pos he]
    obtain ⟨u1,u2⟩:=Vx he
    dsimp only at u2
    rw [sel_neg (by simpa using he),if_neg (by simp),if_neg (by simpa using he),chk_of (by simp;omega),Ww u2]
    simp only [Zq,↓A0,A0]
   ·simp only [Yk,Xj,sel_true,sel_false]
    by_cases he:(Xp ⟨rl,es⟩ n i now).2=0
    case neg=>rw [sel_pos (by simpa using he),if_neg (by simp),if_pos he]
    obtain ⟨u1,u2⟩:=Vx he
    dsimp only at u2
    rw [sel_neg (by simpa using he),if_neg (by simp),if_neg (by simpa using he),chk_of (by simp;omega),Ww u2]
    simp only [Zq,↓A0,A0]
  cases Wj i
  ·simp only [Yk,Xj,sel_true,sel_false]
   by_cases he:(Xp ⟨rl,es⟩ n i now).2=0
   case neg=>rw [sel_pos (by simpa using he),if_neg (by simp),if_pos he]
   obtain ⟨u1,u2⟩:=Vx he
   dsimp only at u2
   rw [sel_neg (by simpa using he),if_neg (by simp),if_neg (by simpa using he),chk_of (by simp;omega),Ww u2]
   simp only [Zq,↓A0,A0]
  ·simp only [Yk,Xj,sel_true,sel_false]
   by_cases he:(Xq cs rl i).2=true
   ·obtain ⟨u1,u2⟩:=Kerb.findCross_lt he
    have hk:(decide (0≤(Xq cs rl i).1)&&decide ((Xq cs rl i).1<(cs.length:Int))&&true)=true:=by simp;omega
    simp only [he,hk,Kerb.getD_cross u2,Ym,Yk,Yx,Xj,if_true,↓A0,A0]
   ·have he2:(Xq cs rl i).2=false:=by simpa using he
    rw [he2]
    rfl
 ·cases h
theorem w16:Walked Tryz.prog G 16 5 sp16:=by
 refine ⟨Tryz.f16,Tryz.func16,by decide +kernel,rfl,fun xs bl r h=> ?_⟩
 unfold sp16 at h
 split at h
 ·rename_i b
  obtain ⟨hpre,h2⟩:=chk_inv h;cases h2
  refine Eq.trans (b:=(let t1:AV:=Zd [Zh false,Zy [],Zy [],Zy [],Zz .i64 0,Zz .i64 0,Zy []];let t0:Option (AV×Blocks):=some (Yh [t1,Zz .i64 100],[]);sel (!Yz (Vg b [5])==0) (some (Yh [t1,Zz .i64 (Yz (Vg b [5]))],[])) (Zj (chk (decide (Zu b≤140737488355328)) (some (Zd [Zy (Xh (Kerb.RdP.p (Wh b 2 false))),Zy (Wz (Kerb.RdP.p (Wh b 2 false))),Zy (Xm (Kerb.RdP.p (Wh b 2 false)))],[[Yw b,Zz .i64 (Kerb.RdP.pos (Wh b 2 false)),Zh (Yv (Vg b [5])),Zh (Kerb.RdP.bad (Wh b 2 false))]]))) fun (r:AV×Blocks)=>onConsB (Yz r) fun (x:List AV) (r_1:List (List AV))=>cBs x fun b_1 r_2=>cInt .i64 r_2 fun n r_3=>cBool r_3 fun b_2 r_4=>cBool r_4 fun b_3 r_5=>onNil r_5 (onNilB r_1 (Xd (Yv r) fun cs=>cStr cs fun b_4 r=>cStr r fun b_5 r=>cStr r fun b_6 r=>onNil r (Zj (chk (decide (Zu b_1≤140737488355328)) (some (Zz .i64 (Kerb.Got.val (Vw b_1 n 4 b_2)),[[Yw b_1,Zz .i64 (bif b_3 || !Up (Vw b_1 n 4 b_2)==0 then n else Kerb.Got.next (Vw b_1 n 4 b_2)),Zh b_2,Zh (b_3 || !Up (Vw b_1 n 4 b_2)==0)]]))) fun (r:AV×Blocks)=>onConsB (Yz r) fun (x:List AV) (r_6:List (List AV))=>cBs x fun b_7 r_7=>cInt .i64 r_7 fun n r_8=>cBool r_8 fun b_8 r_9=>cBool r_9 fun b_9 r_10=>onNil r_10 (onNilB r_6 (Xw .i64 (Yv r) fun n_1=>Zj (chk (decide (Zu b_7≤140737488355328)) (some (Zz .i64 (Kerb.Got.val (Vw b_7 n 4 b_8)),[[Yw b_7,Zz .i64 (bif b_9 || !Up (Vw b_7 n 4 b_8)==0 then n else Kerb.Got.next (Vw b_7 n 4 b_8)),Zh b_8,Zh (b_9 || !Up (Vw b_7 n 4 b_8)==0)]]))) fun (r:AV×Blocks)=>onConsB (Yz r) fun (x:List AV) (r_11:List (List AV))=>cBs x fun b_10 r_12=>cInt .i64 r_12 fun n r_13=>cBool r_13 fun b_11 r_14=>cBool r_14 fun b_12 r_15=>onNil r_15 (onNilB r_11 (Xw .i64 (Yv r) fun n_2=>Zj (chk (decide (Zu b_10≤140737488355328)) (some (Zy (Kerb.GotB.val (Kerb.text b_10 n)),[[Yw b_10,Zz .i64 (bif b_12 || !Kerb.GotB.err (Kerb.text b_10 n)==0 then n else Kerb.GotB.next (Kerb.text b_10 n)),Zh b_11,Zh (b_12 || !Kerb.GotB.err (Kerb.text b_10 n)==0)]]))) fun (r:AV×Blocks)=>onConsB (Yz r) fun (x:List AV) (r_16:List (List AV))=>cBs x fun b_13 r_17=>cInt .i64 r_17 fun n r_18=>cBool r_18 fun b_14 r_19=>cBool r_19 fun b_15 r_20=>onNil r_20 (onNilB r_16 (AV.onStr (Yv r) fun b_16=>let t2:Kerb.Enc:=Kerb.encodeError (Kerb.ErrorReply.mk (Yv (Vg b [5])) (Vp b_4 b_5 b_6) n_1 n_2 b_16);Zj (chk (l63 b_4&&l63 b_5&&l63 b_6&&l63 b_16) (some (Yh [Yw (Kerb.Enc.val t2),Zz .i64 (Kerb.Enc.err t2)],[]))) (kT fun vs=>cBs vs fun b_17 r=>cInt .i64 r fun n r=>onNil r (sel b_15 t0 (sel (!n==0) t0 (sel (!b_17==b) t0 (some (Yh [Zd [Zh (Yv (Vg b [5])),Zy b_4,Zy b_5,Zy b_6,Zz .i64 n_1,Zz .i64 n_2,Zy b_16],Zz .i64 0],[])))))))))))))))):Option (AV×Blocks))) (by kernel_rfl) ?_
  delta kT
  try dsimp only [cStr,cBs,cBool,cU8,cInt,cSl,l63]
  have hb:=of_decide_eq_true hpre
  simp only [A0]
  by_cases h:(Vg b [5]).2=0
  case neg =>
   unfold Kerb.decodeError
   rw [sel_pos (by simpa using h),if_pos h]
   rfl
  rw [sel_neg (by simp [h]),Kerb.rdError_dec h]
  rw [chk_of hpre,chk_of hpre,chk_of hpre,chk_of hpre]
  have lp:=Kerb.rdPrin_len b 2 false
  have hx:∀ q,(Kerb.text b q).val.length≤40:=Kerb.text_len b
  rw [chk_of (by simp only [Xy,decide_eq_true_eq];refine ⟨⟨⟨Uy lp.1 (by decide),Uy lp.2.1 (by decide)⟩,Uy lp.2.2 (by decide)⟩,Uy (hx _) (by decide)⟩)]
  obtain ⟨R,hR⟩:∃ R,R=Kerb.rdError b:=⟨_,rfl⟩
  have eb:_=R.bad:=(congrArg Kerb.Rd.bad hR).symm
  have ev:_=R.val:=(congrArg Kerb.Rd.val hR).symm
  rw [← hR]
  unfold Kerb.rdError at eb ev
  dsimp only [Kerb.rdGet,Kerb.rdText,Kerb.rdBytes] at eb ev
  rw [eb]
  have ev2:Kerb.ErrorReply.mk (Vg b [5]).1 (Vp (Wh b 2 false).p.name (Wh b 2 false).p.inst (Wh b 2 false).p.realm) _ _ _=R.val:=ev
  rw [ev2]
  cases hbad:R.bad
  case true=>rw [if_pos (.inl rfl)];rfl
  rw [sel_false]
  by_cases h1:(Kerb.encodeError R.val).err=0
  ·rw [sel_neg (by simp [h1])]
   by_cases h2:(Kerb.encodeError R.val).val=b
   ·rw [sel_neg (by simp [h2]),if_neg (by simp [h1,h2]),← ev2]
   ·rw [sel_pos (by simpa using h2),if_pos (.inr (.inr h2))]
    rfl
  ·rw [sel_pos (by simpa using h1),if_pos (.inr (.inl h1))]
   rfl
 ·cases h
theorem w25:Walked Tryz.prog G 25 5 sp25:=by
 refine ⟨Tryz.f25,Tryz.func25,by decide +kernel,rfl,fun xs bl r h=> ?_⟩
 unfold sp25 at h
 split at h
 ·rename_i rl els n i now
  obtain ⟨hpre,h2⟩:=chk_inv h;cases h2
  refine Eq.trans (b:=(Zj (chk (Ux els Vh&&decide (Zu els≤1000000)) (some (Yh [Zz .i64 (Yv (Vf (Wd rl (Xf Xb els)) n i now 2 2 6)),Zz .i64 (Yz (Vf (Wd rl (Xf Xb els)) n i now 2 2 6))],[]))) fun (r:AV×Blocks)=>onNilB (Yz r) (AV.onTup (Yv r) fun vs=>onCons vs fun x r=>Xw .i64 x fun n=>onCons r fun x r=>Xw .i64 x fun n_1=>onNil r (some (Yh [Zz .i64 n,Zz .i64 n_1],[]))):Option (AV×Blocks))) (by kernel_rfl) ?_
  simp only [hpre,↓A0,A0]
  rfl
 ·cases h
theorem w42:Walked Tryz.prog G 42 5 sp42:=by
 refine ⟨Tryz.f42,Tryz.func42,by decide +kernel,rfl,fun xs bl r h=> ?_⟩
 unfold sp42 at h
 split at h
 ·rename_i rl els n i now
  obtain ⟨hpre,h2⟩:=chk_inv h;cases h2
  refine Eq.trans (b:=(Zj (chk (Ux els Vh&&decide (Zu els≤1000000)) (some (Yh [Zz .i64 (Yv (Vf (Wd rl (Xf Xb els)) n i now 1 1 5)),Zz .i64 (Yz (Vf (Wd rl (Xf Xb els)) n i now 1 1 5))],[]))) fun (r:AV×Blocks)=>onNilB (Yz r) (AV.onTup (Yv r) fun vs=>onCons vs fun x r=>Xw .i64 x fun n=>onCons r fun x r=>Xw .i64 x fun n_1=>onNil r (some (Yh [Zz .i64 n,Zz .i64 n_1],[]))):Option (AV×Blocks))) (by kernel_rfl) ?_
  simp only [hpre,↓A0,A0]
  rfl
 ·cases h
theorem w54:Walked Tryz.prog G 54 5 sp54:=by
 refine ⟨Tryz.f54,Tryz.func54,by decide +kernel,rfl,fun xs bl r h=> ?_⟩
 unfold sp54 at h
 split at h
 ·rename_i s
  obtain ⟨hpre,h2⟩:=chk_inv h;cases h2
  refine Eq.trans (b:=(sel (decide ((↑(Zu s):Int)≤39)) (Zj (chk (decide (Zu s≤9223372036854775807)) (some (Zh (Wq s [(64:UInt8)]),[]))) fun (r:AV×Blocks)=>onNilB (Yz r) (AV.onBool (Yv r) fun b=>some (Zh b,[]))) (some (Zh false,[])):Option (AV×Blocks))) (by kernel_rfl) ?_
  simp only [A0]
  rw [chk_of hpre,decide_eq_decide.2 (show ((s.length:Int)≤39)↔s.length≤39 from by omega)]
  simp only [Vy]
  cases decide (s.length≤39)<;>rfl
 ·cases h
theorem w92:Walked Tryz.prog G 92 5 sp92:=by
 refine ⟨Tryz.f92,Tryz.func92,by decide +kernel,rfl,fun xs bl r h=> ?_⟩
 unfold sp92 at h
 split at h
 ·rename_i s
  obtain ⟨hpre,h2⟩:=chk_inv h;cases h2
  refine Eq.trans (b:=(sel (!s==[]) (sel (decide ((↑(Zu s):Int)≤39)) (Zj (chk (decide (Zu s≤9223372036854775807)) (some (Zh (Wq s [(46:UInt8),(64:UInt8)]),[]))) fun (r:AV×Blocks)=>onNilB (Yz r) (AV.onBool (Yv r) fun b=>some (Zh b,[]))) (some (Zh false,[]))) (some (Zh false,[])):Option (AV×Blocks))) (by kernel_rfl) ?_
  simp only [A0]
  rw [chk_of hpre,decide_eq_decide.2 (show ((s.length:Int)≤39)↔s.length≤39 from by omega)]
  simp only [Uw]
  cases s with
  | nil=>rfl
  | cons x r=>cases decide ((x::r).length≤39)<;>rfl
 ·cases h
theorem w23:Walked Tryz.prog G 23 6 sp23:=by
 refine ⟨Tryz.f23,Tryz.func23,by decide +kernel,rfl,fun xs bl r h=> ?_⟩
 unfold sp23 at h
 split at h
 ·rename_i s
  obtain ⟨hpre,h2⟩:=chk_inv h;cases h2
  refine Eq.trans (b:=(sel (!s==[]) (Zj (chk (decide (Zu s≤9223372036854775807)) (some (Zh (Vy s),[]))) fun (r:AV×Blocks)=>onNilB (Yz r) (AV.onBool (Yv r) fun b=>some (Zh b,[]))) (some (Zh false,[])):Option (AV×Blocks))) (by kernel_rfl) ?_
  simp only [A0]
  rw [chk_of hpre]
  simp only [Wj]
  cases s<;>rfl
 ·cases h
theorem w10:Walked Tryz.prog G 10 7 sp10:=by
 refine ⟨Tryz.f10,Tryz.func10,by decide +kernel,rfl,fun xs bl r h=> ?_⟩
 unfold sp10 at h
 split at h
 ·rename_i rl els xls n i now
  obtain ⟨hpre,h2⟩:=chk_inv h;cases h2
  refine Eq.trans (b:=(let t0:Option (AV×Blocks):=Zj (chk (Ux els Vh&&decide (Zu els≤1000000)) (some (Yh [Zz .i64 (Yv (Xp (Wd rl (Xf Xb els)) n i now)),Zz .i64 (Yz (Xp (Wd rl (Xf Xb els)) n i now))],[]))) (kT fun vs=>cInt .i64 vs fun n r=>cInt .i64 r fun n_1 r=>onNil r (sel (!n_1==0) (some (Yh [Zz .u64 0,Zz .i64 0,Zz .i64 0,Zz .i64 0,Zz .i64 n_1],[])) (chk (decide (0≤n)&&decide (n<(↑(Zu els):Int))&&true) (Xd (Yd els (Zf n) Yb) fun cs=>cStr cs fun b r=>cStr r fun b r=>cInt .u64 r fun n r=>cInt .i64 r fun n_2 r=>cInt .i64 r fun n_3 r=>cInt .i64 r fun n_4 r=>cInt .i64 r fun n_5 r=>cInt .i64 r fun n_6 r=>cInt .i64 r fun n_7 r=>onNil r (some (Yh [Zz .u64 n,Zz .i64 n_2,Zz .i64 n_4,Zz .i64 n_3,Zz .i64 0],[]))))));sel (n==Kerb.krbtgt) (Zj (chk (l63 i) (some (Zh (Wj i),[]))) (kL fun b=>sel b (sel (!i==rl) (Zj (chk (Ux xls Kerb.isCross&&decide (Zu xls≤1000000)) (some (Yh [Zz .i64 (Yv (Xq (Xf Kerb.toCross xls) rl i)),Zh (Yz (Xq (Xf Kerb.toCross xls) rl i))],[]))) (kT fun vs=>cInt .i64 vs fun n r=>cBool r fun b r=>onNil r (sel (!b) (some (Yh [Zz .u64 0,Zz .i64 0,Zz .i64 0,Zz .i64 0,Zz .i64 8],[])) (chk (decide (0≤n)&&decide (n<(↑(Zu xls):Int))&&true) (Xd (Yd xls (Zf n) Yb) fun cs=>cStr cs fun b r=>cStr r fun b r=>cInt .i64 r fun n_1 r=>cInt .u64 r fun n_2 r=>onNil r (chk (decide (0≤n)&&decide (n<(↑(Zu xls):Int))&&true) (Xd (Yd xls (Zf n) Yb) fun cs=>cStr cs fun b r=>cStr r fun b r=>cInt .i64 r fun n r=>cInt .u64 r fun n_3 r=>onNil r (some (Yh [Zz .u64 n_2,Zz .i64 n,Zz .i64 255,Zz .i64 0,Zz .i64 0],[]))))))))) t0) t0)) t0:Option (AV×Blocks))) (by kernel_rfl) ?_
  delta kT kL
  try dsimp only [cStr,cBs,cBool,cU8,cInt,cSl,l63]
  simp only [Xy,decide_eq_true_eq] at hpre
  obtain ⟨⟨⟨⟨hall,hlen⟩,hx⟩,hxl⟩,hi⟩:=hpre
  obtain ⟨es,rfl,hok⟩:=Kerb.ents_of hall
  obtain ⟨cs,rfl⟩:=Kerb.cross_of hx
  rw [Kerb.map_toEntry,Kerb.map_toCross]
  simp only [hall,hlen,hx,hxl,hi,decide_true,Yx,↓A0,A0]
  simp only [Xk] at hlen hxl ⊢
  unfold Kerb.svc
  dsimp only
  have hkr:(n==[(107:UInt8),(114:UInt8),(98:UInt8),(116:UInt8),(103:UInt8),(116:UInt8)])=(n==Kerb.krbtgt):=rfl
  try rw [hkr]
  cases n==Kerb.krbtgt
  ·simp only [Yk,Xj,sel_true,sel_false]
   by_cases he:(Xp ⟨rl,es⟩ n i now).2=0
   case neg=>rw [sel_pos (by simpa using he),if_neg (by simp),if_pos he]
   obtain ⟨u1,u2⟩:=Vx he
   dsimp only at u2
   rw [sel_neg (by simpa using he),if_neg (by simp),if_neg (by simpa using he),chk_of (by simp;omega),Ww u2]
   simp only [Zq,↓A0,A0]
  cases Wj i
  ·simp only [Yk,Xj,sel_true,sel_false]
   by_cases he:(Xp ⟨rl,es⟩ n i now).2=0
   case neg=>rw [sel_pos (by simpa using he),if_neg (by simp),if_pos he]
   obtain ⟨u1,u2⟩:=Vx he
   dsimp only at u2
   rw [sel_neg (by simpa using he),if_neg (by simp),if_neg (by simpa using he),chk_of (by simp;omega),Ww u2]
   simp only [Zq,↓A0,A0]
  cases i==rl
  ·simp only [Yk,Xj,sel_true,sel_false]
   by_cases he:(Xq cs rl i).2=true
   ·obtain ⟨u1,u2⟩:=Kerb.findCross_lt he
    have hk:(decide (0≤(Xq cs rl i).1)&&decide ((Xq cs rl i).1<(cs.length:Int))&&true)=true:=by simp;omega
    simp only [he,hk,Kerb.getD_cross u2,Ym,Yk,Yx,Xj,if_true,↓A0,A0]
   ·have he2:(Xq cs rl i).2=false:=by simpa using he
    rw [he2]
    rfl
  ·simp only [Yk,Xj,sel_true,sel_false]
   by_cases he:(Xp ⟨rl,es⟩ n i now).2=0
   case neg=>rw [sel_pos (by simpa using he),if_neg (by simp),if_pos he]
   obtain ⟨u1,u2⟩:=Vx he
   dsimp only at u2
   rw [sel_neg (by simpa using he),if_neg (by simp),if_neg (by simpa using he),chk_of (by simp;omega),Ww u2]
   simp only [Zq,↓A0,A0]
 ·cases h
theorem w88:Walked Tryz.prog G 88 7 sp88:=by
 refine ⟨Tryz.f88,Tryz.func88,by decide +kernel,rfl,fun xs bl r h=> ?_⟩
 unfold sp88 at h
 split at h
 ·rename_i a b c
  obtain ⟨hpre,h2⟩:=chk_inv h;cases h2
  refine Eq.trans (b:=(Zj (chk (decide (Zu a≤9223372036854775807)) (some (Zh (Uw a),[]))) fun (r:AV×Blocks)=>onNilB (Yz r) (AV.onBool (Yv r) fun b_1=>sel b_1 (Zj (chk (decide (Zu b≤9223372036854775807)) (some (Zh (Vy b),[]))) fun (r:AV×Blocks)=>onNilB (Yz r) (AV.onBool (Yv r) fun b=>sel b (Zj (chk (decide (Zu c≤9223372036854775807)) (some (Zh (Wj c),[]))) fun (r:AV×Blocks)=>onNilB (Yz r) (AV.onBool (Yv r) fun b=>some (Zh b,[]))) (some (Zh false,[])))) (some (Zh false,[]))):Option (AV×Blocks))) (by kernel_rfl) ?_
  simp only [Xy,decide_eq_true_eq] at hpre
  simp only [A0]
  rw [chk_of (by simp;omega),chk_of (by simp;omega),chk_of (by simp;omega)]
  simp only [Vq]
  cases Uw a<;>cases Vy b<;>rfl
 ·cases h
end Go.Proofs.YtojagnkahnpklaaGreatDoor
