/- What the functions of this seat compute. -/
import Derived.Test.YtiplnpablmohiaaGreatTab
import Derived.Test.YtiplnpablmohiaaGreatKerbPlain
import Derived.Test.YtiplnpablmohiaaGreatAbsStep
import Derived.Test.YtiplnpablmohiaaGreatKerbCli7
import Derived.Test.YtiplnpablmohiaaGreatKerbCli3
import Derived.Test.YtiplnpablmohiaaGreatKerbCli4
import Derived.Test.YtiplnpablmohiaaGreatKerbKac4
import Derived.Test.YtiplnpablmohiaaGreatKerbVerL
open List renaming length→Zz,take→Yh,drop→Xz,getD→Xq,length_map→Xj,append→Xk,range_succ→Vu
open Go.Abs.AV renaming int→Zy,bool→Zk,tup→Zd,str→Zf,bs→Zb,onInt→Yy,ownB→Ym,agg→Xg,sl→Xh,onTup→Wh,onOwnB→Vf,onBool→Vg,onBs→Uz,onAgg→Uw
open Option renaming bind→Zx
open Go.IntKind renaming wrap→Zw,i64→Zv,bits→Xu
open Int renaming toNat→Zu,toNat_natCast→Wv,tmod→Vx
open Kerb renaming putN_len→Zq,putPrin_len→Zj,keyBytes_len→Zp,within→Zn,get→Zh,putN→Yz,encodeMutual→Yu,indexOf→Yq,putText→Yp,text→Yf,rdPrin→Xy,readBox→Xv,keyValid→Xp,makeBox→Xn,keyRead→Xm,encodeTicket→Wx,printable→Wk,bytes→Wf,encodeAuth→Wg,bfd→Wb,boxSize→Vw,isKind→Vk,room_ok→Vb,nextSum→Uy,encodeAns→Ux,byteAt→Uv,bfd_eq→Uu,marksErr→Uq
open Prod renaming snd→Zg,fst→Zm
open Bool renaming and_eq_true→Yx,not_true→Yg,and_self→Xd
open Kerb.Got renaming err→Yw,next→Yd,val→Yn
open Kerb.Prin renaming mk→Yv,valid→Yj,realm→Wp,name→Wn,inst→Wm
open UInt8 renaming toNat→Yk
open Kerb.GotB renaming err→Yb,next→Xb,val→Wz
open Kerb.Enc renaming val→Xx,err→Xw
open Nat renaming le_trans→Xf,beq_refl→Ww
open Kerb.Mutual renaming mk→Wy
open Kerb.Mark renaming av→Wu,err→Wd
open Kerb.Case renaming mk→Wq,me→Wj
open Kerb.GotBox renaming box→Vz
open Kerb.SKey renaming err→Vy
open Kerb.Client renaming av→Vv
open Kerb.Auth renaming mk→Vq
open Sum renaming inr→Vj
open Go.Abs.Ex renaming exit→Vp
open Kerb.Cache renaming av→Vd
open Kerb.RCache renaming err→Vn
open Kerb.Ticket renaming mk→Vm
open Kerb.Cred renaming av→Vh
open Kerb.RdP renaming p→Uj
namespace Go.Proofs.YtiplnpablmohiaaGreat
open Go Go.Abs Go.Proofs
set_option linter.unusedVariables false
set_option linter.unusedSimpArgs false
set_option maxRecDepth 100000
theorem w137:Walked Tryz.prog G 137 3 sp137:=by
 refine ⟨Tryz.f137,Tryz.func137,by decide +kernel,rfl,fun xs bl r h=> ?_⟩
 unfold sp137 at h
 split at h
 ·rename_i b pos little
  obtain ⟨hpre,h2⟩:=chk_inv h;cases h2
  refine Eq.trans (b:=(Zx (chk (decide (Zz b≤140737488355328)&&true&&true) (some (Zd [Zy .i64 (Yn (Zh b pos 4 little)),Zy .i64 (Yd (Zh b pos 4 little)),Zy .i64 (Yw (Zh b pos 4 little))],[]))) fun (r:AV×Blocks)=>onNilB (Zg r) (Wh (Zm r) fun vs=>onCons vs fun x r=>Yy .i64 x fun n=>onCons r fun x r=>Yy .i64 x fun n_1=>onCons r fun x r=>Yy .i64 x fun n_2=>onNil r (some (Zd [Zy .i64 n,Zy .i64 n_1,Zy .i64 n_2],[]))):Option (AV×Blocks))) (by kernel_rfl) ?_
  simp only [A0]
  rw [chk_of (by rw [hpre];rfl)]
 ·cases h
theorem w144:Walked Tryz.prog G 144 3 sp144:=by
 refine ⟨Tryz.f144,Tryz.func144,by decide +kernel,rfl,fun xs bl r h=> ?_⟩
 unfold sp144 at h
 split at h
 ·rename_i b pos
  obtain ⟨hpre,h2⟩:=chk_inv h;cases h2
  refine Eq.trans (b:=(Zx (chk (decide (Zz b≤4611686018427387904)&&true&&true) (some (Zd [Zy .i64 (Yn (Zh b pos 1 false)),Zy .i64 (Yd (Zh b pos 1 false)),Zy .i64 (Yw (Zh b pos 1 false))],[]))) fun (r:AV×Blocks)=>onNilB (Zg r) (Wh (Zm r) fun vs=>onCons vs fun x r=>Yy .i64 x fun n=>onCons r fun x r=>Yy .i64 x fun n_1=>onCons r fun x r=>Yy .i64 x fun n_2=>onNil r (some (Zd [Zy .i64 n,Zy .i64 n_1,Zy .i64 n_2],[]))):Option (AV×Blocks))) (by kernel_rfl) ?_
  simp only [A0]
  rw [chk_of (by rw [hpre];rfl)]
 ·cases h
theorem w145:Walked Tryz.prog G 145 3 sp145:=by
 refine ⟨Tryz.f145,Tryz.func145,by decide +kernel,rfl,fun xs bl r h=> ?_⟩
 unfold sp145 at h
 split at h
 ·rename_i b pos
  obtain ⟨hpre,h2⟩:=chk_inv h;cases h2
  refine Eq.trans (b:=(let t5:List UInt8:=Xz (Zu pos) (Yh (Zu (↑(Zz b):Int)) b);let t6:Option (AV×Blocks):=some (Zd [Zf [],Zy .i64 0,Zy .i64 105],[]);let t7:Option (AV×Blocks):=some (Zd [Zf [],Zy .i64 0,Zy .i64 101],[]);let t1:Int:=Yq (0:UInt8) t5;let t2:Int:=(↑(Zz t5):Int);let t4:List UInt8:=Xz (Zu (↑(0:Nat):Int)) (Yh (Zu 40) t5);let t0:Int:=Yq (0:UInt8) t4;let t3:Int:=(↑(Zz t4):Int);Zx (chk (decide (Zz b≤4611686018427387904)) (some (Zy .i64 (Kerb.room b pos 0),[]))) (kI .i64 fun n=>sel (!n==0) (some (Zd [Zf [],Zy .i64 0,Zy .i64 n],[])) (chk (decide (0≤pos)&&decide (pos≤(↑(Zz b):Int))&&decide ((↑(Zz b):Int)≤(↑(Zz b):Int))) (sel (decide (t2>40)) (chk (decide (40≤t2)) (sel (decide (t0≥0)) (chk (decide ((↑(0:Nat):Int)≤t0)&&decide (t0≤t3)) (some (Zd [Zf (Xz (Zu (↑(0:Nat):Int)) (Yh (Zu t0) t4)),Zy .i64 (Zw .i64 (Zw .i64 (pos+t0)+1)),Zy .i64 0],[]))) (sel (t3==40) t6 t7))) (sel (decide (t1≥0)) (chk (decide ((↑(0:Nat):Int)≤t1)&&decide (t1≤t2)) (some (Zd [Zf (Xz (Zu (↑(0:Nat):Int)) (Yh (Zu t1) t5)),Zy .i64 (Zw .i64 (Zw .i64 (pos+t1)+1)),Zy .i64 0],[]))) (sel (t2==40) t6 t7))))):Option (AV×Blocks))) (by kernel_rfl) ?_
  delta kI
  try dsimp only [cStr,cBs,cBool,cU8,cInt,cSl,l63]
  simp only [decide_eq_true_eq] at hpre
  simp only [A0]
  rw [chk_of (by simpa using hpre)]
  have ht:(Yh (Zu (b.length:Int)) b)=b:=by simp
  rw [ht]
  unfold Yf
  by_cases hr:Kerb.room b pos 0=0
  case neg =>
   have h104:Kerb.room b pos 0=104:=by
    unfold Kerb.room at hr ⊢
    split at hr
    ·rw [if_pos (by assumption)]
    ·split at hr<;>omega
   rw [sel_pos (by simpa using hr),if_neg hr,h104]
  obtain ⟨q1,q2,_,_⟩:=Kerb.room_zero.1 hr
  rw [sel_neg (by simp [hr]),if_pos hr,chk_of (by simp;omega)]
  obtain ⟨R,hR⟩:∃ R,R=b.drop pos.toNat:=⟨_,rfl⟩
  have hRl:R.length=b.length-pos.toNat:=by rw [hR];simp
  rw [← hR]
  obtain ⟨T,hT⟩:∃ T,T=R.take 40:=⟨_,rfl⟩
  have hix:=Kerb.indexOf_bd 0 T
  have key:(sel (decide (Yq (0:UInt8) T≥(0:Int)))
    (chk (decide (((0:Nat):Int)≤Yq (0:UInt8) T)&&decide (Yq (0:UInt8) T≤(T.length:Int)))
     (some (Zd [Zf (Xz (Zu ((0:Nat):Int)) (Yh (Zu (Yq (0:UInt8) T)) T)),Zy Zv (Zw Zv (Zw Zv (pos+Yq (0:UInt8) T)+(1:Int))),Zy Zv (0:Int)],([]:Blocks))))
    (sel (((T.length:Int))==(40:Int)) (some (Zd [Zf [],Zy Zv (0:Int),Zy Zv (105:Int)],[]))
     (some (Zd [Zf [],Zy Zv (0:Int),Zy Zv (101:Int)],[])))) =
    some (Zd [Zf (if 0≤Yq 0 T then (⟨T.take (Yq 0 T).toNat,pos+Yq 0 T+1,0⟩:Kerb.GotB) else if T.length=40 then ⟨[],0,105⟩ else ⟨[],0,101⟩).val,
     Zy Zv (if 0≤Yq 0 T then (⟨T.take (Yq 0 T).toNat,pos+Yq 0 T+1,0⟩:Kerb.GotB) else if T.length=40 then ⟨[],0,105⟩ else ⟨[],0,101⟩).next,
     Zy Zv (if 0≤Yq 0 T then (⟨T.take (Yq 0 T).toNat,pos+Yq 0 T+1,0⟩:Kerb.GotB) else if T.length=40 then ⟨[],0,105⟩ else ⟨[],0,101⟩).err],[]):=by
   have hTl:T.length≤b.length-pos.toNat:=by rw [hT];simp;omega
   by_cases hi:0≤Yq 0 T
   ·rw [sel_pos (by simpa using hi),chk_of (by simp;omega),if_pos hi,wrap_i64 (n:=pos+Yq 0 T) (by omega) (by omega),wrap_i64 (by omega) (by omega)]
    rfl
   ·rw [sel_neg (by simp;omega),if_neg hi]
    by_cases h40:T.length=40
    ·rw [sel_pos (by simp [h40]),if_pos h40]
    ·rw [sel_neg (by simp;omega),if_neg h40]
  by_cases hlong:40<R.length
  ·rw [sel_pos (by simp;omega),chk_of (by simp;omega)]
   have e1:Xz (Zu ((0:Nat):Int)) (Yh (Zu (40:Int)) R)=T:=by rw [hT];rfl
   rw [e1]
   rw [← hT]
   exact key
  ·rw [sel_neg (by simp;omega)]
   have e1:R=T:=by rw [hT,List.take_of_length_le (by omega)]
   rw [← hT,e1]
   exact key
 ·cases h
theorem w147:Walked Tryz.prog G 147 3 sp147:=by
 refine ⟨Tryz.f147,Tryz.func147,by decide +kernel,rfl,fun xs bl r h=> ?_⟩
 unfold sp147 at h
 split at h
 ·rename_i b s
  obtain ⟨hpre,h2⟩:=chk_inv h;cases h2
  refine Eq.trans (b:=(Zx (chk (decide (Zz (Xk b (Xk s ((0:UInt8)::Xk [] [])))≤140737488355328)&&decide (Zz [Zb b,Zb s,Zb [(0:UInt8)]]≤1000)) (some (Ym (Xk b (Xk s ((0:UInt8)::Xk [] []))),[]))) fun (r:AV×Blocks)=>onNilB (Zg r) (Vf (Zm r) fun l=>some (Zb l,[])):Option (AV×Blocks))) (by kernel_rfl) ?_
  simp only [decide_eq_true_eq] at hpre
  simp only [A0]
  rw [chk_of (by simp;omega)]
  simp [Yp]
 ·cases h
theorem w159:Walked Tryz.prog G 159 3 sp159:=by
 refine ⟨Tryz.f159,Tryz.func159,by decide +kernel,rfl,fun xs bl r h=> ?_⟩
 unfold sp159 at h
 split at h
 ·rename_i B at_ li bad
  obtain ⟨hpre,h2⟩:=chk_inv h;cases h2
  show runFnH (G.env 159 3) G.rts (G.own 159) Tryz.f159 _ _ [0]=_
  refine Eq.trans (b:=(Zx (chk (decide (Zz B≤140737488355328)) (some (Zf (Wz (Yf B at_)),[[Zb B,Zy .i64 (bif bad || !Yb (Yf B at_)==0 then at_ else Xb (Yf B at_)),Zk li,Zk (bad || !Yb (Yf B at_)==0)]]))) fun (r:AV×Blocks)=>onConsB (Zg r) fun (x:List AV) (r_1:List (List AV))=>cBs x fun b r_2=>cInt .i64 r_2 fun n r_3=>cBool r_3 fun b_1 r_4=>cBool r_4 fun b_2 r_5=>onNil r_5 (onNilB r_1 (AV.onStr (Zm r) fun b_3=>Zx (chk (decide (Zz b≤140737488355328)) (some (Zf (Wz (Yf b n)),[[Zb b,Zy .i64 (bif b_2 || !Yb (Yf b n)==0 then n else Xb (Yf b n)),Zk b_1,Zk (b_2 || !Yb (Yf b n)==0)]]))) fun (r:AV×Blocks)=>onConsB (Zg r) fun (x:List AV) (r_6:List (List AV))=>cBs x fun b r_7=>cInt .i64 r_7 fun n r_8=>cBool r_8 fun b_4 r_9=>cBool r_9 fun b_5 r_10=>onNil r_10 (onNilB r_6 (AV.onStr (Zm r) fun b_6=>Zx (chk (decide (Zz b≤140737488355328)) (some (Zf (Wz (Yf b n)),[[Zb b,Zy .i64 (bif b_5 || !Yb (Yf b n)==0 then n else Xb (Yf b n)),Zk b_4,Zk (b_5 || !Yb (Yf b n)==0)]]))) fun (r:AV×Blocks)=>onConsB (Zg r) fun (x:List AV) (r_11:List (List AV))=>cBs x fun b r_12=>cInt .i64 r_12 fun n r_13=>cBool r_13 fun b_7 r_14=>cBool r_14 fun b_8 r_15=>onNil r_15 (onNilB r_11 (AV.onStr (Zm r) fun b_9=>some (Xg [Zf b_3,Zf b_6,Zf b_9],[[Zb b,Zy .i64 n,Zk b_7,Zk b_8]]))))))):Option (AV×Blocks))) (by kernel_rfl) ?_
  try dsimp only [cStr,cBs,cBool,cU8,cInt,cSl,l63]
  simp only [A0]
  rw [chk_of hpre,chk_of hpre,chk_of hpre]
  rfl
 ·cases h
theorem w160:Walked Tryz.prog G 160 3 sp160:=by
 refine ⟨Tryz.f160,Tryz.func160,by decide +kernel,rfl,fun xs bl r h=> ?_⟩
 unfold sp160 at h
 split at h
 ·rename_i b n k little
  obtain ⟨hpre,h2⟩:=chk_inv h;cases h2
  refine Eq.trans (b:=(Zx (loopM (fun (st:List AV)=>cBs st fun b r=>cInt .i64 r fun n r=>cInt .i64 r fun n_1 r=>cBool r fun b_1 r=>cBs r fun c r=>cInt .i64 r fun n_2 r=>cInt .i64 r fun n_3 r=>let t0:Int:=Zw .i64 (Zw .i64 (n_1-1)-n_3);let t1:UInt8:=UInt8.ofNat (Zu (Zw .u8 (Int.fdiv n (2 ^ min (Zu (Zw .i64 (8*n_3))) (Xu .i64)))));onNil r (sel (decide (n_3<n_2)) (sel (!b_1) (chk (decide (0≤Zw .i64 (8*n_3))) (chk (decide (0≤t0)&&decide (t0<(↑(Zz c):Int))&&Nat.beq (Zz c) 4&&true) (chk (Nat.blt (Zu t0) (Zz c)&&true&&true&&true&&true) (some (Sum.inl [Zb b,Zy .i64 n,Zy .i64 n_1,Zk b_1,Zb (List.set c (Zu t0) t1),Zy .i64 n_2,Zy .i64 (Zw .i64 (n_3+1))]))))) (chk (decide (0≤Zw .i64 (8*n_3))) (chk (decide (0≤n_3)&&decide (n_3<(↑(Zz c):Int))&&Nat.beq (Zz c) 4&&true) (chk (Nat.blt (Zu n_3) (Zz c)&&true&&true&&true&&true) (some (Sum.inl [Zb b,Zy .i64 n,Zy .i64 n_1,Zk b_1,Zb (List.set c (Zu n_3) t1),Zy .i64 n_2,Zy .i64 (Zw .i64 (n_3+1))])))))) (some (Vj (Vp 0,[Zb b,Zy .i64 n,Zy .i64 n_1,Zk b_1,Zb c,Zy .i64 n_2,Zy .i64 n_3]))))) [Zb b,Zy .i64 n,Zy .i64 k,Zk little,Zb [(0:UInt8),(0:UInt8),(0:UInt8),(0:UInt8)],Zy .i64 k,Zy .i64 0]) fun (r:Ex×List AV)=>cBs (Zg r) fun b r_1=>cInt .i64 r_1 fun n r_2=>cInt .i64 r_2 fun n r_3=>cBool r_3 fun b_1 r_4=>cBs r_4 fun c r_5=>let t2:Nat:=Zz [Zb b,Zb (Xz (Zu (↑(0:Nat):Int)) (Yh (Zu n) c))];let t3:Nat:=Zz (Xk b (Xk (Xz (Zu (↑(0:Nat):Int)) (Yh (Zu n) c)) []));cInt .i64 r_5 fun n_1 r_6=>cInt .i64 r_6 fun n_2 r_7=>onNil r_7 (exK r.1 none fun (j:Nat)=>sel (Nat.beq j 0) (chk (decide ((↑(0:Nat):Int)≤n)&&decide (n≤(↑(Zz c):Int))&&Nat.beq (Zz c) 4) (Zx (chk (decide (t3≤140737488355328)&&decide (t2≤1000)) (some (Ym (Xk b (Xk (Xz (Zu (↑(0:Nat):Int)) (Yh (Zu n) c)) [])),[]))) (kO fun l=>some (Ym l,[])))) none):Option (AV×Blocks))) (by kernel_rfl) ?_
  delta kO
  try dsimp only [cStr,cBs,cBool,cU8,cInt,cSl,l63]
  simp only [Yx,decide_eq_true_eq] at hpre
  obtain ⟨hk,hb⟩:=hpre
  rcases hk with rfl | rfl | rfl<;>cases little
  ·refine loop_unroll 2 (Vp 0,[Zb b,Zy Zv n,Zy Zv 1,Zk false,Zb [Wb n 0,(0:UInt8),(0:UInt8),(0:UInt8)],Zy Zv 1,Zy Zv 1]) (by kernel_rfl) ?_
   simp only [A0]
   rw [sel_pos (Ww _),chk_of (by simp),chk_of (by simp;omega)]
   simp [Uu,Yz,Uv,Vu]
  ·refine loop_unroll 2 (Vp 0,[Zb b,Zy Zv n,Zy Zv 1,Zk true,Zb [Wb n 0,(0:UInt8),(0:UInt8),(0:UInt8)],Zy Zv 1,Zy Zv 1]) (by kernel_rfl) ?_
   simp only [A0]
   rw [sel_pos (Ww _),chk_of (by simp),chk_of (by simp;omega)]
   simp [Uu,Yz,Uv,Vu]
  ·refine loop_unroll 3 (Vp 0,[Zb b,Zy Zv n,Zy Zv 2,Zk false,Zb [Wb n 8,Wb n 0,(0:UInt8),(0:UInt8)],Zy Zv 2,Zy Zv 2]) (by kernel_rfl) ?_
   simp only [A0]
   rw [sel_pos (Ww _),chk_of (by simp),chk_of (by simp;omega)]
   simp [Uu,Yz,Uv,Vu]
  ·refine loop_unroll 3 (Vp 0,[Zb b,Zy Zv n,Zy Zv 2,Zk true,Zb [Wb n 0,Wb n 8,(0:UInt8),(0:UInt8)],Zy Zv 2,Zy Zv 2]) (by kernel_rfl) ?_
   simp only [A0]
   rw [sel_pos (Ww _),chk_of (by simp),chk_of (by simp;omega)]
   simp [Uu,Yz,Uv,Vu]
  ·refine loop_unroll 5 (Vp 0,[Zb b,Zy Zv n,Zy Zv 4,Zk false,Zb [Wb n 24,Wb n 16,Wb n 8,Wb n 0],Zy Zv 4,Zy Zv 4]) (by kernel_rfl) ?_
   simp only [A0]
   rw [sel_pos (Ww _),chk_of (by simp),chk_of (by simp;omega)]
   simp [Uu,Yz,Uv,Vu]
  ·refine loop_unroll 5 (Vp 0,[Zb b,Zy Zv n,Zy Zv 4,Zk true,Zb [Wb n 0,Wb n 8,Wb n 16,Wb n 24],Zy Zv 4,Zy Zv 4]) (by kernel_rfl) ?_
   simp only [A0]
   rw [sel_pos (Ww _),chk_of (by simp),chk_of (by simp;omega)]
   simp [Uu,Yz,Uv,Vu]
 ·cases h
theorem w171:Walked Tryz.prog G 171 3 sp171:=by
 refine ⟨Tryz.f171,Tryz.func171,by decide +kernel,rfl,fun xs bl r h=> ?_⟩
 unfold sp171 at h
 split at h
 ·rename_i k
  obtain ⟨hpre,h2⟩:=chk_inv h;cases h2
  refine Eq.trans (b:=(Zx (chk (decide (0≤k)&&decide (k<18446744073709551616)) (some (Zk (Xp k),[]))) fun (r:AV×Blocks)=>onNilB (Zg r) (Vg (Zm r) fun b=>sel (!b) (some (Zy .i64 0,[])) (some (Zy .i64 (Zw .i64 (Int.fdiv k (2 ^ min (Zu 56) (Xu .u64)))),[]))):Option (AV×Blocks))) (by kernel_rfl) ?_
  simp only [hpre,↓A0,A0]
  unfold Kerb.classOf
  cases hk:Xp k
  ·rfl
  simp only [Yg,Bool.not_false,sel_true,sel_false]
  simp only [Yx,decide_eq_true_eq] at hpre
  have h7:(min (Zu 56) (Xu .u64))=56:=rfl
  rw [h7,Int.fdiv_eq_ediv_of_nonneg _ (by decide),wrap_i64 (by omega) (by omega)]
  rfl
 ·cases h
theorem w176:Walked Tryz.prog G 176 3 sp176:=by
 refine ⟨Tryz.f176,Tryz.func176,by decide +kernel,rfl,fun xs bl r h=> ?_⟩
 unfold sp176 at h
 split at h
 ·rename_i b pos little
  obtain ⟨hpre,h2⟩:=chk_inv h;cases h2
  refine Eq.trans (b:=(Zx (chk (decide (Zz b≤4611686018427387904)&&true&&true) (some (Zd [Zy .i64 (Yn (Zh b pos 4 little)),Zy .i64 (Yd (Zh b pos 4 little)),Zy .i64 (Yw (Zh b pos 4 little))],[]))) fun (r:AV×Blocks)=>onNilB (Zg r) (Wh (Zm r) fun vs=>onCons vs fun x r=>Yy .i64 x fun n=>onCons r fun x r=>Yy .i64 x fun n_1=>onCons r fun x r=>Yy .i64 x fun n_2=>onNil r (some (Zd [Zy .i64 n,Zy .i64 n_1,Zy .i64 n_2],[]))):Option (AV×Blocks))) (by kernel_rfl) ?_
  simp only [A0]
  rw [chk_of (by rw [hpre];rfl)]
 ·cases h
theorem w182:Walked Tryz.prog G 182 3 sp182:=by
 refine ⟨Tryz.f182,Tryz.func182,by decide +kernel,rfl,fun xs bl r h=> ?_⟩
 unfold sp182 at h
 split at h
 ·rename_i s c
  cases h
  refine Eq.trans (b:=(some (Zy .i64 (Yq c s),[]):Option (AV×Blocks))) (by kernel_rfl) ?_
  rfl
 ·cases h
theorem w188:Walked Tryz.prog G 188 3 sp188:=by
 refine ⟨Tryz.f188,Tryz.func188,by decide +kernel,rfl,fun xs bl r h=> ?_⟩
 unfold sp188 at h
 split at h
 ·rename_i k
  obtain ⟨hpre,h2⟩:=chk_inv h;cases h2
  refine Eq.trans (b:=(Zx (chk (decide (0≤k)&&decide (k<18446744073709551616)) (some (Zd [Zy .i64 (bif Xp k then Kerb.keyClass k else 0),Zy .i64 (bif Xp k then Kerb.keySerial k else 0),Zk (Xp k)],[]))) fun (r:AV×Blocks)=>onNilB (Zg r) (Wh (Zm r) fun vs=>onCons vs fun x r=>Yy .i64 x fun n=>onCons r fun x r=>Yy .i64 x fun n_1=>onCons r fun x r=>Vg x fun b=>onNil r (some (Zy .i64 n,[]))):Option (AV×Blocks))) (by kernel_rfl) ?_
  simp only [hpre,↓A0,A0]
  rfl
 ·cases h
theorem w32:Walked Tryz.prog G 32 4 sp32:=by
 refine ⟨Tryz.f32,Tryz.func32,by decide +kernel,rfl,fun xs bl r h=> ?_⟩
 unfold sp32 at h
 split at h
 ·rename_i cu co cv cr lt tn mt cad cfr cis ctm ctk clf ccs cky ckv css ctt cau
  cases h
  refine Eq.trans (b:=(Zx (chk (decide (0≤Vx (Zw .i64 (↑(Yk cv):Int)) 6)&&decide (Vx (Zw .i64 (↑(Yk cv):Int)) 6≤4611686018427387904)) (some (Xg [Zf (Wn (Kerb.service (Vx (Zw .i64 (↑(Yk cv):Int)) 6))),Zf (Wm (Kerb.service (Vx (Zw .i64 (↑(Yk cv):Int)) 6))),Zf (Wp (Kerb.service (Vx (Zw .i64 (↑(Yk cv):Int)) 6)))],[]))) fun (r:AV×Blocks)=>onNilB (Zg r) (Uw (Zm r) fun cs=>onCons cs fun x r=>AV.onStr x fun b=>onCons r fun x r=>AV.onStr x fun b_1=>onCons r fun x r=>AV.onStr x fun b_2=>onNil r (some (Xg [Zf b,Zf b_1,Zf b_2],[]))):Option (AV×Blocks))) (by kernel_rfl) ?_
  have b:=Kerb.u8i_bd cv
  have f1:Vx (Kerb.u8i cv) 6=Kerb.u8i cv % 6:=Int.tmod_eq_emod_of_nonneg b.1
  simp only [Kerb.wrap_u8i,f1,↓A0,A0]
  rw [chk_of (by simp;omega)]
  rfl
 ·cases h
theorem w46:Walked Tryz.prog G 46 4 sp46:=by
 refine ⟨Tryz.f46,Tryz.func46,by decide +kernel,rfl,fun xs bl r h=> ?_⟩
 unfold sp46 at h
 split at h
 ·rename_i ali b1 b2 b3 aad ak alf ais asv ain x y z ck tc tm src now skw
  cases h
  refine Eq.trans (b:=(sel (!(b1==x&&(b2==y&&b3==z))) (some (Zy .i64 36,[])) (sel (!src==aad) (some (Zy .i64 38,[])) (sel (!Kerb.near tm now skw) (some (Zy .i64 37,[])) (some (Zy .i64 (Kerb.stateErr ais alf now skw),[])))):Option (AV×Blocks))) (by kernel_rfl) ?_
  unfold Kerb.judge
  cases h1:Kerb.Prin.eqb ⟨b1,b2,b3⟩ ⟨x,y,z⟩
  ·have h1':(b1==x&&(b2==y&&b3==z))=false:=h1
   rw [if_pos rfl,h1'];rfl
  have h1':(b1==x&&(b2==y&&b3==z))=true:=h1
  rw [if_neg (by simp),h1',Yg,sel_false]
  by_cases h2:src=aad
  case neg=>rw [sel_pos (by simpa using h2),if_pos h2]
  rw [sel_neg (by simpa using h2),if_neg (by simpa using h2)]
  cases h3:Kerb.near tm now skw
  ·rfl
  ·rw [if_neg (by simp)];rfl
 ·cases h
theorem w56:Walked Tryz.prog G 56 4 sp56:=by
 refine ⟨Tryz.f56,Tryz.func56,by decide +kernel,rfl,fun xs bl r h=> ?_⟩
 unfold sp56 at h
 split at h
 ·rename_i kd k bd
  obtain ⟨hpre,h2⟩:=chk_inv h;cases h2
  refine Eq.trans (b:=(let t0:List UInt8:=[UInt8.ofNat (Zu (Zw .u8 (Int.fdiv (↑(Zz bd):Int) (2 ^ min (Zu 8) (Xu .i64))))),UInt8.ofNat (Zu (Zw .u8 (↑(Zz bd):Int)))];let t1:List UInt8:=List.replicate (Zu 0) (0:UInt8)++[(66:UInt8),UInt8.ofNat (Zu (Zw .u8 kd))];let t2:Int:=Zw .i64 (12+(↑(Zz bd):Int));sel (!Vk kd) (some (Zd [Zb [],Zy .i64 104],[])) (Zx (chk (decide (0≤k)&&decide (k<18446744073709551616)) (some (Zk (Xp k),[]))) (kL fun b=>sel (!b) (some (Zd [Zb [],Zy .i64 10],[])) (sel (decide ((↑(Zz bd):Int)>1000)) (some (Zd [Zb [],Zy .i64 105],[])) (chk (decide (0≤t2)&&decide (t2≤140737488355328)) (chk (room (Zz (List.replicate (Zu 0) (0:UInt8))+Zz [(66:UInt8),UInt8.ofNat (Zu (Zw .u8 kd))]) 1) (Zx (chk (decide (0≤k)&&decide (k<18446744073709551616)) (some (Zb (Kerb.keyBytes k),[]))) (kB fun b=>chk (room (Zz t1+Zz b) 1) (chk (room (Zz (t1++b)+Zz t0) 1) (chk (room (Zz (t1++b++t0)+Zz bd) 1) (some (Zd [Zb (t1++b++t0++bd),Zy .i64 0],[]))))))))))):Option (AV×Blocks))) (by kernel_rfl) ?_
  delta kB kL
  try dsimp only [cStr,cBs,cBool,cU8,cInt,cSl,l63]
  simp only [A0,Vv,Vd,Vh,hpre]
  unfold Xn
  cases h1:Vk kd
  ·rfl
  rw [Yg,sel_false,if_neg (by simp)]
  cases h2:Xp k
  ·rfl
  rw [Yg,sel_false,if_neg (by simp)]
  by_cases h3:1000<bd.length
  ·rw [sel_pos (by simp;omega),if_pos h3]
  have hk:1≤kd∧kd≤10:=by simp [Vk] at h1;omega
  have lk:=Zp k
  rw [sel_neg (by simp;omega),if_neg h3,wrap_i64 (by omega) (by omega),chk_of (by simp;omega),chk_of (Vb (by simp)),chk_of (Vb (by simp;omega)),chk_of (Vb (by simp;omega)),chk_of (Vb (by simp;omega)),Kerb.two_bytes,Kerb.wrap_u8,Int.emod_eq_of_lt (by omega) (by omega)]
  rfl
 ·cases h
theorem w58:Walked Tryz.prog G 58 4 sp58:=by
 refine ⟨Tryz.f58,Tryz.func58,by decide +kernel,rfl,fun xs bl r h=> ?_⟩
 unfold sp58 at h
 split at h
 ·rename_i ck tc tm li
  cases h
  refine Eq.trans (b:=(sel (!Zn ck 4294967295) (some (Zd [Zb [],Zy .i64 104],[])) (sel (!Zn tc 199) (some (Zd [Zb [],Zy .i64 104],[])) (sel (!Zn tm 4294967295) (some (Zd [Zb [],Zy .i64 104],[])) (Zx (chk (decide (Zz ([]++Yz (bif li then 1 else 0) 1 false)≤70368744177664)) (some (Ym ([]++Yz (bif li then 1 else 0) 1 false++Yz ck 4 li),[]))) fun (r:AV×Blocks)=>onNilB (Zg r) (Vf (Zm r) fun l=>Zx (chk (decide (Zz l≤70368744177664)) (some (Ym (l++Yz tc 1 false),[]))) fun (r:AV×Blocks)=>onNilB (Zg r) (Vf (Zm r) fun l=>Zx (chk (decide (Zz l≤70368744177664)) (some (Ym (l++Yz tm 4 li),[]))) fun (r:AV×Blocks)=>onNilB (Zg r) (Vf (Zm r) fun l=>Zx (chk (decide (Zz l≤70368744177664)) (some (Ym (Kerb.pad l),[]))) fun (r:AV×Blocks)=>onNilB (Zg r) (Vf (Zm r) fun l=>some (Zd [Zb l,Zy .i64 0],[])))))))):Option (AV×Blocks))) (by kernel_rfl) ?_
  unfold Yu
  cases h1:Zn ck 4294967295
  ·rfl
  cases h2:Zn tc 199
  ·rfl
  cases h3:Zn tm 4294967295
  ·rfl
  rw [if_neg (by simp)]
  simp only [↓A0,Yg]
  rw [chk_of (by simp [Zq]),chk_of (by simp [Zq]),chk_of (by simp [Zq]),chk_of (by simp [Zq])]
  rfl
 ·cases h
theorem w69:Walked Tryz.prog G 69 4 sp69:=by
 refine ⟨Tryz.f69,Tryz.func69,by decide +kernel,rfl,fun xs bl r h=> ?_⟩
 unfold sp69 at h
 split at h
 ·rename_i b
  obtain ⟨hpre,h2⟩:=chk_inv h;cases h2
  refine Eq.trans (b:=(let t1:Option (AV×Blocks):=some (Zd [Xg [Zy .i64 0,Zy .u64 0,Zb []],Zy .i64 0,Zy .i64 100],[]);let t2:Int:=Zw .i64 (↑(BitVec.toNat (BitVec.ofInt (Xu .i64) (Zw .i64 (Zw .i64 (↑(Yk (Xq b (Zu 10) (0:UInt8))):Int)*2 ^ min (Zu 8) (Xu .i64))) ||| BitVec.ofInt (Xu .i64) (Zw .i64 (↑(Yk (Xq b (Zu 11) (0:UInt8))):Int)))):Int);let t3:Int:=Zw .i64 (↑(Yk (Xq b (Zu 1) (0:UInt8))):Int);let t4:Option (AV×Blocks):=some (Zd [Xg [Zy .i64 0,Zy .u64 0,Zb []],Zy .i64 0,Zy .i64 101],[]);let t0:Int:=Zw .i64 (12+t2);sel (decide ((↑(Zz b):Int)<12)) t4 (chk (decide (10≤(↑(Zz b):Int))) (Zx (chk (decide (Zz (Xz (Zu 2) (Yh (Zu 10) b))≤4611686018427387904)) (some (Zd [Zy .u64 (Zm (Xm (Xz (Zu 2) (Yh (Zu 10) b)))),Zk (Zg (Xm (Xz (Zu 2) (Yh (Zu 10) b))))],[]))) (kT fun vs=>cInt .u64 vs fun n r=>cBool r fun b_1 r=>onNil r (chk (decide (10<(↑(Zz b):Int))) (chk (decide (11<(↑(Zz b):Int))) (chk (decide (0<(↑(Zz b):Int))) (sel (!Xq b (Zu 0) (0:UInt8)==(66:UInt8)) t1 (chk (decide (1<(↑(Zz b):Int))) (sel (decide (t3<1)) t1 (chk (decide (1<(↑(Zz b):Int))) (sel (decide (t3>10)) t1 (sel (!b_1) t1 (sel (decide (t2>1000)) t1 (sel (decide ((↑(Zz b):Int)<t0)) t4 (chk (decide (1<(↑(Zz b):Int))) (chk (decide (12≤t0)&&decide (t0≤(↑(Zz b):Int))) (chk (room (Zz (Xz (Zu 12) (Yh (Zu t0) b))) 1) (some (Zd [Xg [Zy .i64 t3,Zy .u64 n,Zb (Xz (Zu 12) (Yh (Zu t0) b))],Zy .i64 t0,Zy .i64 0],[]))))))))))))))))))):Option (AV×Blocks))) (by kernel_rfl) ?_
  delta kT
  try dsimp only [cStr,cBs,cBool,cU8,cInt,cSl,l63]
  simp only [decide_eq_true_eq] at hpre
  unfold Xv
  by_cases h0:b.length<12
  ·rw [sel_pos (by simp;omega),if_pos h0];rfl
  rw [sel_neg (by simp;omega),if_neg h0]
  have hc:=Kerb.cut_len b 2 8
  have hs:(b.getD 10 0).toNat*256+(b.getD 11 0).toNat=Vw b:=rfl
  simp only [Kerb.cut_28,Kerb.size_or]
  simp only [show Zu 0=0 from rfl,show Zu 1=1 from rfl,show Zu 10=10 from rfl,show Zu 11=11 from rfl,Kerb.wrap_byte,hs]
  rw [chk_of (by simp;omega),chk_of (by simp;omega)]
  simp only [↓A0]
  rw [chk_of (by simp;omega),chk_of (by simp;omega),chk_of (by simp;omega)]
  by_cases h1:b.getD 0 0=66
  case neg=>rw [sel_pos (by simpa using h1),if_pos (.inl h1)];rfl
  rw [sel_neg (by simpa using h1),chk_of (by simp;omega)]
  cases h2:Vk ((b.getD 1 0).toNat:Int)
  ·rw [if_pos (.inr (.inl rfl))]
   by_cases h2a:((b.getD 1 0).toNat:Int)<1
   ·rw [sel_pos (by simpa using h2a)];rfl
   ·rw [sel_neg (by simpa using h2a),chk_of (by simp;omega),sel_pos (decide_eq_true (by simp only [Vk,Bool.and_eq_false_iff,decide_eq_false_iff_not] at h2;omega))];rfl
  have hk:1≤((b.getD 1 0).toNat:Int)∧((b.getD 1 0).toNat:Int)≤10:=by simp only [Vk,Yx,decide_eq_true_eq] at h2;exact h2
  rw [sel_neg (decide_eq_false (by omega)),chk_of (by simp;omega),sel_neg (decide_eq_false (by omega))]
  cases h3:(Xm (Kerb.cut b 2 8)).2
  ·rw [if_pos (.inr (.inr (.inl rfl)))];rfl
  rw [Yg,sel_false]
  by_cases h4:1000<Vw b
  ·rw [sel_pos (by simp;omega),if_pos (.inr (.inr (.inr h4)))];rfl
  rw [sel_neg (by simp;omega),if_neg (by rintro (h | h | h | h)<;>first | exact h h1 | cases h | omega),wrap_i64 (by omega) (by omega)]
  by_cases h5:b.length<12+Vw b
  ·rw [sel_pos (by simp;omega),if_pos h5];rfl
  have hc2:=Kerb.cut_len b 12 (Vw b)
  rw [sel_neg (by simp;omega),if_neg h5,Kerb.cut_12]
  repeat rw [chk_of (by first | (simp;omega) | exact Vb (by omega))]
  simp
 ·cases h
theorem w70:Walked Tryz.prog G 70 4 sp70:=by
 refine ⟨Tryz.f70,Tryz.func70,by decide +kernel,rfl,fun xs bl r h=> ?_⟩
 unfold sp70 at h
 split at h
 ·rename_i B at_ li bad
  obtain ⟨hpre,h2⟩:=chk_inv h;cases h2
  show runFnH (G.env 70 4) G.rts (G.own 70) Tryz.f70 _ _ [0]=_
  refine Eq.trans (b:=(Zx (chk (decide (Zz B≤140737488355328)) (some (Zd [Zy .i64 (Yn (Zh B at_ 1 false)),Zy .i64 (Yd (Zh B at_ 1 false)),Zy .i64 (Yw (Zh B at_ 1 false))],[]))) fun (r:AV×Blocks)=>onNilB (Zg r) (Wh (Zm r) fun vs=>onCons vs fun x r=>Yy .i64 x fun n=>onCons r fun x r=>Yy .i64 x fun n_1=>onCons r fun x r=>Yy .i64 x fun n_2=>onNil r (some (Zy .i64 n,[[Zb B,Zy .i64 (bif bad || !n_2==0 then at_ else n_1),Zk li,Zk (bad || !n_2==0)]]))):Option (AV×Blocks))) (by kernel_rfl) ?_
  simp only [A0]
  rw [chk_of hpre]
 ·cases h
theorem w71:Walked Tryz.prog G 71 4 sp71:=by
 refine ⟨Tryz.f71,Tryz.func71,by decide +kernel,rfl,fun xs bl r h=> ?_⟩
 unfold sp71 at h
 split at h
 ·rename_i B at_ li bad
  obtain ⟨hpre,h2⟩:=chk_inv h;cases h2
  show runFnH (G.env 71 4) G.rts (G.own 71) Tryz.f71 _ _ [0]=_
  refine Eq.trans (b:=(Zx (chk (decide (Zz B≤140737488355328)) (some (Zd [Zy .i64 (Yn (Zh B at_ 4 li)),Zy .i64 (Yd (Zh B at_ 4 li)),Zy .i64 (Yw (Zh B at_ 4 li))],[]))) fun (r:AV×Blocks)=>onNilB (Zg r) (Wh (Zm r) fun vs=>onCons vs fun x r=>Yy .i64 x fun n=>onCons r fun x r=>Yy .i64 x fun n_1=>onCons r fun x r=>Yy .i64 x fun n_2=>onNil r (some (Zy .i64 n,[[Zb B,Zy .i64 (bif bad || !n_2==0 then at_ else n_1),Zk li,Zk (bad || !n_2==0)]]))):Option (AV×Blocks))) (by kernel_rfl) ?_
  simp only [A0]
  rw [chk_of hpre]
 ·cases h
theorem w78:Walked Tryz.prog G 78 4 sp78:=by
 refine ⟨Tryz.f78,Tryz.func78,by decide +kernel,rfl,fun xs bl r h=> ?_⟩
 unfold sp78 at h
 split at h
 ·rename_i kls
  obtain ⟨hpre,h2⟩:=chk_inv h;cases h2
  refine Eq.trans (b:=(sel (decide ((↑(Zz kls):Int)>60)) (some (Zy .i64 106,[])) (Zx (loopM (fun (st:List AV)=>cSl 5 st fun b r=>cInt .i64 r fun n r=>cInt .i64 r fun n_1 r=>let t0:List AV:=Xz (Zu (↑(0:Nat):Int)) (Yh (Zu n_1) b);let t1:Option (List AV ⊕ Ex×List AV):=some (Vj (Ex.ret,[Xh 5 b,Zy .i64 104,Zy .i64 n_1]));onNil r (sel (decide (n_1<(↑(Zz b):Int))) (chk (decide (0≤n_1)&&decide (n_1<(↑(Zz b):Int))&&true) (Uw (Xq b (Zu n_1) AV.undef) fun cs=>cStr cs fun b_1 r=>cStr r fun b_2 r=>cStr r fun b_3 r=>cInt .i64 r fun n_2 r=>cInt .u64 r fun n_3 r=>onNil r (Zx (chk (l63 b_1&&l63 b_2&&l63 b_3) (some (Zk (Yj (Yv b_1 b_2 b_3)),[]))) (kL fun b_4=>sel (!b_4) (some (Vj (Ex.ret,[Xh 5 b,Zy .i64 103,Zy .i64 n_1]))) (sel (decide (n_2<0)) t1 (sel (decide (n_2>255)) t1 (Zx (chk (decide (0≤n_3)&&decide (n_3<18446744073709551616)) (some (Zk (Xp n_3),[]))) (kL fun b_5=>sel (!b_5) (some (Vj (Ex.ret,[Xh 5 b,Zy .i64 10,Zy .i64 n_1]))) (chk (decide ((↑(0:Nat):Int)≤n_1)&&decide (n_1≤(↑(Zz b):Int))) (Zx (chk (List.all t0 Kerb.isSKey&&decide (Zz t0≤1000000)) (some (Zd [Zy .u64 (Zm (Kerb.skFind (List.map Kerb.toSKey t0) (Yv b_1 b_2 b_3) n_2)),Zk (Zg (Kerb.skFind (List.map Kerb.toSKey t0) (Yv b_1 b_2 b_3) n_2))],[]))) (kT fun vs=>cInt .u64 vs fun n_4 r=>cBool r fun b_6 r=>onNil r (sel b_6 (some (Vj (Ex.ret,[Xh 5 b,Zy .i64 107,Zy .i64 n_1]))) (some (Sum.inl [Xh 5 b,Zy .i64 n,Zy .i64 (Zw .i64 (n_1+1))])))))))))))))) (some (Vj (Vp 0,[Xh 5 b,Zy .i64 n,Zy .i64 n_1]))))) [Xh 5 kls,Zy .i64 0,Zy .i64 0]) fun (r:Ex×List AV)=>cSl 5 (Zg r) fun b r_1=>cInt .i64 r_1 fun n r_2=>cInt .i64 r_2 fun n_1 r_3=>onNil r_3 (exK r.1 (some (Zy .i64 n,[])) fun (j:Nat)=>sel (Nat.beq j 0) (some (Zy .i64 0,[])) none)):Option (AV×Blocks))) (by kernel_rfl) ?_
  delta kT kL
  try dsimp only [cStr,cBs,cBool,cU8,cInt,cSl,l63]
  simp only [Yx,decide_eq_true_eq] at hpre
  obtain ⟨hall,hlen⟩:=hpre
  obtain ⟨cs,rfl,hok⟩:=Kerb.skeys_of hall
  unfold Kerb.skErr
  rw [Kerb.map_toSKey]
  simp only [Xj] at hlen ⊢
  by_cases h60:60<cs.length
  ·rw [sel_pos (by simp;omega),if_pos h60]
  rw [sel_neg (by simp;omega),if_neg h60]
  refine loop_rounds (fun i:Nat=>[Xh 5 (cs.map Kerb.SKey.av),Zy Zv 0,Zy Zv (i:Int)]) (fun i=>i≤cs.length∧Kerb.skErrs [] cs=Kerb.skErrs (cs.take i) (cs.drop i)) (fun i=>cs.length-i)
   (fun r=>∃ (i:Nat) (n:Int),r.2=[Xh 5 (cs.map Kerb.SKey.av),Zy Zv n,Zy Zv (i:Int)]∧((r.1 = .ret∧n=Kerb.skErrs [] cs)∨(r.1 = .exit 0∧Kerb.skErrs [] cs=0))) 0 ⟨Nat.zero_le _,by simp⟩ rfl ?_ ?_
  ·rintro i ⟨hi,hp⟩
   simp only [↓A0,A0,Xj]
   by_cases hlt:i<cs.length
   ·rw [sel_pos (by simp;omega),chk_of (by simp;omega),Wv,Kerb.getD_row (d:=Kerb.noSKey) hlt]
    obtain ⟨c,hc⟩:∃ c,cs.getD i Kerb.noSKey=c:=⟨_,rfl⟩
    have hst:=Kerb.skErrs_step hlt hc hp
    have hcm:c∈cs:=hc ▸ Kerb.mem_row hlt
    have ho:=hok c hcm
    rw [hc]
    obtain ⟨⟨s1,s2,s3⟩,kv,ky⟩:=c
    obtain ⟨o1,o2,o3,o4,o5⟩:=ho
    have o4:=Kerb.isI64_iff.1 o4
    have o5:=Kerb.isU64_iff.1 o5
    dsimp only at o1 o2 o3 o4 o5 hst
    simp only [Kerb.SKey.av,o1,o2,o3,o5,decide_true,Xd,↓A0,A0]
    have k1:∀ code:Int,code≠0→Vy ⟨⟨s1,s2,s3⟩,kv,ky⟩=code→code=Kerb.skErrs [] cs:=fun code h0 he=>by
     rw [he,if_pos h0] at hst;exact hst.symm
    cases h1:Yj ⟨s1,s2,s3⟩
    ·exact ⟨_,rfl,i,_,rfl,.inl ⟨rfl,k1 103 (by decide) (by simp [Vy,h1])⟩⟩
    rw [Yg,sel_false]
    by_cases h2:kv<0
    ·rw [sel_pos (by simpa using h2)]
     exact ⟨_,rfl,i,_,rfl,.inl ⟨rfl,k1 104 (by decide) (by simp [Vy,h1,Zn];omega)⟩⟩
    rw [sel_neg (by simpa using h2)]
    by_cases h3:kv>255
    ·rw [sel_pos (by simpa using h3)]
     exact ⟨_,rfl,i,_,rfl,.inl ⟨rfl,k1 104 (by decide) (by simp [Vy,h1,Zn];omega)⟩⟩
    rw [sel_neg (by simpa using h3)]
    have hw:Zn kv 255=true:=Kerb.within_iff.2 ⟨by omega,by omega⟩
    cases h4:Xp ky
    ·exact ⟨_,rfl,i,_,rfl,.inl ⟨rfl,k1 10 (by decide) (by simp [Vy,h1,hw,h4])⟩⟩
    rw [Yg,sel_false]
    have hz:Vy ⟨⟨s1,s2,s3⟩,kv,ky⟩=0:=by simp [Vy,h1,hw,h4]
    rw [hz,if_neg (by simp)] at hst
    rw [chk_of (by simp;omega)]
    simp only [Wv,List.drop_zero,← List.map_take]
    rw [chk_of (by rw [Kerb.skeys_all (fun c hc=>hok c (List.mem_of_mem_take hc))];simp;omega),Kerb.map_toSKey,Kerb.skFind_found]
    cases hd:(cs.take i).any (Kerb.SKey.is ⟨s1,s2,s3⟩ kv)
    ·rw [hd,if_neg (by simp)] at hst
     rw [sel_false,wrap_i64 (by omega) (by omega)]
     exact ⟨_,rfl,i+1,rfl,⟨by omega,hst⟩,by dsimp only;omega⟩
    ·rw [hd,if_pos rfl] at hst
     rw [sel_true]
     exact ⟨_,rfl,i,_,rfl,.inl ⟨rfl,hst.symm⟩⟩
   ·rw [sel_neg (by simp;omega)]
    refine ⟨_,rfl,i,_,rfl,.inr ⟨rfl,?_⟩⟩
    rw [hp,List.drop_eq_nil_of_le (by omega)]
    rfl
  ·rintro ⟨e,l⟩ ⟨i,n,rfl,⟨rfl,h⟩ | ⟨rfl,h⟩⟩
   ·simp only [↓A0,A0,h]
   ·simp only [↓A0,A0,h]
    rw [sel_pos (Ww _)]
 ·cases h
theorem w80:Walked Tryz.prog G 80 4 sp80:=by
 refine ⟨Tryz.f80,Tryz.func80,by decide +kernel,rfl,fun xs bl r h=> ?_⟩
 unfold sp80 at h
 split at h
 ·rename_i sz fl mls
  obtain ⟨hpre,h2⟩:=chk_inv h;cases h2
  refine Eq.trans (b:=(sel (decide (sz<1)) (some (Zy .i64 104,[])) (sel (decide (sz>40)) (some (Zy .i64 104,[])) (sel (decide (fl<0)) (some (Zy .i64 104,[])) (sel (decide (fl>4294967295)) (some (Zy .i64 104,[])) (sel (decide ((↑(Zz mls):Int)>sz)) (some (Zy .i64 106,[])) (Zx (loopM (fun (st:List AV)=>cInt .i64 st fun n r=>cInt .i64 r fun n_1 r=>cSl 5 r fun b r=>cInt .i64 r fun n_2 r=>cInt .i64 r fun n_3 r=>let t0:Option (List AV ⊕ Ex×List AV):=some (Vj (Ex.ret,[Zy .i64 n,Zy .i64 n_1,Xh 5 b,Zy .i64 104,Zy .i64 n_3]));let t1:List AV:=Xz (Zu (↑(0:Nat):Int)) (Yh (Zu n_3) b);onNil r (sel (decide (n_3<(↑(Zz b):Int))) (chk (decide (0≤n_3)&&decide (n_3<(↑(Zz b):Int))&&true) (Uw (Xq b (Zu n_3) AV.undef) fun cs=>cStr cs fun b_1 r=>cStr r fun b_2 r=>cStr r fun b_3 r=>cInt .i64 r fun n_4 r=>cInt .i64 r fun n_5 r=>onNil r (Zx (chk (l63 b_1&&l63 b_2&&l63 b_3) (some (Zk (Yj (Yv b_1 b_2 b_3)),[]))) (kL fun b_4=>sel (!b_4) (some (Vj (Ex.ret,[Zy .i64 n,Zy .i64 n_1,Xh 5 b,Zy .i64 103,Zy .i64 n_3]))) (sel (decide (n_4<n_1)) t0 (sel (decide (n_4>4294967295)) t0 (sel (decide (n_5<0)) t0 (sel (decide (n_5>199)) t0 (chk (decide ((↑(0:Nat):Int)≤n_3)&&decide (n_3≤(↑(Zz b):Int))) (Zx (chk (List.all t1 Kerb.isMark&&decide (Zz t1≤1000000)) (some (Zk (Kerb.hasMark (List.map Kerb.toMark t1) (Kerb.Mark.mk (Yv b_1 b_2 b_3) n_4 n_5)),[]))) (kL fun b_5=>sel b_5 (some (Vj (Ex.ret,[Zy .i64 n,Zy .i64 n_1,Xh 5 b,Zy .i64 107,Zy .i64 n_3]))) (some (Sum.inl [Zy .i64 n,Zy .i64 n_1,Xh 5 b,Zy .i64 n_2,Zy .i64 (Zw .i64 (n_3+1))]))))))))))))) (some (Vj (Vp 0,[Zy .i64 n,Zy .i64 n_1,Xh 5 b,Zy .i64 n_2,Zy .i64 n_3]))))) [Zy .i64 sz,Zy .i64 fl,Xh 5 mls,Zy .i64 0,Zy .i64 0]) fun (r:Ex×List AV)=>cInt .i64 (Zg r) fun n r_1=>cInt .i64 r_1 fun n r_2=>cSl 5 r_2 fun b r_3=>cInt .i64 r_3 fun n r_4=>cInt .i64 r_4 fun n_1 r_5=>onNil r_5 (exK r.1 (some (Zy .i64 n,[])) fun (j:Nat)=>sel (Nat.beq j 0) (some (Zy .i64 0,[])) none)))))):Option (AV×Blocks))) (by kernel_rfl) ?_
  delta kL
  try dsimp only [cStr,cBs,cBool,cU8,cInt,cSl,l63]
  simp only [Yx,decide_eq_true_eq] at hpre
  obtain ⟨hall,hlen⟩:=hpre
  obtain ⟨cs,rfl,hok⟩:=Kerb.marks_of hall
  unfold Vn
  rw [Kerb.map_toMark]
  simp only [Xj] at hlen ⊢
  by_cases e1:sz<1
  ·rw [sel_pos (by simpa using e1),if_pos (by simp;omega)]
  rw [sel_neg (by simpa using e1)]
  by_cases e2:sz>40
  ·rw [sel_pos (by simpa using e2),if_pos (by simp;omega)]
  rw [sel_neg (by simpa using e2)]
  by_cases e3:fl<0
  ·rw [sel_pos (by simpa using e3),if_pos (by simp [Zn];omega)]
  rw [sel_neg (by simpa using e3)]
  by_cases e4:fl>4294967295
  ·rw [sel_pos (by simpa using e4),if_pos (by simp [Zn];omega)]
  rw [sel_neg (by simpa using e4),if_neg (by simp [Zn];omega)]
  by_cases hsz:sz<cs.length
  ·rw [sel_pos (by simp;omega),if_pos hsz]
  rw [sel_neg (by simp;omega),if_neg hsz]
  refine loop_rounds (fun i:Nat=>[Zy Zv sz,Zy Zv fl,Xh 5 (cs.map Wu),Zy Zv 0,Zy Zv (i:Int)]) (fun i=>i≤cs.length∧Uq fl [] cs=Uq fl (cs.take i) (cs.drop i)) (fun i=>cs.length-i)
   (fun r=>∃ (i:Nat) (n:Int),r.2=[Zy Zv sz,Zy Zv fl,Xh 5 (cs.map Wu),Zy Zv n,Zy Zv (i:Int)]∧((r.1 = .ret∧n=Uq fl [] cs)∨(r.1 = .exit 0∧Uq fl [] cs=0))) 0 ⟨Nat.zero_le _,by simp⟩ rfl ?_ ?_
  ·rintro i ⟨hi,hp⟩
   simp only [↓A0,A0,Xj]
   by_cases hlt:i<cs.length
   ·rw [sel_pos (by simp;omega),chk_of (by simp;omega),Wv,Kerb.getD_row (d:=Kerb.noMark) hlt]
    obtain ⟨c,hc⟩:∃ c,cs.getD i Kerb.noMark=c:=⟨_,rfl⟩
    have hst:=Kerb.marksErr_step hlt hc hp
    have hcm:c∈cs:=hc ▸ Kerb.mem_row hlt
    have ho:=hok c hcm
    rw [hc]
    obtain ⟨⟨s1,s2,s3⟩,mt,mk⟩:=c
    obtain ⟨o1,o2,o3,o4,o5⟩:=ho
    dsimp only at o1 o2 o3 o4 o5 hst
    simp only [Wu,o1,o2,o3,decide_true,Xd,↓A0,A0]
    have k1:∀ code:Int,code≠0→Wd fl ⟨⟨s1,s2,s3⟩,mt,mk⟩=code→code=Uq fl [] cs:=fun code h0 he=>by
     rw [he,if_pos h0] at hst;exact hst.symm
    cases h1:Yj ⟨s1,s2,s3⟩
    ·exact ⟨_,rfl,i,_,rfl,.inl ⟨rfl,k1 103 (by decide) (by simp [Wd,h1])⟩⟩
    rw [Yg,sel_false]
    by_cases h2:mt<fl
    ·rw [sel_pos (by simpa using h2)]
     exact ⟨_,rfl,i,_,rfl,.inl ⟨rfl,k1 104 (by decide) (by unfold Wd;rw [if_neg (by simp [h1]),if_pos (by simp [Zn];omega)])⟩⟩
    rw [sel_neg (by simpa using h2)]
    by_cases h3:mt>4294967295
    ·rw [sel_pos (by simpa using h3)]
     exact ⟨_,rfl,i,_,rfl,.inl ⟨rfl,k1 104 (by decide) (by unfold Wd;rw [if_neg (by simp [h1]),if_pos (by simp [Zn];omega)])⟩⟩
    rw [sel_neg (by simpa using h3)]
    by_cases h4:mk<0
    ·rw [sel_pos (by simpa using h4)]
     exact ⟨_,rfl,i,_,rfl,.inl ⟨rfl,k1 104 (by decide) (by unfold Wd;rw [if_neg (by simp [h1]),if_pos (by simp [Zn];omega)])⟩⟩
    rw [sel_neg (by simpa using h4)]
    by_cases h5:mk>199
    ·rw [sel_pos (by simpa using h5)]
     exact ⟨_,rfl,i,_,rfl,.inl ⟨rfl,k1 104 (by decide) (by unfold Wd;rw [if_neg (by simp [h1]),if_pos (by simp [Zn];omega)])⟩⟩
    rw [sel_neg (by simpa using h5)]
    have hw2:(decide (fl≤mt)&&decide (mt≤4294967295)&&Zn mk 199)=true:=by
     rw [Yx,Yx,decide_eq_true_eq,decide_eq_true_eq]
     exact ⟨⟨by omega,by omega⟩,Kerb.within_iff.2 ⟨by omega,by omega⟩⟩
    have hz:Wd fl ⟨⟨s1,s2,s3⟩,mt,mk⟩=0:=by
     unfold Wd
     rw [if_neg (by simp [h1])]
     dsimp only
     rw [hw2]
     rfl
    rw [hz,if_neg (by simp)] at hst
    rw [chk_of (by simp;omega)]
    simp only [Wv,List.drop_zero,← List.map_take]
    rw [chk_of (by rw [Kerb.marks_all (fun c hc=>hok c (List.mem_of_mem_take hc))];simp;omega),Kerb.map_toMark]
    cases hd:Kerb.hasMark (cs.take i) ⟨⟨s1,s2,s3⟩,mt,mk⟩
    ·rw [hd,if_neg (by simp)] at hst
     rw [sel_false,wrap_i64 (by omega) (by omega)]
     exact ⟨_,rfl,i+1,rfl,⟨by omega,hst⟩,by dsimp only;omega⟩
    ·rw [hd,if_pos rfl] at hst
     rw [sel_true]
     exact ⟨_,rfl,i,_,rfl,.inl ⟨rfl,hst.symm⟩⟩
   ·rw [sel_neg (by simp;omega)]
    refine ⟨_,rfl,i,_,rfl,.inr ⟨rfl,?_⟩⟩
    rw [hp,List.drop_eq_nil_of_le (by omega)]
    rfl
  ·rintro ⟨e,l⟩ ⟨i,n,rfl,⟨rfl,h⟩ | ⟨rfl,h⟩⟩
   ·simp only [↓A0,A0,h]
   ·simp only [↓A0,A0,h]
    rw [sel_pos (Ww _)]
 ·cases h
theorem w87:Walked Tryz.prog G 87 4 sp87:=by
 refine ⟨Tryz.f87,Tryz.func87,by decide +kernel,rfl,fun xs bl r h=> ?_⟩
 unfold sp87 at h
 split at h
 ·rename_i b
  obtain ⟨hpre,h2⟩:=chk_inv h;cases h2
  refine Eq.trans (b:=(Zx (chk (decide (Zz b≤4611686018427387904)) (some (Zd [Zy .i64 (Yn (Zh b 2 1 false)),Zy .i64 (Yd (Zh b 2 1 false)),Zy .i64 (Yw (Zh b 2 1 false))],[]))) (kT fun vs=>cInt .i64 vs fun n r=>cInt .i64 r fun n_1 r=>cInt .i64 r fun n_2 r=>onNil r (Zx (chk (decide (Zz b≤4611686018427387904)) (some (Zd [Zf (Wz (Yf b n_1)),Zy .i64 (Xb (Yf b n_1)),Zy .i64 (Yb (Yf b n_1))],[]))) (kT fun vs=>cStr vs fun b_1 r=>cInt .i64 r fun n_3 r=>cInt .i64 r fun n_4 r=>onNil r (Zx (chk (decide (Zz b≤4611686018427387904)) (some (Zd [Zy .i64 (Yn (Zh b n_3 1 false)),Zy .i64 (Yd (Zh b n_3 1 false)),Zy .i64 (Yw (Zh b n_3 1 false))],[]))) (kT fun vs=>cInt .i64 vs fun n_5 r=>cInt .i64 r fun n_6 r=>cInt .i64 r fun n_7 r=>onNil r (Zx (chk (decide (Zz b≤4611686018427387904)) (some (Zd [Zy .i64 (Yn (Zh b n_6 1 false)),Zy .i64 (Yd (Zh b n_6 1 false)),Zy .i64 (Yw (Zh b n_6 1 false))],[]))) (kT fun vs=>cInt .i64 vs fun n_8 r=>cInt .i64 r fun n_9 r=>cInt .i64 r fun n_10 r=>onNil r (Zx (chk (decide (Zz b≤140737488355328)) (some (Zd [Zb (Wz (Wf b n_9 n_5)),Zy .i64 (Xb (Wf b n_9 n_5)),Zy .i64 (Yb (Wf b n_9 n_5))],[]))) (kT fun vs=>cBs vs fun b_2 r=>cInt .i64 r fun n_11 r=>cInt .i64 r fun n_12 r=>onNil r (Zx (chk (decide (Zz b≤140737488355328)) (some (Zd [Zb (Wz (Wf b n_11 n_8)),Zy .i64 (Xb (Wf b n_11 n_8)),Zy .i64 (Yb (Wf b n_11 n_8))],[]))) (kT fun vs=>cBs vs fun b_3 r=>cInt .i64 r fun n_13 r=>cInt .i64 r fun n_14 r=>onNil r (some (Zd [Xg [Zk (Kerb.Head.little (Kerb.readHead b)),Zk (Kerb.Head.kind (Kerb.readHead b)==4),Zy .i64 n,Zf b_1,Zb b_2,Zb b_3],Zy .i64 n_13],[]))))))))))))):Option (AV×Blocks))) (by kernel_rfl) ?_
  delta kT
  try dsimp only [cStr,cBs,cBool,cU8,cInt,cSl,l63]
  have hb:=of_decide_eq_true hpre
  have hpre2:decide (b.length≤4611686018427387904)=true:=by simp;omega
  simp only [hpre,hpre2,↓A0,A0]
  rfl
 ·cases h
theorem w110:Walked Tryz.prog G 110 4 sp110:=by
 refine ⟨Tryz.f110,Tryz.func110,by decide +kernel,rfl,fun xs bl r h=> ?_⟩
 unfold sp110 at h
 split at h
 ·rename_i b n
  obtain ⟨hpre,h2⟩:=chk_inv h;cases h2
  refine Eq.trans (b:=(Zx (chk (decide (Zz b≤70368744177664)) (some (Ym (b++Yz n (Zu 1) false),[]))) fun (r:AV×Blocks)=>onNilB (Zg r) (Vf (Zm r) fun l=>some (Ym l,[])):Option (AV×Blocks))) (by kernel_rfl) ?_
  simp only [decide_eq_true_eq] at hpre
  simp only [A0]
  rw [chk_of (by simp;omega)]
  rfl
 ·cases h
theorem w111:Walked Tryz.prog G 111 4 sp111:=by
 refine ⟨Tryz.f111,Tryz.func111,by decide +kernel,rfl,fun xs bl r h=> ?_⟩
 unfold sp111 at h
 split at h
 ·rename_i b n little
  obtain ⟨hpre,h2⟩:=chk_inv h;cases h2
  refine Eq.trans (b:=(Zx (chk (decide (Zz b≤70368744177664)) (some (Ym (b++Yz n (Zu 4) little),[]))) fun (r:AV×Blocks)=>onNilB (Zg r) (Vf (Zm r) fun l=>some (Ym l,[])):Option (AV×Blocks))) (by kernel_rfl) ?_
  simp only [decide_eq_true_eq] at hpre
  simp only [A0]
  rw [chk_of (by simp;omega)]
  rfl
 ·cases h
theorem w117:Walked Tryz.prog G 117 4 sp117:=by
 refine ⟨Tryz.f117,Tryz.func117,by decide +kernel,rfl,fun xs bl r h=> ?_⟩
 unfold sp117 at h
 split at h
 ·rename_i b n little
  obtain ⟨hpre,h2⟩:=chk_inv h;cases h2
  refine Eq.trans (b:=(Zx (chk (decide (Zz b≤70368744177664)) (some (Ym (b++Yz n (Zu 2) little),[]))) fun (r:AV×Blocks)=>onNilB (Zg r) (Vf (Zm r) fun l=>some (Ym l,[])):Option (AV×Blocks))) (by kernel_rfl) ?_
  simp only [decide_eq_true_eq] at hpre
  simp only [A0]
  rw [chk_of (by simp;omega)]
  rfl
 ·cases h
theorem w150:Walked Tryz.prog G 150 4 sp150:=by
 refine ⟨Tryz.f150,Tryz.func150,by decide +kernel,rfl,fun xs bl r h=> ?_⟩
 unfold sp150 at h
 split at h
 ·rename_i li x y z ad k lf iss sv ins
  obtain ⟨hpre,h2⟩:=chk_inv h;cases h2
  refine Eq.trans (b:=(Zx (chk (decide (Zz x≤9223372036854775807)&&decide (Zz y≤9223372036854775807)&&decide (Zz z≤9223372036854775807)) (some (Zk (Yj (Yv x y z)),[]))) fun (r:AV×Blocks)=>onNilB (Zg r) (Vg (Zm r) fun b=>sel (!b) (some (Zy .i64 103,[])) (Zx (chk (decide (Zz sv≤9223372036854775807)) (some (Zk (Kerb.validName sv),[]))) fun (r:AV×Blocks)=>onNilB (Zg r) (Vg (Zm r) fun b=>sel (!b) (some (Zy .i64 103,[])) (Zx (chk (decide (Zz ins≤9223372036854775807)) (some (Zk (Kerb.validInst ins),[]))) fun (r:AV×Blocks)=>onNilB (Zg r) (Vg (Zm r) fun b=>sel (!b) (some (Zy .i64 103,[])) (Zx (chk (decide (0≤k)&&decide (k<18446744073709551616)) (some (Zy .i64 (Kerb.classOf k),[]))) fun (r:AV×Blocks)=>onNilB (Zg r) (Yy .i64 (Zm r) fun n=>sel (!n==2) (some (Zy .i64 10,[])) (sel (!Zn ad 4294967295) (some (Zy .i64 104,[])) (sel (!Zn lf 255) (some (Zy .i64 104,[])) (sel (!Zn iss 4294967295) (some (Zy .i64 104,[])) (some (Zy .i64 0,[])))))))))))):Option (AV×Blocks))) (by kernel_rfl) ?_
  simp only [Yx,decide_eq_true_eq] at hpre
  obtain ⟨⟨⟨⟨⟨⟨h1,h2⟩,h3⟩,h4⟩,h5⟩,h6⟩,h7⟩:=hpre
  simp only [h1,h2,h3,h4,h5,h6,h7,decide_true,Xd,↓A0,A0]
  unfold Kerb.Ticket.err
  dsimp only
  cases Yj ⟨x,y,z⟩
  ·rfl
  cases Kerb.validName sv
  ·rfl
  cases Kerb.validInst ins
  ·rfl
  simp only [Yg,Xd,sel_false]
  by_cases hc:Kerb.classOf k=2
  case neg=>rw [sel_pos (by simpa using hc),if_neg (by simp),if_pos hc]
  rw [sel_neg (by simp [hc]),if_neg (by simp),if_neg (by simp [hc])]
  cases Zn ad 4294967295
  ·rfl
  cases Zn lf 255
  ·rfl
  cases Zn iss 4294967295
  ·rfl
  rfl
 ·cases h
theorem w152:Walked Tryz.prog G 152 4 sp152:=by
 refine ⟨Tryz.f152,Tryz.func152,by decide +kernel,rfl,fun xs bl r h=> ?_⟩
 unfold sp152 at h
 split at h
 ·rename_i x y z ck tc tm
  obtain ⟨hpre,h2⟩:=chk_inv h;cases h2
  refine Eq.trans (b:=(Zx (chk (decide (Zz x≤9223372036854775807)&&decide (Zz y≤9223372036854775807)&&decide (Zz z≤9223372036854775807)) (some (Zk (Yj (Yv x y z)),[]))) fun (r:AV×Blocks)=>onNilB (Zg r) (Vg (Zm r) fun b=>sel (!b) (some (Zy .i64 103,[])) (sel (!Zn ck 4294967295) (some (Zy .i64 104,[])) (sel (!Zn tc 199) (some (Zy .i64 104,[])) (sel (!Zn tm 4294967295) (some (Zy .i64 104,[])) (some (Zy .i64 0,[])))))):Option (AV×Blocks))) (by kernel_rfl) ?_
  simp only [A0,Vv,Vd,Vh,hpre]
  unfold Kerb.Auth.check
  simp only
  cases Yj ⟨x,y,z⟩
  ·rfl
  cases Zn ck 4294967295
  ·rfl
  cases Zn tc 199
  ·rfl
  cases Zn tm 4294967295<;>rfl
 ·cases h
theorem w165:Walked Tryz.prog G 165 4 sp165:=by
 refine ⟨Tryz.f165,Tryz.func165,by decide +kernel,rfl,fun xs bl r h=> ?_⟩
 unfold sp165 at h
 split at h
 ·rename_i s bad
  obtain ⟨hpre,h2⟩:=chk_inv h;cases h2
  refine Eq.trans (b:=(Zx (loopM (fun (st:List AV)=>cStr st fun b r=>cStr r fun b_1 r=>cBool r fun b_2 r=>cInt .i64 r fun n r=>cInt .i64 r fun n_1 r=>let t0:Option (List AV ⊕ Ex×List AV):=some (Vj (Ex.ret,[Zf b,Zf b_1,Zk false,Zy .i64 n,Zy .i64 n_1]));let t1:Bool:=decide (0≤n_1)&&decide (n_1<(↑(Zz b):Int));let t2:Int:=(↑(Yk (Xq b (Zu n_1) (0:UInt8))):Int);onNil r (sel (decide (n_1<n)) (chk t1 (sel (decide (t2<(↑(Yk (33:UInt8)):Int))) t0 (chk t1 (sel (decide (t2>(↑(Yk (126:UInt8)):Int))) t0 (chk t1 (sel (decide (Yq (Xq b (Zu n_1) (0:UInt8)) b_1≥0)) t0 (some (Sum.inl [Zf b,Zf b_1,Zk b_2,Zy .i64 n,Zy .i64 (Zw .i64 (n_1+1))])))))))) (some (Vj (Vp 0,[Zf b,Zf b_1,Zk b_2,Zy .i64 n,Zy .i64 n_1]))))) [Zf s,Zf bad,Zk false,Zy .i64 (↑(Zz s):Int),Zy .i64 0]) fun (r:Ex×List AV)=>cStr (Zg r) fun b r_1=>cStr r_1 fun b r_2=>cBool r_2 fun b r_3=>cInt .i64 r_3 fun n r_4=>cInt .i64 r_4 fun n r_5=>onNil r_5 (exK r.1 (some (Zk b,[])) fun (j:Nat)=>sel (Nat.beq j 0) (some (Zk true,[])) none):Option (AV×Blocks))) (by kernel_rfl) ?_
  try dsimp only [cStr,cBs,cBool,cU8,cInt,cSl,l63]
  simp only [decide_eq_true_eq] at hpre
  refine loop_rounds (fun i:Nat=>[Zf s,Zf bad,Zk false,Zy Zv (s.length:Int),Zy Zv (i:Int)]) (fun i=>i≤s.length∧Wk s bad=Wk (s.drop i) bad) (fun i=>s.length-i)
   (fun r=>∃ i:Nat,r.2=[Zf s,Zf bad,Zk false,Zy Zv (s.length:Int),Zy Zv (i:Int)]∧((r.1 = .ret∧Wk s bad=false)∨(r.1 = .exit 0∧Wk s bad=true))) 0 ⟨Nat.zero_le _,rfl⟩ rfl ?_ ?_
  ·rintro i ⟨hi,hp⟩
   simp only [A0]
   by_cases hlt:i<s.length
   ·have hc:(decide ((0:Int)≤(i:Int))&&decide ((i:Int)<(s.length:Int)))=true:=by simp;omega
    have hd:=Kerb.drop_all_cons hlt
    rw [sel_pos (by simp;omega),chk_of hc,Wv]
    have hpr:Wk (s.drop i) bad=(Kerb.okB bad (s.getD i 0)&&Wk (s.drop (i+1)) bad):=by rw [hd];rfl
    generalize s.getD i 0=c at *
    by_cases h1:c.toNat<33
    ·rw [sel_pos (by simp;omega)]
     exact ⟨_,rfl,i,rfl,.inl ⟨rfl,by rw [hp,hpr];simp [Kerb.okB,h1]⟩⟩
    rw [sel_neg (by simp;omega),chk_of hc]
    by_cases h2:126<c.toNat
    ·rw [sel_pos (by simp;omega)]
     exact ⟨_,rfl,i,rfl,.inl ⟨rfl,by rw [hp,hpr];simp [Kerb.okB,h2]⟩⟩
    rw [sel_neg (by simp;omega),chk_of hc]
    have h4:=Kerb.indexOf_nonneg c bad
    by_cases h3:c∈bad
    ·rw [sel_pos (by simpa using h4.2 h3)]
     exact ⟨_,rfl,i,rfl,.inl ⟨rfl,by rw [hp,hpr];simp [Kerb.okB,h3]⟩⟩
    rw [sel_neg (by have:=mt h4.1 h3;simp;omega),wrap_i64 (by omega) (by omega)]
    exact ⟨_,rfl,i+1,rfl,⟨by omega,by rw [hp,hpr];simp [Kerb.okB,h1,h2,h3]⟩,by dsimp only;omega⟩
   ·rw [sel_neg (by simp;omega)]
    exact ⟨_,rfl,i,rfl,.inr ⟨rfl,by rw [hp,List.drop_eq_nil_of_le (by omega)];rfl⟩⟩
  ·rintro ⟨e,l⟩ ⟨i,rfl,⟨rfl,hp⟩ | ⟨rfl,hp⟩⟩
   ·simp only [A0,hp]
   ·simp only [A0,hp]
    rfl
 ·cases h
theorem w177:Walked Tryz.prog G 177 4 sp177:=by
 refine ⟨Tryz.f177,Tryz.func177,by decide +kernel,rfl,fun xs bl r h=> ?_⟩
 unfold sp177 at h
 split at h
 ·rename_i b
  obtain ⟨hpre,h2⟩:=chk_inv h;cases h2
  refine Eq.trans (b:=(sel (!(↑(Zz b):Int)==8) (some (Zd [Zy .u64 0,Zk false],[])) (Zx (loopM (fun (st:List AV)=>cInt .u64 st fun n r=>cBs r fun b r=>cInt .i64 r fun n_1 r=>cInt .i64 r fun n_2 r=>onNil r (sel (decide (n_2<n_1)) (chk (decide (0≤n_2)&&decide (n_2<(↑(Zz b):Int))) (some (Sum.inl [Zy .u64 (Zw .u64 (↑(BitVec.toNat (BitVec.ofInt (Xu .u64) (Zw .u64 (n*2 ^ min (Zu 8) (Xu .u64))) ||| BitVec.ofInt (Xu .u64) (Zw .u64 (↑(Yk (Xq b (Zu n_2) (0:UInt8))):Int)))):Int)),Zb b,Zy .i64 n_1,Zy .i64 (Zw .i64 (n_2+1))]))) (some (Vj (Vp 0,[Zy .u64 n,Zb b,Zy .i64 n_1,Zy .i64 n_2]))))) [Zy .u64 0,Zb b,Zy .i64 (↑(Zz b):Int),Zy .i64 0]) fun (r:Ex×List AV)=>cInt .u64 (Zg r) fun n r_1=>cBs r_1 fun b r_2=>cInt .i64 r_2 fun n_1 r_3=>cInt .i64 r_3 fun n_2 r_4=>onNil r_4 (exK r.1 none fun (j:Nat)=>sel (Nat.beq j 0) (Zx (chk (decide (0≤n)&&decide (n<18446744073709551616)) (some (Zk (Xp n),[]))) (kL fun b=>sel (!b) (some (Zd [Zy .u64 0,Zk false],[])) (some (Zd [Zy .u64 n,Zk true],[])))) none)):Option (AV×Blocks))) (by kernel_rfl) ?_
  delta kL
  try dsimp only [cStr,cBs,cBool,cU8,cInt,cSl,l63]
  have hb:=of_decide_eq_true hpre
  unfold Xm
  by_cases h8:b.length=8
  case neg =>
   rw [sel_pos (by simp;omega),if_neg (by omega)]
  rw [sel_neg (by simp [h8])]
  refine loop_rounds (fun i:Nat=>[Zy IntKind.u64 (Kerb.valB (b.take i)),Zb b,Zy Zv (b.length:Int),Zy Zv (i:Int)]) (fun i=>i≤8) (fun i=>8-i)
   (fun r=>r=(Vp 0,[Zy IntKind.u64 (Kerb.valB b),Zb b,Zy Zv (b.length:Int),Zy Zv 8])) 0 (by omega) rfl ?_ ?_
  ·intro i hi
   simp only [A0]
   by_cases hlt:i<8
   ·have hv:=Kerb.valB_take (l:=b) (i:=i) (by omega)
    have hbd:=Kerb.valB_bd7 (l:=b.take i) (by simp;omega)
    rw [sel_pos (by simp;omega),chk_of (by simp;omega),Wv,Kerb.shl8_oru _ hbd.1 hbd.2,wrap_i64 (by omega) (by omega),← hv]
    exact ⟨_,rfl,i+1,rfl,by omega,by dsimp only;omega⟩
   ·rw [sel_neg (by simp;omega)]
    refine ⟨_,rfl,?_⟩
    show _=_
    rw [List.take_of_length_le (by omega),show i=8 from by omega]
    rfl
  rintro r rfl
  have hbd:=Kerb.valB_bd8 (l:=b) (by omega)
  simp only [A0]
  rw [sel_pos (Ww _),chk_of (by simp;omega)]
  cases hv:Xp (Kerb.valB b)
  ·rw [if_neg (by simp)]
   rfl
  ·rw [if_pos ⟨h8,rfl⟩]
   rfl
 ·cases h
theorem w185:Walked Tryz.prog G 185 4 sp185:=by
 refine ⟨Tryz.f185,Tryz.func185,by decide +kernel,rfl,fun xs bl r h=> ?_⟩
 unfold sp185 at h
 split at h
 ·rename_i b x y z
  obtain ⟨hpre,h2⟩:=chk_inv h;cases h2
  refine Eq.trans (b:=(Zx (chk (decide (Zz b+Zz x≤70368744177664)) (some (Zb (Yp b x),[]))) fun (r:AV×Blocks)=>onNilB (Zg r) (Uz (Zm r) fun b=>Zx (chk (decide (Zz b+Zz y≤70368744177664)) (some (Zb (Yp b y),[]))) fun (r:AV×Blocks)=>onNilB (Zg r) (Uz (Zm r) fun b=>Zx (chk (decide (Zz b+Zz z≤70368744177664)) (some (Zb (Yp b z),[]))) fun (r:AV×Blocks)=>onNilB (Zg r) (Uz (Zm r) fun b=>some (Zb b,[])))):Option (AV×Blocks))) (by kernel_rfl) ?_
  simp only [decide_eq_true_eq] at hpre
  simp only [A0]
  rw [chk_of (by simp;omega),chk_of (by simp [Yp];omega),chk_of (by simp [Yp];omega)]
  rfl
 ·cases h
theorem w10:Walked Tryz.prog G 10 5 sp10:=by
 refine ⟨Tryz.f10,Tryz.func10,by decide +kernel,rfl,fun xs bl r h=> ?_⟩
 unfold sp10 at h
 split at h
 ·rename_i cu co cv cr lt tn mt cad cfr cis ctm ctk clf ccs cky ckv css ctt cau sz sk
  cases h
  refine Eq.trans (b:=(some (Xg [Zf (Wn (Wj (Wq cu co cv cr lt tn mt cad cfr cis ctm ctk clf ccs cky ckv css ctt cau))),Zf (Wm (Wj (Wq cu co cv cr lt tn mt cad cfr cis ctm ctk clf ccs cky ckv css ctt cau))),Zf (Wp (Wj (Wq cu co cv cr lt tn mt cad cfr cis ctm ctk clf ccs cky ckv css ctt cau))),Xh 5 [Xg [Zf (Wn (Wj (Wq cu co cv cr lt tn mt cad cfr cis ctm ctk clf ccs cky ckv css ctt cau))),Zf (Wm (Wj (Wq cu co cv cr lt tn mt cad cfr cis ctm ctk clf ccs cky ckv css ctt cau))),Zf (Wp (Wj (Wq cu co cv cr lt tn mt cad cfr cis ctm ctk clf ccs cky ckv css ctt cau))),Zy .i64 1,Zy .u64 (Kerb.long 1)],Xg [Zf (Wn (Wj (Wq cu co cv cr lt tn mt cad cfr cis ctm ctk clf ccs cky ckv css ctt cau))),Zf (Wm (Wj (Wq cu co cv cr lt tn mt cad cfr cis ctm ctk clf ccs cky ckv css ctt cau))),Zf (Wp (Wj (Wq cu co cv cr lt tn mt cad cfr cis ctm ctk clf ccs cky ckv css ctt cau))),Zy .i64 2,Zy .u64 (Kerb.long 2)],Xg [Zf (Wn (Kerb.user 0)),Zf (Wm (Kerb.user 0)),Zf (Wp (Kerb.user 0)),Zy .i64 1,Zy .u64 (Kerb.long 9)]],Zy .i64 (Zw .i64 (1+Vx (Zw .i64 (↑(Yk sz):Int)) 40)),Zy .i64 0,Xh 5 [],Zy .i64 (Zw .i64 (Zw .i64 (↑(Yk sk):Int)*4))],[]):Option (AV×Blocks))) (by kernel_rfl) ?_
  have b1:=Kerb.u8i_bd sz
  have b2:=Kerb.u8i_bd sk
  have f1:Zw .i64 (1+Vx (Kerb.u8i sz) 40)=1+Kerb.u8i sz % 40:=by rw [Int.tmod_eq_emod_of_nonneg b1.1];exact wrap_i64 (by omega) (by omega)
  have f2:Zw .i64 (Kerb.u8i sk*4)=Kerb.u8i sk*4:=wrap_i64 (by omega) (by omega)
  simp only [Kerb.wrap_u8i,f1,f2]
  rfl
 ·cases h
theorem w24:Walked Tryz.prog G 24 5 sp24:=by
 refine ⟨Tryz.f24,Tryz.func24,by decide +kernel,rfl,fun xs bl r h=> ?_⟩
 unfold sp24 at h
 split at h
 ·rename_i x y z k ad ck tm tc iss lf tk au li
  obtain ⟨hpre,h2⟩:=chk_inv h;cases h2
  refine Eq.trans (b:=(sel (!Xw (Yu (Wy (Zw .i64 (Vx (Zw .u64 (Zw .u64 ck+1)) 4294967296)) tc tm) li)==0) (some (Zd [Zb [],Zy .i64 (Xw (Yu (Wy (Zw .i64 (Vx (Zw .u64 (Zw .u64 ck+1)) 4294967296)) tc tm) li))],[])) (Zx (chk (decide (0≤k)&&decide (k<18446744073709551616)) (some (Zd [Zb (Xx (Xn 4 k (Xx (Yu (Wy (Zw .i64 (Vx (Zw .u64 (Zw .u64 ck+1)) 4294967296)) tc tm) li)))),Zy .i64 (Xw (Xn 4 k (Xx (Yu (Wy (Zw .i64 (Vx (Zw .u64 (Zw .u64 ck+1)) 4294967296)) tc tm) li))))],[]))) fun (r:AV×Blocks)=>onNilB (Zg r) (Wh (Zm r) fun vs=>onCons vs fun x r=>Uz x fun b=>onCons r fun x r=>Yy .i64 x fun n=>onNil r (sel (!n==0) (some (Zd [Zb [],Zy .i64 n],[])) (some (Zd [Zb (Xx (Ux b li)),Zy .i64 (Xw (Ux b li))],[]))))):Option (AV×Blocks))) (by kernel_rfl) ?_
  simp only [Yx,decide_eq_true_eq] at hpre
  have hs:Zw .i64 (Vx (Zw .u64 (Zw .u64 ck+1)) 4294967296)=Uy ck:=Kerb.nextSum_ref ck
  rw [hs]
  unfold Kerb.serviceAnswer
  simp only [hpre,decide_true,Xd,↓A0,A0]
  by_cases h1:(Yu ⟨Uy ck,tc,tm⟩ li).err=0
  case neg=>rw [sel_pos (by simpa using h1),if_pos h1]
  rw [sel_neg (by simpa using h1),if_neg (by simpa using h1)]
  by_cases h2:(Xn 4 k (Yu ⟨Uy ck,tc,tm⟩ li).val).err=0
  case neg=>rw [sel_pos (by simpa using h2),if_pos h2]
  rw [sel_neg (by simpa using h2),if_neg (by simpa using h2)]
 ·cases h
theorem w28:Walked Tryz.prog G 28 5 sp28:=by
 refine ⟨Tryz.f28,Tryz.func28,by decide +kernel,rfl,fun xs bl r h=> ?_⟩
 unfold sp28 at h
 split at h
 ·rename_i b kd k
  obtain ⟨hpre,h2⟩:=chk_inv h;cases h2
  refine Eq.trans (b:=(Zx (chk (decide (Zz b≤140737488355328)) (some (Zd [Xg [Zy .i64 (Kerb.Box.kind (Vz (Xv b))),Zy .u64 (Kerb.Box.key (Vz (Xv b))),Zb (Kerb.Box.body (Vz (Xv b)))],Zy .i64 (Kerb.GotBox.n (Xv b)),Zy .i64 (Kerb.GotBox.err (Xv b))],[]))) fun (r:AV×Blocks)=>onNilB (Zg r) (Wh (Zm r) fun vs=>onCons vs fun x r=>Uw x fun cs=>onCons cs fun x r_1=>Yy .i64 x fun n=>onCons r_1 fun x r_2=>Yy .u64 x fun n_1=>onCons r_2 fun x r_3=>Uz x fun b_1=>onNil r_3 (onCons r fun x r=>Yy .i64 x fun n_2=>onCons r fun x r=>Yy .i64 x fun n_3=>onNil r (sel (!n_3==0) (some (Zd [Zb [],Zk false],[])) (sel (!n_2==(↑(Zz b):Int)) (some (Zd [Zb [],Zk false],[])) (sel (!n==kd) (some (Zd [Zb [],Zk false],[])) (sel (!n_1==k) (some (Zd [Zb [],Zk false],[])) (some (Zd [Zb b_1,Zk true],[])))))))):Option (AV×Blocks))) (by kernel_rfl) ?_
  simp only [↓A0,hpre]
  unfold Kerb.openBox
  generalize Xv b=r
  by_cases h1:r.err=0
  case neg=>rw [sel_pos (by simpa using h1),if_pos (.inl h1)]
  rw [sel_neg (by simpa using h1)]
  by_cases h2:r.n=b.length
  case neg=>rw [sel_pos (by simpa using h2),if_pos (.inr (.inl h2))]
  rw [sel_neg (by simpa using h2)]
  by_cases h3:r.box.kind=kd
  case neg=>rw [sel_pos (by simpa using h3),if_pos (.inr (.inr (.inl h3)))]
  rw [sel_neg (by simpa using h3)]
  by_cases h4:r.box.key=k
  case neg=>rw [sel_pos (by simpa using h4),if_pos (.inr (.inr (.inr h4)))]
  rw [sel_neg (by simpa using h4),if_neg (by simp [h1,h2,h3,h4])]
 ·cases h
theorem w35:Walked Tryz.prog G 35 5 sp35:=by
 refine ⟨Tryz.f35,Tryz.func35,by decide +kernel,rfl,fun xs bl r h=> ?_⟩
 unfold sp35 at h
 split at h
 ·rename_i m1 m2 m3 kls sz fl mls sk
  obtain ⟨hpre,h2⟩:=chk_inv h;cases h2
  refine Eq.trans (b:=(Zx (chk (decide (Zz m1≤9223372036854775807)&&decide (Zz m2≤9223372036854775807)&&decide (Zz m3≤9223372036854775807)) (some (Zk (Yj (Yv m1 m2 m3)),[]))) fun (r:AV×Blocks)=>onNilB (Zg r) (Vg (Zm r) fun b=>sel (!b) (some (Zy .i64 103,[])) (Zx (chk (List.all kls Kerb.isSKey&&decide (Zz kls≤1000000)) (some (Zy .i64 (Kerb.skErr (List.map Kerb.toSKey kls)),[]))) fun (r:AV×Blocks)=>onNilB (Zg r) (Yy .i64 (Zm r) fun n=>sel (n==0) (Zx (chk (List.all mls Kerb.isMark&&decide (Zz mls≤1000000)) (some (Zy .i64 (Vn (Kerb.RCache.mk sz fl (List.map Kerb.toMark mls))),[]))) fun (r:AV×Blocks)=>onNilB (Zg r) (Yy .i64 (Zm r) fun n=>sel (!n==0) (some (Zy .i64 n,[])) (sel (decide (sk<0)) (some (Zy .i64 104,[])) (sel (decide (sk>4294967295)) (some (Zy .i64 104,[])) (some (Zy .i64 0,[])))))) (sel (!n==0) (some (Zy .i64 n,[])) (sel (decide (sk<0)) (some (Zy .i64 104,[])) (sel (decide (sk>4294967295)) (some (Zy .i64 104,[])) (some (Zy .i64 0,[])))))))):Option (AV×Blocks))) (by kernel_rfl) ?_
  simp only [Yx,decide_eq_true_eq] at hpre
  obtain ⟨⟨⟨⟨⟨⟨l1,l2⟩,l3⟩,ka⟩,kl⟩,ma⟩,ml⟩:=hpre
  obtain ⟨ks,rfl,hks⟩:=Kerb.skeys_of ka
  obtain ⟨ms,rfl,hms⟩:=Kerb.marks_of ma
  have hkT:=Kerb.skeys_all hks
  have hmT:=Kerb.marks_all hms
  simp only [Xj] at kl ml
  simp only [Kerb.map_toSKey,Kerb.map_toMark,Xj,hkT,hmT,kl,ml,l1,l2,l3,decide_true,Xd,↓A0,A0]
  unfold Kerb.Server.err
  dsimp only
  cases g1:Yj ⟨m1,m2,m3⟩
  ·rfl
  rw [Yg,sel_false,if_neg (by simp)]
  by_cases g2:Kerb.skErr ks=0
  case neg=>rw [sel_neg (by simpa using g2),sel_pos (by simpa using g2),if_pos g2]
  rw [sel_pos (by simpa using g2),if_neg (by simpa using g2)]
  by_cases g3:Vn ⟨sz,fl,ms⟩=0
  case neg=>rw [sel_pos (by simpa using g3),if_pos g3]
  rw [sel_neg (by simpa using g3),if_neg (by simpa using g3)]
  by_cases g4:sk<0
  ·rw [sel_pos (by simpa using g4),if_pos (by simp [Zn];omega)]
  rw [sel_neg (by simpa using g4)]
  by_cases g5:sk>4294967295
  ·rw [sel_pos (by simpa using g5),if_pos (by simp [Zn];omega)]
  rw [sel_neg (by simpa using g5),if_neg (by simp [Zn];omega)]
 ·cases h
theorem w54:Walked Tryz.prog G 54 5 sp54:=by
 refine ⟨Tryz.f54,Tryz.func54,by decide +kernel,rfl,fun xs bl r h=> ?_⟩
 unfold sp54 at h
 split at h
 ·rename_i sz fl mls a1 a2 a3 at_ atk now skw
  obtain ⟨hpre,h2⟩:=chk_inv h;cases h2
  refine Eq.trans (b:=(let t0:AV:=Xg [Zy .i64 0,Zy .i64 0,Xh 5 []];Zx (chk (List.all mls Kerb.isMark&&decide (Zz mls≤1000000)) (some (Zy .i64 (Vn (Kerb.RCache.mk sz fl (List.map Kerb.toMark mls))),[]))) (kI .i64 fun n=>sel (!n==0) (some (Zd [t0,Zy .i64 108],[])) (Zx (chk (l63 a1&&l63 a2&&l63 a3) (some (Zk (Yj (Yv a1 a2 a3)),[]))) (kL fun b=>sel (!b) (some (Zd [t0,Zy .i64 103],[])) (sel (decide (atk<0)) (some (Zd [t0,Zy .i64 104],[])) (sel (decide (atk>199)) (some (Zd [t0,Zy .i64 104],[])) (sel (!Kerb.near at_ now skw) (some (Zd [t0,Zy .i64 37],[])) (sel (decide (at_<fl)) (some (Zd [t0,Zy .i64 37],[])) (Zx (chk (List.all mls Kerb.isMark&&decide (Zz mls≤1000000)) (some (Zk (Kerb.hasMark (List.map Kerb.toMark mls) (Kerb.Mark.mk (Yv a1 a2 a3) at_ atk)),[]))) (kL fun b=>sel b (some (Zd [t0,Zy .i64 34],[])) (Zx (loopM (fun (st:List AV)=>cInt .i64 st fun n r=>cInt .i64 r fun n_1 r=>cSl 5 r fun b r=>cStr r fun b_1 r=>cStr r fun b_2 r=>cStr r fun b_3 r=>cInt .i64 r fun n_2 r=>cInt .i64 r fun n_3 r=>cInt .i64 r fun n_4 r=>cInt .i64 r fun n_5 r=>cSl 5 r fun b_4 r=>cInt .i64 r fun n_6 r=>cInt .i64 r fun n_7 r=>onCons r fun x r=>AV.onOwnL x fun y=>cInt .i64 r fun n_8 r=>onNil r (sel (decide (n_8<(↑(Zz b):Int))) (chk (decide (0≤n_8)&&decide (n_8<(↑(Zz b):Int))&&true) (Uw (Xq b (Zu n_8) AV.undef) fun cs=>cStr cs fun b_5 r=>cStr r fun b_6 r=>cStr r fun b_7 r=>cInt .i64 r fun n_9 r=>cInt .i64 r fun n_10 r=>onNil r (sel (decide (n_9≥n_7)) (chk (decide (0≤n_8)&&decide (n_8<(↑(Zz b):Int))&&true) (Uw (Xq b (Zu n_8) AV.undef) fun cs=>cStr cs fun b_8 r=>cStr r fun b_9 r=>cStr r fun b_10 r=>cInt .i64 r fun n_11 r=>cInt .i64 r fun n_12 r=>let t1:List AV:=[Xg [Zf b_8,Zf b_9,Zf b_10,Zy .i64 n_11,Zy .i64 n_12]];onNil r (chk (room (Zz y+Zz t1) (nat_lit 64)) (some (Sum.inl [Zy .i64 n,Zy .i64 n_1,Xh 5 b,Zf b_1,Zf b_2,Zf b_3,Zy .i64 n_2,Zy .i64 n_3,Zy .i64 n_4,Zy .i64 n_5,Xh 5 b_4,Zy .i64 n_6,Zy .i64 n_7,AV.ownL (y++t1),Zy .i64 (Zw .i64 (n_8+1))]))))) (some (Sum.inl [Zy .i64 n,Zy .i64 n_1,Xh 5 b,Zf b_1,Zf b_2,Zf b_3,Zy .i64 n_2,Zy .i64 n_3,Zy .i64 n_4,Zy .i64 n_5,Xh 5 b_4,Zy .i64 n_6,Zy .i64 n_7,AV.ownL y,Zy .i64 (Zw .i64 (n_8+1))]))))) (some (Vj (Vp 0,[Zy .i64 n,Zy .i64 n_1,Xh 5 b,Zf b_1,Zf b_2,Zf b_3,Zy .i64 n_2,Zy .i64 n_3,Zy .i64 n_4,Zy .i64 n_5,Xh 5 b_4,Zy .i64 n_6,Zy .i64 n_7,AV.ownL y,Zy .i64 n_8]))))) [Zy .i64 sz,Zy .i64 fl,Xh 5 mls,Zf a1,Zf a2,Zf a3,Zy .i64 at_,Zy .i64 atk,Zy .i64 0,Zy .i64 0,Xh 5 [],Zy .i64 sz,Zy .i64 (Kerb.imax fl (Zw .i64 (now-skw))),AV.ownL [],Zy .i64 0]) fun (r:Ex×List AV)=>cInt .i64 (Zg r) fun n r_1=>cInt .i64 r_1 fun n_1 r_2=>cSl 5 r_2 fun b r_3=>cStr r_3 fun b r_4=>cStr r_4 fun b_1 r_5=>cStr r_5 fun b_2 r_6=>cInt .i64 r_6 fun n_2 r_7=>cInt .i64 r_7 fun n_3 r_8=>let t2:List AV:=[Xg [Zf b,Zf b_1,Zf b_2,Zy .i64 n_2,Zy .i64 n_3]];cInt .i64 r_8 fun n_4 r_9=>cInt .i64 r_9 fun n_5 r_10=>cSl 5 r_10 fun b r_11=>cInt .i64 r_11 fun n_6 r_12=>cInt .i64 r_12 fun n_7 r_13=>onCons r_13 fun x r_14=>AV.onOwnL x fun y=>cInt .i64 r_14 fun n_8 r_15=>onNil r_15 (exK r.1 none fun (j:Nat)=>sel (Nat.beq j 0) (sel ((↑(Zz y):Int)==n) (some (Zd [t0,Zy .i64 82],[])) (chk (room (Zz y+Zz t2) (nat_lit 64)) (some (Zd [Xg [Zy .i64 n_6,Zy .i64 n_7,Xh 5 (y++t2)],Zy .i64 0],[])))) none))))))))))):Option (AV×Blocks))) (by kernel_rfl) ?_
  delta kL kI
  try dsimp only [cStr,cBs,cBool,cU8,cInt,cSl,l63]
  simp only [Yx,decide_eq_true_eq] at hpre
  obtain ⟨⟨⟨⟨hall,hlen⟩,l1⟩,l2⟩,l3⟩:=hpre
  obtain ⟨cs,rfl,hok⟩:=Kerb.marks_of hall
  have hma:=Kerb.marks_all hok
  simp only [Xj] at hlen
  have hlT:decide (cs.length≤1000000)=true:=decide_eq_true hlen
  simp only [Kerb.map_toMark,Xj,hma,hlT,l1,l2,l3,decide_true,Xd,↓A0,A0]
  obtain ⟨R,hR⟩:∃ R,Kerb.RCache.mk sz fl cs=R:=⟨_,rfl⟩
  unfold Kerb.addMark
  by_cases h1:(Kerb.RCache.mk sz fl cs).err=0
  case neg=>rw [sel_pos (by simpa using h1),if_pos h1];rfl
  rw [sel_neg (by simpa using h1),if_neg (by simpa using h1)]
  cases h2:Yj ⟨a1,a2,a3⟩
  ·rfl
  rw [Yg,sel_false,if_neg (by simp)]
  by_cases h3:atk<0
  ·rw [sel_pos (by simpa using h3),if_pos (by simp [Zn];omega)];rfl
  rw [sel_neg (by simpa using h3)]
  by_cases h3b:atk>199
  ·rw [sel_pos (by simpa using h3b),if_pos (by simp [Zn];omega)];rfl
  rw [sel_neg (by simpa using h3b),if_neg (by simp [Zn];omega)]
  cases h4:Kerb.near at_ now skw
  ·rw [if_pos (.inl rfl)];rfl
  rw [Yg,sel_false]
  by_cases h5:at_<fl
  ·rw [sel_pos (by simpa using h5),if_pos (.inr h5)];rfl
  rw [sel_neg (by simpa using h5),if_neg (by simp;omega)]
  cases h6:Kerb.hasMark cs ⟨⟨a1,a2,a3⟩,at_,atk⟩
  case true=>rfl
  rw [sel_false,if_neg (by simp)]
  have hn:(0≤now∧now≤4294967295)∧(0≤skw∧skw≤4294967295):=by
   simp only [Kerb.near,Yx,Kerb.within_iff] at h4
   omega
  rw [wrap_i64 (n:=now-skw) (by omega) (by omega)]
  obtain ⟨FL,hFL⟩:∃ FL,Kerb.imax fl (now-skw)=FL:=⟨_,rfl⟩
  have hfr:Kerb.freshMarks ⟨sz,fl,cs⟩ now skw=cs.filter (fun x=>decide (FL≤x.time)):=by rw [← hFL];rfl
  rw [hfr,hFL]
  have r64:∀ {m:Nat},m≤1000001→Go.Abs.room m 64=true:=fun h=>by simp [Go.Abs.room];omega
  have hfl:∀ i,((cs.take i).filter (fun x=>decide (FL≤x.time))).length≤1000000:=fun i=>by
   refine Xf (List.length_filter_le _ _) ?_
   rw [List.length_take];omega
  refine loop_rounds (fun i:Nat=>[Zy Zv sz,Zy Zv fl,Xh 5 (cs.map Wu),Zf a1,Zf a2,Zf a3,Zy Zv at_,Zy Zv atk,Zy Zv 0,Zy Zv 0,Xh 5 [],Zy Zv sz,Zy Zv FL,AV.ownL (((cs.take i).filter (fun x=>decide (FL≤x.time))).map Wu),Zy Zv (i:Int)]) (fun i=>i≤cs.length) (fun i=>cs.length-i)
   (fun r=>∃ i:Nat,r=(Vp 0,[Zy Zv sz,Zy Zv fl,Xh 5 (cs.map Wu),Zf a1,Zf a2,Zf a3,Zy Zv at_,Zy Zv atk,Zy Zv 0,Zy Zv 0,Xh 5 [],Zy Zv sz,Zy Zv FL,AV.ownL (((cs.take i).filter (fun x=>decide (FL≤x.time))).map Wu),Zy Zv (i:Int)])∧i=cs.length) 0 (Nat.zero_le _) rfl ?_ ?_
  ·intro i hi
   simp only [↓A0,A0,Xj,List.length_cons,List.length_nil]
   by_cases hlt:i<cs.length
   ·have hk1:(decide ((0:Int)≤(i:Int))&&decide ((i:Int)<(cs.length:Int))&&true)=true:=by simp;omega
    have hg:(cs.map Wu).getD i AV.undef=(cs.getD i Kerb.noMark).av:=Kerb.getD_row hlt
    obtain ⟨c,hc⟩:∃ c,cs.getD i Kerb.noMark=c:=⟨_,rfl⟩
    have hs:(cs.take (i+1)).filter (fun x=>decide (FL≤x.time))=(cs.take i).filter (fun x=>decide (FL≤x.time))++(if FL≤c.time then [c] else []):=by
     rw [Kerb.take_row (d:=Kerb.noMark) hlt,hc,List.filter_append]
     congr 1
     by_cases q:FL≤c.time<;>simp [q]
    rw [hc] at hg
    rw [sel_pos (by simp;omega)]
    simp only [hk1,Wv,hg,Wu,↓A0,A0]
    rw [wrap_i64 (by omega) (by omega)]
    by_cases hq:FL≤c.time
    ·rw [if_pos hq] at hs
     rw [sel_pos (by simpa using hq),chk_of (r64 (by have:=hfl i;omega))]
     refine ⟨_,rfl,i+1,?_,by omega,by dsimp only;omega⟩
     dsimp only
     rw [hs,List.map_append]
     rfl
    ·rw [if_neg hq,List.append_nil] at hs
     rw [sel_neg (by simpa using hq)]
     exact ⟨_,rfl,i+1,by dsimp only;rw [hs];rfl,by omega,by dsimp only;omega⟩
   ·rw [sel_neg (by simp;omega)]
    exact ⟨_,rfl,i,rfl,by omega⟩
  ·rintro _ ⟨i,rfl,rfl⟩
   simp only [↓A0,A0,Xj,List.length_cons,List.length_nil]
   rw [sel_pos (Ww _),List.take_length]
   have hF:=hfl cs.length
   rw [List.take_length] at hF
   have hle:(cs.filter (fun x=>decide (FL≤x.time))).length≤cs.length:=List.length_filter_le _ _
   have hsz:(cs.length:Int)≤sz:=by
    unfold Vn at h1
    dsimp only at h1
    split at h1
    ·cases h1
    split at h1
    ·cases h1
    ·omega
   by_cases h7:sz≤((cs.filter (fun x=>decide (FL≤x.time))).length:Int)
   ·rw [sel_pos (by simp;omega),if_pos h7];rfl
   ·rw [sel_neg (by simp;omega),if_neg h7,chk_of (r64 (by omega)),List.map_append]
    rfl
 ·cases h
theorem w55:Walked Tryz.prog G 55 5 sp55:=by
 refine ⟨Tryz.f55,Tryz.func55,by decide +kernel,rfl,fun xs bl r h=> ?_⟩
 unfold sp55 at h
 split at h
 ·rename_i ck tc tm li
  cases h
  refine Eq.trans (b:=(let t0:Option (AV×Blocks):=some (Zd [Zb [],Zy .i64 104],[]);let t1:Nat:=Zz ([]++Yz 0 1 false++Yz ck 4 li);let t2:Nat:=Zz ([]++Yz 1 1 false++Yz ck 4 li);sel (!Zn ck 4294967295) t0 (sel (!Zn tc 199) t0 (sel (!Zn tm 4294967295) t0 (sel li (Zx (chk (decide (t2≤70368744177664)) (some (Ym ([]++Yz 1 1 false++Yz ck 4 li++Yz tc 1 false),[]))) (kO fun l=>Zx (chk (decide (Zz l≤70368744177664)) (some (Ym (l++Yz tm 4 li),[]))) (kO fun l=>Zx (chk (decide (Zz l≤70368744177664)) (some (Zb (Kerb.pad l),[]))) (kB fun b=>some (Zd [Zb b,Zy .i64 0],[]))))) (Zx (chk (decide (t1≤70368744177664)) (some (Ym ([]++Yz 0 1 false++Yz ck 4 li++Yz tc 1 false),[]))) (kO fun l=>Zx (chk (decide (Zz l≤70368744177664)) (some (Ym (l++Yz tm 4 li),[]))) (kO fun l=>Zx (chk (decide (Zz l≤70368744177664)) (some (Zb (Kerb.pad l),[]))) (kB fun b=>some (Zd [Zb b,Zy .i64 0],[])))))))):Option (AV×Blocks))) (by kernel_rfl) ?_
  delta kB kO
  try dsimp only [cStr,cBs,cBool,cU8,cInt,cSl,l63]
  unfold Yu
  cases h1:Zn ck 4294967295
  ·rfl
  cases h2:Zn tc 199
  ·rfl
  cases h3:Zn tm 4294967295
  ·rfl
  rw [if_neg (by simp)]
  simp only [↓A0,Yg]
  cases li
  ·simp only [↓A0]
   rw [chk_of (by simp [Zq]),chk_of (by simp [Zq]),chk_of (by simp [Zq])]
   rfl
  ·simp only [↓A0]
   rw [chk_of (by simp [Zq]),chk_of (by simp [Zq]),chk_of (by simp [Zq])]
   rfl
 ·cases h
theorem w57:Walked Tryz.prog G 57 5 sp57:=by
 refine ⟨Tryz.f57,Tryz.func57,by decide +kernel,rfl,fun xs bl r h=> ?_⟩
 unfold sp57 at h
 split at h
 ·rename_i s li
  cases h
  refine Eq.trans (b:=(sel (decide ((↑(Zz s):Int)>1012)) (some (Zd [Zb [],Zy .i64 105],[])) (Zx (chk (decide (Zz (Kerb.header 8 li)≤70368744177664)) (some (Ym (Kerb.header 8 li++Yz (↑(Zz s):Int) 2 li),[]))) fun (r:AV×Blocks)=>onNilB (Zg r) (Vf (Zm r) fun l=>Zx (chk (decide (Zz (Xk l (Xk s []))≤140737488355328)&&decide (Zz [Zb l,Zb s]≤1000)) (some (Ym (Xk l (Xk s [])),[]))) fun (r:AV×Blocks)=>onNilB (Zg r) (Vf (Zm r) fun l=>some (Zd [Zb l,Zy .i64 0],[])))):Option (AV×Blocks))) (by kernel_rfl) ?_
  unfold Ux
  by_cases h:1012<s.length
  ·rw [sel_pos (by simp;omega),if_pos h]
  rw [sel_neg (by simp;omega),if_neg h]
  have hl:(Kerb.header 8 li).length=2:=by cases li<;>rfl
  simp only [↓A0]
  rw [chk_of (by simp [hl]),chk_of (by simp [Zq,hl];omega)]
  show some (Zd [Zb ((Kerb.header 8 li++Yz (↑s.length:Int) 2 li)++(s++[])),Zy Zv 0],([]:Blocks))=_
  rw [List.append_nil]
 ·cases h
theorem w94:Walked Tryz.prog G 94 5 sp94:=by
 refine ⟨Tryz.f94,Tryz.func94,by decide +kernel,rfl,fun xs bl r h=> ?_⟩
 unfold sp94 at h
 split at h
 ·rename_i li x y z ad k lf iss sv ins
  obtain ⟨hpre,h2⟩:=chk_inv h;cases h2
  refine Eq.trans (b:=(let t0:Nat:=Zz ([]++Yz 0 1 false)+Zz x+Zz y+Zz z;let t1:Nat:=Zz ([]++Yz 1 1 false)+Zz x+Zz y+Zz z;let t2:Option (AV×Blocks):=chk (decide (0≤k)&&decide (k<18446744073709551616)) (some (Zb (Kerb.keyBytes k),[]));Zx (chk (l63 x&&l63 y&&l63 z&&l63 sv&&l63 ins&&decide (0≤k)&&decide (k<18446744073709551616)) (some (Zy .i64 (Kerb.Ticket.err (Vm li (Yv x y z) ad k lf iss sv ins)),[]))) (kI .i64 fun n=>sel (!n==0) (some (Zd [Zb [],Zy .i64 n],[])) (sel li (Zx (chk (decide (t1≤70368744170000)) (some (Zb (Kerb.putPrin ([]++Yz 1 1 false) (Yv x y z)),[]))) (kB fun b=>Zx (chk (decide (Zz b≤70368744177664)) (some (Ym (b++Yz ad 4 li),[]))) (kO fun l=>Zx t2 (kB fun b=>chk (room (Zz l+Zz b) 1) (Zx (chk (decide (Zz (l++b)≤70368744177664)) (some (Ym (l++b++Yz lf 1 false),[]))) (kO fun l=>Zx (chk (decide (Zz l≤70368744177664)) (some (Ym (l++Yz iss 4 li),[]))) (kO fun l=>Zx (chk (decide (Zz l+Zz sv≤70368744177664)) (some (Zb (Yp l sv),[]))) (kB fun b=>Zx (chk (decide (Zz b+Zz ins≤70368744177664)) (some (Zb (Yp b ins),[]))) (kB fun b=>Zx (chk (decide (Zz b≤70368744177664)) (some (Ym (Kerb.pad b),[]))) (kO fun l=>some (Zd [Zb l,Zy .i64 0],[]))))))))))) (Zx (chk (decide (t0≤70368744170000)) (some (Zb (Kerb.putPrin ([]++Yz 0 1 false) (Yv x y z)),[]))) (kB fun b=>Zx (chk (decide (Zz b≤70368744177664)) (some (Ym (b++Yz ad 4 li),[]))) (kO fun l=>Zx t2 (kB fun b=>chk (room (Zz l+Zz b) 1) (Zx (chk (decide (Zz (l++b)≤70368744177664)) (some (Ym (l++b++Yz lf 1 false),[]))) (kO fun l=>Zx (chk (decide (Zz l≤70368744177664)) (some (Ym (l++Yz iss 4 li),[]))) (kO fun l=>Zx (chk (decide (Zz l+Zz sv≤70368744177664)) (some (Zb (Yp l sv),[]))) (kB fun b=>Zx (chk (decide (Zz b+Zz ins≤70368744177664)) (some (Zb (Yp b ins),[]))) (kB fun b=>Zx (chk (decide (Zz b≤70368744177664)) (some (Ym (Kerb.pad b),[]))) (kO fun l=>some (Zd [Zb l,Zy .i64 0],[]))))))))))))):Option (AV×Blocks))) (by kernel_rfl) ?_
  delta kB kO kI
  try dsimp only [cStr,cBs,cBool,cU8,cInt,cSl,l63]
  simp only [Yx,decide_eq_true_eq] at hpre
  obtain ⟨⟨⟨⟨⟨⟨h1,h2⟩,h3⟩,h4⟩,h5⟩,h6⟩,h7⟩:=hpre
  simp only [h1,h2,h3,h4,h5,h6,h7,decide_true,Xd,↓A0,A0]
  have hb := @Kerb.encTicket_inv ⟨li,⟨x,y,z⟩,ad,k,lf,iss,sv,ins⟩
  unfold Wx at hb ⊢
  dsimp only at hb ⊢
  generalize hE:Kerb.Ticket.err _=e at hb ⊢
  by_cases he:e=0
  case neg=>rw [sel_pos (by simpa using he),if_pos he]
  rw [if_neg (by simpa using he)] at hb
  obtain ⟨v1,v2,v3,_⟩:=hb rfl
  have l1:=Kerb.valid_len v1
  have l2:=(Kerb.name_ok v2).1
  have l3:=(Kerb.inst_ok v3).1
  dsimp only at l1
  rw [sel_neg (by simpa using he),if_neg (by simpa using he)]
  cases li
  ·rw [sel_false,chk_of (by first | (simp [Zj,Zq,Zp];done) | (simp [Zj,Zq,Zp];omega)),chk_of (by first | (simp [Zj,Zq,Zp];done) | (simp [Zj,Zq,Zp];omega)),chk_of (Vb (by first | (simp [Zj,Zq,Zp];done) | (simp [Zj,Zq,Zp];omega))),chk_of (by first | (simp [Zj,Zq,Zp];done) | (simp [Zj,Zq,Zp];omega)),chk_of (by first | (simp [Zj,Zq,Zp];done) | (simp [Zj,Zq,Zp];omega)),chk_of (by first | (simp [Zj,Zq,Zp];done) | (simp [Zj,Zq,Zp];omega)),chk_of (by first | (simp [Yp,Zj,Zq,Zp];done) | (simp [Yp,Zj,Zq,Zp];omega)),chk_of (by first | (simp [Yp,Zj,Zq,Zp];done) | (simp [Yp,Zj,Zq,Zp];omega))]
   simp
  ·rw [sel_true,chk_of (by first | (simp [Zj,Zq,Zp];done) | (simp [Zj,Zq,Zp];omega)),chk_of (by first | (simp [Zj,Zq,Zp];done) | (simp [Zj,Zq,Zp];omega)),chk_of (Vb (by first | (simp [Zj,Zq,Zp];done) | (simp [Zj,Zq,Zp];omega))),chk_of (by first | (simp [Zj,Zq,Zp];done) | (simp [Zj,Zq,Zp];omega)),chk_of (by first | (simp [Zj,Zq,Zp];done) | (simp [Zj,Zq,Zp];omega)),chk_of (by first | (simp [Zj,Zq,Zp];done) | (simp [Zj,Zq,Zp];omega)),chk_of (by first | (simp [Yp,Zj,Zq,Zp];done) | (simp [Yp,Zj,Zq,Zp];omega)),chk_of (by first | (simp [Yp,Zj,Zq,Zp];done) | (simp [Yp,Zj,Zq,Zp];omega))]
   simp
 ·cases h
theorem w95:Walked Tryz.prog G 95 5 sp95:=by
 refine ⟨Tryz.f95,Tryz.func95,by decide +kernel,rfl,fun xs bl r h=> ?_⟩
 unfold sp95 at h
 split at h
 ·rename_i x y z ck tc tm li
  obtain ⟨hpre,h2⟩:=chk_inv h;cases h2
  refine Eq.trans (b:=(let t0:Nat:=Zz ([]++Yz (bif li then 1 else 0) 1 false)+Zz x+Zz y+Zz z;Zx (chk (l63 x&&l63 y&&l63 z) (some (Zy .i64 (Kerb.Auth.check (Vq (Yv x y z) ck tc tm)),[]))) (kI .i64 fun n=>sel (!n==0) (some (Zd [Zb [],Zy .i64 n],[])) (Zx (chk (decide (t0≤70368744170000)) (some (Zb (Kerb.putPrin ([]++Yz (bif li then 1 else 0) 1 false) (Yv x y z)),[]))) (kB fun b=>Zx (chk (decide (Zz b≤70368744177664)) (some (Ym (b++Yz ck 4 li),[]))) (kO fun l=>Zx (chk (decide (Zz l≤70368744177664)) (some (Ym (l++Yz tc 1 false),[]))) (kO fun l=>Zx (chk (decide (Zz l≤70368744177664)) (some (Ym (l++Yz tm 4 li),[]))) (kO fun l=>Zx (chk (decide (Zz l≤70368744177664)) (some (Ym (Kerb.pad l),[]))) (kO fun l=>some (Zd [Zb l,Zy .i64 0],[])))))))):Option (AV×Blocks))) (by kernel_rfl) ?_
  delta kB kO kI
  try dsimp only [cStr,cBs,cBool,cU8,cInt,cSl,l63]
  simp only [A0,Vv,Vd,Vh,hpre]
  unfold Wg
  by_cases h:(Vq ⟨x,y,z⟩ ck tc tm).check=0
  case neg =>
   rw [sel_pos (by simpa using h),if_pos h]
  have hv:Yj ⟨x,y,z⟩=true:=by
   unfold Kerb.Auth.check at h
   cases hv:Yj ⟨x,y,z⟩
   ·simp [hv] at h
   ·rfl
  have l1:=Kerb.valid_len hv
  simp only at l1
  rw [sel_neg (by simp [h]),if_neg (by simpa using h)]
  cases li
  ·simp only [A0,Vv,Vd,Vh,List.nil_append,cond_false,cond_true]
   rw [chk_of (by simp [Zq];omega),chk_of (by simp [Zq,Zj];omega),chk_of (by simp [Zq,Zj];omega),chk_of (by simp [Zq,Zj];omega),chk_of (by simp [Zq,Zj];omega)]
  ·simp only [A0,Vv,Vd,Vh,List.nil_append,cond_false,cond_true]
   rw [chk_of (by simp [Zq];omega),chk_of (by simp [Zq,Zj];omega),chk_of (by simp [Zq,Zj];omega),chk_of (by simp [Zq,Zj];omega),chk_of (by simp [Zq,Zj];omega)]
 ·cases h
theorem w126:Walked Tryz.prog G 126 5 sp126:=by
 refine ⟨Tryz.f126,Tryz.func126,by decide +kernel,rfl,fun xs bl r h=> ?_⟩
 unfold sp126 at h
 split at h
 ·rename_i s
  obtain ⟨hpre,h2⟩:=chk_inv h;cases h2
  refine Eq.trans (b:=(sel (!s==[]) (sel (decide ((↑(Zz s):Int)≤39)) (Zx (chk (decide (Zz s≤9223372036854775807)) (some (Zk (Wk s [(46:UInt8),(64:UInt8)]),[]))) fun (r:AV×Blocks)=>onNilB (Zg r) (Vg (Zm r) fun b=>some (Zk b,[]))) (some (Zk false,[]))) (some (Zk false,[])):Option (AV×Blocks))) (by kernel_rfl) ?_
  simp only [A0]
  rw [chk_of hpre,decide_eq_decide.2 (show ((s.length:Int)≤39)↔s.length≤39 from by omega)]
  simp only [Kerb.validName]
  cases s with
  | nil=>rfl
  | cons x r=>cases decide ((x::r).length≤39)<;>rfl
 ·cases h
theorem w127:Walked Tryz.prog G 127 5 sp127:=by
 refine ⟨Tryz.f127,Tryz.func127,by decide +kernel,rfl,fun xs bl r h=> ?_⟩
 unfold sp127 at h
 split at h
 ·rename_i s
  obtain ⟨hpre,h2⟩:=chk_inv h;cases h2
  refine Eq.trans (b:=(sel (decide ((↑(Zz s):Int)≤39)) (Zx (chk (decide (Zz s≤9223372036854775807)) (some (Zk (Wk s [(64:UInt8)]),[]))) fun (r:AV×Blocks)=>onNilB (Zg r) (Vg (Zm r) fun b=>some (Zk b,[]))) (some (Zk false,[])):Option (AV×Blocks))) (by kernel_rfl) ?_
  simp only [A0]
  rw [chk_of hpre,decide_eq_decide.2 (show ((s.length:Int)≤39)↔s.length≤39 from by omega)]
  simp only [Kerb.validInst]
  cases decide (s.length≤39)<;>rfl
 ·cases h
theorem w174:Walked Tryz.prog G 174 5 sp174:=by
 refine ⟨Tryz.f174,Tryz.func174,by decide +kernel,rfl,fun xs bl r h=> ?_⟩
 unfold sp174 at h
 split at h
 ·rename_i b
  obtain ⟨hpre,h2⟩:=chk_inv h;cases h2
  refine Eq.trans (b:=(let t1:Int:=Zw .i64 (↑(BitVec.toNat (BitVec.ofInt (Xu .i64) (Zw .i64 (Zw .i64 (↑(Yk (Xq b (Zu 10) (0:UInt8))):Int)*2 ^ min (Zu 8) (Xu .i64))) ||| BitVec.ofInt (Xu .i64) (Zw .i64 (↑(Yk (Xq b (Zu 11) (0:UInt8))):Int)))):Int);let t2:Option (AV×Blocks):=some (Zd [Xg [Zy .i64 0,Zy .u64 0,Zb []],Zy .i64 0,Zy .i64 100],[]);let t3:Option (AV×Blocks):=some (Zd [Xg [Zy .i64 0,Zy .u64 0,Zb []],Zy .i64 0,Zy .i64 101],[]);let t0:Int:=Zw .i64 (12+t1);sel (decide ((↑(Zz b):Int)<12)) t3 (chk (decide (1<(↑(Zz b):Int))) (chk (decide (10≤(↑(Zz b):Int))) (Zx (chk (decide (Zz (Xz (Zu 2) (Yh (Zu 10) b))≤4611686018427387904)) (some (Zd [Zy .u64 (Zm (Xm (Xz (Zu 2) (Yh (Zu 10) b)))),Zk (Zg (Xm (Xz (Zu 2) (Yh (Zu 10) b))))],[]))) (kT fun vs=>cInt .u64 vs fun n r=>cBool r fun b_1 r=>onNil r (chk (decide (10<(↑(Zz b):Int))) (chk (decide (11<(↑(Zz b):Int))) (chk (decide (0<(↑(Zz b):Int))) (sel (!Xq b (Zu 0) (0:UInt8)==(66:UInt8)) t2 (sel (!Vk (Zw .i64 (↑(Yk (Xq b (Zu 1) (0:UInt8))):Int))) t2 (sel (!b_1) t2 (sel (decide (t1>1000)) t2 (sel (decide ((↑(Zz b):Int)<t0)) t3 (chk (decide (12≤t0)&&decide (t0≤t0)&&decide (t0≤(↑(Zz b):Int))) (Zx (chk (decide (Zz (Xz (Zu 12) (Yh (Zu t0) b))≤140737488355328)) (some (Zb (Xz (Zu 12) (Yh (Zu t0) b)),[]))) (kB fun b_2=>some (Zd [Xg [Zy .i64 (Zw .i64 (↑(Yk (Xq b (Zu 1) (0:UInt8))):Int)),Zy .u64 n,Zb b_2],Zy .i64 t0,Zy .i64 0],[])))))))))))))))):Option (AV×Blocks))) (by kernel_rfl) ?_
  delta kT kB
  try dsimp only [cStr,cBs,cBool,cU8,cInt,cSl,l63]
  simp only [decide_eq_true_eq] at hpre
  unfold Xv
  by_cases h0:b.length<12
  ·rw [sel_pos (by simp;omega),if_pos h0];rfl
  rw [sel_neg (by simp;omega),if_neg h0]
  have hc:=Kerb.cut_len b 2 8
  have hs:(b.getD 10 0).toNat*256+(b.getD 11 0).toNat=Vw b:=rfl
  simp only [Kerb.cut_28,Kerb.size_or]
  simp only [show Zu 0=0 from rfl,show Zu 1=1 from rfl,show Zu 10=10 from rfl,show Zu 11=11 from rfl,Kerb.wrap_byte,hs]
  rw [chk_of (by simp;omega),chk_of (by simp;omega),chk_of (by simp;omega)]
  simp only [↓A0]
  rw [chk_of (by simp;omega),chk_of (by simp;omega),chk_of (by simp;omega)]
  by_cases h1:b.getD 0 0=66
  case neg=>rw [sel_pos (by simpa using h1),if_pos (.inl h1)];rfl
  rw [sel_neg (by simpa using h1)]
  cases h2:Vk ((b.getD 1 0).toNat:Int)
  ·rw [if_pos (.inr (.inl rfl))];rfl
  rw [Yg,sel_false]
  cases h3:(Xm (Kerb.cut b 2 8)).2
  ·rw [if_pos (.inr (.inr (.inl rfl)))];rfl
  rw [Yg,sel_false]
  by_cases h4:1000<Vw b
  ·rw [sel_pos (by simp;omega),if_pos (.inr (.inr (.inr h4)))];rfl
  rw [sel_neg (by simp;omega),if_neg (by rintro (h | h | h | h)<;>first | exact h h1 | cases h | omega),wrap_i64 (by omega) (by omega)]
  by_cases h5:b.length<12+Vw b
  ·rw [sel_pos (by simp;omega),if_pos h5];rfl
  have hc2:=Kerb.cut_len b 12 (Vw b)
  rw [sel_neg (by simp;omega),if_neg h5,Kerb.cut_12,chk_of (by simp;omega)]
  simp only [↓A0]
  rw [chk_of (by simp;omega)]
  simp
 ·cases h
theorem w23:Walked Tryz.prog G 23 6 sp23:=by
 refine ⟨Tryz.f23,Tryz.func23,by decide +kernel,rfl,fun xs bl r h=> ?_⟩
 unfold sp23 at h
 split at h
 ·rename_i x y z k ad ck tm tc iss lf tk au li
  obtain ⟨hpre,h2⟩:=chk_inv h;cases h2
  refine Eq.trans (b:=(sel (!Xw (Yu (Wy (Zw .i64 (Zw .u32 (Zw .i64 (ck+1)))) tc tm) li)==0) (some (Zd [Zb [],Zy .i64 (Xw (Yu (Wy (Zw .i64 (Zw .u32 (Zw .i64 (ck+1)))) tc tm) li))],[])) (Zx (chk (decide (0≤k)&&decide (k<18446744073709551616)) (some (Zd [Zb (Xx (Xn 4 k (Xx (Yu (Wy (Zw .i64 (Zw .u32 (Zw .i64 (ck+1)))) tc tm) li)))),Zy .i64 (Xw (Xn 4 k (Xx (Yu (Wy (Zw .i64 (Zw .u32 (Zw .i64 (ck+1)))) tc tm) li))))],[]))) fun (r:AV×Blocks)=>onNilB (Zg r) (Wh (Zm r) fun vs=>onCons vs fun x r=>Uz x fun b=>onCons r fun x r=>Yy .i64 x fun n=>onNil r (sel (!n==0) (some (Zd [Zb [],Zy .i64 n],[])) (some (Zd [Zb (Xx (Ux b li)),Zy .i64 (Xw (Ux b li))],[]))))):Option (AV×Blocks))) (by kernel_rfl) ?_
  simp only [Yx,decide_eq_true_eq] at hpre
  have hs:Zw .i64 (Zw .u32 (Zw .i64 (ck+1)))=Uy ck:=Kerb.nextSum_in ck
  rw [hs]
  unfold Kerb.serviceAnswer
  simp only [hpre,decide_true,Xd,↓A0,A0]
  by_cases h1:(Yu ⟨Uy ck,tc,tm⟩ li).err=0
  case neg=>rw [sel_pos (by simpa using h1),if_pos h1]
  rw [sel_neg (by simpa using h1),if_neg (by simpa using h1)]
  by_cases h2:(Xn 4 k (Yu ⟨Uy ck,tc,tm⟩ li).val).err=0
  case neg=>rw [sel_pos (by simpa using h2),if_pos h2]
  rw [sel_neg (by simpa using h2),if_neg (by simpa using h2)]
 ·cases h
theorem w43:Walked Tryz.prog G 43 6 sp43:=by
 refine ⟨Tryz.f43,Tryz.func43,by decide +kernel,rfl,fun xs bl r h=> ?_⟩
 unfold sp43 at h
 split at h
 ·rename_i li x y z ad k lf iss sv ins key
  obtain ⟨hpre,h2⟩:=chk_inv h;cases h2
  refine Eq.trans (b:=(Zx (chk (decide (Zz x≤9223372036854775807)&&decide (Zz y≤9223372036854775807)&&decide (Zz z≤9223372036854775807)&&decide (Zz sv≤9223372036854775807)&&decide (Zz ins≤9223372036854775807)&&decide (0≤k)&&decide (k<18446744073709551616)) (some (Zd [Zb (Xx (Wx (Vm li (Yv x y z) ad k lf iss sv ins))),Zy .i64 (Xw (Wx (Vm li (Yv x y z) ad k lf iss sv ins)))],[]))) fun (r:AV×Blocks)=>onNilB (Zg r) (Wh (Zm r) fun vs=>onCons vs fun x r=>Uz x fun b=>onCons r fun x r=>Yy .i64 x fun n=>onNil r (sel (!n==0) (some (Zd [Zb [],Zy .i64 n],[])) (Zx (chk (decide (0≤key)&&decide (key<18446744073709551616)) (some (Zd [Zb (Xx (Xn 1 key b)),Zy .i64 (Xw (Xn 1 key b))],[]))) fun (r:AV×Blocks)=>onNilB (Zg r) (Wh (Zm r) fun vs=>onCons vs fun x r=>Uz x fun b=>onCons r fun x r=>Yy .i64 x fun n=>onNil r (some (Zd [Zb b,Zy .i64 n],[])))))):Option (AV×Blocks))) (by kernel_rfl) ?_
  simp only [Yx,decide_eq_true_eq] at hpre
  obtain ⟨⟨⟨⟨⟨⟨⟨⟨h1,h2⟩,h3⟩,h4⟩,h5⟩,h6⟩,h7⟩,h8⟩,h9⟩:=hpre
  simp only [h1,h2,h3,h4,h5,h6,h7,h8,h9,decide_true,Xd,↓A0,A0]
  unfold Kerb.sealTicket
  generalize Wx _=E
  by_cases he:E.err=0
  ·rw [sel_neg (by simpa using he),if_neg (by simpa using he)]
  ·rw [sel_pos (by simpa using he),if_pos he]
 ·cases h
theorem w44:Walked Tryz.prog G 44 6 sp44:=by
 refine ⟨Tryz.f44,Tryz.func44,by decide +kernel,rfl,fun xs bl r h=> ?_⟩
 unfold sp44 at h
 split at h
 ·rename_i x y z ck tc tm li k
  obtain ⟨hpre,h2⟩:=chk_inv h;cases h2
  refine Eq.trans (b:=(Zx (chk (decide (Zz x≤9223372036854775807)&&decide (Zz y≤9223372036854775807)&&decide (Zz z≤9223372036854775807)) (some (Zd [Zb (Xx (Wg (Vq (Yv x y z) ck tc tm) li)),Zy .i64 (Xw (Wg (Vq (Yv x y z) ck tc tm) li))],[]))) fun (r:AV×Blocks)=>onNilB (Zg r) (Wh (Zm r) fun vs=>onCons vs fun x r=>Uz x fun b=>onCons r fun x r=>Yy .i64 x fun n=>onNil r (sel (!n==0) (some (Zd [Zb [],Zy .i64 n],[])) (Zx (chk (decide (0≤k)&&decide (k<18446744073709551616)) (some (Zd [Zb (Xx (Xn 2 k b)),Zy .i64 (Xw (Xn 2 k b))],[]))) fun (r:AV×Blocks)=>onNilB (Zg r) (Wh (Zm r) fun vs=>onCons vs fun x r=>Uz x fun b=>onCons r fun x r=>Yy .i64 x fun n=>onNil r (some (Zd [Zb b,Zy .i64 n],[])))))):Option (AV×Blocks))) (by kernel_rfl) ?_
  have hpre':=hpre
  simp only [Yx,decide_eq_true_eq] at hpre
  have c1:(decide (x.length≤9223372036854775807)&&decide (y.length≤9223372036854775807)&&decide (z.length≤9223372036854775807))=true:=by simp;omega
  have c2:(decide (0≤k)&&decide (k<18446744073709551616))=true:=by simp;omega
  simp only [A0,Vv,Vd,Vh,c1,c2]
  unfold Kerb.sealAuth
  by_cases h:(Wg (Vq ⟨x,y,z⟩ ck tc tm) li).err=0
  ·rw [sel_neg (by simp [h]),if_neg (by simpa using h)]
  ·rw [sel_pos (by simpa using h),if_pos h]
 ·cases h
theorem w104:Walked Tryz.prog G 104 6 sp104:=by
 refine ⟨Tryz.f104,Tryz.func104,by decide +kernel,rfl,fun xs bl r h=> ?_⟩
 unfold sp104 at h
 split at h
 ·rename_i b
  obtain ⟨hpre,h2⟩:=chk_inv h;cases h2
  refine Eq.trans (b:=(let t2:AV:=Xg [Zk false,Zf [],Zf [],Zf [],Zy .i64 0,Zy .u64 0,Zy .i64 0,Zy .i64 0,Zf [],Zf []];let t1:Option (AV×Blocks):=some (Zd [t2,Zy .i64 100],[]);let t0:Option (AV×Blocks):=Zx (chk (decide (Zz b≤140737488355328)) (some (Zy .i64 (Yn (Zh b 0 1 false)),[[Zb b,Zy .i64 (bif false || !Yw (Zh b 0 1 false)==0 then 0 else Yd (Zh b 0 1 false)),Zk false,Zk !Yw (Zh b 0 1 false)==0]]))) fun (r:AV×Blocks)=>onConsB (Zg r) fun (x:List AV) (r_1:List (List AV))=>cBs x fun b_1 r_2=>cInt .i64 r_2 fun n r_3=>cBool r_3 fun b_2 r_4=>cBool r_4 fun b_3 r_5=>onNil r_5 (onNilB r_1 (Yy .i64 (Zm r) fun n_1=>Zx (chk (decide (Zz b_1≤140737488355328)) (some (Xg [Zf (Wn (Uj (Xy b_1 n b_3))),Zf (Wm (Uj (Xy b_1 n b_3))),Zf (Wp (Uj (Xy b_1 n b_3)))],[[Zb b_1,Zy .i64 (Kerb.RdP.pos (Xy b_1 n b_3)),Zk (n_1==1),Zk (Kerb.RdP.bad (Xy b_1 n b_3))]]))) fun (r:AV×Blocks)=>onConsB (Zg r) fun (x:List AV) (r_6:List (List AV))=>cBs x fun b_4 r_7=>cInt .i64 r_7 fun n r_8=>cBool r_8 fun b_5 r_9=>cBool r_9 fun b_6 r_10=>onNil r_10 (onNilB r_6 (Uw (Zm r) fun cs=>cStr cs fun b_7 r=>cStr r fun b_8 r=>cStr r fun b_9 r=>onNil r (Zx (chk (decide (Zz b_4≤140737488355328)) (some (Zy .i64 (Yn (Zh b_4 n 4 b_5)),[[Zb b_4,Zy .i64 (bif b_6 || !Yw (Zh b_4 n 4 b_5)==0 then n else Yd (Zh b_4 n 4 b_5)),Zk b_5,Zk (b_6 || !Yw (Zh b_4 n 4 b_5)==0)]]))) fun (r:AV×Blocks)=>onConsB (Zg r) fun (x:List AV) (r_11:List (List AV))=>cBs x fun b_10 r_12=>cInt .i64 r_12 fun n r_13=>cBool r_13 fun b_11 r_14=>cBool r_14 fun b_12 r_15=>onNil r_15 (onNilB r_11 (Yy .i64 (Zm r) fun n_2=>Zx (chk (decide (Zz b_10≤140737488355328)) (some (Zb (Wz (Wf b_10 n 8)),[[Zb b_10,Zy .i64 (bif b_12 || !Yb (Wf b_10 n 8)==0 then n else Xb (Wf b_10 n 8)),Zk b_11,Zk (b_12 || !Yb (Wf b_10 n 8)==0)]]))) fun (r:AV×Blocks)=>onConsB (Zg r) fun (x:List AV) (r_16:List (List AV))=>cBs x fun b_13 r_17=>cInt .i64 r_17 fun n r_18=>cBool r_18 fun b_14 r_19=>cBool r_19 fun b_15 r_20=>onNil r_20 (onNilB r_16 (Uz (Zm r) fun b_16=>Zx (chk (decide (Zz b_16≤4611686018427387904)) (some (Zd [Zy .u64 (Zm (Xm b_16)),Zk (Zg (Xm b_16))],[]))) (kT fun vs=>cInt .u64 vs fun n_3 r=>cBool r fun b_17 r=>onNil r (Zx (chk (decide (Zz b_13≤140737488355328)) (some (Zy .i64 (Yn (Zh b_13 n 1 false)),[[Zb b_13,Zy .i64 (bif b_15 || !Yw (Zh b_13 n 1 false)==0 then n else Yd (Zh b_13 n 1 false)),Zk b_14,Zk (b_15 || !Yw (Zh b_13 n 1 false)==0)]]))) fun (r:AV×Blocks)=>onConsB (Zg r) fun (x:List AV) (r_21:List (List AV))=>cBs x fun b_18 r_22=>cInt .i64 r_22 fun n r_23=>cBool r_23 fun b_19 r_24=>cBool r_24 fun b_20 r_25=>onNil r_25 (onNilB r_21 (Yy .i64 (Zm r) fun n_4=>Zx (chk (decide (Zz b_18≤140737488355328)) (some (Zy .i64 (Yn (Zh b_18 n 4 b_19)),[[Zb b_18,Zy .i64 (bif b_20 || !Yw (Zh b_18 n 4 b_19)==0 then n else Yd (Zh b_18 n 4 b_19)),Zk b_19,Zk (b_20 || !Yw (Zh b_18 n 4 b_19)==0)]]))) fun (r:AV×Blocks)=>onConsB (Zg r) fun (x:List AV) (r_26:List (List AV))=>cBs x fun b_21 r_27=>cInt .i64 r_27 fun n r_28=>cBool r_28 fun b_22 r_29=>cBool r_29 fun b_23 r_30=>onNil r_30 (onNilB r_26 (Yy .i64 (Zm r) fun n_5=>Zx (chk (decide (Zz b_21≤140737488355328)) (some (Zf (Wz (Yf b_21 n)),[[Zb b_21,Zy .i64 (bif b_23 || !Yb (Yf b_21 n)==0 then n else Xb (Yf b_21 n)),Zk b_22,Zk (b_23 || !Yb (Yf b_21 n)==0)]]))) fun (r:AV×Blocks)=>onConsB (Zg r) fun (x:List AV) (r_31:List (List AV))=>cBs x fun b_24 r_32=>cInt .i64 r_32 fun n r_33=>cBool r_33 fun b_25 r_34=>cBool r_34 fun b_26 r_35=>onNil r_35 (onNilB r_31 (AV.onStr (Zm r) fun b_27=>Zx (chk (decide (Zz b_24≤140737488355328)) (some (Zf (Wz (Yf b_24 n)),[[Zb b_24,Zy .i64 (bif b_26 || !Yb (Yf b_24 n)==0 then n else Xb (Yf b_24 n)),Zk b_25,Zk (b_26 || !Yb (Yf b_24 n)==0)]]))) fun (r:AV×Blocks)=>onConsB (Zg r) fun (x:List AV) (r_36:List (List AV))=>cBs x fun b_28 r_37=>cInt .i64 r_37 fun n r_38=>cBool r_38 fun b_29 r_39=>cBool r_39 fun b_30 r_40=>onNil r_40 (onNilB r_36 (AV.onStr (Zm r) fun b_31=>Zx (chk (l63 b_7&&l63 b_8&&l63 b_9&&l63 b_27&&l63 b_31&&decide (0≤n_3)&&decide (n_3<18446744073709551616)) (some (Zd [Zb (Xx (Wx (Vm (n_1==1) (Yv b_7 b_8 b_9) n_2 n_3 n_4 n_5 b_27 b_31))),Zy .i64 (Xw (Wx (Vm (n_1==1) (Yv b_7 b_8 b_9) n_2 n_3 n_4 n_5 b_27 b_31)))],[]))) (kT fun vs=>cBs vs fun b_32 r=>cInt .i64 r fun n r=>onNil r (sel b_30 t1 (sel (!n==0) t1 (sel (!b_32==b) t1 (some (Zd [Xg [Zk (n_1==1),Zf b_7,Zf b_8,Zf b_9,Zy .i64 n_2,Zy .u64 n_3,Zy .i64 n_4,Zy .i64 n_5,Zf b_27,Zf b_31],Zy .i64 0],[])))))))))))))))))))))))));sel (decide ((↑(Zz b):Int)>0)) (chk (decide (0<(↑(Zz b):Int))) (sel (decide ((↑(Yk (Xq b (Zu 0) (0:UInt8))):Int)>(↑(Yk (1:UInt8)):Int))) (some (Zd [t2,Zy .i64 7],[])) t0)) t0:Option (AV×Blocks))) (by kernel_rfl) ?_
  delta kT
  try dsimp only [cStr,cBs,cBool,cU8,cInt,cSl,l63]
  have hb:=of_decide_eq_true hpre
  simp only [hpre,↓A0,A0]
  unfold Kerb.decodeTicket
  rw [Kerb.decTicket_ref]
  have hl:∀ p n,(Wf b p n).val.length≤4611686018427387904:=fun p n=>Xf (Kerb.bytes_len b p n) (by omega)
  have hk:∀ q,0≤(Xm q).1∧(Xm q).1<18446744073709551616:=Kerb.keyRead_bd
  have hx:∀ q,(Yf b q).val.length≤40:=Kerb.text_len b
  have lp:∀ q bd,(Xy b q bd).p.name.length≤40∧(Xy b q bd).p.inst.length≤40∧(Xy b q bd).p.realm.length≤40:=Kerb.rdPrin_len b
  have h7b:¬ (0<b.length)→¬ 1<(Zh b 0 1 false).val:=by
   intro h
   have:b=[]:=List.eq_nil_of_length_eq_zero (by omega)
   subst this
   decide
  have hv:0<b.length→(Zh b 0 1 false).val=((Xq b (Zu 0) 0).toNat:Int):=by
   intro h
   cases b with
   | nil=>simp at h
   | cons c r =>
    have hr:Kerb.room (c::r) 0 1=0:=Kerb.room_zero.2 ⟨by omega,by simp only [List.length_cons];omega,by omega,by simp only [List.length_cons];omega⟩
    unfold Zh
    rw [if_pos hr]
    simp [Kerb.cut,Kerb.valB]
  have fin:=Kerb.decBy_fin (no:=Kerb.noTicket) (enc:=Wx) (b:=b) (rd:=fun b=>((Kerb.rdTicket b).val,(Kerb.rdTicket b).bad)) _ _ rfl (fun x e=>(Zd [Xg [Zk (x).little,Zf (x).client.name,Zf (x).client.inst,Zf (x).client.realm,Zy Zv (x).address,Zy IntKind.u64 (x).session,Zy Zv (x).life,Zy Zv (x).issued,Zf (x).service,Zf (x).inst],Zy Zv e],([]:Blocks)))
  by_cases h:0<b.length
  ·rw [sel_pos (by simp only [decide_eq_true_eq];omega),chk_of (by simp only [decide_eq_true_eq];omega)]
   have hv:=hv h
   by_cases h7:1<(Zh b 0 1 false).val
   ·rw [sel_pos (by rw [hv] at h7;exact decide_eq_true h7),if_pos h7]
    rfl
   rw [sel_neg (by rw [hv] at h7;exact decide_eq_false h7),if_neg h7]
   rw [chk_of (by simp only [decide_eq_true_eq];exact hl _ _),chk_of (by simp only [Yx,decide_eq_true_eq];exact ⟨⟨⟨⟨⟨⟨Xf (lp _ _).1 (by decide),Xf (lp _ _).2.1 (by decide)⟩,Xf (lp _ _).2.2 (by decide)⟩,Xf (hx _) (by decide)⟩,Xf (hx _) (by decide)⟩,(hk _).1⟩,(hk _).2⟩)]
   exact fin
  ·rw [sel_neg (by simp only [decide_eq_false_iff_not];omega),if_neg (h7b h)]
   rw [chk_of (by simp only [decide_eq_true_eq];exact hl _ _),chk_of (by simp only [Yx,decide_eq_true_eq];exact ⟨⟨⟨⟨⟨⟨Xf (lp _ _).1 (by decide),Xf (lp _ _).2.1 (by decide)⟩,Xf (lp _ _).2.2 (by decide)⟩,Xf (hx _) (by decide)⟩,Xf (hx _) (by decide)⟩,(hk _).1⟩,(hk _).2⟩)]
   exact fin
 ·cases h
theorem w105:Walked Tryz.prog G 105 6 sp105:=by
 refine ⟨Tryz.f105,Tryz.func105,by decide +kernel,rfl,fun xs bl r h=> ?_⟩
 unfold sp105 at h
 split at h
 ·rename_i b li
  obtain ⟨hpre,h2⟩:=chk_inv h;cases h2
  refine Eq.trans (b:=(let t0:Option (AV×Blocks):=some (Zd [Xg [Zf [],Zf [],Zf [],Zy .i64 0,Zy .i64 0,Zy .i64 0],Zy .i64 100],[]);Zx (chk (decide (Zz b≤140737488355328)) (some (Zy .i64 (Yn (Zh b 0 1 false)),[[Zb b,Zy .i64 (bif false || !Yw (Zh b 0 1 false)==0 then 0 else Yd (Zh b 0 1 false)),Zk li,Zk !Yw (Zh b 0 1 false)==0]]))) fun (r:AV×Blocks)=>onConsB (Zg r) fun (x:List AV) (r_1:List (List AV))=>cBs x fun b_1 r_2=>cInt .i64 r_2 fun n r_3=>cBool r_3 fun b_2 r_4=>cBool r_4 fun b_3 r_5=>onNil r_5 (onNilB r_1 (Yy .i64 (Zm r) fun n_1=>Zx (chk (decide (Zz b_1≤140737488355328)) (some (Xg [Zf (Wn (Uj (Xy b_1 n b_3))),Zf (Wm (Uj (Xy b_1 n b_3))),Zf (Wp (Uj (Xy b_1 n b_3)))],[[Zb b_1,Zy .i64 (Kerb.RdP.pos (Xy b_1 n b_3)),Zk b_2,Zk (Kerb.RdP.bad (Xy b_1 n b_3))]]))) fun (r:AV×Blocks)=>onConsB (Zg r) fun (x:List AV) (r_6:List (List AV))=>cBs x fun b_4 r_7=>cInt .i64 r_7 fun n r_8=>cBool r_8 fun b_5 r_9=>cBool r_9 fun b_6 r_10=>onNil r_10 (onNilB r_6 (Uw (Zm r) fun cs=>cStr cs fun b_7 r=>cStr r fun b_8 r=>cStr r fun b_9 r=>onNil r (Zx (chk (decide (Zz b_4≤140737488355328)) (some (Zy .i64 (Yn (Zh b_4 n 4 b_5)),[[Zb b_4,Zy .i64 (bif b_6 || !Yw (Zh b_4 n 4 b_5)==0 then n else Yd (Zh b_4 n 4 b_5)),Zk b_5,Zk (b_6 || !Yw (Zh b_4 n 4 b_5)==0)]]))) fun (r:AV×Blocks)=>onConsB (Zg r) fun (x:List AV) (r_11:List (List AV))=>cBs x fun b_10 r_12=>cInt .i64 r_12 fun n r_13=>cBool r_13 fun b_11 r_14=>cBool r_14 fun b_12 r_15=>onNil r_15 (onNilB r_11 (Yy .i64 (Zm r) fun n_2=>Zx (chk (decide (Zz b_10≤140737488355328)) (some (Zy .i64 (Yn (Zh b_10 n 1 false)),[[Zb b_10,Zy .i64 (bif b_12 || !Yw (Zh b_10 n 1 false)==0 then n else Yd (Zh b_10 n 1 false)),Zk b_11,Zk (b_12 || !Yw (Zh b_10 n 1 false)==0)]]))) fun (r:AV×Blocks)=>onConsB (Zg r) fun (x:List AV) (r_16:List (List AV))=>cBs x fun b_13 r_17=>cInt .i64 r_17 fun n r_18=>cBool r_18 fun b_14 r_19=>cBool r_19 fun b_15 r_20=>onNil r_20 (onNilB r_16 (Yy .i64 (Zm r) fun n_3=>Zx (chk (decide (Zz b_13≤140737488355328)) (some (Zy .i64 (Yn (Zh b_13 n 4 b_14)),[[Zb b_13,Zy .i64 (bif b_15 || !Yw (Zh b_13 n 4 b_14)==0 then n else Yd (Zh b_13 n 4 b_14)),Zk b_14,Zk (b_15 || !Yw (Zh b_13 n 4 b_14)==0)]]))) fun (r:AV×Blocks)=>onConsB (Zg r) fun (x:List AV) (r_21:List (List AV))=>cBs x fun b_16 r_22=>cInt .i64 r_22 fun n r_23=>cBool r_23 fun b_17 r_24=>cBool r_24 fun b_18 r_25=>onNil r_25 (onNilB r_21 (Yy .i64 (Zm r) fun n=>Zx (chk (l63 b_7&&l63 b_8&&l63 b_9) (some (Zd [Zb (Xx (Wg (Vq (Yv b_7 b_8 b_9) n_2 n_3 n) li)),Zy .i64 (Xw (Wg (Vq (Yv b_7 b_8 b_9) n_2 n_3 n) li))],[]))) (kT fun vs=>cBs vs fun b_19 r=>cInt .i64 r fun n_4 r=>onNil r (sel b_18 t0 (sel (!n_4==0) t0 (sel (!b_19==b) t0 (some (Zd [Xg [Zf b_7,Zf b_8,Zf b_9,Zy .i64 n_2,Zy .i64 n_3,Zy .i64 n],Zy .i64 0],[]))))))))))))))))):Option (AV×Blocks))) (by kernel_rfl) ?_
  delta kT
  try dsimp only [cStr,cBs,cBool,cU8,cInt,cSl,l63]
  have hb:=of_decide_eq_true hpre
  have hpre2:decide (b.length≤4611686018427387904)=true:=by simp;omega
  have e1:∀ p q,decide ((Xy b p q).p.name.length≤9223372036854775807)=true:=fun p q=>by have:=(Kerb.rdPrin_len b p q).1;simp;omega
  have e2:∀ p q,decide ((Xy b p q).p.inst.length≤9223372036854775807)=true:=fun p q=>by have:=(Kerb.rdPrin_len b p q).2.1;simp;omega
  have e3:∀ p q,decide ((Xy b p q).p.realm.length≤9223372036854775807)=true:=fun p q=>by have:=(Kerb.rdPrin_len b p q).2.2;simp;omega
  simp only [hpre,e1,e2,e3,Xd,↓A0,A0]
  rw [Kerb.decAuth_ref]
  exact Kerb.decBy_fin (no:=Kerb.noAuth) (enc:=fun a=>Wg a li) (rd:=fun b=>((Kerb.rdAuth b li).val,(Kerb.rdAuth b li).bad)) _ _ rfl (fun x e=>(Zd [.agg [.str (x).client.name,.str (x).client.inst,.str (x).client.realm,.int .i64 (x).checksum,.int .i64 (x).tick,.int .i64 (x).time],Zy Zv e],([]:Blocks)))
 ·cases h
theorem w128:Walked Tryz.prog G 128 6 sp128:=by
 refine ⟨Tryz.f128,Tryz.func128,by decide +kernel,rfl,fun xs bl r h=> ?_⟩
 unfold sp128 at h
 split at h
 ·rename_i s
  obtain ⟨hpre,h2⟩:=chk_inv h;cases h2
  refine Eq.trans (b:=(sel (!s==[]) (Zx (chk (decide (Zz s≤9223372036854775807)) (some (Zk (Kerb.validInst s),[]))) fun (r:AV×Blocks)=>onNilB (Zg r) (Vg (Zm r) fun b=>some (Zk b,[]))) (some (Zk false,[])):Option (AV×Blocks))) (by kernel_rfl) ?_
  simp only [A0]
  rw [chk_of hpre]
  simp only [Kerb.validRealm]
  cases s<;>rfl
 ·cases h
theorem w153:Walked Tryz.prog G 153 6 sp153:=by
 refine ⟨Tryz.f153,Tryz.func153,by decide +kernel,rfl,fun xs bl r h=> ?_⟩
 unfold sp153 at h
 split at h
 ·rename_i b kd k
  obtain ⟨hpre,h2⟩:=chk_inv h;cases h2
  refine Eq.trans (b:=(Zx (chk (decide (Zz b≤140737488355328)) (some (Zd [Xg [Zy .i64 (Kerb.Box.kind (Vz (Xv b))),Zy .u64 (Kerb.Box.key (Vz (Xv b))),Zb (Kerb.Box.body (Vz (Xv b)))],Zy .i64 (Kerb.GotBox.n (Xv b)),Zy .i64 (Kerb.GotBox.err (Xv b))],[]))) fun (r:AV×Blocks)=>onNilB (Zg r) (Wh (Zm r) fun vs=>onCons vs fun x r=>Uw x fun cs=>onCons cs fun x r_1=>Yy .i64 x fun n=>onCons r_1 fun x r_2=>Yy .u64 x fun n_1=>onCons r_2 fun x r_3=>Uz x fun b_1=>onNil r_3 (onCons r fun x r=>Yy .i64 x fun n_2=>onCons r fun x r=>Yy .i64 x fun n_3=>onNil r (sel (!n_3==0) (some (Zd [Zb [],Zk false],[])) (sel (!n_2==(↑(Zz b):Int)) (some (Zd [Zb [],Zk false],[])) (sel (!n==kd) (some (Zd [Zb [],Zk false],[])) (sel (!n_1==k) (some (Zd [Zb [],Zk false],[])) (some (Zd [Zb b_1,Zk true],[])))))))):Option (AV×Blocks))) (by kernel_rfl) ?_
  simp only [↓A0,hpre]
  unfold Kerb.openBox
  generalize Xv b=r
  by_cases h1:r.err=0
  case neg=>rw [sel_pos (by simpa using h1),if_pos (.inl h1)]
  rw [sel_neg (by simpa using h1)]
  by_cases h2:r.n=b.length
  case neg=>rw [sel_pos (by simpa using h2),if_pos (.inr (.inl h2))]
  rw [sel_neg (by simpa using h2)]
  by_cases h3:r.box.kind=kd
  case neg=>rw [sel_pos (by simpa using h3),if_pos (.inr (.inr (.inl h3)))]
  rw [sel_neg (by simpa using h3)]
  by_cases h4:r.box.key=k
  case neg=>rw [sel_pos (by simpa using h4),if_pos (.inr (.inr (.inr h4)))]
  rw [sel_neg (by simpa using h4),if_neg (by simp [h1,h2,h3,h4])]
 ·cases h
end Go.Proofs.YtiplnpablmohiaaGreat
