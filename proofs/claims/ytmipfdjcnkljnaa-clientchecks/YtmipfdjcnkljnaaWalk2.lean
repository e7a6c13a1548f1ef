/- What the functions of this seat compute. -/
import Derived.Test.YtmipfdjcnkljnaaTab
import Derived.Test.YtmipfdjcnkljnaaKerbPlain
import Derived.Test.YtmipfdjcnkljnaaAbsStep
import Derived.Test.YtmipfdjcnkljnaaKerbCli4
import Derived.Test.YtmipfdjcnkljnaaKerbCli5
open Go.Abs.AV renaming int→Zz,str→Zv,bool→Zf,tup→Zm,bs→Zh,onInt→Xu,agg→Xq
open Kerb.Prin renaming mk→Zy,realm→Zp,inst→Zd,valid→Zb,name→Zn
open List renaming length→Zx,map→Xz,all→Xy
open Option renaming bind→Zw
open Kerb renaming within→Zu,personClient→Zk,putN_len→Yz,putPrin_len→Yx,isCred→Yp,newClient→Yd,toCred→Yg,putN→Yb,longP→Xv,u8i→Xp,user→Xg,putText→Wz,validName→Wq,validInst→Wj,encodeTgs→Wk,encodeRequest→Wp,noSent→Wd,noCred→Wf
open Kerb.Client renaming mk→Zq,cache→Zg,av→Yy,wanted→Yw,me→Yv,err→Yk,checksum→Xk,session→Xd,address→Xf,little→Xb,wait→Wy,time→Wx,tick→Ww,skew→Wv,life→Wu
open Kerb.Cred renaming av→Zj
open Kerb.Cache renaming av→Yu,owner→Yq,mk→Yj,creds→Xj
open Go.IntKind renaming wrap→Yf
open UInt8 renaming toNat→Yn
open Bool renaming not_true→Ym,and_eq_true→Yh,and_self→Xx
open Kerb.Auth renaming mk→Xw
open Kerb.ApRequest renaming mk→Xn
open Kerb.Enc renaming val→Xm,err→Xh
namespace Go.Proofs.Ytmipfdjcnkljnaa
open Go Go.Abs Go.Proofs
set_option linter.unusedVariables false
set_option linter.unusedSimpArgs false
set_option maxRecDepth 100000
theorem w32:Walked Try.prog G 32 8 sp32:=by
 refine ⟨Try.f32,Try.func32,by decide +kernel,rfl,fun xs bl r h=> ?_⟩
 unfold sp32 at h
 split at h
 ·rename_i li x y z t lf sv ins
  obtain ⟨hpre,h2⟩:=chk_inv h;cases h2
  refine Eq.trans (b:=(let t0:Option (AV×Blocks):=some (Zm [Zh [],Zz .i64 103],[]);let t1:Nat:=Zx (Kerb.header 1 li)+Zx x+Zx y+Zx z;Zw (chk (l63 x&&l63 y&&l63 z) (some (Zf (Zb (Zy x y z)),[]))) (kL fun b=>sel (!b) t0 (Zw (chk (l63 sv) (some (Zf (Wq sv),[]))) (kL fun b=>sel (!b) t0 (Zw (chk (l63 ins) (some (Zf (Wj ins),[]))) (kL fun b=>sel (!b) t0 (sel (!Zu t 4294967295) (some (Zm [Zh [],Zz .i64 104],[])) (sel (!Zu lf 255) (some (Zm [Zh [],Zz .i64 104],[])) (Zw (chk (decide (t1≤70368744170000)) (some (Zh (Kerb.putPrin (Kerb.header 1 li) (Zy x y z)),[]))) (kB fun b=>Zw (chk (decide (Zx b≤70368744177664)) (some (AV.ownB (b++Yb t 4 li),[]))) (kO fun l=>Zw (chk (decide (Zx l≤70368744177664)) (some (AV.ownB (l++Yb lf 1 false),[]))) (kO fun l=>Zw (chk (decide (Zx l+Zx sv≤70368744177664)) (some (Zh (Wz l sv),[]))) (kB fun b=>Zw (chk (decide (Zx b+Zx ins≤70368744177664)) (some (Zh (Wz b ins),[]))) (kB fun b=>some (Zm [Zh b,Zz .i64 0],[])))))))))))))):Option (AV×Blocks))) (by kernel_rfl) ?_
  delta kB kO kL
  try dsimp only [cStr,cBs,cBool,cU8,cInt,cSl,l63]
  simp only [Yh,decide_eq_true_eq] at hpre
  obtain ⟨⟨⟨⟨q1,q2⟩,q3⟩,q4⟩,q5⟩:=hpre
  simp only [A0]
  unfold Wp
  rw [chk_of (by simp [q1,q2,q3])]
  cases h1:Zb ⟨x,y,z⟩
  ·rfl
  rw [Ym,sel_false,chk_of (by simp [q4])]
  cases h2:Wq sv
  ·rfl
  rw [Ym,sel_false,chk_of (by simp [q5])]
  cases h3:Wj ins
  ·rfl
  rw [Ym,sel_false]
  cases h4:Zu t 4294967295
  ·rfl
  rw [Ym,sel_false]
  cases h5:Zu lf 255
  ·rfl
  rw [Ym,sel_false]
  have l1:=Kerb.valid_len h1
  have l2:=Kerb.validName_len h2
  have l3:=Kerb.validInst_len h3
  have l4:=Kerb.header_len 1 li
  simp only at l1
  rw [chk_of (by simp;omega),chk_of (by simp [Yx];omega),chk_of (by simp [Yx,Yz];omega),chk_of (by simp [Yx,Yz];omega),chk_of (by simp [Kerb.putText_len,Yx,Yz];omega)]
  rfl
 ·cases h
theorem w36:Walked Try.prog G 36 8 sp36:=by
 refine ⟨Try.f36,Try.func36,by decide +kernel,rfl,fun xs bl r h=> ?_⟩
 unfold sp36 at h
 split at h
 ·rename_i li mu kv rl tk au tm lf sv ins
  obtain ⟨hpre,h2⟩:=chk_inv h;cases h2
  refine Eq.trans (b:=(sel mu (some (Zm [Zh [],Zz .i64 100],[])) (Zw (chk (l63 rl) (some (Zm [Zh (Xm (Kerb.encodeAp (Xn li mu kv rl tk au))),Zz .i64 (Xh (Kerb.encodeAp (Xn li mu kv rl tk au)))],[]))) (kT fun vs=>cBs vs fun b r=>cInt .i64 r fun n r=>onNil r (sel (!n==0) (some (Zm [Zh [],Zz .i64 n],[])) (Zw (chk (l63 sv) (some (Zf (Wq sv),[]))) (kL fun b_1=>sel (!b_1) (some (Zm [Zh [],Zz .i64 103],[])) (Zw (chk (l63 ins) (some (Zf (Wj ins),[]))) (kL fun b_2=>sel (!b_2) (some (Zm [Zh [],Zz .i64 103],[])) (sel (!Zu tm 4294967295) (some (Zm [Zh [],Zz .i64 104],[])) (sel (!Zu lf 255) (some (Zm [Zh [],Zz .i64 104],[])) (Zw (chk (decide (Zx b≤70368744177664)) (some (AV.ownB (b++Yb tm 4 li),[]))) (kO fun l=>Zw (chk (decide (Zx l≤70368744177664)) (some (AV.ownB (l++Yb lf 1 false),[]))) (kO fun l=>Zw (chk (decide (Zx l+Zx sv≤70368744177664)) (some (Zh (Wz l sv),[]))) (kB fun b=>Zw (chk (decide (Zx b+Zx ins≤70368744177664)) (some (Zh (Wz b ins),[]))) (kB fun b=>some (Zm [Zh b,Zz .i64 0],[]))))))))))))))):Option (AV×Blocks))) (by kernel_rfl) ?_
  delta kT kB kO kL
  try dsimp only [cStr,cBs,cBool,cU8,cInt,cSl,l63]
  simp only [Yh,decide_eq_true_eq] at hpre
  obtain ⟨⟨p1,p2⟩,p3⟩:=hpre
  simp only [A0,Yy,Yu,Zj,p1,p2,p3,decide_true]
  have hL:∀ q,Kerb.encodeAp ⟨li,mu,kv,rl,tk,au⟩=q→Wk ⟨⟨li,mu,kv,rl,tk,au⟩,tm,lf,sv,ins⟩=if mu then ⟨[],100⟩ else if q.err≠0 then ⟨[],q.err⟩ else if !(Wq sv&&Wj ins) then ⟨[],103⟩ else if !(Zu tm 4294967295&&Zu lf 255) then ⟨[],104⟩ else ⟨Wz (Wz (q.val++Yb tm 4 li++Yb lf 1 false) sv) ins,0⟩:=by rintro _ rfl;rfl
  have hl:=Kerb.encodeAp_len ⟨li,mu,kv,rl,tk,au⟩
  obtain ⟨q,hq⟩:∃ q,Kerb.encodeAp ⟨li,mu,kv,rl,tk,au⟩=q:=⟨_,rfl⟩
  rw [hL q hq,hq]
  rw [hq] at hl
  cases mu
  case true=>rfl
  rw [sel_false,if_neg (by simp)]
  by_cases h1:q.err=0
  case neg=>rw [sel_pos (by simpa using h1),if_pos h1]
  rw [sel_neg (by simpa using h1),if_neg (by simpa using h1)]
  cases h2:Wq sv
  ·rfl
  cases h3:Wj ins
  ·rfl
  cases Zu tm 4294967295
  ·rfl
  cases Zu lf 255
  ·rfl
  have l2:=Kerb.validName_len h2
  have l3:=Kerb.validInst_len h3
  simp only [Ym,sel_false,Xx,Bool.false_eq_true,if_false]
  rw [chk_of (by simp;omega),chk_of (by simp [Yz];omega),chk_of (by simp [Yz];omega),chk_of (by simp [Yz,Kerb.putText_len];omega)]
 ·cases h
theorem w85:Walked Try.prog G 85 8 sp85:=by
 refine ⟨Try.f85,Try.func85,by decide +kernel,rfl,fun xs bl r h=> ?_⟩
 unfold sp85 at h
 split at h
 ·rename_i x y z ck tc tm
  obtain ⟨hpre,h2⟩:=chk_inv h;cases h2
  refine Eq.trans (b:=(Zw (chk (decide (Zx x≤9223372036854775807)&&decide (Zx y≤9223372036854775807)&&decide (Zx z≤9223372036854775807)) (some (Zf (Zb (Zy x y z)),[]))) fun (r:AV×Blocks)=>onNilB (Prod.snd r) (AV.onBool (Prod.fst r) fun b=>sel (!b) (some (Zz .i64 103,[])) (sel (!Zu ck 4294967295) (some (Zz .i64 104,[])) (sel (!Zu tc 199) (some (Zz .i64 104,[])) (sel (!Zu tm 4294967295) (some (Zz .i64 104,[])) (some (Zz .i64 0,[])))))):Option (AV×Blocks))) (by kernel_rfl) ?_
  simp only [A0,Yy,Yu,Zj,hpre]
  unfold Kerb.Auth.check
  simp only
  cases Zb ⟨x,y,z⟩
  ·rfl
  cases Zu ck 4294967295
  ·rfl
  cases Zu tc 199
  ·rfl
  cases Zu tm 4294967295<;>rfl
 ·cases h
theorem w7:Walked Try.prog G 7 9 sp7:=by
 refine ⟨Try.f7,Try.func7,by decide +kernel,rfl,fun xs bl r h=> ?_⟩
 unfold sp7 at h
 split at h
 ·rename_i x y z ad sk li
  obtain ⟨hpre,h2⟩:=chk_inv h;cases h2
  refine Eq.trans (b:=(let t1:List AV:=[Zz .i64 0,Zv [],Zv [],Zv [],Zz .u64 0,Zz .i64 0,Zz .i64 0,Zz .i64 0,Zz .i64 0];let t2:Kerb.Prin:=Yq (bif Zb (Zy x y z) then Yj (Zy x y z) [] else Kerb.noCache);let t3:Bool:=l63 x&&l63 y&&l63 z;let t0:AV:=Xq (Zv []::Zv []::Zv []::Zz .i64 0::Zz .i64 0::Zf false::Zv []::Zv []::Zv []::AV.sl 8 []::t1);Zw (chk t3 (some (Zf (Zb (Zy x y z)),[]))) (kL fun b=>sel (!b) (some (Zm [t0,Zz .i64 103],[])) (sel (!Zu ad 4294967295) (some (Zm [t0,Zz .i64 104],[])) (sel (!Zu sk 4294967295) (some (Zm [t0,Zz .i64 104],[])) (Zw (chk t3 (some (Zm [Xq [Zv (Zn t2),Zv (Zd t2),Zv (Zp t2),AV.sl 8 (Xz Zj (Xj (bif Zb (Zy x y z) then Yj (Zy x y z) [] else Kerb.noCache)))],Zz .i64 (bif Zb (Zy x y z) then 0 else 103)],[]))) (kT fun vs=>onCons vs fun x_1 r=>AV.onAgg x_1 fun cs=>onCons cs fun x_2 r_1=>AV.onStr x_2 fun b=>onCons r_1 fun x_3 r_2=>AV.onStr x_3 fun b_1=>onCons r_2 fun x_4 r_3=>AV.onStr x_4 fun b_2=>onCons r_3 fun x_5 r_4=>AV.onSl 8 x_5 fun b_3=>onNil r_4 (onCons r fun x_6 r=>Xu .i64 x_6 fun n=>onNil r (sel (!n==0) (some (Zm [t0,Zz .i64 n],[])) (some (Zm [Xq (Zv x::Zv y::Zv z::Zz .i64 ad::Zz .i64 sk::Zf li::Zv b::Zv b_1::Zv b_2::AV.sl 8 b_3::t1),Zz .i64 0],[]))))))))):Option (AV×Blocks))) (by kernel_rfl) ?_
  delta kT kL
  try dsimp only [cStr,cBs,cBool,cU8,cInt,cSl,l63]
  simp only [A0,Yy,Yu,Zj,hpre]
  unfold Yd
  cases h:Zb ⟨x,y,z⟩
  ·rfl
  cases Zu ad 4294967295
  ·rfl
  cases Zu sk 4294967295<;>rfl
 ·cases h
theorem w12:Walked Try.prog G 12 9 sp12:=by
 refine ⟨Try.f12,Try.func12,by decide +kernel,rfl,fun xs bl r h=> ?_⟩
 unfold sp12 at h
 split at h
 ·rename_i m1 m2 m3 ad sk li o1 o2 o3 els wt w1 w2 w3 se tm lf cs tc
  obtain ⟨hpre,h2⟩:=chk_inv h;cases h2
  refine Eq.trans (b:=(Zw (chk (decide (Zx m1≤9223372036854775807)&&decide (Zx m2≤9223372036854775807)&&decide (Zx m3≤9223372036854775807)) (some (Zf (Zb (Zy m1 m2 m3)),[]))) fun (r:AV×Blocks)=>onNilB (Prod.snd r) (AV.onBool (Prod.fst r) fun b=>sel (!b) (some (Zz .i64 103,[])) (sel (!Zu ad 4294967295) (some (Zz .i64 104,[])) (sel (!Zu sk 4294967295) (some (Zz .i64 104,[])) (sel (decide (wt<0)) (some (Zz .i64 104,[])) (sel (decide (wt>3)) (some (Zz .i64 104,[])) (Zw (chk (decide (Zx o1≤9223372036854775807)&&decide (Zx o2≤9223372036854775807)&&decide (Zx o3≤9223372036854775807)&&Xy els Yp&&decide (Zx els≤1000000)) (some (Zz .i64 (Kerb.Cache.err (Yj (Zy o1 o2 o3) (Xz Yg els))),[]))) fun (r:AV×Blocks)=>onNilB (Prod.snd r) (Xu .i64 (Prod.fst r) fun n=>sel (!n==0) (some (Zz .i64 n,[])) (sel (!(o1==m1&&(o2==m2&&o3==m3))) (some (Zz .i64 103,[])) (some (Zz .i64 0,[])))))))))):Option (AV×Blocks))) (by kernel_rfl) ?_
  simp only [Yh,decide_eq_true_eq] at hpre
  have c1:(decide (m1.length≤9223372036854775807)&&decide (m2.length≤9223372036854775807)&&decide (m3.length≤9223372036854775807))=true:=by simp;omega
  have c2:(decide (o1.length≤9223372036854775807)&&decide (o2.length≤9223372036854775807)&&decide (o3.length≤9223372036854775807)&&els.all Yp&&decide (els.length≤1000000))=true:=by simp only [Yh,decide_eq_true_eq];exact ⟨⟨⟨⟨by omega,by omega⟩,by omega⟩,hpre.1.2⟩,hpre.2⟩
  simp only [A0,Yy,Yu,Zj,c1,c2]
  unfold Yk
  simp only
  cases Zb ⟨m1,m2,m3⟩
  ·rfl
  cases Zu ad 4294967295
  ·rfl
  cases Zu sk 4294967295
  ·rfl
  simp only [Ym,sel_false,Xx]
  rw [if_neg (by simp),if_neg (by simp)]
  by_cases h1:0≤wt
  case neg=>rw [sel_pos (by simp;omega),if_pos (by simp;omega)]
  by_cases h2:wt≤3
  case neg=>rw [sel_neg (by simp;omega),sel_pos (by simp;omega),if_pos (by simp;omega)]
  rw [sel_neg (by simp;omega),sel_neg (by simp;omega),if_neg (by simp;omega)]
  by_cases h3:Kerb.Cache.err ⟨⟨o1,o2,o3⟩,els.map Yg⟩=0
  case neg=>rw [sel_pos (by simpa using h3),if_pos h3]
  rw [sel_neg (by simp [h3]),if_neg (by simpa using h3)]
  show sel (!Kerb.Prin.eqb ⟨o1,o2,o3⟩ ⟨m1,m2,m3⟩) _ _=_
  cases Kerb.Prin.eqb ⟨o1,o2,o3⟩ ⟨m1,m2,m3⟩<;>rfl
 ·cases h
theorem w75:Walked Try.prog G 75 9 sp75:=by
 refine ⟨Try.f75,Try.func75,by decide +kernel,rfl,fun xs bl r h=> ?_⟩
 unfold sp75 at h
 split at h
 ·rename_i x y z ck tc tm li
  obtain ⟨hpre,h2⟩:=chk_inv h;cases h2
  refine Eq.trans (b:=(let t0:Nat:=Zx ([]++Yb 1 1 false)+Zx x+Zx y+Zx z;let t1:Nat:=Zx ([]++Yb 0 1 false)+Zx x+Zx y+Zx z;Zw (chk (l63 x&&l63 y&&l63 z) (some (Zz .i64 (Kerb.Auth.check (Xw (Zy x y z) ck tc tm)),[]))) (kI .i64 fun n=>sel (!n==0) (some (Zm [Zh [],Zz .i64 n],[])) (sel li (Zw (chk (decide (t0≤70368744170000)) (some (Zh (Kerb.putPrin ([]++Yb 1 1 false) (Zy x y z)),[]))) (kB fun b=>Zw (chk (decide (Zx b≤70368744177664)) (some (AV.ownB (b++Yb ck 4 li),[]))) (kO fun l=>Zw (chk (decide (Zx l≤70368744177664)) (some (AV.ownB (l++Yb tc 1 false),[]))) (kO fun l=>Zw (chk (decide (Zx l≤70368744177664)) (some (AV.ownB (l++Yb tm 4 li),[]))) (kO fun l=>Zw (chk (decide (Zx l≤70368744177664)) (some (Zh (Kerb.pad l),[]))) (kB fun b=>some (Zm [Zh b,Zz .i64 0],[]))))))) (Zw (chk (decide (t1≤70368744170000)) (some (Zh (Kerb.putPrin ([]++Yb 0 1 false) (Zy x y z)),[]))) (kB fun b=>Zw (chk (decide (Zx b≤70368744177664)) (some (AV.ownB (b++Yb ck 4 li),[]))) (kO fun l=>Zw (chk (decide (Zx l≤70368744177664)) (some (AV.ownB (l++Yb tc 1 false),[]))) (kO fun l=>Zw (chk (decide (Zx l≤70368744177664)) (some (AV.ownB (l++Yb tm 4 li),[]))) (kO fun l=>Zw (chk (decide (Zx l≤70368744177664)) (some (Zh (Kerb.pad l),[]))) (kB fun b=>some (Zm [Zh b,Zz .i64 0],[]))))))))):Option (AV×Blocks))) (by kernel_rfl) ?_
  delta kB kO kI
  try dsimp only [cStr,cBs,cBool,cU8,cInt,cSl,l63]
  simp only [A0,Yy,Yu,Zj,hpre]
  unfold Kerb.encodeAuth
  by_cases h:(Xw ⟨x,y,z⟩ ck tc tm).check=0
  case neg =>
   rw [sel_pos (by simpa using h),if_pos h]
  have hv:Zb ⟨x,y,z⟩=true:=by
   unfold Kerb.Auth.check at h
   cases hv:Zb ⟨x,y,z⟩
   ·simp [hv] at h
   ·rfl
  have l1:=Kerb.valid_len hv
  simp only at l1
  rw [sel_neg (by simp [h]),if_neg (by simpa using h)]
  cases li
  ·simp only [A0,Yy,Yu,Zj,List.nil_append,cond_false,cond_true]
   rw [chk_of (by simp [Yz];omega),chk_of (by simp [Yz,Yx];omega),chk_of (by simp [Yz,Yx];omega),chk_of (by simp [Yz,Yx];omega),chk_of (by simp [Yz,Yx];omega)]
  ·simp only [A0,Yy,Yu,Zj,List.nil_append,cond_false,cond_true]
   rw [chk_of (by simp [Yz];omega),chk_of (by simp [Yz,Yx];omega),chk_of (by simp [Yz,Yx];omega),chk_of (by simp [Yz,Yx];omega),chk_of (by simp [Yz,Yx];omega)]
 ·cases h
theorem w16:Walked Try.prog G 16 10 sp16:=by
 refine ⟨Try.f16,Try.func16,by decide +kernel,rfl,fun xs bl r h=> ?_⟩
 unfold sp16 at h
 split at h
 ·rename_i m1 m2 m3 ad sk li o1 o2 o3 els wt w1 w2 w3 se tm lf cs tc life now
  obtain ⟨hpre,h2⟩:=chk_inv h;cases h2
  refine Eq.trans (b:=(let t0:AV:=Xq [Zv [],Zv [],Zv [],Zz .i64 0,Zz .i64 0,Zf false,Zv [],Zv [],Zv [],AV.sl 8 [],Zz .i64 0,Zv [],Zv [],Zv [],Zz .u64 0,Zz .i64 0,Zz .i64 0,Zz .i64 0,Zz .i64 0];let t1:Kerb.Enc:=Wp (Kerb.KdcRequest.mk li (Zy m1 m2 m3) now life [(107:UInt8),(114:UInt8),(98:UInt8),(116:UInt8),(103:UInt8),(116:UInt8)] m3);let t2:Bool:=l63 m1&&l63 m2&&l63 m3;Zw (chk (t2&&l63 o1&&l63 o2&&l63 o3&&Xy els Yp&&decide (Zx els≤1000000)) (some (Zz .i64 (Yk (Zq (Zy m1 m2 m3) ad sk li (Yj (Zy o1 o2 o3) (Xz Yg els)) wt (Zy w1 w2 w3) se tm lf cs tc)),[]))) (kI .i64 fun n=>sel (!n==0) (some (Zm [t0,Zh [],Zz .i64 108],[])) (sel (!Zu now 4294967295) (some (Zm [t0,Zh [],Zz .i64 104],[])) (sel (!Zu life 255) (some (Zm [t0,Zh [],Zz .i64 104],[])) (Zw (chk (t2&&true&&l63 m3) (some (Zm [Zh (Xm t1),Zz .i64 (Xh t1)],[]))) (kT fun vs=>cBs vs fun b r=>cInt .i64 r fun n r=>onNil r (sel (!n==0) (some (Zm [t0,Zh [],Zz .i64 n],[])) (some (Zm [Xq [Zv m1,Zv m2,Zv m3,Zz .i64 ad,Zz .i64 sk,Zf li,Zv o1,Zv o2,Zv o3,AV.sl 8 els,Zz .i64 1,Zv [(107:UInt8),(114:UInt8),(98:UInt8),(116:UInt8),(103:UInt8),(116:UInt8)],Zv m3,Zv m3,Zz .u64 0,Zz .i64 now,Zz .i64 life,Zz .i64 0,Zz .i64 0],Zh b,Zz .i64 0],[])))))))):Option (AV×Blocks))) (by kernel_rfl) ?_
  delta kT kI
  try dsimp only [cStr,cBs,cBool,cU8,cInt,cSl,l63]
  have hall:els.all Yp=true:=by simp only [Yh] at hpre;exact hpre.1.2
  have c3:(decide (m1.length≤9223372036854775807)&&decide (m2.length≤9223372036854775807)&&decide (m3.length≤9223372036854775807)&&true&&decide (m3.length≤9223372036854775807))=true:=by
   simp only [Yh,decide_eq_true_eq] at hpre
   simp;omega
  simp only [A0,Yy,Yu,Zj,hpre,c3]
  obtain ⟨ds,rfl,hok⟩:=Kerb.creds_of hall
  simp only [Kerb.map_toCred]
  have hL:∀ e q,(Zq ⟨m1,m2,m3⟩ ad sk li ⟨⟨o1,o2,o3⟩,ds⟩ wt ⟨w1,w2,w3⟩ se tm lf cs tc).err=e→Wp ⟨li,⟨m1,m2,m3⟩,now,life,[107,114,98,116,103,116],m3⟩=q→Kerb.login (Zq ⟨m1,m2,m3⟩ ad sk li ⟨⟨o1,o2,o3⟩,ds⟩ wt ⟨w1,w2,w3⟩ se tm lf cs tc) life now=if e≠0 then ⟨Kerb.noClient,[],108⟩ else if !(Zu now 4294967295&&Zu life 255) then ⟨Kerb.noClient,[],104⟩ else if q.err≠0 then ⟨Kerb.noClient,[],q.err⟩ else ⟨⟨⟨m1,m2,m3⟩,ad,sk,li,⟨⟨o1,o2,o3⟩,ds⟩,1,⟨[107,114,98,116,103,116],m3,m3⟩,0,now,life,0,0⟩,q.val,0⟩:=by rintro _ _ rfl rfl;rfl
  obtain ⟨e,he⟩:∃ e,(Zq ⟨m1,m2,m3⟩ ad sk li ⟨⟨o1,o2,o3⟩,ds⟩ wt ⟨w1,w2,w3⟩ se tm lf cs tc).err=e:=⟨_,rfl⟩
  obtain ⟨q,hq⟩:∃ q,Wp ⟨li,⟨m1,m2,m3⟩,now,life,[107,114,98,116,103,116],m3⟩=q:=⟨_,rfl⟩
  rw [hL e q he hq,he,hq]
  by_cases h1:e=0
  case neg=>rw [sel_pos (by simpa using h1),if_pos h1];rfl
  rw [sel_neg (by simpa using h1),if_neg (by simpa using h1)]
  cases Zu now 4294967295
  ·rfl
  cases Zu life 255
  ·rfl
  simp only [Ym,sel_false,Xx,Bool.false_eq_true,if_false]
  by_cases h2:q.err=0
  case neg=>rw [sel_pos (by simpa using h2),if_pos h2];rfl
  rw [sel_neg (by simpa using h2),if_neg (by simpa using h2)]
 ·cases h
theorem w59:Walked Try.prog G 59 10 sp59:=by
 refine ⟨Try.f59,Try.func59,by decide +kernel,rfl,fun xs bl r h=> ?_⟩
 unfold sp59 at h
 split at h
 ·rename_i x y z ck tc tm li k
  obtain ⟨hpre,h2⟩:=chk_inv h;cases h2
  refine Eq.trans (b:=(Zw (chk (decide (Zx x≤9223372036854775807)&&decide (Zx y≤9223372036854775807)&&decide (Zx z≤9223372036854775807)) (some (Zm [Zh (Xm (Kerb.encodeAuth (Xw (Zy x y z) ck tc tm) li)),Zz .i64 (Xh (Kerb.encodeAuth (Xw (Zy x y z) ck tc tm) li))],[]))) fun (r:AV×Blocks)=>onNilB (Prod.snd r) (AV.onTup (Prod.fst r) fun vs=>onCons vs fun x r=>AV.onBs x fun b=>onCons r fun x r=>Xu .i64 x fun n=>onNil r (sel (!n==0) (some (Zm [Zh [],Zz .i64 n],[])) (Zw (chk (decide (0≤k)&&decide (k<18446744073709551616)) (some (Zm [Zh (Xm (Kerb.makeBox 2 k b)),Zz .i64 (Xh (Kerb.makeBox 2 k b))],[]))) fun (r:AV×Blocks)=>onNilB (Prod.snd r) (AV.onTup (Prod.fst r) fun vs=>onCons vs fun x r=>AV.onBs x fun b=>onCons r fun x r=>Xu .i64 x fun n=>onNil r (some (Zm [Zh b,Zz .i64 n],[])))))):Option (AV×Blocks))) (by kernel_rfl) ?_
  have hpre':=hpre
  simp only [Yh,decide_eq_true_eq] at hpre
  have c1:(decide (x.length≤9223372036854775807)&&decide (y.length≤9223372036854775807)&&decide (z.length≤9223372036854775807))=true:=by simp;omega
  have c2:(decide (0≤k)&&decide (k<18446744073709551616))=true:=by simp;omega
  simp only [A0,Yy,Yu,Zj,c1,c2]
  unfold Kerb.sealAuth
  by_cases h:(Kerb.encodeAuth (Xw ⟨x,y,z⟩ ck tc tm) li).err=0
  ·rw [sel_neg (by simp [h]),if_neg (by simpa using h)]
  ·rw [sel_pos (by simpa using h),if_pos h]
 ·cases h
theorem w35:Walked Try.prog G 35 11 sp35:=by
 refine ⟨Try.f35,Try.func35,by decide +kernel,rfl,fun xs bl r h=> ?_⟩
 unfold sp35 at h
 split at h
 ·rename_i m1 m2 m3 ad sk li o1 o2 o3 els wt w1 w2 w3 se tm lf cs tc s1 s2 s3 sk2 lf2 kv2 is2 tk2 mu x y z ck tc2 tm2
  obtain ⟨hpre,h2⟩:=chk_inv h;cases h2
  refine Eq.trans (b:=(Zw (chk (decide (Zx x≤9223372036854775807)&&decide (Zx y≤9223372036854775807)&&decide (Zx z≤9223372036854775807)&&decide (0≤sk2)&&decide (sk2<18446744073709551616)) (some (Zm [Zh (Xm (Kerb.sealAuth (Xw (Zy x y z) ck tc2 tm2) li sk2)),Zz .i64 (Xh (Kerb.sealAuth (Xw (Zy x y z) ck tc2 tm2) li sk2))],[]))) fun (r:AV×Blocks)=>onNilB (Prod.snd r) (AV.onTup (Prod.fst r) fun vs=>onCons vs fun x r=>AV.onBs x fun b=>onCons r fun x r=>Xu .i64 x fun n=>onNil r (sel (!n==0) (some (Zm [Xq [Zf false,Zf false,Zz .i64 0,Zv [],Zh [],Zh []],Zz .i64 n],[])) (some (Zm [Xq [Zf li,Zf mu,Zz .i64 kv2,Zv s3,Zh tk2,Zh b],Zz .i64 0],[])))):Option (AV×Blocks))) (by kernel_rfl) ?_
  simp only [A0,Yy,Yu,Zj,hpre]
  unfold Kerb.apOf
  simp only
  by_cases h:(Kerb.sealAuth ⟨⟨x,y,z⟩,ck,tc2,tm2⟩ li sk2).err=0
  ·rw [sel_neg (by simp [h]),if_neg (by simpa using h)]
  ·rw [sel_pos (by simpa using h),if_pos h]
   rfl
 ·cases h
theorem w17:Walked Try.prog G 17 12 sp17:=by
 refine ⟨Try.f17,Try.func17,by decide +kernel,rfl,fun xs bl r h=> ?_⟩
 unfold sp17 at h
 split at h
 ·rename_i m1 m2 m3 ad sk li o1 o2 o3 els wt w1 w2 w3 se tm lf cs tc x y z life now tick
  obtain ⟨hpre,h2⟩:=chk_inv h;cases h2
  refine Eq.trans (b:=(let t0:AV:=Xq [Zv [],Zv [],Zv [],Zz .i64 0,Zz .i64 0,Zf false,Zv [],Zv [],Zv [],AV.sl 8 [],Zz .i64 0,Zv [],Zv [],Zv [],Zz .u64 0,Zz .i64 0,Zz .i64 0,Zz .i64 0,Zz .i64 0];let t1:Kerb.Client:=Zq (Zy m1 m2 m3) ad sk li (Yj (Zy o1 o2 o3) (Xz Yg els)) wt (Zy w1 w2 w3) se tm lf cs tc;let t2:AV:=Xq [Zv [],Zv [],Zv [],Zz .u64 0,Zz .i64 0,Zz .i64 0,Zz .i64 0,Zh []];let t4:Kerb.Auth:=Xw (Zy m1 m2 m3) 0 tick now;let t6:Kerb.Dec Kerb.Cred:=Kerb.liveCred (Xz Yg els) (Zy [(107:UInt8),(114:UInt8),(98:UInt8),(116:UInt8),(103:UInt8),(116:UInt8)] z m3) now;let t7:Bool:=l63 m1&&l63 m2&&l63 m3;let t3:Kerb.Cred:=Kerb.Dec.val t6;let t5:Option (AV×Blocks):=some (Zm [t0,Zh [],t2,Zh [],Zz .i64 104],[]);Zw (chk (t7&&l63 o1&&l63 o2&&l63 o3&&Xy els Yp&&decide (Zx els≤1000000)) (some (Zz .i64 (Yk t1),[]))) (kI .i64 fun n=>sel (!n==0) (some (Zm [t0,Zh [],t2,Zh [],Zz .i64 108],[])) (Zw (chk (l63 x&&l63 y&&l63 z) (some (Zf (Zb (Zy x y z)),[]))) (kL fun b=>sel (!b) (some (Zm [t0,Zh [],t2,Zh [],Zz .i64 103],[])) (sel (!Zu now 4294967295) t5 (sel (!Zu life 255) t5 (sel (!Zu tick 199) t5 (Zw (chk (Xy els Yp&&decide (Zx els≤1000000)&&Xy els Kerb.fitCred) (some (Zm [Xq [Zv (Zn (Kerb.Cred.service t3)),Zv (Zd (Kerb.Cred.service t3)),Zv (Zp (Kerb.Cred.service t3)),Zz .u64 (Kerb.Cred.session t3),Zz .i64 (Kerb.Cred.life t3),Zz .i64 (Kerb.Cred.kvno t3),Zz .i64 (Kerb.Cred.issued t3),Zh (Kerb.Cred.ticket t3)],Zz .i64 (Kerb.Dec.err t6)],[]))) (kT fun vs=>onCons vs fun x_1 r=>AV.onAgg x_1 fun cs=>onCons cs fun x_2 r_1=>AV.onStr x_2 fun b=>onCons r_1 fun x_3 r_2=>AV.onStr x_3 fun b_1=>onCons r_2 fun x_4 r_3=>AV.onStr x_4 fun b_2=>onCons r_3 fun x_5 r_4=>Xu .u64 x_5 fun n=>onCons r_4 fun x_6 r_5=>Xu .i64 x_6 fun n_1=>onCons r_5 fun x_7 r_6=>Xu .i64 x_7 fun n_2=>onCons r_6 fun x_8 r_7=>Xu .i64 x_8 fun n_3=>onCons r_7 fun x_9 r_8=>AV.onBs x_9 fun b_3=>let t8:Kerb.ApRequest:=Kerb.DecAp.val (Kerb.apOf t1 (Kerb.Cred.mk (Zy b b_1 b_2) n n_1 n_2 n_3 b_3) false t4);onNil r_8 (onCons r fun x_10 r=>Xu .i64 x_10 fun n_4=>onNil r (sel (!n_4==0) (some (Zm [t0,Zh [],t2,Zh [],Zz .i64 n_4],[])) (Zw (chk (t7&&decide (0≤n)&&decide (n<18446744073709551616)) (some (Zm [Xq [Zf (Kerb.ApRequest.little t8),Zf (Kerb.ApRequest.mutual_ t8),Zz .i64 (Kerb.ApRequest.kvno t8),Zv (Kerb.ApRequest.realm t8),Zh (Kerb.ApRequest.ticket t8),Zh (Kerb.ApRequest.auth t8)],Zz .i64 (Kerb.DecAp.err (Kerb.apOf t1 (Kerb.Cred.mk (Zy b b_1 b_2) n n_1 n_2 n_3 b_3) false t4))],[]))) (kT fun vs=>onCons vs fun x_11 r=>AV.onAgg x_11 fun cs=>onCons cs fun x_12 r_9=>AV.onBool x_12 fun b_4=>onCons r_9 fun x_13 r_10=>AV.onBool x_13 fun b_5=>onCons r_10 fun x_14 r_11=>Xu .i64 x_14 fun n_5=>onCons r_11 fun x_15 r_12=>AV.onStr x_15 fun b_6=>onCons r_12 fun x_16 r_13=>AV.onBs x_16 fun b_7=>onCons r_13 fun x_17 r_14=>AV.onBs x_17 fun b_8=>onNil r_14 (onCons r fun x_18 r=>Xu .i64 x_18 fun n_6=>onNil r (sel (!n_6==0) (some (Zm [t0,Zh [],t2,Zh [],Zz .i64 n_6],[])) (Zw (chk (l63 b_6&&l63 x&&l63 y) (some (Zm [Zh (Xm (Wk (Kerb.TgsRequest.mk (Xn b_4 b_5 n_5 b_6 b_7 b_8) now life x y))),Zz .i64 (Xh (Wk (Kerb.TgsRequest.mk (Xn b_4 b_5 n_5 b_6 b_7 b_8) now life x y)))],[]))) (kT fun vs=>onCons vs fun x_19 r=>AV.onBs x_19 fun b_9=>onCons r fun x_20 r=>Xu .i64 x_20 fun n_7=>onNil r (sel (!n_7==0) (some (Zm [t0,Zh [],t2,Zh [],Zz .i64 n_7],[])) (some (Zm [Xq [Zv m1,Zv m2,Zv m3,Zz .i64 ad,Zz .i64 sk,Zf li,Zv o1,Zv o2,Zv o3,AV.sl 8 els,Zz .i64 2,Zv x,Zv y,Zv z,Zz .u64 0,Zz .i64 now,Zz .i64 life,Zz .i64 0,Zz .i64 0],Zh b_9,Xq [Zv b,Zv b_1,Zv b_2,Zz .u64 n,Zz .i64 n_1,Zz .i64 n_2,Zz .i64 n_3,Zh b_3],Zh b_8,Zz .i64 0],[]))))))))))))))))))):Option (AV×Blocks))) (by kernel_rfl) ?_
  delta kT kL kI
  try dsimp only [cStr,cBs,cBool,cU8,cInt,cSl,l63]
  simp only [Yh,decide_eq_true_eq] at hpre
  obtain ⟨⟨⟨⟨⟨⟨⟨⟨⟨⟨p1,p2⟩,p3⟩,p4⟩,p5⟩,p6⟩,hall⟩,hlen⟩,p7⟩,p8⟩,p9⟩:=hpre
  obtain ⟨ds,rfl,hok⟩:=Kerb.creds_of hall
  simp only [A0,Yy,Yu,Zj,p1,p2,p3,p4,p5,p6,p7,p8,p9,hall,hlen,decide_true,Xx,Kerb.map_toCred]
  have hL:∀ e x' r m,(Zq ⟨m1,m2,m3⟩ ad sk li ⟨⟨o1,o2,o3⟩,ds⟩ wt ⟨w1,w2,w3⟩ se tm lf cs tc).err=e→Kerb.liveCred ds ⟨[107,114,98,116,103,116],z,m3⟩ now=x'→Kerb.apOf (Zq ⟨m1,m2,m3⟩ ad sk li ⟨⟨o1,o2,o3⟩,ds⟩ wt ⟨w1,w2,w3⟩ se tm lf cs tc) x'.val false ⟨⟨m1,m2,m3⟩,0,tick,now⟩=r→Wk ⟨r.val,now,life,x,y⟩=m →
    Kerb.ask (Zq ⟨m1,m2,m3⟩ ad sk li ⟨⟨o1,o2,o3⟩,ds⟩ wt ⟨w1,w2,w3⟩ se tm lf cs tc) ⟨x,y,z⟩ life now tick=if e≠0 then Wd 108 else if !(Zb ⟨x,y,z⟩) then Wd 103 else if !(Zu now 4294967295&&Zu life 255&&Zu tick 199) then Wd 104 else if x'.err≠0 then Wd x'.err else if r.err≠0 then Wd r.err else if m.err≠0 then Wd m.err else ⟨⟨⟨m1,m2,m3⟩,ad,sk,li,⟨⟨o1,o2,o3⟩,ds⟩,2,⟨x,y,z⟩,0,now,life,0,0⟩,m.val,x'.val,r.val.auth,0⟩:=by
   rintro _ _ _ _ rfl rfl rfl rfl;rfl
  have hfit := @Kerb.client_fit (Zq ⟨m1,m2,m3⟩ ad sk li ⟨⟨o1,o2,o3⟩,ds⟩ wt ⟨w1,w2,w3⟩ se tm lf cs tc)
  have hxo:=Kerb.live_ok hok ⟨[107,114,98,116,103,116],z,m3⟩ now
  obtain ⟨e,he⟩:∃ e,(Zq ⟨m1,m2,m3⟩ ad sk li ⟨⟨o1,o2,o3⟩,ds⟩ wt ⟨w1,w2,w3⟩ se tm lf cs tc).err=e:=⟨_,rfl⟩
  obtain ⟨x',hx⟩:∃ x',Kerb.liveCred ds ⟨[107,114,98,116,103,116],z,m3⟩ now=x':=⟨_,rfl⟩
  rw [he] at hfit
  rw [hx] at hxo
  rw [he,hx,hL e x' _ _ he hx rfl rfl]
  clear hL he hx
  by_cases h1:e=0
  case neg=>rw [sel_pos (by simpa using h1),if_pos h1];rfl
  replace hfit:=hfit h1
  simp only at hfit
  rw [sel_neg (by simpa using h1),if_neg (by simpa using h1)]
  cases Zb ⟨x,y,z⟩
  ·rfl
  cases Zu now 4294967295
  ·first | rfl | (cases Zu sum 4294967295<;>rfl)
  cases Zu life 255
  ·first | rfl | (cases Zu sum 4294967295<;>rfl)
  cases Zu tick 199
  ·first | rfl | (cases Zu sum 4294967295<;>rfl)
  simp only [Ym,sel_false,Xx,Bool.false_eq_true,if_false,hfit,A0,Yy,Yu,Zj]
  obtain ⟨⟨⟨s1,s2,s3⟩,sk2,lf2,kv2,is2,tk2⟩,xe⟩:=x'
  have hra:=fun a=>Kerb.apOf_realm (c:=(Zq ⟨m1,m2,m3⟩ ad sk li ⟨⟨o1,o2,o3⟩,ds⟩ wt ⟨w1,w2,w3⟩ se tm lf cs tc)) hxo false a
  obtain ⟨u1,u2,u3,u4,u5,u6⟩:=hxo
  simp only at u4 u5
  simp only [u4,u5,decide_true,Xx,A0,Yy,Yu,Zj]
  by_cases h2:xe=0
  case neg=>rw [sel_pos (by simpa using h2),if_pos h2];rfl
  rw [sel_neg (by simpa using h2),if_neg (by simpa using h2)]
  replace hra:=hra ⟨⟨m1,m2,m3⟩,0,tick,now⟩
  obtain ⟨r,hr⟩:∃ r,Kerb.apOf (Zq ⟨m1,m2,m3⟩ ad sk li ⟨⟨o1,o2,o3⟩,ds⟩ wt ⟨w1,w2,w3⟩ se tm lf cs tc) ⟨⟨s1,s2,s3⟩,sk2,lf2,kv2,is2,tk2⟩ false ⟨⟨m1,m2,m3⟩,0,tick,now⟩=r:=⟨_,rfl⟩
  rw [hr] at hra ⊢
  obtain ⟨⟨li',mu',kv',rl',tk',au'⟩,re⟩:=r
  simp only at hra
  simp only [hra,decide_true,Xx,A0,Yy,Yu,Zj]
  by_cases h3:re=0
  case neg=>rw [sel_pos (by simpa using h3),if_pos h3];rfl
  rw [sel_neg (by simpa using h3),if_neg (by simpa using h3)]
  generalize Wk ⟨⟨li',mu',kv',rl',tk',au'⟩,now,life,x,y⟩=m
  by_cases h4:m.err=0
  case neg=>rw [sel_pos (by simpa using h4),if_pos h4];rfl
  rw [sel_neg (by simpa using h4),if_neg (by simpa using h4)]
 ·cases h
theorem p4  : runFn (G.env 4 13) G.rts (G.own 4) Try.f4 [] []=some (.bool true,[]):=by kernel_rfl
theorem w4:Walked Try.prog G 4 13 sp4:=by
 refine ⟨Try.f4,Try.func4,by decide +kernel,rfl,fun xs bl r h=> ?_⟩
 unfold sp4 at h
 split at h
 ·cases h;exact p4
 ·cases h
set_option maxHeartbeats 8000000 in
theorem w3:Walked Try.prog G 3 14 sp3:=by
 refine ⟨Try.f3,Try.func3,by decide +kernel,rfl,fun xs bl r h=> ?_⟩
 unfold sp3 at h
 split at h
 ·rename_i m1 m2 m3 ad sk li o1 o2 o3 els wt w1 w2 w3 se tm lf cs tc n1 n2 n3 adr skx pw ps pl pc lx wh s1 s2 s3
  obtain ⟨hpre,h2⟩:=chk_inv h;cases h2
  refine Eq.trans (b:=(let t13:Kerb.Client:=Kerb.Dec.val (Yd (Zy n1 n2 n3) adr skx lx);let t15:Option (AV×Blocks):=chk (l63 m1&&l63 m2&&l63 m3&&l63 o1&&l63 o2&&l63 o3&&Xy els Yp&&decide (Zx els≤1000000)) (some (Zz .i64 (Yk (Zq (Zy m1 m2 m3) ad sk li (Yj (Zy o1 o2 o3) (Xz Yg els)) wt (Zy w1 w2 w3) se tm lf cs tc)),[]));let t16:Option (AV×Blocks):=chk (decide (0≤Yf .i64 (↑(Yn wh):Int))&&decide (Yf .i64 (↑(Yn wh):Int)≤4611686018427387904)) (some (Xq [Zv (Zn (Xg (Yf .i64 (↑(Yn wh):Int)))),Zv (Zd (Xg (Yf .i64 (↑(Yn wh):Int)))),Zv (Zp (Xg (Yf .i64 (↑(Yn wh):Int))))],[]));let t18:UInt8:=UInt8.ofNat (Int.toNat (Int.tmod (↑(Yn wh):Int) (↑(Yn (6:UInt8)):Int)));let t19:Int:=Xk (Zk pw ps pl pc);let t20:Int:=Xd (Zk pw ps pl pc);let t21:Bool:=Xb (Zk pw ps pl pc);let t22:Int:=Wv (Zk pw ps pl pc);let t23:Int:=Wx (Zk pw ps pl pc);let t24:Int:=Wu (Zk pw ps pl pc);let t25:Int:=Ww (Zk pw ps pl pc);let t27:List AV:=[Xq [Zv [],Zv [],Zv [],Zz .u64 0,Zz .i64 0,Zz .i64 0,Zz .i64 0,Zh []]];let t29:List AV:=Xz Zj (Xj (Zg (Zk pw ps pl pc)));let t30:Int:=Xf (Zk pw ps pl pc);let t31:Int:=Wy (Zk pw ps pl pc);let t32:Kerb.Prin:=Yq (Zg (Zk pw ps pl pc));let t33:Kerb.Bytes:=Zp (Yv (Zk pw ps pl pc));let t34:Kerb.Bytes:=Zn (Yv (Zk pw ps pl pc));let t35:Kerb.Prin:=Yw (Zk pw ps pl pc);let t0:Option (AV×Blocks):=Zw t15 (kI .i64 fun n=>Zw t15 (kI .i64 fun n_1=>sel (n==n_1) (some (Zf (s3==s3&&n3==n3),[])) (some (Zf false,[]))));let t4:Option (AV×Blocks):=chk (l63 n1&&l63 n2&&l63 n3) (some (Zm [Xq [Zv (Zn (Yv t13)),Zv (Zd (Yv t13)),Zv (Zp (Yv t13)),Zz .i64 (Xf t13),Zz .i64 (Wv t13),Zf (Xb t13),Zv (Zn (Yq (Zg t13))),Zv (Zd (Yq (Zg t13))),Zv (Zp (Yq (Zg t13))),AV.sl 8 (Xz Zj (Xj (Zg t13))),Zz .i64 (Wy t13),Zv (Zn (Yw t13)),Zv (Zd (Yw t13)),Zv (Zp (Yw t13)),Zz .u64 (Xd t13),Zz .i64 (Wx t13),Zz .i64 (Wu t13),Zz .i64 (Xk t13),Zz .i64 (Ww t13)],Zz .i64 (Kerb.Dec.err (Yd (Zy n1 n2 n3) adr skx lx))],[]));let t9:Kerb.Prin:=Zy (Zn t35) (Zd t35) (Zp t35);let t11:Kerb.Prin:=Zy t34 (Zd (Yv (Zk pw ps pl pc))) t33;let t14:List AV:=t29++t27;let t17:Bool:=l63 t34&&decide (Zx (Zd (Yv (Zk pw ps pl pc)))≤9223372036854775807)&&l63 t33;let t26:Kerb.Prin:=Zy (Zn t32) (Zd t32) (Zp t32);let t28:Bool:=decide (Zx t29≤1000000);let t7:Option (AV×Blocks):=chk (t17&&l63 s1&&l63 s2&&l63 s3&&Xy t29 Yp&&t28) (some (Zz .i64 (Yk (Zq t11 t30 t22 t21 (Yj (Zy s1 s2 s3) (Xz Yg t29)) t31 t9 t20 t23 t24 t19 t25)),[]));let t10:Kerb.Cache:=Yj t26 (Xz Yg t29);let t12:Bool:=t17&&decide (Zx (Zn t32)≤9223372036854775807)&&decide (Zx (Zd t32)≤9223372036854775807)&&decide (Zx (Zp t32)≤9223372036854775807);let t2:Option (AV×Blocks):=chk (t12&&Xy t14 Yp&&decide (Zx t14≤1000000)) (some (Zz .i64 (Yk (Zq t11 t30 t22 t21 (Yj t26 (Xz Yg t14)) t31 t9 t20 t23 t24 t19 t25)),[]));let t6:Option (AV×Blocks):=chk (l63 t34&&l63 s2&&l63 t33&&decide (Zx (Zn t32)≤9223372036854775807)&&decide (Zx (Zd t32)≤9223372036854775807)&&decide (Zx (Zp t32)≤9223372036854775807)&&Xy t29 Yp&&t28) (some (Zz .i64 (Yk (Zq (Zy t34 s2 t33) t30 t22 t21 t10 t31 t9 t20 t23 t24 t19 t25)),[]));let t8:Bool:=t12&&Xy t29 Yp&&t28;let t1:Option (AV×Blocks):=chk t8 (some (Zz .i64 (Yk (Zq t11 t30 t22 t21 t10 t31 t9 t20 t23 t24 t19 t25)),[]));let t3:Option (AV×Blocks):=chk t8 (some (Zz .i64 (Yk (Zq t11 t30 t22 t21 t10 (Yf .i64 (Int.tmod (Yf .i64 (Int.tdiv (Yf .i64 (↑(Yn wh):Int)) 6)) 6-1)) t9 t20 t23 t24 t19 t25)),[]));let t5:Option (AV×Blocks):=chk t8 (some (Zz .i64 (Yk (Zq t11 adr t22 t21 t10 t31 t9 t20 t23 t24 t19 t25)),[]));sel (decide (20<Zx els)||(Xv (Zy m1 m2 m3)||(Xv (Zy w1 w2 w3)||Xv (Zy o1 o2 o3)))) (some (Zf true,[])) (sel (Xv (Zy n1 n2 n3)) (some (Zf true,[])) (sel (Xv (Zy s1 s2 s3)) (some (Zf true,[])) (Zw t4 (kT fun vs=>onCons vs fun x r=>AV.onAgg x fun cs=>cStr cs fun b r_1=>cStr r_1 fun b_1 r_2=>cStr r_2 fun b_2 r_3=>cInt .i64 r_3 fun n r_4=>cInt .i64 r_4 fun n_1 r_5=>cBool r_5 fun b_3 r_6=>cStr r_6 fun b_4 r_7=>cStr r_7 fun b_5 r_8=>cStr r_8 fun b_6 r_9=>cSl 8 r_9 fun b_7 r_10=>cInt .i64 r_10 fun n_2 r_11=>cStr r_11 fun b_8 r_12=>cStr r_12 fun b_9 r_13=>cStr r_13 fun b_10 r_14=>cInt .u64 r_14 fun n_3 r_15=>cInt .i64 r_15 fun n_4 r_16=>cInt .i64 r_16 fun n_5 r_17=>cInt .i64 r_17 fun n_6 r_18=>cInt .i64 r_18 fun n_7 r_19=>onNil r_19 (cInt .i64 r fun n_8 r=>onNil r (Zw t4 (kT fun vs=>onCons vs fun x r=>AV.onAgg x fun cs=>cStr cs fun b_11 r_20=>cStr r_20 fun b_12 r_21=>cStr r_21 fun b_13 r_22=>cInt .i64 r_22 fun n_9 r_23=>cInt .i64 r_23 fun n_10 r_24=>cBool r_24 fun b_14 r_25=>cStr r_25 fun b_15 r_26=>cStr r_26 fun b_16 r_27=>cStr r_27 fun b_17 r_28=>cSl 8 r_28 fun b_18 r_29=>cInt .i64 r_29 fun n_11 r_30=>cStr r_30 fun b_19 r_31=>cStr r_31 fun b_20 r_32=>cStr r_32 fun b_21 r_33=>cInt .u64 r_33 fun n_12 r_34=>cInt .i64 r_34 fun n_13 r_35=>cInt .i64 r_35 fun n_14 r_36=>cInt .i64 r_36 fun n_15 r_37=>cInt .i64 r_37 fun n_16 r_38=>onNil r_38 (cInt .i64 r fun n_17 r=>onNil r (Zw (chk (Xy b_7 Yp&&decide (Zx b_7≤1000000)&&Xy b_18 Yp&&decide (Zx b_18≤1000000)) (some (Zf (Kerb.Client.same (Zq (Zy b b_1 b_2) n n_1 b_3 (Yj (Zy b_4 b_5 b_6) (Xz Yg b_7)) n_2 (Zy b_8 b_9 b_10) n_3 n_4 n_5 n_6 n_7) (Zq (Zy b_11 b_12 b_13) n_9 n_10 b_14 (Yj (Zy b_15 b_16 b_17) (Xz Yg b_18)) n_11 (Zy b_19 b_20 b_21) n_12 n_13 n_14 n_15 n_16)),[]))) (kL fun b=>sel (!b) (some (Zf false,[])) (sel (!n_8==n_17) (some (Zf false,[])) (Zw t16 (kA fun cs=>cStr cs fun b r=>cStr r fun b_22 r=>cStr r fun b_23 r=>let t36:Kerb.Client:=Kerb.Dec.val (Yd (Zy b b_22 b_23) (Yf .i64 (↑(Yn wh):Int)) skx lx);onNil r (Zw (chk (l63 b&&l63 b_22&&l63 b_23) (some (Zm [Xq [Zv (Zn (Yv t36)),Zv (Zd (Yv t36)),Zv (Zp (Yv t36)),Zz .i64 (Xf t36),Zz .i64 (Wv t36),Zf (Xb t36),Zv (Zn (Yq (Zg t36))),Zv (Zd (Yq (Zg t36))),Zv (Zp (Yq (Zg t36))),AV.sl 8 (Xz Zj (Xj (Zg t36))),Zz .i64 (Wy t36),Zv (Zn (Yw t36)),Zv (Zd (Yw t36)),Zv (Zp (Yw t36)),Zz .u64 (Xd t36),Zz .i64 (Wx t36),Zz .i64 (Wu t36),Zz .i64 (Xk t36),Zz .i64 (Ww t36)],Zz .i64 (Kerb.Dec.err (Yd (Zy b b_22 b_23) (Yf .i64 (↑(Yn wh):Int)) skx lx))],[]))) (kT fun vs=>onCons vs fun x r=>AV.onAgg x fun cs=>cStr cs fun b r_39=>cStr r_39 fun b_24 r_40=>cStr r_40 fun b_25 r_41=>cInt .i64 r_41 fun n r_42=>cInt .i64 r_42 fun n_18 r_43=>cBool r_43 fun b_26 r_44=>cStr r_44 fun b_27 r_45=>cStr r_45 fun b_28 r_46=>cStr r_46 fun b_29 r_47=>cSl 8 r_47 fun b_30 r_48=>cInt .i64 r_48 fun n_19 r_49=>cStr r_49 fun b_31 r_50=>cStr r_50 fun b_32 r_51=>cStr r_51 fun b_33 r_52=>cInt .u64 r_52 fun n_20 r_53=>cInt .i64 r_53 fun n_21 r_54=>cInt .i64 r_54 fun n_22 r_55=>cInt .i64 r_55 fun n_23 r_56=>cInt .i64 r_56 fun n_24 r_57=>onNil r_57 (cInt .i64 r fun n_25 r=>onNil r (Zw t16 (kA fun cs=>cStr cs fun b_34 r=>cStr r fun b_35 r=>cStr r fun b_36 r=>let t37:Kerb.Client:=Kerb.Dec.val (Yd (Zy b_34 b_35 b_36) (Yf .i64 (↑(Yn wh):Int)) skx lx);onNil r (Zw (chk (l63 b_34&&l63 b_35&&l63 b_36) (some (Zm [Xq [Zv (Zn (Yv t37)),Zv (Zd (Yv t37)),Zv (Zp (Yv t37)),Zz .i64 (Xf t37),Zz .i64 (Wv t37),Zf (Xb t37),Zv (Zn (Yq (Zg t37))),Zv (Zd (Yq (Zg t37))),Zv (Zp (Yq (Zg t37))),AV.sl 8 (Xz Zj (Xj (Zg t37))),Zz .i64 (Wy t37),Zv (Zn (Yw t37)),Zv (Zd (Yw t37)),Zv (Zp (Yw t37)),Zz .u64 (Xd t37),Zz .i64 (Wx t37),Zz .i64 (Wu t37),Zz .i64 (Xk t37),Zz .i64 (Ww t37)],Zz .i64 (Kerb.Dec.err (Yd (Zy b_34 b_35 b_36) (Yf .i64 (↑(Yn wh):Int)) skx lx))],[]))) (kT fun vs=>onCons vs fun x r=>AV.onAgg x fun cs=>cStr cs fun b_37 r_58=>cStr r_58 fun b_38 r_59=>cStr r_59 fun b_39 r_60=>cInt .i64 r_60 fun n_26 r_61=>cInt .i64 r_61 fun n_27 r_62=>cBool r_62 fun b_40 r_63=>cStr r_63 fun b_41 r_64=>cStr r_64 fun b_42 r_65=>cStr r_65 fun b_43 r_66=>cSl 8 r_66 fun b_44 r_67=>cInt .i64 r_67 fun n_28 r_68=>cStr r_68 fun b_45 r_69=>cStr r_69 fun b_46 r_70=>cStr r_70 fun b_47 r_71=>cInt .u64 r_71 fun n_29 r_72=>cInt .i64 r_72 fun n_30 r_73=>cInt .i64 r_73 fun n_31 r_74=>cInt .i64 r_74 fun n_32 r_75=>cInt .i64 r_75 fun n_33 r_76=>onNil r_76 (cInt .i64 r fun n_34 r=>onNil r (Zw (chk (Xy b_30 Yp&&decide (Zx b_30≤1000000)&&Xy b_44 Yp&&decide (Zx b_44≤1000000)) (some (Zf (Kerb.Client.same (Zq (Zy b b_24 b_25) n n_18 b_26 (Yj (Zy b_27 b_28 b_29) (Xz Yg b_30)) n_19 (Zy b_31 b_32 b_33) n_20 n_21 n_22 n_23 n_24) (Zq (Zy b_37 b_38 b_39) n_26 n_27 b_40 (Yj (Zy b_41 b_42 b_43) (Xz Yg b_44)) n_28 (Zy b_45 b_46 b_47) n_29 n_30 n_31 n_32 n_33)),[]))) (kL fun b=>sel (!b) (some (Zf false,[])) (sel (!n_25==n_34) (some (Zf false,[])) (Zw t1 (kI .i64 fun n=>sel (!n==0) (some (Zf false,[])) (sel (t18==(0:UInt8)) (Zw t7 (kI .i64 fun n=>Zw t7 (kI .i64 fun n_35=>sel (n==n_35) t0 (some (Zf false,[]))))) (sel (t18==(1:UInt8)) (Zw t3 (kI .i64 fun n=>Zw t3 (kI .i64 fun n_35=>sel (n==n_35) t0 (some (Zf false,[]))))) (sel (t18==(2:UInt8)) (Zw t5 (kI .i64 fun n=>Zw t5 (kI .i64 fun n_35=>sel (n==n_35) t0 (some (Zf false,[]))))) (sel (t18==(3:UInt8)) (Zw t6 (kI .i64 fun n=>Zw t6 (kI .i64 fun n_35=>sel (n==n_35) t0 (some (Zf false,[]))))) (sel (t18==(4:UInt8)) (chk (room (Zx t29+Zx t27) (nat_lit 104)) (Zw t2 (kI .i64 fun n=>Zw t2 (kI .i64 fun n_35=>sel (n==n_35) t0 (some (Zf false,[])))))) (Zw t1 (kI .i64 fun n=>Zw t1 (kI .i64 fun n_35=>sel (n==n_35) t0 (some (Zf false,[])))))))))))))))))))))))))))))))))))):Option (AV×Blocks))) (by kernel_rfl) ?_
  delta kT kA kL kI
  try dsimp only [cStr,cBs,cBool,cU8,cInt,cSl,l63]
  cases hlong:(decide ((20:Nat)<els.length)||(Xv ⟨m1,m2,m3⟩||(Xv ⟨w1,w2,w3⟩||Xv ⟨o1,o2,o3⟩)))
  case true=>rfl
  rw [sel_false]
  cases hl2:Xv ⟨n1,n2,n3⟩
  case true=>rfl
  rw [sel_false]
  cases hl3:Xv ⟨s1,s2,s3⟩
  case true=>rfl
  rw [sel_false]
  obtain ⟨ds,rfl,hok⟩:=Kerb.creds_of hpre
  have hraw:Kerb.Client.good ⟨⟨m1,m2,m3⟩,ad,sk,li,⟨⟨o1,o2,o3⟩,ds⟩,wt,⟨w1,w2,w3⟩,se,tm,lf,cs,tc⟩:=Kerb.raw_good hok hlong
  have r1:=Kerb.good_all hraw
  have r2:=Kerb.good_lenT hraw
  obtain ⟨⟨p1,p2,p3⟩,⟨p4,p5,p6⟩,p7,p8⟩:=hraw
  dsimp only at r1 r2 p1 p2 p3 p4 p5 p6
  obtain ⟨a1,a2,a3⟩:=Kerb.longP_len hl2
  obtain ⟨b1,b2,b3⟩:=Kerb.longP_len hl3
  dsimp only at a1 a2 a3 b1 b2 b3
  have a1:n1.length≤9223372036854775807:=by omega
  have a2:n2.length≤9223372036854775807:=by omega
  have a3:n3.length≤9223372036854775807:=by omega
  have b1:s1.length≤9223372036854775807:=by omega
  have b2:s2.length≤9223372036854775807:=by omega
  have b3:s3.length≤9223372036854775807:=by omega
  have newG:∀ p x y z,p.name.length≤9223372036854775807→p.inst.length≤9223372036854775807→p.realm.length≤9223372036854775807→(Yd p x y z).val.good:=by
   intro p x y z h1 h2 h3
   unfold Yd
   split
   ·exact Kerb.noClient_good
   split
   ·exact Kerb.noClient_good
   ·exact ⟨⟨h1,h2,h3⟩,⟨h1,h2,h3⟩,(by intro c hc;exact absurd hc List.not_mem_nil),(by simp)⟩
  have bw:=Kerb.u8i_bd wh
  obtain ⟨l5,l6,l7⟩:=Kerb.user_dec (Xp wh)
  have hA:=newG ⟨n1,n2,n3⟩ adr skx lx a1 a2 a3
  have hB:=newG (Xg (Xp wh)) (Xp wh) skx lx l5 l6 l7
  have hUe:Zy (Xg (Xp wh)).name (Xg (Xp wh)).inst (Xg (Xp wh)).realm=Xg (Xp wh):=rfl
  obtain ⟨A,hAe⟩:∃ A,Yd ⟨n1,n2,n3⟩ adr skx lx=A:=⟨_,rfl⟩
  obtain ⟨B,hBe⟩:∃ B,Yd (Xg (Xp wh)) (Xp wh) skx lx=B:=⟨_,rfl⟩
  rw [hAe] at hA
  rw [hBe] at hB
  have A1:=Kerb.good_all hA
  have A2:=Kerb.good_lenT hA
  have B1:=Kerb.good_all hB
  have B2:=Kerb.good_lenT hB
  obtain ⟨⟨A3,A4,A5⟩,⟨A6,A7,A8⟩,A9,A10⟩:=hA
  obtain ⟨⟨B3,B4,B5⟩,⟨B6,B7,B8⟩,B9,B10⟩:=hB
  have hpe:=Kerb.person_err pw ps pl pc
  have hg:=Kerb.person_good pw ps pl pc
  obtain ⟨C,hC⟩:∃ C,Zk pw ps pl pc=C:=⟨_,rfl⟩
  rw [hC] at hg hpe
  have C1:=Kerb.good_all hg
  have C2:=Kerb.good_lenT hg
  obtain ⟨⟨C3,C4,C5⟩,⟨C6,C7,C8⟩,C9,C10⟩:=hg
  have hCe:Zq ⟨C.me.name,C.me.inst,C.me.realm⟩ C.address C.skew C.little ⟨⟨C.cache.owner.name,C.cache.owner.inst,C.cache.owner.realm⟩,C.cache.creds⟩ C.wait ⟨C.wanted.name,C.wanted.inst,C.wanted.realm⟩ C.session C.time C.life C.checksum C.tick=C:=rfl
  have C20:C.cache.creds.length≤20:=by
   unfold Yk at hpe
   split at hpe
   ·cases hpe
   split at hpe
   ·cases hpe
   split at hpe
   ·cases hpe
   split at hpe
   ·rename_i h;exact absurd hpe h
   ·rename_i h
    have h:C.cache.err=0:=by simpa using h
    unfold Kerb.Cache.err at h
    split at h
    ·cases h
    split at h
    ·cases h
    ·omega
  have hnc:Xq [Zv [],Zv [],Zv [],Zz IntKind.u64 0,Zz IntKind.i64 0,Zz IntKind.i64 0,Zz IntKind.i64 0,Zh []]=Zj Wf:=rfl
  have hap:(C.cache.creds.map Zj)++[Zj Wf]=(C.cache.creds++[Wf]).map Zj:=by simp
  have hall:((C.cache.creds++[Wf]).map Zj).all Yp=true:=by
   rw [List.map_append,List.all_append,C1];rfl
  have hlenA:decide (((C.cache.creds++[Wf]).map Zj).length≤1000000)=true:=by simp;omega
  have hroom:Go.Abs.room ((C.cache.creds.map Zj).length+Zx [Zj Wf]) 104=true:=by simp [Go.Abs.room];omega
  have ss:∀ (c:Bool) (x:Option (AV×Blocks)),sel c x x=x:=fun c x=>by cases c<;>rfl
  have hz:(decide ((0:Int)≤Xp wh)&&decide (Xp wh≤4611686018427387904))=true:=by simp;omega
  simp (config:={maxSteps:=10000000}) only [Kerb.wrap_u8i,hz,hnc,hap,hall,hlenA,hroom,hUe,hAe,hBe,hC,hCe,hpe,a1,a2,a3,b1,b2,b3,p1,p2,p3,p4,p5,p6,r1,r2,l5,l6,l7,A1,A2,A3,A4,A5,A6,A7,A8,B1,B2,B3,B4,B5,B6,B7,B8,C1,C2,C3,C4,C5,C6,C7,C8,Kerb.map_toCred,Kerb.Client.same_refl,BEq.rfl,Ym,↓sTrue,↓sFalse,decide_true,Xx,ss,↓sInt,↓sU8,↓sBool,↓sStr,↓sBs,↓sSl,↓sAgg,↓sTup,↓sCons,↓sNil,↓sNilB,↓sChk,↓sChkBind,↓sSome,↓sOwnL,↓sConsB,↓sOwnB]
 ·cases h
end Go.Proofs.Ytmipfdjcnkljnaa
