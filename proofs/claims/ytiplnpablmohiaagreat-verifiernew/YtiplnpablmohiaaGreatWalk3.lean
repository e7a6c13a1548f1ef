/- What the functions of this seat compute. -/
import Derived.Test.YtiplnpablmohiaaGreatTab
import Derived.Test.YtiplnpablmohiaaGreatKerbPlain
import Derived.Test.YtiplnpablmohiaaGreatAbsStep
import Derived.Test.YtiplnpablmohiaaGreatKerbCli7
import Derived.Test.YtiplnpablmohiaaGreatKerbCli3
import Derived.Test.YtiplnpablmohiaaGreatKerbCli4
import Derived.Test.YtiplnpablmohiaaGreatKerbKac4
import Derived.Test.YtiplnpablmohiaaGreatKerbVerL
open Go.Abs.AV renaming int→Zz,str→Zy,u8→Zq,bool→Zd,agg→Zf,tup→Zn,sl→Yz,bs→Yu,undef→Xp,onAgg→Xd,ownB→Wg
open List renaming length→Zx,map→Yw,length_map→Yd,all→Xv,getD→Xb,append→Wf
open Go.IntKind renaming i64→Zw,u64→Zg,wrap→Zb,u16→Wj
open Option renaming bind→Zv
open Kerb renaming putPrin_len→Zu,keyBytes_len→Zj,putN_len→Zk,long→Zh,openTicket→Yy,user→Yx,decodeTicket→Yj,toSKey→Yg,putN→Xz,get→Xy,putText→Xu,openReq→Xq,decodeAp→Xj,prin→Xk,isSKey→Xf,decodeAuth→Xn,toMark→Xm,openAuth→Xh,isMark→Ww,openBox→Wv,skeys_all→Wb,map_toMark→Vx,marks_all→Vv,marks_of→Vj
open Kerb.Dec renaming val→Zp,err→Wd
open Kerb.Prin renaming mk→Zm,realm→Yq,name→Yk,inst→Yp,valid→Vk
open Kerb.Server renaming mk→Yv,err→Xx,replay→Wz,me→Wq
open Kerb.Mark renaming av→Yf
open Int renaming toNat→Yb,tmod→Vy
open Kerb.RCache renaming mk→Yn
open Kerb.SKey renaming av→Ym
open Kerb.Ticket renaming client→Yh
open Kerb.Auth renaming client→Xw,mk→Vu
open Bool renaming and_eq_true→Xg,not_true→Wy,and_self→Wx
open Kerb.Got renaming next→Wu,val→Wk,err→Wp
open Kerb.GotP renaming val→Wn
open Nat renaming le_trans→Wm
open UInt8 renaming toNat→Wh
open Kerb.ApRequest renaming mk→Vz
open Prod renaming snd→Vw
open Kerb.Accepted renaming client→Vq
namespace Go.Proofs.YtiplnpablmohiaaGreat
open Go Go.Abs Go.Proofs
set_option linter.unusedVariables false
set_option linter.unusedSimpArgs false
set_option maxRecDepth 100000
theorem w47:Walked Tryz.prog G 47 9 sp47:=by
 refine ⟨Tryz.f47,Tryz.func47,by decide +kernel,rfl,fun xs bl r h=> ?_⟩
 unfold sp47 at h
 split at h
 ·rename_i sz fl mls a1 a2 a3 at_ atk now skw
  obtain ⟨hpre,h2⟩:=chk_inv h;cases h2
  refine Eq.trans (b:=(let t0:AV:=Zf [Zz .i64 0,Zz .i64 0,Yz 5 []];Zv (chk (Xv mls Ww&&decide (Zx mls≤1000000)) (some (Zz .i64 (Kerb.RCache.err (Yn sz fl (Yw Xm mls))),[]))) (kI .i64 fun n=>sel (!n==0) (some (Zn [t0,Zz .i64 108],[])) (Zv (chk (l63 a1&&l63 a2&&l63 a3) (some (Zd (Vk (Zm a1 a2 a3)),[]))) (kL fun b=>sel (!b) (some (Zn [t0,Zz .i64 103],[])) (sel (!(decide (0≤atk)&&decide (atk≤199))) (some (Zn [t0,Zz .i64 104],[])) (sel (!Kerb.near at_ now skw) (some (Zn [t0,Zz .i64 37],[])) (sel (decide (at_<fl)) (some (Zn [t0,Zz .i64 37],[])) (Zv (chk (Xv mls Ww&&decide (Zx mls≤1000000)) (some (Zd (Kerb.hasMark (Yw Xm mls) (Kerb.Mark.mk (Zm a1 a2 a3) at_ atk)),[]))) (kL fun b=>sel b (some (Zn [t0,Zz .i64 34],[])) (Zv (loopM (fun (st:List AV)=>cInt .i64 st fun n r=>cInt .i64 r fun n_1 r=>cSl 5 r fun b r=>cStr r fun b_1 r=>cStr r fun b_2 r=>cStr r fun b_3 r=>cInt .i64 r fun n_2 r=>cInt .i64 r fun n_3 r=>cInt .i64 r fun n_4 r=>cInt .i64 r fun n_5 r=>cSl 5 r fun b_4 r=>cInt .i64 r fun n_6 r=>cInt .i64 r fun n_7 r=>onCons r fun x r=>AV.onOwnL x fun y=>cSl 5 r fun b_5 r=>cInt .i64 r fun n_8 r=>cInt .i64 r fun n_9 r=>let t1:List AV:=[Yz 5 b_5,Zz .i64 n_8,Zz .i64 (Zb .i64 (n_9+1))];onNil r (sel (decide (n_9<n_8)) (chk (decide (0≤n_9)&&decide (n_9<(↑(Zx b_5):Int))&&true) (Xd (Xb b_5 (Yb n_9) Xp) fun cs=>cStr cs fun b_6 r=>cStr r fun b_7 r=>cStr r fun b_8 r=>cInt .i64 r fun n_10 r=>cInt .i64 r fun n_11 r=>let t2:List AV:=[Zf [Zy b_6,Zy b_7,Zy b_8,Zz .i64 n_10,Zz .i64 n_11]];onNil r (sel (decide (n_10≥n_7)) (chk (room (Zx y+Zx t2) (nat_lit 64)) (some (Sum.inl (Zz .i64 n::Zz .i64 n_1::Yz 5 b::Zy b_1::Zy b_2::Zy b_3::Zz .i64 n_2::Zz .i64 n_3::Zz .i64 n_4::Zz .i64 n_5::Yz 5 b_4::Zz .i64 n_6::Zz .i64 n_7::AV.ownL (y++t2)::t1)))) (some (Sum.inl (Zz .i64 n::Zz .i64 n_1::Yz 5 b::Zy b_1::Zy b_2::Zy b_3::Zz .i64 n_2::Zz .i64 n_3::Zz .i64 n_4::Zz .i64 n_5::Yz 5 b_4::Zz .i64 n_6::Zz .i64 n_7::AV.ownL y::t1)))))) (some (Sum.inr (Ex.exit 1,[Zz .i64 n,Zz .i64 n_1,Yz 5 b,Zy b_1,Zy b_2,Zy b_3,Zz .i64 n_2,Zz .i64 n_3,Zz .i64 n_4,Zz .i64 n_5,Yz 5 b_4,Zz .i64 n_6,Zz .i64 n_7,AV.ownL y,Yz 5 b_5,Zz .i64 n_8,Zz .i64 n_9]))))) [Zz .i64 sz,Zz .i64 fl,Yz 5 mls,Zy a1,Zy a2,Zy a3,Zz .i64 at_,Zz .i64 atk,Zz .i64 0,Zz .i64 0,Yz 5 [],Zz .i64 sz,Zz .i64 (Kerb.imax fl (Zb .i64 (now-skw))),AV.ownL [],Yz 5 mls,Zz .i64 (↑(Zx mls):Int),Zz .i64 0]) fun (r:Ex×List AV)=>cInt .i64 (Vw r) fun n r_1=>cInt .i64 r_1 fun n_1 r_2=>cSl 5 r_2 fun b r_3=>cStr r_3 fun b r_4=>cStr r_4 fun b_1 r_5=>cStr r_5 fun b_2 r_6=>cInt .i64 r_6 fun n_2 r_7=>cInt .i64 r_7 fun n_3 r_8=>let t3:List AV:=[Zf [Zy b,Zy b_1,Zy b_2,Zz .i64 n_2,Zz .i64 n_3]];cInt .i64 r_8 fun n_4 r_9=>cInt .i64 r_9 fun n_5 r_10=>cSl 5 r_10 fun b r_11=>cInt .i64 r_11 fun n_6 r_12=>cInt .i64 r_12 fun n_7 r_13=>onCons r_13 fun x r_14=>AV.onOwnL x fun y=>cSl 5 r_14 fun b r_15=>cInt .i64 r_15 fun n_8 r_16=>cInt .i64 r_16 fun n_9 r_17=>onNil r_17 (exK r.1 none fun (j:Nat)=>sel (Nat.beq j 1) (sel (decide ((↑(Zx y):Int)≥n)) (some (Zn [t0,Zz .i64 82],[])) (chk (room (Zx y+Zx t3) (nat_lit 64)) (some (Zn [Zf [Zz .i64 n_6,Zz .i64 n_7,Yz 5 (y++t3)],Zz .i64 0],[])))) none)))))))))):Option (AV×Blocks))) (by kernel_rfl) ?_
  delta kL kI
  try dsimp only [cStr,cBs,cBool,cU8,cInt,cSl,l63]
  simp only [Xg,decide_eq_true_eq] at hpre
  obtain ⟨⟨⟨⟨hall,hlen⟩,l1⟩,l2⟩,l3⟩:=hpre
  obtain ⟨cs,rfl,hok⟩:=Vj hall
  have hma:=Vv hok
  simp only [Yd] at hlen
  have hlT:decide (cs.length≤1000000)=true:=decide_eq_true hlen
  simp only [Vx,Yd,hma,hlT,l1,l2,l3,decide_true,Wx,↓A0,A0]
  obtain ⟨R,hR⟩:∃ R,Yn sz fl cs=R:=⟨_,rfl⟩
  unfold Kerb.addMark
  by_cases h1:(Yn sz fl cs).err=0
  case neg=>rw [sel_pos (by simpa using h1),if_pos h1];rfl
  rw [sel_neg (by simpa using h1),if_neg (by simpa using h1)]
  cases h2:Vk ⟨a1,a2,a3⟩
  ·rfl
  rw [Wy,sel_false,if_neg (by simp)]
  cases h3:(decide ((0:Int)≤atk)&&decide (atk≤199))
  ·rw [if_pos (by unfold Kerb.within;rw [h3];rfl)];rfl
  rw [Wy,sel_false,if_neg (by unfold Kerb.within;rw [h3];simp)]
  cases h4:Kerb.near at_ now skw
  ·rw [if_pos (.inl rfl)];rfl
  rw [Wy,sel_false]
  by_cases h5:at_<fl
  ·rw [sel_pos (by simpa using h5),if_pos (.inr h5)];rfl
  rw [sel_neg (by simpa using h5),if_neg (by simp;omega)]
  cases h6:Kerb.hasMark cs ⟨⟨a1,a2,a3⟩,at_,atk⟩
  case true=>rfl
  rw [sel_false,if_neg (by simp)]
  have hn:(0≤now∧now≤4294967295)∧(0≤skw∧skw≤4294967295):=by
   simp only [Kerb.near,Xg,Kerb.within_iff] at h4
   omega
  rw [wrap_i64 (n:=now-skw) (by omega) (by omega)]
  obtain ⟨FL,hFL⟩:∃ FL,Kerb.imax fl (now-skw)=FL:=⟨_,rfl⟩
  have hfr:Kerb.freshMarks ⟨sz,fl,cs⟩ now skw=cs.filter (fun x=>decide (FL≤x.time)):=by rw [← hFL];rfl
  rw [hfr,hFL]
  have r64:∀ {m:Nat},m≤1000001→Go.Abs.room m 64=true:=fun h=>by simp [Go.Abs.room];omega
  have hfl:∀ i,((cs.take i).filter (fun x=>decide (FL≤x.time))).length≤1000000:=fun i=>by
   refine Wm (List.length_filter_le _ _) ?_
   rw [List.length_take];omega
  refine loop_rounds (fun i:Nat=>[Zz Zw sz,Zz Zw fl,Yz 5 (cs.map Yf),Zy a1,Zy a2,Zy a3,Zz Zw at_,Zz Zw atk,Zz Zw 0,Zz Zw 0,Yz 5 [],Zz Zw sz,Zz Zw FL,AV.ownL (((cs.take i).filter (fun x=>decide (FL≤x.time))).map Yf),Yz 5 (cs.map Yf),Zz Zw (cs.length:Int),Zz Zw (i:Int)]) (fun i=>i≤cs.length) (fun i=>cs.length-i)
   (fun r=>∃ i:Nat,r=(Ex.exit 1,[Zz Zw sz,Zz Zw fl,Yz 5 (cs.map Yf),Zy a1,Zy a2,Zy a3,Zz Zw at_,Zz Zw atk,Zz Zw 0,Zz Zw 0,Yz 5 [],Zz Zw sz,Zz Zw FL,AV.ownL (((cs.take i).filter (fun x=>decide (FL≤x.time))).map Yf),Yz 5 (cs.map Yf),Zz Zw (cs.length:Int),Zz Zw (i:Int)])∧i=cs.length) 0 (Nat.zero_le _) rfl ?_ ?_
  ·intro i hi
   simp only [↓A0,A0,Yd,List.length_cons,List.length_nil]
   by_cases hlt:i<cs.length
   ·have hk1:(decide ((0:Int)≤(i:Int))&&decide ((i:Int)<(cs.length:Int))&&true)=true:=by simp;omega
    have hg:(cs.map Yf).getD i Xp=(cs.getD i Kerb.noMark).av:=Kerb.getD_row hlt
    obtain ⟨c,hc⟩:∃ c,cs.getD i Kerb.noMark=c:=⟨_,rfl⟩
    have hs:(cs.take (i+1)).filter (fun x=>decide (FL≤x.time))=(cs.take i).filter (fun x=>decide (FL≤x.time))++(if FL≤c.time then [c] else []):=by
     rw [Kerb.take_row (d:=Kerb.noMark) hlt,hc,List.filter_append]
     congr 1
     by_cases q:FL≤c.time<;>simp [q]
    rw [hc] at hg
    rw [sel_pos (by simp;omega)]
    simp only [hk1,Int.toNat_natCast,hg,Yf,↓A0,A0]
    rw [wrap_i64 (by omega) (by omega)]
    by_cases hq:FL≤c.time
    ·rw [if_pos hq] at hs
     rw [sel_pos (by simpa using hq),chk_of (r64 (by have:=hfl i;omega))]
     refine ⟨_,rfl,i+1,?_,by omega,by dsimp only;omega⟩
     dsimp only
     rw [hs,List.map_append]
     rfl
    ·rw [if_neg hq,List.append_nil] at hs
     rw [sel_neg (by simpa using hq)]
     exact ⟨_,rfl,i+1,by dsimp only;rw [hs];rfl,by omega,by dsimp only;omega⟩
   ·rw [sel_neg (by simp;omega)]
    exact ⟨_,rfl,i,rfl,by omega⟩
  ·rintro _ ⟨i,rfl,rfl⟩
   simp only [↓A0,A0,Yd,List.length_cons,List.length_nil]
   rw [sel_pos (Nat.beq_refl _),List.take_length]
   have hF:=hfl cs.length
   rw [List.take_length] at hF
   by_cases h7:sz≤((cs.filter (fun x=>decide (FL≤x.time))).length:Int)
   ·rw [sel_pos (by simp;omega),if_pos h7];rfl
   ·rw [sel_neg (by simp;omega),if_neg h7,chk_of (r64 (by omega)),List.map_append]
    rfl
 ·cases h
theorem w178:Walked Tryz.prog G 178 9 sp178:=by
 refine ⟨Tryz.f178,Tryz.func178,by decide +kernel,rfl,fun xs bl r h=> ?_⟩
 unfold sp178 at h
 split at h
 ·rename_i li x y z ad k lf iss sv ins
  obtain ⟨hpre,h2⟩:=chk_inv h;cases h2
  refine Eq.trans (b:=(let t0:Nat:=Zx ([]++Xz 1 1 false)+Zx x+Zx y+Zx z;let t1:Nat:=Zx ([]++Xz 0 1 false)+Zx x+Zx y+Zx z;let t2:Option (AV×Blocks):=chk (decide (0≤k)&&decide (k<18446744073709551616)) (some (Yu (Kerb.keyBytes k),[]));Zv (chk (l63 x&&l63 y&&l63 z&&l63 sv&&l63 ins&&decide (0≤k)&&decide (k<18446744073709551616)) (some (Zz .i64 (Kerb.Ticket.err (Kerb.Ticket.mk li (Zm x y z) ad k lf iss sv ins)),[]))) (kI .i64 fun n=>sel (!n==0) (some (Zn [Yu [],Zz .i64 n],[])) (sel li (Zv (chk (decide (t0≤70368744170000)) (some (Yu (Kerb.putPrin ([]++Xz 1 1 false) (Zm x y z)),[]))) (kB fun b=>Zv (chk (decide (Zx b≤70368744177664)) (some (Wg (b++Xz ad 4 li),[]))) (kO fun l=>Zv t2 (kB fun b=>Zv (chk (decide (Zx (Wf l (Wf b []))≤140737488355328)&&decide (Zx [Yu l,Yu b]≤1000)) (some (Wg (Wf l (Wf b [])),[]))) (kO fun l=>Zv (chk (decide (Zx l≤70368744177664)) (some (Wg (l++Xz lf 1 false),[]))) (kO fun l=>Zv (chk (decide (Zx l≤70368744177664)) (some (Wg (l++Xz iss 4 li),[]))) (kO fun l=>Zv (chk (decide (Zx l+Zx sv≤70368744177664)) (some (Yu (Xu l sv),[]))) (kB fun b=>Zv (chk (decide (Zx b+Zx ins≤70368744177664)) (some (Yu (Xu b ins),[]))) (kB fun b=>Zv (chk (decide (Zx b≤70368744177664)) (some (Yu (Kerb.pad b),[]))) (kB fun b=>some (Zn [Yu b,Zz .i64 0],[]))))))))))) (Zv (chk (decide (t1≤70368744170000)) (some (Yu (Kerb.putPrin ([]++Xz 0 1 false) (Zm x y z)),[]))) (kB fun b=>Zv (chk (decide (Zx b≤70368744177664)) (some (Wg (b++Xz ad 4 li),[]))) (kO fun l=>Zv t2 (kB fun b=>Zv (chk (decide (Zx (Wf l (Wf b []))≤140737488355328)&&decide (Zx [Yu l,Yu b]≤1000)) (some (Wg (Wf l (Wf b [])),[]))) (kO fun l=>Zv (chk (decide (Zx l≤70368744177664)) (some (Wg (l++Xz lf 1 false),[]))) (kO fun l=>Zv (chk (decide (Zx l≤70368744177664)) (some (Wg (l++Xz iss 4 li),[]))) (kO fun l=>Zv (chk (decide (Zx l+Zx sv≤70368744177664)) (some (Yu (Xu l sv),[]))) (kB fun b=>Zv (chk (decide (Zx b+Zx ins≤70368744177664)) (some (Yu (Xu b ins),[]))) (kB fun b=>Zv (chk (decide (Zx b≤70368744177664)) (some (Yu (Kerb.pad b),[]))) (kB fun b=>some (Zn [Yu b,Zz .i64 0],[]))))))))))))):Option (AV×Blocks))) (by kernel_rfl) ?_
  delta kB kO kI
  try dsimp only [cStr,cBs,cBool,cU8,cInt,cSl,l63]
  simp only [Xg,decide_eq_true_eq] at hpre
  obtain ⟨⟨⟨⟨⟨⟨h1,h2⟩,h3⟩,h4⟩,h5⟩,h6⟩,h7⟩:=hpre
  simp only [h1,h2,h3,h4,h5,h6,h7,decide_true,Wx,↓A0,A0]
  have hb := @Kerb.encTicket_inv ⟨li,⟨x,y,z⟩,ad,k,lf,iss,sv,ins⟩
  unfold Kerb.encodeTicket at hb ⊢
  dsimp only at hb ⊢
  generalize hE:Kerb.Ticket.err _=e at hb ⊢
  by_cases he:e=0
  case neg=>rw [sel_pos (by simpa using he),if_pos he]
  rw [if_neg (by simpa using he)] at hb
  obtain ⟨v1,v2,v3,_⟩:=hb rfl
  have l1:=Kerb.valid_len v1
  have l2:=(Kerb.name_ok v2).1
  have l3:=(Kerb.inst_ok v3).1
  dsimp only at l1
  rw [sel_neg (by simpa using he),if_neg (by simpa using he)]
  cases li
  ·rw [sel_false,chk_of (by first | (simp [Zu,Zk,Zj];done) | (simp [Zu,Zk,Zj];omega)),chk_of (by first | (simp [Zu,Zk,Zj];done) | (simp [Zu,Zk,Zj];omega)),chk_of (by first | (simp [Zu,Zk,Zj];done) | (simp [Zu,Zk,Zj];omega)),chk_of (by first | (simp [Zu,Zk,Zj];done) | (simp [Zu,Zk,Zj];omega)),chk_of (by first | (simp [Zu,Zk,Zj];done) | (simp [Zu,Zk,Zj];omega)),chk_of (by first | (simp [Zu,Zk,Zj];done) | (simp [Zu,Zk,Zj];omega)),chk_of (by first | (simp [Xu,Zu,Zk,Zj];done) | (simp [Xu,Zu,Zk,Zj];omega)),chk_of (by first | (simp [Xu,Zu,Zk,Zj];done) | (simp [Xu,Zu,Zk,Zj];omega))]
   simp
  ·rw [sel_true,chk_of (by first | (simp [Zu,Zk,Zj];done) | (simp [Zu,Zk,Zj];omega)),chk_of (by first | (simp [Zu,Zk,Zj];done) | (simp [Zu,Zk,Zj];omega)),chk_of (by first | (simp [Zu,Zk,Zj];done) | (simp [Zu,Zk,Zj];omega)),chk_of (by first | (simp [Zu,Zk,Zj];done) | (simp [Zu,Zk,Zj];omega)),chk_of (by first | (simp [Zu,Zk,Zj];done) | (simp [Zu,Zk,Zj];omega)),chk_of (by first | (simp [Zu,Zk,Zj];done) | (simp [Zu,Zk,Zj];omega)),chk_of (by first | (simp [Xu,Zu,Zk,Zj];done) | (simp [Xu,Zu,Zk,Zj];omega)),chk_of (by first | (simp [Xu,Zu,Zk,Zj];done) | (simp [Xu,Zu,Zk,Zj];omega))]
   simp
 ·cases h
theorem w179:Walked Tryz.prog G 179 9 sp179:=by
 refine ⟨Tryz.f179,Tryz.func179,by decide +kernel,rfl,fun xs bl r h=> ?_⟩
 unfold sp179 at h
 split at h
 ·rename_i x y z ck tc tm li
  obtain ⟨hpre,h2⟩:=chk_inv h;cases h2
  refine Eq.trans (b:=(let t0:Nat:=Zx ([]++Xz 0 1 false)+Zx x+Zx y+Zx z;let t1:Nat:=Zx ([]++Xz 1 1 false)+Zx x+Zx y+Zx z;Zv (chk (l63 x&&l63 y&&l63 z) (some (Zz .i64 (Kerb.Auth.check (Vu (Zm x y z) ck tc tm)),[]))) (kI .i64 fun n=>sel (!n==0) (some (Zn [Yu [],Zz .i64 n],[])) (sel li (Zv (chk (decide (t1≤70368744170000)) (some (Yu (Kerb.putPrin ([]++Xz 1 1 false) (Zm x y z)),[]))) (kB fun b=>Zv (chk (decide (Zx b≤70368744177664)) (some (Wg (b++Xz ck 4 li),[]))) (kO fun l=>Zv (chk (decide (Zx l≤70368744177664)) (some (Wg (l++Xz tc 1 false),[]))) (kO fun l=>Zv (chk (decide (Zx l≤70368744177664)) (some (Wg (l++Xz tm 4 li),[]))) (kO fun l=>Zv (chk (decide (Zx l≤70368744177664)) (some (Yu (Kerb.pad l),[]))) (kB fun b=>some (Zn [Yu b,Zz .i64 0],[]))))))) (Zv (chk (decide (t0≤70368744170000)) (some (Yu (Kerb.putPrin ([]++Xz 0 1 false) (Zm x y z)),[]))) (kB fun b=>Zv (chk (decide (Zx b≤70368744177664)) (some (Wg (b++Xz ck 4 li),[]))) (kO fun l=>Zv (chk (decide (Zx l≤70368744177664)) (some (Wg (l++Xz tc 1 false),[]))) (kO fun l=>Zv (chk (decide (Zx l≤70368744177664)) (some (Wg (l++Xz tm 4 li),[]))) (kO fun l=>Zv (chk (decide (Zx l≤70368744177664)) (some (Yu (Kerb.pad l),[]))) (kB fun b=>some (Zn [Yu b,Zz .i64 0],[]))))))))):Option (AV×Blocks))) (by kernel_rfl) ?_
  delta kB kO kI
  try dsimp only [cStr,cBs,cBool,cU8,cInt,cSl,l63]
  simp only [A0,Kerb.Client.av,Kerb.Cache.av,Kerb.Cred.av,hpre]
  unfold Kerb.encodeAuth
  by_cases h:(Vu ⟨x,y,z⟩ ck tc tm).check=0
  case neg =>
   rw [sel_pos (by simpa using h),if_pos h]
  have hv:Vk ⟨x,y,z⟩=true:=by
   unfold Kerb.Auth.check at h
   cases hv:Vk ⟨x,y,z⟩
   ·simp [hv] at h
   ·rfl
  have l1:=Kerb.valid_len hv
  simp only at l1
  rw [sel_neg (by simp [h]),if_neg (by simpa using h)]
  cases li
  ·simp only [A0,Kerb.Client.av,Kerb.Cache.av,Kerb.Cred.av,List.nil_append,cond_false,cond_true]
   rw [chk_of (by simp [Zk];omega),chk_of (by simp [Zk,Zu];omega),chk_of (by simp [Zk,Zu];omega),chk_of (by simp [Zk,Zu];omega),chk_of (by simp [Zk,Zu];omega)]
  ·simp only [A0,Kerb.Client.av,Kerb.Cache.av,Kerb.Cred.av,List.nil_append,cond_false,cond_true]
   rw [chk_of (by simp [Zk];omega),chk_of (by simp [Zk,Zu];omega),chk_of (by simp [Zk,Zu];omega),chk_of (by simp [Zk,Zu];omega),chk_of (by simp [Zk,Zu];omega)]
 ·cases h
theorem w154:Walked Tryz.prog G 154 10 sp154:=by
 refine ⟨Tryz.f154,Tryz.func154,by decide +kernel,rfl,fun xs bl r h=> ?_⟩
 unfold sp154 at h
 split at h
 ·rename_i b
  obtain ⟨hpre,h2⟩:=chk_inv h;cases h2
  refine Eq.trans (b:=(let t1:AV:=Zf [Zd false,Zy [],Zy [],Zy [],Zz .i64 0,Zz .u64 0,Zz .i64 0,Zz .i64 0,Zy [],Zy []];let t0:Option (AV×Blocks):=some (Zn [t1,Zz .i64 100],[]);Zv (chk (decide (Zx b≤4611686018427387904)) (some (Zn [Zz .i64 (Wk (Xy b 0 1 false)),Zz .i64 (Wu (Xy b 0 1 false)),Zz .i64 (Wp (Xy b 0 1 false))],[]))) (kT fun vs=>cInt .i64 vs fun n r=>cInt .i64 r fun n_1 r=>cInt .i64 r fun n_2 r=>onNil r (sel (decide (n>1)) (some (Zn [t1,Zz .i64 7],[])) (Zv (chk (decide (Zx b≤4611686018427387904)) (some (Zn [Zf [Zy (Yk (Wn (Xk b n_1))),Zy (Yp (Wn (Xk b n_1))),Zy (Yq (Wn (Xk b n_1)))],Zz .i64 (Kerb.GotP.next (Xk b n_1)),Zz .i64 (Kerb.GotP.err (Xk b n_1))],[]))) (kT fun vs=>onCons vs fun x r=>Xd x fun cs=>cStr cs fun b_1 r_1=>cStr r_1 fun b_2 r_2=>cStr r_2 fun b_3 r_3=>onNil r_3 (cInt .i64 r fun n_3 r=>cInt .i64 r fun n_4 r=>onNil r (Zv (chk (decide (Zx b≤4611686018427387904)) (some (Zn [Zz .i64 (Wk (Xy b n_3 4 (n==1))),Zz .i64 (Wu (Xy b n_3 4 (n==1))),Zz .i64 (Wp (Xy b n_3 4 (n==1)))],[]))) (kT fun vs=>cInt .i64 vs fun n_5 r=>cInt .i64 r fun n_6 r=>cInt .i64 r fun n_7 r=>onNil r (Zv (chk (decide (Zx b≤140737488355328)) (some (Zn [Yu (Kerb.GotB.val (Kerb.bytes b n_6 8)),Zz .i64 (Kerb.GotB.next (Kerb.bytes b n_6 8)),Zz .i64 (Kerb.GotB.err (Kerb.bytes b n_6 8))],[]))) (kT fun vs=>cBs vs fun b_4 r=>cInt .i64 r fun n_8 r=>cInt .i64 r fun n_9 r=>onNil r (Zv (chk (decide (Zx b_4≤4611686018427387904)) (some (Zn [Zz .u64 (Prod.fst (Kerb.keyRead b_4)),Zd (Vw (Kerb.keyRead b_4))],[]))) (kT fun vs=>cInt .u64 vs fun n_10 r=>cBool r fun b_5 r=>onNil r (Zv (chk (decide (Zx b≤4611686018427387904)) (some (Zn [Zz .i64 (Wk (Xy b n_8 1 false)),Zz .i64 (Wu (Xy b n_8 1 false)),Zz .i64 (Wp (Xy b n_8 1 false))],[]))) (kT fun vs=>cInt .i64 vs fun n_11 r=>cInt .i64 r fun n_12 r=>cInt .i64 r fun n_13 r=>onNil r (Zv (chk (decide (Zx b≤4611686018427387904)) (some (Zn [Zz .i64 (Wk (Xy b n_12 4 (n==1))),Zz .i64 (Wu (Xy b n_12 4 (n==1))),Zz .i64 (Wp (Xy b n_12 4 (n==1)))],[]))) (kT fun vs=>cInt .i64 vs fun n_14 r=>cInt .i64 r fun n_15 r=>cInt .i64 r fun n_16 r=>onNil r (Zv (chk (decide (Zx b≤4611686018427387904)) (some (Zn [Zy (Kerb.GotB.val (Kerb.text b n_15)),Zz .i64 (Kerb.GotB.next (Kerb.text b n_15)),Zz .i64 (Kerb.GotB.err (Kerb.text b n_15))],[]))) (kT fun vs=>cStr vs fun b_6 r=>cInt .i64 r fun n_17 r=>cInt .i64 r fun n_18 r=>onNil r (Zv (chk (decide (Zx b≤4611686018427387904)) (some (Zn [Zy (Kerb.GotB.val (Kerb.text b n_17)),Zz .i64 (Kerb.GotB.next (Kerb.text b n_17)),Zz .i64 (Kerb.GotB.err (Kerb.text b n_17))],[]))) (kT fun vs=>cStr vs fun b_7 r=>let t2:Kerb.Enc:=Kerb.encodeTicket (Kerb.Ticket.mk (n==1) (Zm b_1 b_2 b_3) n_5 n_10 n_11 n_14 b_6 b_7);cInt .i64 r fun n_19 r=>cInt .i64 r fun n_20 r=>onNil r (Zv (chk (l63 b_1&&l63 b_2&&l63 b_3&&l63 b_6&&l63 b_7&&decide (0≤n_10)&&decide (n_10<18446744073709551616)) (some (Zn [Yu (Kerb.Enc.val t2),Zz .i64 (Kerb.Enc.err t2)],[]))) (kT fun vs=>cBs vs fun b_8 r=>cInt .i64 r fun n_21 r=>onNil r (sel (!n_21==0) t0 (sel (!b_8==b) t0 (some (Zn [Zf [Zd (n==1),Zy b_1,Zy b_2,Zy b_3,Zz .i64 n_5,Zz .u64 n_10,Zz .i64 n_11,Zz .i64 n_14,Zy b_6,Zy b_7],Zz .i64 0],[]))))))))))))))))))))))))):Option (AV×Blocks))) (by kernel_rfl) ?_
  delta kT
  try dsimp only [cStr,cBs,cBool,cU8,cInt,cSl,l63]
  have hb:=of_decide_eq_true hpre
  have hpre2:decide (b.length≤4611686018427387904)=true:=by simp;omega
  simp only [hpre,hpre2,↓A0,A0]
  unfold Yj
  by_cases h7:1<(Xy b 0 1 false).val
  ·rw [sel_pos (by simpa using h7),if_pos h7];try rfl
  rw [sel_neg (by simpa using h7),if_neg h7]
  have hl:∀ p n,(Kerb.bytes b p n).val.length≤4611686018427387904:=fun p n=>Wm (Kerb.bytes_len b p n) (by omega)
  have hk:∀ q,0≤(Kerb.keyRead q).1∧(Kerb.keyRead q).1<18446744073709551616:=Kerb.keyRead_bd
  have hx:∀ q,(Kerb.text b q).val.length≤40:=Kerb.text_len b
  have lp:∀ q (_:Unit),(Xk b q).val.name.length≤40∧(Xk b q).val.inst.length≤40∧(Xk b q).val.realm.length≤40:=fun q _=>Kerb.prin_len b q
  rw [chk_of (by simp only [decide_eq_true_eq];exact hl _ _),chk_of (by simp only [Xg,decide_eq_true_eq];exact ⟨⟨⟨⟨⟨⟨Wm (lp _ ()).1 (by decide),Wm (lp _ ()).2.1 (by decide)⟩,Wm (lp _ ()).2.2 (by decide)⟩,Wm (hx _) (by decide)⟩,Wm (hx _) (by decide)⟩,(hk _).1⟩,(hk _).2⟩)]
  exact Kerb.decBy_fin (no:=Kerb.noTicket) (enc:=Kerb.encodeTicket) (rd:=fun b=>(Kerb.readTicket b,false)) _ false rfl (fun x e=>(Zn [Zf [Zd (x).little,Zy (x).client.name,Zy (x).client.inst,Zy (x).client.realm,Zz Zw (x).address,Zz Zg (x).session,Zz Zw (x).life,Zz Zw (x).issued,Zy (x).service,Zy (x).inst],Zz Zw e],([]:Blocks)))
 ·cases h
theorem w155:Walked Tryz.prog G 155 10 sp155:=by
 refine ⟨Tryz.f155,Tryz.func155,by decide +kernel,rfl,fun xs bl r h=> ?_⟩
 unfold sp155 at h
 split at h
 ·rename_i b li
  obtain ⟨hpre,h2⟩:=chk_inv h;cases h2
  refine Eq.trans (b:=(let t0:Option (AV×Blocks):=some (Zn [Zf [Zy [],Zy [],Zy [],Zz .i64 0,Zz .i64 0,Zz .i64 0],Zz .i64 100],[]);Zv (chk (decide (Zx b≤4611686018427387904)) (some (Zn [Zf [Zy (Yk (Wn (Xk b 1))),Zy (Yp (Wn (Xk b 1))),Zy (Yq (Wn (Xk b 1)))],Zz .i64 (Kerb.GotP.next (Xk b 1)),Zz .i64 (Kerb.GotP.err (Xk b 1))],[]))) (kT fun vs=>onCons vs fun x r=>Xd x fun cs=>cStr cs fun b_1 r_1=>cStr r_1 fun b_2 r_2=>cStr r_2 fun b_3 r_3=>onNil r_3 (cInt .i64 r fun n r=>cInt .i64 r fun n_1 r=>onNil r (Zv (chk (decide (Zx b≤4611686018427387904)) (some (Zn [Zz .i64 (Wk (Xy b n 4 li)),Zz .i64 (Wu (Xy b n 4 li)),Zz .i64 (Wp (Xy b n 4 li))],[]))) (kT fun vs=>cInt .i64 vs fun n r=>cInt .i64 r fun n_2 r=>cInt .i64 r fun n_3 r=>onNil r (Zv (chk (decide (Zx b≤4611686018427387904)) (some (Zn [Zz .i64 (Wk (Xy b n_2 1 false)),Zz .i64 (Wu (Xy b n_2 1 false)),Zz .i64 (Wp (Xy b n_2 1 false))],[]))) (kT fun vs=>cInt .i64 vs fun n_4 r=>cInt .i64 r fun n_5 r=>cInt .i64 r fun n_6 r=>onNil r (Zv (chk (decide (Zx b≤4611686018427387904)) (some (Zn [Zz .i64 (Wk (Xy b n_5 4 li)),Zz .i64 (Wu (Xy b n_5 4 li)),Zz .i64 (Wp (Xy b n_5 4 li))],[]))) (kT fun vs=>cInt .i64 vs fun n_7 r=>cInt .i64 r fun n_8 r=>cInt .i64 r fun n_9 r=>onNil r (Zv (chk (l63 b_1&&l63 b_2&&l63 b_3) (some (Zn [Yu (Kerb.Enc.val (Kerb.encodeAuth (Vu (Zm b_1 b_2 b_3) n n_4 n_7) li)),Zz .i64 (Kerb.Enc.err (Kerb.encodeAuth (Vu (Zm b_1 b_2 b_3) n n_4 n_7) li))],[]))) (kT fun vs=>cBs vs fun b_4 r=>cInt .i64 r fun n_10 r=>onNil r (sel (!n_10==0) t0 (sel (!b_4==b) t0 (some (Zn [Zf [Zy b_1,Zy b_2,Zy b_3,Zz .i64 n,Zz .i64 n_4,Zz .i64 n_7],Zz .i64 0],[])))))))))))))):Option (AV×Blocks))) (by kernel_rfl) ?_
  delta kT
  try dsimp only [cStr,cBs,cBool,cU8,cInt,cSl,l63]
  have hb:=of_decide_eq_true hpre
  have hpre2:decide (b.length≤4611686018427387904)=true:=by simp;omega
  obtain ⟨n1,n2,n3⟩:=Kerb.prin_len b 1
  have g1:(Xk b 1).val.name.length≤9223372036854775807:=by omega
  have g2:(Xk b 1).val.inst.length≤9223372036854775807:=by omega
  have g3:(Xk b 1).val.realm.length≤9223372036854775807:=by omega
  simp only [hpre2,g1,g2,g3,decide_true,Wx,↓A0,A0]
  exact Kerb.decBy_fin (no:=Kerb.noAuth) (enc:=fun a=>Kerb.encodeAuth a li) (rd:=fun b=>(Kerb.readAuth b li,false)) _ false rfl (fun x e=>(Zn [.agg [.str (x).client.name,.str (x).client.inst,.str (x).client.realm,.int .i64 (x).checksum,.int .i64 (x).tick,.int .i64 (x).time],Zz Zw e],([]:Blocks)))
 ·cases h
theorem w97:Walked Tryz.prog G 97 11 sp97:=by
 refine ⟨Tryz.f97,Tryz.func97,by decide +kernel,rfl,fun xs bl r h=> ?_⟩
 unfold sp97 at h
 split at h
 ·rename_i b k
  obtain ⟨hpre,h2⟩:=chk_inv h;cases h2
  refine Eq.trans (b:=(Zv (chk (decide (Zx b≤140737488355328)) (some (Zn [Yu (Prod.fst (Wv b 1 k)),Zd (Vw (Wv b 1 k))],[]))) (kT fun vs=>cBs vs fun b r=>cBool r fun b_1 r=>onNil r (sel (!b_1) (some (Zn [Zf [Zd false,Zy [],Zy [],Zy [],Zz .i64 0,Zz .u64 0,Zz .i64 0,Zz .i64 0,Zy [],Zy []],Zz .i64 31],[])) (Zv (chk (decide (Zx b≤140737488355328)) (some (Zn [Zf [Zd (Kerb.Ticket.little (Zp (Yj b))),Zy (Yk (Yh (Zp (Yj b)))),Zy (Yp (Yh (Zp (Yj b)))),Zy (Yq (Yh (Zp (Yj b)))),Zz .i64 (Kerb.Ticket.address (Zp (Yj b))),Zz .u64 (Kerb.Ticket.session (Zp (Yj b))),Zz .i64 (Kerb.Ticket.life (Zp (Yj b))),Zz .i64 (Kerb.Ticket.issued (Zp (Yj b))),Zy (Kerb.Ticket.service (Zp (Yj b))),Zy (Kerb.Ticket.inst (Zp (Yj b)))],Zz .i64 (Wd (Yj b))],[]))) (kT fun vs=>onCons vs fun x r=>Xd x fun cs=>cBool cs fun b r_1=>cStr r_1 fun b_2 r_2=>cStr r_2 fun b_3 r_3=>cStr r_3 fun b_4 r_4=>cInt .i64 r_4 fun n r_5=>cInt .u64 r_5 fun n_1 r_6=>cInt .i64 r_6 fun n_2 r_7=>cInt .i64 r_7 fun n_3 r_8=>cStr r_8 fun b_5 r_9=>cStr r_9 fun b_6 r_10=>onNil r_10 (cInt .i64 r fun n_4 r=>onNil r (some (Zn [Zf [Zd b,Zy b_2,Zy b_3,Zy b_4,Zz .i64 n,Zz .u64 n_1,Zz .i64 n_2,Zz .i64 n_3,Zy b_5,Zy b_6],Zz .i64 n_4],[]))))))):Option (AV×Blocks))) (by kernel_rfl) ?_
  delta kT
  try dsimp only [cStr,cBs,cBool,cU8,cInt,cSl,l63]
  have hb:=of_decide_eq_true hpre
  have hl:=Kerb.openBox_len b 1 k
  simp only [hpre,↓A0,A0]
  unfold Yy
  cases h:(Wv b 1 k).2
  ·rfl
  ·rw [sel_neg (by simp),chk_of (by simp;omega)]
   rfl
 ·cases h
theorem w99:Walked Tryz.prog G 99 11 sp99:=by
 refine ⟨Tryz.f99,Tryz.func99,by decide +kernel,rfl,fun xs bl r h=> ?_⟩
 unfold sp99 at h
 split at h
 ·rename_i b li k
  obtain ⟨hpre,h2⟩:=chk_inv h;cases h2
  refine Eq.trans (b:=(let t0:Option (AV×Blocks):=some (Zn [Zf [Zy [],Zy [],Zy [],Zz .i64 0,Zz .i64 0,Zz .i64 0],Zz .i64 31],[]);Zv (chk (decide (Zx b≤140737488355328)) (some (Zn [Yu (Prod.fst (Wv b 2 k)),Zd (Vw (Wv b 2 k))],[]))) (kT fun vs=>cBs vs fun b r=>cBool r fun b_1 r=>onNil r (sel (!b_1) t0 (Zv (chk (decide (Zx b≤140737488355328)) (some (Zn [Zf [Zy (Yk (Xw (Zp (Xn b li)))),Zy (Yp (Xw (Zp (Xn b li)))),Zy (Yq (Xw (Zp (Xn b li)))),Zz .i64 (Kerb.Auth.checksum (Zp (Xn b li))),Zz .i64 (Kerb.Auth.tick (Zp (Xn b li))),Zz .i64 (Kerb.Auth.time (Zp (Xn b li)))],Zz .i64 (Wd (Xn b li))],[]))) (kT fun vs=>onCons vs fun x r=>Xd x fun cs=>cStr cs fun b r_1=>cStr r_1 fun b_2 r_2=>cStr r_2 fun b_3 r_3=>cInt .i64 r_3 fun n r_4=>cInt .i64 r_4 fun n_1 r_5=>cInt .i64 r_5 fun n_2 r_6=>onNil r_6 (cInt .i64 r fun n_3 r=>onNil r (sel (!n_3==0) t0 (some (Zn [Zf [Zy b,Zy b_2,Zy b_3,Zz .i64 n,Zz .i64 n_1,Zz .i64 n_2],Zz .i64 0],[])))))))):Option (AV×Blocks))) (by kernel_rfl) ?_
  delta kT
  try dsimp only [cStr,cBs,cBool,cU8,cInt,cSl,l63]
  have hb:=of_decide_eq_true hpre
  have hpre2:decide (b.length≤4611686018427387904)=true:=by simp;omega
  have hl:=Kerb.openBox_len b 2 k
  have hl2:decide ((Wv b 2 k).1.length≤140737488355328)=true:=by simp;omega
  simp only [hpre,hl2,↓A0,A0]
  unfold Xh
  cases h1:(Wv b 2 k).2
  ·rfl
  rw [Wy,sel_false,if_neg (by simp)]
  by_cases h2:(Xn (Wv b 2 k).1 li).err=0
  case neg=>rw [sel_pos (by simpa using h2),if_pos h2];rfl
  rw [sel_neg (by simpa using h2),if_neg (by simpa using h2)]
 ·cases h
theorem w45:Walked Tryz.prog G 45 12 sp45:=by
 refine ⟨Tryz.f45,Tryz.func45,by decide +kernel,rfl,fun xs bl r h=> ?_⟩
 unfold sp45 at h
 split at h
 ·rename_i m1 m2 m3 kls sz fl mls sk rli rmu rkv rrl rtk rau
  obtain ⟨hpre,h2⟩:=chk_inv h;cases h2
  refine Eq.trans (b:=(let t1:AV:=Zf [Zd false,Zy [],Zy [],Zy [],Zz .i64 0,Zz .u64 0,Zz .i64 0,Zz .i64 0,Zy [],Zy []];let t2:AV:=Zf [Zy [],Zy [],Zy [],Zz .i64 0,Zz .i64 0,Zz .i64 0];let t0:Option (AV×Blocks):=some (Zn [t1,t2,Zz .i64 35],[]);sel (!rrl==m3) t0 (Zv (chk (Xv kls Xf&&decide (Zx kls≤1000000)) (some (Zn [Zz .u64 (Prod.fst (Kerb.skFind (Yw Yg kls) (Zm m1 m2 m3) rkv)),Zd (Vw (Kerb.skFind (Yw Yg kls) (Zm m1 m2 m3) rkv))],[]))) (kT fun vs=>cInt .u64 vs fun n r=>cBool r fun b r=>onNil r (sel (!b) t0 (Zv (chk (decide (Zx rtk≤140737488355328)) (some (Zn [Zf [Zd (Kerb.Ticket.little (Zp (Yy rtk n))),Zy (Yk (Yh (Zp (Yy rtk n)))),Zy (Yp (Yh (Zp (Yy rtk n)))),Zy (Yq (Yh (Zp (Yy rtk n)))),Zz .i64 (Kerb.Ticket.address (Zp (Yy rtk n))),Zz .u64 (Kerb.Ticket.session (Zp (Yy rtk n))),Zz .i64 (Kerb.Ticket.life (Zp (Yy rtk n))),Zz .i64 (Kerb.Ticket.issued (Zp (Yy rtk n))),Zy (Kerb.Ticket.service (Zp (Yy rtk n))),Zy (Kerb.Ticket.inst (Zp (Yy rtk n)))],Zz .i64 (Wd (Yy rtk n))],[]))) (kT fun vs=>onCons vs fun x r=>Xd x fun cs=>cBool cs fun b r_1=>cStr r_1 fun b_1 r_2=>cStr r_2 fun b_2 r_3=>cStr r_3 fun b_3 r_4=>cInt .i64 r_4 fun n r_5=>cInt .u64 r_5 fun n_1 r_6=>cInt .i64 r_6 fun n_2 r_7=>cInt .i64 r_7 fun n_3 r_8=>cStr r_8 fun b_4 r_9=>cStr r_9 fun b_5 r_10=>onNil r_10 (cInt .i64 r fun n_4 r=>onNil r (sel (n_4==7) (some (Zn [t1,t2,Zz .i64 7],[])) (sel (!n_4==0) (some (Zn [t1,t2,Zz .i64 31],[])) (sel (!(b_4==m1&&(b_5==m2&&m3==m3))) t0 (Zv (chk (decide (Zx rau≤140737488355328)) (some (Zn [Zf [Zy (Yk (Xw (Zp (Xh rau rli n_1)))),Zy (Yp (Xw (Zp (Xh rau rli n_1)))),Zy (Yq (Xw (Zp (Xh rau rli n_1)))),Zz .i64 (Kerb.Auth.checksum (Zp (Xh rau rli n_1))),Zz .i64 (Kerb.Auth.tick (Zp (Xh rau rli n_1))),Zz .i64 (Kerb.Auth.time (Zp (Xh rau rli n_1)))],Zz .i64 (Wd (Xh rau rli n_1))],[]))) (kT fun vs=>onCons vs fun x r=>Xd x fun cs=>cStr cs fun b_6 r_11=>cStr r_11 fun b_7 r_12=>cStr r_12 fun b_8 r_13=>cInt .i64 r_13 fun n_5 r_14=>cInt .i64 r_14 fun n_6 r_15=>cInt .i64 r_15 fun n_7 r_16=>onNil r_16 (cInt .i64 r fun n_8 r=>onNil r (sel (!n_8==0) (some (Zn [t1,t2,Zz .i64 31],[])) (some (Zn [Zf [Zd b,Zy b_1,Zy b_2,Zy b_3,Zz .i64 n,Zz .u64 n_1,Zz .i64 n_2,Zz .i64 n_3,Zy b_4,Zy b_5],Zf [Zy b_6,Zy b_7,Zy b_8,Zz .i64 n_5,Zz .i64 n_6,Zz .i64 n_7],Zz .i64 0],[]))))))))))))))):Option (AV×Blocks))) (by kernel_rfl) ?_
  delta kT
  try dsimp only [cStr,cBs,cBool,cU8,cInt,cSl,l63]
  simp only [Xg,decide_eq_true_eq] at hpre
  obtain ⟨⟨⟨⟨⟨⟨⟨⟨l1,l2⟩,l3⟩,ka⟩,kl⟩,ma⟩,ml⟩,t1⟩,u1⟩:=hpre
  obtain ⟨ks,rfl,hks⟩:=Kerb.skeys_of ka
  obtain ⟨ms,rfl,hms⟩:=Vj ma
  have hkT:=Wb hks
  have hmT:=Vv hms
  simp only [Yd] at kl ml
  have t2:rtk.length≤140737488355328:=by omega
  have u2:rau.length≤140737488355328:=by omega
  simp only [Kerb.map_toSKey,Vx,Yd,hkT,kl,t2,u2,decide_true,Wx,↓A0,A0]
  unfold Xq
  by_cases g1:rrl=m3
  case neg=>rw [sel_pos (by simpa using g1),if_pos (by simpa using g1)];rfl
  rw [sel_neg (by simpa using g1),if_neg (by simpa using g1)]
  dsimp only
  cases g2:(Kerb.skFind ks ⟨m1,m2,m3⟩ rkv).2
  ·rfl
  rw [Wy,sel_false,if_neg (by simp)]
  generalize (Kerb.skFind ks ⟨m1,m2,m3⟩ rkv).1=K
  by_cases g3:(Yy rtk K).err=7
  ·rw [sel_pos (by simpa using g3),if_pos g3];rfl
  rw [sel_neg (by simpa using g3),if_neg g3]
  by_cases g4:(Yy rtk K).err=0
  case neg=>rw [sel_pos (by simpa using g4),if_pos g4];rfl
  rw [sel_neg (by simpa using g4),if_neg (by simpa using g4)]
  have g5:((Yy rtk K).val.service==m1&&((Yy rtk K).val.inst==m2&&m3==m3))=(Kerb.ticketFor (Yy rtk K).val m3).eqb ⟨m1,m2,m3⟩:=rfl
  rw [g5]
  cases g6:(Kerb.ticketFor (Yy rtk K).val m3).eqb ⟨m1,m2,m3⟩
  ·rfl
  rw [Wy,sel_false,if_neg (by simp)]
  by_cases g7:(Xh rau rli (Yy rtk K).val.session).err=0
  case neg=>rw [sel_pos (by simpa using g7),if_pos g7];rfl
  rw [sel_neg (by simpa using g7),if_neg (by simpa using g7)]
 ·cases h
theorem w20:Walked Tryz.prog G 20 13 sp20:=by
 refine ⟨Tryz.f20,Tryz.func20,by decide +kernel,rfl,fun xs bl r h=> ?_⟩
 unfold sp20 at h
 split at h
 ·rename_i m1 m2 m3 kls sz fl mls sk rli rmu rkv rrl rtk rau src now
  obtain ⟨hpre,h2⟩:=chk_inv h;cases h2
  refine Eq.trans (b:=(let t0:AV:=Zf [Zy [],Zy [],Zy [],Zz .u64 0,Zz .i64 0,Zz .i64 0,Zz .i64 0,Zz .i64 0,Zz .i64 0,Zz .i64 0,Yu [],Yu []];Zv (chk (decide (Zx kls≤1000000)&&decide (Zx mls≤1000000)) (some (Zf [Zy m1,Zy m2,Zy m3,Yz 5 kls,Zz .i64 sz,Zz .i64 fl,Yz 5 mls,Zz .i64 sk],[]))) (kA fun cs=>cStr cs fun b r=>cStr r fun b_1 r=>cStr r fun b_2 r=>let t1:Bool:=l63 b&&l63 b_1&&l63 b_2;cSl 5 r fun b_3 r=>cInt .i64 r fun n r=>cInt .i64 r fun n_1 r=>cSl 5 r fun b_4 r=>let t2:Bool:=t1&&Xv b_3 Xf&&decide (Zx b_3≤1000000)&&Xv b_4 Ww&&decide (Zx b_4≤1000000);cInt .i64 r fun n_2 r=>let t4:AV:=Zf [Zy b,Zy b_1,Zy b_2,Yz 5 b_3,Zz .i64 n,Zz .i64 n_1,Yz 5 b_4,Zz .i64 n_2];let t6:Kerb.Opened:=Xq (Yv (Zm b b_1 b_2) (Yw Yg b_3) (Yn n n_1 (Yw Xm b_4)) n_2) (Vz rli rmu rkv rrl rtk rau);let t3:Kerb.Ticket:=Kerb.Opened.ticket t6;let t5:Kerb.Auth:=Kerb.Opened.auth t6;onNil r (Zv (chk t2 (some (Zz .i64 (Xx (Yv (Zm b b_1 b_2) (Yw Yg b_3) (Yn n n_1 (Yw Xm b_4)) n_2)),[]))) (kI .i64 fun n_3=>sel (!n_3==0) (some (Zn [t4,t0,Zz .i64 108],[])) (Zv (chk (t2&&decide (Zx rtk≤1000000)&&decide (Zx rau≤1000000)) (some (Zn [Zf [Zd (Kerb.Ticket.little t3),Zy (Yk (Yh t3)),Zy (Yp (Yh t3)),Zy (Yq (Yh t3)),Zz .i64 (Kerb.Ticket.address t3),Zz .u64 (Kerb.Ticket.session t3),Zz .i64 (Kerb.Ticket.life t3),Zz .i64 (Kerb.Ticket.issued t3),Zy (Kerb.Ticket.service t3),Zy (Kerb.Ticket.inst t3)],Zf [Zy (Yk (Xw t5)),Zy (Yp (Xw t5)),Zy (Yq (Xw t5)),Zz .i64 (Kerb.Auth.checksum t5),Zz .i64 (Kerb.Auth.tick t5),Zz .i64 (Kerb.Auth.time t5)],Zz .i64 (Kerb.Opened.err t6)],[]))) (kT fun vs=>onCons vs fun x r=>Xd x fun cs=>cBool cs fun b_5 r_1=>cStr r_1 fun b_6 r_2=>cStr r_2 fun b_7 r_3=>cStr r_3 fun b_8 r_4=>cInt .i64 r_4 fun n_4 r_5=>cInt .u64 r_5 fun n_5 r_6=>cInt .i64 r_6 fun n_6 r_7=>cInt .i64 r_7 fun n_7 r_8=>cStr r_8 fun b_9 r_9=>cStr r_9 fun b_10 r_10=>onNil r_10 (onCons r fun x r=>Xd x fun cs=>cStr cs fun b_11 r_11=>cStr r_11 fun b_12 r_12=>cStr r_12 fun b_13 r_13=>cInt .i64 r_13 fun n_8 r_14=>cInt .i64 r_14 fun n_9 r_15=>cInt .i64 r_15 fun n_10 r_16=>let t8:Int:=Kerb.judge (Kerb.Ticket.mk b_5 (Zm b_6 b_7 b_8) n_4 n_5 n_6 n_7 b_9 b_10) (Vu (Zm b_11 b_12 b_13) n_8 n_9 n_10) src now n_2;let t9:Kerb.Dec Kerb.RCache:=Kerb.addMark (Yn n n_1 (Yw Xm b_4)) (Kerb.Mark.mk (Zm b_11 b_12 b_13) n_10 n_9) now n_2;let t7:Kerb.RCache:=Zp t9;onNil r_16 (cInt .i64 r fun n r=>onNil r (sel (!n==0) (some (Zn [t4,t0,Zz .i64 n],[])) (sel (!t8==0) (some (Zn [t4,t0,Zz .i64 t8],[])) (Zv (chk (Xv b_4 Ww&&decide (Zx b_4≤1000000)&&l63 b_11&&l63 b_12&&l63 b_13) (some (Zn [Zf [Zz .i64 (Kerb.RCache.size t7),Zz .i64 (Kerb.RCache.floor t7),Yz 5 (Yw Yf (Kerb.RCache.marks t7))],Zz .i64 (Wd t9)],[]))) (kT fun vs=>onCons vs fun x r=>Xd x fun cs=>cInt .i64 cs fun n r_17=>cInt .i64 r_17 fun n_11 r_18=>cSl 5 r_18 fun b_14 r_19=>onNil r_19 (cInt .i64 r fun n_12 r=>onNil r (sel (!n_12==0) (some (Zn [t4,t0,Zz .i64 n_12],[])) (Zv (chk (decide (Zx rtk≤140737488355328)) (some (Yu rtk,[]))) (kB fun b_15=>Zv (chk (decide (Zx rau≤140737488355328)) (some (Yu rau,[]))) (kB fun b_16=>some (Zn [Zf [Zy b,Zy b_1,Zy b_2,Yz 5 b_3,Zz .i64 n,Zz .i64 n_11,Yz 5 b_14,Zz .i64 n_2],Zf [Zy b_6,Zy b_7,Zy b_8,Zz .u64 n_5,Zz .i64 n_4,Zz .i64 n_8,Zz .i64 n_10,Zz .i64 n_9,Zz .i64 n_7,Zz .i64 n_6,Yu b_15,Yu b_16],Zz .i64 0],[]))))))))))))))))):Option (AV×Blocks))) (by kernel_rfl) ?_
  delta kT kA kB kI
  try dsimp only [cStr,cBs,cBool,cU8,cInt,cSl,l63]
  simp only [Xg,decide_eq_true_eq] at hpre
  obtain ⟨⟨⟨⟨⟨⟨⟨⟨l1,l2⟩,l3⟩,ka⟩,kl⟩,ma⟩,ml⟩,t1⟩,u1⟩:=hpre
  obtain ⟨ks,rfl,hks⟩:=Kerb.skeys_of ka
  obtain ⟨ms,rfl,hms⟩:=Vj ma
  have hkT:=Wb hks
  have hmT:=Vv hms
  simp only [Yd] at kl ml
  have t2:rtk.length≤140737488355328:=by omega
  have u2:rau.length≤140737488355328:=by omega
  obtain ⟨S,hS⟩:∃ S,Yv ⟨m1,m2,m3⟩ ks ⟨sz,fl,ms⟩ sk=S:=⟨_,rfl⟩
  obtain ⟨R,hR⟩:∃ R,Vz rli rmu rkv rrl rtk rau=R:=⟨_,rfl⟩
  have hb:=(Kerb.openReq_bd S R).1
  have e1:=hb.1
  have e2:=hb.2.1
  have e3:=hb.2.2
  simp only [Kerb.map_toSKey,Vx,Yd,hkT,hmT,kl,ml,l1,l2,l3,t1,u1,t2,u2,decide_true,Wx,hS,hR,e1,e2,e3,↓sInt,↓sU8,↓sBool,↓sStr,↓sBs,↓sSl,↓sAgg,↓sTup,↓sCons,↓sNil,↓sNilB,↓sChk,↓sChkBind,↓sSome]
  unfold Kerb.verify
  by_cases g1:S.err=0
  case neg=>rw [sel_pos (by simpa using g1),if_pos g1,← hS];rfl
  rw [sel_neg (by simpa using g1),if_neg (by simpa using g1)]
  by_cases g2:(Xq S R).err=0
  case neg=>rw [sel_pos (by simpa using g2),if_pos g2,← hS];rfl
  rw [sel_neg (by simpa using g2),if_neg (by simpa using g2)]
  have h0:sk=S.skew:=by rw [← hS]
  have h1:Yn sz fl ms=S.replay:=by rw [← hS]
  rw [h0,h1]
  by_cases g3:Kerb.judge (Xq S R).ticket (Xq S R).auth src now S.skew=0
  case neg=>rw [sel_pos (by simpa using g3),if_pos g3,← hS];rfl
  rw [sel_neg (by simpa using g3),if_neg (by simpa using g3)]
  rw [show Kerb.Mark.mk ⟨(Xq S R).auth.client.name,(Xq S R).auth.client.inst,(Xq S R).auth.client.realm⟩ (Xq S R).auth.time (Xq S R).auth.tick=Kerb.markOf (Xq S R).auth from rfl]
  by_cases g4:(Kerb.addMark S.replay (Kerb.markOf (Xq S R).auth) now S.skew).err=0
  case neg=>rw [sel_pos (by simpa using g4),if_pos g4,← hS];rfl
  rw [sel_neg (by simpa using g4),if_neg (by simpa using g4),← hS,← hR]
 ·cases h
theorem w14:Walked Tryz.prog G 14 14 sp14:=by
 refine ⟨Tryz.f14,Tryz.func14,by decide +kernel,rfl,fun xs bl r h=> ?_⟩
 unfold sp14 at h
 split at h
 ·rename_i m1 m2 m3 kls sz fl mls sk msg src now
  obtain ⟨hpre,h2⟩:=chk_inv h;cases h2
  refine Eq.trans (b:=(let t0:Kerb.Server:=Yv (Zm m1 m2 m3) (Yw Yg kls) (Yn sz fl (Yw Xm mls)) sk;let t1:Option (AV×Blocks):=chk (decide (Zx kls≤1000000)&&decide (Zx mls≤1000000)) (some (Zf [Zy m1,Zy m2,Zy m3,Yz 5 kls,Zz .i64 sz,Zz .i64 fl,Yz 5 mls,Zz .i64 sk],[]));let t2:AV:=Zf [Zy [],Zy [],Zy [],Zz .u64 0,Zz .i64 0,Zz .i64 0,Zz .i64 0,Zz .i64 0,Zz .i64 0,Zz .i64 0,Yu [],Yu []];Zv (chk (decide (Zx msg≤140737488355328)) (some (Zn [Zf [Zd (Kerb.ApRequest.little (Zp (Xj msg))),Zd (Kerb.ApRequest.mutual_ (Zp (Xj msg))),Zz .i64 (Kerb.ApRequest.kvno (Zp (Xj msg))),Zy (Kerb.ApRequest.realm (Zp (Xj msg))),Yu (Kerb.ApRequest.ticket (Zp (Xj msg))),Yu (Kerb.ApRequest.auth (Zp (Xj msg)))],Zz .i64 (Wd (Xj msg))],[]))) (kT fun vs=>onCons vs fun x r=>Xd x fun cs=>cBool cs fun b r_1=>cBool r_1 fun b_1 r_2=>cInt .i64 r_2 fun n r_3=>cStr r_3 fun b_2 r_4=>cBs r_4 fun b_3 r_5=>cBs r_5 fun b_4 r_6=>let t5:Kerb.Verified:=Kerb.verify t0 (Vz b b_1 n b_2 b_3 b_4) src now;let t3:Kerb.Accepted:=Kerb.Verified.a t5;let t4:Kerb.Server:=Kerb.Verified.s t5;onNil r_6 (cInt .i64 r fun n r=>let t6:Option (AV×Blocks):=Zv t1 (kA fun cs=>cStr cs fun b r=>cStr r fun b_5 r=>cStr r fun b_6 r=>cSl 5 r fun b_7 r=>cInt .i64 r fun n_1 r=>cInt .i64 r fun n_2 r=>cSl 5 r fun b_8 r=>cInt .i64 r fun n_3 r=>onNil r (some (Zn [Zf [Zy b,Zy b_5,Zy b_6,Yz 5 b_7,Zz .i64 n_1,Zz .i64 n_2,Yz 5 b_8,Zz .i64 n_3],t2,Yu [],Zz .i64 n],[])));onNil r (sel (!n==0) (AV.onInt .i64 (Xb [Zz .i64 39,Zz .i64 40] (Yb 0) Xp) fun n_1=>sel (n==n_1) t6 (AV.onInt .i64 (Xb [Zz .i64 39,Zz .i64 40] (Yb (Zb .i64 (0+1))) Xp) fun n_2=>sel (n==n_2) t6 (Zv t1 (kA fun cs=>cStr cs fun b r=>cStr r fun b_5 r=>cStr r fun b_6 r=>cSl 5 r fun b_7 r=>cInt .i64 r fun n r=>cInt .i64 r fun n_3 r=>cSl 5 r fun b_8 r=>cInt .i64 r fun n_4 r=>onNil r (some (Zn [Zf [Zy b,Zy b_5,Zy b_6,Yz 5 b_7,Zz .i64 n,Zz .i64 n_3,Yz 5 b_8,Zz .i64 n_4],t2,Yu [],Zz .i64 31],[])))))) (Zv (chk (l63 m1&&l63 m2&&l63 m3&&Xv kls Xf&&decide (Zx kls≤1000000)&&Xv mls Ww&&decide (Zx mls≤1000000)&&decide (Zx b_3≤1000000)&&decide (Zx b_4≤1000000)) (some (Zn [Zf [Zy (Yk (Wq t4)),Zy (Yp (Wq t4)),Zy (Yq (Wq t4)),Yz 5 (Yw Ym (Kerb.Server.keys t4)),Zz .i64 (Kerb.RCache.size (Wz t4)),Zz .i64 (Kerb.RCache.floor (Wz t4)),Yz 5 (Yw Yf (Kerb.RCache.marks (Wz t4))),Zz .i64 (Kerb.Server.skew t4)],Zf [Zy (Yk (Vq t3)),Zy (Yp (Vq t3)),Zy (Yq (Vq t3)),Zz .u64 (Kerb.Accepted.session t3),Zz .i64 (Kerb.Accepted.address t3),Zz .i64 (Kerb.Accepted.checksum t3),Zz .i64 (Kerb.Accepted.time t3),Zz .i64 (Kerb.Accepted.tick t3),Zz .i64 (Kerb.Accepted.issued t3),Zz .i64 (Kerb.Accepted.life t3),Yu (Kerb.Accepted.ticket t3),Yu (Kerb.Accepted.auth t3)],Zz .i64 (Kerb.Verified.err t5)],[]))) (kT fun vs=>onCons vs fun x r=>Xd x fun cs=>cStr cs fun b_5 r_7=>cStr r_7 fun b_6 r_8=>cStr r_8 fun b_7 r_9=>cSl 5 r_9 fun b_8 r_10=>cInt .i64 r_10 fun n r_11=>cInt .i64 r_11 fun n_1 r_12=>cSl 5 r_12 fun b_9 r_13=>cInt .i64 r_13 fun n_2 r_14=>let t7:AV:=Zf [Zy b_5,Zy b_6,Zy b_7,Yz 5 b_8,Zz .i64 n,Zz .i64 n_1,Yz 5 b_9,Zz .i64 n_2];onNil r_14 (onCons r fun x r=>Xd x fun cs=>cStr cs fun b_10 r_15=>cStr r_15 fun b_11 r_16=>cStr r_16 fun b_12 r_17=>cInt .u64 r_17 fun n r_18=>cInt .i64 r_18 fun n_3 r_19=>cInt .i64 r_19 fun n_4 r_20=>cInt .i64 r_20 fun n_5 r_21=>cInt .i64 r_21 fun n_6 r_22=>cInt .i64 r_22 fun n_7 r_23=>cInt .i64 r_23 fun n_8 r_24=>cBs r_24 fun b_13 r_25=>cBs r_25 fun b_14 r_26=>let t8:AV:=Zf [Zy b_10,Zy b_11,Zy b_12,Zz .u64 n,Zz .i64 n_3,Zz .i64 n_4,Zz .i64 n_5,Zz .i64 n_6,Zz .i64 n_7,Zz .i64 n_8,Yu b_13,Yu b_14];onNil r_26 (cInt .i64 r fun n_9 r=>let t9:Option (AV×Blocks):=some (Zn [t7,t8,Yu [],Zz .i64 n_9],[]);onNil r (sel (!n_9==0) t9 (sel (!b_1) t9 (Zv (chk (decide (0≤n)&&decide (n<18446744073709551616)) (some (Zn [Yu (Kerb.Enc.val (Kerb.serviceAnswer n n_4 n_5 n_6 b)),Zz .i64 (Kerb.Enc.err (Kerb.serviceAnswer n n_4 n_5 n_6 b))],[]))) (kT fun vs=>cBs vs fun b r=>cInt .i64 r fun n r=>onNil r (sel (!n==0) (Zv t1 (kA fun cs=>cStr cs fun b r=>cStr r fun b_15 r=>cStr r fun b_16 r=>cSl 5 r fun b_17 r=>cInt .i64 r fun n_10 r=>cInt .i64 r fun n_11 r=>cSl 5 r fun b_18 r=>cInt .i64 r fun n_12 r=>onNil r (some (Zn [Zf [Zy b,Zy b_15,Zy b_16,Yz 5 b_17,Zz .i64 n_10,Zz .i64 n_11,Yz 5 b_18,Zz .i64 n_12],t2,Yu [],Zz .i64 n],[])))) (some (Zn [t7,t8,Yu b,Zz .i64 0],[])))))))))))))):Option (AV×Blocks))) (by kernel_rfl) ?_
  delta kT kA
  try dsimp only [cStr,cBs,cBool,cU8,cInt,cSl,l63]
  simp only [Xg,decide_eq_true_eq] at hpre
  obtain ⟨⟨⟨⟨⟨⟨⟨l1,l2⟩,l3⟩,ka⟩,kl⟩,ma⟩,ml⟩,hm⟩:=hpre
  obtain ⟨ks,rfl,hks⟩:=Kerb.skeys_of ka
  obtain ⟨ms,rfl,hms⟩:=Vj ma
  have hkT:=Wb hks
  have hmT:=Vv hms
  simp only [Yd] at kl ml
  have hm2:msg.length≤140737488355328:=by omega
  obtain ⟨S,hS⟩:∃ S,Yv ⟨m1,m2,m3⟩ ks ⟨sz,fl,ms⟩ sk=S:=⟨_,rfl⟩
  obtain ⟨R,hR⟩:∃ R,(Xj msg).val=R:=⟨_,rfl⟩
  have hb:=Kerb.decodeAp_bd msg
  rw [hR] at hb
  have d1:R.ticket.length≤1000000:=by omega
  have d2:R.auth.length≤1000000:=by omega
  have hRe:Vz R.little R.mutual_ R.kvno R.realm R.ticket R.auth=R:=rfl
  have hs:=Kerb.verify_bd S R src now
  simp only [Kerb.map_toSKey,Vx,Yd,hkT,hmT,kl,ml,l1,l2,l3,hm2,decide_true,Wx,hS,hR,hRe,d1,d2,hs,↓sInt,↓sU8,↓sBool,↓sStr,↓sBs,↓sSl,↓sAgg,↓sTup,↓sCons,↓sNil,↓sNilB,↓sChk,↓sChkBind,↓sSome]
  unfold Kerb.vRead
  rw [hR]
  by_cases g1:(Xj msg).err=0
  case neg =>
   rw [sel_pos (by simpa using g1),if_pos g1]
   have q0:Xb [Zz Zw 39,Zz Zw 40] (Yb 0) Xp=Zz Zw 39:=rfl
   have q1:Xb [Zz Zw 39,Zz Zw 40] (Yb (Zb .i64 (0+1))) Xp=Zz Zw 40:=rfl
   rw [q0,onInt_int,q1,onInt_int]
   by_cases g2:(Xj msg).err=39
   ·rw [sel_pos (by simpa using g2),if_pos (.inl g2),← hS];rfl
   rw [sel_neg (by simpa using g2)]
   by_cases g3:(Xj msg).err=40
   ·rw [sel_pos (by simpa using g3),if_pos (.inr g3),← hS];rfl
   rw [sel_neg (by simpa using g3),if_neg (by simp [g2,g3]),← hS];rfl
  rw [sel_neg (by simpa using g1),if_neg (by simpa using g1)]
  obtain ⟨V,hV⟩:∃ V,Kerb.verify S R src now=V:=⟨_,rfl⟩
  have hno := @Kerb.verify_no S R src now
  rw [hV] at hno ⊢
  by_cases g4:V.err=0
  case neg =>
   have hn:=hno g4
   rw [sel_pos (by simpa using g4),if_pos g4,hn]
  rw [sel_neg (by simpa using g4),if_neg (by simpa using g4)]
  cases g5:R.mutual_
  ·rw [if_pos rfl,g4];rfl
  rw [if_neg (by simp),Wy,sel_false]
  unfold Kerb.Accepted.reply
  by_cases g6:(Kerb.serviceAnswer V.a.session V.a.checksum V.a.time V.a.tick R.little).err=0
  case neg=>rw [sel_pos (by simpa using g6),if_pos g6,← hS];rfl
  rw [sel_neg (by simpa using g6),if_neg (by simpa using g6)]
 ·cases h
theorem p9  : runFn (G.env 9 15) G.rts (G.own 9) Tryz.f9 [] []=some (.bool true,[]):=by kernel_rfl
theorem w9:Walked Tryz.prog G 9 15 sp9:=by
 refine ⟨Tryz.f9,Tryz.func9,by decide +kernel,rfl,fun xs bl r h=> ?_⟩
 unfold sp9 at h
 split at h
 ·cases h;exact p9
 ·cases h
set_option maxHeartbeats 8000000 in
theorem w8:Walked Tryz.prog G 8 16 sp8:=by
 refine ⟨Tryz.f8,Tryz.func8,by decide +kernel,rfl,fun xs bl r h=> ?_⟩
 unfold sp8 at h
 split at h
 ·rename_i x y z ks n skw m1 m2 m3 kls sz fl mls sk cu co cv cr lt tn mt cad cfr cis ctm ctk clf ccs cky ckv css ctt cau sml wh
  obtain ⟨hpre,h2⟩:=chk_inv h;cases h2
  refine Eq.trans (b:=(let t0:List AV:=[Zf [Zy (Yk (Yx 0)),Zy (Yp (Yx 0)),Zy (Yq (Yx 0)),Zz .i64 1,Zz .u64 (Zh 9)]];let t1:List AV:=[Zz .i64 2,Zz .u64 (Zh 2)];let t2:List AV:=[Zz .i64 1,Zz .u64 (Zh 1)];let t3:Int:=Zb .i64 (Zb .i64 ((↑(Zx x):Int)+(↑(Zx y):Int))+(↑(Zx z):Int));sel (decide (t3>300)) (some (Zd true,[])) (sel (decide ((↑(Zx ks):Int)>100)) (some (Zd true,[])) (sel (decide (20<Zx kls)||decide (20<Zx mls)) (some (Zd true,[])) (Zv (loopM (fun (st:List AV)=>cBs st fun b r=>cInt .i64 r fun n r=>cInt .i64 r fun n_1 r=>cU8 r fun b_1 r=>cU8 r fun b_2 r=>cStr r fun b_3 r=>cStr r fun b_4 r=>cStr r fun b_5 r=>cStr r fun b_6 r=>cStr r fun b_7 r=>cStr r fun b_8 r=>cSl 5 r fun b_9 r=>cInt .i64 r fun n_2 r=>cInt .i64 r fun n_3 r=>cSl 5 r fun b_10 r=>cInt .i64 r fun n_4 r=>cU8 r fun b_11 r=>cU8 r fun b_12 r=>cU8 r fun b_13 r=>cU8 r fun b_14 r=>cBool r fun b_15 r=>cBool r fun b_16 r=>cBool r fun b_17 r=>cU8 r fun b_18 r=>cU8 r fun b_19 r=>cU8 r fun b_20 r=>cU8 r fun b_21 r=>cU8 r fun b_22 r=>cU8 r fun b_23 r=>cInt .u32 r fun n_5 r=>cU8 r fun b_24 r=>cU8 r fun b_25 r=>cU8 r fun b_26 r=>cInt .u16 r fun n_6 r=>cInt .u16 r fun n_7 r=>cBool r fun b_27 r=>cInt .i64 r fun n_8 r=>onNil r (sel (decide (n_8<2)) (Zv (chk (decide (Zx b≤100000)) (some (Yz 5 (Yw Ym (Kerb.dataKeys b)),[]))) fun (r:AV×Blocks)=>onNilB (Vw r) (AV.onSl 5 (Prod.fst r) fun b_28=>Zv (chk (decide (Zx b≤100000)) (some (Yz 5 (Yw Ym (Kerb.goodKeys b)),[]))) fun (r:AV×Blocks)=>onNilB (Vw r) (AV.onSl 5 (Prod.fst r) fun b_29=>chk (decide (0≤n_8)&&decide (n_8<(↑(Zx [Yz 5 b_28,Yz 5 b_29]):Int))&&true) (AV.onSl 5 (Xb [Yz 5 b_28,Yz 5 b_29] (Yb n_8) Xp) fun b_30=>Zv (loopM (fun (st:List AV)=>cBs st fun b r=>cInt .i64 r fun n r=>cInt .i64 r fun n_9 r=>cU8 r fun b_31 r=>let t6:List AV:=[Zz .i64 n_9,Zz .i64 (Zb .i64 (Zb .i64 (↑(Wh b_31):Int)*10))];let t7:List AV:=[Zz .i64 n,Zz .i64 (Vy (Zb .i64 (↑(Wh b_31):Int)) 43)];let t4:Int:=(↑(Zx t6):Int);let t5:Int:=(↑(Zx t7):Int);cU8 r fun b_32 r=>cStr r fun b_33 r=>cStr r fun b_34 r=>cStr r fun b_35 r=>let t8:AV:=Zf [Zy b_33,Zy b_34,Zy b_35];cStr r fun b_36 r=>cStr r fun b_37 r=>cStr r fun b_38 r=>cSl 5 r fun b_39 r=>cInt .i64 r fun n_10 r=>cInt .i64 r fun n_11 r=>cSl 5 r fun b_40 r=>cInt .i64 r fun n_12 r=>cU8 r fun b_41 r=>cU8 r fun b_42 r=>cU8 r fun b_43 r=>cU8 r fun b_44 r=>cBool r fun b_45 r=>cBool r fun b_46 r=>cBool r fun b_47 r=>cU8 r fun b_48 r=>cU8 r fun b_49 r=>cU8 r fun b_50 r=>cU8 r fun b_51 r=>cU8 r fun b_52 r=>cU8 r fun b_53 r=>cInt .u32 r fun n_13 r=>cU8 r fun b_54 r=>cU8 r fun b_55 r=>cU8 r fun b_56 r=>cInt .u16 r fun n_14 r=>cInt .u16 r fun n_15 r=>let t11:Kerb.Prin:=Kerb.Case.me (Kerb.Case.mk b_41 b_42 b_43 b_44 b_45 b_46 b_47 b_48 b_49 b_50 b_51 b_52 b_53 n_13 b_54 b_55 b_56 n_14 n_15);let t10:List AV:=[t8,Zf [Zy (Yk t11),Zy (Yp t11),Zy (Yq t11)]];let t9:Int:=(↑(Zx t10):Int);cBool r fun b_57 r=>cInt .i64 r fun n_16 r=>cSl 5 r fun b_58 r=>cInt .i64 r fun n_17 r=>let t12:Option (List AV ⊕ Ex×List AV):=some (Sum.inr (Ex.ret,[Yu b,Zz .i64 n,Zz .i64 n_9,Zq b_31,Zq b_32,Zy b_33,Zy b_34,Zy b_35,Zy b_36,Zy b_37,Zy b_38,Yz 5 b_39,Zz .i64 n_10,Zz .i64 n_11,Yz 5 b_40,Zz .i64 n_12,Zq b_41,Zq b_42,Zq b_43,Zq b_44,Zd b_45,Zd b_46,Zd b_47,Zq b_48,Zq b_49,Zq b_50,Zq b_51,Zq b_52,Zq b_53,Zz .u32 n_13,Zq b_54,Zq b_55,Zq b_56,Zz .u16 n_14,Zz .u16 n_15,Zd false,Zz .i64 n_16,Yz 5 b_58,Zz .i64 n_17]));onNil r (sel (decide (n_17<4)) (chk (decide (0≤Vy n_17 2)&&decide (Vy n_17 2<t9)&&true) (Xd (Xb t10 (Yb (Vy n_17 2)) Xp) fun cs=>cStr cs fun b_59 r=>cStr r fun b_60 r=>cStr r fun b_61 r=>let t13:Bool:=l63 b_59&&l63 b_60&&l63 b_61&&Xv b_58 Xf&&decide (Zx b_58≤1000000);onNil r (chk (decide (0≤Zb .i64 (Int.tdiv n_17 2))&&decide (Zb .i64 (Int.tdiv n_17 2)<t5)&&true) (AV.onInt .i64 (Xb t7 (Yb (Zb .i64 (Int.tdiv n_17 2))) Xp) fun n_18=>chk (decide (0≤Zb .i64 (Int.tdiv n_17 2))&&decide (Zb .i64 (Int.tdiv n_17 2)<t4)&&true) (AV.onInt .i64 (Xb t6 (Yb (Zb .i64 (Int.tdiv n_17 2))) Xp) fun n_19=>let t15:Kerb.Server:=Zp (Kerb.newServer (Zm b_59 b_60 b_61) (Yw Yg b_58) n_18 n_19);let t14:Option (AV×Blocks):=chk t13 (some (Zn [Zf [Zy (Yk (Wq t15)),Zy (Yp (Wq t15)),Zy (Yq (Wq t15)),Yz 5 (Yw Ym (Kerb.Server.keys t15)),Zz .i64 (Kerb.RCache.size (Wz t15)),Zz .i64 (Kerb.RCache.floor (Wz t15)),Yz 5 (Yw Yf (Kerb.RCache.marks (Wz t15))),Zz .i64 (Kerb.Server.skew t15)],Zz .i64 (Wd (Kerb.newServer (Zm b_59 b_60 b_61) (Yw Yg b_58) n_18 n_19))],[]));Zv t14 (kT fun vs=>onCons vs fun x r=>Xd x fun cs=>cStr cs fun b_62 r_1=>cStr r_1 fun b_63 r_2=>cStr r_2 fun b_64 r_3=>cSl 5 r_3 fun b_65 r_4=>cInt .i64 r_4 fun n_20 r_5=>cInt .i64 r_5 fun n_21 r_6=>cSl 5 r_6 fun b_66 r_7=>cInt .i64 r_7 fun n_22 r_8=>onNil r_8 (cInt .i64 r fun n_23 r=>onNil r (Zv t14 (kT fun vs=>onCons vs fun x r=>Xd x fun cs=>cStr cs fun b_67 r_9=>cStr r_9 fun b_68 r_10=>cStr r_10 fun b_69 r_11=>cSl 5 r_11 fun b_70 r_12=>cInt .i64 r_12 fun n_24 r_13=>cInt .i64 r_13 fun n_25 r_14=>cSl 5 r_14 fun b_71 r_15=>cInt .i64 r_15 fun n_26 r_16=>onNil r_16 (cInt .i64 r fun n_27 r=>onNil r (Zv (chk (Xv b_65 Xf&&decide (Zx b_65≤1000000)&&Xv b_66 Ww&&decide (Zx b_66≤1000000)&&Xv b_70 Xf&&Xv b_71 Ww) (some (Zd (Kerb.Server.same (Yv (Zm b_62 b_63 b_64) (Yw Yg b_65) (Yn n_20 n_21 (Yw Xm b_66)) n_22) (Yv (Zm b_67 b_68 b_69) (Yw Yg b_70) (Yn n_24 n_25 (Yw Xm b_71)) n_26)),[]))) (kL fun b_72=>sel (!b_72) t12 (sel (!n_23==n_27) t12 (some (Sum.inl [Yu b,Zz .i64 n,Zz .i64 n_9,Zq b_31,Zq b_32,Zy b_33,Zy b_34,Zy b_35,Zy b_36,Zy b_37,Zy b_38,Yz 5 b_39,Zz .i64 n_10,Zz .i64 n_11,Yz 5 b_40,Zz .i64 n_12,Zq b_41,Zq b_42,Zq b_43,Zq b_44,Zd b_45,Zd b_46,Zd b_47,Zq b_48,Zq b_49,Zq b_50,Zq b_51,Zq b_52,Zq b_53,Zz .u32 n_13,Zq b_54,Zq b_55,Zq b_56,Zz .u16 n_14,Zz .u16 n_15,Zd b_57,Zz .i64 n_16,Yz 5 b_58,Zz .i64 (Zb .i64 (n_17+1))]))))))))))))))) (some (Sum.inr (Ex.exit 2,[Yu b,Zz .i64 n,Zz .i64 n_9,Zq b_31,Zq b_32,Zy b_33,Zy b_34,Zy b_35,Zy b_36,Zy b_37,Zy b_38,Yz 5 b_39,Zz .i64 n_10,Zz .i64 n_11,Yz 5 b_40,Zz .i64 n_12,Zq b_41,Zq b_42,Zq b_43,Zq b_44,Zd b_45,Zd b_46,Zd b_47,Zq b_48,Zq b_49,Zq b_50,Zq b_51,Zq b_52,Zq b_53,Zz .u32 n_13,Zq b_54,Zq b_55,Zq b_56,Zz .u16 n_14,Zz .u16 n_15,Zd b_57,Zz .i64 n_16,Yz 5 b_58,Zz .i64 n_17]))))) [Yu b,Zz .i64 n,Zz .i64 n_1,Zq b_1,Zq b_2,Zy b_3,Zy b_4,Zy b_5,Zy b_6,Zy b_7,Zy b_8,Yz 5 b_9,Zz .i64 n_2,Zz .i64 n_3,Yz 5 b_10,Zz .i64 n_4,Zq b_11,Zq b_12,Zq b_13,Zq b_14,Zd b_15,Zd b_16,Zd b_17,Zq b_18,Zq b_19,Zq b_20,Zq b_21,Zq b_22,Zq b_23,Zz .u32 n_5,Zq b_24,Zq b_25,Zq b_26,Zz .u16 n_6,Zz .u16 n_7,Zd b_27,Zz .i64 n_8,Yz 5 b_30,Zz .i64 0]) fun (r:Ex×List AV)=>cBs (Vw r) fun b r_1=>cInt .i64 r_1 fun n r_2=>cInt .i64 r_2 fun n_9 r_3=>cU8 r_3 fun b_31 r_4=>cU8 r_4 fun b_32 r_5=>cStr r_5 fun b_33 r_6=>cStr r_6 fun b_34 r_7=>cStr r_7 fun b_35 r_8=>cStr r_8 fun b_36 r_9=>cStr r_9 fun b_37 r_10=>cStr r_10 fun b_38 r_11=>cSl 5 r_11 fun b_39 r_12=>cInt .i64 r_12 fun n_10 r_13=>cInt .i64 r_13 fun n_11 r_14=>cSl 5 r_14 fun b_40 r_15=>cInt .i64 r_15 fun n_12 r_16=>cU8 r_16 fun b_41 r_17=>cU8 r_17 fun b_42 r_18=>cU8 r_18 fun b_43 r_19=>cU8 r_19 fun b_44 r_20=>cBool r_20 fun b_45 r_21=>cBool r_21 fun b_46 r_22=>cBool r_22 fun b_47 r_23=>cU8 r_23 fun b_48 r_24=>cU8 r_24 fun b_49 r_25=>cU8 r_25 fun b_50 r_26=>cU8 r_26 fun b_51 r_27=>cU8 r_27 fun b_52 r_28=>cU8 r_28 fun b_53 r_29=>cInt .u32 r_29 fun n_13 r_30=>cU8 r_30 fun b_54 r_31=>cU8 r_31 fun b_55 r_32=>cU8 r_32 fun b_56 r_33=>cInt .u16 r_33 fun n_14 r_34=>cInt .u16 r_34 fun n_15 r_35=>cBool r_35 fun b_57 r_36=>cInt .i64 r_36 fun n_16 r_37=>cSl 5 r_37 fun b_58 r_38=>cInt .i64 r_38 fun n_17 r_39=>onNil r_39 (exK r.1 (some (Sum.inr (Ex.ret,[Yu b,Zz .i64 n,Zz .i64 n_9,Zq b_31,Zq b_32,Zy b_33,Zy b_34,Zy b_35,Zy b_36,Zy b_37,Zy b_38,Yz 5 b_39,Zz .i64 n_10,Zz .i64 n_11,Yz 5 b_40,Zz .i64 n_12,Zq b_41,Zq b_42,Zq b_43,Zq b_44,Zd b_45,Zd b_46,Zd b_47,Zq b_48,Zq b_49,Zq b_50,Zq b_51,Zq b_52,Zq b_53,Zz .u32 n_13,Zq b_54,Zq b_55,Zq b_56,Zz .u16 n_14,Zz .u16 n_15,Zd b_57,Zz .i64 n_16]))) fun (j:Nat)=>sel (Nat.beq j 2) (some (Sum.inl [Yu b,Zz .i64 n,Zz .i64 n_9,Zq b_31,Zq b_32,Zy b_33,Zy b_34,Zy b_35,Zy b_36,Zy b_37,Zy b_38,Yz 5 b_39,Zz .i64 n_10,Zz .i64 n_11,Yz 5 b_40,Zz .i64 n_12,Zq b_41,Zq b_42,Zq b_43,Zq b_44,Zd b_45,Zd b_46,Zd b_47,Zq b_48,Zq b_49,Zq b_50,Zq b_51,Zq b_52,Zq b_53,Zz .u32 n_13,Zq b_54,Zq b_55,Zq b_56,Zz .u16 n_14,Zz .u16 n_15,Zd b_57,Zz .i64 (Zb .i64 (n_16+1))])) none))))) (some (Sum.inr (Ex.exit 0,[Yu b,Zz .i64 n,Zz .i64 n_1,Zq b_1,Zq b_2,Zy b_3,Zy b_4,Zy b_5,Zy b_6,Zy b_7,Zy b_8,Yz 5 b_9,Zz .i64 n_2,Zz .i64 n_3,Yz 5 b_10,Zz .i64 n_4,Zq b_11,Zq b_12,Zq b_13,Zq b_14,Zd b_15,Zd b_16,Zd b_17,Zq b_18,Zq b_19,Zq b_20,Zq b_21,Zq b_22,Zq b_23,Zz .u32 n_5,Zq b_24,Zq b_25,Zq b_26,Zz .u16 n_6,Zz .u16 n_7,Zd b_27,Zz .i64 n_8]))))) [Yu ks,Zz .i64 n,Zz .i64 skw,Zq sml,Zq wh,Zy x,Zy y,Zy z,Zy m1,Zy m2,Zy m3,Yz 5 kls,Zz .i64 sz,Zz .i64 fl,Yz 5 mls,Zz .i64 sk,Zq cu,Zq co,Zq cv,Zq cr,Zd lt,Zd tn,Zd mt,Zq cad,Zq cfr,Zq cis,Zq ctm,Zq ctk,Zq clf,Zz .u32 ccs,Zq cky,Zq ckv,Zq css,Zz .u16 ctt,Zz .u16 cau,Zd false,Zz .i64 0]) fun (r:Ex×List AV)=>cBs (Vw r) fun b r_1=>cInt .i64 r_1 fun n r_2=>cInt .i64 r_2 fun n r_3=>cU8 r_3 fun b r_4=>let t16:Kerb.RCache:=Yn (Zb .i64 (1+Vy (Zb .i64 (↑(Wh b):Int)) 40)) 0 (Yw Xm []);let t17:Int:=Zb .i64 (Zb .i64 (↑(Wh b):Int)*4);let t18:Kerb.RCache:=Yn (Zb .i64 (1+Vy (Zb .i64 (↑(Wh b):Int)) 40)) (-1:Int) (Yw Xm []);cU8 r_4 fun b r_5=>let t19:UInt8:=UInt8.ofNat (Yb (Vy (↑(Wh b):Int) (↑(Wh (5:UInt8)):Int)));cStr r_5 fun b r_6=>cStr r_6 fun b r_7=>cStr r_7 fun b r_8=>cStr r_8 fun b r_9=>cStr r_9 fun b_1 r_10=>let t20:Bool:=l63 b&&l63 b_1;cStr r_10 fun b_2 r_11=>let t21:Bool:=t20&&l63 b_2;cSl 5 r_11 fun b_3 r_12=>let t22:Bool:=t21&&Xv b_3 Xf&&decide (Zx b_3≤1000000);cInt .i64 r_12 fun n_1 r_13=>cInt .i64 r_13 fun n_2 r_14=>cSl 5 r_14 fun b_4 r_15=>let t23:Bool:=t22&&Xv b_4 Ww&&decide (Zx b_4≤1000000);cInt .i64 r_15 fun n_3 r_16=>let t25:Option (AV×Blocks):=chk t23 (some (Zz .i64 (Xx (Yv (Zm b b_1 b_2) (Yw Yg b_3) (Yn n_1 n_2 (Yw Xm b_4)) n_3)),[]));let t24:Option (AV×Blocks):=Zv t25 (kI .i64 fun n=>Zv t25 (kI .i64 fun n_4=>some (Zd (n==n_4),[])));cU8 r_16 fun b r_17=>cU8 r_17 fun b_5 r_18=>cU8 r_18 fun b_6 r_19=>cU8 r_19 fun b_7 r_20=>cBool r_20 fun b_8 r_21=>cBool r_21 fun b_9 r_22=>cBool r_22 fun b_10 r_23=>cU8 r_23 fun b_11 r_24=>cU8 r_24 fun b_12 r_25=>cU8 r_25 fun b_13 r_26=>cU8 r_26 fun b_14 r_27=>cU8 r_27 fun b_15 r_28=>cU8 r_28 fun b_16 r_29=>cInt .u32 r_29 fun n_4 r_30=>cU8 r_30 fun b_17 r_31=>cU8 r_31 fun b_18 r_32=>cU8 r_32 fun b_19 r_33=>cInt .u16 r_33 fun n_5 r_34=>cInt .u16 r_34 fun n_6 r_35=>let t34:Kerb.Prin:=Kerb.Case.me (Kerb.Case.mk b b_5 b_6 b_7 b_8 b_9 b_10 b_11 b_12 b_13 b_14 b_15 b_16 n_4 b_17 b_18 b_19 n_5 n_6);let t31:Kerb.Bytes:=Yq t34;let t32:Kerb.Bytes:=Yp t34;let t33:Kerb.Bytes:=Yk t34;let t26:List AV:=Zf (Zy t33::Zy t32::Zy t31::t2)::Zf (Zy t33::Zy t32::Zy t31::t1)::t0;let t27:Kerb.Prin:=Zm t33 t32 t31;let t29:Bool:=l63 t33&&l63 t32&&l63 t31;let t28:Bool:=t29&&Xv t26 Xf&&decide (Zx t26≤1000000)&&true&&true;let t30:Option (AV×Blocks):=chk (l63 t32&&l63 t31&&Xv t26 Xf&&decide (Zx t26≤1000000)&&true&&true) (some (Zz .i64 (Xx (Yv (Zm [] t32 t31) (Yw Yg t26) t16 t17)),[]));cBool r_35 fun b r_36=>cInt .i64 r_36 fun n_7 r_37=>onNil r_37 (exK r.1 (some (Zd b,[])) fun (j:Nat)=>sel (Nat.beq j 0) (sel (t19==(0:UInt8)) (Zv t30 (kI .i64 fun n=>Zv t30 (kI .i64 fun n_8=>sel (n==n_8) t24 (some (Zd false,[]))))) (sel (t19==(1:UInt8)) (chk (decide (0<(↑(Zx t26):Int))&&true) (chk (Nat.blt (Yb 0) (Zx t26)&&true) (Xd (Xb t26 (Yb 0) Xp) fun cs=>cStr cs fun b r=>cStr r fun b_20 r=>cStr r fun b_21 r=>cInt .i64 r fun n r=>cInt .u64 r fun n_8 r=>let t37:List AV:=[Zy b,Zy b_20,Zy b_21,Zz .i64 n,Zz .u64 n_8];let t36:List AV:=List.set t26 (Yb 1) (Zf t37);let t35:Option (AV×Blocks):=chk (t29&&Xv t36 Xf&&decide (Zx t36≤1000000)&&true&&true) (some (Zz .i64 (Xx (Yv t27 (Yw Yg t36) t16 t17)),[]));onNil r (chk (decide (1<(↑(Zx t26):Int))&&true) (chk (Nat.blt (Yb 1) (Zx t26)&&true&&true) (Xd (Xb t26 (Yb 1) Xp) fun cs=>cStr cs fun b r=>cStr r fun b r=>cStr r fun b r=>cInt .i64 r fun n r=>cInt .u64 r fun n r=>onNil r (chk (Zx t37==nat_lit 5&&true&&true&&true&&Nat.blt (Yb 1) (Zx t26)) (Zv t35 (kI .i64 fun n=>Zv t35 (kI .i64 fun n_9=>sel (n==n_9) t24 (some (Zd false,[])))))))))))) (sel (t19==(2:UInt8)) (Zv (chk t28 (some (Zz .i64 (Xx (Yv t27 (Yw Yg t26) t18 t17)),[]))) (kI .i64 fun n=>Zv (chk t28 (some (Zz .i64 (Xx (Yv t27 (Yw Yg t26) t18 t17)),[]))) (kI .i64 fun n_8=>sel (n==n_8) t24 (some (Zd false,[]))))) (sel (t19==(3:UInt8)) (Zv (chk t28 (some (Zz .i64 (Xx (Yv t27 (Yw Yg t26) t16 n)),[]))) (kI .i64 fun n_8=>Zv (chk t28 (some (Zz .i64 (Xx (Yv t27 (Yw Yg t26) t16 n)),[]))) (kI .i64 fun n=>sel (n_8==n) t24 (some (Zd false,[]))))) (Zv (chk t28 (some (Zz .i64 (Xx (Yv t27 (Yw Yg t26) t16 t17)),[]))) (kI .i64 fun n=>Zv (chk t28 (some (Zz .i64 (Xx (Yv t27 (Yw Yg t26) t16 t17)),[]))) (kI .i64 fun n_8=>sel (n==n_8) t24 (some (Zd false,[]))))))))) none)))):Option (AV×Blocks))) (by kernel_rfl) ?_
  delta kT kL kI
  try dsimp only [cStr,cBs,cBool,cU8,cInt,cSl,l63]
  simp only [Xg,decide_eq_true_eq] at hpre
  obtain ⟨⟨⟨⟨⟨⟨⟨⟨⟨⟨⟨⟨⟨ka,ma⟩,x1⟩,x2⟩,x3⟩,l1⟩,l2⟩,l3⟩,c0⟩,c1⟩,t0⟩,t1⟩,a0⟩,a1⟩:=hpre
  obtain ⟨rk,rfl,hrk⟩:=Kerb.skeys_of ka
  obtain ⟨rm,rfl,hrm⟩:=Vj ma
  simp only [Yd]
  by_cases q1:(Zb .i64 (Zb .i64 (((x.length:Nat):Int)+((y.length:Nat):Int))+((z.length:Nat):Int)))>300
  ·rw [sel_pos (by simpa using q1)]
  rw [sel_neg (by simpa using q1)]
  by_cases q2:((ks.length:Nat):Int)>100
  ·rw [sel_pos (by simpa using q2)]
  rw [sel_neg (by simpa using q2)]
  by_cases q3:(decide (20<rk.length)||decide (20<rm.length))=true
  ·rw [sel_pos q3]
  rw [sel_neg (by simpa only [Bool.not_eq_true] using q3)]
  simp only [Bool.or_eq_true,decide_eq_true_eq] at q3
  have kl:rk.length≤1000000:=by omega
  have ml:rm.length≤1000000:=by omega
  have hkT:=Wb hrk
  have hmT:=Vv hrm
  have lk:decide (ks.length≤100000)=true:=by simp;omega
  obtain ⟨M,hM⟩:∃ M,Kerb.Case.me (Kerb.Case.mk cu co cv cr lt tn mt cad cfr cis ctm ctk clf ccs cky ckv css ctt cau)=M:=⟨_,rfl⟩
  have hMv:M.valid=true:=hM ▸ (Kerb.server_keys _).1
  have hMl:=Kerb.valid_len62 hMv
  have e1:=hMl.1
  have e2:=hMl.2.1
  have e3:=hMl.2.2
  refine loop_rounds (fun i:Nat=>[Yu ks,Zz Zw n,Zz Zw skw,Zq sml,Zq wh,Zy x,Zy y,Zy z,Zy m1,Zy m2,Zy m3,Yz 5 (rk.map Ym),Zz Zw sz,Zz Zw fl,Yz 5 (rm.map Yf),Zz Zw sk,Zq cu,Zq co,Zq cv,Zq cr,Zd lt,Zd tn,Zd mt,Zq cad,Zq cfr,Zq cis,Zq ctm,Zq ctk,Zq clf,Zz IntKind.u32 ccs,Zq cky,Zq ckv,Zq css,Zz Wj ctt,Zz Wj cau,Zd false,Zz Zw (i:Int)]) (fun i=>i≤2) (fun i=>2-i) (fun r=>r=(Ex.exit 0,[Yu ks,Zz Zw n,Zz Zw skw,Zq sml,Zq wh,Zy x,Zy y,Zy z,Zy m1,Zy m2,Zy m3,Yz 5 (rk.map Ym),Zz Zw sz,Zz Zw fl,Yz 5 (rm.map Yf),Zz Zw sk,Zq cu,Zq co,Zq cv,Zq cr,Zd lt,Zd tn,Zd mt,Zq cad,Zq cfr,Zq cis,Zq ctm,Zq ctk,Zq clf,Zz IntKind.u32 ccs,Zq cky,Zq ckv,Zq css,Zz Wj ctt,Zz Wj cau,Zd false,Zz Zw 2])) 0 (by decide) rfl ?_ ?_
  ·intro i hi
   simp (config:={maxSteps:=10000000}) only [↓sInt,↓sU8,↓sBool,↓sStr,↓sBs,↓sSl,↓sAgg,↓sTup,↓sCons,↓sNil,↓sNilB,↓sChk,↓sChkBind,↓sSome]
   by_cases h1:i<2
   case neg =>
    have:i=2:=by omega
    subst this
    exact ⟨_,rfl,rfl⟩
   rw [sel_pos (by simp;omega)]
   have hL:∃ L:List Kerb.SKey,Xb [Yz 5 ((Kerb.dataKeys ks).map Ym),Yz 5 ((Kerb.goodKeys ks).map Ym)] (Yb (i:Int)) Xp=Yz 5 (L.map Ym)∧(∀ x∈L,x.ok)∧L.length≤1000000:=by
    have:i=0∨i=1:=by omega
    rcases this with rfl | rfl
    ·exact ⟨_,rfl,Kerb.dataKeys_ok ks,by have:=Kerb.dataKeys_len ks;omega⟩
    ·exact ⟨_,rfl,Kerb.goodKeys_ok ks,by have:=Kerb.goodKeys_len ks;omega⟩
   obtain ⟨L,hL,hLok,hLl⟩:=hL
   have hki:(decide ((0:Int)≤(i:Int))&&decide ((i:Int)<((Zx [Yz 5 ((Kerb.dataKeys ks).map Ym),Yz 5 ((Kerb.goodKeys ks).map Ym)]:Nat):Int))&&true)=true:=by simp;omega
   have hLT:=Wb hLok
   simp (config:={maxSteps:=10000000}) only [lk,hki,hL,↓sInt,↓sU8,↓sBool,↓sStr,↓sBs,↓sSl,↓sAgg,↓sTup,↓sCons,↓sNil,↓sNilB,↓sChk,↓sChkBind,↓sSome]
   refine loop_ex (fun k:Nat=>[Yu ks,Zz Zw n,Zz Zw skw,Zq sml,Zq wh,Zy x,Zy y,Zy z,Zy m1,Zy m2,Zy m3,Yz 5 (rk.map Ym),Zz Zw sz,Zz Zw fl,Yz 5 (rm.map Yf),Zz Zw sk,Zq cu,Zq co,Zq cv,Zq cr,Zd lt,Zd tn,Zd mt,Zq cad,Zq cfr,Zq cis,Zq ctm,Zq ctk,Zq clf,Zz IntKind.u32 ccs,Zq cky,Zq ckv,Zq css,Zz Wj ctt,Zz Wj cau,Zd false,Zz Zw (i:Int),Yz 5 (L.map Ym),Zz Zw (k:Int)]) (fun k=>k≤4) (fun k=>4-k) (fun r=>r=(Ex.exit 2,[Yu ks,Zz Zw n,Zz Zw skw,Zq sml,Zq wh,Zy x,Zy y,Zy z,Zy m1,Zy m2,Zy m3,Yz 5 (rk.map Ym),Zz Zw sz,Zz Zw fl,Yz 5 (rm.map Yf),Zz Zw sk,Zq cu,Zq co,Zq cv,Zq cr,Zd lt,Zd tn,Zd mt,Zq cad,Zq cfr,Zq cis,Zq ctm,Zq ctk,Zq clf,Zz IntKind.u32 ccs,Zq cky,Zq ckv,Zq css,Zz Wj ctt,Zz Wj cau,Zd false,Zz Zw (i:Int),Yz 5 (L.map Ym),Zz Zw 4])) 0 (by decide) rfl ?_ ?_
   ·intro k hk
    simp (config:={maxSteps:=10000000}) only [hM,↓sInt,↓sU8,↓sBool,↓sStr,↓sBs,↓sSl,↓sAgg,↓sTup,↓sCons,↓sNil,↓sNilB,↓sChk,↓sChkBind,↓sSome]
    by_cases h2:k<4
    case neg =>
     have:k=4:=by omega
     subst this
     exact ⟨_,rfl,rfl⟩
    rw [sel_pos (by simp;omega)]
    obtain ⟨p,hp,hp1,hp2,hp3⟩:=Kerb.pick_rest (f:=fun p:Kerb.Prin=>Zf [Zy p.name,Zy p.inst,Zy p.realm]) (a:=⟨x,y,z⟩) (b:=M) (e:=Xp) (P:=fun p=>p.name.length≤9223372036854775807∧p.inst.length≤9223372036854775807∧p.realm.length≤9223372036854775807) h2 ⟨x1,x2,x3⟩ hMl
    obtain ⟨n1,hn1⟩:=Kerb.pick_half (a:=n) (b:=Vy (Zb .i64 (sml.toNat:Int)) 43) (e:=Xp) h2
    obtain ⟨n2,hn2⟩:=Kerb.pick_half (a:=skw) (b:=Zb .i64 (Zb .i64 (sml.toNat:Int)*10)) (e:=Xp) h2
    dsimp only at hp
    have hr:∀ a b:AV,(decide ((0:Int)≤Vy (k:Int) 2)&&decide (Vy (k:Int) 2<((Zx [a,b]:Nat):Int))&&true)=true:=fun a b=>Kerb.rest_in
    have hh:∀ a b:AV,(decide ((0:Int)≤Zb .i64 (Int.tdiv (k:Int) 2))&&decide (Zb .i64 (Int.tdiv (k:Int) 2)<((Zx [a,b]:Nat):Int))&&true)=true:=fun a b=>Kerb.half_in h2
    have hpp:Zm p.name p.inst p.realm=p:=rfl
    obtain ⟨D,hD⟩:∃ D,Kerb.newServer p L n1 n2=D:=⟨_,rfl⟩
    obtain ⟨d1,d2,d3⟩:=Kerb.new_server (p:=p) (n:=n1) (skew:=n2) hLok hLl
    rw [hD] at d1 d2 d3
    have dkT:=Wb d1
    have dmT:(D.val.replay.marks.map Yf).all Ww=true:=by rw [d3];rfl
    have dml:D.val.replay.marks.length≤1000000:=by rw [d3];simp
    have hDs:Yv ⟨D.val.me.name,D.val.me.inst,D.val.me.realm⟩ D.val.keys ⟨D.val.replay.size,D.val.replay.floor,D.val.replay.marks⟩ D.val.skew=D.val:=rfl
    simp (config:={maxSteps:=10000000}) only [hr,hh,hp,hn1,hn2,hp1,hp2,hp3,hpp,hLT,hLl,hD,dkT,dmT,d2,dml,hDs,Kerb.map_toSKey,Vx,Yd,Kerb.Server.same_refl,BEq.rfl,Wy,decide_true,Wx,↓sFalse,↓sInt,↓sU8,↓sBool,↓sStr,↓sBs,↓sSl,↓sAgg,↓sTup,↓sCons,↓sNil,↓sNilB,↓sChk,↓sChkBind,↓sSome]
    rw [wrap_i64 (by omega) (by omega)]
    exact ⟨_,rfl,k+1,rfl,by omega,by dsimp only;omega⟩
   ·rintro _ rfl
    simp (config:={maxSteps:=10000000}) only [↓A0,A0]
    rw [sel_pos (Nat.beq_refl _),wrap_i64 (by omega) (by omega)]
    exact ⟨_,rfl,i+1,rfl,by omega,by dsimp only;omega⟩
  ·rintro _ rfl
   have hk1:=Kerb.skey_good (p:=M) (v:=1) (n:=1) hMv rfl
   have hk2:=Kerb.skey_good (p:=M) (v:=2) (n:=2) hMv rfl
   have hk3:=Kerb.skey_good (p:=Yx 0) (v:=1) (n:=9) (Kerb.user_valid 0) rfl
   have s1:Xv [Zf [Zy M.name,Zy M.inst,Zy M.realm,Zz Zw 1,Zz Zg (Zh 1)],Zf [Zy M.name,Zy M.inst,Zy M.realm,Zz Zw 2,Zz Zg (Zh 2)],Zf [Zy (Yx 0).name,Zy (Yx 0).inst,Zy (Yx 0).realm,Zz Zw 1,Zz Zg (Zh 9)]] Xf=true:=Kerb.all3 hk1 hk2 hk3
   have s2:Xv (List.set [Zf [Zy M.name,Zy M.inst,Zy M.realm,Zz Zw 1,Zz Zg (Zh 1)],Zf [Zy M.name,Zy M.inst,Zy M.realm,Zz Zw 2,Zz Zg (Zh 2)],Zf [Zy (Yx 0).name,Zy (Yx 0).inst,Zy (Yx 0).realm,Zz Zw 1,Zz Zg (Zh 9)]] (Yb 1) (Zf [Zy M.name,Zy M.inst,Zy M.realm,Zz Zw 1,Zz Zg (Zh 1)])) Xf=true:=Kerb.all3 hk1 hk1 hk3
   have s3:decide (Zx [Zf [Zy M.name,Zy M.inst,Zy M.realm,Zz Zw 1,Zz Zg (Zh 1)],Zf [Zy M.name,Zy M.inst,Zy M.realm,Zz Zw 2,Zz Zg (Zh 2)],Zf [Zy (Yx 0).name,Zy (Yx 0).inst,Zy (Yx 0).realm,Zz Zw 1,Zz Zg (Zh 9)]]≤1000000)=true:=rfl
   have s4:decide (Zx (List.set [Zf [Zy M.name,Zy M.inst,Zy M.realm,Zz Zw 1,Zz Zg (Zh 1)],Zf [Zy M.name,Zy M.inst,Zy M.realm,Zz Zw 2,Zz Zg (Zh 2)],Zf [Zy (Yx 0).name,Zy (Yx 0).inst,Zy (Yx 0).realm,Zz Zw 1,Zz Zg (Zh 9)]] (Yb 1) (Zf [Zy M.name,Zy M.inst,Zy M.realm,Zz Zw 1,Zz Zg (Zh 1)]))≤1000000)=true:=rfl
   have s5:Xb [Zf [Zy M.name,Zy M.inst,Zy M.realm,Zz Zw 1,Zz Zg (Zh 1)],Zf [Zy M.name,Zy M.inst,Zy M.realm,Zz Zw 2,Zz Zg (Zh 2)],Zf [Zy (Yx 0).name,Zy (Yx 0).inst,Zy (Yx 0).realm,Zz Zw 1,Zz Zg (Zh 9)]] (Yb 0) Xp=Zf [Zy M.name,Zy M.inst,Zy M.realm,Zz Zw 1,Zz Zg (Zh 1)]:=rfl
   have s6:Xb [Zf [Zy M.name,Zy M.inst,Zy M.realm,Zz Zw 1,Zz Zg (Zh 1)],Zf [Zy M.name,Zy M.inst,Zy M.realm,Zz Zw 2,Zz Zg (Zh 2)],Zf [Zy (Yx 0).name,Zy (Yx 0).inst,Zy (Yx 0).realm,Zz Zw 1,Zz Zg (Zh 9)]] (Yb 1) Xp=Zf [Zy M.name,Zy M.inst,Zy M.realm,Zz Zw 2,Zz Zg (Zh 2)]:=rfl
   have s7:decide ((0:Int)<((Zx [Zf [Zy M.name,Zy M.inst,Zy M.realm,Zz Zw 1,Zz Zg (Zh 1)],Zf [Zy M.name,Zy M.inst,Zy M.realm,Zz Zw 2,Zz Zg (Zh 2)],Zf [Zy (Yx 0).name,Zy (Yx 0).inst,Zy (Yx 0).realm,Zz Zw 1,Zz Zg (Zh 9)]]:Nat):Int))=true:=rfl
   have s8:decide ((1:Int)<((Zx [Zf [Zy M.name,Zy M.inst,Zy M.realm,Zz Zw 1,Zz Zg (Zh 1)],Zf [Zy M.name,Zy M.inst,Zy M.realm,Zz Zw 2,Zz Zg (Zh 2)],Zf [Zy (Yx 0).name,Zy (Yx 0).inst,Zy (Yx 0).realm,Zz Zw 1,Zz Zg (Zh 9)]]:Nat):Int))=true:=rfl
   have s9:Nat.blt (Yb 0) (Zx [Zf [Zy M.name,Zy M.inst,Zy M.realm,Zz Zw 1,Zz Zg (Zh 1)],Zf [Zy M.name,Zy M.inst,Zy M.realm,Zz Zw 2,Zz Zg (Zh 2)],Zf [Zy (Yx 0).name,Zy (Yx 0).inst,Zy (Yx 0).realm,Zz Zw 1,Zz Zg (Zh 9)]])=true:=rfl
   have sa:Nat.blt (Yb 1) (Zx [Zf [Zy M.name,Zy M.inst,Zy M.realm,Zz Zw 1,Zz Zg (Zh 1)],Zf [Zy M.name,Zy M.inst,Zy M.realm,Zz Zw 2,Zz Zg (Zh 2)],Zf [Zy (Yx 0).name,Zy (Yx 0).inst,Zy (Yx 0).realm,Zz Zw 1,Zz Zg (Zh 9)]])=true:=rfl
   have sb:(Zx [Zy M.name,Zy M.inst,Zy M.realm,Zz Zw 1,Zz Zg (Zh 1)]==(5:Nat))=true:=rfl
   have lnil:decide (([]:List UInt8).length≤9223372036854775807)=true:=rfl
   simp (config:={maxSteps:=10000000}) only [hM,e1,e2,e3,l1,l2,l3,kl,ml,hkT,hmT,s1,s2,s3,s4,s5,s6,s7,s8,s9,sa,sb,Yd,BEq.rfl,decide_true,Wx,Bool.and_true,↓sTrue,↓sExit,↓sInt,↓sU8,↓sBool,↓sStr,↓sBs,↓sSl,↓sAgg,↓sTup,↓sCons,↓sNil,↓sNilB,↓sChk,↓sChkBind,↓sSome]
   rw [sel_pos (Nat.beq_refl _)]
   simp only [sel_same]
 ·cases h
end Go.Proofs.YtiplnpablmohiaaGreat
