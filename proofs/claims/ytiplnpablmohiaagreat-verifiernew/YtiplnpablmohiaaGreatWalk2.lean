/- What the functions of this seat compute. -/
import Derived.Test.YtiplnpablmohiaaGreatTab
import Derived.Test.YtiplnpablmohiaaGreatKerbPlain
import Derived.Test.YtiplnpablmohiaaGreatAbsStep
import Derived.Test.YtiplnpablmohiaaGreatKerbCli7
import Derived.Test.YtiplnpablmohiaaGreatKerbCli3
import Derived.Test.YtiplnpablmohiaaGreatKerbCli4
import Derived.Test.YtiplnpablmohiaaGreatKerbKac4
import Derived.Test.YtiplnpablmohiaaGreatKerbVerL
open Go.Abs.AV renaming int→Zz,bool→Zw,str→Zv,u8→Zq,bs→Zf,tup→Yy,sl→Yk,ownB→Yb,onBool→Xk,onInt→Wz,agg→Wj,ownL→Wm,undef→Vh,onAgg→Uz
open List renaming length→Zy,length_map→Yu,append→Xx,getD→Xj,drop_eq_nil_of_le→Xd,map→Wu,all→Up,take→Un,drop→Um
open Option renaming bind→Zx
open Go.IntKind renaming i64→Zu,wrap→Zj,u16→Xp,bits→Ub,u64→Qz,u32→Qy
open Kerb renaming putN_len→Zk,putPrin_len→Zp,within→Zd,keyBytes_len→Zg,u8i→Yx,putN→Yw,putText→Yd,newCache→Xw,marksErr→Xf,map_toSKey→Xb,encodeMutual→Xn,validInst→Xm,printable→Xh,skErrs→Wy,noSKey→Wx,spoil→Ww,validName→Wk,skErr→Wp,readAp→Wd,putText_len→Wb,wrap_u8i→Wh,map_toMark→Vy,u8i_bd→Vj,text→Vk,header→Vp,skeys_all→Vd,readBox→Vf,makeBox→Vg,get→Vb,skeys_of→Uy,keyValid→Ux,goodStep→Uw,getD_row→Uv,encodeAp→Uu,toSKey→Ud,user→Uh,isSKey→Qv,encodeTicket→Qu
open Int renaming toNat→Zb,tmod→Yg,toNat_natCast→Yn,tmod_eq_emod_of_nonneg→Xz,tdiv→Vn,tdiv_eq_ediv_of_nonneg→Qx
open Kerb.Prin renaming valid→Zn,mk→Zm
open Prod renaming snd→Zh,fst→Yv
open Bool renaming and_eq_true→Yz,not_true→Yp,and_self→Yf
open UInt8 renaming toNat→Yq,ofNat→Vu
open Kerb.SKey renaming av→Yj,err→Ym,is→Xv
open Kerb.Mark renaming err→Yh,av→Xg
open Sum renaming inr→Xy,inl→Vq
open Kerb.Enc renaming val→Xu,err→Xq
open Kerb.Client renaming av→Wv
open Go.Abs.Ex renaming ret→Wq,exit→Vm
open Kerb.RCache renaming err→Wf
open Kerb.Cache renaming av→Wg
open Nat renaming beq_refl→Wn,beq→Uk,zero_le→Ug
open Kerb.GotAp renaming val→Vz
open Kerb.Cred renaming av→Vx
open Kerb.Case renaming mk→Vw
open Kerb.Auth renaming mk→Vv,check→Qq
open Kerb.Ticket renaming mk→Uq,err→Qw
open Kerb.ApRequest renaming mk→Uj
open Kerb.Dec renaming val→Uf
namespace Go.Proofs.YtiplnpablmohiaaGreat
open Go Go.Abs Go.Proofs
set_option linter.unusedVariables false
set_option linter.unusedSimpArgs false
set_option maxRecDepth 100000
theorem w78:Walked Tryz.prog G 78 4 sp78:=by
 refine ⟨Tryz.f78,Tryz.func78,by decide +kernel,rfl,fun xs bl r h=> ?_⟩
 unfold sp78 at h
 split at h
 ·rename_i kls
  obtain ⟨hpre,h2⟩:=chk_inv h;cases h2
  refine Eq.trans (b:=(sel (decide ((↑(Zy kls):Int)>60)) (some (Zz .i64 106,[])) (Zx (loopM (fun (st:List AV)=>cSl 5 st fun b r=>cInt .i64 r fun n r=>cInt .i64 r fun n_1 r=>let t0:List AV:=Um (Zb (↑(0:Nat):Int)) (Un (Zb n_1) b);let t1:Option (List AV ⊕ Ex×List AV):=some (Xy (Wq,[Yk 5 b,Zz .i64 104,Zz .i64 n_1]));onNil r (sel (decide (n_1<(↑(Zy b):Int))) (chk (decide (0≤n_1)&&decide (n_1<(↑(Zy b):Int))&&true) (Uz (Xj b (Zb n_1) Vh) fun cs=>cStr cs fun b_1 r=>cStr r fun b_2 r=>cStr r fun b_3 r=>cInt .i64 r fun n_2 r=>cInt .u64 r fun n_3 r=>onNil r (Zx (chk (l63 b_1&&l63 b_2&&l63 b_3) (some (Zw (Zn (Zm b_1 b_2 b_3)),[]))) (kL fun b_4=>sel (!b_4) (some (Xy (Wq,[Yk 5 b,Zz .i64 103,Zz .i64 n_1]))) (sel (decide (n_2<0)) t1 (sel (decide (n_2>255)) t1 (Zx (chk (decide (0≤n_3)&&decide (n_3<18446744073709551616)) (some (Zw (Ux n_3),[]))) (kL fun b_5=>sel (!b_5) (some (Xy (Wq,[Yk 5 b,Zz .i64 10,Zz .i64 n_1]))) (chk (decide ((↑(0:Nat):Int)≤n_1)&&decide (n_1≤(↑(Zy b):Int))) (Zx (chk (Up t0 Qv&&decide (Zy t0≤1000000)) (some (Yy [Zz .u64 (Yv (Kerb.skFind (Wu Ud t0) (Zm b_1 b_2 b_3) n_2)),Zw (Zh (Kerb.skFind (Wu Ud t0) (Zm b_1 b_2 b_3) n_2))],[]))) (kT fun vs=>cInt .u64 vs fun n_4 r=>cBool r fun b_6 r=>onNil r (sel b_6 (some (Xy (Wq,[Yk 5 b,Zz .i64 107,Zz .i64 n_1]))) (some (Vq [Yk 5 b,Zz .i64 n,Zz .i64 (Zj .i64 (n_1+1))])))))))))))))) (some (Xy (Vm 0,[Yk 5 b,Zz .i64 n,Zz .i64 n_1]))))) [Yk 5 kls,Zz .i64 0,Zz .i64 0]) fun (r:Ex×List AV)=>cSl 5 (Zh r) fun b r_1=>cInt .i64 r_1 fun n r_2=>cInt .i64 r_2 fun n_1 r_3=>onNil r_3 (exK r.1 (some (Zz .i64 n,[])) fun (j:Nat)=>sel (Uk j 0) (some (Zz .i64 0,[])) none)):Option (AV×Blocks))) (by kernel_rfl) ?_
  delta kT kL
  try dsimp only [cStr,cBs,cBool,cU8,cInt,cSl,l63]
  simp only [Yz,decide_eq_true_eq] at hpre
  obtain ⟨hall,hlen⟩:=hpre
  obtain ⟨cs,rfl,hok⟩:=Uy hall
  unfold Wp
  rw [Xb]
  simp only [Yu] at hlen ⊢
  by_cases h60:60<cs.length
  ·rw [sel_pos (by simp;omega),if_pos h60]
  rw [sel_neg (by simp;omega),if_neg h60]
  refine loop_rounds (fun i:Nat=>[Yk 5 (cs.map Yj),Zz Zu 0,Zz Zu (i:Int)]) (fun i=>i≤cs.length∧Wy [] cs=Wy (cs.take i) (cs.drop i)) (fun i=>cs.length-i)
   (fun r=>∃ (i:Nat) (n:Int),r.2=[Yk 5 (cs.map Yj),Zz Zu n,Zz Zu (i:Int)]∧((r.1 = .ret∧n=Wy [] cs)∨(r.1 = .exit 0∧Wy [] cs=0))) 0 ⟨Ug _,by simp⟩ rfl ?_ ?_
  ·rintro i ⟨hi,hp⟩
   simp only [↓A0,A0,Yu]
   by_cases hlt:i<cs.length
   ·rw [sel_pos (by simp;omega),chk_of (by simp;omega),Yn,Uv (d:=Wx) hlt]
    obtain ⟨c,hc⟩:∃ c,cs.getD i Wx=c:=⟨_,rfl⟩
    have hst:=Kerb.skErrs_step hlt hc hp
    have hcm:c∈cs:=hc ▸ Kerb.mem_row hlt
    have ho:=hok c hcm
    rw [hc]
    obtain ⟨⟨s1,s2,s3⟩,kv,ky⟩:=c
    obtain ⟨o1,o2,o3,o4,o5⟩:=ho
    have o4:=Kerb.isI64_iff.1 o4
    have o5:=Kerb.isU64_iff.1 o5
    dsimp only at o1 o2 o3 o4 o5 hst
    simp only [Yj,o1,o2,o3,o5,decide_true,Yf,↓A0,A0]
    have k1:∀ code:Int,code≠0→Ym ⟨⟨s1,s2,s3⟩,kv,ky⟩=code→code=Wy [] cs:=fun code h0 he=>by
     rw [he,if_pos h0] at hst;exact hst.symm
    cases h1:Zn ⟨s1,s2,s3⟩
    ·exact ⟨_,rfl,i,_,rfl,.inl ⟨rfl,k1 103 (by decide) (by simp [Ym,h1])⟩⟩
    rw [Yp,sel_false]
    by_cases h2:kv<0
    ·rw [sel_pos (by simpa using h2)]
     exact ⟨_,rfl,i,_,rfl,.inl ⟨rfl,k1 104 (by decide) (by simp [Ym,h1,Zd];omega)⟩⟩
    rw [sel_neg (by simpa using h2)]
    by_cases h3:kv>255
    ·rw [sel_pos (by simpa using h3)]
     exact ⟨_,rfl,i,_,rfl,.inl ⟨rfl,k1 104 (by decide) (by simp [Ym,h1,Zd];omega)⟩⟩
    rw [sel_neg (by simpa using h3)]
    have hw:Zd kv 255=true:=Kerb.within_iff.2 ⟨by omega,by omega⟩
    cases h4:Ux ky
    ·exact ⟨_,rfl,i,_,rfl,.inl ⟨rfl,k1 10 (by decide) (by simp [Ym,h1,hw,h4])⟩⟩
    rw [Yp,sel_false]
    have hz:Ym ⟨⟨s1,s2,s3⟩,kv,ky⟩=0:=by simp [Ym,h1,hw,h4]
    rw [hz,if_neg (by simp)] at hst
    rw [chk_of (by simp;omega)]
    simp only [Yn,List.drop_zero,← List.map_take]
    rw [chk_of (by rw [Vd (fun c hc=>hok c (List.mem_of_mem_take hc))];simp;omega),Xb,Kerb.skFind_found]
    cases hd:(cs.take i).any (Xv ⟨s1,s2,s3⟩ kv)
    ·rw [hd,if_neg (by simp)] at hst
     rw [sel_false,wrap_i64 (by omega) (by omega)]
     exact ⟨_,rfl,i+1,rfl,⟨by omega,hst⟩,by dsimp only;omega⟩
    ·rw [hd,if_pos rfl] at hst
     rw [sel_true]
     exact ⟨_,rfl,i,_,rfl,.inl ⟨rfl,hst.symm⟩⟩
   ·rw [sel_neg (by simp;omega)]
    refine ⟨_,rfl,i,_,rfl,.inr ⟨rfl,?_⟩⟩
    rw [hp,Xd (by omega)]
    rfl
  ·rintro ⟨e,l⟩ ⟨i,n,rfl,⟨rfl,h⟩ | ⟨rfl,h⟩⟩
   ·simp only [↓A0,A0,h]
   ·simp only [↓A0,A0,h]
    rw [sel_pos (Wn _)]
 ·cases h
theorem w80:Walked Tryz.prog G 80 4 sp80:=by
 refine ⟨Tryz.f80,Tryz.func80,by decide +kernel,rfl,fun xs bl r h=> ?_⟩
 unfold sp80 at h
 split at h
 ·rename_i sz fl mls
  obtain ⟨hpre,h2⟩:=chk_inv h;cases h2
  refine Eq.trans (b:=(sel (decide (sz<1)) (some (Zz .i64 104,[])) (sel (decide (sz>40)) (some (Zz .i64 104,[])) (sel (decide (fl<0)) (some (Zz .i64 104,[])) (sel (decide (fl>4294967295)) (some (Zz .i64 104,[])) (sel (decide ((↑(Zy mls):Int)>sz)) (some (Zz .i64 106,[])) (Zx (loopM (fun (st:List AV)=>cInt .i64 st fun n r=>cInt .i64 r fun n_1 r=>cSl 5 r fun b r=>cInt .i64 r fun n_2 r=>cInt .i64 r fun n_3 r=>let t0:Option (List AV ⊕ Ex×List AV):=some (Xy (Wq,[Zz .i64 n,Zz .i64 n_1,Yk 5 b,Zz .i64 104,Zz .i64 n_3]));let t1:List AV:=Um (Zb (↑(0:Nat):Int)) (Un (Zb n_3) b);onNil r (sel (decide (n_3<(↑(Zy b):Int))) (chk (decide (0≤n_3)&&decide (n_3<(↑(Zy b):Int))&&true) (Uz (Xj b (Zb n_3) Vh) fun cs=>cStr cs fun b_1 r=>cStr r fun b_2 r=>cStr r fun b_3 r=>cInt .i64 r fun n_4 r=>cInt .i64 r fun n_5 r=>onNil r (Zx (chk (l63 b_1&&l63 b_2&&l63 b_3) (some (Zw (Zn (Zm b_1 b_2 b_3)),[]))) (kL fun b_4=>sel (!b_4) (some (Xy (Wq,[Zz .i64 n,Zz .i64 n_1,Yk 5 b,Zz .i64 103,Zz .i64 n_3]))) (sel (decide (n_4<n_1)) t0 (sel (decide (n_4>4294967295)) t0 (sel (decide (n_5<0)) t0 (sel (decide (n_5>199)) t0 (chk (decide ((↑(0:Nat):Int)≤n_3)&&decide (n_3≤(↑(Zy b):Int))) (Zx (chk (Up t1 Kerb.isMark&&decide (Zy t1≤1000000)) (some (Zw (Kerb.hasMark (Wu Kerb.toMark t1) (Kerb.Mark.mk (Zm b_1 b_2 b_3) n_4 n_5)),[]))) (kL fun b_5=>sel b_5 (some (Xy (Wq,[Zz .i64 n,Zz .i64 n_1,Yk 5 b,Zz .i64 107,Zz .i64 n_3]))) (some (Vq [Zz .i64 n,Zz .i64 n_1,Yk 5 b,Zz .i64 n_2,Zz .i64 (Zj .i64 (n_3+1))]))))))))))))) (some (Xy (Vm 0,[Zz .i64 n,Zz .i64 n_1,Yk 5 b,Zz .i64 n_2,Zz .i64 n_3]))))) [Zz .i64 sz,Zz .i64 fl,Yk 5 mls,Zz .i64 0,Zz .i64 0]) fun (r:Ex×List AV)=>cInt .i64 (Zh r) fun n r_1=>cInt .i64 r_1 fun n r_2=>cSl 5 r_2 fun b r_3=>cInt .i64 r_3 fun n r_4=>cInt .i64 r_4 fun n_1 r_5=>onNil r_5 (exK r.1 (some (Zz .i64 n,[])) fun (j:Nat)=>sel (Uk j 0) (some (Zz .i64 0,[])) none)))))):Option (AV×Blocks))) (by kernel_rfl) ?_
  delta kL
  try dsimp only [cStr,cBs,cBool,cU8,cInt,cSl,l63]
  simp only [Yz,decide_eq_true_eq] at hpre
  obtain ⟨hall,hlen⟩:=hpre
  obtain ⟨cs,rfl,hok⟩:=Kerb.marks_of hall
  unfold Wf
  rw [Vy]
  simp only [Yu] at hlen ⊢
  by_cases e1:sz<1
  ·rw [sel_pos (by simpa using e1),if_pos (by simp;omega)]
  rw [sel_neg (by simpa using e1)]
  by_cases e2:sz>40
  ·rw [sel_pos (by simpa using e2),if_pos (by simp;omega)]
  rw [sel_neg (by simpa using e2)]
  by_cases e3:fl<0
  ·rw [sel_pos (by simpa using e3),if_pos (by simp [Zd];omega)]
  rw [sel_neg (by simpa using e3)]
  by_cases e4:fl>4294967295
  ·rw [sel_pos (by simpa using e4),if_pos (by simp [Zd];omega)]
  rw [sel_neg (by simpa using e4),if_neg (by simp [Zd];omega)]
  by_cases hsz:sz<cs.length
  ·rw [sel_pos (by simp;omega),if_pos hsz]
  rw [sel_neg (by simp;omega),if_neg hsz]
  refine loop_rounds (fun i:Nat=>[Zz Zu sz,Zz Zu fl,Yk 5 (cs.map Xg),Zz Zu 0,Zz Zu (i:Int)]) (fun i=>i≤cs.length∧Xf fl [] cs=Xf fl (cs.take i) (cs.drop i)) (fun i=>cs.length-i)
   (fun r=>∃ (i:Nat) (n:Int),r.2=[Zz Zu sz,Zz Zu fl,Yk 5 (cs.map Xg),Zz Zu n,Zz Zu (i:Int)]∧((r.1 = .ret∧n=Xf fl [] cs)∨(r.1 = .exit 0∧Xf fl [] cs=0))) 0 ⟨Ug _,by simp⟩ rfl ?_ ?_
  ·rintro i ⟨hi,hp⟩
   simp only [↓A0,A0,Yu]
   by_cases hlt:i<cs.length
   ·rw [sel_pos (by simp;omega),chk_of (by simp;omega),Yn,Uv (d:=Kerb.noMark) hlt]
    obtain ⟨c,hc⟩:∃ c,cs.getD i Kerb.noMark=c:=⟨_,rfl⟩
    have hst:=Kerb.marksErr_step hlt hc hp
    have hcm:c∈cs:=hc ▸ Kerb.mem_row hlt
    have ho:=hok c hcm
    rw [hc]
    obtain ⟨⟨s1,s2,s3⟩,mt,mk⟩:=c
    obtain ⟨o1,o2,o3,o4,o5⟩:=ho
    dsimp only at o1 o2 o3 o4 o5 hst
    simp only [Xg,o1,o2,o3,decide_true,Yf,↓A0,A0]
    have k1:∀ code:Int,code≠0→Yh fl ⟨⟨s1,s2,s3⟩,mt,mk⟩=code→code=Xf fl [] cs:=fun code h0 he=>by
     rw [he,if_pos h0] at hst;exact hst.symm
    cases h1:Zn ⟨s1,s2,s3⟩
    ·exact ⟨_,rfl,i,_,rfl,.inl ⟨rfl,k1 103 (by decide) (by simp [Yh,h1])⟩⟩
    rw [Yp,sel_false]
    by_cases h2:mt<fl
    ·rw [sel_pos (by simpa using h2)]
     exact ⟨_,rfl,i,_,rfl,.inl ⟨rfl,k1 104 (by decide) (by unfold Yh;rw [if_neg (by simp [h1]),if_pos (by simp [Zd];omega)])⟩⟩
    rw [sel_neg (by simpa using h2)]
    by_cases h3:mt>4294967295
    ·rw [sel_pos (by simpa using h3)]
     exact ⟨_,rfl,i,_,rfl,.inl ⟨rfl,k1 104 (by decide) (by unfold Yh;rw [if_neg (by simp [h1]),if_pos (by simp [Zd];omega)])⟩⟩
    rw [sel_neg (by simpa using h3)]
    by_cases h4:mk<0
    ·rw [sel_pos (by simpa using h4)]
     exact ⟨_,rfl,i,_,rfl,.inl ⟨rfl,k1 104 (by decide) (by unfold Yh;rw [if_neg (by simp [h1]),if_pos (by simp [Zd];omega)])⟩⟩
    rw [sel_neg (by simpa using h4)]
    by_cases h5:mk>199
    ·rw [sel_pos (by simpa using h5)]
     exact ⟨_,rfl,i,_,rfl,.inl ⟨rfl,k1 104 (by decide) (by unfold Yh;rw [if_neg (by simp [h1]),if_pos (by simp [Zd];omega)])⟩⟩
    rw [sel_neg (by simpa using h5)]
    have hw2:(decide (fl≤mt)&&decide (mt≤4294967295)&&Zd mk 199)=true:=by
     rw [Yz,Yz,decide_eq_true_eq,decide_eq_true_eq]
     exact ⟨⟨by omega,by omega⟩,Kerb.within_iff.2 ⟨by omega,by omega⟩⟩
    have hz:Yh fl ⟨⟨s1,s2,s3⟩,mt,mk⟩=0:=by
     unfold Yh
     rw [if_neg (by simp [h1])]
     dsimp only
     rw [hw2]
     rfl
    rw [hz,if_neg (by simp)] at hst
    rw [chk_of (by simp;omega)]
    simp only [Yn,List.drop_zero,← List.map_take]
    rw [chk_of (by rw [Kerb.marks_all (fun c hc=>hok c (List.mem_of_mem_take hc))];simp;omega),Vy]
    cases hd:Kerb.hasMark (cs.take i) ⟨⟨s1,s2,s3⟩,mt,mk⟩
    ·rw [hd,if_neg (by simp)] at hst
     rw [sel_false,wrap_i64 (by omega) (by omega)]
     exact ⟨_,rfl,i+1,rfl,⟨by omega,hst⟩,by dsimp only;omega⟩
    ·rw [hd,if_pos rfl] at hst
     rw [sel_true]
     exact ⟨_,rfl,i,_,rfl,.inl ⟨rfl,hst.symm⟩⟩
   ·rw [sel_neg (by simp;omega)]
    refine ⟨_,rfl,i,_,rfl,.inr ⟨rfl,?_⟩⟩
    rw [hp,Xd (by omega)]
    rfl
  ·rintro ⟨e,l⟩ ⟨i,n,rfl,⟨rfl,h⟩ | ⟨rfl,h⟩⟩
   ·simp only [↓A0,A0,h]
   ·simp only [↓A0,A0,h]
    rw [sel_pos (Wn _)]
 ·cases h
theorem w87:Walked Tryz.prog G 87 4 sp87:=by
 refine ⟨Tryz.f87,Tryz.func87,by decide +kernel,rfl,fun xs bl r h=> ?_⟩
 unfold sp87 at h
 split at h
 ·rename_i b
  obtain ⟨hpre,h2⟩:=chk_inv h;cases h2
  refine Eq.trans (b:=(Zx (chk (decide (Zy b≤4611686018427387904)) (some (Yy [Zz .i64 (Kerb.Got.val (Vb b 2 1 false)),Zz .i64 (Kerb.Got.next (Vb b 2 1 false)),Zz .i64 (Kerb.Got.err (Vb b 2 1 false))],[]))) (kT fun vs=>cInt .i64 vs fun n r=>cInt .i64 r fun n_1 r=>cInt .i64 r fun n_2 r=>onNil r (Zx (chk (decide (Zy b≤4611686018427387904)) (some (Yy [Zv (Kerb.GotB.val (Vk b n_1)),Zz .i64 (Kerb.GotB.next (Vk b n_1)),Zz .i64 (Kerb.GotB.err (Vk b n_1))],[]))) (kT fun vs=>cStr vs fun b_1 r=>cInt .i64 r fun n_3 r=>cInt .i64 r fun n_4 r=>onNil r (Zx (chk (decide (Zy b≤4611686018427387904)) (some (Yy [Zz .i64 (Kerb.Got.val (Vb b n_3 1 false)),Zz .i64 (Kerb.Got.next (Vb b n_3 1 false)),Zz .i64 (Kerb.Got.err (Vb b n_3 1 false))],[]))) (kT fun vs=>cInt .i64 vs fun n_5 r=>cInt .i64 r fun n_6 r=>cInt .i64 r fun n_7 r=>onNil r (Zx (chk (decide (Zy b≤4611686018427387904)) (some (Yy [Zz .i64 (Kerb.Got.val (Vb b n_6 1 false)),Zz .i64 (Kerb.Got.next (Vb b n_6 1 false)),Zz .i64 (Kerb.Got.err (Vb b n_6 1 false))],[]))) (kT fun vs=>cInt .i64 vs fun n_8 r=>cInt .i64 r fun n_9 r=>cInt .i64 r fun n_10 r=>onNil r (Zx (chk (decide (Zy b≤140737488355328)) (some (Yy [Zf (Kerb.GotB.val (Kerb.bytes b n_9 n_5)),Zz .i64 (Kerb.GotB.next (Kerb.bytes b n_9 n_5)),Zz .i64 (Kerb.GotB.err (Kerb.bytes b n_9 n_5))],[]))) (kT fun vs=>cBs vs fun b_2 r=>cInt .i64 r fun n_11 r=>cInt .i64 r fun n_12 r=>onNil r (Zx (chk (decide (Zy b≤140737488355328)) (some (Yy [Zf (Kerb.GotB.val (Kerb.bytes b n_11 n_8)),Zz .i64 (Kerb.GotB.next (Kerb.bytes b n_11 n_8)),Zz .i64 (Kerb.GotB.err (Kerb.bytes b n_11 n_8))],[]))) (kT fun vs=>cBs vs fun b_3 r=>cInt .i64 r fun n_13 r=>cInt .i64 r fun n_14 r=>onNil r (some (Yy [Wj [Zw (Kerb.Head.little (Kerb.readHead b)),Zw (Kerb.Head.kind (Kerb.readHead b)==4),Zz .i64 n,Zv b_1,Zf b_2,Zf b_3],Zz .i64 n_13],[]))))))))))))):Option (AV×Blocks))) (by kernel_rfl) ?_
  delta kT
  try dsimp only [cStr,cBs,cBool,cU8,cInt,cSl,l63]
  have hb:=of_decide_eq_true hpre
  have hpre2:decide (b.length≤4611686018427387904)=true:=by simp;omega
  simp only [hpre,hpre2,↓A0,A0]
  rfl
 ·cases h
theorem w110:Walked Tryz.prog G 110 4 sp110:=by
 refine ⟨Tryz.f110,Tryz.func110,by decide +kernel,rfl,fun xs bl r h=> ?_⟩
 unfold sp110 at h
 split at h
 ·rename_i b n
  obtain ⟨hpre,h2⟩:=chk_inv h;cases h2
  refine Eq.trans (b:=(Zx (chk (decide (Zy b≤70368744177664)) (some (Yb (b++Yw n (Zb 1) false),[]))) fun (r:AV×Blocks)=>onNilB (Zh r) (AV.onOwnB (Yv r) fun l=>some (Yb l,[])):Option (AV×Blocks))) (by kernel_rfl) ?_
  simp only [decide_eq_true_eq] at hpre
  simp only [A0]
  rw [chk_of (by simp;omega)]
  rfl
 ·cases h
theorem w111:Walked Tryz.prog G 111 4 sp111:=by
 refine ⟨Tryz.f111,Tryz.func111,by decide +kernel,rfl,fun xs bl r h=> ?_⟩
 unfold sp111 at h
 split at h
 ·rename_i b n little
  obtain ⟨hpre,h2⟩:=chk_inv h;cases h2
  refine Eq.trans (b:=(Zx (chk (decide (Zy b≤70368744177664)) (some (Yb (b++Yw n (Zb 4) little),[]))) fun (r:AV×Blocks)=>onNilB (Zh r) (AV.onOwnB (Yv r) fun l=>some (Yb l,[])):Option (AV×Blocks))) (by kernel_rfl) ?_
  simp only [decide_eq_true_eq] at hpre
  simp only [A0]
  rw [chk_of (by simp;omega)]
  rfl
 ·cases h
theorem w117:Walked Tryz.prog G 117 4 sp117:=by
 refine ⟨Tryz.f117,Tryz.func117,by decide +kernel,rfl,fun xs bl r h=> ?_⟩
 unfold sp117 at h
 split at h
 ·rename_i b n little
  obtain ⟨hpre,h2⟩:=chk_inv h;cases h2
  refine Eq.trans (b:=(Zx (chk (decide (Zy b≤70368744177664)) (some (Yb (b++Yw n (Zb 2) little),[]))) fun (r:AV×Blocks)=>onNilB (Zh r) (AV.onOwnB (Yv r) fun l=>some (Yb l,[])):Option (AV×Blocks))) (by kernel_rfl) ?_
  simp only [decide_eq_true_eq] at hpre
  simp only [A0]
  rw [chk_of (by simp;omega)]
  rfl
 ·cases h
theorem w150:Walked Tryz.prog G 150 4 sp150:=by
 refine ⟨Tryz.f150,Tryz.func150,by decide +kernel,rfl,fun xs bl r h=> ?_⟩
 unfold sp150 at h
 split at h
 ·rename_i li x y z ad k lf iss sv ins
  obtain ⟨hpre,h2⟩:=chk_inv h;cases h2
  refine Eq.trans (b:=(Zx (chk (decide (Zy x≤9223372036854775807)&&decide (Zy y≤9223372036854775807)&&decide (Zy z≤9223372036854775807)) (some (Zw (Zn (Zm x y z)),[]))) fun (r:AV×Blocks)=>onNilB (Zh r) (Xk (Yv r) fun b=>sel (!b) (some (Zz .i64 103,[])) (Zx (chk (decide (Zy sv≤9223372036854775807)) (some (Zw (Wk sv),[]))) fun (r:AV×Blocks)=>onNilB (Zh r) (Xk (Yv r) fun b=>sel (!b) (some (Zz .i64 103,[])) (Zx (chk (decide (Zy ins≤9223372036854775807)) (some (Zw (Xm ins),[]))) fun (r:AV×Blocks)=>onNilB (Zh r) (Xk (Yv r) fun b=>sel (!b) (some (Zz .i64 103,[])) (Zx (chk (decide (0≤k)&&decide (k<18446744073709551616)) (some (Zz .i64 (Kerb.classOf k),[]))) fun (r:AV×Blocks)=>onNilB (Zh r) (Wz .i64 (Yv r) fun n=>sel (!n==2) (some (Zz .i64 10,[])) (sel (!Zd ad 4294967295) (some (Zz .i64 104,[])) (sel (!Zd lf 255) (some (Zz .i64 104,[])) (sel (!Zd iss 4294967295) (some (Zz .i64 104,[])) (some (Zz .i64 0,[])))))))))))):Option (AV×Blocks))) (by kernel_rfl) ?_
  simp only [Yz,decide_eq_true_eq] at hpre
  obtain ⟨⟨⟨⟨⟨⟨h1,h2⟩,h3⟩,h4⟩,h5⟩,h6⟩,h7⟩:=hpre
  simp only [h1,h2,h3,h4,h5,h6,h7,decide_true,Yf,↓A0,A0]
  unfold Qw
  dsimp only
  cases Zn ⟨x,y,z⟩
  ·rfl
  cases Wk sv
  ·rfl
  cases Xm ins
  ·rfl
  simp only [Yp,Yf,sel_false]
  by_cases hc:Kerb.classOf k=2
  case neg=>rw [sel_pos (by simpa using hc),if_neg (by simp),if_pos hc]
  rw [sel_neg (by simp [hc]),if_neg (by simp),if_neg (by simp [hc])]
  cases Zd ad 4294967295
  ·rfl
  cases Zd lf 255
  ·rfl
  cases Zd iss 4294967295
  ·rfl
  rfl
 ·cases h
theorem w152:Walked Tryz.prog G 152 4 sp152:=by
 refine ⟨Tryz.f152,Tryz.func152,by decide +kernel,rfl,fun xs bl r h=> ?_⟩
 unfold sp152 at h
 split at h
 ·rename_i x y z ck tc tm
  obtain ⟨hpre,h2⟩:=chk_inv h;cases h2
  refine Eq.trans (b:=(Zx (chk (decide (Zy x≤9223372036854775807)&&decide (Zy y≤9223372036854775807)&&decide (Zy z≤9223372036854775807)) (some (Zw (Zn (Zm x y z)),[]))) fun (r:AV×Blocks)=>onNilB (Zh r) (Xk (Yv r) fun b=>sel (!b) (some (Zz .i64 103,[])) (sel (!Zd ck 4294967295) (some (Zz .i64 104,[])) (sel (!Zd tc 199) (some (Zz .i64 104,[])) (sel (!Zd tm 4294967295) (some (Zz .i64 104,[])) (some (Zz .i64 0,[])))))):Option (AV×Blocks))) (by kernel_rfl) ?_
  simp only [A0,Wv,Wg,Vx,hpre]
  unfold Qq
  simp only
  cases Zn ⟨x,y,z⟩
  ·rfl
  cases Zd ck 4294967295
  ·rfl
  cases Zd tc 199
  ·rfl
  cases Zd tm 4294967295<;>rfl
 ·cases h
theorem w165:Walked Tryz.prog G 165 4 sp165:=by
 refine ⟨Tryz.f165,Tryz.func165,by decide +kernel,rfl,fun xs bl r h=> ?_⟩
 unfold sp165 at h
 split at h
 ·rename_i s bad
  obtain ⟨hpre,h2⟩:=chk_inv h;cases h2
  refine Eq.trans (b:=(Zx (loopM (fun (st:List AV)=>cStr st fun b r=>cStr r fun b_1 r=>cBool r fun b_2 r=>cInt .i64 r fun n r=>cInt .i64 r fun n_1 r=>let t0:Option (List AV ⊕ Ex×List AV):=some (Xy (Wq,[Zv b,Zv b_1,Zw false,Zz .i64 n,Zz .i64 n_1]));let t1:Bool:=decide (0≤n_1)&&decide (n_1<(↑(Zy b):Int));let t2:Int:=(↑(Yq (Xj b (Zb n_1) (0:UInt8))):Int);onNil r (sel (decide (n_1<n)) (chk t1 (sel (decide (t2<(↑(Yq (33:UInt8)):Int))) t0 (chk t1 (sel (decide (t2>(↑(Yq (126:UInt8)):Int))) t0 (chk t1 (sel (decide (Kerb.indexOf (Xj b (Zb n_1) (0:UInt8)) b_1≥0)) t0 (some (Vq [Zv b,Zv b_1,Zw b_2,Zz .i64 n,Zz .i64 (Zj .i64 (n_1+1))])))))))) (some (Xy (Vm 0,[Zv b,Zv b_1,Zw b_2,Zz .i64 n,Zz .i64 n_1]))))) [Zv s,Zv bad,Zw false,Zz .i64 (↑(Zy s):Int),Zz .i64 0]) fun (r:Ex×List AV)=>cStr (Zh r) fun b r_1=>cStr r_1 fun b r_2=>cBool r_2 fun b r_3=>cInt .i64 r_3 fun n r_4=>cInt .i64 r_4 fun n r_5=>onNil r_5 (exK r.1 (some (Zw b,[])) fun (j:Nat)=>sel (Uk j 0) (some (Zw true,[])) none):Option (AV×Blocks))) (by kernel_rfl) ?_
  try dsimp only [cStr,cBs,cBool,cU8,cInt,cSl,l63]
  simp only [decide_eq_true_eq] at hpre
  refine loop_rounds (fun i:Nat=>[Zv s,Zv bad,Zw false,Zz Zu (s.length:Int),Zz Zu (i:Int)]) (fun i=>i≤s.length∧Xh s bad=Xh (s.drop i) bad) (fun i=>s.length-i)
   (fun r=>∃ i:Nat,r.2=[Zv s,Zv bad,Zw false,Zz Zu (s.length:Int),Zz Zu (i:Int)]∧((r.1 = .ret∧Xh s bad=false)∨(r.1 = .exit 0∧Xh s bad=true))) 0 ⟨Ug _,rfl⟩ rfl ?_ ?_
  ·rintro i ⟨hi,hp⟩
   simp only [A0]
   by_cases hlt:i<s.length
   ·have hc:(decide ((0:Int)≤(i:Int))&&decide ((i:Int)<(s.length:Int)))=true:=by simp;omega
    have hd:=Kerb.drop_all_cons hlt
    rw [sel_pos (by simp;omega),chk_of hc,Yn]
    have hpr:Xh (s.drop i) bad=(Kerb.okB bad (s.getD i 0)&&Xh (s.drop (i+1)) bad):=by rw [hd];rfl
    generalize s.getD i 0=c at *
    by_cases h1:c.toNat<33
    ·rw [sel_pos (by simp;omega)]
     exact ⟨_,rfl,i,rfl,.inl ⟨rfl,by rw [hp,hpr];simp [Kerb.okB,h1]⟩⟩
    rw [sel_neg (by simp;omega),chk_of hc]
    by_cases h2:126<c.toNat
    ·rw [sel_pos (by simp;omega)]
     exact ⟨_,rfl,i,rfl,.inl ⟨rfl,by rw [hp,hpr];simp [Kerb.okB,h2]⟩⟩
    rw [sel_neg (by simp;omega),chk_of hc]
    have h4:=Kerb.indexOf_nonneg c bad
    by_cases h3:c∈bad
    ·rw [sel_pos (by simpa using h4.2 h3)]
     exact ⟨_,rfl,i,rfl,.inl ⟨rfl,by rw [hp,hpr];simp [Kerb.okB,h3]⟩⟩
    rw [sel_neg (by have:=mt h4.1 h3;simp;omega),wrap_i64 (by omega) (by omega)]
    exact ⟨_,rfl,i+1,rfl,⟨by omega,by rw [hp,hpr];simp [Kerb.okB,h1,h2,h3]⟩,by dsimp only;omega⟩
   ·rw [sel_neg (by simp;omega)]
    exact ⟨_,rfl,i,rfl,.inr ⟨rfl,by rw [hp,Xd (by omega)];rfl⟩⟩
  ·rintro ⟨e,l⟩ ⟨i,rfl,⟨rfl,hp⟩ | ⟨rfl,hp⟩⟩
   ·simp only [A0,hp]
   ·simp only [A0,hp]
    rfl
 ·cases h
theorem w177:Walked Tryz.prog G 177 4 sp177:=by
 refine ⟨Tryz.f177,Tryz.func177,by decide +kernel,rfl,fun xs bl r h=> ?_⟩
 unfold sp177 at h
 split at h
 ·rename_i b
  obtain ⟨hpre,h2⟩:=chk_inv h;cases h2
  refine Eq.trans (b:=(sel (!(↑(Zy b):Int)==8) (some (Yy [Zz .u64 0,Zw false],[])) (Zx (loopM (fun (st:List AV)=>cInt .u64 st fun n r=>cBs r fun b r=>cInt .i64 r fun n_1 r=>cInt .i64 r fun n_2 r=>onNil r (sel (decide (n_2<n_1)) (chk (decide (0≤n_2)&&decide (n_2<(↑(Zy b):Int))) (some (Vq [Zz .u64 (Zj .u64 (↑(BitVec.toNat (BitVec.ofInt (Ub .u64) (Zj .u64 (n*2 ^ min (Zb 8) (Ub .u64))) ||| BitVec.ofInt (Ub .u64) (Zj .u64 (↑(Yq (Xj b (Zb n_2) (0:UInt8))):Int)))):Int)),Zf b,Zz .i64 n_1,Zz .i64 (Zj .i64 (n_2+1))]))) (some (Xy (Vm 0,[Zz .u64 n,Zf b,Zz .i64 n_1,Zz .i64 n_2]))))) [Zz .u64 0,Zf b,Zz .i64 (↑(Zy b):Int),Zz .i64 0]) fun (r:Ex×List AV)=>cInt .u64 (Zh r) fun n r_1=>cBs r_1 fun b r_2=>cInt .i64 r_2 fun n_1 r_3=>cInt .i64 r_3 fun n_2 r_4=>onNil r_4 (exK r.1 none fun (j:Nat)=>sel (Uk j 0) (Zx (chk (decide (0≤n)&&decide (n<18446744073709551616)) (some (Zw (Ux n),[]))) (kL fun b=>sel (!b) (some (Yy [Zz .u64 0,Zw false],[])) (some (Yy [Zz .u64 n,Zw true],[])))) none)):Option (AV×Blocks))) (by kernel_rfl) ?_
  delta kL
  try dsimp only [cStr,cBs,cBool,cU8,cInt,cSl,l63]
  have hb:=of_decide_eq_true hpre
  unfold Kerb.keyRead
  by_cases h8:b.length=8
  case neg =>
   rw [sel_pos (by simp;omega),if_neg (by omega)]
  rw [sel_neg (by simp [h8])]
  refine loop_rounds (fun i:Nat=>[Zz Qz (Kerb.valB (b.take i)),Zf b,Zz Zu (b.length:Int),Zz Zu (i:Int)]) (fun i=>i≤8) (fun i=>8-i)
   (fun r=>r=(Vm 0,[Zz Qz (Kerb.valB b),Zf b,Zz Zu (b.length:Int),Zz Zu 8])) 0 (by omega) rfl ?_ ?_
  ·intro i hi
   simp only [A0]
   by_cases hlt:i<8
   ·have hv:=Kerb.valB_take (l:=b) (i:=i) (by omega)
    have hbd:=Kerb.valB_bd7 (l:=b.take i) (by simp;omega)
    rw [sel_pos (by simp;omega),chk_of (by simp;omega),Yn,Kerb.shl8_oru _ hbd.1 hbd.2,wrap_i64 (by omega) (by omega),← hv]
    exact ⟨_,rfl,i+1,rfl,by omega,by dsimp only;omega⟩
   ·rw [sel_neg (by simp;omega)]
    refine ⟨_,rfl,?_⟩
    show _=_
    rw [List.take_of_length_le (by omega),show i=8 from by omega]
    rfl
  rintro r rfl
  have hbd:=Kerb.valB_bd8 (l:=b) (by omega)
  simp only [A0]
  rw [sel_pos (Wn _),chk_of (by simp;omega)]
  cases hv:Ux (Kerb.valB b)
  ·rw [if_neg (by simp)]
   rfl
  ·rw [if_pos ⟨h8,rfl⟩]
   rfl
 ·cases h
theorem w185:Walked Tryz.prog G 185 4 sp185:=by
 refine ⟨Tryz.f185,Tryz.func185,by decide +kernel,rfl,fun xs bl r h=> ?_⟩
 unfold sp185 at h
 split at h
 ·rename_i b x y z
  obtain ⟨hpre,h2⟩:=chk_inv h;cases h2
  refine Eq.trans (b:=(Zx (chk (decide (Zy b+Zy x≤70368744177664)) (some (Zf (Yd b x),[]))) fun (r:AV×Blocks)=>onNilB (Zh r) (AV.onBs (Yv r) fun b=>Zx (chk (decide (Zy b+Zy y≤70368744177664)) (some (Zf (Yd b y),[]))) fun (r:AV×Blocks)=>onNilB (Zh r) (AV.onBs (Yv r) fun b=>Zx (chk (decide (Zy b+Zy z≤70368744177664)) (some (Zf (Yd b z),[]))) fun (r:AV×Blocks)=>onNilB (Zh r) (AV.onBs (Yv r) fun b=>some (Zf b,[])))):Option (AV×Blocks))) (by kernel_rfl) ?_
  simp only [decide_eq_true_eq] at hpre
  simp only [A0]
  rw [chk_of (by simp;omega),chk_of (by simp [Yd];omega),chk_of (by simp [Yd];omega)]
  rfl
 ·cases h
theorem w31:Walked Tryz.prog G 31 5 sp31:=by
 refine ⟨Tryz.f31,Tryz.func31,by decide +kernel,rfl,fun xs bl r h=> ?_⟩
 unfold sp31 at h
 split at h
 ·rename_i l
  obtain ⟨hpre,h2⟩:=chk_inv h;cases h2
  refine Eq.trans (b:=(Zx (chk (decide (Zy l≤100000)) (some (Yk 5 (Wu Yj (Kerb.dataKeys l)),[]))) fun (r:AV×Blocks)=>onNilB (Zh r) (AV.onSl 5 (Yv r) fun b=>Zx (loopM (fun (st:List AV)=>cSl 5 st fun b r=>onCons r fun x r=>AV.onOwnL x fun b_1=>cInt .i64 r fun n r=>let t0:Option (List AV ⊕ Ex×List AV):=some (Xy (Vm 0,[Yk 5 b,Wm b_1,Zz .i64 n]));onNil r (sel (decide (n<(↑(Zy b):Int))) (sel (decide ((↑(Zy b_1):Int)<60)) (Zx (loopM (fun (st:List AV)=>cSl 5 st fun b r=>onCons r fun x r=>AV.onOwnL x fun b_2=>cInt .i64 r fun n r=>cBool r fun b_3 r=>cInt .i64 r fun n_1 r=>let t1:List AV:=[Zz .i64 (Zj .i64 (n_1+1))];onNil r (sel (decide (n_1<(↑(Zy b_2):Int))) (sel b_3 (chk (decide (0≤n_1)&&decide (n_1<(↑(Zy b_2):Int))&&true) (chk (Nat.blt (Zb n_1) (Zy b_2)&&true) (Uz (Xj b_2 (Zb n_1) Vh) fun cs=>cStr cs fun b_4 r=>cStr r fun b_5 r=>cStr r fun b_6 r=>cInt .i64 r fun n_2 r=>cInt .u64 r fun n_3 r=>onNil r (chk (decide (0≤n)&&decide (n<(↑(Zy b):Int))&&true) (Uz (Xj b (Zb n) Vh) fun cs=>cStr cs fun b_7 r=>cStr r fun b_8 r=>cStr r fun b_9 r=>cInt .i64 r fun n_4 r=>cInt .u64 r fun n_5 r=>onNil r (sel (!(b_4==b_7&&(b_5==b_8&&b_6==b_9))) (some (Vq (Yk 5 b::Wm b_2::Zz .i64 n::Zw true::t1))) (chk (decide (0≤n_1)&&decide (n_1<(↑(Zy b_2):Int))&&true) (chk (Nat.blt (Zb n_1) (Zy b_2)&&true) (Uz (Xj b_2 (Zb n_1) Vh) fun cs=>cStr cs fun b_10 r=>cStr r fun b_11 r=>cStr r fun b_12 r=>cInt .i64 r fun n_6 r=>cInt .u64 r fun n_7 r=>onNil r (chk (decide (0≤n)&&decide (n<(↑(Zy b):Int))&&true) (Uz (Xj b (Zb n) Vh) fun cs=>cStr cs fun b_13 r=>cStr r fun b_14 r=>cStr r fun b_15 r=>cInt .i64 r fun n_8 r=>cInt .u64 r fun n_9 r=>onNil r (some (Vq (Yk 5 b::Wm b_2::Zz .i64 n::(Zw !n_6==n_8)::t1)))))))))))))) (some (Vq (Yk 5 b::Wm b_2::Zz .i64 n::Zw false::t1)))) (some (Xy (Vm 2,[Yk 5 b,Wm b_2,Zz .i64 n,Zw b_3,Zz .i64 n_1]))))) [Yk 5 b,Wm b_1,Zz .i64 n,Zw true,Zz .i64 0]) fun (r:Ex×List AV)=>cSl 5 (Zh r) fun b r_1=>onCons r_1 fun x r_2=>AV.onOwnL x fun b_2=>cInt .i64 r_2 fun n r_3=>cBool r_3 fun b_3 r_4=>cInt .i64 r_4 fun n_1 r_5=>onNil r_5 (exK r.1 (some (Xy (Wq,[Yk 5 b,Wm b_2,Zz .i64 n]))) fun (j:Nat)=>sel (Uk j 2) (sel b_3 (chk (decide (0≤n)&&decide (n<(↑(Zy b):Int))&&true) (Uz (Xj b (Zb n) Vh) fun cs=>cStr cs fun b_4 r=>cStr r fun b_5 r=>cStr r fun b_6 r=>cInt .i64 r fun n_2 r=>cInt .u64 r fun n_3 r=>let t2:List AV:=[Wj [Zv b_4,Zv b_5,Zv b_6,Zz .i64 n_2,Zz .u64 n_3]];onNil r (chk (room (Zy b_2+Zy t2) (nat_lit 64)) (some (Vq [Yk 5 b,Wm (b_2++t2),Zz .i64 (Zj .i64 (n+1))]))))) (some (Vq [Yk 5 b,Wm b_2,Zz .i64 (Zj .i64 (n+1))]))) none)) t0) t0)) [Yk 5 b,Wm [],Zz .i64 0]) fun (r:Ex×List AV)=>cSl 5 (Zh r) fun b r_1=>onCons r_1 fun x r_2=>AV.onOwnL x fun b=>cInt .i64 r_2 fun n r_3=>onNil r_3 (exK r.1 none fun (j:Nat)=>sel (Uk j 0) (some (Yk 5 b,[])) none)):Option (AV×Blocks))) (by kernel_rfl) ?_
  try dsimp only [cStr,cBs,cBool,cU8,cInt,cSl,l63]
  have hl:=of_decide_eq_true hpre
  obtain ⟨al,has⟩:∃ a,Kerb.dataKeys l=a:=⟨_,rfl⟩
  have hgood:Kerb.goodKeys l=al.foldl Uw []:=by rw [← has];rfl
  have r64:∀ {m:Nat},m≤1000→Go.Abs.room m 64=true:=fun h=>by simp [Go.Abs.room];omega
  have hla:al.length≤70:=by rw [← has];exact Kerb.dataKeys_len l
  simp (config:={maxSteps:=10000000}) only [hpre,has,hgood,↓A0,A0]
  refine loop_rounds (fun q:Nat×List Kerb.SKey=>[Yk 5 (al.map Yj),Wm (q.2.map Yj),Zz Zu (q.1:Int)]) (fun q=>q.1≤al.length∧q.2.length≤60∧al.foldl Uw []=(al.drop q.1).foldl Uw q.2) (fun q=>al.length-q.1)
   (fun r=>∃ i:Int,r=(Vm 0,[Yk 5 (al.map Yj),Wm ((al.foldl Uw []).map Yj),Zz Zu i])) (0,[]) ⟨Ug _,by simp,by simp⟩ rfl ?_ ?_
  ·rintro ⟨i,out⟩ ⟨hi,ho,he⟩
   dsimp only at hi ho he
   simp (config:={maxSteps:=10000000}) only [Yu,↓sInt,↓sU8,↓sBool,↓sStr,↓sBs,↓sSl,↓sAgg,↓sTup,↓sCons,↓sNil,↓sNilB,↓sChk,↓sChkBind,↓sSome,↓sOwnL,↓sConsB,↓sOwnB]
   by_cases h1:i<al.length
   case neg =>
    rw [sel_neg (by simp;omega)]
    rw [Xd (by omega)] at he
    exact ⟨_,rfl,(i:Int),by rw [he];rfl⟩
   rw [sel_pos (by simp;omega)]
   by_cases h2:out.length<60
   case neg =>
    rw [sel_neg (by simp;omega)]
    rw [Kerb.goodStep_full (out:=out) (by omega)] at he
    exact ⟨_,rfl,(i:Int),by rw [he]⟩
   rw [sel_pos (by simp;omega)]
   obtain ⟨c,hc⟩:∃ c,al.getD i Wx=c:=⟨_,rfl⟩
   have hgi:(al.map Yj).getD i Vh=c.av:=by rw [Uv (d:=Wx) h1,hc]
   have hki:(decide ((0:Int)≤(i:Int))&&decide ((i:Int)<(al.length:Int))&&true)=true:=by simp;omega
   rw [Kerb.drop_row (d:=Wx) h1,hc,List.foldl_cons] at he
   refine loop_ex (fun k:Nat=>[Yk 5 (al.map Yj),Wm (out.map Yj),Zz Zu (i:Int),Zw (!(out.take k).any (Xv c.service c.kvno)),Zz Zu (k:Int)]) (fun k=>k≤out.length) (fun k=>out.length-k)
    (fun r=>r=(Vm 2,[Yk 5 (al.map Yj),Wm (out.map Yj),Zz Zu (i:Int),Zw (!out.any (Xv c.service c.kvno)),Zz Zu (out.length:Int)])) 0 (Ug _) rfl ?_ ?_
   ·intro k hk
    simp (config:={maxSteps:=10000000}) only [Yu,↓sInt,↓sU8,↓sBool,↓sStr,↓sBs,↓sSl,↓sAgg,↓sTup,↓sCons,↓sNil,↓sNilB,↓sChk,↓sChkBind,↓sSome,↓sOwnL,↓sConsB,↓sOwnB]
    by_cases h3:k<out.length
    case neg =>
     rw [sel_neg (by simp;omega)]
     have:k=out.length:=by omega
     subst this
     rw [List.take_length]
     exact ⟨_,rfl,rfl⟩
    rw [sel_pos (by simp;omega)]
    obtain ⟨d,hd⟩:∃ d,out.getD k Wx=d:=⟨_,rfl⟩
    have hgk:(out.map Yj).getD k Vh=d.av:=by rw [Uv (d:=Wx) h3,hd]
    have hkk:(decide ((0:Int)≤(k:Int))&&decide ((k:Int)<(out.length:Int))&&true)=true:=by simp;omega
    have hbk:(Nat.blt k out.length&&true)=true:=by simp [Nat.blt_eq];omega
    have htk:(out.take (k+1)).any (Xv c.service c.kvno)=((out.take k).any (Xv c.service c.kvno)||Xv c.service c.kvno d):=by
     rw [Kerb.take_row (d:=Wx) h3,hd,List.any_append];simp
    rw [wrap_i64 (by omega) (by omega)]
    cases h4:(out.take k).any (Xv c.service c.kvno)
    ·rw [h4,Bool.false_or] at htk
     simp (config:={maxSteps:=10000000}) only [Bool.not_false,↓sTrue,hkk,hki,hbk,hgk,hgi,Yn,Yj,↓sInt,↓sU8,↓sBool,↓sStr,↓sBs,↓sSl,↓sAgg,↓sTup,↓sCons,↓sNil,↓sNilB,↓sChk,↓sChkBind,↓sSome,↓sOwnL,↓sConsB,↓sOwnB]
     have he0:Xv c.service c.kvno d=((d.service.name==c.service.name&&(d.service.inst==c.service.inst&&d.service.realm==c.service.realm))&&d.kvno==c.kvno):=rfl
     cases h5:(d.service.name==c.service.name&&(d.service.inst==c.service.inst&&d.service.realm==c.service.realm))
     ·rw [h5,Bool.false_and] at he0
      exact ⟨_,rfl,k+1,by dsimp only;rw [htk,he0];(try rfl),by omega,by dsimp only;omega⟩
     ·rw [h5,Bool.true_and] at he0
      exact ⟨_,rfl,k+1,by dsimp only;rw [htk,he0];(try rfl),by omega,by dsimp only;omega⟩
    ·rw [h4,Bool.true_or] at htk
     exact ⟨_,rfl,k+1,by dsimp only;rw [htk];rfl,by omega,by dsimp only;omega⟩
   ·rintro _ rfl
    simp (config:={maxSteps:=10000000}) only [Yu,↓A0,A0]
    rw [sel_pos (Wn _),wrap_i64 (by omega) (by omega)]
    have hst:Uw out c=if out.any (Xv c.service c.kvno)=true then out else out++[c]:=by
     unfold Uw
     by_cases q:out.any (Xv c.service c.kvno)=true
     ·rw [if_pos (.inr q),if_pos q]
     ·rw [if_neg (by rintro (h | h);omega;exact q h),if_neg q]
    cases h6:out.any (Xv c.service c.kvno)
    ·rw [h6,if_neg (by simp)] at hst
     rw [hst] at he
     simp (config:={maxSteps:=10000000}) only [Bool.not_false,↓sTrue,hki,hgi,Yn,Yj,List.length_cons,List.length_nil,↓sInt,↓sU8,↓sBool,↓sStr,↓sBs,↓sSl,↓sAgg,↓sTup,↓sCons,↓sNil,↓sNilB,↓sChk,↓sChkBind,↓sSome,↓sOwnL,↓sConsB,↓sOwnB]
     rw [chk_of (r64 (by omega))]
     refine ⟨_,rfl,(i+1,out++[c]),?_,⟨by dsimp only;omega,by dsimp only;simp;omega,he⟩,by dsimp only;omega⟩
     dsimp only
     rw [List.map_append]
     rfl
    ·rw [h6,if_pos rfl] at hst
     rw [hst] at he
     exact ⟨_,rfl,(i+1,out),rfl,⟨by dsimp only;omega,ho,he⟩,by dsimp only;omega⟩
  ·rintro _ ⟨p,rfl⟩
   simp only [↓A0,A0]
   rw [sel_pos (Wn _)]
 ·cases h
theorem w34:Walked Tryz.prog G 34 5 sp34:=by
 refine ⟨Tryz.f34,Tryz.func34,by decide +kernel,rfl,fun xs bl r h=> ?_⟩
 unfold sp34 at h
 split at h
 ·rename_i x y z kls n skw
  obtain ⟨hpre,h2⟩:=chk_inv h;cases h2
  refine Eq.trans (b:=(let t0:AV:=Wj [Zv [],Zv [],Zv [],Yk 5 [],Zz .i64 0,Zz .i64 0,Yk 5 [],Zz .i64 0];Zx (chk (l63 x&&l63 y&&l63 z) (some (Zw (Zn (Zm x y z)),[]))) (kL fun b=>sel (!b) (some (Yy [t0,Zz .i64 103],[])) (Zx (chk (Up kls Qv&&decide (Zy kls≤1000000)) (some (Zz .i64 (Wp (Wu Ud kls)),[]))) (kI .i64 fun n_1=>sel (!n_1==0) (some (Yy [t0,Zz .i64 n_1],[])) (sel (!Kerb.Dec.err (Xw n)==0) (some (Yy [t0,Zz .i64 (Kerb.Dec.err (Xw n))],[])) (sel (decide (skw<0)) (some (Yy [t0,Zz .i64 104],[])) (sel (decide (skw>4294967295)) (some (Yy [t0,Zz .i64 104],[])) (chk (room (Zy kls) (nat_lit 64)) (some (Yy [Wj [Zv x,Zv y,Zv z,Yk 5 kls,Zz .i64 (Kerb.RCache.size (Uf (Xw n))),Zz .i64 (Kerb.RCache.floor (Uf (Xw n))),Yk 5 (Wu Xg (Kerb.RCache.marks (Uf (Xw n)))),Zz .i64 skw],Zz .i64 0],[]))))))))):Option (AV×Blocks))) (by kernel_rfl) ?_
  delta kL kI
  try dsimp only [cStr,cBs,cBool,cU8,cInt,cSl,l63]
  simp only [Yz,decide_eq_true_eq] at hpre
  obtain ⟨⟨⟨⟨l1,l2⟩,l3⟩,ka⟩,kl⟩:=hpre
  obtain ⟨ks,rfl,hks⟩:=Uy ka
  have hkT:=Vd hks
  simp only [Yu] at kl
  simp only [Xb,Yu,hkT,kl,l1,l2,l3,decide_true,Yf,↓A0,A0]
  unfold Kerb.newServer
  cases g1:Zn ⟨x,y,z⟩
  ·rfl
  rw [Yp,sel_false,if_neg (by simp)]
  by_cases g2:Wp ks=0
  case neg=>rw [sel_pos (by simpa using g2),if_pos g2];rfl
  rw [sel_neg (by simpa using g2),if_neg (by simpa using g2)]
  by_cases g3:(Xw n).err=0
  case neg=>rw [sel_pos (by simpa using g3),if_pos g3];rfl
  rw [sel_neg (by simpa using g3),if_neg (by simpa using g3)]
  by_cases g4:skw<0
  ·rw [sel_pos (by simpa using g4),if_pos (by simp [Zd];omega)];rfl
  rw [sel_neg (by simpa using g4)]
  by_cases g5:skw>4294967295
  ·rw [sel_pos (by simpa using g5),if_pos (by simp [Zd];omega)];rfl
  rw [sel_neg (by simpa using g5),if_neg (by simp [Zd];omega),chk_of (by simp [Go.Abs.room];omega)]
 ·cases h
theorem w35:Walked Tryz.prog G 35 5 sp35:=by
 refine ⟨Tryz.f35,Tryz.func35,by decide +kernel,rfl,fun xs bl r h=> ?_⟩
 unfold sp35 at h
 split at h
 ·rename_i m1 m2 m3 kls sz fl mls sk
  obtain ⟨hpre,h2⟩:=chk_inv h;cases h2
  refine Eq.trans (b:=(Zx (chk (decide (Zy m1≤9223372036854775807)&&decide (Zy m2≤9223372036854775807)&&decide (Zy m3≤9223372036854775807)) (some (Zw (Zn (Zm m1 m2 m3)),[]))) fun (r:AV×Blocks)=>onNilB (Zh r) (Xk (Yv r) fun b=>sel (!b) (some (Zz .i64 103,[])) (Zx (chk (Up kls Qv&&decide (Zy kls≤1000000)) (some (Zz .i64 (Wp (Wu Ud kls)),[]))) fun (r:AV×Blocks)=>onNilB (Zh r) (Wz .i64 (Yv r) fun n=>sel (n==0) (Zx (chk (Up mls Kerb.isMark&&decide (Zy mls≤1000000)) (some (Zz .i64 (Wf (Kerb.RCache.mk sz fl (Wu Kerb.toMark mls))),[]))) fun (r:AV×Blocks)=>onNilB (Zh r) (Wz .i64 (Yv r) fun n=>sel (!n==0) (some (Zz .i64 n,[])) (sel (decide (sk<0)) (some (Zz .i64 104,[])) (sel (decide (sk>4294967295)) (some (Zz .i64 104,[])) (some (Zz .i64 0,[])))))) (sel (!n==0) (some (Zz .i64 n,[])) (sel (decide (sk<0)) (some (Zz .i64 104,[])) (sel (decide (sk>4294967295)) (some (Zz .i64 104,[])) (some (Zz .i64 0,[])))))))):Option (AV×Blocks))) (by kernel_rfl) ?_
  simp only [Yz,decide_eq_true_eq] at hpre
  obtain ⟨⟨⟨⟨⟨⟨l1,l2⟩,l3⟩,ka⟩,kl⟩,ma⟩,ml⟩:=hpre
  obtain ⟨ks,rfl,hks⟩:=Uy ka
  obtain ⟨ms,rfl,hms⟩:=Kerb.marks_of ma
  have hkT:=Vd hks
  have hmT:=Kerb.marks_all hms
  simp only [Yu] at kl ml
  simp only [Xb,Vy,Yu,hkT,hmT,kl,ml,l1,l2,l3,decide_true,Yf,↓A0,A0]
  unfold Kerb.Server.err
  dsimp only
  cases g1:Zn ⟨m1,m2,m3⟩
  ·rfl
  rw [Yp,sel_false,if_neg (by simp)]
  by_cases g2:Wp ks=0
  case neg=>rw [sel_neg (by simpa using g2),sel_pos (by simpa using g2),if_pos g2]
  rw [sel_pos (by simpa using g2),if_neg (by simpa using g2)]
  by_cases g3:Wf ⟨sz,fl,ms⟩=0
  case neg=>rw [sel_pos (by simpa using g3),if_pos g3]
  rw [sel_neg (by simpa using g3),if_neg (by simpa using g3)]
  by_cases g4:sk<0
  ·rw [sel_pos (by simpa using g4),if_pos (by simp [Zd];omega)]
  rw [sel_neg (by simpa using g4)]
  by_cases g5:sk>4294967295
  ·rw [sel_pos (by simpa using g5),if_pos (by simp [Zd];omega)]
  rw [sel_neg (by simpa using g5),if_neg (by simp [Zd];omega)]
 ·cases h
theorem w55:Walked Tryz.prog G 55 5 sp55:=by
 refine ⟨Tryz.f55,Tryz.func55,by decide +kernel,rfl,fun xs bl r h=> ?_⟩
 unfold sp55 at h
 split at h
 ·rename_i ck tc tm li
  cases h
  refine Eq.trans (b:=(let t0:Option (AV×Blocks):=some (Yy [Zf [],Zz .i64 104],[]);let t1:Nat:=Zy ([]++Yw 0 1 false++Yw ck 4 li);let t2:Nat:=Zy ([]++Yw 1 1 false++Yw ck 4 li);sel (!Zd ck 4294967295) t0 (sel (!Zd tc 199) t0 (sel (!Zd tm 4294967295) t0 (sel li (Zx (chk (decide (t2≤70368744177664)) (some (Yb ([]++Yw 1 1 false++Yw ck 4 li++Yw tc 1 false),[]))) (kO fun l=>Zx (chk (decide (Zy l≤70368744177664)) (some (Yb (l++Yw tm 4 li),[]))) (kO fun l=>Zx (chk (decide (Zy l≤70368744177664)) (some (Zf (Kerb.pad l),[]))) (kB fun b=>some (Yy [Zf b,Zz .i64 0],[]))))) (Zx (chk (decide (t1≤70368744177664)) (some (Yb ([]++Yw 0 1 false++Yw ck 4 li++Yw tc 1 false),[]))) (kO fun l=>Zx (chk (decide (Zy l≤70368744177664)) (some (Yb (l++Yw tm 4 li),[]))) (kO fun l=>Zx (chk (decide (Zy l≤70368744177664)) (some (Zf (Kerb.pad l),[]))) (kB fun b=>some (Yy [Zf b,Zz .i64 0],[])))))))):Option (AV×Blocks))) (by kernel_rfl) ?_
  delta kB kO
  try dsimp only [cStr,cBs,cBool,cU8,cInt,cSl,l63]
  unfold Xn
  cases h1:Zd ck 4294967295
  ·rfl
  cases h2:Zd tc 199
  ·rfl
  cases h3:Zd tm 4294967295
  ·rfl
  rw [if_neg (by simp)]
  simp only [↓A0,Yp]
  cases li
  ·simp only [↓A0]
   rw [chk_of (by simp [Zk]),chk_of (by simp [Zk]),chk_of (by simp [Zk])]
   rfl
  ·simp only [↓A0]
   rw [chk_of (by simp [Zk]),chk_of (by simp [Zk]),chk_of (by simp [Zk])]
   rfl
 ·cases h
theorem w57:Walked Tryz.prog G 57 5 sp57:=by
 refine ⟨Tryz.f57,Tryz.func57,by decide +kernel,rfl,fun xs bl r h=> ?_⟩
 unfold sp57 at h
 split at h
 ·rename_i s li
  cases h
  refine Eq.trans (b:=(sel (decide ((↑(Zy s):Int)>1012)) (some (Yy [Zf [],Zz .i64 105],[])) (Zx (chk (decide (Zy (Vp 8 li)≤70368744177664)) (some (Yb (Vp 8 li++Yw (↑(Zy s):Int) 2 li),[]))) fun (r:AV×Blocks)=>onNilB (Zh r) (AV.onOwnB (Yv r) fun l=>Zx (chk (decide (Zy (Xx l (Xx s []))≤140737488355328)&&decide (Zy [Zf l,Zf s]≤1000)) (some (Yb (Xx l (Xx s [])),[]))) fun (r:AV×Blocks)=>onNilB (Zh r) (AV.onOwnB (Yv r) fun l=>some (Yy [Zf l,Zz .i64 0],[])))):Option (AV×Blocks))) (by kernel_rfl) ?_
  unfold Kerb.encodeAns
  by_cases h:1012<s.length
  ·rw [sel_pos (by simp;omega),if_pos h]
  rw [sel_neg (by simp;omega),if_neg h]
  have hl:(Vp 8 li).length=2:=by cases li<;>rfl
  simp only [↓A0]
  rw [chk_of (by simp [hl]),chk_of (by simp [Zk,hl];omega)]
  show some (Yy [Zf ((Vp 8 li++Yw (↑s.length:Int) 2 li)++(s++[])),Zz Zu 0],([]:Blocks))=_
  rw [List.append_nil]
 ·cases h
theorem w94:Walked Tryz.prog G 94 5 sp94:=by
 refine ⟨Tryz.f94,Tryz.func94,by decide +kernel,rfl,fun xs bl r h=> ?_⟩
 unfold sp94 at h
 split at h
 ·rename_i li x y z ad k lf iss sv ins
  obtain ⟨hpre,h2⟩:=chk_inv h;cases h2
  refine Eq.trans (b:=(let t0:Nat:=Zy ([]++Yw 0 1 false)+Zy x+Zy y+Zy z;let t1:Nat:=Zy ([]++Yw 1 1 false)+Zy x+Zy y+Zy z;let t2:Option (AV×Blocks):=chk (decide (0≤k)&&decide (k<18446744073709551616)) (some (Zf (Kerb.keyBytes k),[]));Zx (chk (l63 x&&l63 y&&l63 z&&l63 sv&&l63 ins&&decide (0≤k)&&decide (k<18446744073709551616)) (some (Zz .i64 (Qw (Uq li (Zm x y z) ad k lf iss sv ins)),[]))) (kI .i64 fun n=>sel (!n==0) (some (Yy [Zf [],Zz .i64 n],[])) (sel li (Zx (chk (decide (t1≤70368744170000)) (some (Zf (Kerb.putPrin ([]++Yw 1 1 false) (Zm x y z)),[]))) (kB fun b=>Zx (chk (decide (Zy b≤70368744177664)) (some (Yb (b++Yw ad 4 li),[]))) (kO fun l=>Zx t2 (kB fun b=>chk (room (Zy l+Zy b) 1) (Zx (chk (decide (Zy (l++b)≤70368744177664)) (some (Yb (l++b++Yw lf 1 false),[]))) (kO fun l=>Zx (chk (decide (Zy l≤70368744177664)) (some (Yb (l++Yw iss 4 li),[]))) (kO fun l=>Zx (chk (decide (Zy l+Zy sv≤70368744177664)) (some (Zf (Yd l sv),[]))) (kB fun b=>Zx (chk (decide (Zy b+Zy ins≤70368744177664)) (some (Zf (Yd b ins),[]))) (kB fun b=>Zx (chk (decide (Zy b≤70368744177664)) (some (Yb (Kerb.pad b),[]))) (kO fun l=>some (Yy [Zf l,Zz .i64 0],[]))))))))))) (Zx (chk (decide (t0≤70368744170000)) (some (Zf (Kerb.putPrin ([]++Yw 0 1 false) (Zm x y z)),[]))) (kB fun b=>Zx (chk (decide (Zy b≤70368744177664)) (some (Yb (b++Yw ad 4 li),[]))) (kO fun l=>Zx t2 (kB fun b=>chk (room (Zy l+Zy b) 1) (Zx (chk (decide (Zy (l++b)≤70368744177664)) (some (Yb (l++b++Yw lf 1 false),[]))) (kO fun l=>Zx (chk (decide (Zy l≤70368744177664)) (some (Yb (l++Yw iss 4 li),[]))) (kO fun l=>Zx (chk (decide (Zy l+Zy sv≤70368744177664)) (some (Zf (Yd l sv),[]))) (kB fun b=>Zx (chk (decide (Zy b+Zy ins≤70368744177664)) (some (Zf (Yd b ins),[]))) (kB fun b=>Zx (chk (decide (Zy b≤70368744177664)) (some (Yb (Kerb.pad b),[]))) (kO fun l=>some (Yy [Zf l,Zz .i64 0],[]))))))))))))):Option (AV×Blocks))) (by kernel_rfl) ?_
  delta kB kO kI
  try dsimp only [cStr,cBs,cBool,cU8,cInt,cSl,l63]
  simp only [Yz,decide_eq_true_eq] at hpre
  obtain ⟨⟨⟨⟨⟨⟨h1,h2⟩,h3⟩,h4⟩,h5⟩,h6⟩,h7⟩:=hpre
  simp only [h1,h2,h3,h4,h5,h6,h7,decide_true,Yf,↓A0,A0]
  have hb := @Kerb.encTicket_inv ⟨li,⟨x,y,z⟩,ad,k,lf,iss,sv,ins⟩
  unfold Qu at hb ⊢
  dsimp only at hb ⊢
  generalize hE:Qw _=e at hb ⊢
  by_cases he:e=0
  case neg=>rw [sel_pos (by simpa using he),if_pos he]
  rw [if_neg (by simpa using he)] at hb
  obtain ⟨v1,v2,v3,_⟩:=hb rfl
  have l1:=Kerb.valid_len v1
  have l2:=(Kerb.name_ok v2).1
  have l3:=(Kerb.inst_ok v3).1
  dsimp only at l1
  rw [sel_neg (by simpa using he),if_neg (by simpa using he)]
  cases li
  ·rw [sel_false,chk_of (by first | (simp [Zp,Zk,Zg];done) | (simp [Zp,Zk,Zg];omega)),chk_of (by first | (simp [Zp,Zk,Zg];done) | (simp [Zp,Zk,Zg];omega)),chk_of (Kerb.room_ok (by first | (simp [Zp,Zk,Zg];done) | (simp [Zp,Zk,Zg];omega))),chk_of (by first | (simp [Zp,Zk,Zg];done) | (simp [Zp,Zk,Zg];omega)),chk_of (by first | (simp [Zp,Zk,Zg];done) | (simp [Zp,Zk,Zg];omega)),chk_of (by first | (simp [Zp,Zk,Zg];done) | (simp [Zp,Zk,Zg];omega)),chk_of (by first | (simp [Yd,Zp,Zk,Zg];done) | (simp [Yd,Zp,Zk,Zg];omega)),chk_of (by first | (simp [Yd,Zp,Zk,Zg];done) | (simp [Yd,Zp,Zk,Zg];omega))]
   simp
  ·rw [sel_true,chk_of (by first | (simp [Zp,Zk,Zg];done) | (simp [Zp,Zk,Zg];omega)),chk_of (by first | (simp [Zp,Zk,Zg];done) | (simp [Zp,Zk,Zg];omega)),chk_of (Kerb.room_ok (by first | (simp [Zp,Zk,Zg];done) | (simp [Zp,Zk,Zg];omega))),chk_of (by first | (simp [Zp,Zk,Zg];done) | (simp [Zp,Zk,Zg];omega)),chk_of (by first | (simp [Zp,Zk,Zg];done) | (simp [Zp,Zk,Zg];omega)),chk_of (by first | (simp [Zp,Zk,Zg];done) | (simp [Zp,Zk,Zg];omega)),chk_of (by first | (simp [Yd,Zp,Zk,Zg];done) | (simp [Yd,Zp,Zk,Zg];omega)),chk_of (by first | (simp [Yd,Zp,Zk,Zg];done) | (simp [Yd,Zp,Zk,Zg];omega))]
   simp
 ·cases h
theorem w95:Walked Tryz.prog G 95 5 sp95:=by
 refine ⟨Tryz.f95,Tryz.func95,by decide +kernel,rfl,fun xs bl r h=> ?_⟩
 unfold sp95 at h
 split at h
 ·rename_i x y z ck tc tm li
  obtain ⟨hpre,h2⟩:=chk_inv h;cases h2
  refine Eq.trans (b:=(let t0:Nat:=Zy ([]++Yw (bif li then 1 else 0) 1 false)+Zy x+Zy y+Zy z;Zx (chk (l63 x&&l63 y&&l63 z) (some (Zz .i64 (Qq (Vv (Zm x y z) ck tc tm)),[]))) (kI .i64 fun n=>sel (!n==0) (some (Yy [Zf [],Zz .i64 n],[])) (Zx (chk (decide (t0≤70368744170000)) (some (Zf (Kerb.putPrin ([]++Yw (bif li then 1 else 0) 1 false) (Zm x y z)),[]))) (kB fun b=>Zx (chk (decide (Zy b≤70368744177664)) (some (Yb (b++Yw ck 4 li),[]))) (kO fun l=>Zx (chk (decide (Zy l≤70368744177664)) (some (Yb (l++Yw tc 1 false),[]))) (kO fun l=>Zx (chk (decide (Zy l≤70368744177664)) (some (Yb (l++Yw tm 4 li),[]))) (kO fun l=>Zx (chk (decide (Zy l≤70368744177664)) (some (Yb (Kerb.pad l),[]))) (kO fun l=>some (Yy [Zf l,Zz .i64 0],[])))))))):Option (AV×Blocks))) (by kernel_rfl) ?_
  delta kB kO kI
  try dsimp only [cStr,cBs,cBool,cU8,cInt,cSl,l63]
  simp only [A0,Wv,Wg,Vx,hpre]
  unfold Kerb.encodeAuth
  by_cases h:(Vv ⟨x,y,z⟩ ck tc tm).check=0
  case neg =>
   rw [sel_pos (by simpa using h),if_pos h]
  have hv:Zn ⟨x,y,z⟩=true:=by
   unfold Qq at h
   cases hv:Zn ⟨x,y,z⟩
   ·simp [hv] at h
   ·rfl
  have l1:=Kerb.valid_len hv
  simp only at l1
  rw [sel_neg (by simp [h]),if_neg (by simpa using h)]
  cases li
  ·simp only [A0,Wv,Wg,Vx,List.nil_append,cond_false,cond_true]
   rw [chk_of (by simp [Zk];omega),chk_of (by simp [Zk,Zp];omega),chk_of (by simp [Zk,Zp];omega),chk_of (by simp [Zk,Zp];omega),chk_of (by simp [Zk,Zp];omega)]
  ·simp only [A0,Wv,Wg,Vx,List.nil_append,cond_false,cond_true]
   rw [chk_of (by simp [Zk];omega),chk_of (by simp [Zk,Zp];omega),chk_of (by simp [Zk,Zp];omega),chk_of (by simp [Zk,Zp];omega),chk_of (by simp [Zk,Zp];omega)]
 ·cases h
theorem w126:Walked Tryz.prog G 126 5 sp126:=by
 refine ⟨Tryz.f126,Tryz.func126,by decide +kernel,rfl,fun xs bl r h=> ?_⟩
 unfold sp126 at h
 split at h
 ·rename_i s
  obtain ⟨hpre,h2⟩:=chk_inv h;cases h2
  refine Eq.trans (b:=(sel (!s==[]) (sel (decide ((↑(Zy s):Int)≤39)) (Zx (chk (decide (Zy s≤9223372036854775807)) (some (Zw (Xh s [(46:UInt8),(64:UInt8)]),[]))) fun (r:AV×Blocks)=>onNilB (Zh r) (Xk (Yv r) fun b=>some (Zw b,[]))) (some (Zw false,[]))) (some (Zw false,[])):Option (AV×Blocks))) (by kernel_rfl) ?_
  simp only [A0]
  rw [chk_of hpre,decide_eq_decide.2 (show ((s.length:Int)≤39)↔s.length≤39 from by omega)]
  simp only [Wk]
  cases s with
  | nil=>rfl
  | cons x r=>cases decide ((x::r).length≤39)<;>rfl
 ·cases h
theorem w127:Walked Tryz.prog G 127 5 sp127:=by
 refine ⟨Tryz.f127,Tryz.func127,by decide +kernel,rfl,fun xs bl r h=> ?_⟩
 unfold sp127 at h
 split at h
 ·rename_i s
  obtain ⟨hpre,h2⟩:=chk_inv h;cases h2
  refine Eq.trans (b:=(sel (decide ((↑(Zy s):Int)≤39)) (Zx (chk (decide (Zy s≤9223372036854775807)) (some (Zw (Xh s [(64:UInt8)]),[]))) fun (r:AV×Blocks)=>onNilB (Zh r) (Xk (Yv r) fun b=>some (Zw b,[]))) (some (Zw false,[])):Option (AV×Blocks))) (by kernel_rfl) ?_
  simp only [A0]
  rw [chk_of hpre,decide_eq_decide.2 (show ((s.length:Int)≤39)↔s.length≤39 from by omega)]
  simp only [Xm]
  cases decide (s.length≤39)<;>rfl
 ·cases h
theorem w174:Walked Tryz.prog G 174 5 sp174:=by
 refine ⟨Tryz.f174,Tryz.func174,by decide +kernel,rfl,fun xs bl r h=> ?_⟩
 unfold sp174 at h
 split at h
 ·rename_i b
  obtain ⟨hpre,h2⟩:=chk_inv h;cases h2
  refine Eq.trans (b:=(let t1:Int:=Zj .i64 (↑(BitVec.toNat (BitVec.ofInt (Ub .i64) (Zj .i64 (Zj .i64 (↑(Yq (Xj b (Zb 10) (0:UInt8))):Int)*2 ^ min (Zb 8) (Ub .i64))) ||| BitVec.ofInt (Ub .i64) (Zj .i64 (↑(Yq (Xj b (Zb 11) (0:UInt8))):Int)))):Int);let t2:Option (AV×Blocks):=some (Yy [Wj [Zz .i64 0,Zz .u64 0,Zf []],Zz .i64 0,Zz .i64 100],[]);let t3:Option (AV×Blocks):=some (Yy [Wj [Zz .i64 0,Zz .u64 0,Zf []],Zz .i64 0,Zz .i64 101],[]);let t0:Int:=Zj .i64 (12+t1);sel (decide ((↑(Zy b):Int)<12)) t3 (chk (decide (1<(↑(Zy b):Int))) (chk (decide (10≤(↑(Zy b):Int))) (Zx (chk (decide (Zy (Um (Zb 2) (Un (Zb 10) b))≤4611686018427387904)) (some (Yy [Zz .u64 (Yv (Kerb.keyRead (Um (Zb 2) (Un (Zb 10) b)))),Zw (Zh (Kerb.keyRead (Um (Zb 2) (Un (Zb 10) b))))],[]))) (kT fun vs=>cInt .u64 vs fun n r=>cBool r fun b_1 r=>onNil r (chk (decide (10<(↑(Zy b):Int))) (chk (decide (11<(↑(Zy b):Int))) (chk (decide (0<(↑(Zy b):Int))) (sel (!Xj b (Zb 0) (0:UInt8)==(66:UInt8)) t2 (sel (!Kerb.isKind (Zj .i64 (↑(Yq (Xj b (Zb 1) (0:UInt8))):Int))) t2 (sel (!b_1) t2 (sel (decide (t1>1000)) t2 (sel (decide ((↑(Zy b):Int)<t0)) t3 (chk (decide (12≤t0)&&decide (t0≤t0)&&decide (t0≤(↑(Zy b):Int))) (Zx (chk (decide (Zy (Um (Zb 12) (Un (Zb t0) b))≤140737488355328)) (some (Zf (Um (Zb 12) (Un (Zb t0) b)),[]))) (kB fun b_2=>some (Yy [Wj [Zz .i64 (Zj .i64 (↑(Yq (Xj b (Zb 1) (0:UInt8))):Int)),Zz .u64 n,Zf b_2],Zz .i64 t0,Zz .i64 0],[])))))))))))))))):Option (AV×Blocks))) (by kernel_rfl) ?_
  delta kT kB
  try dsimp only [cStr,cBs,cBool,cU8,cInt,cSl,l63]
  simp only [decide_eq_true_eq] at hpre
  unfold Vf
  by_cases h0:b.length<12
  ·rw [sel_pos (by simp;omega),if_pos h0];rfl
  rw [sel_neg (by simp;omega),if_neg h0]
  have hc:=Kerb.cut_len b 2 8
  have hs:(b.getD 10 0).toNat*256+(b.getD 11 0).toNat=Kerb.boxSize b:=rfl
  simp only [Kerb.cut_28,Kerb.size_or]
  simp only [show Zb 0=0 from rfl,show Zb 1=1 from rfl,show Zb 10=10 from rfl,show Zb 11=11 from rfl,Kerb.wrap_byte,hs]
  rw [chk_of (by simp;omega),chk_of (by simp;omega),chk_of (by simp;omega)]
  simp only [↓A0]
  rw [chk_of (by simp;omega),chk_of (by simp;omega),chk_of (by simp;omega)]
  by_cases h1:b.getD 0 0=66
  case neg=>rw [sel_pos (by simpa using h1),if_pos (.inl h1)];rfl
  rw [sel_neg (by simpa using h1)]
  cases h2:Kerb.isKind ((b.getD 1 0).toNat:Int)
  ·rw [if_pos (.inr (.inl rfl))];rfl
  rw [Yp,sel_false]
  cases h3:(Kerb.keyRead (Kerb.cut b 2 8)).2
  ·rw [if_pos (.inr (.inr (.inl rfl)))];rfl
  rw [Yp,sel_false]
  by_cases h4:1000<Kerb.boxSize b
  ·rw [sel_pos (by simp;omega),if_pos (.inr (.inr (.inr h4)))];rfl
  rw [sel_neg (by simp;omega),if_neg (by rintro (h | h | h | h)<;>first | exact h h1 | cases h | omega),wrap_i64 (by omega) (by omega)]
  by_cases h5:b.length<12+Kerb.boxSize b
  ·rw [sel_pos (by simp;omega),if_pos h5];rfl
  have hc2:=Kerb.cut_len b 12 (Kerb.boxSize b)
  rw [sel_neg (by simp;omega),if_neg h5,Kerb.cut_12,chk_of (by simp;omega)]
  simp only [↓A0]
  rw [chk_of (by simp;omega)]
  simp
 ·cases h
theorem w23:Walked Tryz.prog G 23 6 sp23:=by
 refine ⟨Tryz.f23,Tryz.func23,by decide +kernel,rfl,fun xs bl r h=> ?_⟩
 unfold sp23 at h
 split at h
 ·rename_i x y z k ad ck tm tc iss lf tk au li
  obtain ⟨hpre,h2⟩:=chk_inv h;cases h2
  refine Eq.trans (b:=(sel (!Xq (Xn (Kerb.Mutual.mk (Zj .i64 (Zj .u32 (Zj .i64 (ck+1)))) tc tm) li)==0) (some (Yy [Zf [],Zz .i64 (Xq (Xn (Kerb.Mutual.mk (Zj .i64 (Zj .u32 (Zj .i64 (ck+1)))) tc tm) li))],[])) (Zx (chk (decide (0≤k)&&decide (k<18446744073709551616)) (some (Yy [Zf (Xu (Vg 4 k (Xu (Xn (Kerb.Mutual.mk (Zj .i64 (Zj .u32 (Zj .i64 (ck+1)))) tc tm) li)))),Zz .i64 (Xq (Vg 4 k (Xu (Xn (Kerb.Mutual.mk (Zj .i64 (Zj .u32 (Zj .i64 (ck+1)))) tc tm) li))))],[]))) fun (r:AV×Blocks)=>onNilB (Zh r) (AV.onTup (Yv r) fun vs=>onCons vs fun x r=>AV.onBs x fun b=>onCons r fun x r=>Wz .i64 x fun n=>onNil r (sel (!n==0) (some (Yy [Zf [],Zz .i64 n],[])) (some (Yy [Zf (Xu (Kerb.encodeAns b li)),Zz .i64 (Xq (Kerb.encodeAns b li))],[]))))):Option (AV×Blocks))) (by kernel_rfl) ?_
  simp only [Yz,decide_eq_true_eq] at hpre
  have hs:Zj .i64 (Zj .u32 (Zj .i64 (ck+1)))=Kerb.nextSum ck:=Kerb.nextSum_in ck
  rw [hs]
  unfold Kerb.serviceAnswer
  simp only [hpre,decide_true,Yf,↓A0,A0]
  by_cases h1:(Xn ⟨Kerb.nextSum ck,tc,tm⟩ li).err=0
  case neg=>rw [sel_pos (by simpa using h1),if_pos h1]
  rw [sel_neg (by simpa using h1),if_neg (by simpa using h1)]
  by_cases h2:(Vg 4 k (Xn ⟨Kerb.nextSum ck,tc,tm⟩ li).val).err=0
  case neg=>rw [sel_pos (by simpa using h2),if_pos h2]
  rw [sel_neg (by simpa using h2),if_neg (by simpa using h2)]
 ·cases h
theorem w43:Walked Tryz.prog G 43 6 sp43:=by
 refine ⟨Tryz.f43,Tryz.func43,by decide +kernel,rfl,fun xs bl r h=> ?_⟩
 unfold sp43 at h
 split at h
 ·rename_i li x y z ad k lf iss sv ins key
  obtain ⟨hpre,h2⟩:=chk_inv h;cases h2
  refine Eq.trans (b:=(Zx (chk (decide (Zy x≤9223372036854775807)&&decide (Zy y≤9223372036854775807)&&decide (Zy z≤9223372036854775807)&&decide (Zy sv≤9223372036854775807)&&decide (Zy ins≤9223372036854775807)&&decide (0≤k)&&decide (k<18446744073709551616)) (some (Yy [Zf (Xu (Qu (Uq li (Zm x y z) ad k lf iss sv ins))),Zz .i64 (Xq (Qu (Uq li (Zm x y z) ad k lf iss sv ins)))],[]))) fun (r:AV×Blocks)=>onNilB (Zh r) (AV.onTup (Yv r) fun vs=>onCons vs fun x r=>AV.onBs x fun b=>onCons r fun x r=>Wz .i64 x fun n=>onNil r (sel (!n==0) (some (Yy [Zf [],Zz .i64 n],[])) (Zx (chk (decide (0≤key)&&decide (key<18446744073709551616)) (some (Yy [Zf (Xu (Vg 1 key b)),Zz .i64 (Xq (Vg 1 key b))],[]))) fun (r:AV×Blocks)=>onNilB (Zh r) (AV.onTup (Yv r) fun vs=>onCons vs fun x r=>AV.onBs x fun b=>onCons r fun x r=>Wz .i64 x fun n=>onNil r (some (Yy [Zf b,Zz .i64 n],[])))))):Option (AV×Blocks))) (by kernel_rfl) ?_
  simp only [Yz,decide_eq_true_eq] at hpre
  obtain ⟨⟨⟨⟨⟨⟨⟨⟨h1,h2⟩,h3⟩,h4⟩,h5⟩,h6⟩,h7⟩,h8⟩,h9⟩:=hpre
  simp only [h1,h2,h3,h4,h5,h6,h7,h8,h9,decide_true,Yf,↓A0,A0]
  unfold Kerb.sealTicket
  generalize Qu _=E
  by_cases he:E.err=0
  ·rw [sel_neg (by simpa using he),if_neg (by simpa using he)]
  ·rw [sel_pos (by simpa using he),if_pos he]
 ·cases h
theorem w44:Walked Tryz.prog G 44 6 sp44:=by
 refine ⟨Tryz.f44,Tryz.func44,by decide +kernel,rfl,fun xs bl r h=> ?_⟩
 unfold sp44 at h
 split at h
 ·rename_i x y z ck tc tm li k
  obtain ⟨hpre,h2⟩:=chk_inv h;cases h2
  refine Eq.trans (b:=(Zx (chk (decide (Zy x≤9223372036854775807)&&decide (Zy y≤9223372036854775807)&&decide (Zy z≤9223372036854775807)) (some (Yy [Zf (Xu (Kerb.encodeAuth (Vv (Zm x y z) ck tc tm) li)),Zz .i64 (Xq (Kerb.encodeAuth (Vv (Zm x y z) ck tc tm) li))],[]))) fun (r:AV×Blocks)=>onNilB (Zh r) (AV.onTup (Yv r) fun vs=>onCons vs fun x r=>AV.onBs x fun b=>onCons r fun x r=>Wz .i64 x fun n=>onNil r (sel (!n==0) (some (Yy [Zf [],Zz .i64 n],[])) (Zx (chk (decide (0≤k)&&decide (k<18446744073709551616)) (some (Yy [Zf (Xu (Vg 2 k b)),Zz .i64 (Xq (Vg 2 k b))],[]))) fun (r:AV×Blocks)=>onNilB (Zh r) (AV.onTup (Yv r) fun vs=>onCons vs fun x r=>AV.onBs x fun b=>onCons r fun x r=>Wz .i64 x fun n=>onNil r (some (Yy [Zf b,Zz .i64 n],[])))))):Option (AV×Blocks))) (by kernel_rfl) ?_
  have hpre':=hpre
  simp only [Yz,decide_eq_true_eq] at hpre
  have c1:(decide (x.length≤9223372036854775807)&&decide (y.length≤9223372036854775807)&&decide (z.length≤9223372036854775807))=true:=by simp;omega
  have c2:(decide (0≤k)&&decide (k<18446744073709551616))=true:=by simp;omega
  simp only [A0,Wv,Wg,Vx,c1,c2]
  unfold Kerb.sealAuth
  by_cases h:(Kerb.encodeAuth (Vv ⟨x,y,z⟩ ck tc tm) li).err=0
  ·rw [sel_neg (by simp [h]),if_neg (by simpa using h)]
  ·rw [sel_pos (by simpa using h),if_pos h]
 ·cases h
theorem w128:Walked Tryz.prog G 128 6 sp128:=by
 refine ⟨Tryz.f128,Tryz.func128,by decide +kernel,rfl,fun xs bl r h=> ?_⟩
 unfold sp128 at h
 split at h
 ·rename_i s
  obtain ⟨hpre,h2⟩:=chk_inv h;cases h2
  refine Eq.trans (b:=(sel (!s==[]) (Zx (chk (decide (Zy s≤9223372036854775807)) (some (Zw (Xm s),[]))) fun (r:AV×Blocks)=>onNilB (Zh r) (Xk (Yv r) fun b=>some (Zw b,[]))) (some (Zw false,[])):Option (AV×Blocks))) (by kernel_rfl) ?_
  simp only [A0]
  rw [chk_of hpre]
  simp only [Kerb.validRealm]
  cases s<;>rfl
 ·cases h
theorem w153:Walked Tryz.prog G 153 6 sp153:=by
 refine ⟨Tryz.f153,Tryz.func153,by decide +kernel,rfl,fun xs bl r h=> ?_⟩
 unfold sp153 at h
 split at h
 ·rename_i b kd k
  obtain ⟨hpre,h2⟩:=chk_inv h;cases h2
  refine Eq.trans (b:=(Zx (chk (decide (Zy b≤140737488355328)) (some (Yy [Wj [Zz .i64 (Kerb.Box.kind (Kerb.GotBox.box (Vf b))),Zz .u64 (Kerb.Box.key (Kerb.GotBox.box (Vf b))),Zf (Kerb.Box.body (Kerb.GotBox.box (Vf b)))],Zz .i64 (Kerb.GotBox.n (Vf b)),Zz .i64 (Kerb.GotBox.err (Vf b))],[]))) fun (r:AV×Blocks)=>onNilB (Zh r) (AV.onTup (Yv r) fun vs=>onCons vs fun x r=>Uz x fun cs=>onCons cs fun x r_1=>Wz .i64 x fun n=>onCons r_1 fun x r_2=>Wz .u64 x fun n_1=>onCons r_2 fun x r_3=>AV.onBs x fun b_1=>onNil r_3 (onCons r fun x r=>Wz .i64 x fun n_2=>onCons r fun x r=>Wz .i64 x fun n_3=>onNil r (sel (!n_3==0) (some (Yy [Zf [],Zw false],[])) (sel (!n_2==(↑(Zy b):Int)) (some (Yy [Zf [],Zw false],[])) (sel (!n==kd) (some (Yy [Zf [],Zw false],[])) (sel (!n_1==k) (some (Yy [Zf [],Zw false],[])) (some (Yy [Zf b_1,Zw true],[])))))))):Option (AV×Blocks))) (by kernel_rfl) ?_
  simp only [↓A0,hpre]
  unfold Kerb.openBox
  generalize Vf b=r
  by_cases h1:r.err=0
  case neg=>rw [sel_pos (by simpa using h1),if_pos (.inl h1)]
  rw [sel_neg (by simpa using h1)]
  by_cases h2:r.n=b.length
  case neg=>rw [sel_pos (by simpa using h2),if_pos (.inr (.inl h2))]
  rw [sel_neg (by simpa using h2)]
  by_cases h3:r.box.kind=kd
  case neg=>rw [sel_pos (by simpa using h3),if_pos (.inr (.inr (.inl h3)))]
  rw [sel_neg (by simpa using h3)]
  by_cases h4:r.box.key=k
  case neg=>rw [sel_pos (by simpa using h4),if_pos (.inr (.inr (.inr h4)))]
  rw [sel_neg (by simpa using h4),if_neg (by simp [h1,h2,h3,h4])]
 ·cases h
set_option maxHeartbeats 4000000 in
theorem w19:Walked Tryz.prog G 19 7 sp19:=by
 refine ⟨Tryz.f19,Tryz.func19,by decide +kernel,rfl,fun xs bl r h=> ?_⟩
 unfold sp19 at h
 split at h
 ·rename_i cu co cv cr lt tn mt cad cfr cis ctm ctk clf ccs cky ckv css ctt cau x y z k v
  obtain ⟨hpre,h2⟩:=chk_inv h;cases h2
  refine Eq.trans (b:=(let t0:Int:=Yg (Zj .i64 (↑(Yq cu):Int)) 6;let t1:Int:=Yg (Zj .i64 (↑(Yq css):Int)) 4;let t2:AV:=Zz .i64 (Zj .i64 (1000+Zj .i64 (Zj .i64 (↑(Yq cis):Int)*8)));Zx (chk (decide (0≤t0)&&decide (t0≤4611686018427387904)) (some (Wj [Zv (Kerb.Prin.name (Uh t0)),Zv (Kerb.Prin.inst (Uh t0)),Zv (Kerb.Prin.realm (Uh t0))],[]))) (kA fun cs=>onCons cs fun x_1 r=>AV.onStr x_1 fun b=>onCons r fun x_2 r=>AV.onStr x_2 fun b_1=>onCons r fun x_3 r=>AV.onStr x_3 fun b_2=>onNil r (Zx (chk (decide (0≤t1)&&decide (t1≤1000)) (some (Zz .u64 (Kerb.session t1),[]))) (kI .u64 fun n=>Zx (sel (Vu (Zb (Yg (↑(Yq cv):Int) (↑(Yq (7:UInt8)):Int)))==(6:UInt8)) (some [Zz .u64 k,Zz .i64 v,Zq cu,Zq co,Zq cv,Zq cr,Zw lt,Zw tn,Zw mt,Zq cad,Zq cfr,Zq cis,Zq ctm,Zq ctk,Zq clf,Zz .u32 ccs,Zq cky,Zq ckv,Zq css,Zz .u16 ctt,Zz .u16 cau,Zv x,Zv y,Zv z,Zw false,Zw false,Zz .i64 0,Zv [],Zf [],Zf [],Zw tn,Zv b,Zv b_1,Zv b_2,Zz .i64 (Yg (Zj .i64 (↑(Yq cad):Int)) 3),Zz .u64 n,Zz .i64 (Zj .i64 (Vn (Zj .i64 (↑(Yq clf):Int)) 4)),t2,Zv x,Zv [(111:UInt8),(116:UInt8),(104:UInt8),(101:UInt8),(114:UInt8)]]) (some [Zz .u64 k,Zz .i64 v,Zq cu,Zq co,Zq cv,Zq cr,Zw lt,Zw tn,Zw mt,Zq cad,Zq cfr,Zq cis,Zq ctm,Zq ctk,Zq clf,Zz .u32 ccs,Zq cky,Zq ckv,Zq css,Zz .u16 ctt,Zz .u16 cau,Zv x,Zv y,Zv z,Zw false,Zw false,Zz .i64 0,Zv [],Zf [],Zf [],Zw tn,Zv b,Zv b_1,Zv b_2,Zz .i64 (Yg (Zj .i64 (↑(Yq cad):Int)) 3),Zz .u64 n,Zz .i64 (Zj .i64 (Vn (Zj .i64 (↑(Yq clf):Int)) 4)),t2,Zv x,Zv y])) fun l=>cInt .u64 l fun n r=>cInt .i64 r fun n_1 r=>cU8 r fun b r=>cU8 r fun b_3 r=>let t3:Int:=Yg (Zj .i64 (↑(Yq b_3):Int)) 6;cU8 r fun b_4 r=>cU8 r fun b_5 r=>cBool r fun b_6 r=>cBool r fun b_7 r=>cBool r fun b_8 r=>cU8 r fun b_9 r=>cU8 r fun b_10 r=>cU8 r fun b_11 r=>cU8 r fun b_12 r=>let t4:List AV:=[Zz .i64 (Zj .i64 (1000+Zj .i64 (Zj .i64 (↑(Yq b_12):Int)*8)))];cU8 r fun b_13 r=>cU8 r fun b_14 r=>cInt .u32 r fun n_2 r=>let t5:List AV:=Zz .i64 (Zj .i64 n_2)::Zz .i64 (Yg (Zj .i64 (↑(Yq b_13):Int)) 3)::t4;cU8 r fun b_15 r=>cU8 r fun b_16 r=>cU8 r fun b_17 r=>cInt .u16 r fun n_3 r=>cInt .u16 r fun n_4 r=>cStr r fun b_18 r=>cStr r fun b_19 r=>cStr r fun b_20 r=>cBool r fun b_21 r=>cBool r fun b_22 r=>cInt .i64 r fun n_5 r=>cStr r fun b_23 r=>cBs r fun b_24 r=>cBs r fun b_25 r=>cBool r fun b_26 r=>cStr r fun b_27 r=>cStr r fun b_28 r=>cStr r fun b_29 r=>cInt .i64 r fun n_6 r=>cInt .u64 r fun n_7 r=>cInt .i64 r fun n_8 r=>cInt .i64 r fun n_9 r=>cStr r fun b_30 r=>cStr r fun b_31 r=>onNil r (Zx (sel (Vu (Zb (Yg (↑(Yq b_3):Int) (↑(Yq (8:UInt8)):Int)))==(7:UInt8)) (Zx (chk (decide (0≤t3)&&decide (t3≤4611686018427387904)) (some (Wj [Zv (Kerb.Prin.name (Uh t3)),Zv (Kerb.Prin.inst (Uh t3)),Zv (Kerb.Prin.realm (Uh t3))],[]))) (kA fun cs=>cStr cs fun b_32 r=>cStr r fun b_33 r=>cStr r fun b_34 r=>onNil r (some (Zz .u64 n::Zz .i64 n_1::Zq b::Zq b_3::Zq b_4::Zq b_5::Zw b_6::Zw b_7::Zw b_8::Zq b_9::Zq b_10::Zq b_11::Zq b_12::Zq b_13::Zq b_14::Zz .u32 n_2::Zq b_15::Zq b_16::Zq b_17::Zz .u16 n_3::Zz .u16 n_4::Zv b_18::Zv b_19::Zv b_20::Zw b_21::Zw b_22::Zz .i64 n_5::Zv b_23::Zf b_24::Zf b_25::Zw b_26::Zv b_27::Zv b_28::Zv b_29::Zz .i64 n_6::Zz .u64 n_7::Zz .i64 n_8::Zz .i64 n_9::Zv b_30::Zv b_31::Zv b_32::Zv b_33::Zv b_34::t5)))) (some (Zz .u64 n::Zz .i64 n_1::Zq b::Zq b_3::Zq b_4::Zq b_5::Zw b_6::Zw b_7::Zw b_8::Zq b_9::Zq b_10::Zq b_11::Zq b_12::Zq b_13::Zq b_14::Zz .u32 n_2::Zq b_15::Zq b_16::Zq b_17::Zz .u16 n_3::Zz .u16 n_4::Zv b_18::Zv b_19::Zv b_20::Zw b_21::Zw b_22::Zz .i64 n_5::Zv b_23::Zf b_24::Zf b_25::Zw b_26::Zv b_27::Zv b_28::Zv b_29::Zz .i64 n_6::Zz .u64 n_7::Zz .i64 n_8::Zz .i64 n_9::Zv b_30::Zv b_31::Zv b_27::Zv b_28::Zv b_29::t5))) fun l=>cInt .u64 l fun n r=>cInt .i64 r fun n_10 r=>cU8 r fun b r=>cU8 r fun b_32 r=>cU8 r fun b_33 r=>cU8 r fun b_34 r=>cBool r fun b_35 r=>cBool r fun b_36 r=>cBool r fun b_37 r=>cU8 r fun b_38 r=>cU8 r fun b_39 r=>cU8 r fun b_40 r=>cU8 r fun b_41 r=>cU8 r fun b_42 r=>cU8 r fun b_43 r=>cInt .u32 r fun n_11 r=>cU8 r fun b_44 r=>cU8 r fun b_45 r=>cU8 r fun b_46 r=>cInt .u16 r fun n_12 r=>cInt .u16 r fun n_13 r=>cStr r fun b_47 r=>cStr r fun b_48 r=>cStr r fun b_49 r=>cBool r fun b_50 r=>cBool r fun b_51 r=>cInt .i64 r fun n_14 r=>cStr r fun b_52 r=>cBs r fun b_53 r=>cBs r fun b_54 r=>cBool r fun b_55 r=>cStr r fun b_56 r=>cStr r fun b_57 r=>cStr r fun b_58 r=>cInt .i64 r fun n_15 r=>cInt .u64 r fun n_16 r=>cInt .i64 r fun n_17 r=>cInt .i64 r fun n_18 r=>cStr r fun b_59 r=>cStr r fun b_60 r=>cStr r fun b_61 r=>cStr r fun b_62 r=>cStr r fun b_63 r=>cInt .i64 r fun n_19 r=>cInt .i64 r fun n_20 r=>cInt .i64 r fun n_21 r=>onNil r (Zx (chk (l63 b_56&&l63 b_57&&l63 b_58&&l63 b_59&&l63 b_60&&decide (0≤n_16)&&decide (n_16<18446744073709551616)&&decide (0≤n)&&decide (n<18446744073709551616)) (some (Yy [Zf (Xu (Kerb.sealTicket (Uq b_55 (Zm b_56 b_57 b_58) n_15 n_16 n_17 n_18 b_59 b_60) n)),Zz .i64 (Xq (Kerb.sealTicket (Uq b_55 (Zm b_56 b_57 b_58) n_15 n_16 n_17 n_18 b_59 b_60) n))],[]))) (kT fun vs=>cBs vs fun b_64 r=>cInt .i64 r fun n r=>onNil r (Zx (chk (l63 b_61&&l63 b_62&&l63 b_63&&decide (0≤n_16)&&decide (n_16<18446744073709551616)) (some (Yy [Zf (Xu (Kerb.sealAuth (Vv (Zm b_61 b_62 b_63) n_19 n_20 n_21) b_35 n_16)),Zz .i64 (Xq (Kerb.sealAuth (Vv (Zm b_61 b_62 b_63) n_19 n_20 n_21) b_35 n_16))],[]))) (kT fun vs=>cBs vs fun b_65 r=>cInt .i64 r fun n r=>onNil r (Zx (sel (Yg n_12 16==15) (Zx (chk (decide (Zy b_64≤1000000)&&decide (0≤Zj .u16 (Vn n_12 16))&&decide (Zj .u16 (Vn n_12 16)≤65535)) (some (Zf (Ww b_64 (Zj .u16 (Vn n_12 16))),[]))) (kB fun b_66=>some [Zq b,Zq b_32,Zq b_33,Zq b_34,Zw b_35,Zw b_36,Zw b_37,Zq b_38,Zq b_39,Zq b_40,Zq b_41,Zq b_42,Zq b_43,Zz .u32 n_11,Zq b_44,Zq b_45,Zq b_46,Zz .u16 n_12,Zz .u16 n_13,Zw b_50,Zw b_51,Zz .i64 n_14,Zv b_52,Zf b_53,Zf b_54,Zf b_65,Zw b_35,Zw b_37,Zz .i64 n_10,Zv b_49,Zf b_66,Zf b_65])) (some [Zq b,Zq b_32,Zq b_33,Zq b_34,Zw b_35,Zw b_36,Zw b_37,Zq b_38,Zq b_39,Zq b_40,Zq b_41,Zq b_42,Zq b_43,Zz .u32 n_11,Zq b_44,Zq b_45,Zq b_46,Zz .u16 n_12,Zz .u16 n_13,Zw b_50,Zw b_51,Zz .i64 n_14,Zv b_52,Zf b_53,Zf b_54,Zf b_65,Zw b_35,Zw b_37,Zz .i64 n_10,Zv b_49,Zf b_64,Zf b_65])) fun l=>cU8 l fun b r=>cU8 r fun b_66 r=>cU8 r fun b_67 r=>cU8 r fun b_68 r=>cBool r fun b_69 r=>cBool r fun b_70 r=>cBool r fun b_71 r=>cU8 r fun b_72 r=>cU8 r fun b_73 r=>cU8 r fun b_74 r=>cU8 r fun b_75 r=>cU8 r fun b_76 r=>cU8 r fun b_77 r=>cInt .u32 r fun n r=>cU8 r fun b_78 r=>cU8 r fun b_79 r=>cU8 r fun b_80 r=>cInt .u16 r fun n_22 r=>cInt .u16 r fun n_23 r=>cBool r fun b_81 r=>cBool r fun b_82 r=>cInt .i64 r fun n_24 r=>cStr r fun b_83 r=>cBs r fun b_84 r=>cBs r fun b_85 r=>cBs r fun b_86 r=>cBool r fun b_87 r=>cBool r fun b_88 r=>cInt .i64 r fun n_25 r=>cStr r fun b_89 r=>cBs r fun b_90 r=>cBs r fun b_91 r=>onNil r (Zx (sel (Yg n_23 16==15) (Zx (chk (decide (Zy b_86≤1000000)&&decide (0≤Zj .u16 (Vn n_23 16))&&decide (Zj .u16 (Vn n_23 16)≤65535)) (some (Zf (Ww b_86 (Zj .u16 (Vn n_23 16))),[]))) (kB fun b_92=>some [Zq b,Zq b_66,Zq b_67,Zq b_68,Zw b_69,Zw b_70,Zw b_71,Zq b_72,Zq b_73,Zq b_74,Zq b_75,Zq b_76,Zq b_77,Zz .u32 n,Zq b_78,Zq b_79,Zq b_80,Zz .u16 n_22,Zz .u16 n_23,Zw b_81,Zw b_82,Zz .i64 n_24,Zv b_83,Zf b_84,Zf b_85,Zw b_87,Zw b_88,Zz .i64 n_25,Zv b_89,Zf b_90,Zf b_92])) (some [Zq b,Zq b_66,Zq b_67,Zq b_68,Zw b_69,Zw b_70,Zw b_71,Zq b_72,Zq b_73,Zq b_74,Zq b_75,Zq b_76,Zq b_77,Zz .u32 n,Zq b_78,Zq b_79,Zq b_80,Zz .u16 n_22,Zz .u16 n_23,Zw b_81,Zw b_82,Zz .i64 n_24,Zv b_83,Zf b_84,Zf b_85,Zw b_87,Zw b_88,Zz .i64 n_25,Zv b_89,Zf b_90,Zf b_91])) fun l=>cU8 l fun b r=>cU8 r fun b_92 r=>cU8 r fun b_93 r=>cU8 r fun b_94 r=>cBool r fun b_95 r=>cBool r fun b_96 r=>cBool r fun b_97 r=>cU8 r fun b_98 r=>cU8 r fun b_99 r=>cU8 r fun b_100 r=>cU8 r fun b_101 r=>cU8 r fun b_102 r=>cU8 r fun b_103 r=>cInt .u32 r fun n r=>cU8 r fun b_104 r=>cU8 r fun b_105 r=>cU8 r fun b_106 r=>cInt .u16 r fun n_26 r=>cInt .u16 r fun n_27 r=>cBool r fun b_107 r=>cBool r fun b_108 r=>cInt .i64 r fun n_28 r=>cStr r fun b_109 r=>cBs r fun b_110 r=>cBs r fun b_111 r=>cBool r fun b_112 r=>cBool r fun b_113 r=>cInt .i64 r fun n_29 r=>cStr r fun b_114 r=>cBs r fun b_115 r=>cBs r fun b_116 r=>let t6:List AV:=[Zw b_113,Zz .i64 n_29,Zv b_114,Zf b_115,Zf b_116];onNil r (Zx (sel (Yg n_27 16==14) (some (Zq b::Zq b_92::Zq b_93::Zq b_94::Zw b_95::Zw b_96::Zw b_97::Zq b_98::Zq b_99::Zq b_100::Zq b_101::Zq b_102::Zq b_103::Zz .u32 n::Zq b_104::Zq b_105::Zq b_106::Zz .u16 n_26::Zz .u16 n_27::Zw b_107::Zw b_108::Zz .i64 n_28::Zv b_109::Zf b_110::Zf b_111::(Zw !b_112)::t6)) (some (Zq b::Zq b_92::Zq b_93::Zq b_94::Zw b_95::Zw b_96::Zw b_97::Zq b_98::Zq b_99::Zq b_100::Zq b_101::Zq b_102::Zq b_103::Zz .u32 n::Zq b_104::Zq b_105::Zq b_106::Zz .u16 n_26::Zz .u16 n_27::Zw b_107::Zw b_108::Zz .i64 n_28::Zv b_109::Zf b_110::Zf b_111::Zw b_112::t6))) fun l=>cU8 l fun b r=>cU8 r fun b_117 r=>cU8 r fun b_118 r=>cU8 r fun b_119 r=>cBool r fun b_120 r=>cBool r fun b_121 r=>cBool r fun b_122 r=>cU8 r fun b_123 r=>cU8 r fun b_124 r=>cU8 r fun b_125 r=>cU8 r fun b_126 r=>cU8 r fun b_127 r=>cU8 r fun b_128 r=>cInt .u32 r fun n r=>cU8 r fun b_129 r=>cU8 r fun b_130 r=>cU8 r fun b_131 r=>cInt .u16 r fun n_30 r=>cInt .u16 r fun n_31 r=>cBool r fun b_132 r=>cBool r fun b_133 r=>cInt .i64 r fun n_32 r=>cStr r fun b_134 r=>cBs r fun b_135 r=>cBs r fun b_136 r=>cBool r fun b_137 r=>cBool r fun b_138 r=>cInt .i64 r fun n_33 r=>cStr r fun b_139 r=>cBs r fun b_140 r=>cBs r fun b_141 r=>onNil r (Zx (sel (Vu (Zb (Yg (↑(Yq b_130):Int) (↑(Yq (16:UInt8)):Int)))==(15:UInt8)) (some [Zq b,Zq b_117,Zq b_118,Zq b_119,Zw b_120,Zw b_121,Zw b_122,Zq b_123,Zq b_124,Zq b_125,Zq b_126,Zq b_127,Zq b_128,Zz .u32 n,Zq b_129,Zq b_130,Zq b_131,Zz .u16 n_30,Zz .u16 n_31,Zw b_132,Zw b_133,Zz .i64 n_32,Zv b_134,Zf b_135,Zf b_136,Zw b_137,Zw b_138,Zz .i64 (Zj .i64 (n_33+1)),Zv b_139,Zf b_140,Zf b_141]) (some [Zq b,Zq b_117,Zq b_118,Zq b_119,Zw b_120,Zw b_121,Zw b_122,Zq b_123,Zq b_124,Zq b_125,Zq b_126,Zq b_127,Zq b_128,Zz .u32 n,Zq b_129,Zq b_130,Zq b_131,Zz .u16 n_30,Zz .u16 n_31,Zw b_132,Zw b_133,Zz .i64 n_32,Zv b_134,Zf b_135,Zf b_136,Zw b_137,Zw b_138,Zz .i64 n_33,Zv b_139,Zf b_140,Zf b_141])) fun l=>cU8 l fun b r=>cU8 r fun b r=>cU8 r fun b r=>cU8 r fun b r=>cBool r fun b_142 r=>cBool r fun b_143 r=>cBool r fun b_144 r=>cU8 r fun b_145 r=>cU8 r fun b_146 r=>cU8 r fun b_147 r=>cU8 r fun b_148 r=>cU8 r fun b_149 r=>cU8 r fun b_150 r=>cInt .u32 r fun n r=>cU8 r fun b_151 r=>cU8 r fun b_152 r=>cU8 r fun b_153 r=>cInt .u16 r fun n r=>cInt .u16 r fun n r=>cBool r fun b_154 r=>cBool r fun b_155 r=>cInt .i64 r fun n r=>cStr r fun b_156 r=>cBs r fun b_157 r=>cBs r fun b_158 r=>cBool r fun b_159 r=>cBool r fun b_160 r=>cInt .i64 r fun n_34 r=>cStr r fun b_161 r=>cBs r fun b_162 r=>cBs r fun b_163 r=>onNil r (Zx (sel (Vu (Zb (Yg (↑(Yq b):Int) (↑(Yq (16:UInt8)):Int)))==(15:UInt8)) (some [Zw b_154,Zw b_155,Zz .i64 n,Zv b_156,Zf b_157,Zf b_158,Zw b_159,Zw b_160,Zz .i64 n_34,Zv [(67:UInt8),(65:UInt8),(77:UInt8)],Zf b_162,Zf b_163]) (some [Zw b_154,Zw b_155,Zz .i64 n,Zv b_156,Zf b_157,Zf b_158,Zw b_159,Zw b_160,Zz .i64 n_34,Zv b_161,Zf b_162,Zf b_163])) fun l=>cBool l fun b r=>cBool r fun b r=>cInt .i64 r fun n r=>cStr r fun b r=>cBs r fun b r=>cBs r fun b r=>cBool r fun b r=>cBool r fun b_164 r=>cInt .i64 r fun n r=>cStr r fun b_165 r=>cBs r fun b_166 r=>cBs r fun b_167 r=>onNil r (some (Wj [Zw b,Zw b_164,Zz .i64 n,Zv b_165,Zf b_166,Zf b_167],[]))))))))))))))):Option (AV×Blocks))) (by kernel_rfl) ?_
  delta kT kA kB kI
  try dsimp only [cStr,cBs,cBool,cU8,cInt,cSl,l63]
  simp only [Yz,decide_eq_true_eq] at hpre
  obtain ⟨⟨⟨⟨⟨⟨⟨⟨⟨⟨⟨l1,l2⟩,l3⟩,hk⟩,v0⟩,v1⟩,c0⟩,c1⟩,t0⟩,t1⟩,a0⟩,a1⟩:=hpre
  have hk:=Kerb.isU64_iff.1 hk
  have bcu:=Vj cu
  have bco:=Vj co
  have bcs:=Vj css
  have bca:=Vj cad
  have bci:=Vj cis
  have bct:=Vj ctm
  have bck:=Vj ctk
  have bcl:=Vj clf
  have f1:Yg (Yx cu) 6=Yx cu % 6:=Xz bcu.1
  have f2:Yg (Yx co) 6=Yx co % 6:=Xz bco.1
  have f3:Yg (Yx css) 4=Yx css % 4:=Xz bcs.1
  have f4:Yg (Yx cad) 3=Yx cad % 3:=Xz bca.1
  have f5:Zj .i64 (1000+Zj .i64 (Yx cis*8))=1000+Yx cis*8:=by rw [wrap_i64 (n:=Yx cis*8) (by omega) (by omega)];exact wrap_i64 (by omega) (by omega)
  have f6:Zj .i64 (1000+Zj .i64 (Yx ctm*8))=1000+Yx ctm*8:=by rw [wrap_i64 (n:=Yx ctm*8) (by omega) (by omega)];exact wrap_i64 (by omega) (by omega)
  have f7:Yg (Yx ctk) 3=Yx ctk % 3:=Xz bck.1
  have f8:Zj .i64 (Vn (Yx clf) 4)=Yx clf / 4:=by rw [Qx bcl.1];exact wrap_i64 (by omega) (by omega)
  have f9:Zj .i64 ccs=ccs:=wrap_i64 (by omega) (by omega)
  have fa:Zj .i64 (v+1)=v+1:=wrap_i64 (by omega) (by omega)
  have fb:Yg ctt 16=ctt % 16:=Xz (by omega)
  have fc:Yg cau 16=cau % 16:=Xz (by omega)
  have fd:Zj .u16 (Vn ctt 16)=ctt / 16:=by rw [Qx (by omega)];rw [Kerb.wrap_u16];omega
  have fe:Zj .u16 (Vn cau 16)=cau / 16:=by rw [Qx (by omega)];rw [Kerb.wrap_u16];omega
  have g1:(decide ((0:Int)≤Yx cu % 6)&&decide (Yx cu % 6≤4611686018427387904))=true:=by simp;omega
  have g2:(decide ((0:Int)≤Yx co % 6)&&decide (Yx co % 6≤4611686018427387904))=true:=by simp;omega
  have g3:(decide ((0:Int)≤Yx css % 4)&&decide (Yx css % 4≤1000))=true:=by simp;omega
  have g4:(decide ((0:Int)≤ctt / 16)&&decide (ctt / 16≤65535))=true:=by simp;omega
  have g5:(decide ((0:Int)≤cau / 16)&&decide (cau / 16≤65535))=true:=by simp;omega
  have u1:(Vu (Zb (Yg (cv.toNat:Int) ((7:UInt8).toNat:Int)))==(6:UInt8))=decide (cv.toNat % 7=6):=by
   have h7:Zb (Yg (cv.toNat:Int) ((7:UInt8).toNat:Int))=cv.toNat % 7:=Kerb.tmod_u8 cv 7 (by omega)
   rw [h7];exact Kerb.u8_beq (k:=6) (by omega) (by decide)
  have u2:(Vu (Zb (Yg (co.toNat:Int) ((8:UInt8).toNat:Int)))==(7:UInt8))=decide (co.toNat % 8=7):=by
   have h7:Zb (Yg (co.toNat:Int) ((8:UInt8).toNat:Int))=co.toNat % 8:=Kerb.tmod_u8 co 8 (by omega)
   rw [h7];exact Kerb.u8_beq (k:=7) (by omega) (by decide)
  have u3:(Vu (Zb (Yg (ckv.toNat:Int) ((16:UInt8).toNat:Int)))==(15:UInt8))=decide (ckv.toNat % 16=15):=by
   have h7:Zb (Yg (ckv.toNat:Int) ((16:UInt8).toNat:Int))=ckv.toNat % 16:=Kerb.tmod_u8 ckv 16 (by omega)
   rw [h7];exact Kerb.u8_beq (k:=15) (by omega) (by decide)
  have u4:(Vu (Zb (Yg (cr.toNat:Int) ((16:UInt8).toNat:Int)))==(15:UInt8))=decide (cr.toNat % 16=15):=by
   have h7:Zb (Yg (cr.toNat:Int) ((16:UInt8).toNat:Int))=cr.toNat % 16:=Kerb.tmod_u8 cr 16 (by omega)
   rw [h7];exact Kerb.u8_beq (k:=15) (by omega) (by decide)
  obtain ⟨W,hW⟩:∃ x,Uh (Yx cu % 6)=x:=⟨_,rfl⟩
  obtain ⟨E,hE⟩:∃ x,Kerb.session (Yx css % 4)=x:=⟨_,rfl⟩
  obtain ⟨IN,hIN⟩:∃ q,(if cv.toNat % 7=6 then ([111,116,104,101,114]:List UInt8) else y)=q:=⟨_,rfl⟩
  obtain ⟨V,hV⟩:∃ q,(if co.toNat % 8=7 then Uh (Yx co % 6) else W)=q:=⟨_,rfl⟩
  have hT:Kerb.Case.x (Vw cu co cv cr lt tn mt cad cfr cis ctm ctk clf ccs cky ckv css ctt cau) ⟨x,y,z⟩ k=(Kerb.sealTicket ⟨tn,W,Yx cad % 3,E,Yx clf / 4,1000+Yx cis*8,x,IN⟩ k).val:=by rw [← hW,← hE,← hIN];rfl
  have hA:Kerb.Case.y (Vw cu co cv cr lt tn mt cad cfr cis ctm ctk clf ccs cky ckv css ctt cau)=(Kerb.sealAuth ⟨V,ccs,Yx ctk % 3,1000+Yx ctm*8⟩ lt E).val:=by rw [← hV,← hW,← hE];rfl
  obtain ⟨X,hX⟩:∃ q,Kerb.Case.x (Vw cu co cv cr lt tn mt cad cfr cis ctm ctk clf ccs cky ckv css ctt cau) ⟨x,y,z⟩ k=q:=⟨_,rfl⟩
  obtain ⟨Y,hY⟩:∃ q,Kerb.Case.y (Vw cu co cv cr lt tn mt cad cfr cis ctm ctk clf ccs cky ckv css ctt cau)=q:=⟨_,rfl⟩
  have hR:Kerb.Case.req (Vw cu co cv cr lt tn mt cad cfr cis ctm ctk clf ccs cky ckv css ctt cau) ⟨x,y,z⟩ k v=⟨if cau % 16=14 then !lt else lt,mt,if ckv.toNat % 16=15 then v+1 else v,if cr.toNat % 16=15 then [67,65,77] else z,if ctt % 16=15 then Ww X (ctt / 16) else X,if cau % 16=15 then Ww Y (cau / 16) else Y⟩:=by rw [← hX,← hY];rfl
  rw [hX] at hT
  rw [hY] at hA
  have lW:W.name.length≤9223372036854775807∧W.inst.length≤9223372036854775807∧W.realm.length≤9223372036854775807:=by rw [← hW];exact Kerb.user_dec _
  have lV:V.name.length≤9223372036854775807∧V.inst.length≤9223372036854775807∧V.realm.length≤9223372036854775807:=by
   rw [← hV]
   split
   ·exact Kerb.user_dec _
   ·exact lW
  have lE:0≤E∧E<18446744073709551616:=by rw [← hE];exact Kerb.session_bd2 _
  have lI:IN.length≤9223372036854775807:=by
   rw [← hIN]
   split
   ·simp
   ·exact l2
  have lX:X.length≤1000000:=by rw [hT];have:=Kerb.sealTicket_len ⟨tn,W,Yx cad % 3,E,Yx clf / 4,1000+Yx cis*8,x,IN⟩ k;omega
  have lY:Y.length≤1000000:=by rw [hA];have:=Kerb.sealAuth_len ⟨V,ccs,Yx ctk % 3,1000+Yx ctm*8⟩ lt E;omega
  rw [hR]
  simp (config:={maxSteps:=10000000}) only [Wh,f1,f2,f3,f4,f5,f6,f7,f8,f9,fa,fb,fc,fd,fe,g1,g2,g3,g4,g5,u1,u2,u3,u4,hW,hE,↓sInt,↓sU8,↓sBool,↓sStr,↓sBs,↓sSl,↓sAgg,↓sTup,↓sCons,↓sNil,↓sNilB,↓sChk,↓sChkBind,↓sSome]
  refine bind_via (fun ls=>ls=[Zz Qz k,Zz Zu v,Zq cu,Zq co,Zq cv,Zq cr,Zw lt,Zw tn,Zw mt,Zq cad,Zq cfr,Zq cis,Zq ctm,Zq ctk,Zq clf,Zz Qy ccs,Zq cky,Zq ckv,Zq css,Zz Xp ctt,Zz Xp cau,Zv x,Zv y,Zv z,Zw false,Zw false,Zz Zu 0,Zv [],Zf [],Zf [],Zw tn,Zv W.name,Zv W.inst,Zv W.realm,Zz Zu (Yx cad % 3),Zz Qz E,Zz Zu (Yx clf / 4),Zz Zu (1000+Yx cis*8),Zv x,Zv IN]) ⟨_,?_,rfl⟩ ?_
  ·rw [← hIN]
   by_cases h:cv.toNat % 7=6
   ·rw [if_pos h,decide_eq_true h];rfl
   ·rw [if_neg h,decide_eq_false h];rfl
  rintro _ rfl
  simp (config:={maxSteps:=10000000}) only [Wh,f1,f2,f3,f4,f5,f6,f7,f8,f9,fa,fb,fc,fd,fe,g1,g2,g3,g4,g5,u1,u2,u3,u4,↓sInt,↓sU8,↓sBool,↓sStr,↓sBs,↓sSl,↓sAgg,↓sTup,↓sCons,↓sNil,↓sNilB,↓sChk,↓sChkBind,↓sSome]
  refine bind_via (fun ls=>ls=[Zz Qz k,Zz Zu v,Zq cu,Zq co,Zq cv,Zq cr,Zw lt,Zw tn,Zw mt,Zq cad,Zq cfr,Zq cis,Zq ctm,Zq ctk,Zq clf,Zz Qy ccs,Zq cky,Zq ckv,Zq css,Zz Xp ctt,Zz Xp cau,Zv x,Zv y,Zv z,Zw false,Zw false,Zz Zu 0,Zv [],Zf [],Zf [],Zw tn,Zv W.name,Zv W.inst,Zv W.realm,Zz Zu (Yx cad % 3),Zz Qz E,Zz Zu (Yx clf / 4),Zz Zu (1000+Yx cis*8),Zv x,Zv IN,Zv V.name,Zv V.inst,Zv V.realm,Zz Zu ccs,Zz Zu (Yx ctk % 3),Zz Zu (1000+Yx ctm*8)]) ⟨_,?_,rfl⟩ ?_
  ·rw [← hV]
   by_cases h:co.toNat % 8=7
   ·rw [if_pos h,decide_eq_true h];rfl
   ·rw [if_neg h,decide_eq_false h];rfl
  rintro _ rfl
  simp (config:={maxSteps:=10000000}) only [l1,lW,lV,lE,lI,hk,decide_true,Yf,← hT,← hA,Wh,f1,f2,f3,f4,f5,f6,f7,f8,f9,fa,fb,fc,fd,fe,g1,g2,g3,g4,g5,u1,u2,u3,u4,↓sInt,↓sU8,↓sBool,↓sStr,↓sBs,↓sSl,↓sAgg,↓sTup,↓sCons,↓sNil,↓sNilB,↓sChk,↓sChkBind,↓sSome]
  refine bind_via (fun ls=>ls=[Zq cu,Zq co,Zq cv,Zq cr,Zw lt,Zw tn,Zw mt,Zq cad,Zq cfr,Zq cis,Zq ctm,Zq ctk,Zq clf,Zz Qy ccs,Zq cky,Zq ckv,Zq css,Zz Xp ctt,Zz Xp cau,Zw false,Zw false,Zz Zu 0,Zv [],Zf [],Zf [],Zf Y,Zw lt,Zw mt,Zz Zu v,Zv z,Zf (if ctt % 16=15 then Ww X (ctt / 16) else X),Zf Y]) ⟨_,?_,rfl⟩ ?_
  ·by_cases h:ctt % 16=15
   ·rw [if_pos h,sel_pos (by simpa using h),chk_of (by simp only [lX,g4,decide_true,Bool.true_and])]
   ·rw [if_neg h,sel_neg (by simpa using h)]
  rintro _ rfl
  simp (config:={maxSteps:=10000000}) only [Wh,f1,f2,f3,f4,f5,f6,f7,f8,f9,fa,fb,fc,fd,fe,g1,g2,g3,g4,g5,u1,u2,u3,u4,↓sInt,↓sU8,↓sBool,↓sStr,↓sBs,↓sSl,↓sAgg,↓sTup,↓sCons,↓sNil,↓sNilB,↓sChk,↓sChkBind,↓sSome]
  refine bind_via (fun ls=>ls=[Zq cu,Zq co,Zq cv,Zq cr,Zw lt,Zw tn,Zw mt,Zq cad,Zq cfr,Zq cis,Zq ctm,Zq ctk,Zq clf,Zz Qy ccs,Zq cky,Zq ckv,Zq css,Zz Xp ctt,Zz Xp cau,Zw false,Zw false,Zz Zu 0,Zv [],Zf [],Zf [],Zw lt,Zw mt,Zz Zu v,Zv z,Zf (if ctt % 16=15 then Ww X (ctt / 16) else X),Zf (if cau % 16=15 then Ww Y (cau / 16) else Y)]) ⟨_,?_,rfl⟩ ?_
  ·by_cases h:cau % 16=15
   ·rw [if_pos h,sel_pos (by simpa using h),chk_of (by simp only [lY,g5,decide_true,Bool.true_and])]
   ·rw [if_neg h,sel_neg (by simpa using h)]
  rintro _ rfl
  simp (config:={maxSteps:=10000000}) only [Wh,f1,f2,f3,f4,f5,f6,f7,f8,f9,fa,fb,fc,fd,fe,g1,g2,g3,g4,g5,u1,u2,u3,u4,↓sInt,↓sU8,↓sBool,↓sStr,↓sBs,↓sSl,↓sAgg,↓sTup,↓sCons,↓sNil,↓sNilB,↓sChk,↓sChkBind,↓sSome]
  refine bind_via (fun ls=>ls=[Zq cu,Zq co,Zq cv,Zq cr,Zw lt,Zw tn,Zw mt,Zq cad,Zq cfr,Zq cis,Zq ctm,Zq ctk,Zq clf,Zz Qy ccs,Zq cky,Zq ckv,Zq css,Zz Xp ctt,Zz Xp cau,Zw false,Zw false,Zz Zu 0,Zv [],Zf [],Zf [],Zw (if cau % 16=14 then !lt else lt),Zw mt,Zz Zu v,Zv z,Zf (if ctt % 16=15 then Ww X (ctt / 16) else X),Zf (if cau % 16=15 then Ww Y (cau / 16) else Y)]) ⟨_,?_,rfl⟩ ?_
  ·by_cases h:cau % 16=14
   ·rw [if_pos h,sel_pos (by simpa using h)]
   ·rw [if_neg h,sel_neg (by simpa using h)]
  rintro _ rfl
  simp (config:={maxSteps:=10000000}) only [Wh,f1,f2,f3,f4,f5,f6,f7,f8,f9,fa,fb,fc,fd,fe,g1,g2,g3,g4,g5,u1,u2,u3,u4,↓sInt,↓sU8,↓sBool,↓sStr,↓sBs,↓sSl,↓sAgg,↓sTup,↓sCons,↓sNil,↓sNilB,↓sChk,↓sChkBind,↓sSome]
  refine bind_via (fun ls=>ls=[Zq cu,Zq co,Zq cv,Zq cr,Zw lt,Zw tn,Zw mt,Zq cad,Zq cfr,Zq cis,Zq ctm,Zq ctk,Zq clf,Zz Qy ccs,Zq cky,Zq ckv,Zq css,Zz Xp ctt,Zz Xp cau,Zw false,Zw false,Zz Zu 0,Zv [],Zf [],Zf [],Zw (if cau % 16=14 then !lt else lt),Zw mt,Zz Zu (if ckv.toNat % 16=15 then v+1 else v),Zv z,Zf (if ctt % 16=15 then Ww X (ctt / 16) else X),Zf (if cau % 16=15 then Ww Y (cau / 16) else Y)]) ⟨_,?_,rfl⟩ ?_
  ·by_cases h:ckv.toNat % 16=15
   ·rw [if_pos h,decide_eq_true h];rfl
   ·rw [if_neg h,decide_eq_false h];rfl
  rintro _ rfl
  simp (config:={maxSteps:=10000000}) only [Wh,f1,f2,f3,f4,f5,f6,f7,f8,f9,fa,fb,fc,fd,fe,g1,g2,g3,g4,g5,u1,u2,u3,u4,↓sInt,↓sU8,↓sBool,↓sStr,↓sBs,↓sSl,↓sAgg,↓sTup,↓sCons,↓sNil,↓sNilB,↓sChk,↓sChkBind,↓sSome]
  by_cases h:cr.toNat % 16=15
  ·rw [if_pos h,decide_eq_true h];rfl
  ·rw [if_neg h,decide_eq_false h];rfl
 ·cases h
theorem w62:Walked Tryz.prog G 62 7 sp62:=by
 refine ⟨Tryz.f62,Tryz.func62,by decide +kernel,rfl,fun xs bl r h=> ?_⟩
 unfold sp62 at h
 split at h
 ·rename_i a b c
  obtain ⟨hpre,h2⟩:=chk_inv h;cases h2
  refine Eq.trans (b:=(Zx (chk (decide (Zy a≤9223372036854775807)) (some (Zw (Wk a),[]))) fun (r:AV×Blocks)=>onNilB (Zh r) (Xk (Yv r) fun b_1=>sel b_1 (Zx (chk (decide (Zy b≤9223372036854775807)) (some (Zw (Xm b),[]))) fun (r:AV×Blocks)=>onNilB (Zh r) (Xk (Yv r) fun b=>sel b (Zx (chk (decide (Zy c≤9223372036854775807)) (some (Zw (Kerb.validRealm c),[]))) fun (r:AV×Blocks)=>onNilB (Zh r) (Xk (Yv r) fun b=>some (Zw b,[]))) (some (Zw false,[])))) (some (Zw false,[]))):Option (AV×Blocks))) (by kernel_rfl) ?_
  simp only [Yz,decide_eq_true_eq] at hpre
  simp only [A0]
  rw [chk_of (by simp;omega),chk_of (by simp;omega),chk_of (by simp;omega)]
  simp only [Zn]
  cases Wk a<;>cases Xm b<;>rfl
 ·cases h
theorem w88:Walked Tryz.prog G 88 7 sp88:=by
 refine ⟨Tryz.f88,Tryz.func88,by decide +kernel,rfl,fun xs bl r h=> ?_⟩
 unfold sp88 at h
 split at h
 ·rename_i li mu kv rl tk au
  obtain ⟨hpre,h2⟩:=chk_inv h;cases h2
  refine Eq.trans (b:=(Zx (chk (l63 rl) (some (Zw (Kerb.validRealm rl),[]))) (kL fun b=>sel (!b) (some (Yy [Zf [],Zz .i64 103],[])) (sel (!Zd kv 255) (some (Yy [Zf [],Zz .i64 104],[])) (sel (decide ((↑(Zy tk):Int)>255)) (some (Yy [Zf [],Zz .i64 105],[])) (sel (decide ((↑(Zy au):Int)>255)) (some (Yy [Zf [],Zz .i64 105],[])) (sel mu (Zx (chk (decide (Zy (Vp 4 li)≤70368744177664)) (some (Yb (Vp 4 li++Yw kv 1 false),[]))) (kO fun l=>Zx (chk (decide (Zy l+Zy rl≤70368744177664)) (some (Zf (Yd l rl),[]))) (kB fun b=>Zx (chk (decide (Zy b≤70368744177664)) (some (Yb (b++Yw (↑(Zy tk):Int) 1 false),[]))) (kO fun l=>Zx (chk (decide (Zy l≤70368744177664)) (some (Yb (l++Yw (↑(Zy au):Int) 1 false),[]))) (kO fun l=>Zx (chk (decide (Zy (Xx l (Xx tk (Xx au [])))≤140737488355328)&&decide (Zy [Zf l,Zf tk,Zf au]≤1000)) (some (Yb (Xx l (Xx tk (Xx au []))),[]))) (kO fun l=>some (Yy [Zf l,Zz .i64 0],[]))))))) (Zx (chk (decide (Zy (Vp 3 li)≤70368744177664)) (some (Yb (Vp 3 li++Yw kv 1 false),[]))) (kO fun l=>Zx (chk (decide (Zy l+Zy rl≤70368744177664)) (some (Zf (Yd l rl),[]))) (kB fun b=>Zx (chk (decide (Zy b≤70368744177664)) (some (Yb (b++Yw (↑(Zy tk):Int) 1 false),[]))) (kO fun l=>Zx (chk (decide (Zy l≤70368744177664)) (some (Yb (l++Yw (↑(Zy au):Int) 1 false),[]))) (kO fun l=>Zx (chk (decide (Zy (Xx l (Xx tk (Xx au [])))≤140737488355328)&&decide (Zy [Zf l,Zf tk,Zf au]≤1000)) (some (Yb (Xx l (Xx tk (Xx au []))),[]))) (kO fun l=>some (Yy [Zf l,Zz .i64 0],[])))))))))))):Option (AV×Blocks))) (by kernel_rfl) ?_
  delta kB kO kL
  try dsimp only [cStr,cBs,cBool,cU8,cInt,cSl,l63]
  simp only [A0,Wv,Wg,Vx,hpre]
  unfold Uu
  simp only
  cases h1:Kerb.validRealm rl
  ·rfl
  rw [Yp,sel_false,if_neg (by simp)]
  cases h2:Zd kv 255
  ·rfl
  rw [Yp,sel_false,if_neg (by simp)]
  by_cases h3:255<tk.length
  ·rw [sel_pos (by simp;omega),if_pos (.inl h3)]
  rw [sel_neg (by simp;omega)]
  by_cases h4:255<au.length
  ·rw [sel_pos (by simp;omega),if_pos (.inr h4)]
  rw [sel_neg (by simp;omega),if_neg (by omega)]
  have l1:=Kerb.validRealm_len h1
  have g3:=Kerb.header_len 3 li
  have g4:=Kerb.header_len 4 li
  cases mu
  ·rw [sel_false,chk_of (by simp;omega),chk_of (by simp [Zk];omega),chk_of (by simp [Zk,Wb];omega),chk_of (by simp [Zk,Wb];omega),chk_of (by simp [Zk,Wb];omega)]
   simp
  ·rw [sel_true,chk_of (by simp;omega),chk_of (by simp [Zk];omega),chk_of (by simp [Zk,Wb];omega),chk_of (by simp [Zk,Wb];omega),chk_of (by simp [Zk,Wb];omega)]
   simp
 ·cases h
theorem w11:Walked Tryz.prog G 11 8 sp11:=by
 refine ⟨Tryz.f11,Tryz.func11,by decide +kernel,rfl,fun xs bl r h=> ?_⟩
 unfold sp11 at h
 split at h
 ·rename_i cu co cv cr lt tn mt cad cfr cis ctm ctk clf ccs cky ckv css ctt cau x y z k v
  obtain ⟨hpre,h2⟩:=chk_inv h;cases h2
  refine Eq.trans (b:=(let t0:Kerb.ApRequest:=Kerb.Case.req (Vw cu co cv cr lt tn mt cad cfr cis ctm ctk clf ccs cky ckv css ctt cau) (Zm x y z) k v;Zx (chk (l63 x&&l63 y&&l63 z&&Kerb.isU64 k&&decide (0≤v)&&decide (v≤1000)&&decide (0≤ccs)&&decide (ccs≤4294967295)&&decide (0≤ctt)&&decide (ctt≤65535)&&decide (0≤cau)&&decide (cau≤65535)) (some (Wj [Zw (Kerb.ApRequest.little t0),Zw (Kerb.ApRequest.mutual_ t0),Zz .i64 (Kerb.ApRequest.kvno t0),Zv (Kerb.ApRequest.realm t0),Zf (Kerb.ApRequest.ticket t0),Zf (Kerb.ApRequest.auth t0)],[]))) (kA fun cs=>cBool cs fun b r=>cBool r fun b_1 r=>cInt .i64 r fun n r=>cStr r fun b_2 r=>cBs r fun b_3 r=>cBs r fun b_4 r=>onNil r (Zx (chk (l63 b_2) (some (Yy [Zf (Xu (Uu (Uj b b_1 n b_2 b_3 b_4))),Zz .i64 (Xq (Uu (Uj b b_1 n b_2 b_3 b_4)))],[]))) (kT fun vs=>cBs vs fun b r=>cInt .i64 r fun n r=>onNil r (some (Zf b,[]))))):Option (AV×Blocks))) (by kernel_rfl) ?_
  delta kT kA
  try dsimp only [cStr,cBs,cBool,cU8,cInt,cSl,l63]
  have hp:=hpre
  simp only [Yz,decide_eq_true_eq] at hp
  have lr:(Kerb.Case.req (Vw cu co cv cr lt tn mt cad cfr cis ctm ctk clf ccs cky ckv css ctt cau) ⟨x,y,z⟩ k v).realm.length≤9223372036854775807:=by
   show (if cr.toNat % 16=15 then ([67,65,77]:List UInt8) else z).length≤_
   split
   ·simp
   ·exact hp.1.1.1.1.1.1.1.1.1.2
  simp only [hpre,lr,decide_true,↓A0,A0]
  rfl
 ·cases h
theorem w37:Walked Tryz.prog G 37 8 sp37:=by
 refine ⟨Tryz.f37,Tryz.func37,by decide +kernel,rfl,fun xs bl r h=> ?_⟩
 unfold sp37 at h
 split at h
 ·rename_i b
  obtain ⟨hpre,h2⟩:=chk_inv h;cases h2
  refine Eq.trans (b:=(let t1:AV:=Wj [Zw false,Zw false,Zz .i64 0,Zv [],Zf [],Zf []];let t0:Option (AV×Blocks):=some (Yy [t1,Zz .i64 100],[]);sel (!Zh (Kerb.headIs b [3,4])==0) (some (Yy [t1,Zz .i64 (Zh (Kerb.headIs b [3,4]))],[])) (Zx (chk (decide (Zy b≤140737488355328)) (some (Yy [Wj [Zw (Kerb.ApRequest.little (Vz (Wd b))),Zw (Kerb.ApRequest.mutual_ (Vz (Wd b))),Zz .i64 (Kerb.ApRequest.kvno (Vz (Wd b))),Zv (Kerb.ApRequest.realm (Vz (Wd b))),Zf (Kerb.ApRequest.ticket (Vz (Wd b))),Zf (Kerb.ApRequest.auth (Vz (Wd b)))],Zz .i64 (Kerb.GotAp.next (Wd b))],[]))) (kT fun vs=>onCons vs fun x r=>Uz x fun cs=>cBool cs fun b_1 r_1=>cBool r_1 fun b_2 r_2=>cInt .i64 r_2 fun n r_3=>cStr r_3 fun b_3 r_4=>cBs r_4 fun b_4 r_5=>cBs r_5 fun b_5 r_6=>onNil r_6 (cInt .i64 r fun n_1 r=>onNil r (Zx (chk (l63 b_3) (some (Yy [Zf (Xu (Uu (Uj b_1 b_2 n b_3 b_4 b_5))),Zz .i64 (Xq (Uu (Uj b_1 b_2 n b_3 b_4 b_5)))],[]))) (kT fun vs=>cBs vs fun b_6 r=>cInt .i64 r fun n_2 r=>onNil r (sel (!n_2==0) t0 (sel (!b_6==b) t0 (some (Yy [Wj [Zw b_1,Zw b_2,Zz .i64 n,Zv b_3,Zf b_4,Zf b_5],Zz .i64 0],[]))))))))):Option (AV×Blocks))) (by kernel_rfl) ?_
  delta kT
  try dsimp only [cStr,cBs,cBool,cU8,cInt,cSl,l63]
  have hb:=of_decide_eq_true hpre
  have hpre2:decide (b.length≤4611686018427387904)=true:=by simp;omega
  have hr:=Kerb.text_len b (Vb b 2 1 false).next
  have g1:(Wd b).val.realm.length≤9223372036854775807:=by show (Vk b (Vb b 2 1 false).next).val.length≤_;omega
  unfold Kerb.decodeAp
  by_cases h:(Kerb.headIs b [3,4]).2=0
  case neg=>rw [sel_pos (by simpa using h),if_pos h];rfl
  rw [sel_neg (by simpa using h),if_neg (by simpa using h)]
  simp only [hpre,g1,decide_true,↓A0,A0]
  exact Kerb.decBy_fin (no:=Kerb.noAp) (enc:=Uu) (rd:=fun b=>((Wd b).val,false)) _ false rfl (fun x e=>(Yy [.agg [.bool (x).little,.bool (x).mutual_,.int .i64 (x).kvno,.str (x).realm,.bs (x).ticket,.bs (x).auth],Zz Zu e],([]:Blocks)))
 ·cases h
theorem w63:Walked Tryz.prog G 63 8 sp63:=by
 refine ⟨Tryz.f63,Tryz.func63,by decide +kernel,rfl,fun xs bl r h=> ?_⟩
 unfold sp63 at h
 split at h
 ·rename_i kls
  obtain ⟨hpre,h2⟩:=chk_inv h;cases h2
  refine Eq.trans (b:=(sel (decide ((↑(Zy kls):Int)>60)) (some (Zz .i64 106,[])) (Zx (loopM (fun (st:List AV)=>cSl 5 st fun b r=>cInt .i64 r fun n r=>cSl 5 r fun b_1 r=>cInt .i64 r fun n_1 r=>cInt .i64 r fun n_2 r=>let t0:List AV:=[Yk 5 b_1,Zz .i64 n_1,Zz .i64 n_2];onNil r (sel (decide (n_2<n_1)) (chk (decide (0≤n_2)&&decide (n_2<(↑(Zy b_1):Int))&&true) (Uz (Xj b_1 (Zb n_2) Vh) fun cs=>cStr cs fun b_2 r=>cStr r fun b_3 r=>cStr r fun b_4 r=>cInt .i64 r fun n_3 r=>cInt .u64 r fun n_4 r=>onNil r (Zx (chk (l63 b_2&&l63 b_3&&l63 b_4) (some (Zw (Zn (Zm b_2 b_3 b_4)),[]))) (kL fun b_5=>sel (!b_5) (some (Xy (Wq,Yk 5 b::Zz .i64 103::t0))) (sel (decide (n_3<0)) (some (Xy (Wq,Yk 5 b::Zz .i64 104::t0))) (sel (decide (n_3>255)) (some (Xy (Wq,Yk 5 b::Zz .i64 104::t0))) (Zx (chk (decide (0≤n_4)&&decide (n_4<18446744073709551616)) (some (Zw (Ux n_4),[]))) (kL fun b_6=>sel (!b_6) (some (Xy (Wq,Yk 5 b::Zz .i64 10::t0))) (Zx (chk (Up b Qv&&decide (Zy b≤1000000)) (some (Zz .i64 (↑(Kerb.skAt (Wu Ud b) (Zm b_2 b_3 b_4) n_3):Int),[]))) (kI .i64 fun n_5=>sel (decide (n_5<n_2)) (some (Xy (Wq,Yk 5 b::Zz .i64 107::t0))) (some (Vq [Yk 5 b,Zz .i64 n,Yk 5 b_1,Zz .i64 n_1,Zz .i64 (Zj .i64 (n_2+1))])))))))))))) (some (Xy (Vm 0,Yk 5 b::Zz .i64 n::t0))))) [Yk 5 kls,Zz .i64 0,Yk 5 kls,Zz .i64 (↑(Zy kls):Int),Zz .i64 0]) fun (r:Ex×List AV)=>cSl 5 (Zh r) fun b r_1=>cInt .i64 r_1 fun n r_2=>cSl 5 r_2 fun b r_3=>cInt .i64 r_3 fun n_1 r_4=>cInt .i64 r_4 fun n_2 r_5=>onNil r_5 (exK r.1 (some (Zz .i64 n,[])) fun (j:Nat)=>sel (Uk j 0) (some (Zz .i64 0,[])) none)):Option (AV×Blocks))) (by kernel_rfl) ?_
  delta kL kI
  try dsimp only [cStr,cBs,cBool,cU8,cInt,cSl,l63]
  simp only [Yz,decide_eq_true_eq] at hpre
  obtain ⟨hall,hlen⟩:=hpre
  obtain ⟨cs,rfl,hok⟩:=Uy hall
  unfold Wp
  rw [Xb]
  simp only [Yu] at hlen ⊢
  by_cases h60:60<cs.length
  ·rw [sel_pos (by simp;omega),if_pos h60]
  rw [sel_neg (by simp;omega),if_neg h60]
  refine loop_rounds (fun i:Nat=>[Yk 5 (cs.map Yj),Zz Zu 0,Yk 5 (cs.map Yj),Zz Zu (cs.length:Int),Zz Zu (i:Int)]) (fun i=>i≤cs.length∧Wy [] cs=Wy (cs.take i) (cs.drop i)) (fun i=>cs.length-i)
   (fun r=>∃ (i:Nat) (n:Int),r.2=[Yk 5 (cs.map Yj),Zz Zu n,Yk 5 (cs.map Yj),Zz Zu (cs.length:Int),Zz Zu (i:Int)]∧((r.1 = .ret∧n=Wy [] cs)∨(r.1 = .exit 0∧Wy [] cs=0))) 0 ⟨Ug _,by simp⟩ rfl ?_ ?_
  ·rintro i ⟨hi,hp⟩
   simp only [↓A0,A0,Yu]
   by_cases hlt:i<cs.length
   ·rw [sel_pos (by simp;omega),chk_of (by simp;omega),Yn,Uv (d:=Wx) hlt]
    obtain ⟨c,hc⟩:∃ c,cs.getD i Wx=c:=⟨_,rfl⟩
    have hst:=Kerb.skErrs_step hlt hc hp
    have hcm:c∈cs:=hc ▸ Kerb.mem_row hlt
    have ho:=hok c hcm
    rw [hc]
    obtain ⟨⟨s1,s2,s3⟩,kv,ky⟩:=c
    obtain ⟨o1,o2,o3,o4,o5⟩:=ho
    have o4:=Kerb.isI64_iff.1 o4
    have o5:=Kerb.isU64_iff.1 o5
    dsimp only at o1 o2 o3 o4 o5 hst
    simp only [Yj,o1,o2,o3,o5,decide_true,Yf,↓A0,A0]
    have k1:∀ code:Int,code≠0→Ym ⟨⟨s1,s2,s3⟩,kv,ky⟩=code→code=Wy [] cs:=fun code h0 he=>by
     rw [he,if_pos h0] at hst;exact hst.symm
    cases h1:Zn ⟨s1,s2,s3⟩
    ·exact ⟨_,rfl,i,_,rfl,.inl ⟨rfl,k1 103 (by decide) (by simp [Ym,h1])⟩⟩
    rw [Yp,sel_false]
    by_cases h2:kv<0
    ·rw [sel_pos (by simpa using h2)]
     exact ⟨_,rfl,i,_,rfl,.inl ⟨rfl,k1 104 (by decide) (by simp [Ym,h1,Zd];omega)⟩⟩
    rw [sel_neg (by simpa using h2)]
    by_cases h3:kv>255
    ·rw [sel_pos (by simpa using h3)]
     exact ⟨_,rfl,i,_,rfl,.inl ⟨rfl,k1 104 (by decide) (by simp [Ym,h1,Zd];omega)⟩⟩
    rw [sel_neg (by simpa using h3)]
    have hw:Zd kv 255=true:=Kerb.within_iff.2 ⟨by omega,by omega⟩
    cases h4:Ux ky
    ·exact ⟨_,rfl,i,_,rfl,.inl ⟨rfl,k1 10 (by decide) (by simp [Ym,h1,hw,h4])⟩⟩
    rw [Yp,sel_false]
    have hz:Ym ⟨⟨s1,s2,s3⟩,kv,ky⟩=0:=by simp [Ym,h1,hw,h4]
    rw [hz,if_neg (by simp)] at hst
    rw [chk_of (by rw [Vd hok];simp;omega),Xb]
    have hq:=Kerb.skAt_lt cs ⟨s1,s2,s3⟩ kv i hi
    have e:decide (((Kerb.skAt cs ⟨s1,s2,s3⟩ kv:Nat):Int)<(i:Int))=decide (Kerb.skAt cs ⟨s1,s2,s3⟩ kv<i):=decide_eq_decide.2 (by omega)
    rw [e,hq]
    cases hd:(cs.take i).any (Xv ⟨s1,s2,s3⟩ kv)
    ·rw [hd,if_neg (by simp)] at hst
     rw [sel_false,wrap_i64 (by omega) (by omega)]
     exact ⟨_,rfl,i+1,rfl,⟨by omega,hst⟩,by dsimp only;omega⟩
    ·rw [hd,if_pos rfl] at hst
     rw [sel_true]
     exact ⟨_,rfl,i,_,rfl,.inl ⟨rfl,hst.symm⟩⟩
   ·rw [sel_neg (by simp;omega)]
    refine ⟨_,rfl,i,_,rfl,.inr ⟨rfl,?_⟩⟩
    rw [hp,Xd (by omega)]
    rfl
  ·rintro ⟨e,l⟩ ⟨i,n,rfl,⟨rfl,h⟩ | ⟨rfl,h⟩⟩
   ·simp only [↓A0,A0,h]
   ·simp only [↓A0,A0,h]
    rw [sel_pos (Wn _)]
 ·cases h
theorem w64:Walked Tryz.prog G 64 8 sp64:=by
 refine ⟨Tryz.f64,Tryz.func64,by decide +kernel,rfl,fun xs bl r h=> ?_⟩
 unfold sp64 at h
 split at h
 ·rename_i sz fl mls
  obtain ⟨hpre,h2⟩:=chk_inv h;cases h2
  refine Eq.trans (b:=(sel (!(decide (1≤sz)&&decide (sz≤40))) (some (Zz .i64 104,[])) (sel (!(decide (0≤fl)&&decide (fl≤4294967295))) (some (Zz .i64 104,[])) (sel (decide ((↑(Zy mls):Int)>sz)) (some (Zz .i64 106,[])) (Zx (loopM (fun (st:List AV)=>cInt .i64 st fun n r=>cInt .i64 r fun n_1 r=>cSl 5 r fun b r=>cInt .i64 r fun n_2 r=>cSl 5 r fun b_1 r=>cInt .i64 r fun n_3 r=>cInt .i64 r fun n_4 r=>let t0:List AV:=[Yk 5 b_1,Zz .i64 n_3,Zz .i64 n_4];let t2:List AV:=Um (Zb (↑(0:Nat):Int)) (Un (Zb n_4) b);let t1:Option (List AV ⊕ Ex×List AV):=some (Xy (Wq,Zz .i64 n::Zz .i64 n_1::Yk 5 b::Zz .i64 104::t0));onNil r (sel (decide (n_4<n_3)) (chk (decide (0≤n_4)&&decide (n_4<(↑(Zy b_1):Int))&&true) (Uz (Xj b_1 (Zb n_4) Vh) fun cs=>cStr cs fun b_2 r=>cStr r fun b_3 r=>cStr r fun b_4 r=>cInt .i64 r fun n_5 r=>cInt .i64 r fun n_6 r=>onNil r (Zx (chk (l63 b_2&&l63 b_3&&l63 b_4) (some (Zw (Zn (Zm b_2 b_3 b_4)),[]))) (kL fun b_5=>sel (!b_5) (some (Xy (Wq,Zz .i64 n::Zz .i64 n_1::Yk 5 b::Zz .i64 103::t0))) (sel (!(decide (n_1≤n_5)&&decide (n_5≤4294967295))) t1 (sel (!(decide (0≤n_6)&&decide (n_6≤199))) t1 (chk (decide ((↑(0:Nat):Int)≤n_4)&&decide (n_4≤(↑(Zy b):Int))) (Zx (chk (Up t2 Kerb.isMark&&decide (Zy t2≤1000000)) (some (Zw (Kerb.hasMark (Wu Kerb.toMark t2) (Kerb.Mark.mk (Zm b_2 b_3 b_4) n_5 n_6)),[]))) (kL fun b_6=>sel b_6 (some (Xy (Wq,Zz .i64 n::Zz .i64 n_1::Yk 5 b::Zz .i64 107::t0))) (some (Vq [Zz .i64 n,Zz .i64 n_1,Yk 5 b,Zz .i64 n_2,Yk 5 b_1,Zz .i64 n_3,Zz .i64 (Zj .i64 (n_4+1))]))))))))))) (some (Xy (Vm 0,Zz .i64 n::Zz .i64 n_1::Yk 5 b::Zz .i64 n_2::t0))))) [Zz .i64 sz,Zz .i64 fl,Yk 5 mls,Zz .i64 0,Yk 5 mls,Zz .i64 (↑(Zy mls):Int),Zz .i64 0]) fun (r:Ex×List AV)=>cInt .i64 (Zh r) fun n r_1=>cInt .i64 r_1 fun n r_2=>cSl 5 r_2 fun b r_3=>cInt .i64 r_3 fun n r_4=>cSl 5 r_4 fun b r_5=>cInt .i64 r_5 fun n_1 r_6=>cInt .i64 r_6 fun n_2 r_7=>onNil r_7 (exK r.1 (some (Zz .i64 n,[])) fun (j:Nat)=>sel (Uk j 0) (some (Zz .i64 0,[])) none)))):Option (AV×Blocks))) (by kernel_rfl) ?_
  delta kL
  try dsimp only [cStr,cBs,cBool,cU8,cInt,cSl,l63]
  simp only [Yz,decide_eq_true_eq] at hpre
  obtain ⟨hall,hlen⟩:=hpre
  obtain ⟨cs,rfl,hok⟩:=Kerb.marks_of hall
  unfold Wf
  rw [Vy]
  simp only [Yu] at hlen ⊢
  cases e1:(decide ((1:Int)≤sz)&&decide (sz≤40))
  ·rw [if_pos (by simp)];rfl
  cases e2:(decide ((0:Int)≤fl)&&decide (fl≤4294967295))
  ·rw [if_pos (by unfold Zd;rw [e2];rfl)];rfl
  rw [Yp,sel_false,sel_false,if_neg (by unfold Zd;rw [e2];simp)]
  simp only [Yz,decide_eq_true_eq] at e1 e2
  by_cases hsz:sz<cs.length
  ·rw [sel_pos (by simp;omega),if_pos hsz]
  rw [sel_neg (by simp;omega),if_neg hsz]
  refine loop_rounds (fun i:Nat=>[Zz Zu sz,Zz Zu fl,Yk 5 (cs.map Xg),Zz Zu 0,Yk 5 (cs.map Xg),Zz Zu (cs.length:Int),Zz Zu (i:Int)]) (fun i=>i≤cs.length∧Xf fl [] cs=Xf fl (cs.take i) (cs.drop i)) (fun i=>cs.length-i)
   (fun r=>∃ (i:Nat) (n:Int),r.2=[Zz Zu sz,Zz Zu fl,Yk 5 (cs.map Xg),Zz Zu n,Yk 5 (cs.map Xg),Zz Zu (cs.length:Int),Zz Zu (i:Int)]∧((r.1 = .ret∧n=Xf fl [] cs)∨(r.1 = .exit 0∧Xf fl [] cs=0))) 0 ⟨Ug _,by simp⟩ rfl ?_ ?_
  ·rintro i ⟨hi,hp⟩
   simp only [↓A0,A0,Yu]
   by_cases hlt:i<cs.length
   ·rw [sel_pos (by simp;omega),chk_of (by simp;omega),Yn,Uv (d:=Kerb.noMark) hlt]
    obtain ⟨c,hc⟩:∃ c,cs.getD i Kerb.noMark=c:=⟨_,rfl⟩
    have hst:=Kerb.marksErr_step hlt hc hp
    have hcm:c∈cs:=hc ▸ Kerb.mem_row hlt
    have ho:=hok c hcm
    rw [hc]
    obtain ⟨⟨s1,s2,s3⟩,mt,mk⟩:=c
    obtain ⟨o1,o2,o3,o4,o5⟩:=ho
    dsimp only at o1 o2 o3 o4 o5 hst
    simp only [Xg,o1,o2,o3,decide_true,Yf,↓A0,A0]
    have k1:∀ code:Int,code≠0→Yh fl ⟨⟨s1,s2,s3⟩,mt,mk⟩=code→code=Xf fl [] cs:=fun code h0 he=>by
     rw [he,if_pos h0] at hst;exact hst.symm
    cases h1:Zn ⟨s1,s2,s3⟩
    ·exact ⟨_,rfl,i,_,rfl,.inl ⟨rfl,k1 103 (by decide) (by simp [Yh,h1])⟩⟩
    rw [Yp,sel_false]
    by_cases h2:fl≤mt∧mt≤4294967295
    case neg =>
     rw [sel_pos (by simp;omega)]
     exact ⟨_,rfl,i,_,rfl,.inl ⟨rfl,k1 104 (by decide) (by unfold Yh;rw [if_neg (by simp [h1]),if_pos (by simp [Zd];omega)])⟩⟩
    rw [sel_neg (by simp;omega)]
    by_cases h3:0≤mk∧mk≤199
    case neg =>
     rw [sel_pos (by simp;omega)]
     exact ⟨_,rfl,i,_,rfl,.inl ⟨rfl,k1 104 (by decide) (by unfold Yh;rw [if_neg (by simp [h1]),if_pos (by simp [Zd];omega)])⟩⟩
    rw [sel_neg (by simp;omega)]
    have hw2:(decide (fl≤mt)&&decide (mt≤4294967295)&&Zd mk 199)=true:=by
     rw [Yz,Yz,decide_eq_true_eq,decide_eq_true_eq]
     exact ⟨⟨by omega,by omega⟩,Kerb.within_iff.2 ⟨by omega,by omega⟩⟩
    have hz:Yh fl ⟨⟨s1,s2,s3⟩,mt,mk⟩=0:=by
     unfold Yh
     rw [if_neg (by simp [h1])]
     dsimp only
     rw [hw2]
     rfl
    rw [hz,if_neg (by simp)] at hst
    rw [chk_of (by simp;omega)]
    simp only [Yn,List.drop_zero,← List.map_take]
    rw [chk_of (by rw [Kerb.marks_all (fun c hc=>hok c (List.mem_of_mem_take hc))];simp;omega),Vy]
    cases hd:Kerb.hasMark (cs.take i) ⟨⟨s1,s2,s3⟩,mt,mk⟩
    ·rw [hd,if_neg (by simp)] at hst
     rw [sel_false,wrap_i64 (by omega) (by omega)]
     exact ⟨_,rfl,i+1,rfl,⟨by omega,hst⟩,by dsimp only;omega⟩
    ·rw [hd,if_pos rfl] at hst
     rw [sel_true]
     exact ⟨_,rfl,i,_,rfl,.inl ⟨rfl,hst.symm⟩⟩
   ·rw [sel_neg (by simp;omega)]
    refine ⟨_,rfl,i,_,rfl,.inr ⟨rfl,?_⟩⟩
    rw [hp,Xd (by omega)]
    rfl
  ·rintro ⟨e,l⟩ ⟨i,n,rfl,⟨rfl,h⟩ | ⟨rfl,h⟩⟩
   ·simp only [↓A0,A0,h]
   ·simp only [↓A0,A0,h]
    rw [sel_pos (Wn _)]
 ·cases h
theorem w175:Walked Tryz.prog G 175 8 sp175:=by
 refine ⟨Tryz.f175,Tryz.func175,by decide +kernel,rfl,fun xs bl r h=> ?_⟩
 unfold sp175 at h
 split at h
 ·rename_i b pos
  obtain ⟨hpre,h2⟩:=chk_inv h;cases h2
  refine Eq.trans (b:=(Zx (loopM (fun (st:List AV)=>cBs st fun b r=>cInt .i64 r fun n r=>let t0:Option (AV×Blocks):=chk (decide (Zy b≤4611686018427387904)) (some (Yy [Zv (Kerb.GotB.val (Vk b n)),Zz .i64 (Kerb.GotB.next (Vk b n)),Zz .i64 (Kerb.GotB.err (Vk b n))],[]));cStr r fun b_1 r=>cStr r fun b_2 r=>cStr r fun b_3 r=>cInt .i64 r fun n_1 r=>cInt .i64 r fun n_2 r=>cStr r fun b_4 r=>cStr r fun b_5 r=>cStr r fun b_6 r=>cInt .i64 r fun n_3 r=>cInt .i64 r fun n_4 r=>let t1:List AV:=[Zv b_6,Zz .i64 n_3,Zz .i64 (Zj .i64 (n_4+1))];onNil r (sel (decide (n_4<n_3)) (chk (decide (0≤n_4)&&decide (n_4<(↑(Zy [0,1,2]):Int))&&true) (sel (Uk (Zb n_4) 0) (Zx t0 (kT fun vs=>cStr vs fun b_7 r=>cInt .i64 r fun n r=>cInt .i64 r fun n_5 r=>onNil r (sel (!n_5==0) (some (Xy (Wq,[Zf b,Zz .i64 n,Zv [],Zv [],Zv [],Zz .i64 0,Zz .i64 n_5,Zv b_7,Zv b_5,Zv b_6,Zz .i64 n_3,Zz .i64 n_4]))) (some (Vq (Zf b::Zz .i64 n::Zv b_1::Zv b_2::Zv b_3::Zz .i64 n_1::Zz .i64 n_2::Zv b_7::Zv b_5::t1)))))) (sel (Uk (Zb n_4-1) 0) (Zx t0 (kT fun vs=>cStr vs fun b_7 r=>cInt .i64 r fun n r=>cInt .i64 r fun n_5 r=>onNil r (sel (!n_5==0) (some (Xy (Wq,[Zf b,Zz .i64 n,Zv [],Zv [],Zv [],Zz .i64 0,Zz .i64 n_5,Zv b_4,Zv b_7,Zv b_6,Zz .i64 n_3,Zz .i64 n_4]))) (some (Vq (Zf b::Zz .i64 n::Zv b_1::Zv b_2::Zv b_3::Zz .i64 n_1::Zz .i64 n_2::Zv b_4::Zv b_7::t1)))))) (sel (Uk (Zb n_4-1-1) 0) (Zx t0 (kT fun vs=>cStr vs fun b_7 r=>cInt .i64 r fun n r=>cInt .i64 r fun n_5 r=>onNil r (sel (!n_5==0) (some (Xy (Wq,[Zf b,Zz .i64 n,Zv [],Zv [],Zv [],Zz .i64 0,Zz .i64 n_5,Zv b_4,Zv b_5,Zv b_7,Zz .i64 n_3,Zz .i64 n_4]))) (some (Vq [Zf b,Zz .i64 n,Zv b_1,Zv b_2,Zv b_3,Zz .i64 n_1,Zz .i64 n_2,Zv b_4,Zv b_5,Zv b_7,Zz .i64 n_3,Zz .i64 (Zj .i64 (n_4+1))]))))) none)))) (some (Xy (Vm 0,[Zf b,Zz .i64 n,Zv b_1,Zv b_2,Zv b_3,Zz .i64 n_1,Zz .i64 n_2,Zv b_4,Zv b_5,Zv b_6,Zz .i64 n_3,Zz .i64 n_4]))))) [Zf b,Zz .i64 pos,Zv [],Zv [],Zv [],Zz .i64 0,Zz .i64 0,Zv [],Zv [],Zv [],Zz .i64 (↑(Zy [0+0,0+1,0+2]):Int),Zz .i64 0]) fun (r:Ex×List AV)=>cBs (Zh r) fun b r_1=>cInt .i64 r_1 fun n r_2=>cStr r_2 fun b r_3=>cStr r_3 fun b_1 r_4=>cStr r_4 fun b_2 r_5=>cInt .i64 r_5 fun n_1 r_6=>cInt .i64 r_6 fun n_2 r_7=>cStr r_7 fun b_3 r_8=>cStr r_8 fun b_4 r_9=>cStr r_9 fun b_5 r_10=>cInt .i64 r_10 fun n_3 r_11=>cInt .i64 r_11 fun n_4 r_12=>onNil r_12 (exK r.1 (some (Yy [Wj [Zv b,Zv b_1,Zv b_2],Zz .i64 n_1,Zz .i64 n_2],[])) fun (j:Nat)=>sel (Uk j 0) (Zx (chk (l63 b_3&&l63 b_4&&l63 b_5) (some (Zw (Zn (Zm b_3 b_4 b_5)),[]))) (kL fun b=>sel (!b) (some (Yy [Wj [Zv [],Zv [],Zv []],Zz .i64 0,Zz .i64 103],[])) (some (Yy [Wj [Zv b_3,Zv b_4,Zv b_5],Zz .i64 n,Zz .i64 0],[])))) none):Option (AV×Blocks))) (by kernel_rfl) ?_
  delta kT kL
  try dsimp only [cStr,cBs,cBool,cU8,cInt,cSl,l63]
  have hb:=of_decide_eq_true hpre
  obtain ⟨T0,hT0⟩:∃ T,T=Vk b pos:=⟨_,rfl⟩
  obtain ⟨T1,hT1⟩:∃ T,T=Vk b T0.next:=⟨_,rfl⟩
  obtain ⟨T2,hT2⟩:∃ T,T=Vk b T1.next:=⟨_,rfl⟩
  have hp:Kerb.prin b pos=if T0.err≠0 then ⟨Kerb.noPrin,0,T0.err⟩ else if T1.err≠0 then ⟨Kerb.noPrin,0,T1.err⟩ else if T2.err≠0 then ⟨Kerb.noPrin,0,T2.err⟩
    else if Zn ⟨T0.val,T1.val,T2.val⟩ then ⟨⟨T0.val,T1.val,T2.val⟩,T2.next,0⟩ else ⟨Kerb.noPrin,0,103⟩:=by
   rw [hT2,hT1,hT0];rfl
  have k0:=Kerb.text_len b pos
  rw [← hT0] at k0
  have k1:=Kerb.text_len b T0.next
  rw [← hT1] at k1
  have k2:=Kerb.text_len b T1.next
  rw [← hT2] at k2
  refine loop_rounds (fun i:Nat=>match i with
    | 0=>[Zf b,Zz Zu pos,Zv [],Zv [],Zv [],Zz Zu 0,Zz Zu 0,Zv [],Zv [],Zv [],Zz Zu 3,Zz Zu 0]
    | 1=>[Zf b,Zz Zu T0.next,Zv [],Zv [],Zv [],Zz Zu 0,Zz Zu 0,Zv T0.val,Zv [],Zv [],Zz Zu 3,Zz Zu 1]
    | 2=>[Zf b,Zz Zu T1.next,Zv [],Zv [],Zv [],Zz Zu 0,Zz Zu 0,Zv T0.val,Zv T1.val,Zv [],Zz Zu 3,Zz Zu 2]
    | _=>[Zf b,Zz Zu T2.next,Zv [],Zv [],Zv [],Zz Zu 0,Zz Zu 0,Zv T0.val,Zv T1.val,Zv T2.val,Zz Zu 3,Zz Zu 3])
   (fun i=>i≤3∧(1≤i→T0.err=0)∧(2≤i→T1.err=0)∧(3≤i→T2.err=0)) (fun i=>3-i)
   (fun r=>(T0.err=0∧T1.err=0∧T2.err=0∧r=(Vm 0,[Zf b,Zz Zu T2.next,Zv [],Zv [],Zv [],Zz Zu 0,Zz Zu 0,Zv T0.val,Zv T1.val,Zv T2.val,Zz Zu 3,Zz Zu 3])) ∨
    ∃ n x y z i,Kerb.prin b pos=⟨Kerb.noPrin,0,(Kerb.prin b pos).err⟩∧r=(Wq,[Zf b,Zz Zu n,Zv [],Zv [],Zv [],Zz Zu 0,Zz Zu (Kerb.prin b pos).err,Zv x,Zv y,Zv z,Zz Zu 3,Zz Zu i])) 0 ⟨by omega,by omega,by omega,by omega⟩ rfl ?_ ?_
  ·rintro i ⟨hi,g0,g1,g2⟩
   have hc:i=0∨i=1∨i=2∨i=3:=by omega
   rcases hc with rfl | rfl | rfl | rfl
   ·simp only [A0]
    rw [sel_pos (by decide),chk_of (by decide),sel_pos (by decide),chk_of hpre,← hT0]
    by_cases h:T0.err=0
    ·rw [sel_neg (by simp [h])]
     exact ⟨_,rfl,1,rfl,⟨by omega,fun _=>h,by omega,by omega⟩,by dsimp only;omega⟩
    ·rw [sel_pos (by simpa using h)]
     exact ⟨_,rfl,.inr ⟨_,_,_,_,_,by rw [hp,if_pos h],by rw [hp,if_pos h]⟩⟩
   ·simp only [A0]
    have e0:=g0 (by omega)
    rw [sel_pos (by decide),chk_of (by decide),sel_neg (by decide),sel_pos (by decide),chk_of hpre,← hT1]
    by_cases h:T1.err=0
    ·rw [sel_neg (by simp [h])]
     exact ⟨_,rfl,2,rfl,⟨by omega,fun _=>e0,fun _=>h,by omega⟩,by dsimp only;omega⟩
    ·rw [sel_pos (by simpa using h)]
     exact ⟨_,rfl,.inr ⟨_,_,_,_,_,by rw [hp,if_neg (by simp [e0]),if_pos h],by rw [hp,if_neg (by simp [e0]),if_pos h]⟩⟩
   ·simp only [A0]
    have e0:=g0 (by omega)
    have e1:=g1 (by omega)
    rw [sel_pos (by decide),chk_of (by decide),sel_neg (by decide),sel_neg (by decide),sel_pos (by decide),chk_of hpre,← hT2]
    by_cases h:T2.err=0
    ·rw [sel_neg (by simp [h])]
     exact ⟨_,rfl,3,rfl,⟨by omega,fun _=>e0,fun _=>e1,fun _=>h⟩,by dsimp only;omega⟩
    ·rw [sel_pos (by simpa using h)]
     exact ⟨_,rfl,.inr ⟨_,_,_,_,_,by rw [hp,if_neg (by simp [e0]),if_neg (by simp [e1]),if_pos h],by rw [hp,if_neg (by simp [e0]),if_neg (by simp [e1]),if_pos h]⟩⟩
   ·simp only [A0]
    rw [sel_neg (by decide)]
    exact ⟨_,rfl,.inl ⟨g0 (by omega),g1 (by omega),g2 (by omega),rfl⟩⟩
  ·rintro r (⟨e0,e1,e2,rfl⟩ | ⟨n,x,y,z,i,h,rfl⟩)
   ·simp only [A0]
    rw [sel_pos (Wn _),chk_of (by simp;omega),hp,if_neg (by simp [e0]),if_neg (by simp [e1]),if_neg (by simp [e2])]
    cases hv:Zn ⟨T0.val,T1.val,T2.val⟩
    ·rfl
    ·rfl
   ·simp only [A0]
    rw [h]
    rfl
 ·cases h
theorem w184:Walked Tryz.prog G 184 8 sp184:=by
 refine ⟨Tryz.f184,Tryz.func184,by decide +kernel,rfl,fun xs bl r h=> ?_⟩
 unfold sp184 at h
 split at h
 ·rename_i li x y z ad k lf iss sv ins
  obtain ⟨hpre,h2⟩:=chk_inv h;cases h2
  refine Eq.trans (b:=(Zx (chk (decide (Zy x≤9223372036854775807)&&decide (Zy y≤9223372036854775807)&&decide (Zy z≤9223372036854775807)) (some (Zw (Zn (Zm x y z)),[]))) fun (r:AV×Blocks)=>onNilB (Zh r) (Xk (Yv r) fun b=>sel (!b) (some (Zz .i64 103,[])) (Zx (chk (decide (Zy sv≤9223372036854775807)) (some (Zw (Wk sv),[]))) fun (r:AV×Blocks)=>onNilB (Zh r) (Xk (Yv r) fun b=>sel (!b) (some (Zz .i64 103,[])) (Zx (chk (decide (Zy ins≤9223372036854775807)) (some (Zw (Xm ins),[]))) fun (r:AV×Blocks)=>onNilB (Zh r) (Xk (Yv r) fun b=>sel (!b) (some (Zz .i64 103,[])) (Zx (chk (decide (0≤k)&&decide (k<18446744073709551616)) (some (Zz .i64 (Kerb.classOf k),[]))) fun (r:AV×Blocks)=>onNilB (Zh r) (Wz .i64 (Yv r) fun n=>sel (!n==2) (some (Zz .i64 10,[])) (sel (!Zd ad 4294967295) (some (Zz .i64 104,[])) (sel (!Zd lf 255) (some (Zz .i64 104,[])) (sel (!Zd iss 4294967295) (some (Zz .i64 104,[])) (some (Zz .i64 0,[])))))))))))):Option (AV×Blocks))) (by kernel_rfl) ?_
  simp only [Yz,decide_eq_true_eq] at hpre
  obtain ⟨⟨⟨⟨⟨⟨h1,h2⟩,h3⟩,h4⟩,h5⟩,h6⟩,h7⟩:=hpre
  simp only [h1,h2,h3,h4,h5,h6,h7,decide_true,Yf,↓A0,A0]
  unfold Qw
  dsimp only
  cases Zn ⟨x,y,z⟩
  ·rfl
  cases Wk sv
  ·rfl
  cases Xm ins
  ·rfl
  simp only [Yp,Yf,sel_false]
  by_cases hc:Kerb.classOf k=2
  case neg=>rw [sel_pos (by simpa using hc),if_neg (by simp),if_pos hc]
  rw [sel_neg (by simp [hc]),if_neg (by simp),if_neg (by simp [hc])]
  cases Zd ad 4294967295
  ·rfl
  cases Zd lf 255
  ·rfl
  cases Zd iss 4294967295
  ·rfl
  rfl
 ·cases h
theorem w186:Walked Tryz.prog G 186 8 sp186:=by
 refine ⟨Tryz.f186,Tryz.func186,by decide +kernel,rfl,fun xs bl r h=> ?_⟩
 unfold sp186 at h
 split at h
 ·rename_i x y z ck tc tm
  obtain ⟨hpre,h2⟩:=chk_inv h;cases h2
  refine Eq.trans (b:=(Zx (chk (decide (Zy x≤9223372036854775807)&&decide (Zy y≤9223372036854775807)&&decide (Zy z≤9223372036854775807)) (some (Zw (Zn (Zm x y z)),[]))) fun (r:AV×Blocks)=>onNilB (Zh r) (Xk (Yv r) fun b=>sel (!b) (some (Zz .i64 103,[])) (sel (!Zd ck 4294967295) (some (Zz .i64 104,[])) (sel (!Zd tc 199) (some (Zz .i64 104,[])) (sel (!Zd tm 4294967295) (some (Zz .i64 104,[])) (some (Zz .i64 0,[])))))):Option (AV×Blocks))) (by kernel_rfl) ?_
  simp only [A0,Wv,Wg,Vx,hpre]
  unfold Qq
  simp only
  cases Zn ⟨x,y,z⟩
  ·rfl
  cases Zd ck 4294967295
  ·rfl
  cases Zd tc 199
  ·rfl
  cases Zd tm 4294967295<;>rfl
 ·cases h
theorem w26:Walked Tryz.prog G 26 9 sp26:=by
 refine ⟨Tryz.f26,Tryz.func26,by decide +kernel,rfl,fun xs bl r h=> ?_⟩
 unfold sp26 at h
 split at h
 ·rename_i m1 m2 m3 kls sz fl mls sk
  obtain ⟨hpre,h2⟩:=chk_inv h;cases h2
  refine Eq.trans (b:=(Zx (chk (decide (Zy m1≤9223372036854775807)&&decide (Zy m2≤9223372036854775807)&&decide (Zy m3≤9223372036854775807)) (some (Zw (Zn (Zm m1 m2 m3)),[]))) fun (r:AV×Blocks)=>onNilB (Zh r) (Xk (Yv r) fun b=>sel (!b) (some (Zz .i64 103,[])) (Zx (chk (Up kls Qv&&decide (Zy kls≤1000000)) (some (Zz .i64 (Wp (Wu Ud kls)),[]))) fun (r:AV×Blocks)=>onNilB (Zh r) (Wz .i64 (Yv r) fun n=>sel (!n==0) (some (Zz .i64 n,[])) (Zx (chk (Up mls Kerb.isMark&&decide (Zy mls≤1000000)) (some (Zz .i64 (Wf (Kerb.RCache.mk sz fl (Wu Kerb.toMark mls))),[]))) fun (r:AV×Blocks)=>onNilB (Zh r) (Wz .i64 (Yv r) fun n=>sel (!n==0) (some (Zz .i64 n,[])) (sel (!Zd sk 4294967295) (some (Zz .i64 104,[])) (some (Zz .i64 0,[])))))))):Option (AV×Blocks))) (by kernel_rfl) ?_
  simp only [Yz,decide_eq_true_eq] at hpre
  obtain ⟨⟨⟨⟨⟨⟨l1,l2⟩,l3⟩,ka⟩,kl⟩,ma⟩,ml⟩:=hpre
  obtain ⟨ks,rfl,hks⟩:=Uy ka
  obtain ⟨ms,rfl,hms⟩:=Kerb.marks_of ma
  have hkT:=Vd hks
  have hmT:=Kerb.marks_all hms
  simp only [Yu] at kl ml
  simp only [Xb,Vy,Yu,hkT,hmT,kl,ml,l1,l2,l3,decide_true,Yf,↓A0,A0]
  unfold Kerb.Server.err
  dsimp only
  cases g1:Zn ⟨m1,m2,m3⟩
  ·rfl
  rw [Yp,sel_false,if_neg (by simp)]
  by_cases g2:Wp ks=0
  case neg=>rw [sel_pos (by simpa using g2),if_pos g2]
  rw [sel_neg (by simpa using g2),if_neg (by simpa using g2)]
  by_cases g3:Wf ⟨sz,fl,ms⟩=0
  case neg=>rw [sel_pos (by simpa using g3),if_pos g3]
  rw [sel_neg (by simpa using g3),if_neg (by simpa using g3)]
  cases Zd sk 4294967295<;>rfl
 ·cases h
theorem w33:Walked Tryz.prog G 33 9 sp33:=by
 refine ⟨Tryz.f33,Tryz.func33,by decide +kernel,rfl,fun xs bl r h=> ?_⟩
 unfold sp33 at h
 split at h
 ·rename_i x y z kls n skw
  obtain ⟨hpre,h2⟩:=chk_inv h;cases h2
  refine Eq.trans (b:=(let t0:AV:=Wj [Zv [],Zv [],Zv [],Yk 5 [],Zz .i64 0,Zz .i64 0,Yk 5 [],Zz .i64 0];Zx (chk (l63 x&&l63 y&&l63 z) (some (Zw (Zn (Zm x y z)),[]))) (kL fun b=>sel (!b) (some (Yy [t0,Zz .i64 103],[])) (Zx (chk (Up kls Qv&&decide (Zy kls≤1000000)) (some (Zz .i64 (Wp (Wu Ud kls)),[]))) (kI .i64 fun n_1=>sel (!n_1==0) (some (Yy [t0,Zz .i64 n_1],[])) (sel (!Kerb.Dec.err (Xw n)==0) (some (Yy [t0,Zz .i64 (Kerb.Dec.err (Xw n))],[])) (sel (!Zd skw 4294967295) (some (Yy [t0,Zz .i64 104],[])) (Zx (chk (decide (Zy kls≤1000000)) (some (Wm kls,[]))) fun (r:AV×Blocks)=>onNilB (Zh r) (AV.onOwnL (Yv r) fun l=>some (Yy [Wj [Zv x,Zv y,Zv z,Yk 5 l,Zz .i64 (Kerb.RCache.size (Uf (Xw n))),Zz .i64 (Kerb.RCache.floor (Uf (Xw n))),Yk 5 (Wu Xg (Kerb.RCache.marks (Uf (Xw n)))),Zz .i64 skw],Zz .i64 0],[])))))))):Option (AV×Blocks))) (by kernel_rfl) ?_
  delta kL kI
  try dsimp only [cStr,cBs,cBool,cU8,cInt,cSl,l63]
  simp only [Yz,decide_eq_true_eq] at hpre
  obtain ⟨⟨⟨⟨l1,l2⟩,l3⟩,ka⟩,kl⟩:=hpre
  obtain ⟨ks,rfl,hks⟩:=Uy ka
  have hkT:=Vd hks
  simp only [Yu] at kl
  simp only [Xb,Yu,hkT,kl,l1,l2,l3,decide_true,Yf,↓A0,A0]
  unfold Kerb.newServer
  cases g1:Zn ⟨x,y,z⟩
  ·rfl
  rw [Yp,sel_false,if_neg (by simp)]
  by_cases g2:Wp ks=0
  case neg=>rw [sel_pos (by simpa using g2),if_pos g2];rfl
  rw [sel_neg (by simpa using g2),if_neg (by simpa using g2)]
  by_cases g3:(Xw n).err=0
  case neg=>rw [sel_pos (by simpa using g3),if_pos g3];rfl
  rw [sel_neg (by simpa using g3),if_neg (by simpa using g3)]
  cases Zd skw 4294967295<;>rfl
 ·cases h
end Go.Proofs.YtiplnpablmohiaaGreat
