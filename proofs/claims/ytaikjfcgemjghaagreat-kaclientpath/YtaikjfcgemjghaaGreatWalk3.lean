/- What the functions of this seat compute. -/
import Derived.Test.YtaikjfcgemjghaaGreatTab
import Derived.Test.YtaikjfcgemjghaaGreatKerbPlain
import Derived.Test.YtaikjfcgemjghaaGreatAbsStep
import Derived.Test.YtaikjfcgemjghaaGreatKerbKaPlain
import Derived.Test.YtaikjfcgemjghaaGreatKerbKaRef
import Derived.Test.YtaikjfcgemjghaaGreatKerbCli4
import Derived.Test.YtaikjfcgemjghaaGreatKerbCli5
import Derived.Test.YtaikjfcgemjghaaGreatKerbKac2
import Derived.Test.YtaikjfcgemjghaaGreatKerbCli3
import Derived.Test.YtaikjfcgemjghaaGreatKerbCli4
import Derived.Test.YtaikjfcgemjghaaGreatKerbCli5
import Derived.Test.YtaikjfcgemjghaaGreatKerbSrvL
import Derived.Test.YtaikjfcgemjghaaGreatKerbPath
import Derived.Test.YtaikjfcgemjghaaGreatKerbPath
open Go.Abs.AV renaming int→Zz,str→Zx,bool→Zu,bs→Zk,tup→Zf,agg→Yw,onInt→Yp,sl→Xz,onAgg→Xh,ownB→Wz,onBool→Wh,onBs→Vy,ownL→Vw,undef→Qp,onTup→Qd
open List renaming length→Zy,map→Yn,getD→Xb,length_map→Vh,take_of_length_le→Uu,all→Uq,take→Ub,drop→Un
open Option renaming bind→Zw
open Kerb renaming keyBytes_len→Zv,putPrin_len→Zq,putN_len→Zj,get→Zh,within→Yx,bytes→Yk,user→Yd,putN→Xy,decodeTicket→Xx,putText→Xu,decodeKaSecret→Xq,text→Xj,keyRead→Xk,encodeKaSecret→Xf,u8i→Wy,readBox→Wx,keyValid→Wu,rdPrin→Wq,encodeKaRequest→Wj,encodeKaReply→Wb,toEntry→Wn,encodeTicket→Wm,dataCred→Vz,printable→Vx,toCred→Vv,credErr→Vu,map_toCred→Vk,lChange→Vn,kaReplySeal→Vm,serviceEnt→Uz,pGet→Ux,pBytes→Uw,isCred→Uv,validInst→Uj,storeCred→Uk,room_ok→Up,findCross→Ud,decBy_fin→Uf,getD_ent→Um,validRealm→Qv,validName→Qq,cacheLoop→Qj,headIs→Qf,credsErr→Qg
open Prod renaming snd→Zp,fst→Zg
open Go.IntKind renaming i64→Zd,wrap→Zn,u64→Vf,bits→Qw
open Kerb.Prin renaming mk→Zb,realm→Yb,name→Ym,inst→Yh,valid→Xv
open Bool renaming not_true→Zm,and_eq_true→Yu,and_self→Xw,not_false→Wk
open Kerb.Cred renaming av→Yz,service→Vq
open Int renaming toNat→Yy,toNat_natCast→Vg
open Kerb.Got renaming err→Yv,next→Xg,val→Xm
open Kerb.GotB renaming err→Yq,next→Xn,val→Ww
open Kerb.Dec renaming val→Yj,err→Qy
open UInt8 renaming toNat→Yf
open Nat renaming le_trans→Yg
open Kerb.Client renaming av→Xp,cache→Qu
open Kerb.Cache renaming av→Xd,mk→Wd,owner→Wg,creds→Vp,err→Qx
open Kerb.Enc renaming err→Wv,val→Wf
open Kerb.Entry renaming av→Wp
open Kerb.KaSecret renaming mk→Vj
open Kerb.Db renaming mk→Vd
open Kerb.GotBox renaming box→Vb
open Kerb.KaAnswer renaming mk→Uy
open Sum renaming inr→Ug
open Kerb.Ticket renaming mk→Uh
open Kerb.KaRequest renaming mk→Qz
open Kerb.KaReply renaming mk→Qk
open Kerb.RdP renaming p→Qb
namespace Go.Proofs.YtaikjfcgemjghaaGreat
open Go Go.Abs Go.Proofs
set_option linter.unusedVariables false
set_option linter.unusedSimpArgs false
set_option maxRecDepth 100000
theorem w171:Walked Tryz.prog G 171 4 sp171:=by
 refine ⟨Tryz.f171,Tryz.func171,by decide +kernel,rfl,fun xs bl r h=> ?_⟩
 unfold sp171 at h
 split at h
 ·rename_i o1 o2 o3 els
  obtain ⟨hpre,h2⟩:=chk_inv h;cases h2
  refine Eq.trans (b:=(Zw (chk (l63 o1&&l63 o2&&l63 o3) (some (Zu (Xv (Zb o1 o2 o3)),[]))) (kL fun b=>sel (!b) (some (Zz .i64 103,[])) (sel (decide ((↑(Zy els):Int)>20)) (some (Zz .i64 106,[])) (Zw (loopM (fun (st:List AV)=>cStr st fun b r=>cStr r fun b_1 r=>cStr r fun b_2 r=>cSl 8 r fun b_3 r=>cInt .i64 r fun n r=>cInt .i64 r fun n_1 r=>let t1:Option (List AV ⊕ Ex×List AV):=some (Ug (Ex.ret,[Zx b,Zx b_1,Zx b_2,Xz 8 b_3,Zz .i64 104,Zz .i64 n_1]));let t2:List AV:=Un (Yy (↑(0:Nat):Int)) (Ub (Yy n_1) b_3);let t0:List Kerb.Cred:=Yn Vv t2;onNil r (sel (decide (n_1<(↑(Zy b_3):Int))) (chk (decide (0≤n_1)&&decide (n_1<(↑(Zy b_3):Int))&&true) (Xh (Xb b_3 (Yy n_1) Qp) fun cs=>cStr cs fun b_4 r=>cStr r fun b_5 r=>cStr r fun b_6 r=>let t3:Kerb.Cred:=Zg (Kerb.getCred t0 (Zb b_4 b_5 b_6));cInt .u64 r fun n_2 r=>cInt .i64 r fun n_3 r=>cInt .i64 r fun n_4 r=>cInt .i64 r fun n_5 r=>cBs r fun b_7 r=>onNil r (Zw (chk (l63 b_4&&l63 b_5&&l63 b_6) (some (Zu (Xv (Zb b_4 b_5 b_6)),[]))) (kL fun b_8=>sel (!b_8) (some (Ug (Ex.ret,[Zx b,Zx b_1,Zx b_2,Xz 8 b_3,Zz .i64 103,Zz .i64 n_1]))) (Zw (chk (decide (0≤n_2)&&decide (n_2<18446744073709551616)) (some (Zu (Wu n_2),[]))) (kL fun b_9=>sel (!b_9) (some (Ug (Ex.ret,[Zx b,Zx b_1,Zx b_2,Xz 8 b_3,Zz .i64 10,Zz .i64 n_1]))) (sel (!Yx n_3 255) t1 (sel (!Yx n_4 255) t1 (sel (!Yx n_5 4294967295) t1 (sel (decide ((↑(Zy b_7):Int)>255)) (some (Ug (Ex.ret,[Zx b,Zx b_1,Zx b_2,Xz 8 b_3,Zz .i64 105,Zz .i64 n_1]))) (chk (decide ((↑(0:Nat):Int)≤n_1)&&decide (n_1≤(↑(Zy b_3):Int))) (Zw (chk (Uq t2 Uv&&decide (Zy t2≤1000000)) (some (Zf [Yw [Zx (Ym (Vq t3)),Zx (Yh (Vq t3)),Zx (Yb (Vq t3)),Zz .u64 (Kerb.Cred.session t3),Zz .i64 (Kerb.Cred.life t3),Zz .i64 (Kerb.Cred.kvno t3),Zz .i64 (Kerb.Cred.issued t3),Zk (Kerb.Cred.ticket t3)],Zu (Zp (Kerb.getCred t0 (Zb b_4 b_5 b_6)))],[]))) (kT fun vs=>onCons vs fun x r=>Xh x fun cs=>cStr cs fun b_10 r_1=>cStr r_1 fun b_11 r_2=>cStr r_2 fun b_12 r_3=>cInt .u64 r_3 fun n_6 r_4=>cInt .i64 r_4 fun n_7 r_5=>cInt .i64 r_5 fun n_8 r_6=>cInt .i64 r_6 fun n_9 r_7=>cBs r_7 fun b_13 r_8=>onNil r_8 (cBool r fun b_14 r=>onNil r (sel b_14 (some (Ug (Ex.ret,[Zx b,Zx b_1,Zx b_2,Xz 8 b_3,Zz .i64 107,Zz .i64 n_1]))) (some (Sum.inl [Zx b,Zx b_1,Zx b_2,Xz 8 b_3,Zz .i64 n,Zz .i64 (Zn .i64 (n_1+1))]))))))))))))))))) (some (Ug (Ex.exit 0,[Zx b,Zx b_1,Zx b_2,Xz 8 b_3,Zz .i64 n,Zz .i64 n_1]))))) [Zx o1,Zx o2,Zx o3,Xz 8 els,Zz .i64 0,Zz .i64 0]) fun (r:Ex×List AV)=>cStr (Zp r) fun b r_1=>cStr r_1 fun b r_2=>cStr r_2 fun b r_3=>cSl 8 r_3 fun b r_4=>cInt .i64 r_4 fun n r_5=>cInt .i64 r_5 fun n_1 r_6=>onNil r_6 (exK r.1 (some (Zz .i64 n,[])) fun (j:Nat)=>sel (Nat.beq j 0) (some (Zz .i64 0,[])) none)))):Option (AV×Blocks))) (by kernel_rfl) ?_
  delta kT kL
  try dsimp only [cStr,cBs,cBool,cU8,cInt,cSl,l63]
  have hpre':=hpre
  simp only [Yu,decide_eq_true_eq] at hpre
  obtain ⟨⟨⟨⟨q1,q2⟩,q3⟩,hall⟩,hlen⟩:=hpre
  simp only [A0,Xp,Xd,Yz]
  rw [chk_of (by simp;omega)]
  obtain ⟨cs,rfl,hok⟩:=Kerb.creds_of hall
  unfold Qx
  simp only [Vk]
  cases h0:Xv ⟨o1,o2,o3⟩
  ·rfl
  rw [Zm,sel_false,if_neg (by simp)]
  by_cases h20:20<cs.length
  ·rw [sel_pos (by simp;omega),if_pos h20]
  rw [sel_neg (by simp;omega),if_neg h20]
  refine loop_rounds (fun i:Nat=>[Zx o1,Zx o2,Zx o3,Xz 8 (cs.map Yz),Zz Zd 0,Zz Zd (i:Int)]) (fun i=>i≤cs.length∧Qg [] cs=Qg (cs.take i) (cs.drop i)) (fun i=>cs.length-i)
   (fun r=>∃ (i:Nat) (n:Int),r.2=[Zx o1,Zx o2,Zx o3,Xz 8 (cs.map Yz),Zz Zd n,Zz Zd (i:Int)]∧((r.1 = .ret∧n=Qg [] cs)∨(r.1 = .exit 0∧Qg [] cs=0))) 0 ⟨Nat.zero_le _,by simp⟩ (by simp) ?_ ?_
  ·rintro i ⟨hi,hp⟩
   simp only [A0,Xp,Xd,Yz]
   by_cases hlt:i<cs.length
   ·rw [sel_pos (by simp;omega),chk_of (by simp;omega),Vg,Kerb.getD_av hlt]
    obtain ⟨c,hcc⟩:∃ c,cs.getD i Kerb.noCred=c:=⟨_,rfl⟩
    have hst:=Kerb.credsErr_step hlt hcc hp
    have hcok:c.ok:=hok c (by rw [← hcc];simp [List.getD_eq_getElem?_getD,hlt])
    rw [hcc]
    obtain ⟨⟨s1,s2,s3⟩,k,lf,kv,iss,tk⟩:=c
    obtain ⟨u1,u2,u3,u4,u5,u6⟩:=hcok
    simp only at u1 u2 u3 u4 u5 u6
    simp only [Yz,A0,Xp,Xd,Yz]
    have k1:∀ code:Int,code≠0→Vu ⟨⟨s1,s2,s3⟩,k,lf,kv,iss,tk⟩=code→code=Qg [] cs:=fun code h0 he=>by
     rw [hst,he,if_pos h0]
    rw [chk_of (by simp;omega)]
    cases h1:Xv ⟨s1,s2,s3⟩
    ·exact ⟨_,rfl,i,_,rfl,.inl ⟨rfl,k1 103 (by decide) (by simp [Vu,h1])⟩⟩
    rw [Zm,sel_false,chk_of (by simp;omega)]
    cases h2:Wu k
    ·exact ⟨_,rfl,i,_,rfl,.inl ⟨rfl,k1 10 (by decide) (by simp [Vu,h1,h2])⟩⟩
    rw [Zm,sel_false]
    cases h3:Yx lf 255
    ·exact ⟨_,rfl,i,_,rfl,.inl ⟨rfl,k1 104 (by decide) (by simp [Vu,h1,h2,h3])⟩⟩
    rw [Zm,sel_false]
    cases h4:Yx kv 255
    ·exact ⟨_,rfl,i,_,rfl,.inl ⟨rfl,k1 104 (by decide) (by simp [Vu,h1,h2,h3,h4])⟩⟩
    rw [Zm,sel_false]
    cases h5:Yx iss 4294967295
    ·exact ⟨_,rfl,i,_,rfl,.inl ⟨rfl,k1 104 (by decide) (by simp [Vu,h1,h2,h3,h4,h5])⟩⟩
    rw [Zm,sel_false]
    by_cases h6:255<tk.length
    ·rw [sel_pos (by simp;omega)]
     exact ⟨_,rfl,i,_,rfl,.inl ⟨rfl,k1 105 (by decide) (by simp [Vu,h1,h2,h3,h4,h5,h6])⟩⟩
    have hz:Vu ⟨⟨s1,s2,s3⟩,k,lf,kv,iss,tk⟩=0:=by simp [Vu,h1,h2,h3,h4,h5];omega
    rw [hz,if_neg (by simp)] at hst
    rw [sel_neg (by simp;omega)]
    rw [chk_of (by simp;omega)]
    simp only [Vg,List.drop_zero,← List.map_take]
    rw [chk_of (by rw [Kerb.all_creds (fun c hc=>hok c (List.mem_of_mem_take hc))];simp;omega),Vk,Kerb.getCred_found]
    cases hd:(cs.take i).any (fun d=>d.service.eqb ⟨s1,s2,s3⟩)
    ·rw [hd,if_neg (by simp)] at hst
     rw [sel_false,wrap_i64 (by omega) (by omega)]
     exact ⟨_,rfl,i+1,rfl,⟨by omega,hst⟩,by dsimp only;omega⟩
    ·rw [hd,if_pos rfl] at hst
     rw [sel_true]
     exact ⟨_,rfl,i,_,rfl,.inl ⟨rfl,hst.symm⟩⟩
   ·rw [sel_neg (by simp;omega)]
    refine ⟨_,rfl,i,_,rfl,.inr ⟨rfl,?_⟩⟩
    rw [hp,List.drop_eq_nil_of_le (by omega)]
    rfl
  ·rintro ⟨e,l⟩ ⟨i,n,rfl,⟨rfl,h⟩ | ⟨rfl,h⟩⟩
   ·simp only [A0,Xp,Xd,Yz,h]
   ·simp only [A0,Xp,Xd,Yz,h]
    rw [sel_pos (Nat.beq_refl _)]
 ·cases h
theorem w178:Walked Tryz.prog G 178 4 sp178:=by
 refine ⟨Tryz.f178,Tryz.func178,by decide +kernel,rfl,fun xs bl r h=> ?_⟩
 unfold sp178 at h
 split at h
 ·rename_i lb t st en k
  obtain ⟨hpre,h2⟩:=chk_inv h;cases h2
  refine Eq.trans (b:=(sel (!Kerb.timed lb) (sel (!lb==[(67:UInt8),(80:UInt8),(87:UInt8),(108:UInt8)]) (some (Zz .i64 80,[])) (sel (!Yx t 4294967295) (some (Zz .i64 104,[])) (sel (Kerb.timed lb) (sel (!Yx st 4294967295) (some (Zz .i64 104,[])) (sel (!Yx en 4294967295) (some (Zz .i64 104,[])) (sel (!k==0) (some (Zz .i64 108,[])) (some (Zz .i64 0,[]))))) (Zw (chk (decide (0≤k)&&decide (k<18446744073709551616)) (some (Zu (Wu k),[]))) fun (r:AV×Blocks)=>onNilB (Zp r) (Wh (Zg r) fun b=>sel (!b) (some (Zz .i64 10,[])) (sel (!st==0) (some (Zz .i64 108,[])) (sel (!en==0) (some (Zz .i64 108,[])) (some (Zz .i64 0,[]))))))))) (sel (!Yx t 4294967295) (some (Zz .i64 104,[])) (sel (Kerb.timed lb) (sel (!Yx st 4294967295) (some (Zz .i64 104,[])) (sel (!Yx en 4294967295) (some (Zz .i64 104,[])) (sel (!k==0) (some (Zz .i64 108,[])) (some (Zz .i64 0,[]))))) (Zw (chk (decide (0≤k)&&decide (k<18446744073709551616)) (some (Zu (Wu k),[]))) fun (r:AV×Blocks)=>onNilB (Zp r) (Wh (Zg r) fun b=>sel (!b) (some (Zz .i64 10,[])) (sel (!st==0) (some (Zz .i64 108,[])) (sel (!en==0) (some (Zz .i64 108,[])) (some (Zz .i64 0,[])))))))):Option (AV×Blocks))) (by kernel_rfl) ?_
  have eGet:([103,84,71,83]:List UInt8)=Kerb.lGet:=rfl
  have eTick:([103,84,75,84]:List UInt8)=Kerb.lTicket:=rfl
  have eChg:([67,80,87,108]:List UInt8)=Vn:=rfl
  have eDone:([67,80,87,100]:List UInt8)=Kerb.lDone:=rfl
  have eGot:([116,103,115,84]:List UInt8)=Kerb.lGot:=rfl
  have eGiven:([116,107,116,71]:List UInt8)=Kerb.lGiven:=rfl
  simp only [A0,eChg,hpre]
  unfold Xf
  simp only
  cases ht:Kerb.timed lb
  ·rw [Wk,sel_true]
   cases hc:(lb==Vn)
   ·rfl
   rw [Zm,sel_false,if_neg (by simp)]
   cases h1:Yx t 4294967295
   ·rfl
   rw [Zm,sel_false,if_neg (by simp),sel_false,if_neg (by simp)]
   cases h2:Wu k
   ·rfl
   rw [Zm,sel_false,if_neg (by simp)]
   by_cases h3:st=0
   case neg=>rw [sel_pos (by simpa using h3),if_pos (.inl h3)]
   rw [sel_neg (by simp [h3])]
   by_cases h4:en=0
   case neg=>rw [sel_pos (by simpa using h4),if_pos (.inr h4)]
   rw [sel_neg (by simp [h4]),if_neg (by simp [h3,h4])]
  ·rw [Zm,sel_false,if_neg (by simp)]
   cases h1:Yx t 4294967295
   ·rfl
   rw [Zm,sel_false,if_neg (by simp),sel_true,if_pos rfl]
   cases h2:Yx st 4294967295
   ·rfl
   rw [Zm,sel_false]
   cases h3:Yx en 4294967295
   ·rfl
   rw [Zm,sel_false,if_neg (by simp)]
   by_cases h4:k=0
   ·rw [sel_neg (by simp [h4]),if_neg (by simp [h4])]
   ·rw [sel_pos (by simpa using h4),if_pos h4]
 ·cases h
theorem w179:Walked Tryz.prog G 179 4 sp179:=by
 refine ⟨Tryz.f179,Tryz.func179,by decide +kernel,rfl,fun xs bl r h=> ?_⟩
 unfold sp179 at h
 split at h
 ·rename_i b n little
  obtain ⟨hpre,h2⟩:=chk_inv h;cases h2
  refine Eq.trans (b:=(Zw (chk (decide (Zy b≤70368744177664)) (some (Wz (b++Xy n (Yy 4) little),[]))) fun (r:AV×Blocks)=>onNilB (Zp r) (AV.onOwnB (Zg r) fun l=>some (Wz l,[])):Option (AV×Blocks))) (by kernel_rfl) ?_
  simp only [decide_eq_true_eq] at hpre
  simp only [A0]
  rw [chk_of (by simp;omega)]
  rfl
 ·cases h
theorem w186:Walked Tryz.prog G 186 4 sp186:=by
 refine ⟨Tryz.f186,Tryz.func186,by decide +kernel,rfl,fun xs bl r h=> ?_⟩
 unfold sp186 at h
 split at h
 ·rename_i b n
  obtain ⟨hpre,h2⟩:=chk_inv h;cases h2
  refine Eq.trans (b:=(Zw (chk (decide (Zy b≤70368744177664)) (some (Wz (b++Xy n (Yy 1) false),[]))) fun (r:AV×Blocks)=>onNilB (Zp r) (AV.onOwnB (Zg r) fun l=>some (Wz l,[])):Option (AV×Blocks))) (by kernel_rfl) ?_
  simp only [decide_eq_true_eq] at hpre
  simp only [A0]
  rw [chk_of (by simp;omega)]
  rfl
 ·cases h
theorem w189:Walked Tryz.prog G 189 4 sp189:=by
 refine ⟨Tryz.f189,Tryz.func189,by decide +kernel,rfl,fun xs bl r h=> ?_⟩
 unfold sp189 at h
 split at h
 ·rename_i b x y z
  obtain ⟨hpre,h2⟩:=chk_inv h;cases h2
  refine Eq.trans (b:=(Zw (chk (decide (Zy b+Zy x≤70368744177664)) (some (Zk (Xu b x),[]))) fun (r:AV×Blocks)=>onNilB (Zp r) (Vy (Zg r) fun b=>Zw (chk (decide (Zy b+Zy y≤70368744177664)) (some (Zk (Xu b y),[]))) fun (r:AV×Blocks)=>onNilB (Zp r) (Vy (Zg r) fun b=>Zw (chk (decide (Zy b+Zy z≤70368744177664)) (some (Zk (Xu b z),[]))) fun (r:AV×Blocks)=>onNilB (Zp r) (Vy (Zg r) fun b=>some (Zk b,[])))):Option (AV×Blocks))) (by kernel_rfl) ?_
  simp only [decide_eq_true_eq] at hpre
  simp only [A0]
  rw [chk_of (by simp;omega),chk_of (by simp [Xu];omega),chk_of (by simp [Xu];omega)]
  rfl
 ·cases h
theorem w194:Walked Tryz.prog G 194 4 sp194:=by
 refine ⟨Tryz.f194,Tryz.func194,by decide +kernel,rfl,fun xs bl r h=> ?_⟩
 unfold sp194 at h
 split at h
 ·rename_i k x y z lf kv tk t little
  obtain ⟨hpre,h2⟩:=chk_inv h;cases h2
  refine Eq.trans (b:=(let t0:List UInt8:=[]++Xy (bif little then 1 else 0) 1 false;let t1:Option (AV×Blocks):=some (Zf [Zk [],Zz .i64 104],[]);Zw (chk (decide (0≤k)&&decide (k<18446744073709551616)) (some (Zu (Wu k),[]))) (kL fun b=>sel (!b) (some (Zf [Zk [],Zz .i64 10],[])) (Zw (chk (l63 x&&l63 y&&l63 z) (some (Zu (Xv (Zb x y z)),[]))) (kL fun b=>sel (!b) (some (Zf [Zk [],Zz .i64 103],[])) (sel (!Yx lf 255) t1 (sel (!Yx kv 255) t1 (sel (!Yx t 4294967295) t1 (sel (decide ((↑(Zy tk):Int)>255)) (some (Zf [Zk [],Zz .i64 105],[])) (Zw (chk (decide (0≤k)&&decide (k<18446744073709551616)) (some (Zk (Kerb.keyBytes k),[]))) (kB fun b=>let t2:Nat:=Zy (t0++b)+Zy x+Zy y+Zy z;chk (room (Zy t0+Zy b) 1) (Zw (chk (decide (t2≤70368744170000)) (some (Zk (Kerb.putPrin (t0++b) (Zb x y z)),[]))) (kB fun b=>Zw (chk (decide (Zy b≤70368744177664)) (some (Wz (b++Xy lf 1 false),[]))) (kO fun l=>Zw (chk (decide (Zy l≤70368744177664)) (some (Wz (l++Xy kv 1 false),[]))) (kO fun l=>Zw (chk (decide (Zy l≤70368744177664)) (some (Wz (l++Xy (↑(Zy tk):Int) 1 false),[]))) (kO fun l=>chk (room (Zy l+Zy tk) 1) (Zw (chk (decide (Zy (l++tk)≤70368744177664)) (some (Wz (l++tk++Xy t 4 little),[]))) (kO fun l=>Zw (chk (decide (Zy l≤70368744177664)) (some (Wz (Kerb.pad l),[]))) (kO fun l=>some (Zf [Zk l,Zz .i64 0],[])))))))))))))))))):Option (AV×Blocks))) (by kernel_rfl) ?_
  delta kB kO kL
  try dsimp only [cStr,cBs,cBool,cU8,cInt,cSl,l63]
  simp only [Yu,decide_eq_true_eq] at hpre
  obtain ⟨⟨⟨⟨q1,q2⟩,q3⟩,h0⟩,h1⟩:=hpre
  simp only [A0]
  unfold Kerb.encodePart
  rw [chk_of (by simp [h0,h1])]
  cases hk:Wu k
  ·rfl
  rw [Zm,sel_false,chk_of (by simp [q1,q2,q3])]
  cases h1:Xv ⟨x,y,z⟩
  ·rfl
  rw [Zm,sel_false]
  cases h4:Yx lf 255
  ·rfl
  rw [Zm,sel_false]
  cases h5:Yx kv 255
  ·rfl
  rw [Zm,sel_false]
  cases h6:Yx t 4294967295
  ·rfl
  rw [Zm,sel_false]
  by_cases h7:255<tk.length
  ·rw [sel_pos (by simp;omega),if_neg (by simp),if_neg (by simp),if_neg (by simp),if_pos h7]
  have l1:=Kerb.valid_len h1
  simp only at l1
  rw [sel_neg (by simp;omega),if_neg (by simp),if_neg (by simp),if_neg (by simp),if_neg h7]
  rw [chk_of (by simp;omega),chk_of (Up (by first | (simp [Zq,Zj,Zv];done) | (simp [Zq,Zj,Zv];omega))),chk_of (by first | (simp [Zq,Zj,Zv];done) | (simp [Zq,Zj,Zv];omega)),chk_of (by first | (simp [Zq,Zj,Zv];done) | (simp [Zq,Zj,Zv];omega)),chk_of (by first | (simp [Zq,Zj,Zv];done) | (simp [Zq,Zj,Zv];omega)),chk_of (by first | (simp [Zq,Zj,Zv];done) | (simp [Zq,Zj,Zv];omega)),chk_of (Up (by first | (simp [Zq,Zj,Zv];done) | (simp [Zq,Zj,Zv];omega))),chk_of (by first | (simp [Zq,Zj,Zv];done) | (simp [Zq,Zj,Zv];omega)),chk_of (by first | (simp [Zq,Zj,Zv];done) | (simp [Zq,Zj,Zv];omega))]
  simp
 ·cases h
theorem w205:Walked Tryz.prog G 205 4 sp205:=by
 refine ⟨Tryz.f205,Tryz.func205,by decide +kernel,rfl,fun xs bl r h=> ?_⟩
 unfold sp205 at h
 split at h
 ·rename_i B at_ bad
  obtain ⟨hpre,h2⟩:=chk_inv h;cases h2
  show runFnH (G.env 205 4) G.rts (G.own 205) Tryz.f205 _ _ [0]=_
  refine Eq.trans (b:=(Zw (chk (decide (Zy B≤4611686018427387904)) (some (Zf [Zz .i64 (Xm (Zh B at_ 4 false)),Zz .i64 (Xg (Zh B at_ 4 false)),Zz .i64 (Yv (Zh B at_ 4 false))],[]))) fun (r:AV×Blocks)=>onNilB (Zp r) (Qd (Zg r) fun vs=>onCons vs fun x r=>Yp .i64 x fun n=>onCons r fun x r=>Yp .i64 x fun n_1=>onCons r fun x r=>Yp .i64 x fun n_2=>onNil r (sel (!!(bad || !n_2==0)) (some (Zz .i64 0,[[Zk B,Zz .i64 (bif bad || !n_2==0 then at_ else n_1),Zu (bad || !n_2==0)]])) (some (Zz .i64 n,[[Zk B,Zz .i64 (bif bad || !n_2==0 then at_ else n_1),Zu (bad || !n_2==0)]])))):Option (AV×Blocks))) (by kernel_rfl) ?_
  have hb:=of_decide_eq_true hpre
  simp only [A0]
  rw [chk_of (by simp;omega)]
  unfold Ux
  cases bad
  ·simp only [Bool.false_or]
   generalize hq:(!(_==(0:Int)))=q
   cases q<;>rfl
  ·rfl
 ·cases h
theorem w210:Walked Tryz.prog G 210 4 sp210:=by
 refine ⟨Tryz.f210,Tryz.func210,by decide +kernel,rfl,fun xs bl r h=> ?_⟩
 unfold sp210 at h
 split at h
 ·rename_i s bad
  obtain ⟨hpre,h2⟩:=chk_inv h;cases h2
  refine Eq.trans (b:=(Zw (loopM (fun (st:List AV)=>cStr st fun b r=>cStr r fun b_1 r=>cBool r fun b_2 r=>cInt .i64 r fun n r=>cInt .i64 r fun n_1 r=>let t0:Option (List AV ⊕ Ex×List AV):=some (Ug (Ex.ret,[Zx b,Zx b_1,Zu false,Zz .i64 n,Zz .i64 n_1]));let t1:Bool:=decide (0≤n_1)&&decide (n_1<(↑(Zy b):Int));let t2:Int:=(↑(Yf (Xb b (Yy n_1) (0:UInt8))):Int);onNil r (sel (decide (n_1<n)) (chk t1 (sel (decide (t2<(↑(Yf (33:UInt8)):Int))) t0 (chk t1 (sel (decide (t2>(↑(Yf (126:UInt8)):Int))) t0 (chk t1 (sel (decide (Kerb.indexOf (Xb b (Yy n_1) (0:UInt8)) b_1≥0)) t0 (some (Sum.inl [Zx b,Zx b_1,Zu b_2,Zz .i64 n,Zz .i64 (Zn .i64 (n_1+1))])))))))) (some (Ug (Ex.exit 0,[Zx b,Zx b_1,Zu b_2,Zz .i64 n,Zz .i64 n_1]))))) [Zx s,Zx bad,Zu false,Zz .i64 (↑(Zy s):Int),Zz .i64 0]) fun (r:Ex×List AV)=>cStr (Zp r) fun b r_1=>cStr r_1 fun b r_2=>cBool r_2 fun b r_3=>cInt .i64 r_3 fun n r_4=>cInt .i64 r_4 fun n r_5=>onNil r_5 (exK r.1 (some (Zu b,[])) fun (j:Nat)=>sel (Nat.beq j 0) (some (Zu true,[])) none):Option (AV×Blocks))) (by kernel_rfl) ?_
  try dsimp only [cStr,cBs,cBool,cU8,cInt,cSl,l63]
  simp only [decide_eq_true_eq] at hpre
  refine loop_rounds (fun i:Nat=>[Zx s,Zx bad,Zu false,Zz Zd (s.length:Int),Zz Zd (i:Int)]) (fun i=>i≤s.length∧Vx s bad=Vx (s.drop i) bad) (fun i=>s.length-i)
   (fun r=>∃ i:Nat,r.2=[Zx s,Zx bad,Zu false,Zz Zd (s.length:Int),Zz Zd (i:Int)]∧((r.1 = .ret∧Vx s bad=false)∨(r.1 = .exit 0∧Vx s bad=true))) 0 ⟨Nat.zero_le _,rfl⟩ rfl ?_ ?_
  ·rintro i ⟨hi,hp⟩
   simp only [A0]
   by_cases hlt:i<s.length
   ·have hc:(decide ((0:Int)≤(i:Int))&&decide ((i:Int)<(s.length:Int)))=true:=by simp;omega
    have hd:=Kerb.drop_all_cons hlt
    rw [sel_pos (by simp;omega),chk_of hc,Vg]
    have hpr:Vx (s.drop i) bad=(Kerb.okB bad (s.getD i 0)&&Vx (s.drop (i+1)) bad):=by rw [hd];rfl
    generalize s.getD i 0=c at *
    by_cases h1:c.toNat<33
    ·rw [sel_pos (by simp;omega)]
     exact ⟨_,rfl,i,rfl,.inl ⟨rfl,by rw [hp,hpr];simp [Kerb.okB,h1]⟩⟩
    rw [sel_neg (by simp;omega),chk_of hc]
    by_cases h2:126<c.toNat
    ·rw [sel_pos (by simp;omega)]
     exact ⟨_,rfl,i,rfl,.inl ⟨rfl,by rw [hp,hpr];simp [Kerb.okB,h2]⟩⟩
    rw [sel_neg (by simp;omega),chk_of hc]
    have h4:=Kerb.indexOf_nonneg c bad
    by_cases h3:c∈bad
    ·rw [sel_pos (by simpa using h4.2 h3)]
     exact ⟨_,rfl,i,rfl,.inl ⟨rfl,by rw [hp,hpr];simp [Kerb.okB,h3]⟩⟩
    rw [sel_neg (by have:=mt h4.1 h3;simp;omega),wrap_i64 (by omega) (by omega)]
    exact ⟨_,rfl,i+1,rfl,⟨by omega,by rw [hp,hpr];simp [Kerb.okB,h1,h2,h3]⟩,by dsimp only;omega⟩
   ·rw [sel_neg (by simp;omega)]
    exact ⟨_,rfl,i,rfl,.inr ⟨rfl,by rw [hp,List.drop_eq_nil_of_le (by omega)];rfl⟩⟩
  ·rintro ⟨e,l⟩ ⟨i,rfl,⟨rfl,hp⟩ | ⟨rfl,hp⟩⟩
   ·simp only [A0,hp]
   ·simp only [A0,hp]
    rfl
 ·cases h
theorem w213:Walked Tryz.prog G 213 4 sp213:=by
 refine ⟨Tryz.f213,Tryz.func213,by decide +kernel,rfl,fun xs bl r h=> ?_⟩
 unfold sp213 at h
 split at h
 ·rename_i li x y z ad k lf iss sv ins
  obtain ⟨hpre,h2⟩:=chk_inv h;cases h2
  refine Eq.trans (b:=(Zw (chk (decide (Zy x≤9223372036854775807)&&decide (Zy y≤9223372036854775807)&&decide (Zy z≤9223372036854775807)) (some (Zu (Xv (Zb x y z)),[]))) fun (r:AV×Blocks)=>onNilB (Zp r) (Wh (Zg r) fun b=>sel (!b) (some (Zz .i64 103,[])) (Zw (chk (decide (Zy sv≤9223372036854775807)) (some (Zu (Qq sv),[]))) fun (r:AV×Blocks)=>onNilB (Zp r) (Wh (Zg r) fun b=>sel (!b) (some (Zz .i64 103,[])) (Zw (chk (decide (Zy ins≤9223372036854775807)) (some (Zu (Uj ins),[]))) fun (r:AV×Blocks)=>onNilB (Zp r) (Wh (Zg r) fun b=>sel (!b) (some (Zz .i64 103,[])) (Zw (chk (decide (0≤k)&&decide (k<18446744073709551616)) (some (Zz .i64 (Kerb.classOf k),[]))) fun (r:AV×Blocks)=>onNilB (Zp r) (Yp .i64 (Zg r) fun n=>sel (!n==2) (some (Zz .i64 10,[])) (sel (!Yx ad 4294967295) (some (Zz .i64 104,[])) (sel (!Yx lf 255) (some (Zz .i64 104,[])) (sel (!Yx iss 4294967295) (some (Zz .i64 104,[])) (some (Zz .i64 0,[])))))))))))):Option (AV×Blocks))) (by kernel_rfl) ?_
  simp only [Yu,decide_eq_true_eq] at hpre
  obtain ⟨⟨⟨⟨⟨⟨h1,h2⟩,h3⟩,h4⟩,h5⟩,h6⟩,h7⟩:=hpre
  simp only [h1,h2,h3,h4,h5,h6,h7,decide_true,Xw,↓A0,A0]
  unfold Kerb.Ticket.err
  dsimp only
  cases Xv ⟨x,y,z⟩
  ·rfl
  cases Qq sv
  ·rfl
  cases Uj ins
  ·rfl
  simp only [Zm,Xw,sel_false]
  by_cases hc:Kerb.classOf k=2
  case neg=>rw [sel_pos (by simpa using hc),if_neg (by simp),if_pos hc]
  rw [sel_neg (by simp [hc]),if_neg (by simp),if_neg (by simp [hc])]
  cases Yx ad 4294967295
  ·rfl
  cases Yx lf 255
  ·rfl
  cases Yx iss 4294967295
  ·rfl
  rfl
 ·cases h
theorem w238:Walked Tryz.prog G 238 4 sp238:=by
 refine ⟨Tryz.f238,Tryz.func238,by decide +kernel,rfl,fun xs bl r h=> ?_⟩
 unfold sp238 at h
 split at h
 ·rename_i b n little
  obtain ⟨hpre,h2⟩:=chk_inv h;cases h2
  refine Eq.trans (b:=(Zw (chk (decide (Zy b≤70368744177664)) (some (Wz (b++Xy n (Yy 2) little),[]))) fun (r:AV×Blocks)=>onNilB (Zp r) (AV.onOwnB (Zg r) fun l=>some (Wz l,[])):Option (AV×Blocks))) (by kernel_rfl) ?_
  simp only [decide_eq_true_eq] at hpre
  simp only [A0]
  rw [chk_of (by simp;omega)]
  rfl
 ·cases h
theorem w243:Walked Tryz.prog G 243 4 sp243:=by
 refine ⟨Tryz.f243,Tryz.func243,by decide +kernel,rfl,fun xs bl r h=> ?_⟩
 unfold sp243 at h
 split at h
 ·rename_i b
  obtain ⟨hpre,h2⟩:=chk_inv h;cases h2
  refine Eq.trans (b:=(sel (!(↑(Zy b):Int)==8) (some (Zf [Zz .u64 0,Zu false],[])) (Zw (loopM (fun (st:List AV)=>cInt .u64 st fun n r=>cBs r fun b r=>cInt .i64 r fun n_1 r=>cInt .i64 r fun n_2 r=>onNil r (sel (decide (n_2<n_1)) (chk (decide (0≤n_2)&&decide (n_2<(↑(Zy b):Int))) (some (Sum.inl [Zz .u64 (Zn .u64 (↑(BitVec.toNat (BitVec.ofInt (Qw .u64) (Zn .u64 (n*2 ^ min (Yy 8) (Qw .u64))) ||| BitVec.ofInt (Qw .u64) (Zn .u64 (↑(Yf (Xb b (Yy n_2) (0:UInt8))):Int)))):Int)),Zk b,Zz .i64 n_1,Zz .i64 (Zn .i64 (n_2+1))]))) (some (Ug (Ex.exit 0,[Zz .u64 n,Zk b,Zz .i64 n_1,Zz .i64 n_2]))))) [Zz .u64 0,Zk b,Zz .i64 (↑(Zy b):Int),Zz .i64 0]) fun (r:Ex×List AV)=>cInt .u64 (Zp r) fun n r_1=>cBs r_1 fun b r_2=>cInt .i64 r_2 fun n_1 r_3=>cInt .i64 r_3 fun n_2 r_4=>onNil r_4 (exK r.1 none fun (j:Nat)=>sel (Nat.beq j 0) (Zw (chk (decide (0≤n)&&decide (n<18446744073709551616)) (some (Zu (Wu n),[]))) (kL fun b=>sel (!b) (some (Zf [Zz .u64 0,Zu false],[])) (some (Zf [Zz .u64 n,Zu true],[])))) none)):Option (AV×Blocks))) (by kernel_rfl) ?_
  delta kL
  try dsimp only [cStr,cBs,cBool,cU8,cInt,cSl,l63]
  have hb:=of_decide_eq_true hpre
  unfold Xk
  by_cases h8:b.length=8
  case neg =>
   rw [sel_pos (by simp;omega),if_neg (by omega)]
  rw [sel_neg (by simp [h8])]
  refine loop_rounds (fun i:Nat=>[Zz Vf (Kerb.valB (b.take i)),Zk b,Zz Zd (b.length:Int),Zz Zd (i:Int)]) (fun i=>i≤8) (fun i=>8-i)
   (fun r=>r=(Ex.exit 0,[Zz Vf (Kerb.valB b),Zk b,Zz Zd (b.length:Int),Zz Zd 8])) 0 (by omega) rfl ?_ ?_
  ·intro i hi
   simp only [A0]
   by_cases hlt:i<8
   ·have hv:=Kerb.valB_take (l:=b) (i:=i) (by omega)
    have hbd:=Kerb.valB_bd7 (l:=b.take i) (by simp;omega)
    rw [sel_pos (by simp;omega),chk_of (by simp;omega),Vg,Kerb.shl8_oru _ hbd.1 hbd.2,wrap_i64 (by omega) (by omega),← hv]
    exact ⟨_,rfl,i+1,rfl,by omega,by dsimp only;omega⟩
   ·rw [sel_neg (by simp;omega)]
    refine ⟨_,rfl,?_⟩
    show _=_
    rw [Uu (by omega),show i=8 from by omega]
    rfl
  rintro r rfl
  have hbd:=Kerb.valB_bd8 (l:=b) (by omega)
  simp only [A0]
  rw [sel_pos (Nat.beq_refl _),chk_of (by simp;omega)]
  cases hv:Wu (Kerb.valB b)
  ·rw [if_neg (by simp)]
   rfl
  ·rw [if_pos ⟨h8,rfl⟩]
   rfl
 ·cases h
theorem w12:Walked Tryz.prog G 12 5 sp12:=by
 refine ⟨Tryz.f12,Tryz.func12,by decide +kernel,rfl,fun xs bl r h=> ?_⟩
 unfold sp12 at h
 split at h
 ·rename_i x y z ad sk li
  obtain ⟨hpre,h2⟩:=chk_inv h;cases h2
  refine Eq.trans (b:=(let t2:List AV:=[Zz .i64 0,Zx [],Zx [],Zx [],Zz .u64 0,Zz .i64 0,Zz .i64 0,Zz .i64 0,Zz .i64 0];let t3:Kerb.Prin:=Wg (bif Xv (Zb x y z) then Wd (Zb x y z) [] else Kerb.noCache);let t1:AV:=Yw (Zx []::Zx []::Zx []::Zz .i64 0::Zz .i64 0::Zu false::Zx []::Zx []::Zx []::Xz 8 []::t2);let t0:Option (AV×Blocks):=some (Zf [t1,Zz .i64 104],[]);Zw (chk (l63 x&&l63 y&&l63 z) (some (Zf [Yw [Zx (Ym t3),Zx (Yh t3),Zx (Yb t3),Xz 8 (Yn Yz (Vp (bif Xv (Zb x y z) then Wd (Zb x y z) [] else Kerb.noCache)))],Zz .i64 (bif Xv (Zb x y z) then 0 else 103)],[]))) (kT fun vs=>onCons vs fun x_1 r=>Xh x_1 fun cs=>onCons cs fun x_2 r_1=>AV.onStr x_2 fun b=>onCons r_1 fun x_3 r_2=>AV.onStr x_3 fun b_1=>onCons r_2 fun x_4 r_3=>AV.onStr x_4 fun b_2=>onCons r_3 fun x_5 r_4=>AV.onSl 8 x_5 fun b_3=>onNil r_4 (onCons r fun x_6 r=>Yp .i64 x_6 fun n=>onNil r (sel (!n==0) (some (Zf [t1,Zz .i64 n],[])) (sel (!Yx ad 4294967295) t0 (sel (!Yx sk 4294967295) t0 (some (Zf [Yw (Zx x::Zx y::Zx z::Zz .i64 ad::Zz .i64 sk::Zu li::Zx b::Zx b_1::Zx b_2::Xz 8 b_3::t2),Zz .i64 0],[]))))))):Option (AV×Blocks))) (by kernel_rfl) ?_
  delta kT
  try dsimp only [cStr,cBs,cBool,cU8,cInt,cSl,l63]
  simp only [A0,Xp,Xd,Yz,hpre]
  unfold Kerb.newClient
  cases h:Xv ⟨x,y,z⟩
  ·rfl
  cases Yx ad 4294967295
  ·rfl
  cases Yx sk 4294967295<;>rfl
 ·cases h
theorem w28:Walked Tryz.prog G 28 5 sp28:=by
 refine ⟨Tryz.f28,Tryz.func28,by decide +kernel,rfl,fun xs bl r h=> ?_⟩
 unfold sp28 at h
 split at h
 ·rename_i b
  obtain ⟨hpre,h2⟩:=chk_inv h;cases h2
  refine Eq.trans (b:=(let t1:AV:=Yw [Zz .i64 0,Zx [],Zx [],Zx [],Zz .i64 0,Zx [],Zk [],Zx [],Zx [],Zk []];let t0:Option (AV×Blocks):=some (Zf [t1,Zz .i64 100],[]);sel (!Zp (Qf b [9])==0) (some (Zf [t1,Zz .i64 (Zp (Qf b [9]))],[])) (Zw (chk (decide (Zy b≤140737488355328)) (some (Zz .i64 (Xm (Zh b 2 1 false)),[[Zk b,Zz .i64 (bif false || !Yv (Zh b 2 1 false)==0 then 2 else Xg (Zh b 2 1 false)),Zu false,Zu !Yv (Zh b 2 1 false)==0]]))) fun (r:AV×Blocks)=>onConsB (Zp r) fun (x:List AV) (r_1:List (List AV))=>cBs x fun b_1 r_2=>cInt .i64 r_2 fun n r_3=>cBool r_3 fun b_2 r_4=>cBool r_4 fun b_3 r_5=>onNil r_5 (onNilB r_1 (Yp .i64 (Zg r) fun n_1=>sel (n_1==1||n_1==3) (Zw (chk (decide (Zy b_1≤140737488355328)) (some (Yw [Zx (Ym (Qb (Wq b_1 n b_3))),Zx (Yh (Qb (Wq b_1 n b_3))),Zx (Yb (Qb (Wq b_1 n b_3)))],[[Zk b_1,Zz .i64 (Kerb.RdP.pos (Wq b_1 n b_3)),Zu b_2,Zu (Kerb.RdP.bad (Wq b_1 n b_3))]]))) fun (r:AV×Blocks)=>onConsB (Zp r) fun (x:List AV) (r_6:List (List AV))=>cBs x fun b_4 r_7=>cInt .i64 r_7 fun n r_8=>cBool r_8 fun b_5 r_9=>cBool r_9 fun b_6 r_10=>onNil r_10 (onNilB r_6 (Xh (Zg r) fun cs=>cStr cs fun b_7 r=>cStr r fun b_8 r=>cStr r fun b_9 r=>onNil r (Zw (chk (decide (Zy b_4≤140737488355328)) (some (Zz .i64 (Xm (Zh b_4 n 2 b_5)),[[Zk b_4,Zz .i64 (bif b_6 || !Yv (Zh b_4 n 2 b_5)==0 then n else Xg (Zh b_4 n 2 b_5)),Zu b_5,Zu (b_6 || !Yv (Zh b_4 n 2 b_5)==0)]]))) fun (r:AV×Blocks)=>onConsB (Zp r) fun (x:List AV) (r_11:List (List AV))=>cBs x fun b_10 r_12=>cInt .i64 r_12 fun n r_13=>cBool r_13 fun b_11 r_14=>cBool r_14 fun b_12 r_15=>onNil r_15 (onNilB r_11 (Yp .i64 (Zg r) fun n_2=>Zw (chk (decide (Zy b_10≤140737488355328)) (some (Zk (Ww (Yk b_10 n n_2)),[[Zk b_10,Zz .i64 (bif b_12 || !Yq (Yk b_10 n n_2)==0 then n else Xn (Yk b_10 n n_2)),Zu b_11,Zu (b_12 || !Yq (Yk b_10 n n_2)==0)]]))) fun (r:AV×Blocks)=>onConsB (Zp r) fun (x:List AV) (r_16:List (List AV))=>cBs x fun b_13 r_17=>cInt .i64 r_17 fun n r_18=>cBool r_18 fun b_14 r_19=>cBool r_19 fun b_15 r_20=>onNil r_20 (onNilB r_16 (Vy (Zg r) fun b_16=>Zw (chk (l63 b_7&&l63 b_8&&l63 b_9&&true&&true&&true) (some (Zf [Zk (Wf (Wj (Qz n_1 (Zb b_7 b_8 b_9) 0 [] [] [] [] b_16))),Zz .i64 (Wv (Wj (Qz n_1 (Zb b_7 b_8 b_9) 0 [] [] [] [] b_16)))],[]))) (kT fun vs=>cBs vs fun b_17 r=>cInt .i64 r fun n r=>onNil r (sel b_15 t0 (sel (!n==0) t0 (sel (!b_17==b) t0 (some (Zf [Yw [Zz .i64 n_1,Zx b_7,Zx b_8,Zx b_9,Zz .i64 0,Zx [],Zk [],Zx [],Zx [],Zk b_16],Zz .i64 0],[])))))))))))))) (Zw (chk (decide (Zy b_1≤140737488355328)) (some (Zz .i64 (Xm (Zh b_1 n 1 false)),[[Zk b_1,Zz .i64 (bif b_3 || !Yv (Zh b_1 n 1 false)==0 then n else Xg (Zh b_1 n 1 false)),Zu b_2,Zu (b_3 || !Yv (Zh b_1 n 1 false)==0)]]))) fun (r:AV×Blocks)=>onConsB (Zp r) fun (x:List AV) (r_6:List (List AV))=>cBs x fun b_4 r_7=>cInt .i64 r_7 fun n r_8=>cBool r_8 fun b_5 r_9=>cBool r_9 fun b_6 r_10=>onNil r_10 (onNilB r_6 (Yp .i64 (Zg r) fun n_2=>Zw (chk (decide (Zy b_4≤140737488355328)) (some (Zx (Ww (Xj b_4 n)),[[Zk b_4,Zz .i64 (bif b_6 || !Yq (Xj b_4 n)==0 then n else Xn (Xj b_4 n)),Zu b_5,Zu (b_6 || !Yq (Xj b_4 n)==0)]]))) fun (r:AV×Blocks)=>onConsB (Zp r) fun (x:List AV) (r_11:List (List AV))=>cBs x fun b_7 r_12=>cInt .i64 r_12 fun n r_13=>cBool r_13 fun b_8 r_14=>cBool r_14 fun b_9 r_15=>onNil r_15 (onNilB r_11 (AV.onStr (Zg r) fun b_10=>Zw (chk (decide (Zy b_7≤140737488355328)) (some (Zz .i64 (Xm (Zh b_7 n 1 false)),[[Zk b_7,Zz .i64 (bif b_9 || !Yv (Zh b_7 n 1 false)==0 then n else Xg (Zh b_7 n 1 false)),Zu b_8,Zu (b_9 || !Yv (Zh b_7 n 1 false)==0)]]))) fun (r:AV×Blocks)=>onConsB (Zp r) fun (x:List AV) (r_16:List (List AV))=>cBs x fun b_11 r_17=>cInt .i64 r_17 fun n r_18=>cBool r_18 fun b_12 r_19=>cBool r_19 fun b_13 r_20=>onNil r_20 (onNilB r_16 (Yp .i64 (Zg r) fun n_3=>Zw (chk (decide (Zy b_11≤140737488355328)) (some (Zk (Ww (Yk b_11 n n_3)),[[Zk b_11,Zz .i64 (bif b_13 || !Yq (Yk b_11 n n_3)==0 then n else Xn (Yk b_11 n n_3)),Zu b_12,Zu (b_13 || !Yq (Yk b_11 n n_3)==0)]]))) fun (r:AV×Blocks)=>onConsB (Zp r) fun (x:List AV) (r_21:List (List AV))=>cBs x fun b_14 r_22=>cInt .i64 r_22 fun n r_23=>cBool r_23 fun b_15 r_24=>cBool r_24 fun b_16 r_25=>onNil r_25 (onNilB r_21 (Vy (Zg r) fun b_17=>Zw (chk (decide (Zy b_14≤140737488355328)) (some (Zx (Ww (Xj b_14 n)),[[Zk b_14,Zz .i64 (bif b_16 || !Yq (Xj b_14 n)==0 then n else Xn (Xj b_14 n)),Zu b_15,Zu (b_16 || !Yq (Xj b_14 n)==0)]]))) fun (r:AV×Blocks)=>onConsB (Zp r) fun (x:List AV) (r_26:List (List AV))=>cBs x fun b_18 r_27=>cInt .i64 r_27 fun n r_28=>cBool r_28 fun b_19 r_29=>cBool r_29 fun b_20 r_30=>onNil r_30 (onNilB r_26 (AV.onStr (Zg r) fun b_21=>Zw (chk (decide (Zy b_18≤140737488355328)) (some (Zx (Ww (Xj b_18 n)),[[Zk b_18,Zz .i64 (bif b_20 || !Yq (Xj b_18 n)==0 then n else Xn (Xj b_18 n)),Zu b_19,Zu (b_20 || !Yq (Xj b_18 n)==0)]]))) fun (r:AV×Blocks)=>onConsB (Zp r) fun (x:List AV) (r_31:List (List AV))=>cBs x fun b_22 r_32=>cInt .i64 r_32 fun n r_33=>cBool r_33 fun b_23 r_34=>cBool r_34 fun b_24 r_35=>onNil r_35 (onNilB r_31 (AV.onStr (Zg r) fun b_25=>Zw (chk (decide (Zy b_22≤140737488355328)) (some (Zz .i64 (Xm (Zh b_22 n 2 b_23)),[[Zk b_22,Zz .i64 (bif b_24 || !Yv (Zh b_22 n 2 b_23)==0 then n else Xg (Zh b_22 n 2 b_23)),Zu b_23,Zu (b_24 || !Yv (Zh b_22 n 2 b_23)==0)]]))) fun (r:AV×Blocks)=>onConsB (Zp r) fun (x:List AV) (r_36:List (List AV))=>cBs x fun b_26 r_37=>cInt .i64 r_37 fun n r_38=>cBool r_38 fun b_27 r_39=>cBool r_39 fun b_28 r_40=>onNil r_40 (onNilB r_36 (Yp .i64 (Zg r) fun n_4=>Zw (chk (decide (Zy b_26≤140737488355328)) (some (Zk (Ww (Yk b_26 n n_4)),[[Zk b_26,Zz .i64 (bif b_28 || !Yq (Yk b_26 n n_4)==0 then n else Xn (Yk b_26 n n_4)),Zu b_27,Zu (b_28 || !Yq (Yk b_26 n n_4)==0)]]))) fun (r:AV×Blocks)=>onConsB (Zp r) fun (x:List AV) (r_41:List (List AV))=>cBs x fun b_29 r_42=>cInt .i64 r_42 fun n r_43=>cBool r_43 fun b_30 r_44=>cBool r_44 fun b_31 r_45=>onNil r_45 (onNilB r_41 (Vy (Zg r) fun b_32=>Zw (chk (l63 b_10&&l63 b_21&&l63 b_25) (some (Zf [Zk (Wf (Wj (Qz n_1 (Zb [] [] []) n_2 b_10 b_17 b_21 b_25 b_32))),Zz .i64 (Wv (Wj (Qz n_1 (Zb [] [] []) n_2 b_10 b_17 b_21 b_25 b_32)))],[]))) (kT fun vs=>cBs vs fun b_33 r=>cInt .i64 r fun n r=>onNil r (sel b_31 t0 (sel (!n==0) t0 (sel (!b_33==b) t0 (some (Zf [Yw [Zz .i64 n_1,Zx [],Zx [],Zx [],Zz .i64 n_2,Zx b_10,Zk b_17,Zx b_21,Zx b_25,Zk b_32],Zz .i64 0],[])))))))))))))))))))))))))):Option (AV×Blocks))) (by kernel_rfl) ?_
  delta kT
  try dsimp only [cStr,cBs,cBool,cU8,cInt,cSl,l63]
  have hb:=of_decide_eq_true hpre
  simp only [A0,hpre]
  by_cases h:(Qf b [9]).2=0
  case neg =>
   rw [sel_pos (by simpa using h)]
   unfold Kerb.decodeKaRequest
   rw [if_pos h]
   rfl
  have hd:Kerb.decodeKaRequest b=Kerb.decBy Kerb.noKaReq Wj Kerb.rdKaReq b:=by unfold Kerb.decodeKaRequest;rw [if_neg (by simpa using h),Kerb.decReq_ref]
  rw [sel_neg (by simp [h]),hd]
  have lt:=Kerb.text_len b
  have lp:=Kerb.rdPrin_len b
  cases e2:((Zh b 2 1 false).val==1||(Zh b 2 1 false).val==3)
  ·have e3:((Kerb.rdGet b 1 false 2 false).val==1||(Kerb.rdGet b 1 false 2 false).val==3)=false:=e2
   rw [sel_false,chk_of (by simp only [Yu,decide_eq_true_eq,true_and];exact ⟨⟨Yg (lt _) (by omega),Yg (lt _) (by omega)⟩,Yg (lt _) (by omega)⟩)]
   exact Uf (no:=Kerb.noKaReq) (enc:=Wj) (rd:=Kerb.rdKaReq) _ _ (by unfold Kerb.rdKaReq Kerb.rReq;dsimp only;rw [e3];rfl) (fun x e=>(Zf [Yw [Zz Zd (x).op,Zx (x).user.name,Zx (x).user.inst,Zx (x).user.realm,Zz Zd (x).kvno,Zx (x).realm,Zk (x).ticket,Zx (x).service,Zx (x).inst,Zk (x).box],Zz Zd e],([]:Blocks)))
  ·have e3:((Kerb.rdGet b 1 false 2 false).val==1||(Kerb.rdGet b 1 false 2 false).val==3)=true:=e2
   rw [sel_true,chk_of (by simp only [Yu,decide_eq_true_eq,and_true];exact ⟨⟨Yg (lp _ _).1 (by omega),Yg (lp _ _).2.1 (by omega)⟩,Yg (lp _ _).2.2 (by omega)⟩)]
   exact Uf (no:=Kerb.noKaReq) (enc:=Wj) (rd:=Kerb.rdKaReq) _ _ (by unfold Kerb.rdKaReq Kerb.rReq;dsimp only;rw [e3];rfl) (fun x e=>(Zf [Yw [Zz Zd (x).op,Zx (x).user.name,Zx (x).user.inst,Zx (x).user.realm,Zz Zd (x).kvno,Zx (x).realm,Zk (x).ticket,Zx (x).service,Zx (x).inst,Zk (x).box],Zz Zd e],([]:Blocks)))
 ·cases h
theorem w32:Walked Tryz.prog G 32 5 sp32:=by
 refine ⟨Tryz.f32,Tryz.func32,by decide +kernel,rfl,fun xs bl r h=> ?_⟩
 unfold sp32 at h
 split at h
 ·rename_i b kd k
  obtain ⟨hpre,h2⟩:=chk_inv h;cases h2
  refine Eq.trans (b:=(Zw (chk (decide (Zy b≤140737488355328)) (some (Zf [Yw [Zz .i64 (Kerb.Box.kind (Vb (Wx b))),Zz .u64 (Kerb.Box.key (Vb (Wx b))),Zk (Kerb.Box.body (Vb (Wx b)))],Zz .i64 (Kerb.GotBox.n (Wx b)),Zz .i64 (Kerb.GotBox.err (Wx b))],[]))) fun (r:AV×Blocks)=>onNilB (Zp r) (Qd (Zg r) fun vs=>onCons vs fun x r=>Xh x fun cs=>onCons cs fun x r_1=>Yp .i64 x fun n=>onCons r_1 fun x r_2=>Yp .u64 x fun n_1=>onCons r_2 fun x r_3=>Vy x fun b_1=>onNil r_3 (onCons r fun x r=>Yp .i64 x fun n_2=>onCons r fun x r=>Yp .i64 x fun n_3=>onNil r (sel (!n_3==0) (some (Zf [Zk [],Zu false],[])) (sel (!n_2==(↑(Zy b):Int)) (some (Zf [Zk [],Zu false],[])) (sel (!n==kd) (some (Zf [Zk [],Zu false],[])) (sel (!n_1==k) (some (Zf [Zk [],Zu false],[])) (some (Zf [Zk b_1,Zu true],[])))))))):Option (AV×Blocks))) (by kernel_rfl) ?_
  simp only [↓A0,hpre]
  unfold Kerb.openBox
  generalize Wx b=r
  by_cases h1:r.err=0
  case neg=>rw [sel_pos (by simpa using h1),if_pos (.inl h1)]
  rw [sel_neg (by simpa using h1)]
  by_cases h2:r.n=b.length
  case neg=>rw [sel_pos (by simpa using h2),if_pos (.inr (.inl h2))]
  rw [sel_neg (by simpa using h2)]
  by_cases h3:r.box.kind=kd
  case neg=>rw [sel_pos (by simpa using h3),if_pos (.inr (.inr (.inl h3)))]
  rw [sel_neg (by simpa using h3)]
  by_cases h4:r.box.key=k
  case neg=>rw [sel_pos (by simpa using h4),if_pos (.inr (.inr (.inr h4)))]
  rw [sel_neg (by simpa using h4),if_neg (by simp [h1,h2,h3,h4])]
 ·cases h
theorem w84:Walked Tryz.prog G 84 5 sp84:=by
 refine ⟨Tryz.f84,Tryz.func84,by decide +kernel,rfl,fun xs bl r h=> ?_⟩
 unfold sp84 at h
 split at h
 ·rename_i l n
  obtain ⟨hpre,h2⟩:=chk_inv h;cases h2
  refine Eq.trans (b:=(Zw (chk (decide (0≤n)&&decide (n≤4611686018427387904)) (some (Yw [Zx (Ym (Yd n)),Zx (Yh (Yd n)),Zx (Yb (Yd n))],[]))) (kA fun cs=>cStr cs fun b r=>cStr r fun b_1 r=>cStr r fun b_2 r=>onNil r (Zw (loopM (fun (st:List AV)=>cStr st fun b r=>cStr r fun b_3 r=>cStr r fun b_4 r=>cSl 8 r fun b_5 r=>cBs r fun b_6 r=>cInt .i64 r fun n r=>cStr r fun b_7 r=>cStr r fun b_8 r=>cStr r fun b_9 r=>onCons r fun x r=>AV.onOwnL x fun y=>onNil r (sel (decide (n<(↑(Zy b_6):Int))) (Zw (chk (decide (Zy b_6≤1000000)&&decide (0≤n)) (some (Yw [Zx (Ym (Vq (Vz b_6 n))),Zx (Yh (Vq (Vz b_6 n))),Zx (Yb (Vq (Vz b_6 n))),Zz .u64 (Kerb.Cred.session (Vz b_6 n)),Zz .i64 (Kerb.Cred.life (Vz b_6 n)),Zz .i64 (Kerb.Cred.kvno (Vz b_6 n)),Zz .i64 (Kerb.Cred.issued (Vz b_6 n)),Zk (Kerb.Cred.ticket (Vz b_6 n))],[[Zk b_6,Zz .i64 (Kerb.dataPos b_6 n)]]))) fun (r:AV×Blocks)=>onConsB (Zp r) fun (x:List AV) (r_1:List (List AV))=>cBs x fun b_10 r_2=>cInt .i64 r_2 fun n r_3=>onNil r_3 (onNilB r_1 (Xh (Zg r) fun cs=>cStr cs fun b_11 r=>cStr r fun b_12 r=>cStr r fun b_13 r=>cInt .u64 r fun n_1 r=>cInt .i64 r fun n_2 r=>cInt .i64 r fun n_3 r=>cInt .i64 r fun n_4 r=>cBs r fun b_14 r=>onNil r (Zw (loopM (fun (st:List AV)=>cStr st fun b r=>cStr r fun b_15 r=>cStr r fun b_16 r=>cSl 8 r fun b_17 r=>cBs r fun b_18 r=>cInt .i64 r fun n r=>cStr r fun b_19 r=>cStr r fun b_20 r=>cStr r fun b_21 r=>onCons r fun x r=>AV.onOwnL x fun y=>cStr r fun b_22 r=>cStr r fun b_23 r=>cStr r fun b_24 r=>cInt .u64 r fun n_5 r=>cInt .i64 r fun n_6 r=>cInt .i64 r fun n_7 r=>cInt .i64 r fun n_8 r=>cBs r fun b_25 r=>cBool r fun b_26 r=>cInt .i64 r fun n_9 r=>onNil r (sel (decide (n_9<(↑(Zy y):Int))) (sel b_26 (chk (decide (0≤n_9)&&decide (n_9<(↑(Zy y):Int))&&true) (chk (Nat.blt (Yy n_9) (Zy y)&&true) (Xh (Xb y (Yy n_9) Qp) fun cs=>cStr cs fun b_27 r=>cStr r fun b_28 r=>cStr r fun b_29 r=>cInt .u64 r fun n_10 r=>cInt .i64 r fun n_11 r=>cInt .i64 r fun n_12 r=>cInt .i64 r fun n_13 r=>cBs r fun b_30 r=>onNil r (some (Sum.inl [Zx b,Zx b_15,Zx b_16,Xz 8 b_17,Zk b_18,Zz .i64 n,Zx b_19,Zx b_20,Zx b_21,Vw y,Zx b_22,Zx b_23,Zx b_24,Zz .u64 n_5,Zz .i64 n_6,Zz .i64 n_7,Zz .i64 n_8,Zk b_25,Zu !(b_27==b_22&&(b_28==b_23&&b_29==b_24)),Zz .i64 (Zn .i64 (n_9+1))]))))) (some (Sum.inl [Zx b,Zx b_15,Zx b_16,Xz 8 b_17,Zk b_18,Zz .i64 n,Zx b_19,Zx b_20,Zx b_21,Vw y,Zx b_22,Zx b_23,Zx b_24,Zz .u64 n_5,Zz .i64 n_6,Zz .i64 n_7,Zz .i64 n_8,Zk b_25,Zu false,Zz .i64 (Zn .i64 (n_9+1))]))) (some (Ug (Ex.exit 2,[Zx b,Zx b_15,Zx b_16,Xz 8 b_17,Zk b_18,Zz .i64 n,Zx b_19,Zx b_20,Zx b_21,Vw y,Zx b_22,Zx b_23,Zx b_24,Zz .u64 n_5,Zz .i64 n_6,Zz .i64 n_7,Zz .i64 n_8,Zk b_25,Zu b_26,Zz .i64 n_9]))))) [Zx b,Zx b_3,Zx b_4,Xz 8 b_5,Zk b_10,Zz .i64 n,Zx b_7,Zx b_8,Zx b_9,Vw y,Zx b_11,Zx b_12,Zx b_13,Zz .u64 n_1,Zz .i64 n_2,Zz .i64 n_3,Zz .i64 n_4,Zk b_14,Zu true,Zz .i64 0]) fun (r:Ex×List AV)=>cStr (Zp r) fun b r_4=>cStr r_4 fun b_15 r_5=>cStr r_5 fun b_16 r_6=>cSl 8 r_6 fun b_17 r_7=>cBs r_7 fun b_18 r_8=>cInt .i64 r_8 fun n r_9=>cStr r_9 fun b_19 r_10=>cStr r_10 fun b_20 r_11=>cStr r_11 fun b_21 r_12=>onCons r_12 fun x r_13=>AV.onOwnL x fun y=>let t0:List AV:=[Zx b,Zx b_15,Zx b_16,Xz 8 b_17,Zk b_18,Zz .i64 n,Zx b_19,Zx b_20,Zx b_21,Vw y];cStr r_13 fun b_22 r_14=>cStr r_14 fun b_23 r_15=>cStr r_15 fun b_24 r_16=>cInt .u64 r_16 fun n_5 r_17=>cInt .i64 r_17 fun n_6 r_18=>cInt .i64 r_18 fun n_7 r_19=>cInt .i64 r_19 fun n_8 r_20=>cBs r_20 fun b_25 r_21=>let t1:List AV:=[Yw [Zx b_22,Zx b_23,Zx b_24,Zz .u64 n_5,Zz .i64 n_6,Zz .i64 n_7,Zz .i64 n_8,Zk b_25]];cBool r_21 fun b_26 r_22=>cInt .i64 r_22 fun n_9 r_23=>onNil r_23 (exK r.1 (some (Ug (Ex.ret,t0))) fun (j:Nat)=>sel (Nat.beq j 2) (sel b_26 (chk (room (Zy y+Zy t1) (nat_lit 104)) (some (Sum.inl [Zx b,Zx b_15,Zx b_16,Xz 8 b_17,Zk b_18,Zz .i64 n,Zx b_19,Zx b_20,Zx b_21,Vw (y++t1)]))) (some (Sum.inl t0))) none))))) (some (Ug (Ex.exit 0,[Zx b,Zx b_3,Zx b_4,Xz 8 b_5,Zk b_6,Zz .i64 n,Zx b_7,Zx b_8,Zx b_9,Vw y]))))) [Zx [],Zx [],Zx [],Xz 8 [],Zk l,Zz .i64 0,Zx b,Zx b_1,Zx b_2,Vw []]) fun (r:Ex×List AV)=>cStr (Zp r) fun b r_1=>cStr r_1 fun b_3 r_2=>cStr r_2 fun b_4 r_3=>cSl 8 r_3 fun b_5 r_4=>cBs r_4 fun b_6 r_5=>cInt .i64 r_5 fun n r_6=>cStr r_6 fun b_7 r_7=>cStr r_7 fun b_8 r_8=>cStr r_8 fun b_9 r_9=>onCons r_9 fun x r_10=>AV.onOwnL x fun y=>onNil r_10 (exK r.1 (some (Yw [Zx b,Zx b_3,Zx b_4,Xz 8 b_5],[])) fun (j:Nat)=>sel (Nat.beq j 0) (some (Yw [Zx b_7,Zx b_8,Zx b_9,Xz 8 y],[])) none))):Option (AV×Blocks))) (by kernel_rfl) ?_
  delta kA
  try dsimp only [cStr,cBs,cBool,cU8,cInt,cSl,l63]
  simp only [Yu,decide_eq_true_eq] at hpre
  obtain ⟨⟨hl,hn0⟩,hn⟩:=hpre
  have c:decide (l.length≤1000000)=true:=by simpa using hl
  rw [chk_of (by simp;omega)]
  simp only [A0,Xp,Xd,Yz]
  refine loop_rounds (fun s:Nat×Int×List Kerb.Cred=>[Zx [],Zx [],Zx [],Xz 8 [],Zk l,Zz Zd s.2.1,Zx (Yd n).name,Zx (Yd n).inst,Zx (Yd n).realm,Vw (s.2.2.map Yz)])
   (fun s=>0≤s.2.1∧(l.length:Int)-s.2.1<s.1∧s.2.2.length+s.1≤l.length+1∧Qj l s.1 s.2.1 s.2.2=Qj l (l.length+1) 0 []) (fun s=>s.1)
   (fun r=>∃ q:Int,r=(.exit 0,[Zx [],Zx [],Zx [],Xz 8 [],Zk l,Zz Zd q,Zx (Yd n).name,Zx (Yd n).inst,Zx (Yd n).realm,Vw ((Qj l (l.length+1) 0 []).map Yz)])) (l.length+1,0,[]) ⟨by simp,by simp only;omega,by simp,rfl⟩ rfl ?_ ?_
  ·rintro ⟨f,q,cs⟩ ⟨hq,hf,hc,he⟩
   simp only at hq hf hc he
   have cq:decide (0≤q)=true:=by simpa using hq
   simp only [A0,Xp,Xd,Yz,c,cq,Xw]
   by_cases hlt:q<l.length
   ·rw [sel_pos (by simpa using hlt)]
    cases f with
    | zero=>simp at hf;omega
    | succ f =>
     rw [Qj,if_pos hlt] at he
     have hgt:=Kerb.dataPos_gt hq hlt
     obtain ⟨x,hx⟩:∃ x,Vz l q=x:=⟨_,rfl⟩
     rw [hx] at he ⊢
     refine loop_ex (fun s:Nat×Bool=>[Zx [],Zx [],Zx [],Xz 8 [],Zk l,Zz Zd (Kerb.dataPos l q),Zx (Yd n).name,Zx (Yd n).inst,Zx (Yd n).realm,Vw (cs.map Yz),Zx x.service.name,Zx x.service.inst,Zx x.service.realm,Zz Vf x.session,Zz Zd x.life,Zz Zd x.kvno,Zz Zd x.issued,Zk x.ticket,Zu s.2,Zz Zd (s.1:Int)])
      (fun s=>s.1≤cs.length∧s.2 = !((cs.take s.1).any fun d=>d.service.eqb x.service)) (fun s=>cs.length-s.1)
      (fun r=>r=(.exit 2,[Zx [],Zx [],Zx [],Xz 8 [],Zk l,Zz Zd (Kerb.dataPos l q),Zx (Yd n).name,Zx (Yd n).inst,Zx (Yd n).realm,Vw (cs.map Yz),Zx x.service.name,Zx x.service.inst,Zx x.service.realm,Zz Vf x.session,Zz Zd x.life,Zz Zd x.kvno,Zz Zd x.issued,Zk x.ticket,Zu (!(cs.any fun d=>d.service.eqb x.service)),Zz Zd (cs.length:Int)])) (0,true) ⟨Nat.zero_le _,by simp⟩ rfl ?_ ?_
     ·rintro ⟨j,b⟩ ⟨hj,hb⟩
      simp only at hj hb
      simp only [A0,Xp,Xd,Yz]
      by_cases hjl:j<cs.length
      ·rw [sel_pos (by simp;omega)]
       have htk:=Kerb.take_cred hjl
       cases b
       ·rw [sel_false,wrap_i64 (by omega) (by omega)]
        refine ⟨_,rfl,(j+1,false),rfl,⟨hjl,?_⟩,by simp only;omega⟩
        simp only [htk,List.any_append,Bool.not_or]
        rw [← hb,Bool.false_and]
       ·rw [sel_true,chk_of (by simp;omega),chk_of (by simp [Nat.blt_eq];omega),Vg,Kerb.getD_av hjl]
        obtain ⟨d,hd⟩:∃ d,cs.getD j Kerb.noCred=d:=⟨_,rfl⟩
        rw [hd] at htk ⊢
        simp only [Yz,A0,Xp,Xd,Yz]
        rw [wrap_i64 (by omega) (by omega)]
        refine ⟨_,rfl,(j+1,!(Kerb.Prin.eqb d.service x.service)),rfl,⟨hjl,?_⟩,by simp only;omega⟩
        simp only [htk,List.any_append,Bool.not_or]
        rw [← hb,Bool.true_and]
        simp
      ·rw [sel_neg (by simp;omega)]
       have:j=cs.length:=by omega
       subst this
       rw [Uu (Nat.le_refl _)] at hb
       subst hb
       exact ⟨_,rfl,rfl⟩
     ·rintro _ rfl
      simp only [A0,Xp,Xd,Yz]
      rw [sel_pos (Nat.beq_refl _)]
      cases hany:cs.any fun d=>d.service.eqb x.service
      ·rw [hany,if_neg (by simp)] at he
       rw [Wk,sel_true,chk_of (by simp [room,maxLen];omega)]
       refine ⟨_,rfl,(f,Kerb.dataPos l q,cs++[x]),by simp [Yz],⟨by simp only;omega,by simp only;omega,by simp;omega,he⟩,by simp⟩
      ·rw [hany,if_pos rfl] at he
       rw [Zm,sel_false]
       refine ⟨_,rfl,(f,Kerb.dataPos l q,cs),rfl,⟨by simp only;omega,by simp only;omega,by simp only;omega,he⟩,by simp⟩
   ·rw [sel_neg (by simpa using hlt)]
    refine ⟨_,rfl,q,?_⟩
    rw [← he]
    cases f with
    | zero=>rfl
    | succ f=>rw [Qj,if_neg hlt]
  ·rintro _ ⟨q,rfl⟩
   simp only [A0,Xp,Xd,Yz]
   rw [sel_pos (Nat.beq_refl _)]
   rfl
 ·cases h
theorem w85:Walked Tryz.prog G 85 5 sp85:=by
 refine ⟨Tryz.f85,Tryz.func85,by decide +kernel,rfl,fun xs bl r h=> ?_⟩
 unfold sp85 at h
 split at h
 ·rename_i o1 o2 o3 els x y z k lf kv iss tk
  obtain ⟨hpre,h2⟩:=chk_inv h;cases h2
  refine Eq.trans (b:=(let t1:List AV:=[Yw [Zx x,Zx y,Zx z,Zz .u64 k,Zz .i64 lf,Zz .i64 kv,Zz .i64 iss,Zk tk]];let t2:AV:=Yw [Zx [],Zx [],Zx [],Xz 8 []];let t3:Bool:=l63 o1&&l63 o2&&l63 o3;let t0:Option (AV×Blocks):=Zw (loopM (fun (st:List AV)=>cStr st fun b r=>cStr r fun b_1 r=>cStr r fun b_2 r=>cSl 8 r fun b_3 r=>cStr r fun b_4 r=>cStr r fun b_5 r=>cStr r fun b_6 r=>cInt .u64 r fun n r=>cInt .i64 r fun n_1 r=>cInt .i64 r fun n_2 r=>cInt .i64 r fun n_3 r=>cBs r fun b_7 r=>cStr r fun b_8 r=>cStr r fun b_9 r=>cStr r fun b_10 r=>cSl 8 r fun b_11 r=>onCons r fun x r=>AV.onOwnL x fun b_12=>cInt .i64 r fun n_4 r=>onNil r (sel (decide (n_4<(↑(Zy b_3):Int))) (chk (decide (0≤n_4)&&decide (n_4<(↑(Zy b_3):Int))&&true) (Xh (Xb b_3 (Yy n_4) Qp) fun cs=>cStr cs fun b_13 r=>cStr r fun b_14 r=>cStr r fun b_15 r=>cInt .u64 r fun n_5 r=>cInt .i64 r fun n_6 r=>cInt .i64 r fun n_7 r=>cInt .i64 r fun n_8 r=>cBs r fun b_16 r=>onNil r (sel (!(b_13==b_4&&(b_14==b_5&&b_15==b_6))) (chk (decide (0≤n_4)&&decide (n_4<(↑(Zy b_3):Int))&&true) (Xh (Xb b_3 (Yy n_4) Qp) fun cs=>cStr cs fun b_17 r=>cStr r fun b_18 r=>cStr r fun b_19 r=>cInt .u64 r fun n_9 r=>cInt .i64 r fun n_10 r=>cInt .i64 r fun n_11 r=>cInt .i64 r fun n_12 r=>cBs r fun b_20 r=>onNil r (chk (room (Zy b_12+Zy [Yw [Zx b_17,Zx b_18,Zx b_19,Zz .u64 n_9,Zz .i64 n_10,Zz .i64 n_11,Zz .i64 n_12,Zk b_20]]) (nat_lit 104)) (some (Sum.inl [Zx b,Zx b_1,Zx b_2,Xz 8 b_3,Zx b_4,Zx b_5,Zx b_6,Zz .u64 n,Zz .i64 n_1,Zz .i64 n_2,Zz .i64 n_3,Zk b_7,Zx b_8,Zx b_9,Zx b_10,Xz 8 b_11,Vw (b_12++[Yw [Zx b_17,Zx b_18,Zx b_19,Zz .u64 n_9,Zz .i64 n_10,Zz .i64 n_11,Zz .i64 n_12,Zk b_20]]),Zz .i64 (Zn .i64 (n_4+1))]))))) (some (Sum.inl [Zx b,Zx b_1,Zx b_2,Xz 8 b_3,Zx b_4,Zx b_5,Zx b_6,Zz .u64 n,Zz .i64 n_1,Zz .i64 n_2,Zz .i64 n_3,Zk b_7,Zx b_8,Zx b_9,Zx b_10,Xz 8 b_11,Vw b_12,Zz .i64 (Zn .i64 (n_4+1))]))))) (some (Ug (Ex.exit 0,[Zx b,Zx b_1,Zx b_2,Xz 8 b_3,Zx b_4,Zx b_5,Zx b_6,Zz .u64 n,Zz .i64 n_1,Zz .i64 n_2,Zz .i64 n_3,Zk b_7,Zx b_8,Zx b_9,Zx b_10,Xz 8 b_11,Vw b_12,Zz .i64 n_4]))))) [Zx o1,Zx o2,Zx o3,Xz 8 els,Zx x,Zx y,Zx z,Zz .u64 k,Zz .i64 lf,Zz .i64 kv,Zz .i64 iss,Zk tk,Zx [],Zx [],Zx [],Xz 8 [],Vw [],Zz .i64 0]) fun (r:Ex×List AV)=>cStr (Zp r) fun b r_1=>cStr r_1 fun b_1 r_2=>cStr r_2 fun b_2 r_3=>cSl 8 r_3 fun b_3 r_4=>cStr r_4 fun b_4 r_5=>cStr r_5 fun b_5 r_6=>cStr r_6 fun b_6 r_7=>cInt .u64 r_7 fun n r_8=>cInt .i64 r_8 fun n_1 r_9=>cInt .i64 r_9 fun n_2 r_10=>cInt .i64 r_10 fun n_3 r_11=>cBs r_11 fun b_7 r_12=>cStr r_12 fun b_8 r_13=>cStr r_13 fun b_9 r_14=>cStr r_14 fun b_10 r_15=>cSl 8 r_15 fun b_11 r_16=>onCons r_16 fun x r_17=>AV.onOwnL x fun b_12=>cInt .i64 r_17 fun n_4 r_18=>onNil r_18 (exK r.1 none fun (j:Nat)=>sel (Nat.beq j 0) (sel ((↑(Zy b_12):Int)==20) (some (Zf [t2,Zz .i64 106],[])) (chk (room (Zy b_12+Zy [Yw [Zx b_4,Zx b_5,Zx b_6,Zz .u64 n,Zz .i64 n_1,Zz .i64 n_2,Zz .i64 n_3,Zk b_7]]) (nat_lit 104)) (some (Zf [Yw [Zx b,Zx b_1,Zx b_2,Xz 8 (b_12++[Yw [Zx b_4,Zx b_5,Zx b_6,Zz .u64 n,Zz .i64 n_1,Zz .i64 n_2,Zz .i64 n_3,Zk b_7]])],Zz .i64 0],[])))) none);Zw (chk (t3&&Uq els Uv&&decide (Zy els≤1000000)) (some (Zz .i64 (Qx (Wd (Zb o1 o2 o3) (Yn Vv els))),[]))) (kI .i64 fun n=>sel (n==0) (Zw (chk (t3&&Uq t1 Uv&&decide (Zy t1≤1000000)) (some (Zz .i64 (Qx (Wd (Zb o1 o2 o3) (Yn Vv t1))),[]))) (kI .i64 fun n=>sel (!n==0) (some (Zf [t2,Zz .i64 n],[])) t0)) (sel (!n==0) (some (Zf [t2,Zz .i64 n],[])) t0)):Option (AV×Blocks))) (by kernel_rfl) ?_
  delta kI
  try dsimp only [cStr,cBs,cBool,cU8,cInt,cSl,l63]
  simp only [Yu,decide_eq_true_eq] at hpre
  obtain ⟨⟨⟨⟨⟨q1,q2⟩,q3⟩,hall⟩,hlen⟩,hx⟩:=hpre
  obtain ⟨cs,rfl,hok⟩:=Kerb.creds_of hall
  have hl1:decide (([Yw [.str x,.str y,.str z,.int .u64 k,.int .i64 lf,.int .i64 kv,.int .i64 iss,.bs tk]]:List AV).length≤1000000)=true:=rfl
  have hm1:Yn Vv [Yw [.str x,.str y,.str z,.int .u64 k,.int .i64 lf,.int .i64 kv,.int .i64 iss,.bs tk]]=[⟨⟨x,y,z⟩,k,lf,kv,iss,tk⟩]:=rfl
  simp only [↓A0,A0,q1,q2,q3,hall,hlen,hx,hl1,hm1,decide_true,Xw,List.all_cons,List.all_nil,Vk]
  simp only [Vh] at hlen
  obtain ⟨e1,he1⟩:∃ e,Qx ⟨⟨o1,o2,o3⟩,cs⟩=e:=⟨_,rfl⟩
  obtain ⟨e2,he2⟩:∃ e,Qx ⟨⟨o1,o2,o3⟩,[⟨⟨x,y,z⟩,k,lf,kv,iss,tk⟩]⟩=e:=⟨_,rfl⟩
  rw [Kerb.store_of (x:=⟨⟨x,y,z⟩,k,lf,kv,iss,tk⟩) he1 he2,he1,he2]
  by_cases h1:e1=0
  case neg =>
   rw [if_pos h1]
   rw [sel_neg (by simpa using h1),sel_pos (by simpa using h1)];rfl
  subst h1
  have g1:=Kerb.cacheErr_creds he1
  simp only at g1
  rw [if_neg (by simp)]
  rw [sel_pos (by simp)]
  by_cases h2:e2=0
  case neg=>rw [sel_pos (by simpa using h2),if_pos h2];rfl
  subst h2
  have g2:=Kerb.credErr_tick (Kerb.credsErr_small (Kerb.cacheErr_creds he2).2 _ (List.mem_singleton.2 rfl))
  simp only at g2
  rw [sel_neg (by simp),if_neg (by simp)]
  refine loop_rounds (fun i:Nat=>[Zx o1,Zx o2,Zx o3,Xz 8 (cs.map Yz),Zx x,Zx y,Zx z,Zz Vf k,Zz Zd lf,Zz Zd kv,Zz Zd iss,Zk tk,Zx [],Zx [],Zx [],Xz 8 [],Vw (((cs.take i).filter fun d => !d.service.eqb ⟨x,y,z⟩).map Yz),Zz Zd (i:Int)]) (fun i=>i≤cs.length) (fun i=>cs.length-i) (fun r=>r=(.exit 0,[Zx o1,Zx o2,Zx o3,Xz 8 (cs.map Yz),Zx x,Zx y,Zx z,Zz Vf k,Zz Zd lf,Zz Zd kv,Zz Zd iss,Zk tk,Zx [],Zx [],Zx [],Xz 8 [],Vw (((cs.take cs.length).filter fun d => !d.service.eqb ⟨x,y,z⟩).map Yz),Zz Zd (cs.length:Int)])) 0 (Nat.zero_le _) (by simp) ?_ ?_
  ·intro i hi
   simp only [↓A0]
   by_cases hlt:i<cs.length
   ·have htf:=Kerb.take_filter hlt (fun d => !d.service.eqb ⟨x,y,z⟩)
    have hfl:((cs.take i).filter fun d => !d.service.eqb ⟨x,y,z⟩).length≤i:=Yg (List.length_filter_le _ _) (by simp;omega)
    rw [sel_pos (by simp;omega),chk_of (by simp;omega),Vg,Kerb.getD_av hlt]
    obtain ⟨c,hcc⟩:∃ c,cs.getD i Kerb.noCred=c:=⟨_,rfl⟩
    have hm:c∈cs:=by rw [← hcc];simp [List.getD_eq_getElem?_getD,hlt]
    have ht:=Kerb.credErr_tick (Kerb.credsErr_small g1.2 c hm)
    rw [hcc] at htf ⊢
    simp only [Yz,↓A0]
    rw [wrap_i64 (by omega) (by omega)]
    show ∃ q,sel (!(Kerb.Prin.eqb c.service ⟨x,y,z⟩)) _ _=some q∧_
    cases he:Kerb.Prin.eqb c.service ⟨x,y,z⟩
    ·rw [he,Wk,if_pos rfl] at htf
     rw [Wk,sel_true,chk_of (by simp;omega)]
     rw [chk_of (by simp [room,maxLen];omega)]
     refine ⟨_,rfl,i+1,?_,hlt,by simp only;omega⟩
     simp only [htf,List.map_append,List.map_cons,List.map_nil,Yz]
     rfl
    ·rw [he,Zm,if_neg (by simp),List.append_nil] at htf
     rw [Zm,sel_false]
     refine ⟨_,rfl,i+1,?_,hlt,by simp only;omega⟩
     simp only [htf]
     rfl
   ·rw [sel_neg (by simp;omega)]
    have:i=cs.length:=by omega
    subst this
    exact ⟨_,rfl,rfl⟩
  ·rintro _ rfl
   have hfl:(cs.filter fun d => !d.service.eqb ⟨x,y,z⟩).length≤20:=Yg (List.length_filter_le _ _) g1.1
   simp only [↓A0,Uu (Nat.le_refl cs.length),Vh]
   rw [sel_pos (Nat.beq_refl _)]
   by_cases h20:20≤(cs.filter fun d => !d.service.eqb ⟨x,y,z⟩).length
   ·rw [sel_pos (by simp;omega),if_pos h20];rfl
   ·rw [sel_neg (by simp;omega),if_neg h20]
    repeat rw [chk_of (by first | (simp [room,maxLen];omega) | (simp;omega))]
    simp [Yz,Xd]
 ·cases h
theorem w94:Walked Tryz.prog G 94 5 sp94:=by
 refine ⟨Tryz.f94,Tryz.func94,by decide +kernel,rfl,fun xs bl r h=> ?_⟩
 unfold sp94 at h
 split at h
 ·rename_i lb t st en k
  obtain ⟨hpre,h2⟩:=chk_inv h;cases h2
  refine Eq.trans (b:=(Zw (chk (decide (0≤k)&&decide (k<18446744073709551616)) (some (Zz .i64 (Wv (Xf (Vj lb t st en k))),[]))) (kI .i64 fun n=>sel (!n==0) (some (Zf [Zk [],Zz .i64 n],[])) (Zw (chk (decide (Zy lb≤70368744177664)) (some (Wz (lb++Xy t 4 false),[]))) (kO fun l=>sel (Kerb.timed lb) (Zw (chk (decide (Zy l≤70368744177664)) (some (Wz (l++Xy st 4 false),[]))) (kO fun l=>Zw (chk (decide (Zy l≤70368744177664)) (some (Wz (l++Xy en 4 false),[]))) (kO fun l=>Zw (chk (decide (Zy l≤70368744177664)) (some (Zk (Kerb.pad l),[]))) (kB fun b=>some (Zf [Zk b,Zz .i64 0],[]))))) (Zw (chk (decide (0≤k)&&decide (k<18446744073709551616)) (some (Zk (Kerb.keyBytes k),[]))) (kB fun b=>chk (room (Zy l+Zy b) 1) (Zw (chk (decide (Zy (l++b)≤70368744177664)) (some (Zk (Kerb.pad (l++b)),[]))) (kB fun b=>some (Zf [Zk b,Zz .i64 0],[])))))))):Option (AV×Blocks))) (by kernel_rfl) ?_
  delta kB kO kI
  try dsimp only [cStr,cBs,cBool,cU8,cInt,cSl,l63]
  simp only [A0,hpre]
  by_cases he:(Xf (Vj lb t st en k)).err=0
  case neg=>rw [sel_pos (by simpa using he),Kerb.encKaSec_no he]
  rw [sel_neg (by simp [he]),he]
  have hl:lb.length=4:=by
   obtain ⟨_,⟨_,h4,_⟩ | ⟨h4,_⟩⟩:=Kerb.encKaSec_inv he
   ·exact h4
   ·simp only at h4;rw [h4];rfl
  rw [chk_of (by simp;omega)]
  rcases Kerb.encKaSec_val he with ⟨ht,hv⟩ | ⟨ht,hv⟩
  ·rw [sel_pos ht,hv,chk_of (by simp [Zj];omega),chk_of (by simp [Zj];omega),chk_of (by simp [Zj];omega)]
  ·rw [sel_neg ht,hv,chk_of (Up (by simp [Zj,Zv];omega)),chk_of (by simp [Zj,Zv];omega)]
 ·cases h
theorem w100:Walked Tryz.prog G 100 5 sp100:=by
 refine ⟨Tryz.f100,Tryz.func100,by decide +kernel,rfl,fun xs bl r h=> ?_⟩
 unfold sp100 at h
 split at h
 ·rename_i b
  obtain ⟨hpre,h2⟩:=chk_inv h;cases h2
  refine Eq.trans (b:=(let t0:Option (AV×Blocks):=some (Zf [Yw [Zx [],Zz .i64 0,Zz .i64 0,Zz .i64 0,Zz .u64 0],Zz .i64 100],[]);Zw (chk (decide (Zy b≤140737488355328)) (some (Zk (Ww (Yk b 0 4)),[[Zk b,Zz .i64 (bif false || !Yq (Yk b 0 4)==0 then 0 else Xn (Yk b 0 4)),Zu false,Zu !Yq (Yk b 0 4)==0]]))) fun (r:AV×Blocks)=>onConsB (Zp r) fun (x:List AV) (r_1:List (List AV))=>cBs x fun b_1 r_2=>cInt .i64 r_2 fun n r_3=>cBool r_3 fun b_2 r_4=>cBool r_4 fun b_3 r_5=>onNil r_5 (onNilB r_1 (Vy (Zg r) fun b_4=>Zw (chk (decide (Zy b_1≤140737488355328)) (some (Zz .i64 (Xm (Zh b_1 n 4 b_2)),[[Zk b_1,Zz .i64 (bif b_3 || !Yv (Zh b_1 n 4 b_2)==0 then n else Xg (Zh b_1 n 4 b_2)),Zu b_2,Zu (b_3 || !Yv (Zh b_1 n 4 b_2)==0)]]))) fun (r:AV×Blocks)=>onConsB (Zp r) fun (x:List AV) (r_6:List (List AV))=>cBs x fun b_5 r_7=>cInt .i64 r_7 fun n r_8=>cBool r_8 fun b_6 r_9=>cBool r_9 fun b_7 r_10=>onNil r_10 (onNilB r_6 (Yp .i64 (Zg r) fun n_1=>sel (b_4==[(67:UInt8),(80:UInt8),(87:UInt8),(108:UInt8)]) (Zw (chk (decide (Zy b_5≤140737488355328)) (some (Zk (Ww (Yk b_5 n 8)),[[Zk b_5,Zz .i64 (bif b_7 || !Yq (Yk b_5 n 8)==0 then n else Xn (Yk b_5 n 8)),Zu b_6,Zu (b_7 || !Yq (Yk b_5 n 8)==0)]]))) fun (r:AV×Blocks)=>onConsB (Zp r) fun (x:List AV) (r_11:List (List AV))=>cBs x fun b_8 r_12=>cInt .i64 r_12 fun n r_13=>cBool r_13 fun b_9 r_14=>cBool r_14 fun b_10 r_15=>onNil r_15 (onNilB r_11 (Vy (Zg r) fun b_11=>Zw (chk (decide (Zy b_11≤4611686018427387904)) (some (Zf [Zz .u64 (Zg (Xk b_11)),Zu (Zp (Xk b_11))],[]))) (kT fun vs=>cInt .u64 vs fun n r=>cBool r fun b_12 r=>onNil r (Zw (chk (decide (0≤n)&&decide (n<18446744073709551616)) (some (Zf [Wz (Wf (Xf (Vj b_4 n_1 0 0 n))),Zz .i64 (Wv (Xf (Vj b_4 n_1 0 0 n)))],[]))) (kT fun vs=>onCons vs fun x r=>AV.onOwnB x fun l=>cInt .i64 r fun n_2 r=>onNil r (sel b_10 t0 (sel (!n_2==0) t0 (sel (!l==b) t0 (some (Zf [Yw [Zx b_4,Zz .i64 n_1,Zz .i64 0,Zz .i64 0,Zz .u64 n],Zz .i64 0],[]))))))))))) (Zw (chk (decide (Zy b_5≤140737488355328)) (some (Zz .i64 (Xm (Zh b_5 n 4 b_6)),[[Zk b_5,Zz .i64 (bif b_7 || !Yv (Zh b_5 n 4 b_6)==0 then n else Xg (Zh b_5 n 4 b_6)),Zu b_6,Zu (b_7 || !Yv (Zh b_5 n 4 b_6)==0)]]))) fun (r:AV×Blocks)=>onConsB (Zp r) fun (x:List AV) (r_11:List (List AV))=>cBs x fun b_8 r_12=>cInt .i64 r_12 fun n r_13=>cBool r_13 fun b_9 r_14=>cBool r_14 fun b_10 r_15=>onNil r_15 (onNilB r_11 (Yp .i64 (Zg r) fun n_2=>Zw (chk (decide (Zy b_8≤140737488355328)) (some (Zz .i64 (Xm (Zh b_8 n 4 b_9)),[[Zk b_8,Zz .i64 (bif b_10 || !Yv (Zh b_8 n 4 b_9)==0 then n else Xg (Zh b_8 n 4 b_9)),Zu b_9,Zu (b_10 || !Yv (Zh b_8 n 4 b_9)==0)]]))) fun (r:AV×Blocks)=>onConsB (Zp r) fun (x:List AV) (r_16:List (List AV))=>cBs x fun b_11 r_17=>cInt .i64 r_17 fun n r_18=>cBool r_18 fun b_12 r_19=>cBool r_19 fun b_13 r_20=>onNil r_20 (onNilB r_16 (Yp .i64 (Zg r) fun n=>sel b_13 t0 (sel (!Wv (Xf (Vj b_4 n_1 n_2 n 0))==0) t0 (sel (!Wf (Xf (Vj b_4 n_1 n_2 n 0))==b) t0 (some (Zf [Yw [Zx b_4,Zz .i64 n_1,Zz .i64 n_2,Zz .i64 n,Zz .u64 0],Zz .i64 0],[]))))))))))))):Option (AV×Blocks))) (by kernel_rfl) ?_
  delta kT
  try dsimp only [cStr,cBs,cBool,cU8,cInt,cSl,l63]
  have eGet:([103,84,71,83]:List UInt8)=Kerb.lGet:=rfl
  have eTick:([103,84,75,84]:List UInt8)=Kerb.lTicket:=rfl
  have eChg:([67,80,87,108]:List UInt8)=Vn:=rfl
  have eDone:([67,80,87,100]:List UInt8)=Kerb.lDone:=rfl
  have eGot:([116,103,115,84]:List UInt8)=Kerb.lGot:=rfl
  have eGiven:([116,107,116,71]:List UInt8)=Kerb.lGiven:=rfl
  have hb:=of_decide_eq_true hpre
  simp only [A0,hpre,eChg]
  rw [Kerb.decSec_ref]
  cases e2:((Yk b 0 4).val==Vn)
  ·have e3:((Kerb.rdBytes b 4 0 false).val==Vn)=false:=e2
   rw [sel_false]
   exact Uf (no:=Kerb.noKaSecret) (enc:=Xf) (rd:=Kerb.rdKaSec) _ _ (by unfold Kerb.rdKaSec Kerb.rSec;dsimp only;rw [e3];rfl) (fun x e=>(Zf [Yw [Zx (x).label,Zz Zd (x).time,Zz Zd (x).start,Zz Zd (x).stop,Zz Vf (x).new],Zz Zd e],([]:Blocks)))
  ·have e3:((Kerb.rdBytes b 4 0 false).val==Vn)=true:=e2
   have hl:∀ p n,(Yk b p n).val.length≤4611686018427387904:=fun p n=>Yg (Kerb.bytes_len b p n) (by omega)
   have hk:∀ q,0≤(Xk q).1∧(Xk q).1<18446744073709551616:=Kerb.keyRead_bd
   rw [sel_true,chk_of (by simp only [decide_eq_true_eq];exact hl _ _),chk_of (by simp only [Yu,decide_eq_true_eq];exact hk _)]
   exact Uf (no:=Kerb.noKaSecret) (enc:=Xf) (rd:=Kerb.rdKaSec) _ _ (by unfold Kerb.rdKaSec Kerb.rSec;dsimp only;rw [e3];rfl) (fun x e=>(Zf [Yw [Zx (x).label,Zz Zd (x).time,Zz Zd (x).start,Zz Zd (x).stop,Zz Vf (x).new],Zz Zd e],([]:Blocks)))
 ·cases h
theorem w102:Walked Tryz.prog G 102 5 sp102:=by
 refine ⟨Tryz.f102,Tryz.func102,by decide +kernel,rfl,fun xs bl r h=> ?_⟩
 unfold sp102 at h
 split at h
 ·rename_i rl els xls n i now
  obtain ⟨hpre,h2⟩:=chk_inv h;cases h2
  refine Eq.trans (b:=(let t0:Option (AV×Blocks):=Zw (chk (Uq els Kerb.isEntry&&decide (Zy els≤1000000)) (some (Zf [Zz .i64 (Zg (Uz (Vd rl (Yn Wn els)) n i now)),Zz .i64 (Zp (Uz (Vd rl (Yn Wn els)) n i now))],[]))) (kT fun vs=>cInt .i64 vs fun n r=>cInt .i64 r fun n_1 r=>onNil r (sel (!n_1==0) (some (Zf [Zz .u64 0,Zz .i64 0,Zz .i64 0,Zz .i64 0,Zz .i64 n_1],[])) (chk (decide (0≤n)&&decide (n<(↑(Zy els):Int))&&true) (Xh (Xb els (Yy n) Qp) fun cs=>cStr cs fun b r=>cStr r fun b r=>cInt .u64 r fun n r=>cInt .i64 r fun n_2 r=>cInt .i64 r fun n_3 r=>cInt .i64 r fun n_4 r=>cInt .i64 r fun n_5 r=>cInt .i64 r fun n_6 r=>cInt .i64 r fun n_7 r=>onNil r (some (Zf [Zz .u64 n,Zz .i64 n_2,Zz .i64 n_4,Zz .i64 n_3,Zz .i64 0],[]))))));sel (n==[(107:UInt8),(114:UInt8),(98:UInt8),(116:UInt8),(103:UInt8),(116:UInt8)]) (sel (!i==rl) (Zw (chk (l63 i) (some (Zu (Qv i),[]))) (kL fun b=>sel b (Zw (chk (Uq xls Kerb.isCross&&decide (Zy xls≤1000000)) (some (Zf [Zz .i64 (Zg (Ud (Yn Kerb.toCross xls) rl i)),Zu (Zp (Ud (Yn Kerb.toCross xls) rl i))],[]))) (kT fun vs=>cInt .i64 vs fun n r=>cBool r fun b r=>onNil r (sel (!b) (some (Zf [Zz .u64 0,Zz .i64 0,Zz .i64 0,Zz .i64 0,Zz .i64 8],[])) (chk (decide (0≤n)&&decide (n<(↑(Zy xls):Int))&&true) (Xh (Xb xls (Yy n) Qp) fun cs=>cStr cs fun b r=>cStr r fun b r=>cInt .i64 r fun n_1 r=>cInt .u64 r fun n_2 r=>onNil r (chk (decide (0≤n)&&decide (n<(↑(Zy xls):Int))&&true) (Xh (Xb xls (Yy n) Qp) fun cs=>cStr cs fun b r=>cStr r fun b r=>cInt .i64 r fun n r=>cInt .u64 r fun n_3 r=>onNil r (some (Zf [Zz .u64 n_2,Zz .i64 n,Zz .i64 255,Zz .i64 0,Zz .i64 0],[]))))))))) t0)) t0) t0:Option (AV×Blocks))) (by kernel_rfl) ?_
  delta kT kL
  try dsimp only [cStr,cBs,cBool,cU8,cInt,cSl,l63]
  simp only [Yu,decide_eq_true_eq] at hpre
  obtain ⟨⟨⟨⟨hall,hlen⟩,hx⟩,hxl⟩,hi⟩:=hpre
  obtain ⟨es,rfl,hok⟩:=Kerb.ents_of hall
  obtain ⟨cs,rfl⟩:=Kerb.cross_of hx
  rw [Kerb.map_toEntry,Kerb.map_toCross]
  simp only [hall,hlen,hx,hxl,hi,decide_true,Xw,↓A0,A0]
  simp only [Vh] at hlen hxl ⊢
  unfold Kerb.svc
  dsimp only
  have hkr:(n==[(107:UInt8),(114:UInt8),(98:UInt8),(116:UInt8),(103:UInt8),(116:UInt8)])=(n==Kerb.krbtgt):=rfl
  try rw [hkr]
  cases n==Kerb.krbtgt
  ·simp only [Zm,Wk,sel_true,sel_false]
   by_cases he:(Uz ⟨rl,es⟩ n i now).2=0
   case neg=>rw [sel_pos (by simpa using he),if_neg (by simp),if_pos he]
   obtain ⟨u1,u2⟩:=Kerb.serv_lt he
   dsimp only at u2
   rw [sel_neg (by simpa using he),if_neg (by simp),if_neg (by simpa using he),chk_of (by simp;omega),Um u2]
   simp only [Wp,↓A0,A0]
  cases i==rl
  case true =>
   cases Qv i
   ·simp only [Zm,Wk,sel_true,sel_false]
    by_cases he:(Uz ⟨rl,es⟩ n i now).2=0
    case neg=>rw [sel_pos (by simpa using he),if_neg (by simp),if_pos he]
    obtain ⟨u1,u2⟩:=Kerb.serv_lt he
    dsimp only at u2
    rw [sel_neg (by simpa using he),if_neg (by simp),if_neg (by simpa using he),chk_of (by simp;omega),Um u2]
    simp only [Wp,↓A0,A0]
   ·simp only [Zm,Wk,sel_true,sel_false]
    by_cases he:(Uz ⟨rl,es⟩ n i now).2=0
    case neg=>rw [sel_pos (by simpa using he),if_neg (by simp),if_pos he]
    obtain ⟨u1,u2⟩:=Kerb.serv_lt he
    dsimp only at u2
    rw [sel_neg (by simpa using he),if_neg (by simp),if_neg (by simpa using he),chk_of (by simp;omega),Um u2]
    simp only [Wp,↓A0,A0]
  cases Qv i
  ·simp only [Zm,Wk,sel_true,sel_false]
   by_cases he:(Uz ⟨rl,es⟩ n i now).2=0
   case neg=>rw [sel_pos (by simpa using he),if_neg (by simp),if_pos he]
   obtain ⟨u1,u2⟩:=Kerb.serv_lt he
   dsimp only at u2
   rw [sel_neg (by simpa using he),if_neg (by simp),if_neg (by simpa using he),chk_of (by simp;omega),Um u2]
   simp only [Wp,↓A0,A0]
  ·simp only [Zm,Wk,sel_true,sel_false]
   by_cases he:(Ud cs rl i).2=true
   ·obtain ⟨u1,u2⟩:=Kerb.findCross_lt he
    have hk:(decide (0≤(Ud cs rl i).1)&&decide ((Ud cs rl i).1<(cs.length:Int))&&true)=true:=by simp;omega
    simp only [he,hk,Kerb.getD_cross u2,Kerb.Cross.av,Zm,Xw,Wk,if_true,↓A0,A0]
   ·have he2:(Ud cs rl i).2=false:=by simpa using he
    rw [he2]
    rfl
 ·cases h
theorem w111:Walked Tryz.prog G 111 5 sp111:=by
 refine ⟨Tryz.f111,Tryz.func111,by decide +kernel,rfl,fun xs bl r h=> ?_⟩
 unfold sp111 at h
 split at h
 ·rename_i op al at_ ase ast aen akv a1 a2 a3 atk key
  obtain ⟨hpre,h2⟩:=chk_inv h;cases h2
  refine Eq.trans (b:=(Zw (chk (decide (Zy a1≤9223372036854775807)&&decide (Zy a2≤9223372036854775807)&&decide (Zy a3≤9223372036854775807)&&decide (0≤ase)&&decide (ase<18446744073709551616)) (some (Zf [Zk (Wf (Kerb.encodeKaAnswer (Uy al at_ ase ast aen akv (Zb a1 a2 a3) atk))),Zz .i64 (Wv (Kerb.encodeKaAnswer (Uy al at_ ase ast aen akv (Zb a1 a2 a3) atk)))],[]))) fun (r:AV×Blocks)=>onNilB (Zp r) (Qd (Zg r) fun vs=>onCons vs fun x r=>Vy x fun b=>onCons r fun x r=>Yp .i64 x fun n=>onNil r (sel (!n==0) (some (Zf [Zk [],Zu false],[])) (Zw (chk (decide (0≤key)&&decide (key<18446744073709551616)) (some (Zf [Zk (Wf (Kerb.makeBox 8 key b)),Zz .i64 (Wv (Kerb.makeBox 8 key b))],[]))) fun (r:AV×Blocks)=>onNilB (Zp r) (Qd (Zg r) fun vs=>onCons vs fun x r=>Vy x fun b=>onCons r fun x r=>Yp .i64 x fun n=>onNil r (sel (!n==0) (some (Zf [Zk [],Zu false],[])) (some (Zf [Zk (Wf (Wb (Qk op 0 b))),Zu (Wv (Wb (Qk op 0 b))==0)],[]))))))):Option (AV×Blocks))) (by kernel_rfl) ?_
  simp only [Yu,decide_eq_true_eq] at hpre
  simp only [Kerb.isU64_iff] at hpre
  obtain ⟨⟨⟨⟨⟨h1,h2⟩,h3⟩,h4⟩,h5,h6⟩,h7,h8⟩:=hpre
  simp only [h1,h2,h3,h4,h5,h6,h7,h8,decide_true,Xw,↓A0,A0]
  unfold Vm Kerb.kaReplyDec
  try dsimp only
  generalize Kerb.encodeKaAnswer _=E
  by_cases he:E.err=0
  case neg=>rw [sel_pos (by simpa using he),if_pos he,show (E.err==0)=false from by simpa using he]
  rw [sel_neg (by simpa using he),if_neg (by simpa using he)]
  generalize Kerb.makeBox _ _ _=F
  by_cases hf:F.err=0
  case neg=>rw [sel_pos (by simpa using hf),if_pos hf,show (F.err==0)=false from by simpa using hf]
  rw [sel_neg (by simpa using hf),if_neg (by simpa using hf)]
 ·cases h
theorem w113:Walked Tryz.prog G 113 5 sp113:=by
 refine ⟨Tryz.f113,Tryz.func113,by decide +kernel,rfl,fun xs bl r h=> ?_⟩
 unfold sp113 at h
 split at h
 ·rename_i rl els i k
  obtain ⟨hpre,h2⟩:=chk_inv h;cases h2
  refine Eq.trans (b:=(let t0:Bool:=Uq els Kerb.isEntry&&decide (Zy els≤1000000)&&decide (0≤i)&&decide (i<(↑(Zy els):Int));let t2:AV:=Yw [Zx [],Xz 9 []];let t1:Option (AV×Blocks):=some (Zf [t2,Zz .i64 104],[]);Zw (chk (l63 rl&&Uq els Kerb.isEntry&&decide (Zy els≤1000000)) (some (Zz .i64 (Kerb.Db.err (Vd rl (Yn Wn els))),[]))) (kI .i64 fun n=>sel (!n==0) (some (Zf [t2,Zz .i64 n],[])) (sel (decide (i<0)) t1 (sel (decide (i≥(↑(Zy els):Int))) t1 (Zw (chk (decide (0≤k)&&decide (k<18446744073709551616)) (some (Zu (Wu k),[]))) (kL fun b=>sel (!b) (some (Zf [t2,Zz .i64 10],[])) (chk (decide (0≤i)&&decide (i<(↑(Zy els):Int))&&true) (Xh (Xb els (Yy i) Qp) fun cs=>cStr cs fun b r=>cStr r fun b_1 r=>cInt .u64 r fun n r=>cInt .i64 r fun n r=>cInt .i64 r fun n_1 r=>cInt .i64 r fun n_2 r=>cInt .i64 r fun n_3 r=>cInt .i64 r fun n_4 r=>cInt .i64 r fun n_5 r=>let t3:Kerb.Db:=Kerb.setEnt (Vd rl (Yn Wn els)) i (Kerb.Entry.mk b b_1 k (Zn .i64 (n+1)) n_1 n_2 n_3 n_4 n_5);let t4:Kerb.Db:=Kerb.setEnt (Vd rl (Yn Wn els)) i (Kerb.Entry.mk b b_1 k 1 n_1 n_2 n_3 n_4 n_5);onNil r (sel (decide (Zn .i64 (n+1)>255)) (Zw (chk t0 (some (Yw [Zx (Kerb.Db.realm t4),Xz 9 (Yn Wp (Kerb.Db.entries t4))],[]))) (kA fun cs=>cStr cs fun b r=>cSl 9 r fun b_2 r=>onNil r (some (Zf [Yw [Zx b,Xz 9 b_2],Zz .i64 0],[])))) (Zw (chk t0 (some (Yw [Zx (Kerb.Db.realm t3),Xz 9 (Yn Wp (Kerb.Db.entries t3))],[]))) (kA fun cs=>cStr cs fun b r=>cSl 9 r fun b_2 r=>onNil r (some (Zf [Yw [Zx b,Xz 9 b_2],Zz .i64 0],[])))))))))))):Option (AV×Blocks))) (by kernel_rfl) ?_
  delta kA kL kI
  try dsimp only [cStr,cBs,cBool,cU8,cInt,cSl,l63]
  simp only [Yu,decide_eq_true_eq] at hpre
  obtain ⟨⟨⟨⟨hr,hall⟩,hlen⟩,h0⟩,h1⟩:=hpre
  obtain ⟨es,rfl,hok⟩:=Kerb.ents_of hall
  rw [Kerb.map_toEntry]
  simp only [hr,hall,hlen,h0,h1,decide_true,Xw,↓A0,A0]
  simp only [Vh] at hlen ⊢
  unfold Kerb.rekey
  dsimp only
  generalize hz:Kerb.Db.err ⟨rl,es⟩=z
  by_cases hz0:z=0
  case neg=>rw [sel_pos (by simpa using hz0),if_pos hz0];rfl
  rw [sel_neg (by simpa using hz0),if_neg (by simpa using hz0)]
  by_cases hi:i<0
  ·rw [sel_pos (by simpa using hi),if_pos (.inl hi)];rfl
  rw [sel_neg (by simpa using hi)]
  by_cases hi2:(es.length:Int)≤i
  ·rw [sel_pos (by simpa using hi2),if_pos (.inr hi2)];rfl
  rw [sel_neg (by simpa using hi2),if_neg (by omega)]
  cases hk:Wu k
  ·rfl
  rw [sel_neg (by simp),if_neg (by simp)]
  have i0:decide (0≤i)=true:=by simp;omega
  have i1:decide (i<(es.length:Int))=true:=by simp;omega
  rw [chk_of (by rw [i0,i1];rfl),Um (by omega)]
  have hx:=Kerb.errs_all (Kerb.Db.err_inv (hz.trans hz0)).2.2 _ (Kerb.ent_mem (es:=es) (i:=i.toNat) (by omega))
  generalize es.getD i.toNat Kerb.noEntry=e at hx
  have x4:=Kerb.within_iff.1 (Kerb.Entry.err_inv hx).2.2.2.1
  simp only [Wp,i0,i1,↓A0,A0]
  unfold Kerb.Entry.rekeyed
  try dsimp only
  by_cases hv:e.kvno<255
  ·rw [wrap_i64 (by omega) (by omega),sel_neg (by simp;omega),if_pos hv];rfl
  ·rw [wrap_i64 (by omega) (by omega),sel_pos (by simp;omega),if_neg hv];rfl
 ·cases h
theorem w126:Walked Tryz.prog G 126 5 sp126:=by
 refine ⟨Tryz.f126,Tryz.func126,by decide +kernel,rfl,fun xs bl r h=> ?_⟩
 unfold sp126 at h
 split at h
 ·rename_i s
  obtain ⟨hpre,h2⟩:=chk_inv h;cases h2
  refine Eq.trans (b:=(sel (!s==[]) (sel (decide ((↑(Zy s):Int)≤39)) (Zw (chk (decide (Zy s≤9223372036854775807)) (some (Zu (Vx s [(46:UInt8),(64:UInt8)]),[]))) fun (r:AV×Blocks)=>onNilB (Zp r) (Wh (Zg r) fun b=>some (Zu b,[]))) (some (Zu false,[]))) (some (Zu false,[])):Option (AV×Blocks))) (by kernel_rfl) ?_
  simp only [A0]
  rw [chk_of hpre,decide_eq_decide.2 (show ((s.length:Int)≤39)↔s.length≤39 from by omega)]
  simp only [Qq]
  cases s with
  | nil=>rfl
  | cons x r=>cases decide ((x::r).length≤39)<;>rfl
 ·cases h
theorem w127:Walked Tryz.prog G 127 5 sp127:=by
 refine ⟨Tryz.f127,Tryz.func127,by decide +kernel,rfl,fun xs bl r h=> ?_⟩
 unfold sp127 at h
 split at h
 ·rename_i s
  obtain ⟨hpre,h2⟩:=chk_inv h;cases h2
  refine Eq.trans (b:=(sel (decide ((↑(Zy s):Int)≤39)) (Zw (chk (decide (Zy s≤9223372036854775807)) (some (Zu (Vx s [(64:UInt8)]),[]))) fun (r:AV×Blocks)=>onNilB (Zp r) (Wh (Zg r) fun b=>some (Zu b,[]))) (some (Zu false,[])):Option (AV×Blocks))) (by kernel_rfl) ?_
  simp only [A0]
  rw [chk_of hpre,decide_eq_decide.2 (show ((s.length:Int)≤39)↔s.length≤39 from by omega)]
  simp only [Uj]
  cases decide (s.length≤39)<;>rfl
 ·cases h
theorem w137:Walked Tryz.prog G 137 5 sp137:=by
 refine ⟨Tryz.f137,Tryz.func137,by decide +kernel,rfl,fun xs bl r h=> ?_⟩
 unfold sp137 at h
 split at h
 ·rename_i li x y z ad k lf iss sv ins
  obtain ⟨hpre,h2⟩:=chk_inv h;cases h2
  refine Eq.trans (b:=(let t0:Nat:=Zy ([]++Xy 0 1 false)+Zy x+Zy y+Zy z;let t1:Nat:=Zy ([]++Xy 1 1 false)+Zy x+Zy y+Zy z;let t2:Option (AV×Blocks):=chk (decide (0≤k)&&decide (k<18446744073709551616)) (some (Zk (Kerb.keyBytes k),[]));Zw (chk (l63 x&&l63 y&&l63 z&&l63 sv&&l63 ins&&decide (0≤k)&&decide (k<18446744073709551616)) (some (Zz .i64 (Kerb.Ticket.err (Uh li (Zb x y z) ad k lf iss sv ins)),[]))) (kI .i64 fun n=>sel (!n==0) (some (Zf [Zk [],Zz .i64 n],[])) (sel li (Zw (chk (decide (t1≤70368744170000)) (some (Zk (Kerb.putPrin ([]++Xy 1 1 false) (Zb x y z)),[]))) (kB fun b=>Zw (chk (decide (Zy b≤70368744177664)) (some (Wz (b++Xy ad 4 li),[]))) (kO fun l=>Zw t2 (kB fun b=>chk (room (Zy l+Zy b) 1) (Zw (chk (decide (Zy (l++b)≤70368744177664)) (some (Wz (l++b++Xy lf 1 false),[]))) (kO fun l=>Zw (chk (decide (Zy l≤70368744177664)) (some (Wz (l++Xy iss 4 li),[]))) (kO fun l=>Zw (chk (decide (Zy l+Zy sv≤70368744177664)) (some (Zk (Xu l sv),[]))) (kB fun b=>Zw (chk (decide (Zy b+Zy ins≤70368744177664)) (some (Zk (Xu b ins),[]))) (kB fun b=>Zw (chk (decide (Zy b≤70368744177664)) (some (Wz (Kerb.pad b),[]))) (kO fun l=>some (Zf [Zk l,Zz .i64 0],[]))))))))))) (Zw (chk (decide (t0≤70368744170000)) (some (Zk (Kerb.putPrin ([]++Xy 0 1 false) (Zb x y z)),[]))) (kB fun b=>Zw (chk (decide (Zy b≤70368744177664)) (some (Wz (b++Xy ad 4 li),[]))) (kO fun l=>Zw t2 (kB fun b=>chk (room (Zy l+Zy b) 1) (Zw (chk (decide (Zy (l++b)≤70368744177664)) (some (Wz (l++b++Xy lf 1 false),[]))) (kO fun l=>Zw (chk (decide (Zy l≤70368744177664)) (some (Wz (l++Xy iss 4 li),[]))) (kO fun l=>Zw (chk (decide (Zy l+Zy sv≤70368744177664)) (some (Zk (Xu l sv),[]))) (kB fun b=>Zw (chk (decide (Zy b+Zy ins≤70368744177664)) (some (Zk (Xu b ins),[]))) (kB fun b=>Zw (chk (decide (Zy b≤70368744177664)) (some (Wz (Kerb.pad b),[]))) (kO fun l=>some (Zf [Zk l,Zz .i64 0],[]))))))))))))):Option (AV×Blocks))) (by kernel_rfl) ?_
  delta kB kO kI
  try dsimp only [cStr,cBs,cBool,cU8,cInt,cSl,l63]
  simp only [Yu,decide_eq_true_eq] at hpre
  obtain ⟨⟨⟨⟨⟨⟨h1,h2⟩,h3⟩,h4⟩,h5⟩,h6⟩,h7⟩:=hpre
  simp only [h1,h2,h3,h4,h5,h6,h7,decide_true,Xw,↓A0,A0]
  have hb := @Kerb.encTicket_inv ⟨li,⟨x,y,z⟩,ad,k,lf,iss,sv,ins⟩
  unfold Wm at hb ⊢
  dsimp only at hb ⊢
  generalize hE:Kerb.Ticket.err _=e at hb ⊢
  by_cases he:e=0
  case neg=>rw [sel_pos (by simpa using he),if_pos he]
  rw [if_neg (by simpa using he)] at hb
  obtain ⟨v1,v2,v3,_⟩:=hb rfl
  have l1:=Kerb.valid_len v1
  have l2:=(Kerb.name_ok v2).1
  have l3:=(Kerb.inst_ok v3).1
  dsimp only at l1
  rw [sel_neg (by simpa using he),if_neg (by simpa using he)]
  cases li
  ·rw [sel_false,chk_of (by first | (simp [Zq,Zj,Zv];done) | (simp [Zq,Zj,Zv];omega)),chk_of (by first | (simp [Zq,Zj,Zv];done) | (simp [Zq,Zj,Zv];omega)),chk_of (Up (by first | (simp [Zq,Zj,Zv];done) | (simp [Zq,Zj,Zv];omega))),chk_of (by first | (simp [Zq,Zj,Zv];done) | (simp [Zq,Zj,Zv];omega)),chk_of (by first | (simp [Zq,Zj,Zv];done) | (simp [Zq,Zj,Zv];omega)),chk_of (by first | (simp [Zq,Zj,Zv];done) | (simp [Zq,Zj,Zv];omega)),chk_of (by first | (simp [Xu,Zq,Zj,Zv];done) | (simp [Xu,Zq,Zj,Zv];omega)),chk_of (by first | (simp [Xu,Zq,Zj,Zv];done) | (simp [Xu,Zq,Zj,Zv];omega))]
   simp
  ·rw [sel_true,chk_of (by first | (simp [Zq,Zj,Zv];done) | (simp [Zq,Zj,Zv];omega)),chk_of (by first | (simp [Zq,Zj,Zv];done) | (simp [Zq,Zj,Zv];omega)),chk_of (Up (by first | (simp [Zq,Zj,Zv];done) | (simp [Zq,Zj,Zv];omega))),chk_of (by first | (simp [Zq,Zj,Zv];done) | (simp [Zq,Zj,Zv];omega)),chk_of (by first | (simp [Zq,Zj,Zv];done) | (simp [Zq,Zj,Zv];omega)),chk_of (by first | (simp [Zq,Zj,Zv];done) | (simp [Zq,Zj,Zv];omega)),chk_of (by first | (simp [Xu,Zq,Zj,Zv];done) | (simp [Xu,Zq,Zj,Zv];omega)),chk_of (by first | (simp [Xu,Zq,Zj,Zv];done) | (simp [Xu,Zq,Zj,Zv];omega))]
   simp
 ·cases h
theorem w188:Walked Tryz.prog G 188 5 sp188:=by
 refine ⟨Tryz.f188,Tryz.func188,by decide +kernel,rfl,fun xs bl r h=> ?_⟩
 unfold sp188 at h
 split at h
 ·rename_i b t
  obtain ⟨hpre,h2⟩:=chk_inv h;cases h2
  refine Eq.trans (b:=(Zw (chk (decide (Zy b≤70368744177664)) (some (Wz (b++Xy (↑(Zy t):Int) 1 false),[]))) fun (r:AV×Blocks)=>onNilB (Zp r) (AV.onOwnB (Zg r) fun l=>chk (room (Zy l+Zy t) 1) (some (Zk (l++t),[]))):Option (AV×Blocks))) (by kernel_rfl) ?_
  simp only [decide_eq_true_eq] at hpre
  simp only [A0]
  rw [chk_of (by simp;omega),chk_of (Up (by simp [Zj];omega))]
  rfl
 ·cases h
theorem w190:Walked Tryz.prog G 190 5 sp190:=by
 refine ⟨Tryz.f190,Tryz.func190,by decide +kernel,rfl,fun xs bl r h=> ?_⟩
 unfold sp190 at h
 split at h
 ·rename_i b t
  obtain ⟨hpre,h2⟩:=chk_inv h;cases h2
  refine Eq.trans (b:=(Zw (chk (decide (Zy b≤70368744177664)) (some (Wz (b++Xy (↑(Zy t):Int) 2 false),[]))) fun (r:AV×Blocks)=>onNilB (Zp r) (AV.onOwnB (Zg r) fun l=>chk (room (Zy l+Zy t) 1) (some (Zk (l++t),[]))):Option (AV×Blocks))) (by kernel_rfl) ?_
  simp only [decide_eq_true_eq] at hpre
  simp only [A0]
  rw [chk_of (by simp;omega),chk_of (Up (by simp [Zj];omega))]
  rfl
 ·cases h
theorem w204:Walked Tryz.prog G 204 5 sp204:=by
 refine ⟨Tryz.f204,Tryz.func204,by decide +kernel,rfl,fun xs bl r h=> ?_⟩
 unfold sp204 at h
 split at h
 ·rename_i b
  obtain ⟨hpre,h2⟩:=chk_inv h;cases h2
  refine Eq.trans (b:=(let t1:Int:=Zn .i64 (↑(BitVec.toNat (BitVec.ofInt (Qw .i64) (Zn .i64 (Zn .i64 (↑(Yf (Xb b (Yy 10) (0:UInt8))):Int)*2 ^ min (Yy 8) (Qw .i64))) ||| BitVec.ofInt (Qw .i64) (Zn .i64 (↑(Yf (Xb b (Yy 11) (0:UInt8))):Int)))):Int);let t2:Option (AV×Blocks):=some (Zf [Yw [Zz .i64 0,Zz .u64 0,Zk []],Zz .i64 0,Zz .i64 100],[]);let t3:Option (AV×Blocks):=some (Zf [Yw [Zz .i64 0,Zz .u64 0,Zk []],Zz .i64 0,Zz .i64 101],[]);let t0:Int:=Zn .i64 (12+t1);sel (decide ((↑(Zy b):Int)<12)) t3 (chk (decide (1<(↑(Zy b):Int))) (chk (decide (10≤(↑(Zy b):Int))) (Zw (chk (decide (Zy (Un (Yy 2) (Ub (Yy 10) b))≤4611686018427387904)) (some (Zf [Zz .u64 (Zg (Xk (Un (Yy 2) (Ub (Yy 10) b)))),Zu (Zp (Xk (Un (Yy 2) (Ub (Yy 10) b))))],[]))) (kT fun vs=>cInt .u64 vs fun n r=>cBool r fun b_1 r=>onNil r (chk (decide (10<(↑(Zy b):Int))) (chk (decide (11<(↑(Zy b):Int))) (chk (decide (0<(↑(Zy b):Int))) (sel (!Xb b (Yy 0) (0:UInt8)==(66:UInt8)) t2 (sel (!Kerb.isKind (Zn .i64 (↑(Yf (Xb b (Yy 1) (0:UInt8))):Int))) t2 (sel (!b_1) t2 (sel (decide (t1>1000)) t2 (sel (decide ((↑(Zy b):Int)<t0)) t3 (chk (decide (12≤t0)&&decide (t0≤t0)&&decide (t0≤(↑(Zy b):Int))) (Zw (chk (decide (Zy (Un (Yy 12) (Ub (Yy t0) b))≤140737488355328)) (some (Zk (Un (Yy 12) (Ub (Yy t0) b)),[]))) (kB fun b_2=>some (Zf [Yw [Zz .i64 (Zn .i64 (↑(Yf (Xb b (Yy 1) (0:UInt8))):Int)),Zz .u64 n,Zk b_2],Zz .i64 t0,Zz .i64 0],[])))))))))))))))):Option (AV×Blocks))) (by kernel_rfl) ?_
  delta kT kB
  try dsimp only [cStr,cBs,cBool,cU8,cInt,cSl,l63]
  simp only [decide_eq_true_eq] at hpre
  unfold Wx
  by_cases h0:b.length<12
  ·rw [sel_pos (by simp;omega),if_pos h0];rfl
  rw [sel_neg (by simp;omega),if_neg h0]
  have hc:=Kerb.cut_len b 2 8
  have hs:(b.getD 10 0).toNat*256+(b.getD 11 0).toNat=Kerb.boxSize b:=rfl
  simp only [Kerb.cut_28,Kerb.size_or]
  simp only [show Yy 0=0 from rfl,show Yy 1=1 from rfl,show Yy 10=10 from rfl,show Yy 11=11 from rfl,Kerb.wrap_byte,hs]
  rw [chk_of (by simp;omega),chk_of (by simp;omega),chk_of (by simp;omega)]
  simp only [↓A0]
  rw [chk_of (by simp;omega),chk_of (by simp;omega),chk_of (by simp;omega)]
  by_cases h1:b.getD 0 0=66
  case neg=>rw [sel_pos (by simpa using h1),if_pos (.inl h1)];rfl
  rw [sel_neg (by simpa using h1)]
  cases h2:Kerb.isKind ((b.getD 1 0).toNat:Int)
  ·rw [if_pos (.inr (.inl rfl))];rfl
  rw [Zm,sel_false]
  cases h3:(Xk (Kerb.cut b 2 8)).2
  ·rw [if_pos (.inr (.inr (.inl rfl)))];rfl
  rw [Zm,sel_false]
  by_cases h4:1000<Kerb.boxSize b
  ·rw [sel_pos (by simp;omega),if_pos (.inr (.inr (.inr h4)))];rfl
  rw [sel_neg (by simp;omega),if_neg (by rintro (h | h | h | h)<;>first | exact h h1 | cases h | omega),wrap_i64 (by omega) (by omega)]
  by_cases h5:b.length<12+Kerb.boxSize b
  ·rw [sel_pos (by simp;omega),if_pos h5];rfl
  have hc2:=Kerb.cut_len b 12 (Kerb.boxSize b)
  rw [sel_neg (by simp;omega),if_neg h5,Kerb.cut_12,chk_of (by simp;omega)]
  simp only [↓A0]
  rw [chk_of (by simp;omega)]
  simp
 ·cases h
theorem w207:Walked Tryz.prog G 207 5 sp207:=by
 refine ⟨Tryz.f207,Tryz.func207,by decide +kernel,rfl,fun xs bl r h=> ?_⟩
 unfold sp207 at h
 split at h
 ·rename_i B at_ bad
  obtain ⟨hpre,h2⟩:=chk_inv h;cases h2
  show runFnH (G.env 207 5) G.rts (G.own 207) Tryz.f207 _ _ [0]=_
  refine Eq.trans (b:=(Zw (chk (decide (Zy B≤140737488355328)) (some (Zk (Kerb.Rd.val (Uw B 8 at_ bad)),[[Zk B,Zz .i64 (Kerb.Rd.pos (Uw B 8 at_ bad)),Zu (Kerb.Rd.bad (Uw B 8 at_ bad))]]))) fun (r:AV×Blocks)=>onConsB (Zp r) fun (x:List AV) (r_1:List (List AV))=>onCons x fun x r_2=>Vy x fun b=>onCons r_2 fun x r_3=>Yp .i64 x fun n=>onCons r_3 fun x r_4=>Wh x fun b_1=>onNil r_4 (onNilB r_1 (Vy (Zg r) fun b_2=>Zw (chk (decide (Zy b_2≤4611686018427387904)) (some (Zf [Zz .u64 (Zg (Xk b_2)),Zu (Zp (Xk b_2))],[]))) fun (r:AV×Blocks)=>onNilB (Zp r) (Qd (Zg r) fun vs=>onCons vs fun x r=>Yp .u64 x fun n_1=>onCons r fun x r=>Wh x fun b_3=>onNil r (sel (!b_3) (some (Zz .u64 0,[[Zk b,Zz .i64 n,Zu true]])) (some (Zz .u64 n_1,[[Zk b,Zz .i64 n,Zu b_1]])))))):Option (AV×Blocks))) (by kernel_rfl) ?_
  have hb:=of_decide_eq_true hpre
  simp only [A0]
  have hl:(Uw B 8 at_ bad).val.length≤B.length:=Kerb.pBytes_len B 8 at_ bad
  rw [chk_of hpre,chk_of (by simp;omega)]
  unfold Kerb.pKey
  cases (Xk (Uw B 8 at_ bad).val).2
  ·simp [sel]
  ·simp [sel]
 ·cases h
theorem w34:Walked Tryz.prog G 34 6 sp34:=by
 refine ⟨Tryz.f34,Tryz.func34,by decide +kernel,rfl,fun xs bl r h=> ?_⟩
 unfold sp34 at h
 split at h
 ·rename_i pw pc pt pf
  cases h
  refine Eq.trans (b:=(let t0:List UInt8:=[(107:UInt8),(114:UInt8),(98:UInt8),(116:UInt8),(103:UInt8),(116:UInt8)];let t1:List UInt8:=[(1:UInt8),(2:UInt8),(3:UInt8)];let t4:Kerb.Prin:=Wg (Kerb.dataCache pc (Zn .i64 (↑(Yf pw):Int)));let t5:Kerb.Cache:=Kerb.dataCache (Un (Yy (↑(0:Nat):Int)) (Ub (Yy 300) pc)) (Zn .i64 (↑(Yf pw):Int));let t6:Bool:=decide (0≤Zn .i64 (↑(Yf pw):Int));let t2:Kerb.Prin:=Wg t5;let t3:List AV:=[Zz .u64 (Kerb.session 60),Zz .i64 (Zn .i64 (↑(Yf pf):Int)),Zz .i64 6,Zz .i64 1000,Zk t1];Zw (chk (t6&&decide (Zn .i64 (↑(Yf pw):Int)≤4611686018427387904)) (some (Yw [Zx (Ym (Yd (Zn .i64 (↑(Yf pw):Int)))),Zx (Yh (Yd (Zn .i64 (↑(Yf pw):Int)))),Zx (Yb (Yd (Zn .i64 (↑(Yf pw):Int))))],[]))) (kA fun cs=>cStr cs fun b r=>cStr r fun b_1 r=>cStr r fun b_2 r=>let t7:Kerb.Client:=Yj (Kerb.newClient (Zb b b_1 b_2) 1 300 false);onNil r (Zw (chk (l63 b&&l63 b_1&&l63 b_2) (some (Zf [Yw [Zx (Ym (Kerb.Client.me t7)),Zx (Yh (Kerb.Client.me t7)),Zx (Yb (Kerb.Client.me t7)),Zz .i64 (Kerb.Client.address t7),Zz .i64 (Kerb.Client.skew t7),Zu (Kerb.Client.little t7),Zx (Ym (Wg (Qu t7))),Zx (Yh (Wg (Qu t7))),Zx (Yb (Wg (Qu t7))),Xz 8 (Yn Yz (Vp (Qu t7))),Zz .i64 (Kerb.Client.wait t7),Zx (Ym (Kerb.Client.wanted t7)),Zx (Yh (Kerb.Client.wanted t7)),Zx (Yb (Kerb.Client.wanted t7)),Zz .u64 (Kerb.Client.session t7),Zz .i64 (Kerb.Client.time t7),Zz .i64 (Kerb.Client.life t7),Zz .i64 (Kerb.Client.checksum t7),Zz .i64 (Kerb.Client.tick t7)],Zz .i64 (Qy (Kerb.newClient (Zb b b_1 b_2) 1 300 false))],[]))) (kT fun vs=>onCons vs fun x r=>Xh x fun cs=>cStr cs fun b r_1=>cStr r_1 fun b_3 r_2=>cStr r_2 fun b_4 r_3=>let t8:Kerb.Cred:=Kerb.Cred.mk (Zb t0 b_4 b_4) (Kerb.session 60) (Zn .i64 (↑(Yf pf):Int)) 6 1000 t1;cInt .i64 r_3 fun n r_4=>cInt .i64 r_4 fun n_1 r_5=>cBool r_5 fun b_5 r_6=>cStr r_6 fun b_6 r_7=>cStr r_7 fun b_7 r_8=>cStr r_8 fun b_8 r_9=>cSl 8 r_9 fun b_9 r_10=>cInt .i64 r_10 fun n_2 r_11=>cStr r_11 fun b_10 r_12=>cStr r_12 fun b_11 r_13=>cStr r_13 fun b_12 r_14=>cInt .u64 r_14 fun n_3 r_15=>cInt .i64 r_15 fun n_4 r_16=>cInt .i64 r_16 fun n_5 r_17=>cInt .i64 r_17 fun n_6 r_18=>cInt .i64 r_18 fun n_7 r_19=>let t9:List AV:=[Zz .i64 n_2,Zx b_10,Zx b_11,Zx b_12,Zz .u64 n_3,Zz .i64 n_4,Zz .i64 n_5,Zz .i64 n_6,Zz .i64 n_7];onNil r_19 (cInt .i64 r fun n_8 r=>onNil r (sel (decide ((↑(Zy pc):Int)>300)) (chk (decide (300≤(↑(Zy pc):Int))) (Zw (chk (decide (Zy (Un (Yy (↑(0:Nat):Int)) (Ub (Yy 300) pc))≤1000000)&&t6&&decide (Zn .i64 (↑(Yf pw):Int)≤1000)) (some (Yw [Zx (Ym t2),Zx (Yh t2),Zx (Yb t2),Xz 8 (Yn Yz (Vp t5))],[]))) (kA fun cs=>cStr cs fun b_13 r=>cStr r fun b_14 r=>cStr r fun b_15 r=>cSl 8 r fun b_16 r=>let t10:Kerb.Prin:=Wg (Yj (Uk (Wd (Zb b_13 b_14 b_15) (Yn Vv b_16)) t8));onNil r (sel pt (Zw (chk (l63 b_13&&l63 b_14&&l63 b_15&&Uq b_16 Uv&&decide (Zy b_16≤1000000)&&Uv (Yw (Zx t0::Zx b_4::Zx b_4::t3))) (some (Zf [Yw [Zx (Ym t10),Zx (Yh t10),Zx (Yb t10),Xz 8 (Yn Yz (Vp (Yj (Uk (Wd (Zb b_13 b_14 b_15) (Yn Vv b_16)) t8))))],Zz .i64 (Qy (Uk (Wd (Zb b_13 b_14 b_15) (Yn Vv b_16)) t8))],[]))) (kT fun vs=>onCons vs fun x r=>Xh x fun cs=>cStr cs fun b_17 r_20=>cStr r_20 fun b_18 r_21=>cStr r_21 fun b_19 r_22=>cSl 8 r_22 fun b_20 r_23=>onNil r_23 (cInt .i64 r fun n_9 r=>onNil r (some (Yw (Zx b::Zx b_3::Zx b_4::Zz .i64 n::Zz .i64 n_1::Zu b_5::Zx b_17::Zx b_18::Zx b_19::Xz 8 b_20::t9),[]))))) (some (Yw (Zx b::Zx b_3::Zx b_4::Zz .i64 n::Zz .i64 n_1::Zu b_5::Zx b_13::Zx b_14::Zx b_15::Xz 8 b_16::t9),[])))))) (Zw (chk (decide (Zy pc≤1000000)&&t6&&decide (Zn .i64 (↑(Yf pw):Int)≤1000)) (some (Yw [Zx (Ym t4),Zx (Yh t4),Zx (Yb t4),Xz 8 (Yn Yz (Vp (Kerb.dataCache pc (Zn .i64 (↑(Yf pw):Int)))))],[]))) (kA fun cs=>cStr cs fun b_13 r=>cStr r fun b_14 r=>cStr r fun b_15 r=>cSl 8 r fun b_16 r=>let t11:Kerb.Prin:=Wg (Yj (Uk (Wd (Zb b_13 b_14 b_15) (Yn Vv b_16)) t8));onNil r (sel pt (Zw (chk (l63 b_13&&l63 b_14&&l63 b_15&&Uq b_16 Uv&&decide (Zy b_16≤1000000)&&Uv (Yw (Zx t0::Zx b_4::Zx b_4::t3))) (some (Zf [Yw [Zx (Ym t11),Zx (Yh t11),Zx (Yb t11),Xz 8 (Yn Yz (Vp (Yj (Uk (Wd (Zb b_13 b_14 b_15) (Yn Vv b_16)) t8))))],Zz .i64 (Qy (Uk (Wd (Zb b_13 b_14 b_15) (Yn Vv b_16)) t8))],[]))) (kT fun vs=>onCons vs fun x r=>Xh x fun cs=>cStr cs fun b_17 r_20=>cStr r_20 fun b_18 r_21=>cStr r_21 fun b_19 r_22=>cSl 8 r_22 fun b_20 r_23=>onNil r_23 (cInt .i64 r fun n_9 r=>onNil r (some (Yw (Zx b::Zx b_3::Zx b_4::Zz .i64 n::Zz .i64 n_1::Zu b_5::Zx b_17::Zx b_18::Zx b_19::Xz 8 b_20::t9),[]))))) (some (Yw (Zx b::Zx b_3::Zx b_4::Zz .i64 n::Zz .i64 n_1::Zu b_5::Zx b_13::Zx b_14::Zx b_15::Xz 8 b_16::t9),[])))))))))):Option (AV×Blocks))) (by kernel_rfl) ?_
  delta kT kA
  try dsimp only [cStr,cBs,cBool,cU8,cInt,cSl,l63]
  have w1:Zn .i64 ((pw.toNat:Nat):Int)=Wy pw:=Kerb.wrap_u8i pw
  have w2:Zn .i64 ((pf.toNat:Nat):Int)=Wy pf:=Kerb.wrap_u8i pf
  have b1:0≤Wy pw∧Wy pw≤255:=Kerb.u8i_bd pw
  have b2:Wy pw≤4611686018427387904:=by omega
  have b3:Wy pw≤1000:=by omega
  have hu:=Kerb.user_dec (Wy pw)
  have hn:Kerb.newClient ⟨(Yd (Wy pw)).name,(Yd (Wy pw)).inst,(Yd (Wy pw)).realm⟩ 1 300 false=⟨⟨⟨(Yd (Wy pw)).name,(Yd (Wy pw)).inst,(Yd (Wy pw)).realm⟩,1,300,false,⟨⟨(Yd (Wy pw)).name,(Yd (Wy pw)).inst,(Yd (Wy pw)).realm⟩,[]⟩,0,Kerb.noPrin,0,0,0,0,0⟩,0⟩:=Kerb.newClient_user _
  have hg:=Kerb.kacBase_good pw pc
  have g1:=Kerb.good_all hg
  have g2:=Kerb.good_lenT hg
  have hb:=Kerb.kacBase_is pw pc
  have ht0:=Kerb.tgtCred_ok hg (Wy pf)
  unfold Kerb.kacPerson Kerb.tgtCred Kerb.granter Kerb.tgs at *
  rw [hb] at hg g1 g2 ht0 ⊢
  have ht:Uv (.agg [.str [107,114,98,116,103,116],.str (Yd (Wy pw)).realm,.str (Yd (Wy pw)).realm,.int .u64 (Kerb.session 60),.int .i64 (Wy pf),.int .i64 6,.int .i64 1000,.bs [1,2,3]])=true:=Kerb.isCred_of ht0
  clear ht0
  obtain ⟨D,hD⟩:∃ D,Kerb.dataCache (pc.take 300) (Wy pw)=D:=⟨_,rfl⟩
  rw [hD] at hg g1 g2 ⊢
  obtain ⟨_,⟨q4,q5,q6⟩,q7,q8⟩:=hg
  simp only at g1 g2 q4 q5 q6 ⊢
  simp only [w1,w2,b1,b2,b3,hu,hn,decide_true,↓A0,A0,Xw]
  by_cases h:300<pc.length
  ·have e2:Un (Yy ((0:Nat):Int)) (Ub (Yy 300) pc)=pc.take 300:=rfl
   rw [sel_pos (by simp;omega),chk_of (by simp;omega)]
   simp only [e2]
   rw [chk_of (by simp;omega),hD]
   cases pt
   ·simp only [↓A0,A0,Vk];try rfl
   ·simp only [↓A0,A0,g1,g2,q4,q5,q6,ht,decide_true,Xw,Vk];try rfl
  ·rw [sel_neg (by simp;omega),chk_of (by simp;omega),Uu (by omega)] at *
   rw [hD]
   cases pt
   ·simp only [↓A0,A0,Vk];try rfl
   ·simp only [↓A0,A0,g1,g2,q4,q5,q6,ht,decide_true,Xw,Vk];try rfl
 ·cases h
theorem w49:Walked Tryz.prog G 49 6 sp49:=by
 refine ⟨Tryz.f49,Tryz.func49,by decide +kernel,rfl,fun xs bl r h=> ?_⟩
 unfold sp49 at h
 split at h
 ·rename_i rl els i now sk bd
  obtain ⟨hpre,h2⟩:=chk_inv h;cases h2
  refine Eq.trans (b:=(let t0:List AV:=[Yw [Zz .i64 0,Zx [],Zx [],Zx [],Zx [],Zx [],Zx [],Zx [],Zx [],Zx [],Zz .u64 0,Zz .u64 0,Zz .u64 0,Zk [],Zz .i64 0,Zz .i64 0],Zu false];let t1:AV:=Yw [Zx rl,Xz 9 els];Zw (chk (decide (Zy bd≤140737488355328)) (some (Zf [Yw [Zx (Kerb.KaSecret.label (Yj (Xq bd))),Zz .i64 (Kerb.KaSecret.time (Yj (Xq bd))),Zz .i64 (Kerb.KaSecret.start (Yj (Xq bd))),Zz .i64 (Kerb.KaSecret.stop (Yj (Xq bd))),Zz .u64 (Kerb.KaSecret.new (Yj (Xq bd)))],Zz .i64 (Qy (Xq bd))],[]))) (kT fun vs=>onCons vs fun x r=>Xh x fun cs=>cStr cs fun b r_1=>cInt .i64 r_1 fun n r_2=>cInt .i64 r_2 fun n_1 r_3=>cInt .i64 r_3 fun n_2 r_4=>cInt .u64 r_4 fun n_3 r_5=>onNil r_5 (cInt .i64 r fun n_4 r=>onNil r (sel (!n_4==0) (some (Zf (t1::Zk (Kerb.kaRefuse 3 80)::t0),[])) (sel (!b==[(67:UInt8),(80:UInt8),(87:UInt8),(108:UInt8)]) (some (Zf (t1::Zk (Kerb.kaRefuse 3 80)::t0),[])) (sel (!Kerb.near n now sk) (some (Zf (t1::Zk (Kerb.kaRefuse 3 37)::t0),[])) (Zw (chk (decide (0≤n_3)&&decide (n_3<18446744073709551616)) (some (Zz .i64 (Kerb.classOf n_3),[]))) (kI .i64 fun n_5=>sel (!n_5==1) (some (Zf (t1::Zk (Kerb.kaRefuse 3 10)::t0),[])) (Zw (chk (decide (0≤n)&&decide (n≤4294967295)) (some (Zz .i64 (Kerb.kaNext n),[]))) (kI .i64 fun n=>let t2:Kerb.KaAnswer:=Uy [(67:UInt8),(80:UInt8),(87:UInt8),(100:UInt8)] n 0 0 0 0 (Zb [] [] []) [];chk (decide (0≤i)&&decide (i<(↑(Zy els):Int))&&true) (Xh (Xb els (Yy i) Qp) fun cs=>cStr cs fun b r=>cStr r fun b r=>cInt .u64 r fun n r=>cInt .i64 r fun n_6 r=>cInt .i64 r fun n_7 r=>cInt .i64 r fun n_8 r=>cInt .i64 r fun n_9 r=>cInt .i64 r fun n_10 r=>cInt .i64 r fun n_11 r=>onNil r (Zw (chk (Kerb.isU64 n) (some (Zf [Zk (Zg (Vm 3 t2 n)),Zu (Zp (Vm 3 t2 n))],[]))) (kT fun vs=>cBs vs fun b r=>cBool r fun b_1 r=>onNil r (Zw (chk (l63 rl&&Uq els Kerb.isEntry&&decide (Zy els≤1000000)&&decide (0≤n_3)&&decide (n_3<18446744073709551616)) (some (Zf [Yw [Zx (Kerb.Db.realm (Yj (Kerb.rekey (Vd rl (Yn Wn els)) i n_3))),Xz 9 (Yn Wp (Kerb.Db.entries (Yj (Kerb.rekey (Vd rl (Yn Wn els)) i n_3))))],Zz .i64 (Qy (Kerb.rekey (Vd rl (Yn Wn els)) i n_3))],[]))) (kT fun vs=>onCons vs fun x r=>Xh x fun cs=>cStr cs fun b_2 r_6=>cSl 9 r_6 fun b_3 r_7=>onNil r_7 (cInt .i64 r fun n r=>onNil r (sel (!b_1) (some (Zf (t1::Zk []::t0),[])) (sel (!n==0) (some (Zf (t1::Zk []::t0),[])) (Zw (chk (Uq b_3 Kerb.isEntry&&decide (Zy b_3≤1000000)&&decide (0≤i)&&decide (i<(↑(Zy b_3):Int))) (some (Yw [Zx (Kerb.Db.realm (Kerb.kaClear (Vd b_2 (Yn Wn b_3)) i)),Xz 9 (Yn Wp (Kerb.Db.entries (Kerb.kaClear (Vd b_2 (Yn Wn b_3)) i)))],[]))) (kA fun cs=>cStr cs fun b_4 r=>cSl 9 r fun b_5 r=>onNil r (some (Zf (Yw [Zx b_4,Xz 9 b_5]::Zk b::t0),[]))))))))))))))))))))):Option (AV×Blocks))) (by kernel_rfl) ?_
  delta kT kA kI
  try dsimp only [cStr,cBs,cBool,cU8,cInt,cSl,l63]
  simp only [Yu,decide_eq_true_eq] at hpre
  obtain ⟨⟨⟨⟨⟨⟨c7,hall⟩,hlen⟩,he⟩,hbl⟩,h0⟩,h1⟩:=hpre
  obtain ⟨es,rfl,hok⟩:=Kerb.ents_of hall
  rw [Kerb.map_toEntry] at *
  simp only [Vh] at hlen h1
  have i0:decide (0≤i)=true:=by simp;omega
  have i1:decide (i<(es.length:Int))=true:=by simp;omega
  have hlb:[(67:UInt8),(80:UInt8),(87:UInt8),(108:UInt8)]=Vn:=rfl
  have hlb2:[(67:UInt8),(80:UInt8),(87:UInt8),(100:UInt8)]=Kerb.lDone:=rfl
  have bl:decide (bd.length≤140737488355328)=true:=by simp;omega
  simp only [hlb,hlb2,Kerb.map_toEntry,hall,Vh,hlen,bl,c7,i0,i1,decide_true,Xw,List.map_nil,↓A0,A0]
  have hrk:=fun k=>Kerb.rekey_clear (d:=⟨rl,es⟩) (i:=i) (k:=k) he h0 h1
  unfold Kerb.kaChangePw
  dsimp only
  have sb:=Kerb.kaSec_bd bd
  by_cases h1:(Xq bd).err=0
  case neg=>rw [sel_pos (by simpa using h1),Kerb.kaSecOf_1 h1];rfl
  by_cases h2:(Xq bd).val.label=Vn
  case neg=>rw [sel_neg (by simpa using h1),sel_pos (by simpa using h2),Kerb.kaSecOf_2 h2];rfl
  rw [sel_neg (by simpa using h1),sel_neg (by simpa using h2)]
  cases h3:Kerb.near (Xq bd).val.time now sk
  ·rw [Kerb.kaSecOf_3 h1 h2 h3];rfl
  rw [sel_neg (by rfl),Kerb.kaSecOf_4 h1 h2 h3]
  generalize Xq bd=D at sb
  dsimp only
  rw [chk_of (by simp;exact sb.2.2)]
  by_cases h4:Kerb.classOf D.val.new=1
  case neg=>rw [sel_pos (by simpa using h4),if_neg (show ¬ ((0:Int)≠0) from by decide),if_pos h4];try rfl
  rw [sel_neg (by simpa using h4),if_neg (show ¬ ((0:Int)≠0) from by decide),if_neg (not_not_intro h4),chk_of (by simp;exact sb.1),Um (by omega)]
  have ho:=hok _ (Kerb.ent_mem (es:=es) (i:=i.toNat) (by omega))
  unfold Kerb.entAt
  dsimp only
  generalize es.getD i.toNat Kerb.noEntry=w at ho ⊢
  have n0:decide (0≤D.val.new)=true:=decide_eq_true sb.2.2.1
  have n1:decide (D.val.new<18446744073709551616)=true:=decide_eq_true sb.2.2.2
  simp only [Wp,n0,n1,ho.2.2.1,Xw,↓A0,A0]
  rw [show Kerb.noPrin=⟨[],[],[]⟩ from rfl]
  generalize Vm 3 _ w.key=B
  obtain ⟨ans,ok⟩:=B
  dsimp only
  obtain ⟨k1,k2⟩:=hrk D.val.new
  rw [k1]
  cases ok
  ·rw [sel_pos (by rfl),if_pos (.inl rfl)];try rfl
  rw [sel_neg (by rfl)]
  by_cases h5:(Kerb.rekey ⟨rl,es⟩ i D.val.new).err=0
  case neg=>rw [sel_pos (by simpa using h5),if_pos (.inr h5)];try rfl
  rw [sel_neg (by simpa using h5),if_neg (by simp [h5])]
  obtain ⟨r1,r2,r3⟩:=Kerb.rekey_ok (d:=⟨rl,es⟩) (i:=i) (k:=D.val.new) hok (Kerb.isU64_iff.2 sb.2.2) h5
  have r4:=Kerb.all_ents r1
  dsimp only at r2
  rw [chk_of (by rw [r4,r2,i1,decide_eq_true hlen];rfl),k2 h5]
  rfl
 ·cases h
theorem w61:Walked Tryz.prog G 61 6 sp61:=by
 refine ⟨Tryz.f61,Tryz.func61,by decide +kernel,rfl,fun xs bl r h=> ?_⟩
 unfold sp61 at h
 split at h
 ·rename_i li x y z ad k lf iss sv ins key
  obtain ⟨hpre,h2⟩:=chk_inv h;cases h2
  refine Eq.trans (b:=(Zw (chk (decide (Zy x≤9223372036854775807)&&decide (Zy y≤9223372036854775807)&&decide (Zy z≤9223372036854775807)&&decide (Zy sv≤9223372036854775807)&&decide (Zy ins≤9223372036854775807)&&decide (0≤k)&&decide (k<18446744073709551616)) (some (Zf [Zk (Wf (Wm (Uh li (Zb x y z) ad k lf iss sv ins))),Zz .i64 (Wv (Wm (Uh li (Zb x y z) ad k lf iss sv ins)))],[]))) fun (r:AV×Blocks)=>onNilB (Zp r) (Qd (Zg r) fun vs=>onCons vs fun x r=>Vy x fun b=>onCons r fun x r=>Yp .i64 x fun n=>onNil r (sel (!n==0) (some (Zf [Zk [],Zz .i64 n],[])) (Zw (chk (decide (0≤key)&&decide (key<18446744073709551616)) (some (Zf [Zk (Wf (Kerb.makeBox 1 key b)),Zz .i64 (Wv (Kerb.makeBox 1 key b))],[]))) fun (r:AV×Blocks)=>onNilB (Zp r) (Qd (Zg r) fun vs=>onCons vs fun x r=>Vy x fun b=>onCons r fun x r=>Yp .i64 x fun n=>onNil r (some (Zf [Zk b,Zz .i64 n],[])))))):Option (AV×Blocks))) (by kernel_rfl) ?_
  simp only [Yu,decide_eq_true_eq] at hpre
  obtain ⟨⟨⟨⟨⟨⟨⟨⟨h1,h2⟩,h3⟩,h4⟩,h5⟩,h6⟩,h7⟩,h8⟩,h9⟩:=hpre
  simp only [h1,h2,h3,h4,h5,h6,h7,h8,h9,decide_true,Xw,↓A0,A0]
  unfold Kerb.sealTicket
  generalize Wm _=E
  by_cases he:E.err=0
  ·rw [sel_neg (by simpa using he),if_neg (by simpa using he)]
  ·rw [sel_pos (by simpa using he),if_pos he]
 ·cases h
theorem w108:Walked Tryz.prog G 108 6 sp108:=by
 refine ⟨Tryz.f108,Tryz.func108,by decide +kernel,rfl,fun xs bl r h=> ?_⟩
 unfold sp108 at h
 split at h
 ·rename_i op lb tm qk q1 q2 q3 q4 q5 q6 q7 q8 q9 qs ql qg qt qi qe pk p1 p2 p3 pl pv pt pm key
  obtain ⟨hpre,h2⟩:=chk_inv h;cases h2
  refine Eq.trans (b:=(Zw (chk (decide (0≤tm)&&decide (tm≤4294967295)) (some (Zz .i64 (Kerb.kaNext tm),[]))) fun (r:AV×Blocks)=>onNilB (Zp r) (Yp .i64 (Zg r) fun n=>Zw (chk (decide (Zy q7≤9223372036854775807)&&decide (Zy q8≤9223372036854775807)&&decide (Zy q9≤9223372036854775807)&&decide (Zy lb≤9223372036854775807)&&Kerb.isU64 qs&&Kerb.isU64 key) (some (Zf [Zk (Zg (Vm op (Uy lb n qs qi (Kerb.imin qe 4294967295) pv (Zb q7 q8 q9) qt) key)),Zu (Zp (Vm op (Uy lb n qs qi (Kerb.imin qe 4294967295) pv (Zb q7 q8 q9) qt) key))],[]))) fun (r:AV×Blocks)=>onNilB (Zp r) (Qd (Zg r) fun vs=>onCons vs fun x r=>Vy x fun b=>onCons r fun x r=>Wh x fun b_1=>onNil r (some (Zf [Zk b,Zu b_1],[])))):Option (AV×Blocks))) (by kernel_rfl) ?_
  simp only [Yu,decide_eq_true_eq] at hpre
  simp only [Kerb.isU64_iff] at hpre
  obtain ⟨⟨⟨⟨⟨⟨⟨h1,h2⟩,h3⟩,h4⟩,h5⟩,h6⟩,h7⟩,h8⟩:=hpre
  simp only [h1,h2,h3,h4,h7,h8,Kerb.isU64_iff.2 h5,Kerb.isU64_iff.2 h6,decide_true,Xw,↓A0,A0]
 ·cases h
theorem w120:Walked Tryz.prog G 120 6 sp120:=by
 refine ⟨Tryz.f120,Tryz.func120,by decide +kernel,rfl,fun xs bl r h=> ?_⟩
 unfold sp120 at h
 split at h
 ·rename_i op cd bx
  cases h
  refine Eq.trans (b:=(let t2:List UInt8:=Kerb.header 9 false++Xy (Zn .i64 (op+128)) 1 false;let t1:Nat:=Zy t2;let t0:Option (AV×Blocks):=Zw (chk (decide (t1≤70368744177664)) (some (Wz (t2++Xy cd 1 false),[]))) (kO fun l=>Zw (chk (decide (Zy l+Zy bx≤70368744170000)) (some (Zk (Kerb.putBox l bx),[]))) (kB fun b=>some (Zf [Zk b,Zz .i64 0],[])));sel (!Kerb.kaOp op) (some (Zf [Zk [],Zz .i64 40],[])) (sel (!Yx cd 99) (some (Zf [Zk [],Zz .i64 104],[])) (sel (decide ((↑(Zy bx):Int)>1012)) (some (Zf [Zk [],Zz .i64 105],[])) (sel (!cd==0) (sel (decide ((↑(Zy bx):Int)>0)) (some (Zf [Zk [],Zz .i64 108],[])) t0) t0))):Option (AV×Blocks))) (by kernel_rfl) ?_
  delta kB kO
  try dsimp only [cStr,cBs,cBool,cU8,cInt,cSl,l63]
  simp only [A0]
  have hl9:(Kerb.header 9 false).length=2:=rfl
  unfold Wb
  simp only
  cases h0:Kerb.kaOp op
  ·rfl
  rw [Zm,sel_false,if_neg (by simp)]
  have ho:=Kerb.kaOp_iff.1 h0
  cases h1:Yx cd 99
  ·rfl
  rw [Zm,sel_false,if_neg (by simp)]
  by_cases h2:1012<bx.length
  ·rw [sel_pos (by simp;omega),if_pos h2]
  rw [sel_neg (by simp;omega),if_neg h2,wrap_i64 (by omega) (by omega)]
  by_cases h3:cd=0
  ·rw [sel_neg (by simp [h3]),if_neg (by simp [h3]),chk_of (by simp [Zj,hl9]),chk_of (by simp [Zj,hl9];omega)]
   rfl
  rw [sel_pos (by simpa using h3)]
  by_cases h4:bx=[]
  ·rw [sel_neg (by simp [h4]),if_neg (by simp [h4]),chk_of (by simp [Zj,hl9]),chk_of (by simp [Zj,hl9];omega)]
   rfl
  ·rw [sel_pos (by have:=List.length_pos_iff.2 h4;simp;omega),if_pos ⟨h3,h4⟩]
 ·cases h
theorem w122:Walked Tryz.prog G 122 6 sp122:=by
 refine ⟨Tryz.f122,Tryz.func122,by decide +kernel,rfl,fun xs bl r h=> ?_⟩
 unfold sp122 at h
 split at h
 ·rename_i b kd k
  obtain ⟨hpre,h2⟩:=chk_inv h;cases h2
  refine Eq.trans (b:=(Zw (chk (decide (Zy b≤140737488355328)) (some (Zf [Yw [Zz .i64 (Kerb.Box.kind (Vb (Wx b))),Zz .u64 (Kerb.Box.key (Vb (Wx b))),Zk (Kerb.Box.body (Vb (Wx b)))],Zz .i64 (Kerb.GotBox.n (Wx b)),Zz .i64 (Kerb.GotBox.err (Wx b))],[]))) fun (r:AV×Blocks)=>onNilB (Zp r) (Qd (Zg r) fun vs=>onCons vs fun x r=>Xh x fun cs=>onCons cs fun x r_1=>Yp .i64 x fun n=>onCons r_1 fun x r_2=>Yp .u64 x fun n_1=>onCons r_2 fun x r_3=>Vy x fun b_1=>onNil r_3 (onCons r fun x r=>Yp .i64 x fun n_2=>onCons r fun x r=>Yp .i64 x fun n_3=>onNil r (sel (!n_3==0) (some (Zf [Zk [],Zu false],[])) (sel (!n_2==(↑(Zy b):Int)) (some (Zf [Zk [],Zu false],[])) (sel (!n==kd) (some (Zf [Zk [],Zu false],[])) (sel (!n_1==k) (some (Zf [Zk [],Zu false],[])) (some (Zf [Zk b_1,Zu true],[])))))))):Option (AV×Blocks))) (by kernel_rfl) ?_
  simp only [↓A0,hpre]
  unfold Kerb.openBox
  generalize Wx b=r
  by_cases h1:r.err=0
  case neg=>rw [sel_pos (by simpa using h1),if_pos (.inl h1)]
  rw [sel_neg (by simpa using h1)]
  by_cases h2:r.n=b.length
  case neg=>rw [sel_pos (by simpa using h2),if_pos (.inr (.inl h2))]
  rw [sel_neg (by simpa using h2)]
  by_cases h3:r.box.kind=kd
  case neg=>rw [sel_pos (by simpa using h3),if_pos (.inr (.inr (.inl h3)))]
  rw [sel_neg (by simpa using h3)]
  by_cases h4:r.box.key=k
  case neg=>rw [sel_pos (by simpa using h4),if_pos (.inr (.inr (.inr h4)))]
  rw [sel_neg (by simpa using h4),if_neg (by simp [h1,h2,h3,h4])]
 ·cases h
theorem w128:Walked Tryz.prog G 128 6 sp128:=by
 refine ⟨Tryz.f128,Tryz.func128,by decide +kernel,rfl,fun xs bl r h=> ?_⟩
 unfold sp128 at h
 split at h
 ·rename_i s
  obtain ⟨hpre,h2⟩:=chk_inv h;cases h2
  refine Eq.trans (b:=(sel (!s==[]) (Zw (chk (decide (Zy s≤9223372036854775807)) (some (Zu (Uj s),[]))) fun (r:AV×Blocks)=>onNilB (Zp r) (Wh (Zg r) fun b=>some (Zu b,[]))) (some (Zu false,[])):Option (AV×Blocks))) (by kernel_rfl) ?_
  simp only [A0]
  rw [chk_of hpre]
  simp only [Qv]
  cases s<;>rfl
 ·cases h
theorem w191:Walked Tryz.prog G 191 6 sp191:=by
 refine ⟨Tryz.f191,Tryz.func191,by decide +kernel,rfl,fun xs bl r h=> ?_⟩
 unfold sp191 at h
 split at h
 ·rename_i b
  obtain ⟨hpre,h2⟩:=chk_inv h;cases h2
  refine Eq.trans (b:=(let t2:AV:=Yw [Zu false,Zx [],Zx [],Zx [],Zz .i64 0,Zz .u64 0,Zz .i64 0,Zz .i64 0,Zx [],Zx []];let t1:Option (AV×Blocks):=some (Zf [t2,Zz .i64 100],[]);let t0:Option (AV×Blocks):=Zw (chk (decide (Zy b≤140737488355328)) (some (Zz .i64 (Xm (Zh b 0 1 false)),[[Zk b,Zz .i64 (bif false || !Yv (Zh b 0 1 false)==0 then 0 else Xg (Zh b 0 1 false)),Zu false,Zu !Yv (Zh b 0 1 false)==0]]))) fun (r:AV×Blocks)=>onConsB (Zp r) fun (x:List AV) (r_1:List (List AV))=>cBs x fun b_1 r_2=>cInt .i64 r_2 fun n r_3=>cBool r_3 fun b_2 r_4=>cBool r_4 fun b_3 r_5=>onNil r_5 (onNilB r_1 (Yp .i64 (Zg r) fun n_1=>Zw (chk (decide (Zy b_1≤140737488355328)) (some (Yw [Zx (Ym (Qb (Wq b_1 n b_3))),Zx (Yh (Qb (Wq b_1 n b_3))),Zx (Yb (Qb (Wq b_1 n b_3)))],[[Zk b_1,Zz .i64 (Kerb.RdP.pos (Wq b_1 n b_3)),Zu (n_1==1),Zu (Kerb.RdP.bad (Wq b_1 n b_3))]]))) fun (r:AV×Blocks)=>onConsB (Zp r) fun (x:List AV) (r_6:List (List AV))=>cBs x fun b_4 r_7=>cInt .i64 r_7 fun n r_8=>cBool r_8 fun b_5 r_9=>cBool r_9 fun b_6 r_10=>onNil r_10 (onNilB r_6 (Xh (Zg r) fun cs=>cStr cs fun b_7 r=>cStr r fun b_8 r=>cStr r fun b_9 r=>onNil r (Zw (chk (decide (Zy b_4≤140737488355328)) (some (Zz .i64 (Xm (Zh b_4 n 4 b_5)),[[Zk b_4,Zz .i64 (bif b_6 || !Yv (Zh b_4 n 4 b_5)==0 then n else Xg (Zh b_4 n 4 b_5)),Zu b_5,Zu (b_6 || !Yv (Zh b_4 n 4 b_5)==0)]]))) fun (r:AV×Blocks)=>onConsB (Zp r) fun (x:List AV) (r_11:List (List AV))=>cBs x fun b_10 r_12=>cInt .i64 r_12 fun n r_13=>cBool r_13 fun b_11 r_14=>cBool r_14 fun b_12 r_15=>onNil r_15 (onNilB r_11 (Yp .i64 (Zg r) fun n_2=>Zw (chk (decide (Zy b_10≤140737488355328)) (some (Zk (Ww (Yk b_10 n 8)),[[Zk b_10,Zz .i64 (bif b_12 || !Yq (Yk b_10 n 8)==0 then n else Xn (Yk b_10 n 8)),Zu b_11,Zu (b_12 || !Yq (Yk b_10 n 8)==0)]]))) fun (r:AV×Blocks)=>onConsB (Zp r) fun (x:List AV) (r_16:List (List AV))=>cBs x fun b_13 r_17=>cInt .i64 r_17 fun n r_18=>cBool r_18 fun b_14 r_19=>cBool r_19 fun b_15 r_20=>onNil r_20 (onNilB r_16 (Vy (Zg r) fun b_16=>Zw (chk (decide (Zy b_16≤4611686018427387904)) (some (Zf [Zz .u64 (Zg (Xk b_16)),Zu (Zp (Xk b_16))],[]))) (kT fun vs=>cInt .u64 vs fun n_3 r=>cBool r fun b_17 r=>onNil r (Zw (chk (decide (Zy b_13≤140737488355328)) (some (Zz .i64 (Xm (Zh b_13 n 1 false)),[[Zk b_13,Zz .i64 (bif b_15 || !Yv (Zh b_13 n 1 false)==0 then n else Xg (Zh b_13 n 1 false)),Zu b_14,Zu (b_15 || !Yv (Zh b_13 n 1 false)==0)]]))) fun (r:AV×Blocks)=>onConsB (Zp r) fun (x:List AV) (r_21:List (List AV))=>cBs x fun b_18 r_22=>cInt .i64 r_22 fun n r_23=>cBool r_23 fun b_19 r_24=>cBool r_24 fun b_20 r_25=>onNil r_25 (onNilB r_21 (Yp .i64 (Zg r) fun n_4=>Zw (chk (decide (Zy b_18≤140737488355328)) (some (Zz .i64 (Xm (Zh b_18 n 4 b_19)),[[Zk b_18,Zz .i64 (bif b_20 || !Yv (Zh b_18 n 4 b_19)==0 then n else Xg (Zh b_18 n 4 b_19)),Zu b_19,Zu (b_20 || !Yv (Zh b_18 n 4 b_19)==0)]]))) fun (r:AV×Blocks)=>onConsB (Zp r) fun (x:List AV) (r_26:List (List AV))=>cBs x fun b_21 r_27=>cInt .i64 r_27 fun n r_28=>cBool r_28 fun b_22 r_29=>cBool r_29 fun b_23 r_30=>onNil r_30 (onNilB r_26 (Yp .i64 (Zg r) fun n_5=>Zw (chk (decide (Zy b_21≤140737488355328)) (some (Zx (Ww (Xj b_21 n)),[[Zk b_21,Zz .i64 (bif b_23 || !Yq (Xj b_21 n)==0 then n else Xn (Xj b_21 n)),Zu b_22,Zu (b_23 || !Yq (Xj b_21 n)==0)]]))) fun (r:AV×Blocks)=>onConsB (Zp r) fun (x:List AV) (r_31:List (List AV))=>cBs x fun b_24 r_32=>cInt .i64 r_32 fun n r_33=>cBool r_33 fun b_25 r_34=>cBool r_34 fun b_26 r_35=>onNil r_35 (onNilB r_31 (AV.onStr (Zg r) fun b_27=>Zw (chk (decide (Zy b_24≤140737488355328)) (some (Zx (Ww (Xj b_24 n)),[[Zk b_24,Zz .i64 (bif b_26 || !Yq (Xj b_24 n)==0 then n else Xn (Xj b_24 n)),Zu b_25,Zu (b_26 || !Yq (Xj b_24 n)==0)]]))) fun (r:AV×Blocks)=>onConsB (Zp r) fun (x:List AV) (r_36:List (List AV))=>cBs x fun b_28 r_37=>cInt .i64 r_37 fun n r_38=>cBool r_38 fun b_29 r_39=>cBool r_39 fun b_30 r_40=>onNil r_40 (onNilB r_36 (AV.onStr (Zg r) fun b_31=>Zw (chk (l63 b_7&&l63 b_8&&l63 b_9&&l63 b_27&&l63 b_31&&decide (0≤n_3)&&decide (n_3<18446744073709551616)) (some (Zf [Zk (Wf (Wm (Uh (n_1==1) (Zb b_7 b_8 b_9) n_2 n_3 n_4 n_5 b_27 b_31))),Zz .i64 (Wv (Wm (Uh (n_1==1) (Zb b_7 b_8 b_9) n_2 n_3 n_4 n_5 b_27 b_31)))],[]))) (kT fun vs=>cBs vs fun b_32 r=>cInt .i64 r fun n r=>onNil r (sel b_30 t1 (sel (!n==0) t1 (sel (!b_32==b) t1 (some (Zf [Yw [Zu (n_1==1),Zx b_7,Zx b_8,Zx b_9,Zz .i64 n_2,Zz .u64 n_3,Zz .i64 n_4,Zz .i64 n_5,Zx b_27,Zx b_31],Zz .i64 0],[])))))))))))))))))))))))));sel (decide ((↑(Zy b):Int)>0)) (chk (decide (0<(↑(Zy b):Int))) (sel (decide ((↑(Yf (Xb b (Yy 0) (0:UInt8))):Int)>(↑(Yf (1:UInt8)):Int))) (some (Zf [t2,Zz .i64 7],[])) t0)) t0:Option (AV×Blocks))) (by kernel_rfl) ?_
  delta kT
  try dsimp only [cStr,cBs,cBool,cU8,cInt,cSl,l63]
  have hb:=of_decide_eq_true hpre
  simp only [hpre,↓A0,A0]
  unfold Xx
  rw [Kerb.decTicket_ref]
  have hl:∀ p n,(Yk b p n).val.length≤4611686018427387904:=fun p n=>Yg (Kerb.bytes_len b p n) (by omega)
  have hk:∀ q,0≤(Xk q).1∧(Xk q).1<18446744073709551616:=Kerb.keyRead_bd
  have hx:∀ q,(Xj b q).val.length≤40:=Kerb.text_len b
  have lp:∀ q bd,(Wq b q bd).p.name.length≤40∧(Wq b q bd).p.inst.length≤40∧(Wq b q bd).p.realm.length≤40:=Kerb.rdPrin_len b
  have h7b:¬ (0<b.length)→¬ 1<(Zh b 0 1 false).val:=by
   intro h
   have:b=[]:=List.eq_nil_of_length_eq_zero (by omega)
   subst this
   decide
  have hv:0<b.length→(Zh b 0 1 false).val=((Xb b (Yy 0) 0).toNat:Int):=by
   intro h
   cases b with
   | nil=>simp at h
   | cons c r =>
    have hr:Kerb.room (c::r) 0 1=0:=Kerb.room_zero.2 ⟨by omega,by simp only [List.length_cons];omega,by omega,by simp only [List.length_cons];omega⟩
    unfold Zh
    rw [if_pos hr]
    simp [Kerb.cut,Kerb.valB]
  have fin:=Uf (no:=Kerb.noTicket) (enc:=Wm) (b:=b) (rd:=fun b=>((Kerb.rdTicket b).val,(Kerb.rdTicket b).bad)) _ _ rfl (fun x e=>(Zf [Yw [Zu (x).little,Zx (x).client.name,Zx (x).client.inst,Zx (x).client.realm,Zz Zd (x).address,Zz Vf (x).session,Zz Zd (x).life,Zz Zd (x).issued,Zx (x).service,Zx (x).inst],Zz Zd e],([]:Blocks)))
  by_cases h:0<b.length
  ·rw [sel_pos (by simp only [decide_eq_true_eq];omega),chk_of (by simp only [decide_eq_true_eq];omega)]
   have hv:=hv h
   by_cases h7:1<(Zh b 0 1 false).val
   ·rw [sel_pos (by rw [hv] at h7;exact decide_eq_true h7),if_pos h7]
    rfl
   rw [sel_neg (by rw [hv] at h7;exact decide_eq_false h7),if_neg h7]
   rw [chk_of (by simp only [decide_eq_true_eq];exact hl _ _),chk_of (by simp only [Yu,decide_eq_true_eq];exact ⟨⟨⟨⟨⟨⟨Yg (lp _ _).1 (by decide),Yg (lp _ _).2.1 (by decide)⟩,Yg (lp _ _).2.2 (by decide)⟩,Yg (hx _) (by decide)⟩,Yg (hx _) (by decide)⟩,(hk _).1⟩,(hk _).2⟩)]
   exact fin
  ·rw [sel_neg (by simp only [decide_eq_false_iff_not];omega),if_neg (h7b h)]
   rw [chk_of (by simp only [decide_eq_true_eq];exact hl _ _),chk_of (by simp only [Yu,decide_eq_true_eq];exact ⟨⟨⟨⟨⟨⟨Yg (lp _ _).1 (by decide),Yg (lp _ _).2.1 (by decide)⟩,Yg (lp _ _).2.2 (by decide)⟩,Yg (hx _) (by decide)⟩,Yg (hx _) (by decide)⟩,(hk _).1⟩,(hk _).2⟩)]
   exact fin
 ·cases h
theorem w52:Walked Tryz.prog G 52 7 sp52:=by
 refine ⟨Tryz.f52,Tryz.func52,by decide +kernel,rfl,fun xs bl r h=> ?_⟩
 unfold sp52 at h
 split at h
 ·rename_i b
  obtain ⟨hpre,h2⟩:=chk_inv h;cases h2
  refine Eq.trans (b:=(let t0:Option (AV×Blocks):=some (Zf [Yw [Zz .i64 0,Zz .i64 0,Zk []],Zz .i64 100],[]);sel (!Zp (Qf b [9])==0) (some (Zf [Yw [Zz .i64 0,Zz .i64 0,Zk []],Zz .i64 (Zp (Qf b [9]))],[])) (Zw (chk (decide (Zy b≤140737488355328)) (some (Zz .i64 (Kerb.Rd.val (Ux b 1 2 false)),[[Zk b,Zz .i64 (Kerb.Rd.pos (Ux b 1 2 false)),Zu (Kerb.Rd.bad (Ux b 1 2 false))]]))) fun (r:AV×Blocks)=>onConsB (Zp r) fun (x:List AV) (r_1:List (List AV))=>cBs x fun b_1 r_2=>cInt .i64 r_2 fun n r_3=>cBool r_3 fun b_2 r_4=>onNil r_4 (onNilB r_1 (Yp .i64 (Zg r) fun n_1=>Zw (chk (decide (Zy b_1≤140737488355328)) (some (Zz .i64 (Kerb.Rd.val (Ux b_1 1 n b_2)),[[Zk b_1,Zz .i64 (Kerb.Rd.pos (Ux b_1 1 n b_2)),Zu (Kerb.Rd.bad (Ux b_1 1 n b_2))]]))) fun (r:AV×Blocks)=>onConsB (Zp r) fun (x:List AV) (r_5:List (List AV))=>cBs x fun b_3 r_6=>cInt .i64 r_6 fun n r_7=>cBool r_7 fun b_4 r_8=>onNil r_8 (onNilB r_5 (Yp .i64 (Zg r) fun n_2=>Zw (chk (decide (Zy b_3≤140737488355328)) (some (Zz .i64 (Kerb.Rd.val (Ux b_3 2 n b_4)),[[Zk b_3,Zz .i64 (Kerb.Rd.pos (Ux b_3 2 n b_4)),Zu (Kerb.Rd.bad (Ux b_3 2 n b_4))]]))) fun (r:AV×Blocks)=>onConsB (Zp r) fun (x:List AV) (r_9:List (List AV))=>cBs x fun b_5 r_10=>cInt .i64 r_10 fun n r_11=>cBool r_11 fun b_6 r_12=>onNil r_12 (onNilB r_9 (Yp .i64 (Zg r) fun n_3=>Zw (chk (decide (Zy b_5≤140737488355328)) (some (Zk (Kerb.Rd.val (Uw b_5 n_3 n b_6)),[[Zk b_5,Zz .i64 (Kerb.Rd.pos (Uw b_5 n_3 n b_6)),Zu (Kerb.Rd.bad (Uw b_5 n_3 n b_6))]]))) fun (r:AV×Blocks)=>onConsB (Zp r) fun (x:List AV) (r_13:List (List AV))=>cBs x fun b_7 r_14=>cInt .i64 r_14 fun n r_15=>cBool r_15 fun b_8 r_16=>onNil r_16 (onNilB r_13 (Vy (Zg r) fun b_9=>sel b_8 t0 (sel (!Wv (Wb (Qk (Zn .i64 (n_1-128)) n_2 b_9))==0) t0 (sel (!Wf (Wb (Qk (Zn .i64 (n_1-128)) n_2 b_9))==b) t0 (some (Zf [Yw [Zz .i64 (Zn .i64 (n_1-128)),Zz .i64 n_2,Zk b_9],Zz .i64 0],[]))))))))))))):Option (AV×Blocks))) (by kernel_rfl) ?_
  try dsimp only [cStr,cBs,cBool,cU8,cInt,cSl,l63]
  have hb:=of_decide_eq_true hpre
  simp only [A0]
  by_cases h:(Qf b [9]).2=0
  case neg =>
   rw [sel_pos (by simpa using h)]
   unfold Kerb.decodeKaReply
   rw [if_pos h]
   rfl
  have hd:Kerb.decodeKaReply b=Kerb.decBy Kerb.noKaReply Wb Kerb.readKaRep b:=by unfold Kerb.decodeKaReply;rw [if_neg (by simpa using h)]
  rw [sel_neg (by simp [h]),hd]
  have hg:=Kerb.pGet_bd b 1 2 false (by omega)
  rw [chk_of hpre,chk_of hpre,chk_of hpre,chk_of hpre,wrap_i64 (by omega) (by omega)]
  exact Uf (no:=Kerb.noKaReply) (enc:=Wb) (rd:=Kerb.readKaRep) _ _ rfl (fun x e=>(Zf [Yw [Zz Zd (x).op,Zz Zd (x).code,Zk (x).box],Zz Zd e],([]:Blocks)))
 ·cases h
theorem w56:Walked Tryz.prog G 56 7 sp56:=by
 refine ⟨Tryz.f56,Tryz.func56,by decide +kernel,rfl,fun xs bl r h=> ?_⟩
 unfold sp56 at h
 split at h
 ·rename_i a b c
  obtain ⟨hpre,h2⟩:=chk_inv h;cases h2
  refine Eq.trans (b:=(Zw (chk (decide (Zy a≤9223372036854775807)) (some (Zu (Qq a),[]))) fun (r:AV×Blocks)=>onNilB (Zp r) (Wh (Zg r) fun b_1=>sel b_1 (Zw (chk (decide (Zy b≤9223372036854775807)) (some (Zu (Uj b),[]))) fun (r:AV×Blocks)=>onNilB (Zp r) (Wh (Zg r) fun b=>sel b (Zw (chk (decide (Zy c≤9223372036854775807)) (some (Zu (Qv c),[]))) fun (r:AV×Blocks)=>onNilB (Zp r) (Wh (Zg r) fun b=>some (Zu b,[]))) (some (Zu false,[])))) (some (Zu false,[]))):Option (AV×Blocks))) (by kernel_rfl) ?_
  simp only [Yu,decide_eq_true_eq] at hpre
  simp only [A0]
  rw [chk_of (by simp;omega),chk_of (by simp;omega),chk_of (by simp;omega)]
  simp only [Xv]
  cases Qq a<;>cases Uj b<;>rfl
 ·cases h
theorem w98:Walked Tryz.prog G 98 7 sp98:=by
 refine ⟨Tryz.f98,Tryz.func98,by decide +kernel,rfl,fun xs bl r h=> ?_⟩
 unfold sp98 at h
 split at h
 ·rename_i b k
  obtain ⟨hpre,h2⟩:=chk_inv h;cases h2
  refine Eq.trans (b:=(Zw (chk (decide (Zy b≤140737488355328)) (some (Zf [Zk (Zg (Kerb.openBox b 1 k)),Zu (Zp (Kerb.openBox b 1 k))],[]))) (kT fun vs=>cBs vs fun b r=>cBool r fun b_1 r=>onNil r (sel (!b_1) (some (Zf [Yw [Zu false,Zx [],Zx [],Zx [],Zz .i64 0,Zz .u64 0,Zz .i64 0,Zz .i64 0,Zx [],Zx []],Zz .i64 31],[])) (Zw (chk (decide (Zy b≤140737488355328)) (some (Zf [Yw [Zu (Kerb.Ticket.little (Yj (Xx b))),Zx (Ym (Kerb.Ticket.client (Yj (Xx b)))),Zx (Yh (Kerb.Ticket.client (Yj (Xx b)))),Zx (Yb (Kerb.Ticket.client (Yj (Xx b)))),Zz .i64 (Kerb.Ticket.address (Yj (Xx b))),Zz .u64 (Kerb.Ticket.session (Yj (Xx b))),Zz .i64 (Kerb.Ticket.life (Yj (Xx b))),Zz .i64 (Kerb.Ticket.issued (Yj (Xx b))),Zx (Kerb.Ticket.service (Yj (Xx b))),Zx (Kerb.Ticket.inst (Yj (Xx b)))],Zz .i64 (Qy (Xx b))],[]))) (kT fun vs=>onCons vs fun x r=>Xh x fun cs=>cBool cs fun b r_1=>cStr r_1 fun b_2 r_2=>cStr r_2 fun b_3 r_3=>cStr r_3 fun b_4 r_4=>cInt .i64 r_4 fun n r_5=>cInt .u64 r_5 fun n_1 r_6=>cInt .i64 r_6 fun n_2 r_7=>cInt .i64 r_7 fun n_3 r_8=>cStr r_8 fun b_5 r_9=>cStr r_9 fun b_6 r_10=>onNil r_10 (cInt .i64 r fun n_4 r=>onNil r (some (Zf [Yw [Zu b,Zx b_2,Zx b_3,Zx b_4,Zz .i64 n,Zz .u64 n_1,Zz .i64 n_2,Zz .i64 n_3,Zx b_5,Zx b_6],Zz .i64 n_4],[]))))))):Option (AV×Blocks))) (by kernel_rfl) ?_
  delta kT
  try dsimp only [cStr,cBs,cBool,cU8,cInt,cSl,l63]
  have hb:=of_decide_eq_true hpre
  have hl:=Kerb.openBox_len b 1 k
  simp only [hpre,↓A0,A0]
  unfold Kerb.openTicket
  cases h:(Kerb.openBox b 1 k).2
  ·rfl
  ·rw [sel_neg (by simp),chk_of (by simp;omega)]
   rfl
 ·cases h
end Go.Proofs.YtaikjfcgemjghaaGreat
