/- What the functions of this seat compute. -/
import Derived.Test.YtaikjfcgemjghaaGreatTab
import Derived.Test.YtaikjfcgemjghaaGreatKerbPlain
import Derived.Test.YtaikjfcgemjghaaGreatAbsStep
import Derived.Test.YtaikjfcgemjghaaGreatKerbKaPlain
import Derived.Test.YtaikjfcgemjghaaGreatKerbKaRef
import Derived.Test.YtaikjfcgemjghaaGreatKerbCli3
import Derived.Test.YtaikjfcgemjghaaGreatKerbCli4
import Derived.Test.YtaikjfcgemjghaaGreatKerbCli5
import Derived.Test.YtaikjfcgemjghaaGreatKerbSrvL
import Derived.Test.YtaikjfcgemjghaaGreatKerbKac2
import Derived.Test.YtaikjfcgemjghaaGreatKerbSrvP
import Derived.Test.YtaikjfcgemjghaaGreatKerbSrvB
open Go.Abs.AV renaming int→Zz,str→Zx,u8→Zv,bs→Zp,bool→Zn,tup→Zh,ownB→Yx,agg→Xv,onInt→Xq,sl→Vu,onOwnB→Vq,onAgg→Vd,onBool→Vn,undef→Ux
open List renaming length→Zy,append→Yp,map→Xd,getD→Ww,length_map→Vw,all→Uz
open Option renaming bind→Zw
open Kerb renaming keyBytes_len→Zu,putN_len→Zq,putPrin_len→Zj,within→Zf,u8i→Zb,encodeKaRequest→Yq,pGet→Yk,putN→Yd,pBytes→Yb,putText→Ym,encodeKaSecret→Yh,toEntry→Xj,user→Xb,decodeKaSecret→Xn,long→Xh,validInst→Wz,validRealm→Wv,u8i_bd→Wu,validName→Wq,keyValid→Wp,noPrin→Wn,putTick→Wh,putPrin→Vz,isEntry→Vy,getD_ent→Vx,pText→Vv,session→Vj,readBox→Vk,findCross→Vp,prin→Vf,krbtgt→Vb,serviceEnt→Vm,keyRead→Vh,readKaReq→Uy,encodeTicket→Uw,ticketed→Uv
open Go.IntKind renaming i64→Zk,wrap→Zd,u64→Wx,u16→Wb
open Bool renaming not_true→Zg,and_eq_true→Yv,and_self→Xu,not_false→Xf
open UInt8 renaming toNat→Zm,ofNat→Xm
open Int renaming toNat→Yz,tmod_eq_emod_of_nonneg→Yf,tmod→Yg
open Prod renaming snd→Yy,fst→Yw
open Kerb.Prin renaming mk→Yu,valid→Xw,realm→Wj,name→Wd,inst→Wf
open Kerb.KAsk renaming mk→Yj
open Kerb.Rd renaming val→Yn,pos→Xz,bad→Xy
open Kerb.Entry renaming av→Xx,mk→Wm
open Kerb.KaRequest renaming mk→Xk
open Kerb.Enc renaming err→Xp,val→Wy
open Kerb.Db renaming mk→Xg,err→Wg
open Kerb.KaSecret renaming mk→Wk
open Kerb.Ticket renaming mk→Vg
open Kerb.Dec renaming val→Uu
namespace Go.Proofs.YtaikjfcgemjghaaGreat
open Go Go.Abs Go.Proofs
set_option linter.unusedVariables false
set_option linter.unusedSimpArgs false
set_option maxRecDepth 100000
theorem w155:Walked Tryz.prog G 155 5 sp155:=by
 refine ⟨Tryz.f155,Tryz.func155,by decide +kernel,rfl,fun xs bl r h=> ?_⟩
 unfold sp155 at h
 split at h
 ·rename_i rl els n i now
  obtain ⟨hpre,h2⟩:=chk_inv h;cases h2
  refine Eq.trans (b:=(Zw (chk (Uz els Vy&&decide (Zy els≤1000000)) (some (Zh [Zz .i64 (Yw (Kerb.useEnt (Xg rl (Xd Xj els)) n i now 1 1 5)),Zz .i64 (Yy (Kerb.useEnt (Xg rl (Xd Xj els)) n i now 1 1 5))],[]))) fun (r:AV×Blocks)=>onNilB (Yy r) (AV.onTup (Yw r) fun vs=>onCons vs fun x r=>Xq .i64 x fun n=>onCons r fun x r=>Xq .i64 x fun n_1=>onNil r (some (Zh [Zz .i64 n,Zz .i64 n_1],[]))):Option (AV×Blocks))) (by kernel_rfl) ?_
  simp only [hpre,↓A0,A0]
  rfl
 ·cases h
theorem w188:Walked Tryz.prog G 188 5 sp188:=by
 refine ⟨Tryz.f188,Tryz.func188,by decide +kernel,rfl,fun xs bl r h=> ?_⟩
 unfold sp188 at h
 split at h
 ·rename_i b t
  obtain ⟨hpre,h2⟩:=chk_inv h;cases h2
  refine Eq.trans (b:=(Zw (chk (decide (Zy b≤70368744177664)) (some (Yx (b++Yd (↑(Zy t):Int) 1 false),[]))) fun (r:AV×Blocks)=>onNilB (Yy r) (Vq (Yw r) fun l=>chk (room (Zy l+Zy t) 1) (some (Zp (l++t),[]))):Option (AV×Blocks))) (by kernel_rfl) ?_
  simp only [decide_eq_true_eq] at hpre
  simp only [A0]
  rw [chk_of (by simp;omega),chk_of (Kerb.room_ok (by simp [Zq];omega))]
  rfl
 ·cases h
theorem w190:Walked Tryz.prog G 190 5 sp190:=by
 refine ⟨Tryz.f190,Tryz.func190,by decide +kernel,rfl,fun xs bl r h=> ?_⟩
 unfold sp190 at h
 split at h
 ·rename_i b t
  obtain ⟨hpre,h2⟩:=chk_inv h;cases h2
  refine Eq.trans (b:=(Zw (chk (decide (Zy b≤70368744177664)) (some (Yx (b++Yd (↑(Zy t):Int) 2 false),[]))) fun (r:AV×Blocks)=>onNilB (Yy r) (Vq (Yw r) fun l=>chk (room (Zy l+Zy t) 1) (some (Zp (l++t),[]))):Option (AV×Blocks))) (by kernel_rfl) ?_
  simp only [decide_eq_true_eq] at hpre
  simp only [A0]
  rw [chk_of (by simp;omega),chk_of (Kerb.room_ok (by simp [Zq];omega))]
  rfl
 ·cases h
theorem w204:Walked Tryz.prog G 204 5 sp204:=by
 refine ⟨Tryz.f204,Tryz.func204,by decide +kernel,rfl,fun xs bl r h=> ?_⟩
 unfold sp204 at h
 split at h
 ·rename_i b
  obtain ⟨hpre,h2⟩:=chk_inv h;cases h2
  refine Eq.trans (b:=(let t1:Int:=Zd .i64 (↑(BitVec.toNat (BitVec.ofInt (IntKind.bits .i64) (Zd .i64 (Zd .i64 (↑(Zm (Ww b (Yz 10) (0:UInt8))):Int)*2 ^ min (Yz 8) (IntKind.bits .i64))) ||| BitVec.ofInt (IntKind.bits .i64) (Zd .i64 (↑(Zm (Ww b (Yz 11) (0:UInt8))):Int)))):Int);let t2:Option (AV×Blocks):=some (Zh [Xv [Zz .i64 0,Zz .u64 0,Zp []],Zz .i64 0,Zz .i64 100],[]);let t3:Option (AV×Blocks):=some (Zh [Xv [Zz .i64 0,Zz .u64 0,Zp []],Zz .i64 0,Zz .i64 101],[]);let t0:Int:=Zd .i64 (12+t1);sel (decide ((↑(Zy b):Int)<12)) t3 (chk (decide (1<(↑(Zy b):Int))) (chk (decide (10≤(↑(Zy b):Int))) (Zw (chk (decide (Zy (List.drop (Yz 2) (List.take (Yz 10) b))≤4611686018427387904)) (some (Zh [Zz .u64 (Yw (Vh (List.drop (Yz 2) (List.take (Yz 10) b)))),Zn (Yy (Vh (List.drop (Yz 2) (List.take (Yz 10) b))))],[]))) (kT fun vs=>cInt .u64 vs fun n r=>cBool r fun b_1 r=>onNil r (chk (decide (10<(↑(Zy b):Int))) (chk (decide (11<(↑(Zy b):Int))) (chk (decide (0<(↑(Zy b):Int))) (sel (!Ww b (Yz 0) (0:UInt8)==(66:UInt8)) t2 (sel (!Kerb.isKind (Zd .i64 (↑(Zm (Ww b (Yz 1) (0:UInt8))):Int))) t2 (sel (!b_1) t2 (sel (decide (t1>1000)) t2 (sel (decide ((↑(Zy b):Int)<t0)) t3 (chk (decide (12≤t0)&&decide (t0≤t0)&&decide (t0≤(↑(Zy b):Int))) (Zw (chk (decide (Zy (List.drop (Yz 12) (List.take (Yz t0) b))≤140737488355328)) (some (Zp (List.drop (Yz 12) (List.take (Yz t0) b)),[]))) (kB fun b_2=>some (Zh [Xv [Zz .i64 (Zd .i64 (↑(Zm (Ww b (Yz 1) (0:UInt8))):Int)),Zz .u64 n,Zp b_2],Zz .i64 t0,Zz .i64 0],[])))))))))))))))):Option (AV×Blocks))) (by kernel_rfl) ?_
  delta kT kB
  try dsimp only [cStr,cBs,cBool,cU8,cInt,cSl,l63]
  simp only [decide_eq_true_eq] at hpre
  unfold Vk
  by_cases h0:b.length<12
  ·rw [sel_pos (by simp;omega),if_pos h0];rfl
  rw [sel_neg (by simp;omega),if_neg h0]
  have hc:=Kerb.cut_len b 2 8
  have hs:(b.getD 10 0).toNat*256+(b.getD 11 0).toNat=Kerb.boxSize b:=rfl
  simp only [Kerb.cut_28,Kerb.size_or]
  simp only [show Yz 0=0 from rfl,show Yz 1=1 from rfl,show Yz 10=10 from rfl,show Yz 11=11 from rfl,Kerb.wrap_byte,hs]
  rw [chk_of (by simp;omega),chk_of (by simp;omega),chk_of (by simp;omega)]
  simp only [↓A0]
  rw [chk_of (by simp;omega),chk_of (by simp;omega),chk_of (by simp;omega)]
  by_cases h1:b.getD 0 0=66
  case neg=>rw [sel_pos (by simpa using h1),if_pos (.inl h1)];rfl
  rw [sel_neg (by simpa using h1)]
  cases h2:Kerb.isKind ((b.getD 1 0).toNat:Int)
  ·rw [if_pos (.inr (.inl rfl))];rfl
  rw [Zg,sel_false]
  cases h3:(Vh (Kerb.cut b 2 8)).2
  ·rw [if_pos (.inr (.inr (.inl rfl)))];rfl
  rw [Zg,sel_false]
  by_cases h4:1000<Kerb.boxSize b
  ·rw [sel_pos (by simp;omega),if_pos (.inr (.inr (.inr h4)))];rfl
  rw [sel_neg (by simp;omega),if_neg (by rintro (h | h | h | h)<;>first | exact h h1 | cases h | omega),wrap_i64 (by omega) (by omega)]
  by_cases h5:b.length<12+Kerb.boxSize b
  ·rw [sel_pos (by simp;omega),if_pos h5];rfl
  have hc2:=Kerb.cut_len b 12 (Kerb.boxSize b)
  rw [sel_neg (by simp;omega),if_neg h5,Kerb.cut_12,chk_of (by simp;omega)]
  simp only [↓A0]
  rw [chk_of (by simp;omega)]
  simp
 ·cases h
theorem w207:Walked Tryz.prog G 207 5 sp207:=by
 refine ⟨Tryz.f207,Tryz.func207,by decide +kernel,rfl,fun xs bl r h=> ?_⟩
 unfold sp207 at h
 split at h
 ·rename_i B at_ bad
  obtain ⟨hpre,h2⟩:=chk_inv h;cases h2
  show runFnH (G.env 207 5) G.rts (G.own 207) Tryz.f207 _ _ [0]=_
  refine Eq.trans (b:=(Zw (chk (decide (Zy B≤140737488355328)) (some (Zp (Yn (Yb B 8 at_ bad)),[[Zp B,Zz .i64 (Xz (Yb B 8 at_ bad)),Zn (Xy (Yb B 8 at_ bad))]]))) fun (r:AV×Blocks)=>onConsB (Yy r) fun (x:List AV) (r_1:List (List AV))=>onCons x fun x r_2=>AV.onBs x fun b=>onCons r_2 fun x r_3=>Xq .i64 x fun n=>onCons r_3 fun x r_4=>Vn x fun b_1=>onNil r_4 (onNilB r_1 (AV.onBs (Yw r) fun b_2=>Zw (chk (decide (Zy b_2≤4611686018427387904)) (some (Zh [Zz .u64 (Yw (Vh b_2)),Zn (Yy (Vh b_2))],[]))) fun (r:AV×Blocks)=>onNilB (Yy r) (AV.onTup (Yw r) fun vs=>onCons vs fun x r=>Xq .u64 x fun n_1=>onCons r fun x r=>Vn x fun b_3=>onNil r (sel (!b_3) (some (Zz .u64 0,[[Zp b,Zz .i64 n,Zn true]])) (some (Zz .u64 n_1,[[Zp b,Zz .i64 n,Zn b_1]])))))):Option (AV×Blocks))) (by kernel_rfl) ?_
  have hb:=of_decide_eq_true hpre
  simp only [A0]
  have hl:(Yb B 8 at_ bad).val.length≤B.length:=Kerb.pBytes_len B 8 at_ bad
  rw [chk_of hpre,chk_of (by simp;omega)]
  unfold Kerb.pKey
  cases (Vh (Yb B 8 at_ bad).val).2
  ·simp [sel]
  ·simp [sel]
 ·cases h
theorem w216:Walked Tryz.prog G 216 5 sp216:=by
 refine ⟨Tryz.f216,Tryz.func216,by decide +kernel,rfl,fun xs bl r h=> ?_⟩
 unfold sp216 at h
 split at h
 ·rename_i rl els n i now
  obtain ⟨hpre,h2⟩:=chk_inv h;cases h2
  refine Eq.trans (b:=(Zw (chk (Uz els Vy&&decide (Zy els≤1000000)) (some (Zh [Zz .i64 (Yw (Kerb.useEnt (Xg rl (Xd Xj els)) n i now 2 2 6)),Zz .i64 (Yy (Kerb.useEnt (Xg rl (Xd Xj els)) n i now 2 2 6))],[]))) fun (r:AV×Blocks)=>onNilB (Yy r) (AV.onTup (Yw r) fun vs=>onCons vs fun x r=>Xq .i64 x fun n=>onCons r fun x r=>Xq .i64 x fun n_1=>onNil r (some (Zh [Zz .i64 n,Zz .i64 n_1],[]))):Option (AV×Blocks))) (by kernel_rfl) ?_
  simp only [hpre,↓A0,A0]
  rfl
 ·cases h
theorem w61:Walked Tryz.prog G 61 6 sp61:=by
 refine ⟨Tryz.f61,Tryz.func61,by decide +kernel,rfl,fun xs bl r h=> ?_⟩
 unfold sp61 at h
 split at h
 ·rename_i li x y z ad k lf iss sv ins key
  obtain ⟨hpre,h2⟩:=chk_inv h;cases h2
  refine Eq.trans (b:=(Zw (chk (decide (Zy x≤9223372036854775807)&&decide (Zy y≤9223372036854775807)&&decide (Zy z≤9223372036854775807)&&decide (Zy sv≤9223372036854775807)&&decide (Zy ins≤9223372036854775807)&&decide (0≤k)&&decide (k<18446744073709551616)) (some (Zh [Zp (Wy (Uw (Vg li (Yu x y z) ad k lf iss sv ins))),Zz .i64 (Xp (Uw (Vg li (Yu x y z) ad k lf iss sv ins)))],[]))) fun (r:AV×Blocks)=>onNilB (Yy r) (AV.onTup (Yw r) fun vs=>onCons vs fun x r=>AV.onBs x fun b=>onCons r fun x r=>Xq .i64 x fun n=>onNil r (sel (!n==0) (some (Zh [Zp [],Zz .i64 n],[])) (Zw (chk (decide (0≤key)&&decide (key<18446744073709551616)) (some (Zh [Zp (Wy (Kerb.makeBox 1 key b)),Zz .i64 (Xp (Kerb.makeBox 1 key b))],[]))) fun (r:AV×Blocks)=>onNilB (Yy r) (AV.onTup (Yw r) fun vs=>onCons vs fun x r=>AV.onBs x fun b=>onCons r fun x r=>Xq .i64 x fun n=>onNil r (some (Zh [Zp b,Zz .i64 n],[])))))):Option (AV×Blocks))) (by kernel_rfl) ?_
  simp only [Yv,decide_eq_true_eq] at hpre
  obtain ⟨⟨⟨⟨⟨⟨⟨⟨h1,h2⟩,h3⟩,h4⟩,h5⟩,h6⟩,h7⟩,h8⟩,h9⟩:=hpre
  simp only [h1,h2,h3,h4,h5,h6,h7,h8,h9,decide_true,Xu,↓A0,A0]
  unfold Kerb.sealTicket
  generalize Uw _=E
  by_cases he:E.err=0
  ·rw [sel_neg (by simpa using he),if_neg (by simpa using he)]
  ·rw [sel_pos (by simpa using he),if_pos he]
 ·cases h
theorem w120:Walked Tryz.prog G 120 6 sp120:=by
 refine ⟨Tryz.f120,Tryz.func120,by decide +kernel,rfl,fun xs bl r h=> ?_⟩
 unfold sp120 at h
 split at h
 ·rename_i op cd bx
  cases h
  refine Eq.trans (b:=(let t2:List UInt8:=Kerb.header 9 false++Yd (Zd .i64 (op+128)) 1 false;let t1:Nat:=Zy t2;let t0:Option (AV×Blocks):=Zw (chk (decide (t1≤70368744177664)) (some (Yx (t2++Yd cd 1 false),[]))) (kO fun l=>Zw (chk (decide (Zy l+Zy bx≤70368744170000)) (some (Zp (Kerb.putBox l bx),[]))) (kB fun b=>some (Zh [Zp b,Zz .i64 0],[])));sel (!Kerb.kaOp op) (some (Zh [Zp [],Zz .i64 40],[])) (sel (!Zf cd 99) (some (Zh [Zp [],Zz .i64 104],[])) (sel (decide ((↑(Zy bx):Int)>1012)) (some (Zh [Zp [],Zz .i64 105],[])) (sel (!cd==0) (sel (decide ((↑(Zy bx):Int)>0)) (some (Zh [Zp [],Zz .i64 108],[])) t0) t0))):Option (AV×Blocks))) (by kernel_rfl) ?_
  delta kB kO
  try dsimp only [cStr,cBs,cBool,cU8,cInt,cSl,l63]
  simp only [A0]
  have hl9:(Kerb.header 9 false).length=2:=rfl
  unfold Kerb.encodeKaReply
  simp only
  cases h0:Kerb.kaOp op
  ·rfl
  rw [Zg,sel_false,if_neg (by simp)]
  have ho:=Kerb.kaOp_iff.1 h0
  cases h1:Zf cd 99
  ·rfl
  rw [Zg,sel_false,if_neg (by simp)]
  by_cases h2:1012<bx.length
  ·rw [sel_pos (by simp;omega),if_pos h2]
  rw [sel_neg (by simp;omega),if_neg h2,wrap_i64 (by omega) (by omega)]
  by_cases h3:cd=0
  ·rw [sel_neg (by simp [h3]),if_neg (by simp [h3]),chk_of (by simp [Zq,hl9]),chk_of (by simp [Zq,hl9];omega)]
   rfl
  rw [sel_pos (by simpa using h3)]
  by_cases h4:bx=[]
  ·rw [sel_neg (by simp [h4]),if_neg (by simp [h4]),chk_of (by simp [Zq,hl9]),chk_of (by simp [Zq,hl9];omega)]
   rfl
  ·rw [sel_pos (by have:=List.length_pos_iff.2 h4;simp;omega),if_pos ⟨h3,h4⟩]
 ·cases h
theorem w122:Walked Tryz.prog G 122 6 sp122:=by
 refine ⟨Tryz.f122,Tryz.func122,by decide +kernel,rfl,fun xs bl r h=> ?_⟩
 unfold sp122 at h
 split at h
 ·rename_i b kd k
  obtain ⟨hpre,h2⟩:=chk_inv h;cases h2
  refine Eq.trans (b:=(Zw (chk (decide (Zy b≤140737488355328)) (some (Zh [Xv [Zz .i64 (Kerb.Box.kind (Kerb.GotBox.box (Vk b))),Zz .u64 (Kerb.Box.key (Kerb.GotBox.box (Vk b))),Zp (Kerb.Box.body (Kerb.GotBox.box (Vk b)))],Zz .i64 (Kerb.GotBox.n (Vk b)),Zz .i64 (Kerb.GotBox.err (Vk b))],[]))) fun (r:AV×Blocks)=>onNilB (Yy r) (AV.onTup (Yw r) fun vs=>onCons vs fun x r=>Vd x fun cs=>onCons cs fun x r_1=>Xq .i64 x fun n=>onCons r_1 fun x r_2=>Xq .u64 x fun n_1=>onCons r_2 fun x r_3=>AV.onBs x fun b_1=>onNil r_3 (onCons r fun x r=>Xq .i64 x fun n_2=>onCons r fun x r=>Xq .i64 x fun n_3=>onNil r (sel (!n_3==0) (some (Zh [Zp [],Zn false],[])) (sel (!n_2==(↑(Zy b):Int)) (some (Zh [Zp [],Zn false],[])) (sel (!n==kd) (some (Zh [Zp [],Zn false],[])) (sel (!n_1==k) (some (Zh [Zp [],Zn false],[])) (some (Zh [Zp b_1,Zn true],[])))))))):Option (AV×Blocks))) (by kernel_rfl) ?_
  simp only [↓A0,hpre]
  unfold Kerb.openBox
  generalize Vk b=r
  by_cases h1:r.err=0
  case neg=>rw [sel_pos (by simpa using h1),if_pos (.inl h1)]
  rw [sel_neg (by simpa using h1)]
  by_cases h2:r.n=b.length
  case neg=>rw [sel_pos (by simpa using h2),if_pos (.inr (.inl h2))]
  rw [sel_neg (by simpa using h2)]
  by_cases h3:r.box.kind=kd
  case neg=>rw [sel_pos (by simpa using h3),if_pos (.inr (.inr (.inl h3)))]
  rw [sel_neg (by simpa using h3)]
  by_cases h4:r.box.key=k
  case neg=>rw [sel_pos (by simpa using h4),if_pos (.inr (.inr (.inr h4)))]
  rw [sel_neg (by simpa using h4),if_neg (by simp [h1,h2,h3,h4])]
 ·cases h
theorem w128:Walked Tryz.prog G 128 6 sp128:=by
 refine ⟨Tryz.f128,Tryz.func128,by decide +kernel,rfl,fun xs bl r h=> ?_⟩
 unfold sp128 at h
 split at h
 ·rename_i s
  obtain ⟨hpre,h2⟩:=chk_inv h;cases h2
  refine Eq.trans (b:=(sel (!s==[]) (Zw (chk (decide (Zy s≤9223372036854775807)) (some (Zn (Wz s),[]))) fun (r:AV×Blocks)=>onNilB (Yy r) (Vn (Yw r) fun b=>some (Zn b,[]))) (some (Zn false,[])):Option (AV×Blocks))) (by kernel_rfl) ?_
  simp only [A0]
  rw [chk_of hpre]
  simp only [Wv]
  cases s<;>rfl
 ·cases h
theorem w220:Walked Tryz.prog G 220 6 sp220:=by
 refine ⟨Tryz.f220,Tryz.func220,by decide +kernel,rfl,fun xs bl r h=> ?_⟩
 unfold sp220 at h
 split at h
 ·rename_i b
  obtain ⟨hpre,h2⟩:=chk_inv h;cases h2
  refine Eq.trans (b:=(let t0:Option (AV×Blocks):=some (Zh [Xv [Zx [],Zz .i64 0,Zz .i64 0,Zz .i64 0,Zz .u64 0],Zz .i64 100],[]);Zw (chk (decide (Zy b≤140737488355328)) (some (Zp (Yn (Yb b 4 0 false)),[[Zp b,Zz .i64 (Xz (Yb b 4 0 false)),Zn (Xy (Yb b 4 0 false))]]))) fun (r:AV×Blocks)=>onConsB (Yy r) fun (x:List AV) (r_1:List (List AV))=>cBs x fun b_1 r_2=>cInt .i64 r_2 fun n r_3=>cBool r_3 fun b_2 r_4=>onNil r_4 (onNilB r_1 (AV.onBs (Yw r) fun b_3=>Zw (chk (decide (Zy b_1≤140737488355328)) (some (Zz .i64 (Yn (Yk b_1 4 n b_2)),[[Zp b_1,Zz .i64 (Xz (Yk b_1 4 n b_2)),Zn (Xy (Yk b_1 4 n b_2))]]))) fun (r:AV×Blocks)=>onConsB (Yy r) fun (x:List AV) (r_5:List (List AV))=>cBs x fun b_4 r_6=>cInt .i64 r_6 fun n r_7=>cBool r_7 fun b_5 r_8=>onNil r_8 (onNilB r_5 (Xq .i64 (Yw r) fun n_1=>sel (Kerb.timed b_3) (Zw (chk (decide (Zy b_4≤140737488355328)) (some (Zz .i64 (Yn (Yk b_4 4 n b_5)),[[Zp b_4,Zz .i64 (Xz (Yk b_4 4 n b_5)),Zn (Xy (Yk b_4 4 n b_5))]]))) fun (r:AV×Blocks)=>onConsB (Yy r) fun (x:List AV) (r_9:List (List AV))=>cBs x fun b_6 r_10=>cInt .i64 r_10 fun n r_11=>cBool r_11 fun b_7 r_12=>onNil r_12 (onNilB r_9 (Xq .i64 (Yw r) fun n_2=>Zw (chk (decide (Zy b_6≤140737488355328)) (some (Zz .i64 (Yn (Yk b_6 4 n b_7)),[[Zp b_6,Zz .i64 (Xz (Yk b_6 4 n b_7)),Zn (Xy (Yk b_6 4 n b_7))]]))) fun (r:AV×Blocks)=>onConsB (Yy r) fun (x:List AV) (r_13:List (List AV))=>cBs x fun b_8 r_14=>cInt .i64 r_14 fun n r_15=>cBool r_15 fun b_9 r_16=>onNil r_16 (onNilB r_13 (Xq .i64 (Yw r) fun n=>sel b_9 t0 (sel (!Xp (Yh (Wk b_3 n_1 n_2 n 0))==0) t0 (sel (!Wy (Yh (Wk b_3 n_1 n_2 n 0))==b) t0 (some (Zh [Xv [Zx b_3,Zz .i64 n_1,Zz .i64 n_2,Zz .i64 n,Zz .u64 0],Zz .i64 0],[]))))))))) (Zw (chk (decide (Zy b_4≤140737488355328)) (some (Zz .u64 (Yn (Kerb.pKey b_4 n b_5)),[[Zp b_4,Zz .i64 (Xz (Kerb.pKey b_4 n b_5)),Zn (Xy (Kerb.pKey b_4 n b_5))]]))) fun (r:AV×Blocks)=>onConsB (Yy r) fun (x:List AV) (r_9:List (List AV))=>cBs x fun b_6 r_10=>cInt .i64 r_10 fun n r_11=>cBool r_11 fun b_7 r_12=>onNil r_12 (onNilB r_9 (Xq .u64 (Yw r) fun n=>sel b_7 t0 (Zw (chk (decide (0≤n)&&decide (n<18446744073709551616)) (some (Zh [Zp (Wy (Yh (Wk b_3 n_1 0 0 n))),Zz .i64 (Xp (Yh (Wk b_3 n_1 0 0 n)))],[]))) (kT fun vs=>cBs vs fun b_8 r=>cInt .i64 r fun n_2 r=>onNil r (sel (!n_2==0) t0 (sel (!b_8==b) t0 (some (Zh [Xv [Zx b_3,Zz .i64 n_1,Zz .i64 0,Zz .i64 0,Zz .u64 n],Zz .i64 0],[]))))))))))))):Option (AV×Blocks))) (by kernel_rfl) ?_
  delta kT
  try dsimp only [cStr,cBs,cBool,cU8,cInt,cSl,l63]
  have hb:=of_decide_eq_true hpre
  simp only [A0,hpre]
  cases ht:Kerb.timed (Yb b 4 0 false).val
  ·have hk:=Kerb.pKey_bd b (Yk b 4 (Yb b 4 0 false).pos (Yb b 4 0 false).bad).pos (Yk b 4 (Yb b 4 0 false).pos (Yb b 4 0 false).bad).bad
   rw [sel_false,chk_of (by simp;omega)]
   exact Kerb.decBy_fin (no:=Kerb.noKaSecret) (enc:=Yh) (rd:=Kerb.readKaSec) _ _ (by unfold Kerb.readKaSec Kerb.pSec;dsimp only;rw [ht];rfl) (fun x e=>(Zh [Xv [Zx (x).label,Zz Zk (x).time,Zz Zk (x).start,Zz Zk (x).stop,Zz Wx (x).new],Zz Zk e],([]:Blocks)))
  ·rw [sel_true]
   exact Kerb.decBy_fin (no:=Kerb.noKaSecret) (enc:=Yh) (rd:=Kerb.readKaSec) _ _ (by unfold Kerb.readKaSec Kerb.pSec;dsimp only;rw [ht];rfl) (fun x e=>(Zh [Xv [Zx (x).label,Zz Zk (x).time,Zz Zk (x).start,Zz Zk (x).stop,Zz Wx (x).new],Zz Zk e],([]:Blocks)))
 ·cases h
theorem w229:Walked Tryz.prog G 229 6 sp229:=by
 refine ⟨Tryz.f229,Tryz.func229,by decide +kernel,rfl,fun xs bl r h=> ?_⟩
 unfold sp229 at h
 split at h
 ·rename_i en ei ek ev ex em ea ef et
  obtain ⟨hpre,h2⟩:=chk_inv h;cases h2
  refine Eq.trans (b:=(let t0:Option (AV×Blocks):=sel (!Zf ev 255) (some (Zz .i64 104,[])) (sel (!Zf ex 4294967295) (some (Zz .i64 104,[])) (sel (!Zf et 4294967295) (some (Zz .i64 104,[])) (sel (!Zf em 255) (some (Zz .i64 104,[])) (sel (!Zf ea 3) (some (Zz .i64 104,[])) (sel (!Zf ef 20) (some (Zz .i64 104,[])) (some (Zz .i64 0,[])))))));Zw (chk (l63 en) (some (Zn (Wq en),[]))) (kL fun b=>sel (!b) (some (Zz .i64 103,[])) (Zw (chk (l63 ei) (some (Zn (Wz ei),[]))) (kL fun b=>sel (!b) (some (Zz .i64 103,[])) (sel (!ek==0) (Zw (chk (decide (0≤ek)&&decide (ek<18446744073709551616)) (some (Zn (Wp ek),[]))) (kL fun b=>sel (!b) (some (Zz .i64 10,[])) t0)) t0)))):Option (AV×Blocks))) (by kernel_rfl) ?_
  delta kL
  try dsimp only [cStr,cBs,cBool,cU8,cInt,cSl,l63]
  simp only [Yv,decide_eq_true_eq] at hpre
  obtain ⟨⟨h1,h2⟩,h3⟩:=hpre
  have h4:(decide (0≤ek)&&decide (ek<18446744073709551616))=true:=h3
  simp only [h1,h2,h4,decide_true,↓A0,A0]
  unfold Kerb.Entry.err
  dsimp only
  cases Wq en
  ·rfl
  cases Wz ei
  ·rfl
  simp only [Zg,Xf,sel_true,sel_false]
  rw [if_neg (by simp)]
  by_cases hk:ek=0
  ·rw [sel_neg (by simp [hk]),if_neg (by simp [hk])]
   cases Zf ev 255<;>cases Zf ex 4294967295<;>cases Zf et 4294967295<;>cases Zf em 255<;>cases Zf ea 3<;>cases Zf ef 20<;>rfl
  rw [sel_pos (by simpa using hk)]
  cases hv:Wp ek
  ·rw [if_pos ⟨hk,rfl⟩];rfl
  simp only [Zg,Xf,sel_true,sel_false]
  rw [if_neg (by simp)]
  cases Zf ev 255<;>cases Zf ex 4294967295<;>cases Zf et 4294967295<;>cases Zf em 255<;>cases Zf ea 3<;>cases Zf ef 20<;>rfl
 ·cases h
set_option maxHeartbeats 4000000 in
theorem w24:Walked Tryz.prog G 24 7 sp24:=by
 refine ⟨Tryz.f24,Tryz.func24,by decide +kernel,rfl,fun xs bl r h=> ?_⟩
 unfold sp24 at h
 split at h
 ·rename_i o u s e n t p i l a w d hw
  obtain ⟨hpre,h2⟩:=chk_inv h;cases h2
  refine Eq.trans (b:=(let t0:Int:=Zd .i64 (Zd .i64 (1+Yg (Zd .i64 (↑(Zm o):Int)) 3)-1);let t1:AV:=Zx [(107:UInt8),(114:UInt8),(98:UInt8),(116:UInt8),(103:UInt8),(116:UInt8)];let t4:AV:=Zx [(65:UInt8),(84:UInt8),(72:UInt8)];let t5:List AV:=[Zx [(103:UInt8),(84:UInt8),(71:UInt8),(83:UInt8)],Zx [(103:UInt8),(84:UInt8),(75:UInt8),(84:UInt8)],Zx [(67:UInt8),(80:UInt8),(87:UInt8),(108:UInt8)]];let t6:List AV:=[Zx [(103:UInt8),(84:UInt8),(75:UInt8),(84:UInt8)],Zx [(67:UInt8),(80:UInt8),(87:UInt8),(108:UInt8)],Zx [(103:UInt8),(84:UInt8),(71:UInt8),(83:UInt8)]];let t8:AV:=Zz .i64 (Zd .i64 (1000+Zd .i64 (↑(Zm t):Int)));let t9:List AV:=[Zz .i64 0,Zx [],Zp [],Zx [],Zx [],Zp []];let t2:Int:=(↑(Zy t6):Int);let t3:Int:=(↑(Zy t5):Int);let t7:List AV:=[t8,Zz .i64 0,Zz .i64 0,Zz .u64 0];let t10:List AV:=[t1,t4,Zz .u64 (Xh 3),t4,Zz .i64 6];chk (decide (0≤t0)&&decide (t0<t3)&&true) (AV.onStr (Ww t5 (Yz t0) Ux) fun b=>Zw (sel (Xm (Yz (Yg (↑(Zm w):Int) (↑(Zm (16:UInt8)):Int)))==(1:UInt8)) (chk (decide (0≤t0)&&decide (t0<t2)&&true) (AV.onStr (Ww t6 (Yz t0) Ux) fun b=>some (Zv o::Zv u::Zv s::Zv e::Zv n::Zv t::Zv p::Zv i::Zv l::Zv a::Zv w::Zv d::Zz .u16 hw::Zp []::Zz .i64 (Zd .i64 (1+Yg (Zd .i64 (↑(Zm o):Int)) 3))::t8::Zx b::t7))) (some (Zv o::Zv u::Zv s::Zv e::Zv n::Zv t::Zv p::Zv i::Zv l::Zv a::Zv w::Zv d::Zz .u16 hw::Zp []::Zz .i64 (Zd .i64 (1+Yg (Zd .i64 (↑(Zm o):Int)) 3))::t8::Zx b::t7))) fun l=>cU8 l fun b r=>cU8 r fun b_1 r=>cU8 r fun b_2 r=>cU8 r fun b_3 r=>cU8 r fun b_4 r=>let t11:Int:=Zd .i64 (30+Yg (Zd .i64 (↑(Zm b_4):Int)) 3);cU8 r fun b_5 r=>cU8 r fun b_6 r=>cU8 r fun b_7 r=>cU8 r fun b_8 r=>cU8 r fun b_9 r=>cU8 r fun b_10 r=>cU8 r fun b_11 r=>cInt .u16 r fun n r=>cBs r fun b_12 r=>cInt .i64 r fun n_1 r=>cInt .i64 r fun n_2 r=>cStr r fun b_13 r=>cInt .i64 r fun n_3 r=>cInt .i64 r fun n_4 r=>cInt .i64 r fun n_5 r=>cInt .u64 r fun n_6 r=>onNil r (Zw (sel (b_13==[(67:UInt8),(80:UInt8),(87:UInt8),(108:UInt8)]) (Zw (chk (decide (0≤t11)&&decide (t11≤1000)) (some (Zz .u64 (Xh t11),[]))) (kI .u64 fun n_7=>Zw (sel (Xm (Yz (Yg (↑(Zm b_10):Int) (↑(Zm (16:UInt8)):Int)))==(2:UInt8)) (some [Zv b,Zv b_1,Zv b_2,Zv b_3,Zv b_4,Zv b_5,Zv b_6,Zv b_7,Zv b_8,Zv b_9,Zv b_10,Zv b_11,Zz .u16 n,Zp b_12,Zz .i64 n_1,Zx b_13,Zz .i64 n_3,Zz .i64 n_4,Zz .i64 n_5,Zz .u64 (Vj 5)]) (some [Zv b,Zv b_1,Zv b_2,Zv b_3,Zv b_4,Zv b_5,Zv b_6,Zv b_7,Zv b_8,Zv b_9,Zv b_10,Zv b_11,Zz .u16 n,Zp b_12,Zz .i64 n_1,Zx b_13,Zz .i64 n_3,Zz .i64 n_4,Zz .i64 n_5,Zz .u64 n_7])) fun l=>cU8 l fun b r=>cU8 r fun b_14 r=>cU8 r fun b_15 r=>cU8 r fun b_16 r=>cU8 r fun b_17 r=>cU8 r fun b_18 r=>cU8 r fun b_19 r=>cU8 r fun b_20 r=>cU8 r fun b_21 r=>cU8 r fun b_22 r=>cU8 r fun b_23 r=>cU8 r fun b_24 r=>cInt .u16 r fun n r=>cBs r fun b_25 r=>cInt .i64 r fun n_8 r=>cStr r fun b_26 r=>cInt .i64 r fun n_9 r=>cInt .i64 r fun n_10 r=>cInt .i64 r fun n_11 r=>cInt .u64 r fun n_12 r=>onNil r (some [Zv b,Zv b_14,Zv b_15,Zv b_16,Zv b_17,Zv b_18,Zv b_19,Zv b_20,Zv b_21,Zv b_22,Zv b_23,Zv b_24,Zz .u16 n,Zp b_25,Zz .i64 n_8,Zx b_26,Zz .i64 n_9,Zz .i64 n_10,Zz .i64 n_11,Zz .u64 n_12]))) (some [Zv b,Zv b_1,Zv b_2,Zv b_3,Zv b_4,Zv b_5,Zv b_6,Zv b_7,Zv b_8,Zv b_9,Zv b_10,Zv b_11,Zz .u16 n,Zp b_12,Zz .i64 n_1,Zx b_13,Zz .i64 n_3,Zz .i64 n_2,Zz .i64 (Zd .i64 (n_2+Zd .i64 (Zd .i64 (↑(Zm b_6):Int)*50))),Zz .u64 n_6])) fun l=>cU8 l fun b r=>cU8 r fun b_14 r=>cU8 r fun b_15 r=>cU8 r fun b_16 r=>cU8 r fun b_17 r=>cU8 r fun b_18 r=>cU8 r fun b_19 r=>cU8 r fun b_20 r=>cU8 r fun b_21 r=>cU8 r fun b_22 r=>cU8 r fun b_23 r=>cU8 r fun b_24 r=>cInt .u16 r fun n r=>cBs r fun b_25 r=>cInt .i64 r fun n_7 r=>cStr r fun b_26 r=>cInt .i64 r fun n_8 r=>cInt .i64 r fun n_9 r=>cInt .i64 r fun n_10 r=>cInt .u64 r fun n_11 r=>onNil r (Zw (chk (decide (0≤n_11)&&decide (n_11<18446744073709551616)) (some (Zh [Yx (Wy (Yh (Wk b_26 n_8 n_9 n_10 n_11))),Zz .i64 (Xp (Yh (Wk b_26 n_8 n_9 n_10 n_11)))],[]))) (kT fun vs=>onCons vs fun x r=>Vq x fun l=>cInt .i64 r fun n_12 r=>onNil r (Zw (sel (Xm (Yz (Yg (↑(Zm b_23):Int) (↑(Zm (16:UInt8)):Int)))==(3:UInt8)) (chk (room (Zy l+Zy [(0:UInt8)]) 1) (some [Zv b,Zv b_14,Zv b_15,Zv b_16,Zv b_17,Zv b_18,Zv b_19,Zv b_20,Zv b_21,Zv b_22,Zv b_23,Zv b_24,Zz .u16 n,Zp b_25,Zz .i64 n_7,Yx (l++[(0:UInt8)])])) (some [Zv b,Zv b_14,Zv b_15,Zv b_16,Zv b_17,Zv b_18,Zv b_19,Zv b_20,Zv b_21,Zv b_22,Zv b_23,Zv b_24,Zz .u16 n,Zp b_25,Zz .i64 n_7,Yx l])) fun l=>cU8 l fun b r=>cU8 r fun b_27 r=>let t12:Int:=Yg (Zd .i64 (↑(Zm b_27):Int)) 3;cU8 r fun b_28 r=>cU8 r fun b_29 r=>cU8 r fun b_30 r=>cU8 r fun b_31 r=>cU8 r fun b_32 r=>cU8 r fun b_33 r=>cU8 r fun b_34 r=>cU8 r fun b_35 r=>cU8 r fun b_36 r=>cU8 r fun b_37 r=>let t13:Int:=Zd .i64 (30+Yg (Zd .i64 (Int.tdiv (Zd .i64 (↑(Zm b_37):Int)) 4)) 3);cInt .u16 r fun n r=>cBs r fun b_38 r=>cInt .i64 r fun n_13 r=>onCons r fun x r=>Vq x fun b_39=>onNil r (Zw (chk (decide (0≤t12)&&decide (t12≤1000)) (some (Zz .u64 (Xh t12),[]))) (kI .u64 fun n_14=>Zw (sel (Xm (Yz (Yg (↑(Zm b_37):Int) (↑(Zm (4:UInt8)):Int)))==(3:UInt8)) (Zw (chk (decide (0≤t13)&&decide (t13≤1000)) (some (Zz .u64 (Xh t13),[]))) (kI .u64 fun n_15=>some [Zv b,Zv b_27,Zv b_28,Zv b_29,Zv b_30,Zv b_31,Zv b_32,Zv b_33,Zv b_34,Zv b_35,Zv b_36,Zv b_37,Zz .u16 n,Zp b_38,Zz .i64 n_13,Yx b_39,Zz .i64 t12,Zz .u64 n_15])) (some [Zv b,Zv b_27,Zv b_28,Zv b_29,Zv b_30,Zv b_31,Zv b_32,Zv b_33,Zv b_34,Zv b_35,Zv b_36,Zv b_37,Zz .u16 n,Zp b_38,Zz .i64 n_13,Yx b_39,Zz .i64 t12,Zz .u64 n_14])) fun l=>cU8 l fun b r=>cU8 r fun b_40 r=>let t14:Int:=Zd .i64 (3+Yg (Zd .i64 (↑(Zm b_40):Int)) 6);cU8 r fun b_41 r=>cU8 r fun b_42 r=>cU8 r fun b_43 r=>cU8 r fun b_44 r=>cU8 r fun b_45 r=>cU8 r fun b_46 r=>cU8 r fun b_47 r=>cU8 r fun b_48 r=>cU8 r fun b_49 r=>cU8 r fun b_50 r=>cInt .u16 r fun n r=>cBs r fun b_51 r=>cInt .i64 r fun n_15 r=>onCons r fun x r=>Vq x fun b_52=>cInt .i64 r fun n_16 r=>cInt .u64 r fun n_17 r=>onNil r (Zw (chk (decide (0≤n_16)&&decide (n_16≤4611686018427387904)) (some (Xv [Zx (Wd (Xb n_16)),Zx (Wf (Xb n_16)),Zx (Wj (Xb n_16))],[]))) (kA fun cs=>cStr cs fun b_53 r=>cStr r fun b_54 r=>cStr r fun b_55 r=>onNil r (Zw (sel (Xm (Yz (Yg (↑(Zm b_49):Int) (↑(Zm (16:UInt8)):Int)))==(4:UInt8)) (Zw (chk (decide (0≤t14)&&decide (t14≤4611686018427387904)) (some (Xv [Zx (Wd (Xb t14)),Zx (Wf (Xb t14)),Zx (Wj (Xb t14))],[]))) (kA fun cs=>cStr cs fun b_56 r=>cStr r fun b_57 r=>cStr r fun b_58 r=>onNil r (some (Zv b::Zv b_40::Zv b_41::Zv b_42::Zv b_43::Zv b_44::Zv b_45::Zv b_46::Zv b_47::Zv b_48::Zv b_49::Zv b_50::Zz .u16 n::Zp b_51::Zz .i64 n_15::Yx b_52::Zz .i64 n_16::Zz .u64 n_17::Zz .i64 n_15::Zx b_56::Zx b_57::Zx b_58::t9)))) (some (Zv b::Zv b_40::Zv b_41::Zv b_42::Zv b_43::Zv b_44::Zv b_45::Zv b_46::Zv b_47::Zv b_48::Zv b_49::Zv b_50::Zz .u16 n::Zp b_51::Zz .i64 n_15::Yx b_52::Zz .i64 n_16::Zz .u64 n_17::Zz .i64 n_15::Zx b_53::Zx b_54::Zx b_55::t9))) fun l=>cU8 l fun b r=>cU8 r fun b_56 r=>cU8 r fun b_57 r=>cU8 r fun b_58 r=>let t15:Int:=Yg (Zd .i64 (↑(Zm b_58):Int)) 4;cU8 r fun b_59 r=>cU8 r fun b_60 r=>cU8 r fun b_61 r=>cU8 r fun b_62 r=>let t16:AV:=Zz .i64 (Zd .i64 (1000+Zd .i64 (↑(Zm b_62):Int)));cU8 r fun b_63 r=>let t17:AV:=Zz .i64 (Yg (Zd .i64 (↑(Zm b_63):Int)) 40);cU8 r fun b_64 r=>let t18:AV:=Zz .i64 (Yg (Zd .i64 (↑(Zm b_64):Int)) 2);cU8 r fun b_65 r=>let t19:UInt8:=Xm (Yz (Yg (↑(Zm b_65):Int) (↑(Zm (16:UInt8)):Int)));cU8 r fun b_66 r=>cInt .u16 r fun n r=>cBs r fun b_67 r=>cInt .i64 r fun n_18 r=>onCons r fun x r=>Vq x fun b_68=>cInt .i64 r fun n_19 r=>cInt .u64 r fun n_20 r=>cInt .i64 r fun n_21 r=>cStr r fun b_69 r=>cStr r fun b_70 r=>cStr r fun b_71 r=>cInt .i64 r fun n_22 r=>cStr r fun b_72 r=>cBs r fun b_73 r=>cStr r fun b_74 r=>cStr r fun b_75 r=>cBs r fun b_76 r=>onNil r (Zw (sel (n_18==2) (Zw (chk (decide (0≤n_19)&&decide (n_19≤4611686018427387904)) (some (Xv [Zx (Wd (Xb n_19)),Zx (Wf (Xb n_19)),Zx (Wj (Xb n_19))],[]))) (kA fun cs=>cStr cs fun b_77 r=>cStr r fun b_78 r=>cStr r fun b_79 r=>onNil r (Zw (chk (decide (0≤t15)&&decide (t15≤1000)) (some (Zz .u64 (Vj t15),[]))) (kI .u64 fun n_23=>Zw (sel (t19==(5:UInt8)) (Zw (chk (decide (0≤Zd .i64 (3+n_19))&&decide (Zd .i64 (3+n_19)≤4611686018427387904)) (some (Xv [Zx (Wd (Xb (Zd .i64 (3+n_19)))),Zx (Wf (Xb (Zd .i64 (3+n_19)))),Zx (Wj (Xb (Zd .i64 (3+n_19))))],[]))) (kA fun cs=>cStr cs fun b_80 r=>cStr r fun b_81 r=>cStr r fun b_82 r=>onNil r (some (Zv b::Zv b_56::Zv b_57::Zv b_58::Zv b_59::Zv b_60::Zv b_61::Zv b_62::Zv b_63::Zv b_64::Zv b_65::Zv b_66::Zz .u16 n::Zp b_67::Zz .i64 n_18::Yx b_68::Zz .i64 n_21::Zx b_69::Zx b_70::Zx b_71::Zz .i64 n_22::Zx b_72::Zp b_73::Zx b_74::Zx b_75::Zp b_76::Zn false::Zx b_80::Zx b_81::Zx b_82::t18::Zz .u64 n_23::t17::t16::t10)))) (sel (t19==(6:UInt8)) (some [Zv b,Zv b_56,Zv b_57,Zv b_58,Zv b_59,Zv b_60,Zv b_61,Zv b_62,Zv b_63,Zv b_64,Zv b_65,Zv b_66,Zz .u16 n,Zp b_67,Zz .i64 n_18,Yx b_68,Zz .i64 n_21,Zx b_69,Zx b_70,Zx b_71,Zz .i64 n_22,Zx b_72,Zp b_73,Zx b_74,Zx b_75,Zp b_76,Zn false,Zx b_77,Zx b_78,Zx b_79,t18,Zz .u64 n_23,t17,t16,t1,Zx [(66:UInt8),(79:UInt8),(83:UInt8)],Zz .u64 (Xh 3),t4,Zz .i64 6]) (sel (t19==(8:UInt8)) (some [Zv b,Zv b_56,Zv b_57,Zv b_58,Zv b_59,Zv b_60,Zv b_61,Zv b_62,Zv b_63,Zv b_64,Zv b_65,Zv b_66,Zz .u16 n,Zp b_67,Zz .i64 n_18,Yx b_68,Zz .i64 n_21,Zx b_69,Zx b_70,Zx b_71,Zz .i64 n_22,Zx b_72,Zp b_73,Zx b_74,Zx b_75,Zp b_76,Zn false,Zx b_77,Zx b_78,Zx b_79,t18,Zz .u64 n_23,t17,t16,t1,t4,Zz .u64 (Xh 4),t4,Zz .i64 6]) (sel (t19==(9:UInt8)) (some [Zv b,Zv b_56,Zv b_57,Zv b_58,Zv b_59,Zv b_60,Zv b_61,Zv b_62,Zv b_63,Zv b_64,Zv b_65,Zv b_66,Zz .u16 n,Zp b_67,Zz .i64 n_18,Yx b_68,Zz .i64 n_21,Zx b_69,Zx b_70,Zx b_71,Zz .i64 n_22,Zx b_72,Zp b_73,Zx b_74,Zx b_75,Zp b_76,Zn false,Zx b_77,Zx b_78,Zx b_79,t18,Zz .u64 n_23,t17,t16,t1,t4,Zz .u64 (Xh 3),Zx [(66:UInt8),(79:UInt8),(83:UInt8)],Zz .i64 6]) (sel (t19==(10:UInt8)) (some [Zv b,Zv b_56,Zv b_57,Zv b_58,Zv b_59,Zv b_60,Zv b_61,Zv b_62,Zv b_63,Zv b_64,Zv b_65,Zv b_66,Zz .u16 n,Zp b_67,Zz .i64 n_18,Yx b_68,Zz .i64 n_21,Zx b_69,Zx b_70,Zx b_71,Zz .i64 n_22,Zx b_72,Zp b_73,Zx b_74,Zx b_75,Zp b_76,Zn false,Zx b_77,Zx b_78,Zx b_79,t18,Zz .u64 n_23,t17,t16,t1,t4,Zz .u64 (Xh 3),t4,Zz .i64 5]) (some (Zv b::Zv b_56::Zv b_57::Zv b_58::Zv b_59::Zv b_60::Zv b_61::Zv b_62::Zv b_63::Zv b_64::Zv b_65::Zv b_66::Zz .u16 n::Zp b_67::Zz .i64 n_18::Yx b_68::Zz .i64 n_21::Zx b_69::Zx b_70::Zx b_71::Zz .i64 n_22::Zx b_72::Zp b_73::Zx b_74::Zx b_75::Zp b_76::Zn false::Zx b_77::Zx b_78::Zx b_79::t18::Zz .u64 n_23::t17::t16::t10))))))) fun l=>cU8 l fun b r=>cU8 r fun b_80 r=>cU8 r fun b_81 r=>let t20:Int:=Yg (Zd .i64 (↑(Zm b_81):Int)) 3;cU8 r fun b_82 r=>cU8 r fun b_83 r=>cU8 r fun b_84 r=>cU8 r fun b_85 r=>cU8 r fun b_86 r=>cU8 r fun b_87 r=>cU8 r fun b_88 r=>cU8 r fun b_89 r=>cU8 r fun b_90 r=>cInt .u16 r fun n r=>cBs r fun b_91 r=>cInt .i64 r fun n_24 r=>onCons r fun x r=>Vq x fun b_92=>cInt .i64 r fun n_25 r=>cStr r fun b_93 r=>cStr r fun b_94 r=>cStr r fun b_95 r=>cInt .i64 r fun n_26 r=>cStr r fun b_96 r=>cBs r fun b_97 r=>cStr r fun b_98 r=>cStr r fun b_99 r=>cBs r fun b_100 r=>cBool r fun b_101 r=>cStr r fun b_102 r=>cStr r fun b_103 r=>cStr r fun b_104 r=>cInt .i64 r fun n_27 r=>cInt .u64 r fun n_28 r=>cInt .i64 r fun n_29 r=>cInt .i64 r fun n_30 r=>cStr r fun b_105 r=>cStr r fun b_106 r=>cInt .u64 r fun n_31 r=>cStr r fun b_107 r=>cInt .i64 r fun n_32 r=>onNil r (Zw (chk (l63 b_102&&l63 b_103&&l63 b_104&&l63 b_105&&l63 b_106&&decide (0≤n_28)&&decide (n_28<18446744073709551616)&&decide (0≤n_31)&&decide (n_31<18446744073709551616)) (some (Zh [Zp (Wy (Kerb.sealTicket (Vg b_101 (Yu b_102 b_103 b_104) n_27 n_28 n_29 n_30 b_105 b_106) n_31)),Zz .i64 (Xp (Kerb.sealTicket (Vg b_101 (Yu b_102 b_103 b_104) n_27 n_28 n_29 n_30 b_105 b_106) n_31))],[]))) (kT fun vs=>cBs vs fun b_108 r=>cInt .i64 r fun n_33 r=>onNil r (Zw (chk (decide (0≤t20)&&decide (t20≤4611686018427387904)) (some (Xv [Zx (Wd (Kerb.service t20)),Zx (Wf (Kerb.service t20)),Zx (Wj (Kerb.service t20))],[]))) (kA fun cs=>cStr cs fun b_109 r=>cStr r fun b_110 r=>cStr r fun b_111 r=>onNil r (Zw (sel (Xm (Yz (Yg (↑(Zm b_89):Int) (↑(Zm (16:UInt8)):Int)))==(11:UInt8)) (some [Zv b,Zv b_80,Zv b_81,Zv b_82,Zv b_83,Zv b_84,Zv b_85,Zv b_86,Zv b_87,Zv b_88,Zv b_89,Zv b_90,Zz .u16 n,Zp b_91,Zz .i64 n_24,Yx b_92,Zz .i64 n_25,Zx b_93,Zx b_94,Zx b_95,Zz .i64 n_26,Zx b_96,Zp b_97,Zx b_98,Zx b_99,Zp b_100,Zn b_101,Zx b_102,Zx b_103,Zx b_104,Zz .i64 n_27,Zz .u64 n_28,Zz .i64 n_29,Zz .i64 n_30,Zx b_105,Zx b_106,Zx b_107,Zz .i64 n_32,Zp b_108,Zx Vb,Zx (Kerb.realm 1),Zx (Kerb.realm 0)]) (some [Zv b,Zv b_80,Zv b_81,Zv b_82,Zv b_83,Zv b_84,Zv b_85,Zv b_86,Zv b_87,Zv b_88,Zv b_89,Zv b_90,Zz .u16 n,Zp b_91,Zz .i64 n_24,Yx b_92,Zz .i64 n_25,Zx b_93,Zx b_94,Zx b_95,Zz .i64 n_26,Zx b_96,Zp b_97,Zx b_98,Zx b_99,Zp b_100,Zn b_101,Zx b_102,Zx b_103,Zx b_104,Zz .i64 n_27,Zz .u64 n_28,Zz .i64 n_29,Zz .i64 n_30,Zx b_105,Zx b_106,Zx b_107,Zz .i64 n_32,Zp b_108,Zx b_109,Zx b_110,Zx b_111])) fun l=>cU8 l fun b r=>cU8 r fun b_112 r=>cU8 r fun b_113 r=>cU8 r fun b_114 r=>cU8 r fun b_115 r=>cU8 r fun b_116 r=>cU8 r fun b_117 r=>cU8 r fun b_118 r=>cU8 r fun b_119 r=>cU8 r fun b_120 r=>cU8 r fun b_121 r=>cU8 r fun b_122 r=>cInt .u16 r fun n r=>cBs r fun b_123 r=>cInt .i64 r fun n_34 r=>onCons r fun x r=>Vq x fun b_124=>cInt .i64 r fun n_35 r=>cStr r fun b_125 r=>cStr r fun b_126 r=>cStr r fun b_127 r=>cInt .i64 r fun n_36 r=>cStr r fun b_128 r=>cBs r fun b_129 r=>cStr r fun b_130 r=>cStr r fun b_131 r=>cBs r fun b_132 r=>cBool r fun b_133 r=>cStr r fun b_134 r=>cStr r fun b_135 r=>cStr r fun b_136 r=>cInt .i64 r fun n_37 r=>cInt .u64 r fun n_38 r=>cInt .i64 r fun n_39 r=>cInt .i64 r fun n_40 r=>cStr r fun b_137 r=>cStr r fun b_138 r=>cStr r fun b_139 r=>cInt .i64 r fun n_41 r=>cBs r fun b_140 r=>cStr r fun b_141 r=>cStr r fun b_142 r=>cStr r fun b_143 r=>onNil r (some [Zv b,Zv b_112,Zv b_113,Zv b_114,Zv b_115,Zv b_116,Zv b_117,Zv b_118,Zv b_119,Zv b_120,Zv b_121,Zv b_122,Zz .u16 n,Zp b_123,Yx b_124,Zz .u64 n_38,Zz .i64 n_34,Zx [],Zx [],Zx [],Zz .i64 n_41,Zx b_139,Zp b_140,Zx b_141,Zx b_142,Zp []])))))))))) (some [Zv b,Zv b_56,Zv b_57,Zv b_58,Zv b_59,Zv b_60,Zv b_61,Zv b_62,Zv b_63,Zv b_64,Zv b_65,Zv b_66,Zz .u16 n,Zp b_67,Yx b_68,Zz .u64 n_20,Zz .i64 n_21,Zx b_69,Zx b_70,Zx b_71,Zz .i64 n_22,Zx b_72,Zp b_73,Zx b_74,Zx b_75,Zp b_76])) fun l=>cU8 l fun b r=>cU8 r fun b_77 r=>cU8 r fun b_78 r=>cU8 r fun b_79 r=>cU8 r fun b_80 r=>cU8 r fun b_81 r=>cU8 r fun b_82 r=>cU8 r fun b_83 r=>cU8 r fun b_84 r=>cU8 r fun b_85 r=>cU8 r fun b_86 r=>cU8 r fun b_87 r=>cInt .u16 r fun n r=>cBs r fun b_88 r=>onCons r fun x r=>Vq x fun b_89=>cInt .u64 r fun n_23 r=>cInt .i64 r fun n_24 r=>cStr r fun b_90 r=>cStr r fun b_91 r=>cStr r fun b_92 r=>cInt .i64 r fun n_25 r=>cStr r fun b_93 r=>cBs r fun b_94 r=>cStr r fun b_95 r=>cStr r fun b_96 r=>cBs r fun b_97 r=>let t21:List AV:=[Zz .i64 n_24,Zx b_90,Zx b_91,Zx b_92,Zz .i64 n_25,Zx b_93,Zp b_94,Zx b_95,Zx b_96,Zp b_97];onNil r (Zw (sel (Xm (Yz (Yg (↑(Zm b_86):Int) (↑(Zm (16:UInt8)):Int)))==(7:UInt8)) (some (Zv b::Zv b_77::Zv b_78::Zv b_79::Zv b_80::Zv b_81::Zv b_82::Zv b_83::Zv b_84::Zv b_85::Zv b_86::Zv b_87::Zz .u16 n::Zp b_88::Yx b_89::Zz .u64 (Xh 99)::t21)) (some (Zv b::Zv b_77::Zv b_78::Zv b_79::Zv b_80::Zv b_81::Zv b_82::Zv b_83::Zv b_84::Zv b_85::Zv b_86::Zv b_87::Zz .u16 n::Zp b_88::Yx b_89::Zz .u64 n_23::t21))) fun l=>cU8 l fun b r=>cU8 r fun b r=>cU8 r fun b r=>cU8 r fun b r=>cU8 r fun b r=>cU8 r fun b r=>cU8 r fun b r=>cU8 r fun b r=>cU8 r fun b r=>cU8 r fun b r=>cU8 r fun b r=>cU8 r fun b_98 r=>cInt .u16 r fun n r=>cBs r fun b_99 r=>onCons r fun x r=>Vq x fun b_100=>cInt .u64 r fun n_26 r=>cInt .i64 r fun n_27 r=>cStr r fun b_101 r=>cStr r fun b_102 r=>cStr r fun b_103 r=>cInt .i64 r fun n_28 r=>cStr r fun b_104 r=>cBs r fun b_105 r=>cStr r fun b_106 r=>cStr r fun b_107 r=>cBs r fun b_108 r=>onNil r (Zw (chk (decide (0≤n_26)&&decide (n_26<18446744073709551616)) (some (Zh [Zp (Wy (Kerb.makeBox 7 n_26 b_100)),Zz .i64 (Xp (Kerb.makeBox 7 n_26 b_100))],[]))) (kT fun vs=>cBs vs fun b_109 r=>cInt .i64 r fun n_29 r=>onNil r (Zw (chk (l63 b_101&&l63 b_102&&l63 b_103&&l63 b_104&&l63 b_106&&l63 b_107) (some (Zh [Zp (Wy (Yq (Xk n_27 (Yu b_101 b_102 b_103) n_28 b_104 b_105 b_106 b_107 b_109))),Zz .i64 (Xp (Yq (Xk n_27 (Yu b_101 b_102 b_103) n_28 b_104 b_105 b_106 b_107 b_109)))],[]))) (kT fun vs=>cBs vs fun b_110 r=>cInt .i64 r fun n_30 r=>onNil r (sel (Xm (Yz (Yg (↑(Zm b):Int) (↑(Zm (16:UInt8)):Int)))==(15:UInt8)) (Zw (chk (decide (Zy b_110≤1000000)&&decide (0≤n)&&decide (n≤65535)) (some (Zp (Kerb.spoil b_110 n),[]))) (kB fun b=>some (Zp b,[]))) (some (Zp b_110,[]))))))))))))))))))):Option (AV×Blocks))) (by kernel_rfl) ?_
  delta kT kA kB kI
  try dsimp only [cStr,cBs,cBool,cU8,cInt,cSl,l63]
  simp only [Yv,decide_eq_true_eq] at hpre
  obtain ⟨hh0,hh1⟩:=hpre
  have bu:=Wu u
  have bs_:=Wu s
  have be:=Wu e
  have bn:=Wu n
  have bt:=Wu t
  have bp:=Wu p
  have bi:=Wu i
  have bl:=Wu l
  have ba:=Wu a
  have bd_:=Wu d
  obtain ⟨m,hm⟩:∃ m,w.toNat % 16=m:=⟨_,rfl⟩
  have q:∀ k:Nat,k<256→(Xm (Yz (Yg (w.toNat:Int) ((16:UInt8).toNat:Int)))==Xm k)=decide (m=k):=fun k hk=>by
   have h7:Yz (Yg (w.toNat:Int) ((16:UInt8).toNat:Int))=w.toNat % 16:=Kerb.tmod_u8 w 16 (by omega)
   rw [h7,hm,Kerb.u8_beq (by omega) hk]
  have q1:(_==(1:UInt8))=_:=q 1 (by omega)
  have q2:(_==(2:UInt8))=_:=q 2 (by omega)
  have q3:(_==(3:UInt8))=_:=q 3 (by omega)
  have q4:(_==(4:UInt8))=_:=q 4 (by omega)
  have q5:(_==(5:UInt8))=_:=q 5 (by omega)
  have q6:(_==(6:UInt8))=_:=q 6 (by omega)
  have q7:(_==(7:UInt8))=_:=q 7 (by omega)
  have q8:(_==(8:UInt8))=_:=q 8 (by omega)
  have q9:(_==(9:UInt8))=_:=q 9 (by omega)
  have q10:(_==(10:UInt8))=_:=q 10 (by omega)
  have q11:(_==(11:UInt8))=_:=q 11 (by omega)
  have q15:(_==(15:UInt8))=_:=q 15 (by omega)
  obtain ⟨U,hU⟩:∃ U,Zb u % 3=U:=⟨_,rfl⟩
  have f0:=Kerb.wrap_u8i
  have f1:Zd .i64 (1000+Zb t)=1000+Zb t:=wrap_i64 (by omega) (by omega)
  have f2:Zd .i64 (30+Yg (Zb n) 3)=30+Zb n % 3:=by rw [Yf bn.1];exact wrap_i64 (by omega) (by omega)
  have f4:Zd .i64 (1000+Zb t+Zd .i64 (Zb p*50))=1000+Zb t+Zb p*50:=by rw [wrap_i64 (n:=Zb p*50) (by omega) (by omega)];exact wrap_i64 (by omega) (by omega)
  have f5:Yg (Zb u) 3=U:=by rw [Yf bu.1];exact hU
  have f6:Zd .i64 (3+Yg (Zb u) 6)=3+Zb u % 6:=by rw [Yf bu.1];exact wrap_i64 (by omega) (by omega)
  have f7:Zd .i64 (3+U)=3+U:=wrap_i64 (by omega) (by omega)
  have f8:Zd .i64 (30+Yg (Zd .i64 (Int.tdiv (Zb d) 4)) 3)=30+Zb d / 4 % 3:=by rw [Int.tdiv_eq_ediv_of_nonneg bd_.1,wrap_i64 (n:=Zb d / 4) (by omega) (by omega),Yf (by omega)];exact wrap_i64 (by omega) (by omega)
  have f9:Yg (Zb a) 2=Zb a % 2:=Yf ba.1
  have f10:Yg (Zb e) 4=Zb e % 4:=Yf be.1
  have f11:Yg (Zb l) 40=Zb l % 40:=Yf bl.1
  have f12:Zd .i64 (1000+Zb i)=1000+Zb i:=wrap_i64 (by omega) (by omega)
  have f13:Yg (Zb s) 3=Zb s % 3:=Yf bs_.1
  have g1:(decide ((0:Int)≤30+Zb n % 3)&&decide (30+Zb n % 3≤1000))=true:=by simp;omega
  have g2:(decide ((0:Int)≤U)&&decide (U≤1000))=true:=by simp;omega
  have g3:(decide ((0:Int)≤30+Zb d / 4 % 3)&&decide (30+Zb d / 4 % 3≤1000))=true:=by simp;omega
  have g4:(decide ((0:Int)≤U)&&decide (U≤4611686018427387904))=true:=by simp;omega
  have g5:(decide ((0:Int)≤3+Zb u % 6)&&decide (3+Zb u % 6≤4611686018427387904))=true:=by simp;omega
  have g6:(decide ((0:Int)≤3+U)&&decide (3+U≤4611686018427387904))=true:=by simp;omega
  have g7:(decide ((0:Int)≤Zb e % 4)&&decide (Zb e % 4≤1000))=true:=by simp;omega
  have g8:(decide ((0:Int)≤Zb s % 3)&&decide (Zb s % 3≤4611686018427387904))=true:=by simp;omega
  have g9:(decide ((0:Int)≤hw)&&decide (hw≤65535))=true:=by simp;omega
  have qd:(Xm (Yz (Yg (d.toNat:Int) ((4:UInt8).toNat:Int)))==(3:UInt8))=decide (d.toNat % 4=3):=by
   have h7:Yz (Yg (d.toNat:Int) ((4:UInt8).toNat:Int))=d.toNat % 4:=Kerb.tmod_u8 d 4 (by omega)
   rw [h7];exact Kerb.u8_beq (k:=3) (by omega) (by decide)
  obtain ⟨K,hK⟩:∃ K,Kerb.KAsk.kop (Yj o u s e n t p i l a w d hw)=K:=⟨_,rfl⟩
  have hKb:1≤K∧K≤3:=by rw [← hK];exact Kerb.KAsk.kop_bd (Yj o u s e n t p i l a w d hw)
  have eo:Zd .i64 (1+Yg (Zb o) 3)=K:=by
   have bo:=Wu o
   rw [Yf bo.1,wrap_i64 (by omega) (by omega)];exact hK
  have k1:=fun l0 l1 l2=>Kerb.KAsk.pick3_chk l0 l1 l2 hKb
  have k2:=fun l0 l1 l2=>Kerb.KAsk.pick3_get l0 l1 l2 hKb
  obtain ⟨LB,hLB⟩:∃ x,Kerb.KAsk.label (Yj o u s e n t p i l a w d hw)=x:=⟨_,rfl⟩
  have eLB:LB=cond (decide (m=1)) (Kerb.KAsk.pick3 [103,84,75,84] [67,80,87,108] [103,84,71,83] (K-1)) (Kerb.KAsk.pick3 [103,84,71,83] [103,84,75,84] [67,80,87,108] (K-1)):=by rw [← hLB,← hK];exact Kerb.KAsk.label_c (Yj o u s e n t p i l a w d hw) hm
  obtain ⟨S,hS⟩:∃ x,Kerb.KAsk.secret (Yj o u s e n t p i l a w d hw)=x:=⟨_,rfl⟩
  have eS:S=cond (LB==[67,80,87,108]) ⟨LB,1000+Zb t,0,0,cond (decide (m=2)) (Vj 5) (Xh (30+Zb n % 3))⟩ ⟨LB,1000+Zb t,1000+Zb t,1000+Zb t+Zb p*50,0⟩:=by rw [← hS,← hLB];exact Kerb.KAsk.secret_c (Yj o u s e n t p i l a w d hw) hm
  have gS:0≤S.new∧S.new<18446744073709551616:=by
   rw [eS]
   cases (LB==[67,80,87,108])<;>cases (decide (m=2))
   ·exact (show (0:Int)≤0∧(0:Int)<18446744073709551616 by decide)
   ·exact (show (0:Int)≤0∧(0:Int)<18446744073709551616 by decide)
   ·exact Kerb.long_bd _
   ·exact Kerb.session_bd2 _
  obtain ⟨BODY,hBODY⟩:∃ x,Kerb.KAsk.body (Yj o u s e n t p i l a w d hw)=x:=⟨_,rfl⟩
  have eBODY:BODY=cond (decide (m=3)) ((Yh S).val++[0]) (Yh S).val:=by rw [← hBODY,← hS];exact Kerb.KAsk.body_c (Yj o u s e n t p i l a w d hw) hm
  have lS:=Kerb.encKaSec_len S
  obtain ⟨K0,hK0⟩:∃ x,Kerb.KAsk.key0 (Yj o u s e n t p i l a w d hw)=x:=⟨_,rfl⟩
  have eK0:K0=cond (decide (d.toNat % 4=3)) (Xh (30+Zb d / 4 % 3)) (Xh U):=by rw [← hK0,← hU];rfl
  obtain ⟨US,hUS⟩:∃ x,cond (decide (m=4)) (Xb (3+Zb u % 6)) (Xb U)=x:=⟨_,rfl⟩
  obtain ⟨SEA,hSEA⟩:∃ x,Kerb.KAsk.sealed (Yj o u s e n t p i l a w d hw)=x:=⟨_,rfl⟩
  obtain ⟨WA,hWA⟩:∃ x,Kerb.KAsk.want (Yj o u s e n t p i l a w d hw)=x:=⟨_,rfl⟩
  have eWA:WA=cond (decide (m=11)) (Kerb.tgs [65,84,72] [66,79,83]) (Kerb.service (Zb s % 3)):=by rw [← hWA];exact Kerb.KAsk.want_c (Yj o u s e n t p i l a w d hw) hm
  obtain ⟨R0,hR0⟩:∃ x,Kerb.KAsk.req0 (Yj o u s e n t p i l a w d hw)=x:=⟨_,rfl⟩
  have eR0:R0=cond (K==2) ⟨2,Wn,cond (decide (m=10)) 5 6,cond (decide (m=9)) [66,79,83] [65,84,72],SEA,WA.name,WA.inst,[]⟩ ⟨K,US,0,[],[],[],[],[]⟩:=by rw [← hR0,← hUS,← hSEA,← hWA,← hK,← hU,← hm];rfl
  obtain ⟨KE,hKE⟩:∃ x,Kerb.KAsk.key (Yj o u s e n t p i l a w d hw)=x:=⟨_,rfl⟩
  obtain ⟨K1,hK1⟩:∃ x,cond (K==2) (Vj (Zb e % 4)) K0=x:=⟨_,rfl⟩
  have eKE:KE=cond (decide (m=7)) (Xh 99) K1:=by rw [← hKE,← hK1,← hK,← hK0];exact Kerb.KAsk.key_c (Yj o u s e n t p i l a w d hw) hm
  simp (config:={maxSteps:=10000000}) only [f0,f1,f2,f4,f5,f6,f7,f8,f9,f10,f11,f12,f13,g1,g2,g3,g4,g5,g6,g7,g8,g9,qd,q1,q2,q3,q4,q5,q6,q7,q8,q9,q10,q11,q15,eo,k1,k2,↓sInt,↓sU8,↓sBool,↓sStr,↓sBs,↓sSl,↓sAgg,↓sTup,↓sCons,↓sNil,↓sNilB,↓sChk,↓sChkBind,↓sSome]
  refine bind_via (fun ls=>ls=[Zv o,Zv u,Zv s,Zv e,Zv n,Zv t,Zv p,Zv i,Zv l,Zv a,Zv w,Zv d,Zz Wb hw,Zp [],Zz Zk K,Zz Zk (1000+Zb t),Zx LB,Zz Zk (1000+Zb t),Zz Zk 0,Zz Zk 0,Zz Wx 0]) ⟨_,?_,rfl⟩ ?_
  ·rw [eLB]
   cases (decide (m=1))<;>rfl
  rintro _ rfl
  simp (config:={maxSteps:=10000000}) only [f0,f1,f2,f4,f5,f6,f7,f8,f9,f10,f11,f12,f13,g1,g2,g3,g4,g5,g6,g7,g8,g9,qd,q1,q2,q3,q4,q5,q6,q7,q8,q9,q10,q11,q15,↓sInt,↓sU8,↓sBool,↓sStr,↓sBs,↓sSl,↓sAgg,↓sTup,↓sCons,↓sNil,↓sNilB,↓sChk,↓sChkBind,↓sSome]
  refine bind_via (fun ls=>ls=[Zv o,Zv u,Zv s,Zv e,Zv n,Zv t,Zv p,Zv i,Zv l,Zv a,Zv w,Zv d,Zz Wb hw,Zp [],Zz Zk K,Zx S.label,Zz Zk S.time,Zz Zk S.start,Zz Zk S.stop,Zz Wx S.new]) ⟨_,?_,rfl⟩ ?_
  ·rw [eS]
   cases (LB==[67,80,87,108])<;>cases (decide (m=2))<;>rfl
  rintro _ rfl
  simp (config:={maxSteps:=10000000}) only [gS,decide_true,Xu,f0,f1,f2,f4,f5,f6,f7,f8,f9,f10,f11,f12,f13,g1,g2,g3,g4,g5,g6,g7,g8,g9,qd,q1,q2,q3,q4,q5,q6,q7,q8,q9,q10,q11,q15,↓sInt,↓sU8,↓sBool,↓sStr,↓sBs,↓sSl,↓sAgg,↓sTup,↓sCons,↓sNil,↓sNilB,↓sChk,↓sChkBind,↓sSome]
  refine bind_via (fun ls=>ls=[Zv o,Zv u,Zv s,Zv e,Zv n,Zv t,Zv p,Zv i,Zv l,Zv a,Zv w,Zv d,Zz Wb hw,Zp [],Zz Zk K,Yx BODY]) ⟨_,?_,rfl⟩ ?_
  ·rw [eBODY]
   cases (decide (m=3))
   ·rfl
   ·show chk (Go.Abs.room ((Yh S).val.length+1) 1) _=_
    rw [chk_of (Kerb.room_ok (by omega))]
    rfl
  rintro _ rfl
  simp (config:={maxSteps:=10000000}) only [f0,f1,f2,f4,f5,f6,f7,f8,f9,f10,f11,f12,f13,g1,g2,g3,g4,g5,g6,g7,g8,g9,qd,q1,q2,q3,q4,q5,q6,q7,q8,q9,q10,q11,q15,↓sInt,↓sU8,↓sBool,↓sStr,↓sBs,↓sSl,↓sAgg,↓sTup,↓sCons,↓sNil,↓sNilB,↓sChk,↓sChkBind,↓sSome]
  refine bind_via (fun ls=>ls=[Zv o,Zv u,Zv s,Zv e,Zv n,Zv t,Zv p,Zv i,Zv l,Zv a,Zv w,Zv d,Zz Wb hw,Zp [],Zz Zk K,Yx BODY,Zz Zk U,Zz Wx K0]) ⟨_,?_,rfl⟩ ?_
  ·rw [eK0]
   cases (decide (d.toNat % 4=3))<;>rfl
  rintro _ rfl
  simp (config:={maxSteps:=10000000}) only [f0,f1,f2,f4,f5,f6,f7,f8,f9,f10,f11,f12,f13,g1,g2,g3,g4,g5,g6,g7,g8,g9,qd,q1,q2,q3,q4,q5,q6,q7,q8,q9,q10,q11,q15,↓sInt,↓sU8,↓sBool,↓sStr,↓sBs,↓sSl,↓sAgg,↓sTup,↓sCons,↓sNil,↓sNilB,↓sChk,↓sChkBind,↓sSome]
  refine bind_via (fun ls=>ls=[Zv o,Zv u,Zv s,Zv e,Zv n,Zv t,Zv p,Zv i,Zv l,Zv a,Zv w,Zv d,Zz Wb hw,Zp [],Zz Zk K,Yx BODY,Zz Zk U,Zz Wx K0,Zz Zk K,Zx US.name,Zx US.inst,Zx US.realm,Zz Zk 0,Zx [],Zp [],Zx [],Zx [],Zp []]) ⟨_,?_,rfl⟩ ?_
  ·rw [← hUS]
   cases (decide (m=4))<;>rfl
  rintro _ rfl
  simp (config:={maxSteps:=10000000}) only [f0,f1,f2,f4,f5,f6,f7,f8,f9,f10,f11,f12,f13,g1,g2,g3,g4,g5,g6,g7,g8,g9,qd,q1,q2,q3,q4,q5,q6,q7,q8,q9,q10,q11,q15,↓sInt,↓sU8,↓sBool,↓sStr,↓sBs,↓sSl,↓sAgg,↓sTup,↓sCons,↓sNil,↓sNilB,↓sChk,↓sChkBind,↓sSome]
  refine bind_via (fun ls=>ls=[Zv o,Zv u,Zv s,Zv e,Zv n,Zv t,Zv p,Zv i,Zv l,Zv a,Zv w,Zv d,Zz Wb hw,Zp [],Yx BODY,Zz Wx K1,Zz Zk R0.op,Zx R0.user.name,Zx R0.user.inst,Zx R0.user.realm,Zz Zk R0.kvno,Zx R0.realm,Zp R0.ticket,Zx R0.service,Zx R0.inst,Zp []]) ⟨_,?_,rfl⟩ ?_
  ·obtain ⟨SKQ,hSK⟩:∃ x,cond (decide (m=8)) (Xh 4) (Xh 3)=x:=⟨_,rfl⟩
   obtain ⟨CL,hCL⟩:∃ x,cond (decide (m=5)) (Xb (3+U)) (Xb U)=x:=⟨_,rfl⟩
   obtain ⟨TI,hTI⟩:∃ x,cond (decide (m=6)) ([66,79,83]:List UInt8) [65,84,72]=x:=⟨_,rfl⟩
   obtain ⟨RL,hRL⟩:∃ x,cond (decide (m=9)) ([66,79,83]:List UInt8) [65,84,72]=x:=⟨_,rfl⟩
   obtain ⟨KV,hKV⟩:∃ x,cond (decide (m=10)) (5:Int) 6=x:=⟨_,rfl⟩
   have eSEA:SEA=(Kerb.sealTicket ⟨false,CL,Zb a % 2,Vj (Zb e % 4),Zb l % 40,1000+Zb i,Vb,TI⟩ SKQ).val:=by
    rw [← hSEA,← hSK,← hCL,← hTI,← hU]
    exact (Kerb.KAsk.sealed_c (Yj o u s e n t p i l a w d hw) hm).trans (by rw [Kerb.KAsk.tkt_c (Yj o u s e n t p i l a w d hw) hm];rfl)
   cases hk2:(K==2)
   ·rw [eR0,← hK1,hk2]
    rfl
   have hK2:K=2:=by simpa using hk2
   rw [sel_true]
   refine bind_via (fun ls=>ls=[Zv o,Zv u,Zv s,Zv e,Zv n,Zv t,Zv p,Zv i,Zv l,Zv a,Zv w,Zv d,Zz Wb hw,Zp [],Zz Zk K,Yx BODY,Zz Zk K,Zx US.name,Zx US.inst,Zx US.realm,Zz Zk 0,Zx [],Zp [],Zx [],Zx [],Zp [],Zn false,Zx CL.name,Zx CL.inst,Zx CL.realm,Zz Zk (Zb a % 2),Zz Wx (Vj (Zb e % 4)),Zz Zk (Zb l % 40),Zz Zk (1000+Zb i),Zx Vb,Zx TI,Zz Wx SKQ,Zx RL,Zz Zk KV]) ⟨_,?_,rfl⟩ ?_
   ·rw [← hSK,← hCL,← hTI,← hRL,← hKV]
    by_cases h5:m=5
    ·rw [h5];rfl
    by_cases h6:m=6
    ·rw [h6];rfl
    by_cases h8:m=8
    ·rw [h8];rfl
    by_cases h9:m=9
    ·rw [h9];rfl
    by_cases h10:m=10
    ·rw [h10];rfl
    rw [decide_eq_false h5,decide_eq_false h6,decide_eq_false h8,decide_eq_false h9,decide_eq_false h10]
    rfl
   rintro _ rfl
   have gC:CL.name.length≤9223372036854775807∧CL.inst.length≤9223372036854775807∧CL.realm.length≤9223372036854775807:=by
    rw [← hCL]
    cases (decide (m=5))
    ·exact Kerb.user_dec _
    ·exact Kerb.user_dec _
   have gT:TI.length≤9223372036854775807:=by
    rw [← hTI]
    cases (decide (m=6))<;>decide
   have gK:0≤SKQ∧SKQ<18446744073709551616:=by
    rw [← hSK]
    cases (decide (m=8))<;>exact Kerb.long_bd _
   have gE:=Kerb.session_bd2 (Zb e % 4)
   have gB:Kerb.krbtgt.length≤9223372036854775807:=by decide
   simp (config:={maxSteps:=10000000}) only [gC,gT,gK,gE,gB,decide_true,Xu,f0,f1,f2,f4,f5,f6,f7,f8,f9,f10,f11,f12,f13,g1,g2,g3,g4,g5,g6,g7,g8,g9,qd,q1,q2,q3,q4,q5,q6,q7,q8,q9,q10,q11,q15,↓sInt,↓sU8,↓sBool,↓sStr,↓sBs,↓sSl,↓sAgg,↓sTup,↓sCons,↓sNil,↓sNilB,↓sChk,↓sChkBind,↓sSome]
   refine bind_via (fun ls=>ls=[Zv o,Zv u,Zv s,Zv e,Zv n,Zv t,Zv p,Zv i,Zv l,Zv a,Zv w,Zv d,Zz Wb hw,Zp [],Zz Zk K,Yx BODY,Zz Zk K,Zx US.name,Zx US.inst,Zx US.realm,Zz Zk 0,Zx [],Zp [],Zx [],Zx [],Zp [],Zn false,Zx CL.name,Zx CL.inst,Zx CL.realm,Zz Zk (Zb a % 2),Zz Wx (Vj (Zb e % 4)),Zz Zk (Zb l % 40),Zz Zk (1000+Zb i),Zx Vb,Zx TI,Zx RL,Zz Zk KV,Zp SEA,Zx WA.name,Zx WA.inst,Zx WA.realm]) ⟨_,?_,rfl⟩ ?_
   ·rw [eWA,eSEA]
    cases (decide (m=11))<;>rfl
   rintro _ rfl
   rw [eR0,← hK1,hk2,hRL,hKV,hK2]
   rfl
  rintro _ rfl
  simp (config:={maxSteps:=10000000}) only [f0,f1,f2,f4,f5,f6,f7,f8,f9,f10,f11,f12,f13,g1,g2,g3,g4,g5,g6,g7,g8,g9,qd,q1,q2,q3,q4,q5,q6,q7,q8,q9,q10,q11,q15,↓sInt,↓sU8,↓sBool,↓sStr,↓sBs,↓sSl,↓sAgg,↓sTup,↓sCons,↓sNil,↓sNilB,↓sChk,↓sChkBind,↓sSome]
  refine bind_via (fun ls=>ls=[Zv o,Zv u,Zv s,Zv e,Zv n,Zv t,Zv p,Zv i,Zv l,Zv a,Zv w,Zv d,Zz Wb hw,Zp [],Yx BODY,Zz Wx KE,Zz Zk R0.op,Zx R0.user.name,Zx R0.user.inst,Zx R0.user.realm,Zz Zk R0.kvno,Zx R0.realm,Zp R0.ticket,Zx R0.service,Zx R0.inst,Zp []]) ⟨_,?_,rfl⟩ ?_
  ·rw [eKE]
   cases (decide (m=7))<;>rfl
  rintro _ rfl
  have gK:0≤KE∧KE<18446744073709551616:=by
   rw [eKE,← hK1,eK0]
   cases (decide (m=7))<;>cases (K==2)<;>cases (decide (d.toNat % 4=3))
   all_goals first | exact Kerb.long_bd _ | exact Kerb.session_bd2 _
  have gW:WA.name.length≤9223372036854775807∧WA.inst.length≤9223372036854775807:=by
   rw [eWA]
   cases (decide (m=11))
   ·exact ⟨(Kerb.service_dec _).1,(Kerb.service_dec _).2.1⟩
   ·exact (show (Kerb.tgs [65,84,72] [66,79,83]).name.length≤9223372036854775807∧(Kerb.tgs [65,84,72] [66,79,83]).inst.length≤9223372036854775807 by decide)
  have gU:US.name.length≤9223372036854775807∧US.inst.length≤9223372036854775807∧US.realm.length≤9223372036854775807:=by
   rw [← hUS]
   cases (decide (m=4))<;>exact Kerb.user_dec _
  have gR:(R0.user.name.length≤9223372036854775807∧R0.user.inst.length≤9223372036854775807∧R0.user.realm.length≤9223372036854775807)∧R0.realm.length≤9223372036854775807∧R0.service.length≤9223372036854775807∧R0.inst.length≤9223372036854775807:=by
   rw [eR0]
   cases (K==2)
   ·exact ⟨gU,by simp,by simp,by simp⟩
   ·refine ⟨⟨by simp [Wn],by simp [Wn],by simp [Wn]⟩,?_,gW.1,gW.2⟩
    cases (decide (m=9))<;>simp
  have lQ:(Yq (Kerb.KAsk.req (Yj o u s e n t p i l a w d hw))).val.length≤1000000:=by have:=Kerb.encKaReq_len (Kerb.KAsk.req (Yj o u s e n t p i l a w d hw));omega
  have eQ:Kerb.KAsk.req (Yj o u s e n t p i l a w d hw)={ R0 with box:=(Kerb.makeBox 7 KE BODY).val }:=by rw [← hR0,← hKE,← hBODY];exact Kerb.KAsk.req_c (Yj o u s e n t p i l a w d hw)
  have eM:=Kerb.KAsk.message_c (Yj o u s e n t p i l a w d hw) hm
  rw [eM,eQ]
  rw [eQ] at lQ
  simp (config:={maxSteps:=10000000}) only [gK,gR,lQ,decide_true,Xu,f0,f1,f2,f4,f5,f6,f7,f8,f9,f10,f11,f12,f13,g1,g2,g3,g4,g5,g6,g7,g8,g9,qd,q1,q2,q3,q4,q5,q6,q7,q8,q9,q10,q11,q15,↓sInt,↓sU8,↓sBool,↓sStr,↓sBs,↓sSl,↓sAgg,↓sTup,↓sCons,↓sNil,↓sNilB,↓sChk,↓sChkBind,↓sSome]
  cases (decide (m=15))<;>simp only [lQ,g9,decide_true,Xu,Bool.true_and,cond_true,cond_false,↓A0,A0]
 ·cases h
theorem w56:Walked Tryz.prog G 56 7 sp56:=by
 refine ⟨Tryz.f56,Tryz.func56,by decide +kernel,rfl,fun xs bl r h=> ?_⟩
 unfold sp56 at h
 split at h
 ·rename_i a b c
  obtain ⟨hpre,h2⟩:=chk_inv h;cases h2
  refine Eq.trans (b:=(Zw (chk (decide (Zy a≤9223372036854775807)) (some (Zn (Wq a),[]))) fun (r:AV×Blocks)=>onNilB (Yy r) (Vn (Yw r) fun b_1=>sel b_1 (Zw (chk (decide (Zy b≤9223372036854775807)) (some (Zn (Wz b),[]))) fun (r:AV×Blocks)=>onNilB (Yy r) (Vn (Yw r) fun b=>sel b (Zw (chk (decide (Zy c≤9223372036854775807)) (some (Zn (Wv c),[]))) fun (r:AV×Blocks)=>onNilB (Yy r) (Vn (Yw r) fun b=>some (Zn b,[]))) (some (Zn false,[])))) (some (Zn false,[]))):Option (AV×Blocks))) (by kernel_rfl) ?_
  simp only [Yv,decide_eq_true_eq] at hpre
  simp only [A0]
  rw [chk_of (by simp;omega),chk_of (by simp;omega),chk_of (by simp;omega)]
  simp only [Xw]
  cases Wq a<;>cases Wz b<;>rfl
 ·cases h
theorem w149:Walked Tryz.prog G 149 7 sp149:=by
 refine ⟨Tryz.f149,Tryz.func149,by decide +kernel,rfl,fun xs bl r h=> ?_⟩
 unfold sp149 at h
 split at h
 ·rename_i bd lb op u1 u2 u3 kv qr tk sv ins bx rl els now ad sk se
  obtain ⟨hpre,h2⟩:=chk_inv h;cases h2
  show runFnH (G.env 149 7) G.rts (G.own 149) Tryz.f149 _ _ [0]=_
  refine Eq.trans (b:=(let t0:List (List AV):=[[Zz .i64 op,Zx u1,Zx u2,Zx u3,Zz .i64 kv,Zx qr,Zp tk,Zx sv,Zx ins,Zp bx,Zx rl,Vu 9 els,Zz .i64 now,Zz .i64 ad,Zz .i64 sk,Zz .u64 se]];let t2:AV:=Xv [Zx [],Zz .i64 0,Zz .i64 0,Zz .i64 0,Zz .u64 0];let t1:Option (AV×Blocks):=some (Zh [t2,Zz .i64 80],t0);Zw (chk (decide (Zy bd≤140737488355328)) (some (Zh [Xv [Zx (Kerb.KaSecret.label (Uu (Xn bd))),Zz .i64 (Kerb.KaSecret.time (Uu (Xn bd))),Zz .i64 (Kerb.KaSecret.start (Uu (Xn bd))),Zz .i64 (Kerb.KaSecret.stop (Uu (Xn bd))),Zz .u64 (Kerb.KaSecret.new (Uu (Xn bd)))],Zz .i64 (Kerb.Dec.err (Xn bd))],[]))) (kT fun vs=>onCons vs fun x r=>Vd x fun cs=>cStr cs fun b r_1=>cInt .i64 r_1 fun n r_2=>cInt .i64 r_2 fun n_1 r_3=>cInt .i64 r_3 fun n_2 r_4=>cInt .u64 r_4 fun n_3 r_5=>onNil r_5 (cInt .i64 r fun n_4 r=>onNil r (sel (!n_4==0) t1 (sel (!b==lb) t1 (sel (!Kerb.near n now sk) (some (Zh [t2,Zz .i64 37],t0)) (some (Zh [Xv [Zx b,Zz .i64 n,Zz .i64 n_1,Zz .i64 n_2,Zz .u64 n_3],Zz .i64 0],t0))))))):Option (AV×Blocks))) (by kernel_rfl) ?_
  delta kT
  try dsimp only [cStr,cBs,cBool,cU8,cInt,cSl,l63]
  simp only [Yv,decide_eq_true_eq] at hpre
  have hb:decide (bd.length≤140737488355328)=true:=by simp;omega
  simp only [hb,↓A0,A0]
  unfold Kerb.kaSecretOf
  generalize Xn bd=D
  by_cases h1:D.err=0
  case neg=>rw [sel_pos (by simpa using h1),if_pos (.inl h1)];rfl
  by_cases h2:D.val.label=lb
  case neg=>rw [sel_neg (by simpa using h1),sel_pos (by simpa using h2),if_pos (.inr h2)];rfl
  rw [sel_neg (by simpa using h1),sel_neg (by simp [h2]),if_neg (by simp [h1,h2])]
  cases hn:Kerb.near D.val.time now sk
  ·rfl
  ·rfl
 ·cases h
theorem w150:Walked Tryz.prog G 150 7 sp150:=by
 refine ⟨Tryz.f150,Tryz.func150,by decide +kernel,rfl,fun xs bl r h=> ?_⟩
 unfold sp150 at h
 split at h
 ·rename_i rl els xls n i now
  obtain ⟨hpre,h2⟩:=chk_inv h;cases h2
  refine Eq.trans (b:=(let t0:Option (AV×Blocks):=Zw (chk (Uz els Vy&&decide (Zy els≤1000000)) (some (Zh [Zz .i64 (Yw (Vm (Xg rl (Xd Xj els)) n i now)),Zz .i64 (Yy (Vm (Xg rl (Xd Xj els)) n i now))],[]))) (kT fun vs=>cInt .i64 vs fun n r=>cInt .i64 r fun n_1 r=>onNil r (sel (!n_1==0) (some (Zh [Zz .u64 0,Zz .i64 0,Zz .i64 0,Zz .i64 0,Zz .i64 n_1],[])) (chk (decide (0≤n)&&decide (n<(↑(Zy els):Int))&&true) (Vd (Ww els (Yz n) Ux) fun cs=>cStr cs fun b r=>cStr r fun b r=>cInt .u64 r fun n r=>cInt .i64 r fun n_2 r=>cInt .i64 r fun n_3 r=>cInt .i64 r fun n_4 r=>cInt .i64 r fun n_5 r=>cInt .i64 r fun n_6 r=>cInt .i64 r fun n_7 r=>onNil r (some (Zh [Zz .u64 n,Zz .i64 n_2,Zz .i64 n_4,Zz .i64 n_3,Zz .i64 0],[]))))));sel (n==Vb) (Zw (chk (l63 i) (some (Zn (Wv i),[]))) (kL fun b=>sel b (sel (!i==rl) (Zw (chk (Uz xls Kerb.isCross&&decide (Zy xls≤1000000)) (some (Zh [Zz .i64 (Yw (Vp (Xd Kerb.toCross xls) rl i)),Zn (Yy (Vp (Xd Kerb.toCross xls) rl i))],[]))) (kT fun vs=>cInt .i64 vs fun n r=>cBool r fun b r=>onNil r (sel (!b) (some (Zh [Zz .u64 0,Zz .i64 0,Zz .i64 0,Zz .i64 0,Zz .i64 8],[])) (chk (decide (0≤n)&&decide (n<(↑(Zy xls):Int))&&true) (Vd (Ww xls (Yz n) Ux) fun cs=>cStr cs fun b r=>cStr r fun b r=>cInt .i64 r fun n_1 r=>cInt .u64 r fun n_2 r=>onNil r (chk (decide (0≤n)&&decide (n<(↑(Zy xls):Int))&&true) (Vd (Ww xls (Yz n) Ux) fun cs=>cStr cs fun b r=>cStr r fun b r=>cInt .i64 r fun n r=>cInt .u64 r fun n_3 r=>onNil r (some (Zh [Zz .u64 n_2,Zz .i64 n,Zz .i64 255,Zz .i64 0,Zz .i64 0],[]))))))))) t0) t0)) t0:Option (AV×Blocks))) (by kernel_rfl) ?_
  delta kT kL
  try dsimp only [cStr,cBs,cBool,cU8,cInt,cSl,l63]
  simp only [Yv,decide_eq_true_eq] at hpre
  obtain ⟨⟨⟨⟨hall,hlen⟩,hx⟩,hxl⟩,hi⟩:=hpre
  obtain ⟨es,rfl,hok⟩:=Kerb.ents_of hall
  obtain ⟨cs,rfl⟩:=Kerb.cross_of hx
  rw [Kerb.map_toEntry,Kerb.map_toCross]
  simp only [hall,hlen,hx,hxl,hi,decide_true,Xu,↓A0,A0]
  simp only [Vw] at hlen hxl ⊢
  unfold Kerb.svc
  dsimp only
  have hkr:(n==[(107:UInt8),(114:UInt8),(98:UInt8),(116:UInt8),(103:UInt8),(116:UInt8)])=(n==Vb):=rfl
  try rw [hkr]
  cases n==Vb
  ·simp only [Zg,Xf,sel_true,sel_false]
   by_cases he:(Vm ⟨rl,es⟩ n i now).2=0
   case neg=>rw [sel_pos (by simpa using he),if_neg (by simp),if_pos he]
   obtain ⟨u1,u2⟩:=Kerb.serv_lt he
   dsimp only at u2
   rw [sel_neg (by simpa using he),if_neg (by simp),if_neg (by simpa using he),chk_of (by simp;omega),Vx u2]
   simp only [Xx,↓A0,A0]
  cases Wv i
  ·simp only [Zg,Xf,sel_true,sel_false]
   by_cases he:(Vm ⟨rl,es⟩ n i now).2=0
   case neg=>rw [sel_pos (by simpa using he),if_neg (by simp),if_pos he]
   obtain ⟨u1,u2⟩:=Kerb.serv_lt he
   dsimp only at u2
   rw [sel_neg (by simpa using he),if_neg (by simp),if_neg (by simpa using he),chk_of (by simp;omega),Vx u2]
   simp only [Xx,↓A0,A0]
  cases i==rl
  ·simp only [Zg,Xf,sel_true,sel_false]
   by_cases he:(Vp cs rl i).2=true
   ·obtain ⟨u1,u2⟩:=Kerb.findCross_lt he
    have hk:(decide (0≤(Vp cs rl i).1)&&decide ((Vp cs rl i).1<(cs.length:Int))&&true)=true:=by simp;omega
    simp only [he,hk,Kerb.getD_cross u2,Kerb.Cross.av,Zg,Xu,Xf,if_true,↓A0,A0]
   ·have he2:(Vp cs rl i).2=false:=by simpa using he
    rw [he2]
    rfl
  ·simp only [Zg,Xf,sel_true,sel_false]
   by_cases he:(Vm ⟨rl,es⟩ n i now).2=0
   case neg=>rw [sel_pos (by simpa using he),if_neg (by simp),if_pos he]
   obtain ⟨u1,u2⟩:=Kerb.serv_lt he
   dsimp only at u2
   rw [sel_neg (by simpa using he),if_neg (by simp),if_neg (by simpa using he),chk_of (by simp;omega),Vx u2]
   simp only [Xx,↓A0,A0]
 ·cases h
theorem w253:Walked Tryz.prog G 253 7 sp253:=by
 refine ⟨Tryz.f253,Tryz.func253,by decide +kernel,rfl,fun xs bl r h=> ?_⟩
 unfold sp253 at h
 split at h
 ·rename_i rl els
  obtain ⟨hpre,h2⟩:=chk_inv h;cases h2
  refine Eq.trans (b:=(Zw (chk (l63 rl) (some (Zn (Wv rl),[]))) (kL fun b=>sel (!b) (some (Zz .i64 103,[])) (sel (decide ((↑(Zy els):Int)>60)) (some (Zz .i64 106,[])) (Zw (loopM (fun (st:List AV)=>cStr st fun b r=>cSl 9 r fun b_1 r=>cInt .i64 r fun n r=>cSl 9 r fun b_2 r=>cInt .i64 r fun n_1 r=>cInt .i64 r fun n_2 r=>let t0:Option (List AV ⊕ Ex×List AV):=some (Sum.inl [Zx b,Vu 9 b_1,Zz .i64 n,Vu 9 b_2,Zz .i64 n_1,Zz .i64 (Zd .i64 (n_2+1))]);let t1:List AV:=[Vu 9 b_2,Zz .i64 n_1,Zz .i64 n_2];onNil r (sel (decide (n_2<n_1)) (chk (decide (0≤n_2)&&decide (n_2<(↑(Zy b_2):Int))&&true) (Vd (Ww b_2 (Yz n_2) Ux) fun cs=>cStr cs fun b_3 r=>cStr r fun b_4 r=>cInt .u64 r fun n r=>cInt .i64 r fun n_3 r=>cInt .i64 r fun n_4 r=>cInt .i64 r fun n_5 r=>cInt .i64 r fun n_6 r=>cInt .i64 r fun n_7 r=>cInt .i64 r fun n_8 r=>onNil r (Zw (chk (l63 b_3&&l63 b_4&&Kerb.isU64 n) (some (Zz .i64 (Kerb.Entry.err (Wm b_3 b_4 n n_3 n_4 n_5 n_6 n_7 n_8)),[]))) (kI .i64 fun n=>sel (!n==0) (some (Sum.inr (Ex.ret,Zx b::Vu 9 b_1::Zz .i64 n::t1))) (sel (decide (n_2>0)) (chk (decide (0≤Zd .i64 (n_2-1))&&decide (Zd .i64 (n_2-1)<(↑(Zy b_1):Int))&&true) (Vd (Ww b_1 (Yz (Zd .i64 (n_2-1))) Ux) fun cs=>cStr cs fun b_5 r=>cStr r fun b_6 r=>cInt .u64 r fun n r=>cInt .i64 r fun n r=>cInt .i64 r fun n r=>cInt .i64 r fun n r=>cInt .i64 r fun n r=>cInt .i64 r fun n r=>cInt .i64 r fun n r=>onNil r (sel (decide ((if Kerb.cmpB b_3 b_5=0 then Kerb.cmpB b_4 b_6 else Kerb.cmpB b_3 b_5)<0)) (some (Sum.inr (Ex.ret,Zx b::Vu 9 b_1::Zz .i64 110::t1))) t0))) t0))))) (some (Sum.inr (Ex.exit 0,Zx b::Vu 9 b_1::Zz .i64 n::t1))))) [Zx rl,Vu 9 els,Zz .i64 0,Vu 9 els,Zz .i64 (↑(Zy els):Int),Zz .i64 0]) fun (r:Ex×List AV)=>cStr (Yy r) fun b r_1=>cSl 9 r_1 fun b r_2=>cInt .i64 r_2 fun n r_3=>cSl 9 r_3 fun b r_4=>cInt .i64 r_4 fun n_1 r_5=>cInt .i64 r_5 fun n_2 r_6=>onNil r_6 (exK r.1 (some (Zz .i64 n,[])) fun (j:Nat)=>sel (Nat.beq j 0) (some (Zz .i64 0,[])) none)))):Option (AV×Blocks))) (by kernel_rfl) ?_
  delta kL kI
  try dsimp only [cStr,cBs,cBool,cU8,cInt,cSl,l63]
  simp only [Yv,decide_eq_true_eq] at hpre
  obtain ⟨⟨hr,hall⟩,hlen⟩:=hpre
  obtain ⟨es,rfl,hok⟩:=Kerb.ents_of hall
  rw [Kerb.map_toEntry]
  simp only [Vw] at hlen
  unfold Wg
  simp only [hr,decide_true,↓A0,A0,Vw]
  cases hv:Wv rl
  ·rfl
  simp only [Zg,Xf,sel_true,sel_false]
  rw [if_neg (by simp)]
  by_cases h60:60<es.length
  ·rw [sel_pos (by simp;omega),if_pos h60]
  rw [sel_neg (by simp;omega),if_neg h60]
  have hex:∃ z,Kerb.entriesErr none es=z:=⟨_,rfl⟩
  obtain ⟨z,hz⟩:=hex
  rw [hz]
  refine loop_rounds (fun i:Nat=>[Zx rl,Vu 9 (es.map Xx),Zz Zk 0,Vu 9 (es.map Xx),Zz Zk (es.length:Int),Zz Zk (i:Int)]) (fun i=>i≤es.length∧Kerb.entriesErr (Kerb.prevOf es i) (es.drop i)=z) (fun i=>es.length-i)
   (fun r=>∃ (e:Int) (i:Nat),r.2=[Zx rl,Vu 9 (es.map Xx),Zz Zk e,Vu 9 (es.map Xx),Zz Zk (es.length:Int),Zz Zk (i:Int)]∧((r.1 = .ret∧e=z)∨(r.1 = .exit 0∧z=0))) 0 ⟨Nat.zero_le _,hz⟩ rfl ?_ ?_
  ·rintro i ⟨hi,hinv⟩
   simp only [↓A0,A0,Vw]
   rcases Nat.lt_or_ge i es.length with h | h
   ·rw [Kerb.errs_step h] at hinv
    have hx:=hok _ (Kerb.ent_mem h)
    rw [sel_pos (by simp;omega),chk_of (by simp;omega),Int.toNat_natCast,Vx h]
    obtain ⟨n,hn⟩:∃ e,es.getD i Kerb.noEntry=e:=⟨_,rfl⟩
    rw [hn] at hinv hx ⊢
    obtain ⟨x1,x2,x3,_⟩:=hx
    simp only [Xx,↓A0,A0,x1,x2,x3,decide_true,Xu]
    by_cases he:n.err=0
    ·rw [sel_neg (by simpa using he)]
     rw [if_neg (by simpa using he)] at hinv
     by_cases h0:0<i
     ·have hp:Kerb.prevOf es i=some (es.getD (i-1) Kerb.noEntry):=by rw [Kerb.prevOf,if_neg (by omega)]
      rw [hp] at hinv
      have hw:Zd .i64 ((i:Int)-1)=((i-1:Nat):Int):=by rw [wrap_i64 (by omega) (by omega)];omega
      rw [sel_pos (by simpa using h0),hw]
      rw [chk_of (by simp;omega),Int.toNat_natCast,Vx (by omega)]
      obtain ⟨m,hm⟩:∃ e,es.getD (i-1) Kerb.noEntry=e:=⟨_,rfl⟩
      rw [hm] at hinv ⊢
      simp only [Xx,↓A0,A0]
      rw [Kerb.cmp_less n m]
      by_cases hl:n.less m=true
      ·rw [sel_pos (by simpa using hl)]
       rw [if_pos hl] at hinv
       exact ⟨_,rfl,110,i,rfl,.inl ⟨rfl,hinv⟩⟩
      ·rw [sel_neg (by simpa using hl),wrap_i64 (by omega) (by omega)]
       rw [if_neg hl] at hinv
       exact ⟨_,rfl,i+1,rfl,⟨by omega,hinv⟩,by dsimp only;omega⟩
     ·have hp:Kerb.prevOf es i=none:=by rw [Kerb.prevOf,if_pos (by omega)]
      rw [hp] at hinv
      rw [sel_neg (by simpa using h0),wrap_i64 (by omega) (by omega)]
      rw [if_neg (by simp)] at hinv
      exact ⟨_,rfl,i+1,rfl,⟨by omega,hinv⟩,by dsimp only;omega⟩
    ·rw [sel_pos (by simpa using he)]
     rw [if_pos (by simpa using he)] at hinv
     exact ⟨_,rfl,n.err,i,rfl,.inl ⟨rfl,hinv⟩⟩
   ·rw [sel_neg (by simp;omega)]
    rw [List.drop_eq_nil_of_le h] at hinv
    exact ⟨_,rfl,0,i,rfl,.inr ⟨rfl,by rw [← hinv];rfl⟩⟩
  ·rintro ⟨e,l⟩ ⟨e2,i,rfl,⟨rfl,rfl⟩ | ⟨rfl,h⟩⟩
   ·rfl
   ·rw [h];rfl
 ·cases h
theorem w184:Walked Tryz.prog G 184 8 sp184:=by
 refine ⟨Tryz.f184,Tryz.func184,by decide +kernel,rfl,fun xs bl r h=> ?_⟩
 unfold sp184 at h
 split at h
 ·rename_i op ux uy uz kv rl tk sv ins bx
  obtain ⟨hpre,h2⟩:=chk_inv h;cases h2
  refine Eq.trans (b:=(sel (!Kerb.kaOp op) (some (Zz .i64 40,[])) (sel (!op==2) (Zw (chk (l63 ux&&l63 uy&&l63 uz) (some (Zn (Xw (Yu ux uy uz)),[]))) (kL fun b=>sel (!b) (some (Zz .i64 103,[])) (sel (decide ((↑(Zy bx):Int)>1012)) (some (Zz .i64 105,[])) (sel (!kv==0) (some (Zz .i64 108,[])) (sel (!rl==[]) (some (Zz .i64 108,[])) (sel (decide ((↑(Zy tk):Int)>0)) (some (Zz .i64 108,[])) (sel (!sv==[]) (some (Zz .i64 108,[])) (sel (!ins==[]) (some (Zz .i64 108,[])) (some (Zz .i64 0,[])))))))))) (Zw (chk (l63 rl) (some (Zn (Wv rl),[]))) (kL fun b=>sel (!b) (some (Zz .i64 103,[])) (Zw (chk (l63 sv) (some (Zn (Wq sv),[]))) (kL fun b=>sel (!b) (some (Zz .i64 103,[])) (Zw (chk (l63 ins) (some (Zn (Wz ins),[]))) (kL fun b=>sel (!b) (some (Zz .i64 103,[])) (sel (!Zf kv 255) (some (Zz .i64 104,[])) (sel (decide ((↑(Zy tk):Int)>255)) (some (Zz .i64 105,[])) (sel (decide ((↑(Zy bx):Int)>1012)) (some (Zz .i64 105,[])) (sel (!(ux==[]&&(uy==[]&&uz==[]))) (some (Zz .i64 108,[])) (some (Zz .i64 0,[]))))))))))))):Option (AV×Blocks))) (by kernel_rfl) ?_
  delta kL
  try dsimp only [cStr,cBs,cBool,cU8,cInt,cSl,l63]
  simp only [Yv,decide_eq_true_eq] at hpre
  simp only [A0]
  rw [chk_of (by simp;omega),chk_of (by simp;omega),chk_of (by simp;omega),chk_of (by simp;omega)]
  unfold Yq
  simp only
  cases h0:Kerb.kaOp op
  ·rfl
  rw [Zg,sel_false,if_neg (by simp)]
  cases h1:(op==2)
  ·rw [Xf,sel_true,if_neg (by simp)]
   cases h2:Xw ⟨ux,uy,uz⟩
   ·rfl
   rw [Zg,sel_false,if_neg (by simp)]
   by_cases h3:1012<bx.length
   ·rw [sel_pos (by simp;omega),if_pos h3]
   rw [sel_neg (by simp;omega),if_neg h3]
   by_cases h4:kv=0
   case neg=>rw [sel_pos (by simpa using h4),if_pos (.inl h4)]
   rw [sel_neg (by simp [h4])]
   by_cases h5:rl=[]
   case neg=>rw [sel_pos (by simpa using h5),if_pos (.inr (.inl h5))]
   rw [sel_neg (by simp [h5])]
   by_cases h6:tk=[]
   case neg=>rw [sel_pos (by have:=List.length_pos_iff.2 h6;simp;omega),if_pos (.inr (.inr (.inl h6)))]
   rw [sel_neg (by simp [h6])]
   by_cases h7:sv=[]
   case neg=>rw [sel_pos (by simpa using h7),if_pos (.inr (.inr (.inr (.inl h7))))]
   rw [sel_neg (by simp [h7])]
   by_cases h8:ins=[]
   case neg=>rw [sel_pos (by simpa using h8),if_pos (.inr (.inr (.inr (.inr h8))))]
   rw [sel_neg (by simp [h8]),if_neg (by simp [h4,h5,h6,h7,h8])]
  ·rw [Zg,sel_false,if_pos rfl]
   cases h2:Wv rl
   ·rfl
   rw [Zg,sel_false]
   cases h3:Wq sv
   ·rfl
   rw [Zg,sel_false]
   cases h4:Wz ins
   ·rfl
   rw [Zg,sel_false,if_neg (by simp)]
   cases h5:Zf kv 255
   ·rfl
   rw [Zg,sel_false,if_neg (by simp)]
   by_cases h6:255<tk.length
   ·rw [sel_pos (by simp;omega),if_pos (.inl h6)]
   rw [sel_neg (by simp;omega)]
   by_cases h7:1012<bx.length
   ·rw [sel_pos (by simp;omega),if_pos (.inr h7)]
   rw [sel_neg (by simp;omega),if_neg (by omega)]
   show sel (!(Kerb.Prin.isNo ⟨ux,uy,uz⟩)) _ _=_
   cases Kerb.Prin.isNo ⟨ux,uy,uz⟩<;>rfl
 ·cases h
theorem w215:Walked Tryz.prog G 215 8 sp215:=by
 refine ⟨Tryz.f215,Tryz.func215,by decide +kernel,rfl,fun xs bl r h=> ?_⟩
 unfold sp215 at h
 split at h
 ·rename_i b pos
  obtain ⟨hpre,h2⟩:=chk_inv h;cases h2
  refine Eq.trans (b:=(Zw (loopM (fun (st:List AV)=>cBs st fun b r=>cInt .i64 r fun n r=>let t0:Option (AV×Blocks):=chk (decide (Zy b≤4611686018427387904)) (some (Zh [Zx (Kerb.GotB.val (Kerb.text b n)),Zz .i64 (Kerb.GotB.next (Kerb.text b n)),Zz .i64 (Kerb.GotB.err (Kerb.text b n))],[]));cStr r fun b_1 r=>cStr r fun b_2 r=>cStr r fun b_3 r=>cInt .i64 r fun n_1 r=>cInt .i64 r fun n_2 r=>cStr r fun b_4 r=>cStr r fun b_5 r=>cStr r fun b_6 r=>cInt .i64 r fun n_3 r=>cInt .i64 r fun n_4 r=>let t1:List AV:=[Zx b_6,Zz .i64 n_3,Zz .i64 (Zd .i64 (n_4+1))];onNil r (sel (decide (n_4<n_3)) (chk (decide (0≤n_4)&&decide (n_4<(↑(Zy [0,1,2]):Int))&&true) (sel (Nat.beq (Yz n_4) 0) (Zw t0 (kT fun vs=>cStr vs fun b_7 r=>cInt .i64 r fun n r=>cInt .i64 r fun n_5 r=>onNil r (sel (!n_5==0) (some (Sum.inr (Ex.ret,[Zp b,Zz .i64 n,Zx [],Zx [],Zx [],Zz .i64 0,Zz .i64 n_5,Zx b_7,Zx b_5,Zx b_6,Zz .i64 n_3,Zz .i64 n_4]))) (some (Sum.inl (Zp b::Zz .i64 n::Zx b_1::Zx b_2::Zx b_3::Zz .i64 n_1::Zz .i64 n_2::Zx b_7::Zx b_5::t1)))))) (sel (Nat.beq (Yz n_4-1) 0) (Zw t0 (kT fun vs=>cStr vs fun b_7 r=>cInt .i64 r fun n r=>cInt .i64 r fun n_5 r=>onNil r (sel (!n_5==0) (some (Sum.inr (Ex.ret,[Zp b,Zz .i64 n,Zx [],Zx [],Zx [],Zz .i64 0,Zz .i64 n_5,Zx b_4,Zx b_7,Zx b_6,Zz .i64 n_3,Zz .i64 n_4]))) (some (Sum.inl (Zp b::Zz .i64 n::Zx b_1::Zx b_2::Zx b_3::Zz .i64 n_1::Zz .i64 n_2::Zx b_4::Zx b_7::t1)))))) (sel (Nat.beq (Yz n_4-1-1) 0) (Zw t0 (kT fun vs=>cStr vs fun b_7 r=>cInt .i64 r fun n r=>cInt .i64 r fun n_5 r=>onNil r (sel (!n_5==0) (some (Sum.inr (Ex.ret,[Zp b,Zz .i64 n,Zx [],Zx [],Zx [],Zz .i64 0,Zz .i64 n_5,Zx b_4,Zx b_5,Zx b_7,Zz .i64 n_3,Zz .i64 n_4]))) (some (Sum.inl [Zp b,Zz .i64 n,Zx b_1,Zx b_2,Zx b_3,Zz .i64 n_1,Zz .i64 n_2,Zx b_4,Zx b_5,Zx b_7,Zz .i64 n_3,Zz .i64 (Zd .i64 (n_4+1))]))))) none)))) (some (Sum.inr (Ex.exit 0,[Zp b,Zz .i64 n,Zx b_1,Zx b_2,Zx b_3,Zz .i64 n_1,Zz .i64 n_2,Zx b_4,Zx b_5,Zx b_6,Zz .i64 n_3,Zz .i64 n_4]))))) [Zp b,Zz .i64 pos,Zx [],Zx [],Zx [],Zz .i64 0,Zz .i64 0,Zx [],Zx [],Zx [],Zz .i64 (↑(Zy [0+0,0+1,0+2]):Int),Zz .i64 0]) fun (r:Ex×List AV)=>cBs (Yy r) fun b r_1=>cInt .i64 r_1 fun n r_2=>cStr r_2 fun b r_3=>cStr r_3 fun b_1 r_4=>cStr r_4 fun b_2 r_5=>cInt .i64 r_5 fun n_1 r_6=>cInt .i64 r_6 fun n_2 r_7=>cStr r_7 fun b_3 r_8=>cStr r_8 fun b_4 r_9=>cStr r_9 fun b_5 r_10=>cInt .i64 r_10 fun n_3 r_11=>cInt .i64 r_11 fun n_4 r_12=>onNil r_12 (exK r.1 (some (Zh [Xv [Zx b,Zx b_1,Zx b_2],Zz .i64 n_1,Zz .i64 n_2],[])) fun (j:Nat)=>sel (Nat.beq j 0) (Zw (chk (l63 b_3&&l63 b_4&&l63 b_5) (some (Zn (Xw (Yu b_3 b_4 b_5)),[]))) (kL fun b=>sel (!b) (some (Zh [Xv [Zx [],Zx [],Zx []],Zz .i64 0,Zz .i64 103],[])) (some (Zh [Xv [Zx b_3,Zx b_4,Zx b_5],Zz .i64 n,Zz .i64 0],[])))) none):Option (AV×Blocks))) (by kernel_rfl) ?_
  delta kT kL
  try dsimp only [cStr,cBs,cBool,cU8,cInt,cSl,l63]
  have hb:=of_decide_eq_true hpre
  obtain ⟨T0,hT0⟩:∃ T,T=Kerb.text b pos:=⟨_,rfl⟩
  obtain ⟨T1,hT1⟩:∃ T,T=Kerb.text b T0.next:=⟨_,rfl⟩
  obtain ⟨T2,hT2⟩:∃ T,T=Kerb.text b T1.next:=⟨_,rfl⟩
  have hp:Vf b pos=if T0.err≠0 then ⟨Wn,0,T0.err⟩ else if T1.err≠0 then ⟨Wn,0,T1.err⟩ else if T2.err≠0 then ⟨Wn,0,T2.err⟩
    else if Xw ⟨T0.val,T1.val,T2.val⟩ then ⟨⟨T0.val,T1.val,T2.val⟩,T2.next,0⟩ else ⟨Wn,0,103⟩:=by
   rw [hT2,hT1,hT0];rfl
  have k0:=Kerb.text_len b pos
  rw [← hT0] at k0
  have k1:=Kerb.text_len b T0.next
  rw [← hT1] at k1
  have k2:=Kerb.text_len b T1.next
  rw [← hT2] at k2
  refine loop_rounds (fun i:Nat=>match i with
    | 0=>[Zp b,Zz Zk pos,Zx [],Zx [],Zx [],Zz Zk 0,Zz Zk 0,Zx [],Zx [],Zx [],Zz Zk 3,Zz Zk 0]
    | 1=>[Zp b,Zz Zk T0.next,Zx [],Zx [],Zx [],Zz Zk 0,Zz Zk 0,Zx T0.val,Zx [],Zx [],Zz Zk 3,Zz Zk 1]
    | 2=>[Zp b,Zz Zk T1.next,Zx [],Zx [],Zx [],Zz Zk 0,Zz Zk 0,Zx T0.val,Zx T1.val,Zx [],Zz Zk 3,Zz Zk 2]
    | _=>[Zp b,Zz Zk T2.next,Zx [],Zx [],Zx [],Zz Zk 0,Zz Zk 0,Zx T0.val,Zx T1.val,Zx T2.val,Zz Zk 3,Zz Zk 3])
   (fun i=>i≤3∧(1≤i→T0.err=0)∧(2≤i→T1.err=0)∧(3≤i→T2.err=0)) (fun i=>3-i)
   (fun r=>(T0.err=0∧T1.err=0∧T2.err=0∧r=(Ex.exit 0,[Zp b,Zz Zk T2.next,Zx [],Zx [],Zx [],Zz Zk 0,Zz Zk 0,Zx T0.val,Zx T1.val,Zx T2.val,Zz Zk 3,Zz Zk 3])) ∨
    ∃ n x y z i,Vf b pos=⟨Wn,0,(Vf b pos).err⟩∧r=(Ex.ret,[Zp b,Zz Zk n,Zx [],Zx [],Zx [],Zz Zk 0,Zz Zk (Vf b pos).err,Zx x,Zx y,Zx z,Zz Zk 3,Zz Zk i])) 0 ⟨by omega,by omega,by omega,by omega⟩ rfl ?_ ?_
  ·rintro i ⟨hi,g0,g1,g2⟩
   have hc:i=0∨i=1∨i=2∨i=3:=by omega
   rcases hc with rfl | rfl | rfl | rfl
   ·simp only [A0]
    rw [sel_pos (by decide),chk_of (by decide),sel_pos (by decide),chk_of hpre,← hT0]
    by_cases h:T0.err=0
    ·rw [sel_neg (by simp [h])]
     exact ⟨_,rfl,1,rfl,⟨by omega,fun _=>h,by omega,by omega⟩,by dsimp only;omega⟩
    ·rw [sel_pos (by simpa using h)]
     exact ⟨_,rfl,.inr ⟨_,_,_,_,_,by rw [hp,if_pos h],by rw [hp,if_pos h]⟩⟩
   ·simp only [A0]
    have e0:=g0 (by omega)
    rw [sel_pos (by decide),chk_of (by decide),sel_neg (by decide),sel_pos (by decide),chk_of hpre,← hT1]
    by_cases h:T1.err=0
    ·rw [sel_neg (by simp [h])]
     exact ⟨_,rfl,2,rfl,⟨by omega,fun _=>e0,fun _=>h,by omega⟩,by dsimp only;omega⟩
    ·rw [sel_pos (by simpa using h)]
     exact ⟨_,rfl,.inr ⟨_,_,_,_,_,by rw [hp,if_neg (by simp [e0]),if_pos h],by rw [hp,if_neg (by simp [e0]),if_pos h]⟩⟩
   ·simp only [A0]
    have e0:=g0 (by omega)
    have e1:=g1 (by omega)
    rw [sel_pos (by decide),chk_of (by decide),sel_neg (by decide),sel_neg (by decide),sel_pos (by decide),chk_of hpre,← hT2]
    by_cases h:T2.err=0
    ·rw [sel_neg (by simp [h])]
     exact ⟨_,rfl,3,rfl,⟨by omega,fun _=>e0,fun _=>e1,fun _=>h⟩,by dsimp only;omega⟩
    ·rw [sel_pos (by simpa using h)]
     exact ⟨_,rfl,.inr ⟨_,_,_,_,_,by rw [hp,if_neg (by simp [e0]),if_neg (by simp [e1]),if_pos h],by rw [hp,if_neg (by simp [e0]),if_neg (by simp [e1]),if_pos h]⟩⟩
   ·simp only [A0]
    rw [sel_neg (by decide)]
    exact ⟨_,rfl,.inl ⟨g0 (by omega),g1 (by omega),g2 (by omega),rfl⟩⟩
  ·rintro r (⟨e0,e1,e2,rfl⟩ | ⟨n,x,y,z,i,h,rfl⟩)
   ·simp only [A0]
    rw [sel_pos (Nat.beq_refl _),chk_of (by simp;omega),hp,if_neg (by simp [e0]),if_neg (by simp [e1]),if_neg (by simp [e2])]
    cases hv:Xw ⟨T0.val,T1.val,T2.val⟩
    ·rfl
    ·rfl
   ·simp only [A0]
    rw [h]
    rfl
 ·cases h
theorem w228:Walked Tryz.prog G 228 8 sp228:=by
 refine ⟨Tryz.f228,Tryz.func228,by decide +kernel,rfl,fun xs bl r h=> ?_⟩
 unfold sp228 at h
 split at h
 ·rename_i rl els i
  obtain ⟨hpre,h2⟩:=chk_inv h;cases h2
  refine Eq.trans (b:=(Zw (chk (decide (Zy rl≤9223372036854775807)&&Uz els Vy&&decide (Zy els≤1000000)) (some (Zz .i64 (Wg (Xg rl (Xd Xj els))),[]))) fun (r:AV×Blocks)=>onNilB (Yy r) (Xq .i64 (Yw r) fun n=>sel (!n==0) (some (Zz .i64 n,[])) (sel (decide (i<0)) (some (Zz .i64 104,[])) (sel (decide (i≥(↑(Zy els):Int))) (some (Zz .i64 104,[])) (some (Zz .i64 0,[]))))):Option (AV×Blocks))) (by kernel_rfl) ?_
  simp only [Yv,decide_eq_true_eq] at hpre
  obtain ⟨⟨hr,hall⟩,hlen⟩:=hpre
  simp only [hr,hall,hlen,decide_true,Xu,↓A0,A0]
  generalize Wg ⟨rl,els.map Xj⟩=z
  by_cases h:z=0
  case neg=>rw [sel_pos (by simpa using h),if_pos h]
  rw [sel_neg (by simpa using h),if_neg (by simpa using h)]
  by_cases h1:i<0
  ·rw [sel_pos (by simpa using h1),if_pos (.inl h1)]
  rw [sel_neg (by simpa using h1)]
  by_cases h2:(els.length:Int)≤i
  ·rw [sel_pos (by simpa using h2),if_pos (.inr h2)]
  ·rw [sel_neg (by simpa using h2),if_neg (by omega)]
 ·cases h
theorem w245:Walked Tryz.prog G 245 8 sp245:=by
 refine ⟨Tryz.f245,Tryz.func245,by decide +kernel,rfl,fun xs bl r h=> ?_⟩
 unfold sp245 at h
 split at h
 ·rename_i lb t k st en kv x y z tk
  obtain ⟨hpre,h2⟩:=chk_inv h;cases h2
  refine Eq.trans (b:=(let t0:Option (AV×Blocks):=sel (!Zf t 4294967295) (some (Zz .i64 104,[])) (sel (!Uv lb) (sel (!k==0) (some (Zz .i64 108,[])) (sel (!st==0) (some (Zz .i64 108,[])) (sel (!en==0) (some (Zz .i64 108,[])) (sel (!kv==0) (some (Zz .i64 108,[])) (sel (!(x==[]&&(y==[]&&z==[]))) (some (Zz .i64 108,[])) (sel (decide ((↑(Zy tk):Int)>0)) (some (Zz .i64 108,[])) (some (Zz .i64 0,[])))))))) (Zw (chk (decide (0≤k)&&decide (k<18446744073709551616)) (some (Zn (Wp k),[]))) (kL fun b=>sel (!b) (some (Zz .i64 10,[])) (sel (!Zf st 4294967295) (some (Zz .i64 104,[])) (sel (!Zf en 4294967295) (some (Zz .i64 104,[])) (sel (!Zf kv 255) (some (Zz .i64 104,[])) (Zw (chk (l63 x&&l63 y&&l63 z) (some (Zn (Xw (Yu x y z)),[]))) (kL fun b=>sel (!b) (some (Zz .i64 103,[])) (sel (decide ((↑(Zy tk):Int)>255)) (some (Zz .i64 105,[])) (some (Zz .i64 0,[])))))))))));sel (!Uv lb) (sel (!lb==[(67:UInt8),(80:UInt8),(87:UInt8),(100:UInt8)]) (some (Zz .i64 80,[])) t0) t0:Option (AV×Blocks))) (by kernel_rfl) ?_
  delta kL
  try dsimp only [cStr,cBs,cBool,cU8,cInt,cSl,l63]
  have eGet:([103,84,71,83]:List UInt8)=Kerb.lGet:=rfl
  have eTick:([103,84,75,84]:List UInt8)=Kerb.lTicket:=rfl
  have eChg:([67,80,87,108]:List UInt8)=Kerb.lChange:=rfl
  have eDone:([67,80,87,100]:List UInt8)=Kerb.lDone:=rfl
  have eGot:([116,103,115,84]:List UInt8)=Kerb.lGot:=rfl
  have eGiven:([116,107,116,71]:List UInt8)=Kerb.lGiven:=rfl
  have hpre':=hpre
  simp only [Yv,decide_eq_true_eq] at hpre
  have hk:(decide (0≤k)&&decide (k<18446744073709551616))=true:=by simp;omega
  have hv:(decide (x.length≤9223372036854775807)&&decide (y.length≤9223372036854775807)&&decide (z.length≤9223372036854775807))=true:=by simp;omega
  simp only [A0,eDone,hk,hv]
  unfold Kerb.encodeKaAnswer
  simp only
  cases ht:Uv lb
  ·rw [Xf,sel_true]
   cases hc:(lb==Kerb.lDone)
   ·rfl
   rw [Zg,sel_false,if_neg (by simp)]
   cases h1:Zf t 4294967295
   ·rfl
   rw [Zg,sel_false,if_neg (by simp),sel_true,if_neg (by simp)]
   by_cases h2:k=0
   case neg=>rw [sel_pos (by simpa using h2),if_pos (.inl h2)]
   rw [sel_neg (by simp [h2])]
   by_cases h3:st=0
   case neg=>rw [sel_pos (by simpa using h3),if_pos (.inr (.inl h3))]
   rw [sel_neg (by simp [h3])]
   by_cases h4:en=0
   case neg=>rw [sel_pos (by simpa using h4),if_pos (.inr (.inr (.inl h4)))]
   rw [sel_neg (by simp [h4])]
   by_cases h5:kv=0
   case neg=>rw [sel_pos (by simpa using h5),if_pos (.inr (.inr (.inr (.inl h5))))]
   rw [sel_neg (by simp [h5])]
   show sel (!(Kerb.Prin.isNo ⟨x,y,z⟩)) _ _=_
   cases h6:Kerb.Prin.isNo ⟨x,y,z⟩
   ·rw [if_pos (.inr (.inr (.inr (.inr (.inl rfl)))))];rfl
   rw [Zg,sel_false]
   by_cases h7:tk=[]
   case neg=>rw [sel_pos (by have:=List.length_pos_iff.2 h7;simp;omega),if_pos (.inr (.inr (.inr (.inr (.inr h7)))))]
   rw [sel_neg (by simp [h7]),if_neg (by simp [h2,h3,h4,h5,h7])]
  ·rw [Zg,sel_false,if_neg (by simp)]
   cases h1:Zf t 4294967295
   ·rfl
   rw [Zg,sel_false,if_neg (by simp),sel_false,if_pos rfl]
   cases h2:Wp k
   ·rfl
   rw [Zg,sel_false,if_neg (by simp)]
   cases h3:Zf st 4294967295
   ·rfl
   rw [Zg,sel_false]
   cases h4:Zf en 4294967295
   ·rfl
   rw [Zg,sel_false]
   cases h5:Zf kv 255
   ·rfl
   rw [Zg,sel_false,if_neg (by simp)]
   cases h6:Xw ⟨x,y,z⟩
   ·rfl
   rw [Zg,sel_false,if_neg (by simp)]
   by_cases h7:255<tk.length
   ·rw [sel_pos (by simp;omega),if_pos h7]
   ·rw [sel_neg (by simp;omega),if_neg h7]
 ·cases h
theorem w251:Walked Tryz.prog G 251 8 sp251:=by
 refine ⟨Tryz.f251,Tryz.func251,by decide +kernel,rfl,fun xs bl r h=> ?_⟩
 unfold sp251 at h
 split at h
 ·rename_i k x y z lf kv tk t little
  obtain ⟨hpre,h2⟩:=chk_inv h;cases h2
  refine Eq.trans (b:=(let t0:Option (AV×Blocks):=some (Zh [Zp [],Zz .i64 104],[]);let t1:List UInt8:=[]++Yd 0 1 false;let t2:List UInt8:=[]++Yd 1 1 false;let t3:Option (AV×Blocks):=chk (decide (0≤k)&&decide (k<18446744073709551616)) (some (Zp (Kerb.keyBytes k),[]));Zw (chk (decide (0≤k)&&decide (k<18446744073709551616)) (some (Zn (Wp k),[]))) (kL fun b=>sel (!b) (some (Zh [Zp [],Zz .i64 10],[])) (Zw (chk (l63 x&&l63 y&&l63 z) (some (Zn (Xw (Yu x y z)),[]))) (kL fun b=>sel (!b) (some (Zh [Zp [],Zz .i64 103],[])) (sel (!Zf lf 255) t0 (sel (!Zf kv 255) t0 (sel (!Zf t 4294967295) t0 (sel (decide ((↑(Zy tk):Int)>255)) (some (Zh [Zp [],Zz .i64 105],[])) (sel little (Zw t3 (kB fun b=>Zw (chk (decide (Zy (Yp t2 (Yp b []))≤140737488355328)&&decide (Zy [Zp t2,Zp b]≤1000)) (some (Yx (Yp t2 (Yp b [])),[]))) (kO fun l=>Zw (chk (decide (Zy l+Zy x+Zy y+Zy z≤70368744170000)) (some (Zp (Vz l (Yu x y z)),[]))) (kB fun b=>Zw (chk (decide (Zy b≤70368744177664)) (some (Yx (b++Yd lf 1 false),[]))) (kO fun l=>Zw (chk (decide (Zy l≤70368744177664)) (some (Yx (l++Yd kv 1 false),[]))) (kO fun l=>Zw (chk (decide (Zy l≤70368744177664)) (some (Yx (l++Yd (↑(Zy tk):Int) 1 false),[]))) (kO fun l=>Zw (chk (decide (Zy (Yp l (Yp tk []))≤140737488355328)&&decide (Zy [Zp l,Zp tk]≤1000)) (some (Yx (Yp l (Yp tk [])),[]))) (kO fun l=>Zw (chk (decide (Zy l≤70368744177664)) (some (Yx (l++Yd t 4 little),[]))) (kO fun l=>Zw (chk (decide (Zy l≤70368744177664)) (some (Zp (Kerb.pad l),[]))) (kB fun b=>some (Zh [Zp b,Zz .i64 0],[]))))))))))) (Zw t3 (kB fun b=>Zw (chk (decide (Zy (Yp t1 (Yp b []))≤140737488355328)&&decide (Zy [Zp t1,Zp b]≤1000)) (some (Yx (Yp t1 (Yp b [])),[]))) (kO fun l=>Zw (chk (decide (Zy l+Zy x+Zy y+Zy z≤70368744170000)) (some (Zp (Vz l (Yu x y z)),[]))) (kB fun b=>Zw (chk (decide (Zy b≤70368744177664)) (some (Yx (b++Yd lf 1 false),[]))) (kO fun l=>Zw (chk (decide (Zy l≤70368744177664)) (some (Yx (l++Yd kv 1 false),[]))) (kO fun l=>Zw (chk (decide (Zy l≤70368744177664)) (some (Yx (l++Yd (↑(Zy tk):Int) 1 false),[]))) (kO fun l=>Zw (chk (decide (Zy (Yp l (Yp tk []))≤140737488355328)&&decide (Zy [Zp l,Zp tk]≤1000)) (some (Yx (Yp l (Yp tk [])),[]))) (kO fun l=>Zw (chk (decide (Zy l≤70368744177664)) (some (Yx (l++Yd t 4 little),[]))) (kO fun l=>Zw (chk (decide (Zy l≤70368744177664)) (some (Zp (Kerb.pad l),[]))) (kB fun b=>some (Zh [Zp b,Zz .i64 0],[]))))))))))))))))))):Option (AV×Blocks))) (by kernel_rfl) ?_
  delta kB kO kL
  try dsimp only [cStr,cBs,cBool,cU8,cInt,cSl,l63]
  simp only [Yv,decide_eq_true_eq] at hpre
  obtain ⟨⟨⟨⟨q1,q2⟩,q3⟩,h0⟩,h1⟩:=hpre
  simp only [A0]
  unfold Kerb.encodePart
  rw [chk_of (by simp [h0,h1])]
  cases hk:Wp k
  ·rfl
  rw [Zg,sel_false,chk_of (by simp [q1,q2,q3])]
  cases h1:Xw ⟨x,y,z⟩
  ·rfl
  rw [Zg,sel_false]
  cases h4:Zf lf 255
  ·rfl
  rw [Zg,sel_false]
  cases h5:Zf kv 255
  ·rfl
  rw [Zg,sel_false]
  cases h6:Zf t 4294967295
  ·rfl
  rw [Zg,sel_false]
  by_cases h7:255<tk.length
  ·rw [sel_pos (by simp;omega),if_neg (by simp),if_neg (by simp),if_neg (by simp),if_pos h7]
  have l1:=Kerb.valid_len h1
  simp only at l1
  rw [sel_neg (by simp;omega),if_neg (by simp),if_neg (by simp),if_neg (by simp),if_neg h7]
  cases little
  ·rw [sel_false,chk_of (by simp;omega),chk_of (by first | (simp [Zj,Zq,Zu];done) | (simp [Zj,Zq,Zu];omega)),chk_of (by first | (simp [Zj,Zq,Zu];done) | (simp [Zj,Zq,Zu];omega)),chk_of (by first | (simp [Zj,Zq,Zu];done) | (simp [Zj,Zq,Zu];omega)),chk_of (by first | (simp [Zj,Zq,Zu];done) | (simp [Zj,Zq,Zu];omega)),chk_of (by first | (simp [Zj,Zq,Zu];done) | (simp [Zj,Zq,Zu];omega)),chk_of (by first | (simp [Zj,Zq,Zu];done) | (simp [Zj,Zq,Zu];omega)),chk_of (by first | (simp [Zj,Zq,Zu];done) | (simp [Zj,Zq,Zu];omega)),chk_of (by first | (simp [Zj,Zq,Zu];done) | (simp [Zj,Zq,Zu];omega))]
   simp
  ·rw [sel_true,chk_of (by simp;omega),chk_of (by first | (simp [Zj,Zq,Zu];done) | (simp [Zj,Zq,Zu];omega)),chk_of (by first | (simp [Zj,Zq,Zu];done) | (simp [Zj,Zq,Zu];omega)),chk_of (by first | (simp [Zj,Zq,Zu];done) | (simp [Zj,Zq,Zu];omega)),chk_of (by first | (simp [Zj,Zq,Zu];done) | (simp [Zj,Zq,Zu];omega)),chk_of (by first | (simp [Zj,Zq,Zu];done) | (simp [Zj,Zq,Zu];omega)),chk_of (by first | (simp [Zj,Zq,Zu];done) | (simp [Zj,Zq,Zu];omega)),chk_of (by first | (simp [Zj,Zq,Zu];done) | (simp [Zj,Zq,Zu];omega)),chk_of (by first | (simp [Zj,Zq,Zu];done) | (simp [Zj,Zq,Zu];omega))]
   simp
 ·cases h
theorem w265:Walked Tryz.prog G 265 8 sp265:=by
 refine ⟨Tryz.f265,Tryz.func265,by decide +kernel,rfl,fun xs bl r h=> ?_⟩
 unfold sp265 at h
 split at h
 ·rename_i li x y z ad k lf iss sv ins
  obtain ⟨hpre,h2⟩:=chk_inv h;cases h2
  refine Eq.trans (b:=(Zw (chk (decide (Zy x≤9223372036854775807)&&decide (Zy y≤9223372036854775807)&&decide (Zy z≤9223372036854775807)) (some (Zn (Xw (Yu x y z)),[]))) fun (r:AV×Blocks)=>onNilB (Yy r) (Vn (Yw r) fun b=>sel (!b) (some (Zz .i64 103,[])) (Zw (chk (decide (Zy sv≤9223372036854775807)) (some (Zn (Wq sv),[]))) fun (r:AV×Blocks)=>onNilB (Yy r) (Vn (Yw r) fun b=>sel (!b) (some (Zz .i64 103,[])) (Zw (chk (decide (Zy ins≤9223372036854775807)) (some (Zn (Wz ins),[]))) fun (r:AV×Blocks)=>onNilB (Yy r) (Vn (Yw r) fun b=>sel (!b) (some (Zz .i64 103,[])) (Zw (chk (decide (0≤k)&&decide (k<18446744073709551616)) (some (Zz .i64 (Kerb.classOf k),[]))) fun (r:AV×Blocks)=>onNilB (Yy r) (Xq .i64 (Yw r) fun n=>sel (!n==2) (some (Zz .i64 10,[])) (sel (!Zf ad 4294967295) (some (Zz .i64 104,[])) (sel (!Zf lf 255) (some (Zz .i64 104,[])) (sel (!Zf iss 4294967295) (some (Zz .i64 104,[])) (some (Zz .i64 0,[])))))))))))):Option (AV×Blocks))) (by kernel_rfl) ?_
  simp only [Yv,decide_eq_true_eq] at hpre
  obtain ⟨⟨⟨⟨⟨⟨h1,h2⟩,h3⟩,h4⟩,h5⟩,h6⟩,h7⟩:=hpre
  simp only [h1,h2,h3,h4,h5,h6,h7,decide_true,Xu,↓A0,A0]
  unfold Kerb.Ticket.err
  dsimp only
  cases Xw ⟨x,y,z⟩
  ·rfl
  cases Wq sv
  ·rfl
  cases Wz ins
  ·rfl
  simp only [Zg,Xu,sel_false]
  by_cases hc:Kerb.classOf k=2
  case neg=>rw [sel_pos (by simpa using hc),if_neg (by simp),if_pos hc]
  rw [sel_neg (by simp [hc]),if_neg (by simp),if_neg (by simp [hc])]
  cases Zf ad 4294967295
  ·rfl
  cases Zf lf 255
  ·rfl
  cases Zf iss 4294967295
  ·rfl
  rfl
 ·cases h
theorem w96:Walked Tryz.prog G 96 9 sp96:=by
 refine ⟨Tryz.f96,Tryz.func96,by decide +kernel,rfl,fun xs bl r h=> ?_⟩
 unfold sp96 at h
 split at h
 ·rename_i op ux uy uz kv rl tk sv ins bx
  obtain ⟨hpre,h2⟩:=chk_inv h;cases h2
  refine Eq.trans (b:=(let t1:List UInt8:=Kerb.header 9 false++Yd op 1 false;let t0:Nat:=Zy t1;Zw (chk (l63 ux&&l63 uy&&l63 uz&&l63 rl&&l63 sv&&l63 ins) (some (Zz .i64 (Xp (Yq (Xk op (Yu ux uy uz) kv rl tk sv ins bx))),[]))) (kI .i64 fun n=>sel (!n==0) (some (Zh [Zp [],Zz .i64 n],[])) (sel (op==2) (Zw (chk (decide (t0≤70368744177664)) (some (Yx (t1++Yd kv 1 false),[]))) (kO fun l=>Zw (chk (decide (Zy l+Zy rl≤70368744177664)) (some (Zp (Ym l rl),[]))) (kB fun b=>Zw (chk (decide (Zy b+Zy tk≤70368744170000)) (some (Zp (Wh b tk),[]))) (kB fun b=>Zw (chk (decide (Zy b+Zy sv≤70368744177664)) (some (Zp (Ym b sv),[]))) (kB fun b=>Zw (chk (decide (Zy b+Zy ins≤70368744177664)) (some (Zp (Ym b ins),[]))) (kB fun b=>Zw (chk (decide (Zy b+Zy bx≤70368744170000)) (some (Zp (Kerb.putBox b bx),[]))) (kB fun b=>some (Zh [Zp b,Zz .i64 0],[])))))))) (Zw (chk (decide (t0+Zy ux+Zy uy+Zy uz≤70368744170000)) (some (Zp (Vz t1 (Yu ux uy uz)),[]))) (kB fun b=>Zw (chk (decide (Zy b+Zy bx≤70368744170000)) (some (Zp (Kerb.putBox b bx),[]))) (kB fun b=>some (Zh [Zp b,Zz .i64 0],[])))))):Option (AV×Blocks))) (by kernel_rfl) ?_
  delta kB kO kI
  try dsimp only [cStr,cBs,cBool,cU8,cInt,cSl,l63]
  have hpre':=hpre
  simp only [Yv,decide_eq_true_eq] at hpre
  simp only [A0]
  rw [chk_of hpre']
  by_cases he:(Yq (Xk op ⟨ux,uy,uz⟩ kv rl tk sv ins bx)).err=0
  case neg =>
   rw [sel_pos (by simpa using he),Kerb.encKaReq_no he]
  rw [sel_neg (by simp [he]),he]
  have hl9:(Kerb.header 9 false).length=2:=rfl
  rcases Kerb.encKaReq_inv he with ⟨ho,v1,v2,v3,hk,ht,hb,hu,hv⟩ | ⟨ho,v1,hb,hk,hr,ht,hs,hn,hv⟩
  ·have l1:=Kerb.validRealm_len v1
   have l2:=Kerb.validName_len v2
   have l3:=Kerb.validInst_len v3
   simp only at ho l1 l2 l3 ht hb
   rw [sel_pos (by simpa using ho),hv]
   rw [chk_of (by simp [Zq,hl9]),chk_of (by simp [Zq,hl9];omega),chk_of (by simp [Zq,hl9,Kerb.putText_len];omega),chk_of (by simp [Zq,hl9,Kerb.putText_len,Wh];omega),chk_of (by simp [Zq,hl9,Kerb.putText_len,Wh];omega),chk_of (by simp [Zq,hl9,Kerb.putText_len,Wh];omega)]
   simp [Kerb.putBox,Ym,Wh]
  ·have l1:=Kerb.valid_len v1
   simp only at ho l1 hb
   rw [sel_neg (by simp;omega),hv]
   rw [chk_of (by simp [Zq,hl9];omega),chk_of (by simp [Zq,hl9,Zj];omega)]
   simp [Kerb.putBox,Ym,Vz]
 ·cases h
theorem w146:Walked Tryz.prog G 146 9 sp146:=by
 refine ⟨Tryz.f146,Tryz.func146,by decide +kernel,rfl,fun xs bl r h=> ?_⟩
 unfold sp146 at h
 split at h
 ·rename_i B at_ bad
  obtain ⟨hpre,h2⟩:=chk_inv h;cases h2
  show runFnH (G.env 146 9) G.rts (G.own 146) Tryz.f146 _ _ [0]=_
  refine Eq.trans (b:=(Zw (chk (decide (Zy B≤4611686018427387904)) (some (Zh [Xv [Zx (Wd (Kerb.GotP.val (Vf B at_))),Zx (Wf (Kerb.GotP.val (Vf B at_))),Zx (Wj (Kerb.GotP.val (Vf B at_)))],Zz .i64 (Kerb.GotP.next (Vf B at_)),Zz .i64 (Kerb.GotP.err (Vf B at_))],[]))) fun (r:AV×Blocks)=>onNilB (Yy r) (AV.onTup (Yw r) fun vs=>onCons vs fun x r=>Vd x fun cs=>onCons cs fun x r_1=>AV.onStr x fun b=>onCons r_1 fun x r_2=>AV.onStr x fun b_1=>onCons r_2 fun x r_3=>AV.onStr x fun b_2=>onNil r_3 (onCons r fun x r=>Xq .i64 x fun n=>onCons r fun x r=>Xq .i64 x fun n_1=>onNil r (sel (!!(bad || !n_1==0)) (some (Xv [Zx [],Zx [],Zx []],[[Zp B,Zz .i64 (bif bad || !n_1==0 then at_ else n),Zn (bad || !n_1==0)]])) (some (Xv [Zx b,Zx b_1,Zx b_2],[[Zp B,Zz .i64 (bif bad || !n_1==0 then at_ else n),Zn (bad || !n_1==0)]]))))):Option (AV×Blocks))) (by kernel_rfl) ?_
  have hb:=of_decide_eq_true hpre
  simp only [A0]
  rw [chk_of (by simp;omega)]
  unfold Kerb.pPrin
  cases bad
  ·simp only [Bool.false_or]
   generalize hq:(!(_==(0:Int)))=q
   cases q<;>rfl
  ·rfl
 ·cases h
theorem w157:Walked Tryz.prog G 157 9 sp157:=by
 refine ⟨Tryz.f157,Tryz.func157,by decide +kernel,rfl,fun xs bl r h=> ?_⟩
 unfold sp157 at h
 split at h
 ·rename_i rl els i en ei ek ev ex em ea ef et
  obtain ⟨hpre,h2⟩:=chk_inv h;cases h2
  refine Eq.trans (b:=(let t0:Kerb.Db:=Kerb.setEnt (Xg rl (Xd Xj els)) i (Wm en ei ek ev ex em ea ef et);let t1:AV:=Xv [Zx [],Vu 9 []];Zw (chk (l63 rl&&Uz els Vy&&decide (Zy els≤1000000)) (some (Zz .i64 (if Wg (Xg rl (Xd Xj els))≠0 then Wg (Xg rl (Xd Xj els)) else if i<0∨(↑(Zy els):Int)≤i then 104 else 0),[]))) (kI .i64 fun n=>sel (!n==0) (some (Zh [t1,Zz .i64 n],[])) (Zw (chk (l63 en&&l63 ei&&Kerb.isU64 ek) (some (Zz .i64 (Kerb.Entry.err (Wm en ei ek ev ex em ea ef et)),[]))) (kI .i64 fun n=>sel (!n==0) (some (Zh [t1,Zz .i64 n],[])) (chk (decide (0≤i)&&decide (i<(↑(Zy els):Int))&&true) (Vd (Ww els (Yz i) Ux) fun cs=>cStr cs fun b r=>cStr r fun b_1 r=>cInt .u64 r fun n r=>cInt .i64 r fun n r=>cInt .i64 r fun n r=>cInt .i64 r fun n r=>cInt .i64 r fun n r=>cInt .i64 r fun n r=>cInt .i64 r fun n r=>onNil r (sel (!(if Kerb.cmpB b en=0 then Kerb.cmpB b_1 ei else Kerb.cmpB b en)==0) (some (Zh [t1,Zz .i64 103],[])) (Zw (chk (Uz els Vy&&decide (Zy els≤1000000)&&decide (0≤i)&&decide (i<(↑(Zy els):Int))) (some (Xv [Zx (Kerb.Db.realm t0),Vu 9 (Xd Xx (Kerb.Db.entries t0))],[]))) (kA fun cs=>cStr cs fun b r=>cSl 9 r fun b_2 r=>onNil r (some (Zh [Xv [Zx b,Vu 9 b_2],Zz .i64 0],[])))))))))):Option (AV×Blocks))) (by kernel_rfl) ?_
  delta kA kI
  try dsimp only [cStr,cBs,cBool,cU8,cInt,cSl,l63]
  simp only [Yv,decide_eq_true_eq] at hpre
  obtain ⟨⟨⟨⟨⟨hr,hall⟩,hlen⟩,he1⟩,he2⟩,he3⟩:=hpre
  obtain ⟨es,rfl,hok⟩:=Kerb.ents_of hall
  rw [Kerb.map_toEntry]
  simp only [hr,hall,hlen,he1,he2,he3,decide_true,Xu,↓A0,A0]
  simp only [Vw] at hlen ⊢
  unfold Kerb.putEnt
  dsimp only
  generalize hz:Wg ⟨rl,es⟩=z
  by_cases hz0:z=0
  case neg=>rw [if_pos hz0,sel_pos (by simpa using hz0),if_pos hz0];try rfl
  by_cases hi:i<0∨(es.length:Int)≤i
  ·rw [if_neg (by simpa using hz0),if_pos hi,sel_pos (by rfl),if_neg (by simpa using hz0),if_pos hi];try rfl
  rw [if_neg (by simpa using hz0),if_neg hi,sel_neg (by rfl),if_neg (by simpa using hz0),if_neg hi]
  generalize hy:Kerb.Entry.err _=y
  by_cases hy0:y=0
  case neg=>rw [sel_pos (by simpa using hy0),if_pos hy0];rfl
  rw [sel_neg (by simpa using hy0),if_neg (by simpa using hy0)]
  have i0:decide (0≤i)=true:=by simp;omega
  have i1:decide (i<(es.length:Int))=true:=by simp;omega
  rw [chk_of (by rw [i0,i1];rfl),Vx (by omega)]
  generalize es.getD i.toNat Kerb.noEntry=e
  have hc:=Kerb.cmp_named e (Wm en ei ek ev ex em ea ef et)
  dsimp only at hc
  simp only [Xx,i0,i1,hc,↓A0,A0]
  cases hn:Kerb.Entry.named e.name e.inst (Wm en ei ek ev ex em ea ef et)
  ·rfl
  ·rfl
 ·cases h
theorem w208:Walked Tryz.prog G 208 9 sp208:=by
 refine ⟨Tryz.f208,Tryz.func208,by decide +kernel,rfl,fun xs bl r h=> ?_⟩
 unfold sp208 at h
 split at h
 ·rename_i lb t k st en kv x y z tk
  obtain ⟨hpre,h2⟩:=chk_inv h;cases h2
  refine Eq.trans (b:=(Zw (chk (l63 x&&l63 y&&l63 z&&decide (0≤k)&&decide (k<18446744073709551616)) (some (Zz .i64 (Xp (Kerb.encodeKaAnswer (Kerb.KaAnswer.mk lb t k st en kv (Yu x y z) tk))),[]))) (kI .i64 fun n=>sel (!n==0) (some (Zh [Zp [],Zz .i64 n],[])) (Zw (chk (decide (Zy lb≤70368744177664)) (some (Yx (lb++Yd t 4 false),[]))) (kO fun l=>sel (Uv lb) (Zw (chk (decide (0≤k)&&decide (k<18446744073709551616)) (some (Zp (Kerb.keyBytes k),[]))) (kB fun b=>chk (room (Zy l+Zy b) 1) (Zw (chk (decide (Zy (l++b)≤70368744177664)) (some (Yx (l++b++Yd st 4 false),[]))) (kO fun l=>Zw (chk (decide (Zy l≤70368744177664)) (some (Yx (l++Yd en 4 false),[]))) (kO fun l=>Zw (chk (decide (Zy l≤70368744177664)) (some (Yx (l++Yd kv 1 false),[]))) (kO fun l=>Zw (chk (decide (Zy l+Zy x+Zy y+Zy z≤70368744170000)) (some (Zp (Vz l (Yu x y z)),[]))) (kB fun b=>Zw (chk (decide (Zy b+Zy tk≤70368744170000)) (some (Zp (Wh b tk),[]))) (kB fun b=>Zw (chk (decide (Zy b≤70368744177664)) (some (Zp (Kerb.pad b),[]))) (kB fun b=>some (Zh [Zp b,Zz .i64 0],[])))))))))) (Zw (chk (decide (Zy l≤70368744177664)) (some (Zp (Kerb.pad l),[]))) (kB fun b=>some (Zh [Zp b,Zz .i64 0],[])))))):Option (AV×Blocks))) (by kernel_rfl) ?_
  delta kB kO kI
  try dsimp only [cStr,cBs,cBool,cU8,cInt,cSl,l63]
  have hpre':=hpre
  simp only [Yv,decide_eq_true_eq] at hpre
  have hk:(decide (0≤k)&&decide (k<18446744073709551616))=true:=by simp;omega
  simp only [A0,hpre',hk]
  by_cases he:(Kerb.encodeKaAnswer (Kerb.KaAnswer.mk lb t k st en kv ⟨x,y,z⟩ tk)).err=0
  case neg=>rw [sel_pos (by simpa using he),Kerb.encKaAns_no he]
  rw [sel_neg (by simp [he]),he]
  obtain ⟨ht,⟨hl,hl4,hk2,hs,hen,hv,hp,hx,hb⟩ | ⟨hl,hk2,hs,hen,hv,hp,hx,hb⟩⟩:=Kerb.encKaAns_inv he
  ·have l1:=Kerb.valid_len hp
   simp only at hl hl4 l1 hx
   rw [hb,chk_of (by simp;omega),sel_pos hl]
   rw [chk_of (Kerb.room_ok (by simp [Zq,Zu];omega)),chk_of (by simp [Zq,Zu];omega),chk_of (by simp [Zq,Zu];omega),chk_of (by simp [Zq,Zu];omega),chk_of (by simp [Zq,Zu];omega),chk_of (by simp [Zq,Zu,Zj];omega),chk_of (by simp [Zq,Zu,Zj,Wh];omega)]
   simp [Wh,Vz,Ym]
  ·simp only at hl
   have hl4:lb.length=4:=by rw [hl];rfl
   have hnt:Uv lb=false:=by rw [hl];decide
   rw [hb,chk_of (by simp;omega),sel_neg hnt,chk_of (by simp [Zq];omega)]
 ·cases h
theorem w232:Walked Tryz.prog G 232 9 sp232:=by
 refine ⟨Tryz.f232,Tryz.func232,by decide +kernel,rfl,fun xs bl r h=> ?_⟩
 unfold sp232 at h
 split at h
 ·rename_i rl els i k
  obtain ⟨hpre,h2⟩:=chk_inv h;cases h2
  refine Eq.trans (b:=(let t0:Bool:=Uz els Vy&&decide (Zy els≤1000000)&&decide (0≤i)&&decide (i<(↑(Zy els):Int));Zw (chk (l63 rl&&Uz els Vy&&decide (Zy els≤1000000)) (some (Zz .i64 (if Wg (Xg rl (Xd Xj els))≠0 then Wg (Xg rl (Xd Xj els)) else if i<0∨(↑(Zy els):Int)≤i then 104 else 0),[]))) (kI .i64 fun n=>sel (!n==0) (some (Zh [Xv [Zx [],Vu 9 []],Zz .i64 n],[])) (Zw (chk (decide (0≤k)&&decide (k<18446744073709551616)) (some (Zn (Wp k),[]))) (kL fun b=>sel (!b) (some (Zh [Xv [Zx [],Vu 9 []],Zz .i64 10],[])) (chk (decide (0≤i)&&decide (i<(↑(Zy els):Int))&&true) (Vd (Ww els (Yz i) Ux) fun cs=>cStr cs fun b r=>cStr r fun b_1 r=>cInt .u64 r fun n r=>cInt .i64 r fun n r=>cInt .i64 r fun n_1 r=>cInt .i64 r fun n_2 r=>cInt .i64 r fun n_3 r=>cInt .i64 r fun n_4 r=>cInt .i64 r fun n_5 r=>let t1:Kerb.Db:=Kerb.setEnt (Xg rl (Xd Xj els)) i (Wm b b_1 k (Zd .i64 (n+1)) n_1 n_2 n_3 n_4 n_5);let t2:Kerb.Db:=Kerb.setEnt (Xg rl (Xd Xj els)) i (Wm b b_1 k 1 n_1 n_2 n_3 n_4 n_5);onNil r (sel (decide (n<255)) (Zw (chk t0 (some (Xv [Zx (Kerb.Db.realm t1),Vu 9 (Xd Xx (Kerb.Db.entries t1))],[]))) (kA fun cs=>cStr cs fun b r=>cSl 9 r fun b_2 r=>onNil r (some (Zh [Xv [Zx b,Vu 9 b_2],Zz .i64 0],[])))) (Zw (chk t0 (some (Xv [Zx (Kerb.Db.realm t2),Vu 9 (Xd Xx (Kerb.Db.entries t2))],[]))) (kA fun cs=>cStr cs fun b r=>cSl 9 r fun b_2 r=>onNil r (some (Zh [Xv [Zx b,Vu 9 b_2],Zz .i64 0],[])))))))))):Option (AV×Blocks))) (by kernel_rfl) ?_
  delta kA kL kI
  try dsimp only [cStr,cBs,cBool,cU8,cInt,cSl,l63]
  simp only [Yv,decide_eq_true_eq] at hpre
  obtain ⟨⟨⟨⟨hr,hall⟩,hlen⟩,h0⟩,h1⟩:=hpre
  obtain ⟨es,rfl,hok⟩:=Kerb.ents_of hall
  rw [Kerb.map_toEntry]
  simp only [hr,hall,hlen,h0,h1,decide_true,Xu,↓A0,A0]
  simp only [Vw] at hlen ⊢
  unfold Kerb.rekey
  dsimp only
  generalize hz:Wg ⟨rl,es⟩=z
  by_cases hz0:z=0
  case neg=>rw [if_pos hz0,sel_pos (by simpa using hz0),if_pos hz0];try rfl
  by_cases hi:i<0∨(es.length:Int)≤i
  ·rw [if_neg (by simpa using hz0),if_pos hi,sel_pos (by rfl),if_neg (by simpa using hz0),if_pos hi];try rfl
  rw [if_neg (by simpa using hz0),if_neg hi,sel_neg (by rfl),if_neg (by simpa using hz0),if_neg hi]
  cases hk:Wp k
  ·rfl
  rw [sel_neg (by simp),if_neg (by simp)]
  have i0:decide (0≤i)=true:=by simp;omega
  have i1:decide (i<(es.length:Int))=true:=by simp;omega
  rw [chk_of (by rw [i0,i1];rfl),Vx (by omega)]
  have hx:=Kerb.errs_all (Kerb.Db.err_inv (hz.trans hz0)).2.2 _ (Kerb.ent_mem (es:=es) (i:=i.toNat) (by omega))
  generalize es.getD i.toNat Kerb.noEntry=e at hx
  have x4:=Kerb.within_iff.1 (Kerb.Entry.err_inv hx).2.2.2.1
  simp only [Xx,i0,i1,↓A0,A0]
  unfold Kerb.Entry.rekeyed
  try dsimp only
  by_cases hv:e.kvno<255
  ·rw [sel_pos (by simpa using hv),if_pos hv,wrap_i64 (by omega) (by omega)];rfl
  ·rw [sel_neg (by simpa using hv),if_neg hv];rfl
 ·cases h
theorem w261:Walked Tryz.prog G 261 9 sp261:=by
 refine ⟨Tryz.f261,Tryz.func261,by decide +kernel,rfl,fun xs bl r h=> ?_⟩
 unfold sp261 at h
 split at h
 ·rename_i li x y z ad k lf iss sv ins
  obtain ⟨hpre,h2⟩:=chk_inv h;cases h2
  refine Eq.trans (b:=(let t0:Nat:=Zy ([]++Yd 1 1 false)+Zy x+Zy y+Zy z;let t1:Nat:=Zy ([]++Yd 0 1 false)+Zy x+Zy y+Zy z;let t2:Option (AV×Blocks):=chk (decide (0≤k)&&decide (k<18446744073709551616)) (some (Zp (Kerb.keyBytes k),[]));Zw (chk (l63 x&&l63 y&&l63 z&&l63 sv&&l63 ins&&decide (0≤k)&&decide (k<18446744073709551616)) (some (Zz .i64 (Kerb.Ticket.err (Vg li (Yu x y z) ad k lf iss sv ins)),[]))) (kI .i64 fun n=>sel (!n==0) (some (Zh [Zp [],Zz .i64 n],[])) (sel li (Zw (chk (decide (t0≤70368744170000)) (some (Zp (Vz ([]++Yd 1 1 false) (Yu x y z)),[]))) (kB fun b=>Zw (chk (decide (Zy b≤70368744177664)) (some (Yx (b++Yd ad 4 li),[]))) (kO fun l=>Zw t2 (kB fun b=>Zw (chk (decide (Zy (Yp l (Yp b []))≤140737488355328)&&decide (Zy [Zp l,Zp b]≤1000)) (some (Yx (Yp l (Yp b [])),[]))) (kO fun l=>Zw (chk (decide (Zy l≤70368744177664)) (some (Yx (l++Yd lf 1 false),[]))) (kO fun l=>Zw (chk (decide (Zy l≤70368744177664)) (some (Yx (l++Yd iss 4 li),[]))) (kO fun l=>Zw (chk (decide (Zy l+Zy sv≤70368744177664)) (some (Zp (Ym l sv),[]))) (kB fun b=>Zw (chk (decide (Zy b+Zy ins≤70368744177664)) (some (Zp (Ym b ins),[]))) (kB fun b=>Zw (chk (decide (Zy b≤70368744177664)) (some (Zp (Kerb.pad b),[]))) (kB fun b=>some (Zh [Zp b,Zz .i64 0],[]))))))))))) (Zw (chk (decide (t1≤70368744170000)) (some (Zp (Vz ([]++Yd 0 1 false) (Yu x y z)),[]))) (kB fun b=>Zw (chk (decide (Zy b≤70368744177664)) (some (Yx (b++Yd ad 4 li),[]))) (kO fun l=>Zw t2 (kB fun b=>Zw (chk (decide (Zy (Yp l (Yp b []))≤140737488355328)&&decide (Zy [Zp l,Zp b]≤1000)) (some (Yx (Yp l (Yp b [])),[]))) (kO fun l=>Zw (chk (decide (Zy l≤70368744177664)) (some (Yx (l++Yd lf 1 false),[]))) (kO fun l=>Zw (chk (decide (Zy l≤70368744177664)) (some (Yx (l++Yd iss 4 li),[]))) (kO fun l=>Zw (chk (decide (Zy l+Zy sv≤70368744177664)) (some (Zp (Ym l sv),[]))) (kB fun b=>Zw (chk (decide (Zy b+Zy ins≤70368744177664)) (some (Zp (Ym b ins),[]))) (kB fun b=>Zw (chk (decide (Zy b≤70368744177664)) (some (Zp (Kerb.pad b),[]))) (kB fun b=>some (Zh [Zp b,Zz .i64 0],[]))))))))))))):Option (AV×Blocks))) (by kernel_rfl) ?_
  delta kB kO kI
  try dsimp only [cStr,cBs,cBool,cU8,cInt,cSl,l63]
  simp only [Yv,decide_eq_true_eq] at hpre
  obtain ⟨⟨⟨⟨⟨⟨h1,h2⟩,h3⟩,h4⟩,h5⟩,h6⟩,h7⟩:=hpre
  simp only [h1,h2,h3,h4,h5,h6,h7,decide_true,Xu,↓A0,A0]
  have hb := @Kerb.encTicket_inv ⟨li,⟨x,y,z⟩,ad,k,lf,iss,sv,ins⟩
  unfold Uw at hb ⊢
  dsimp only at hb ⊢
  generalize hE:Kerb.Ticket.err _=e at hb ⊢
  by_cases he:e=0
  case neg=>rw [sel_pos (by simpa using he),if_pos he]
  rw [if_neg (by simpa using he)] at hb
  obtain ⟨v1,v2,v3,_⟩:=hb rfl
  have l1:=Kerb.valid_len v1
  have l2:=(Kerb.name_ok v2).1
  have l3:=(Kerb.inst_ok v3).1
  dsimp only at l1
  rw [sel_neg (by simpa using he),if_neg (by simpa using he)]
  cases li
  ·rw [sel_false,chk_of (by first | (simp [Zj,Zq,Zu];done) | (simp [Zj,Zq,Zu];omega)),chk_of (by first | (simp [Zj,Zq,Zu];done) | (simp [Zj,Zq,Zu];omega)),chk_of (by first | (simp [Zj,Zq,Zu];done) | (simp [Zj,Zq,Zu];omega)),chk_of (by first | (simp [Zj,Zq,Zu];done) | (simp [Zj,Zq,Zu];omega)),chk_of (by first | (simp [Zj,Zq,Zu];done) | (simp [Zj,Zq,Zu];omega)),chk_of (by first | (simp [Zj,Zq,Zu];done) | (simp [Zj,Zq,Zu];omega)),chk_of (by first | (simp [Ym,Zj,Zq,Zu];done) | (simp [Ym,Zj,Zq,Zu];omega)),chk_of (by first | (simp [Ym,Zj,Zq,Zu];done) | (simp [Ym,Zj,Zq,Zu];omega))]
   simp
  ·rw [sel_true,chk_of (by first | (simp [Zj,Zq,Zu];done) | (simp [Zj,Zq,Zu];omega)),chk_of (by first | (simp [Zj,Zq,Zu];done) | (simp [Zj,Zq,Zu];omega)),chk_of (by first | (simp [Zj,Zq,Zu];done) | (simp [Zj,Zq,Zu];omega)),chk_of (by first | (simp [Zj,Zq,Zu];done) | (simp [Zj,Zq,Zu];omega)),chk_of (by first | (simp [Zj,Zq,Zu];done) | (simp [Zj,Zq,Zu];omega)),chk_of (by first | (simp [Zj,Zq,Zu];done) | (simp [Zj,Zq,Zu];omega)),chk_of (by first | (simp [Ym,Zj,Zq,Zu];done) | (simp [Ym,Zj,Zq,Zu];omega)),chk_of (by first | (simp [Ym,Zj,Zq,Zu];done) | (simp [Ym,Zj,Zq,Zu];omega))]
   simp
 ·cases h
theorem w66:Walked Tryz.prog G 66 10 sp66:=by
 refine ⟨Tryz.f66,Tryz.func66,by decide +kernel,rfl,fun xs bl r h=> ?_⟩
 unfold sp66 at h
 split at h
 ·rename_i b
  obtain ⟨hpre,h2⟩:=chk_inv h;cases h2
  refine Eq.trans (b:=(let t1:AV:=Xv [Zz .i64 0,Zx [],Zx [],Zx [],Zz .i64 0,Zx [],Zp [],Zx [],Zx [],Zp []];let t0:Option (AV×Blocks):=some (Zh [t1,Zz .i64 100],[]);sel (!Yy (Kerb.headIs b [9])==0) (some (Zh [t1,Zz .i64 (Yy (Kerb.headIs b [9]))],[])) (Zw (chk (decide (Zy b≤140737488355328)) (some (Zz .i64 (Yn (Yk b 1 2 false)),[[Zp b,Zz .i64 (Xz (Yk b 1 2 false)),Zn (Xy (Yk b 1 2 false))]]))) fun (r:AV×Blocks)=>onConsB (Yy r) fun (x:List AV) (r_1:List (List AV))=>cBs x fun b_1 r_2=>cInt .i64 r_2 fun n r_3=>cBool r_3 fun b_2 r_4=>onNil r_4 (onNilB r_1 (Xq .i64 (Yw r) fun n_1=>sel (n_1==2) (Zw (chk (decide (Zy b_1≤140737488355328)) (some (Zz .i64 (Yn (Yk b_1 1 n b_2)),[[Zp b_1,Zz .i64 (Xz (Yk b_1 1 n b_2)),Zn (Xy (Yk b_1 1 n b_2))]]))) fun (r:AV×Blocks)=>onConsB (Yy r) fun (x:List AV) (r_5:List (List AV))=>cBs x fun b_3 r_6=>cInt .i64 r_6 fun n r_7=>cBool r_7 fun b_4 r_8=>onNil r_8 (onNilB r_5 (Xq .i64 (Yw r) fun n_2=>Zw (chk (decide (Zy b_3≤140737488355328)) (some (Zx (Yn (Vv b_3 n b_4)),[[Zp b_3,Zz .i64 (Xz (Vv b_3 n b_4)),Zn (Xy (Vv b_3 n b_4))]]))) fun (r:AV×Blocks)=>onConsB (Yy r) fun (x:List AV) (r_9:List (List AV))=>cBs x fun b_5 r_10=>cInt .i64 r_10 fun n r_11=>cBool r_11 fun b_6 r_12=>onNil r_12 (onNilB r_9 (AV.onStr (Yw r) fun b_7=>Zw (chk (decide (Zy b_5≤140737488355328)) (some (Zz .i64 (Yn (Yk b_5 1 n b_6)),[[Zp b_5,Zz .i64 (Xz (Yk b_5 1 n b_6)),Zn (Xy (Yk b_5 1 n b_6))]]))) fun (r:AV×Blocks)=>onConsB (Yy r) fun (x:List AV) (r_13:List (List AV))=>cBs x fun b_8 r_14=>cInt .i64 r_14 fun n r_15=>cBool r_15 fun b_9 r_16=>onNil r_16 (onNilB r_13 (Xq .i64 (Yw r) fun n_3=>Zw (chk (decide (Zy b_8≤140737488355328)) (some (Zp (Yn (Yb b_8 n_3 n b_9)),[[Zp b_8,Zz .i64 (Xz (Yb b_8 n_3 n b_9)),Zn (Xy (Yb b_8 n_3 n b_9))]]))) fun (r:AV×Blocks)=>onConsB (Yy r) fun (x:List AV) (r_17:List (List AV))=>cBs x fun b_10 r_18=>cInt .i64 r_18 fun n r_19=>cBool r_19 fun b_11 r_20=>onNil r_20 (onNilB r_17 (AV.onBs (Yw r) fun b_12=>Zw (chk (decide (Zy b_10≤140737488355328)) (some (Zx (Yn (Vv b_10 n b_11)),[[Zp b_10,Zz .i64 (Xz (Vv b_10 n b_11)),Zn (Xy (Vv b_10 n b_11))]]))) fun (r:AV×Blocks)=>onConsB (Yy r) fun (x:List AV) (r_21:List (List AV))=>cBs x fun b_13 r_22=>cInt .i64 r_22 fun n r_23=>cBool r_23 fun b_14 r_24=>onNil r_24 (onNilB r_21 (AV.onStr (Yw r) fun b_15=>Zw (chk (decide (Zy b_13≤140737488355328)) (some (Zx (Yn (Vv b_13 n b_14)),[[Zp b_13,Zz .i64 (Xz (Vv b_13 n b_14)),Zn (Xy (Vv b_13 n b_14))]]))) fun (r:AV×Blocks)=>onConsB (Yy r) fun (x:List AV) (r_25:List (List AV))=>cBs x fun b_16 r_26=>cInt .i64 r_26 fun n r_27=>cBool r_27 fun b_17 r_28=>onNil r_28 (onNilB r_25 (AV.onStr (Yw r) fun b_18=>Zw (chk (decide (Zy b_16≤140737488355328)) (some (Zz .i64 (Yn (Yk b_16 2 n b_17)),[[Zp b_16,Zz .i64 (Xz (Yk b_16 2 n b_17)),Zn (Xy (Yk b_16 2 n b_17))]]))) fun (r:AV×Blocks)=>onConsB (Yy r) fun (x:List AV) (r_29:List (List AV))=>cBs x fun b_19 r_30=>cInt .i64 r_30 fun n r_31=>cBool r_31 fun b_20 r_32=>onNil r_32 (onNilB r_29 (Xq .i64 (Yw r) fun n_4=>Zw (chk (decide (Zy b_19≤140737488355328)) (some (Zp (Yn (Yb b_19 n_4 n b_20)),[[Zp b_19,Zz .i64 (Xz (Yb b_19 n_4 n b_20)),Zn (Xy (Yb b_19 n_4 n b_20))]]))) fun (r:AV×Blocks)=>onConsB (Yy r) fun (x:List AV) (r_33:List (List AV))=>cBs x fun b_21 r_34=>cInt .i64 r_34 fun n r_35=>cBool r_35 fun b_22 r_36=>onNil r_36 (onNilB r_33 (AV.onBs (Yw r) fun b_23=>sel b_22 t0 (Zw (chk (l63 b_7&&l63 b_15&&l63 b_18) (some (Zh [Zp (Wy (Yq (Xk n_1 (Yu [] [] []) n_2 b_7 b_12 b_15 b_18 b_23))),Zz .i64 (Xp (Yq (Xk n_1 (Yu [] [] []) n_2 b_7 b_12 b_15 b_18 b_23)))],[]))) (kT fun vs=>cBs vs fun b_24 r=>cInt .i64 r fun n r=>onNil r (sel (!n==0) t0 (sel (!b_24==b) t0 (some (Zh [Xv [Zz .i64 n_1,Zx [],Zx [],Zx [],Zz .i64 n_2,Zx b_7,Zp b_12,Zx b_15,Zx b_18,Zp b_23],Zz .i64 0],[]))))))))))))))))))))))) (Zw (chk (decide (Zy b_1≤140737488355328)) (some (Xv [Zx (Wd (Yn (Kerb.pPrin b_1 n b_2))),Zx (Wf (Yn (Kerb.pPrin b_1 n b_2))),Zx (Wj (Yn (Kerb.pPrin b_1 n b_2)))],[[Zp b_1,Zz .i64 (Xz (Kerb.pPrin b_1 n b_2)),Zn (Xy (Kerb.pPrin b_1 n b_2))]]))) fun (r:AV×Blocks)=>onConsB (Yy r) fun (x:List AV) (r_5:List (List AV))=>cBs x fun b_3 r_6=>cInt .i64 r_6 fun n r_7=>cBool r_7 fun b_4 r_8=>onNil r_8 (onNilB r_5 (Vd (Yw r) fun cs=>cStr cs fun b_5 r=>cStr r fun b_6 r=>cStr r fun b_7 r=>onNil r (Zw (chk (decide (Zy b_3≤140737488355328)) (some (Zz .i64 (Yn (Yk b_3 2 n b_4)),[[Zp b_3,Zz .i64 (Xz (Yk b_3 2 n b_4)),Zn (Xy (Yk b_3 2 n b_4))]]))) fun (r:AV×Blocks)=>onConsB (Yy r) fun (x:List AV) (r_9:List (List AV))=>cBs x fun b_8 r_10=>cInt .i64 r_10 fun n r_11=>cBool r_11 fun b_9 r_12=>onNil r_12 (onNilB r_9 (Xq .i64 (Yw r) fun n_2=>Zw (chk (decide (Zy b_8≤140737488355328)) (some (Zp (Yn (Yb b_8 n_2 n b_9)),[[Zp b_8,Zz .i64 (Xz (Yb b_8 n_2 n b_9)),Zn (Xy (Yb b_8 n_2 n b_9))]]))) fun (r:AV×Blocks)=>onConsB (Yy r) fun (x:List AV) (r_13:List (List AV))=>cBs x fun b_10 r_14=>cInt .i64 r_14 fun n r_15=>cBool r_15 fun b_11 r_16=>onNil r_16 (onNilB r_13 (AV.onBs (Yw r) fun b_12=>sel b_11 t0 (Zw (chk (l63 b_5&&l63 b_6&&l63 b_7&&true&&true&&true) (some (Zh [Zp (Wy (Yq (Xk n_1 (Yu b_5 b_6 b_7) 0 [] [] [] [] b_12))),Zz .i64 (Xp (Yq (Xk n_1 (Yu b_5 b_6 b_7) 0 [] [] [] [] b_12)))],[]))) (kT fun vs=>cBs vs fun b_13 r=>cInt .i64 r fun n r=>onNil r (sel (!n==0) t0 (sel (!b_13==b) t0 (some (Zh [Xv [Zz .i64 n_1,Zx b_5,Zx b_6,Zx b_7,Zz .i64 0,Zx [],Zp [],Zx [],Zx [],Zp b_12],Zz .i64 0],[]))))))))))))))))):Option (AV×Blocks))) (by kernel_rfl) ?_
  delta kT
  try dsimp only [cStr,cBs,cBool,cU8,cInt,cSl,l63]
  have hb:=of_decide_eq_true hpre
  simp only [A0]
  by_cases h:(Kerb.headIs b [9]).2=0
  case neg =>
   rw [sel_pos (by simpa using h)]
   unfold Kerb.decodeKaRequest
   rw [if_pos h]
   rfl
  have hd:Kerb.decodeKaRequest b=Kerb.decBy Kerb.noKaReq Yq Uy b:=by unfold Kerb.decodeKaRequest;rw [if_neg (by simpa using h)]
  rw [sel_neg (by simp [h]),hd]
  rw [chk_of hpre]
  by_cases h2:(Yk b 1 2 false).val=2
  ·have e2:((Yk b 1 2 false).val==2)=true:=by simpa using h2
   rw [sel_pos e2]
   rw [chk_of hpre,chk_of hpre,chk_of hpre,chk_of hpre,chk_of hpre,chk_of hpre,chk_of hpre,chk_of hpre]
   have lt:=Kerb.pText_len b
   rw [chk_of (by simp only [Yv,decide_eq_true_eq];exact ⟨⟨Nat.le_trans (lt _ _) (by omega),Nat.le_trans (lt _ _) (by omega)⟩,Nat.le_trans (lt _ _) (by omega)⟩)]
   exact Kerb.decBy_fin (no:=Kerb.noKaReq) (enc:=Yq) (rd:=Uy) _ _ (by unfold Uy Kerb.pReq;dsimp only;rw [e2];rfl) (fun x e=>(Zh [Xv [Zz Zk (x).op,Zx (x).user.name,Zx (x).user.inst,Zx (x).user.realm,Zz Zk (x).kvno,Zx (x).realm,Zp (x).ticket,Zx (x).service,Zx (x).inst,Zp (x).box],Zz Zk e],([]:Blocks)))
  ·have e2:((Yk b 1 2 false).val==2)=false:=by simpa using h2
   rw [sel_neg e2]
   rw [chk_of hpre,chk_of hpre,chk_of hpre]
   have lt:=Kerb.pPrin_len b (Yk b 1 2 false).pos (Yk b 1 2 false).bad
   rw [chk_of (by simp;omega)]
   exact Kerb.decBy_fin (no:=Kerb.noKaReq) (enc:=Yq) (rd:=Uy) _ _ (by unfold Uy Kerb.pReq;dsimp only;rw [e2];rfl) (fun x e=>(Zh [Xv [Zz Zk (x).op,Zx (x).user.name,Zx (x).user.inst,Zx (x).user.realm,Zz Zk (x).kvno,Zx (x).realm,Zp (x).ticket,Zx (x).service,Zx (x).inst,Zp (x).box],Zz Zk e],([]:Blocks)))
 ·cases h
end Go.Proofs.YtaikjfcgemjghaaGreat
