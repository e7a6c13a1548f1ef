/- What the functions of this seat compute. -/
import Derived.Test.YtpelamlfpffacaaGreatTab
set_option linter.all false
open Go.Abs.AV renaming int→Zz,bs→Zu,str→Zk,bool→Zd,bC→Yz,undef→Yu,ax→Yk,aD→Yn,agg→Xx,ptr→Xk,bw→Ww
open List renaming length→Zy,getD→Zg,set→Yy
open Option renaming bind→Zx,some→Yx
open Int renaming toNat→Zw,eq_ofNat_of_zero_le→Zm,toNat_natCast→Yg
open Go.IntKind renaming wrap→Zv,bits→Yb,i64→Xv
open Decidable renaming decide→Zq
open Bool renaming not_true→Zj,and_eq_true→Zh,true→Yv,false→Yp,true_and→Wy
open Kerb renaming within→Zp,aw→Zf,ay→Zb,aB→Zn,iM→Yf,bh→Ym,bt→Xz,swp_size→Xy,rd→Xw,dK→Xq,gM→Xp,wr→Xg,dA→Xb,header→Xm,back→Xh,dN→Wv,cT→Wu
open Nat renaming blt→Yw,beq_refl→Xu,beq→Wq
open Prod renaming snd→Yq,fst→Yd
open Array renaming setIfInBounds→Yj,size_setIfInBounds→Yh
open Sum renaming inr→Xj,inl→Xd
open Go.Abs.Ex renaming exit→Xf
open UInt8 renaming toNat→Xn
open Kerb.Client renaming av→Wz
open Kerb.Cache renaming av→Wx
namespace Go.Proofs.YtpelamlfpffacaaGreat
open Go Go.Abs Go.Proofs
set_option maxRecDepth 100000
theorem ahG:Wk 190 3 EK:=by
 refine gi Tryz.func190 fun _ _ _ h=> ?_;unfold EK at h;split at h;case h_2=>cases h
 rename_i a b p els;obtain⟨aO,rfl⟩:=hZ h
 refine Dp [0] (aA (Zq (0<=p)&&Zq (p<(↑(Zy els):Int))&&Yv) (aA (Yw (Zw p) (Zy els)&&Yv) (Yk .u64 (Zg els (Zw p) Yu) fun n=>aA (Zq (0<=a)&&Zq (a<(↑(Zy els):Int))&&Yv) (aA (Yw (Zw a) (Zy els)&&Yv) (Yk .u64 (Zg els (Zw a) Yu) fun cV=>aA (Zq (0<=a)&&Zq (a<(↑(Zy els):Int))&&Yv) (aA (Yw (Zw a) (Zy els)&&Yv) (Yk .u64 (Zg els (Zw a) Yu) fun eE=>aA (Zy [Zz .u64 n]==nat_lit 1&&Yv&&Yv&&Yv&&Yw (Zw a) (Zy els)) (aA (Zq (0<=p)&&Zq (p<(↑(Zy (Yy els (Zw a) (Zz .u64 n))):Int))&&Yv) (aA (Yw (Zw p) (Zy (Yy els (Zw a) (Zz .u64 n)))&&Yv) (Yk .u64 (Zg (Yy els (Zw a) (Zz .u64 n)) (Zw p) Yu) fun ig=>aA (Zy [Zz .u64 cV]==nat_lit 1&&Yv&&Yv&&Yv&&Yw (Zw p) (Zy (Yy els (Zw a) (Zz .u64 n)))) (Zx (bH (fun st=>az st fun x r=>Ww x fun y=>ai .i64 r fun n r=>ai .i64 r fun dk r=>ai .i64 r fun cK r=>ar r (aP (Zq (dk<=cK)) (aA (Zq (0<=dk)&&Zq (dk<(↑(Zy y):Int))&&Yv) (aA (Yw (Zw dk) (Zy y)&&Yv) (Yk .u64 (Zg y (Zw dk) Yu) fun g7=>aA (Zq (0<=n)&&Zq (n<(↑(Zy y):Int))&&Yv) (aA (Yw (Zw n) (Zy y)&&Yv) (Yk .u64 (Zg y (Zw n) Yu) fun gY=>aP (Zq (g7<gY)) (Yx (Xd [Yn y,Zz .i64 n,Zz .i64 (Zv .i64 (dk+1)),Zz .i64 cK])) (Yx (Xj (Xf 0,[Yn y,Zz .i64 n,Zz .i64 dk,Zz .i64 cK])))))))) (Yx (Xj (Xf 0,[Yn y,Zz .i64 n,Zz .i64 dk,Zz .i64 cK]))))) [Yn (Yy (Yy els (Zw a) (Zz .u64 n)) (Zw p) (Zz .u64 cV)),Zz .i64 a,Zz .i64 (Zv .i64 (a+1)),Zz .i64 (Zv .i64 (b-1))]) fun(r:Ex×List AV)=>az (Yq r) fun x fA=>Ww x fun y=>ai .i64 fA fun n fP=>ai .i64 fP fun dk gj=>ai .i64 gj fun cK iV=>ar iV (mZ r.1 none fun j=>aP (Wq j 0) (Zx (bH (fun st=>az st fun x r=>Ww x fun y=>ai .i64 r fun n r=>ai .i64 r fun g7 r=>ai .i64 r fun gY r=>ar r (aP (Zq (g7<=gY)) (aA (Zq (0<=gY)&&Zq (gY<(↑(Zy y):Int))&&Yv) (aA (Yw (Zw gY) (Zy y)&&Yv) (Yk .u64 (Zg y (Zw gY) Yu) fun kC=>aA (Zq (0<=n)&&Zq (n<(↑(Zy y):Int))&&Yv) (aA (Yw (Zw n) (Zy y)&&Yv) (Yk .u64 (Zg y (Zw n) Yu) fun qH=>aP (!Zq (kC<qH)) (Yx (Xd [Yn y,Zz .i64 n,Zz .i64 g7,Zz .i64 (Zv .i64 (gY-1))])) (Yx (Xj (Xf 2,[Yn y,Zz .i64 n,Zz .i64 g7,Zz .i64 gY])))))))) (Yx (Xj (Xf 2,[Yn y,Zz .i64 n,Zz .i64 g7,Zz .i64 gY]))))) [Yn y,Zz .i64 n,Zz .i64 dk,Zz .i64 cK]) fun(r:Ex×List AV)=>az (Yq r) fun x j7=>Ww x fun y=>ai .i64 j7 fun n kH=>ai .i64 kH fun g7 nz=>ai .i64 nz fun gY nK=>ar nK (mZ r.1 none fun j=>aP (Wq j 2) (aP (Zq (g7>gY)) (aA (Zq (0<=n)&&Zq (n<(↑(Zy y):Int))&&Yv) (aA (Yw (Zw n) (Zy y)&&Yv) (Yk .u64 (Zg y (Zw n) Yu) fun kC=>aA (Zq (0<=gY)&&Zq (gY<(↑(Zy y):Int))&&Yv) (aA (Yw (Zw gY) (Zy y)&&Yv) (Yk .u64 (Zg y (Zw gY) Yu) fun qH=>aA (Zq (0<=gY)&&Zq (gY<(↑(Zy y):Int))&&Yv) (aA (Yw (Zw gY) (Zy y)&&Yv) (Yk .u64 (Zg y (Zw gY) Yu) fun um=>aA (Zy [Zz .u64 kC]==nat_lit 1&&Yv&&Yv&&Yv&&Yw (Zw gY) (Zy y)) (aA (Zq (0<=n)&&Zq (n<(↑(Zy (Yy y (Zw gY) (Zz .u64 kC))):Int))&&Yv) (aA (Yw (Zw n) (Zy (Yy y (Zw gY) (Zz .u64 kC)))&&Yv) (Yk .u64 (Zg (Yy y (Zw gY) (Zz .u64 kC)) (Zw n) Yu) fun ly=>aA (Zy [Zz .u64 qH]==nat_lit 1&&Yv&&Yv&&Yv&&Yw (Zw n) (Zy (Yy y (Zw gY) (Zz .u64 kC)))) (Yx (Yz [Zz .i64 gY,Zd Yv],[Yy (Yy y (Zw gY) (Zz .u64 kC)) (Zw n) (Zz .u64 qH)])))))))))))) (aA (Zq (0<=gY)&&Zq (gY<(↑(Zy y):Int))&&Yv) (aA (Yw (Zw gY) (Zy y)&&Yv) (Yk .u64 (Zg y (Zw gY) Yu) fun kC=>aA (Zq (0<=g7)&&Zq (g7<(↑(Zy y):Int))&&Yv) (aA (Yw (Zw g7) (Zy y)&&Yv) (Yk .u64 (Zg y (Zw g7) Yu) fun qH=>aA (Zq (0<=g7)&&Zq (g7<(↑(Zy y):Int))&&Yv) (aA (Yw (Zw g7) (Zy y)&&Yv) (Yk .u64 (Zg y (Zw g7) Yu) fun um=>aA (Zy [Zz .u64 kC]==nat_lit 1&&Yv&&Yv&&Yv&&Yw (Zw g7) (Zy y)) (aA (Zq (0<=gY)&&Zq (gY<(↑(Zy (Yy y (Zw g7) (Zz .u64 kC))):Int))&&Yv) (aA (Yw (Zw gY) (Zy (Yy y (Zw g7) (Zz .u64 kC)))&&Yv) (Yk .u64 (Zg (Yy y (Zw g7) (Zz .u64 kC)) (Zw gY) Yu) fun ly=>aA (Zy [Zz .u64 qH]==nat_lit 1&&Yv&&Yv&&Yv&&Yw (Zw gY) (Zy (Yy y (Zw g7) (Zz .u64 kC)))) (Zx (bH (fun st=>az st fun x r=>Ww x fun y=>ai .i64 r fun n r=>ai .i64 r fun nJ r=>ai .i64 r fun jf r=>ar r (Zx (bH (fun st=>az st fun x r=>Ww x fun y=>ai .i64 r fun n r=>ai .i64 r fun bS r=>ai .i64 r fun jP r=>ar r (aP (Zq (bS<=jP)) (aA (Zq (0<=bS)&&Zq (bS<(↑(Zy y):Int))&&Yv) (aA (Yw (Zw bS) (Zy y)&&Yv) (Yk .u64 (Zg y (Zw bS) Yu) fun gI=>aA (Zq (0<=n)&&Zq (n<(↑(Zy y):Int))&&Yv) (aA (Yw (Zw n) (Zy y)&&Yv) (Yk .u64 (Zg y (Zw n) Yu) fun ep=>aP (Zq (gI<ep)) (Yx (Xd [Yn y,Zz .i64 n,Zz .i64 (Zv .i64 (bS+1)),Zz .i64 jP])) (Yx (Xj (Xf 6,[Yn y,Zz .i64 n,Zz .i64 bS,Zz .i64 jP])))))))) (Yx (Xj (Xf 6,[Yn y,Zz .i64 n,Zz .i64 bS,Zz .i64 jP]))))) [Yn y,Zz .i64 n,Zz .i64 nJ,Zz .i64 jf]) fun(r:Ex×List AV)=>az (Yq r) fun x nL=>Ww x fun y=>ai .i64 nL fun n gU=>ai .i64 gU fun bS iT=>ai .i64 iT fun jP iU=>ar iU (mZ r.1 (Yx (Xj (Ex.ret,[Yn y,Zz .i64 n,Zz .i64 bS,Zz .i64 jP]))) fun j=>aP (Wq j 6) (Zx (bH (fun st=>az st fun x r=>Ww x fun y=>ai .i64 r fun n r=>ai .i64 r fun gI r=>ai .i64 r fun ep r=>ar r (aP (Zq (gI<=ep)) (aA (Zq (0<=ep)&&Zq (ep<(↑(Zy y):Int))&&Yv) (aA (Yw (Zw ep) (Zy y)&&Yv) (Yk .u64 (Zg y (Zw ep) Yu) fun ch=>aA (Zq (0<=n)&&Zq (n<(↑(Zy y):Int))&&Yv) (aA (Yw (Zw n) (Zy y)&&Yv) (Yk .u64 (Zg y (Zw n) Yu) fun sk=>aP (!Zq (ch<sk)) (Yx (Xd [Yn y,Zz .i64 n,Zz .i64 gI,Zz .i64 (Zv .i64 (ep-1))])) (Yx (Xj (Xf 8,[Yn y,Zz .i64 n,Zz .i64 gI,Zz .i64 ep])))))))) (Yx (Xj (Xf 8,[Yn y,Zz .i64 n,Zz .i64 gI,Zz .i64 ep]))))) [Yn y,Zz .i64 n,Zz .i64 bS,Zz .i64 jP]) fun(r:Ex×List AV)=>az (Yq r) fun x jC=>Ww x fun y=>ai .i64 jC fun n jT=>ai .i64 jT fun gI jU=>ai .i64 jU fun ep k_=>ar k_ (mZ r.1 (Yx (Xj (Ex.ret,[Yn y,Zz .i64 n,Zz .i64 gI,Zz .i64 ep]))) fun j=>aP (Wq j 8) (aP (Zq (gI>ep)) (Yx (Xj (Xf 4,[Yn y,Zz .i64 n,Zz .i64 gI,Zz .i64 ep]))) (aA (Zq (0<=ep)&&Zq (ep<(↑(Zy y):Int))&&Yv) (aA (Yw (Zw ep) (Zy y)&&Yv) (Yk .u64 (Zg y (Zw ep) Yu) fun ch=>aA (Zq (0<=gI)&&Zq (gI<(↑(Zy y):Int))&&Yv) (aA (Yw (Zw gI) (Zy y)&&Yv) (Yk .u64 (Zg y (Zw gI) Yu) fun sk=>aA (Zq (0<=gI)&&Zq (gI<(↑(Zy y):Int))&&Yv) (aA (Yw (Zw gI) (Zy y)&&Yv) (Yk .u64 (Zg y (Zw gI) Yu) fun sm=>aA (Zy [Zz .u64 ch]==nat_lit 1&&Yv&&Yv&&Yv&&Yw (Zw gI) (Zy y)) (aA (Zq (0<=ep)&&Zq (ep<(↑(Zy (Yy y (Zw gI) (Zz .u64 ch))):Int))&&Yv) (aA (Yw (Zw ep) (Zy (Yy y (Zw gI) (Zz .u64 ch)))&&Yv) (Yk .u64 (Zg (Yy y (Zw gI) (Zz .u64 ch)) (Zw ep) Yu) fun jQ=>aA (Zy [Zz .u64 sk]==nat_lit 1&&Yv&&Yv&&Yv&&Yw (Zw ep) (Zy (Yy y (Zw gI) (Zz .u64 ch)))) (Yx (Xd [Yn (Yy (Yy y (Zw gI) (Zz .u64 ch)) (Zw ep) (Zz .u64 sk)),Zz .i64 n,Zz .i64 (Zv .i64 (gI+1)),Zz .i64 (Zv .i64 (ep-1))]))))))))))))) none)) none))) [Yn (Yy (Yy y (Zw g7) (Zz .u64 kC)) (Zw gY) (Zz .u64 qH)),Zz .i64 n,Zz .i64 (Zv .i64 (g7+1)),Zz .i64 (Zv .i64 (gY-1))]) fun(r:Ex×List AV)=>az (Yq r) fun x nL=>Ww x fun y=>ai .i64 nL fun n gU=>ai .i64 gU fun nJ iT=>ai .i64 iT fun jf iU=>ar iU (mZ r.1 none fun j=>aP (Wq j 4) (aA (Zq (0<=n)&&Zq (n<(↑(Zy y):Int))&&Yv) (aA (Yw (Zw n) (Zy y)&&Yv) (Yk .u64 (Zg y (Zw n) Yu) fun bS=>aA (Zq (0<=jf)&&Zq (jf<(↑(Zy y):Int))&&Yv) (aA (Yw (Zw jf) (Zy y)&&Yv) (Yk .u64 (Zg y (Zw jf) Yu) fun jP=>aA (Zq (0<=jf)&&Zq (jf<(↑(Zy y):Int))&&Yv) (aA (Yw (Zw jf) (Zy y)&&Yv) (Yk .u64 (Zg y (Zw jf) Yu) fun gI=>aA (Zy [Zz .u64 bS]==nat_lit 1&&Yv&&Yv&&Yv&&Yw (Zw jf) (Zy y)) (aA (Zq (0<=n)&&Zq (n<(↑(Zy (Yy y (Zw jf) (Zz .u64 bS))):Int))&&Yv) (aA (Yw (Zw n) (Zy (Yy y (Zw jf) (Zz .u64 bS)))&&Yv) (Yk .u64 (Zg (Yy y (Zw jf) (Zz .u64 bS)) (Zw n) Yu) fun ep=>aA (Zy [Zz .u64 jP]==nat_lit 1&&Yv&&Yv&&Yv&&Yw (Zw n) (Zy (Yy y (Zw jf) (Zz .u64 bS)))) (Yx (Yz [Zz .i64 jf,Zd Yp],[Yy (Yy y (Zw jf) (Zz .u64 bS)) (Zw n) (Zz .u64 jP)])))))))))))) none))))))))))))) none)) none)))))))))))) ?_
 dsimp only[ai];simp only[Zh,Qa2] at aO;obtain⟨⟨⟨⟨⟨⟨ib,hlen⟩,Jy⟩,xk⟩,hb⟩,WG⟩,hpb⟩:=aO;obtain⟨d,rfl,hd⟩:=Kerb.nw ib;simp only[Xz] at hlen hb;obtain⟨a,rfl⟩:=Zm (show 0<=a by omega);obtain⟨b,rfl⟩:=Zm (show 0<=b by omega);obtain⟨p,rfl⟩:=Zm (show 0<=p by omega);have h1:a<d.size:=by omega
 have h2:p<d.size:=by omega
 have hs:(Go.Sort.swp d a p).size=d.size:=Xy _ _ _;rw[Kerb.Cf];unfold Go.Sort.partition;rw[Xw h2,Xw h1,Xg h1 (by simp[Xz];omega),Xb,Xg (by rw[Yh];exact h2) (by simp[Xz];omega),Xb,show(Yj (Yj d a d[p]!) p d[a]!)=Go.Sort.swp d a p from rfl];rw[show Zv .i64 ((a:Int)+1)=((a+1:Nat):Int) from(Yf (by omega) (by omega)).trans (by omega),show Zv .i64 ((b:Int)-1)=((b-1:Nat):Int) from(Yf (by omega) (by omega)).trans (by omega)];generalize Go.Sort.swp d a p=d1 at hs ⊢;rw[Kerb.MN (by omega) (by omega) (by omega) (by omega)];dsimp only;have u:=Go.Sort.scanUp_spec (fun x=>Go.Sort.ltInt x d1[a]!) d1 (b-1) _ (a+1) rfl;generalize Go.Sort.scanUp (fun x=>Go.Sort.ltInt x d1[a]!) d1 (b-1) (a+1)=i2 at u ⊢;simp only[↓cq,↓c4,↓dE,↓dF,↓lX];rw[ah (Xu _)];rw[Kerb.DR (by omega) (by omega) (by omega) (by omega)];dsimp only;have v:=Go.Sort.scanDown_spec (fun x => !Go.Sort.ltInt x d1[a]!) d1 i2 (b-1);generalize Go.Sort.scanDown (fun x => !Go.Sort.ltInt x d1[a]!) d1 i2 (b-1)=j2 at v ⊢;simp only[↓cq,↓c4,↓dE,↓dF,↓lX];rw[ah (Xu _)];have w2:=u.2.1 (by omega);have v1:=v.1;have v2:=v.2.1 (by omega);have u1:=u.1;by_cases hc:i2>j2
 ·have h3:j2<d1.size:=by omega
  have h4:a<d1.size:=by omega
  rw[ah (by simp;omega)];rw[Xw h4,Xw h3,Xg h3 (by simp[Xz];omega),Xb,Xg (by rw[Yh];exact h4) (by simp[Xz];omega),Xb,show(Yj (Yj d1 j2 d1[a]!) a d1[j2]!)=Go.Sort.swp d1 j2 a from rfl];rw[Qa1 hc]
 have h3:i2<d1.size:=by omega
 have h4:j2<d1.size:=by omega
 rw[aq (by simp;omega),Qa0 hc];rw[Xw h4,Xw h3,Xg h3 (by simp[Xz];omega),Xb,Xg (by rw[Yh];exact h4) (by simp[Xz];omega),Xb,show(Yj (Yj d1 i2 d1[j2]!) j2 d1[i2]!)=Go.Sort.swp d1 i2 j2 from rfl];rw[show Zv .i64 ((i2:Int)+1)=((i2+1:Nat):Int) from(Yf (by omega) (by omega)).trans (by omega),show Zv .i64 ((j2:Int)-1)=((j2-1:Nat):Int) from(Yf (by omega) (by omega)).trans (by omega)];have gX:(Go.Sort.swp d1 i2 j2).size=d.size:=by rw[Xy,hs]
 generalize Go.Sort.swp d1 i2 j2=d2 at gX ⊢;refine dq (fun s:Array Int×Nat×Nat=>[Yn (Xh s.1),Zz .i64 (a:Int),Zz .i64 (s.2.1:Int),Zz .i64 (s.2.2:Int)]) (fun s=>s.1.size=d.size/\1<=s.2.1/\s.2.1<=s.2.2+2/\s.2.2<d.size/\Go.Sort.partLoop Go.Sort.ltInt a s.2.1 s.2.2 s.1=Go.Sort.partLoop Go.Sort.ltInt a (i2+1) (j2-1) d2) (fun s=>s.2.2+1-s.2.1) (fun r=>∃ n,r=(.exit 4,[Yn (Xh (Go.Sort.partLoop Go.Sort.ltInt a (i2+1) (j2-1) d2).2),Zz .i64 (a:Int),Zz .i64 n,Zz .i64 ((Go.Sort.partLoop Go.Sort.ltInt a (i2+1) (j2-1) d2).1:Int)])/\(Go.Sort.partLoop Go.Sort.ltInt a (i2+1) (j2-1) d2).1<d.size/\(Go.Sort.partLoop Go.Sort.ltInt a (i2+1) (j2-1) d2).2.size=d.size) (d2,i2+1,j2-1) ⟨gX,by dsimp only;omega,by dsimp only;omega,by dsimp only;omega,rfl⟩ rfl ?_ ?_
 ·rintro⟨e,i,j⟩ ⟨hs,hi,Tm,hj,hr⟩;dsimp only at hs hi Tm hj hr ⊢;simp only[↓cq,↓c4,↓dE,↓dF];rw[Kerb.MN (by omega) (by omega) (by omega) (by omega)];dsimp only;have u:=Go.Sort.scanUp_spec (fun x=>Go.Sort.ltInt x e[a]!) e j _ i rfl;have v:=Go.Sort.scanDown_spec (fun x => !Go.Sort.ltInt x e[a]!) e (Go.Sort.scanUp (fun x=>Go.Sort.ltInt x e[a]!) e j i) j;rw[Go.Sort.partLoop_eq] at hr;have hup:j+1<i->Go.Sort.scanUp (fun x=>Go.Sort.ltInt x e[a]!) e j i=i:=fun h=>by
   unfold Go.Sort.scanUp;rw[Qa0 (by simp;omega)]
  generalize Go.Sort.scanUp (fun x=>Go.Sort.ltInt x e[a]!) e j i=i3 at u v hr hup ⊢;simp only[↓cq,↓c4,↓dE,↓dF,↓lX];rw[ah (Xu _)];have u1:=u.1;have u2:=u.2.1;rw[Kerb.DR (by omega) (by omega) (by omega) (by omega)];dsimp only;generalize Go.Sort.scanDown (fun x => !Go.Sort.ltInt x e[a]!) e i3 j=j3 at v hr ⊢;simp only[↓cq,↓c4,↓dE,↓dF,↓lX];rw[ah (Xu _)];have v1:=v.1;have v2:=v.2.1;by_cases hc:i3>j3
  ·rw[Qa1 hc] at hr;rw[ah (by simp;omega)];refine⟨_,rfl,(i3:Int),?_,?_,?_⟩
   ·rw[<-hr]
   ·rw[<-hr];dsimp only;omega
   ·rw[<-hr];exact hs
  ·rw[Qa0 hc] at hr;have h3:i3<e.size:=by omega
   have h4:j3<e.size:=by omega
   rw[aq (by simp;omega)];rw[Xw h4,Xw h3,Xg h3 (by simp[Xz];omega),Xb,Xg (by rw[Yh];exact h4) (by simp[Xz];omega),Xb,show(Yj (Yj e i3 e[j3]!) j3 e[i3]!)=Go.Sort.swp e i3 j3 from rfl];rw[show Zv .i64 ((i3:Int)+1)=((i3+1:Nat):Int) from(Yf (by omega) (by omega)).trans (by omega),show Zv .i64 ((j3:Int)-1)=((j3-1:Nat):Int) from(Yf (by omega) (by omega)).trans (by omega)];exact⟨_,rfl,(Go.Sort.swp e i3 j3,i3+1,j3-1),rfl,⟨by dsimp only;rw[Xy,hs],by dsimp only;omega,by dsimp only;omega,by dsimp only;omega,hr⟩,by dsimp only;omega⟩
 ·rintro _ ⟨n,rfl,hn,hz⟩;generalize Go.Sort.partLoop Go.Sort.ltInt a (i2+1) (j2-1) d2=q at hn hz ⊢;obtain⟨j4,e⟩:=q;dsimp only at hn hz ⊢;have h3:j4<e.size:=by omega
  have h4:a<e.size:=by omega
  simp only[↓cq,↓c4,↓dE,↓dF,↓lX];rw[ah (Xu _)];rw[Xw h4,Xw h3,Xg h3 (by simp[Xz];omega),Xb,Xg (by rw[Yh];exact h4) (by simp[Xz];omega),Xb,show(Yj (Yj e j4 e[a]!) a e[j4]!)=Go.Sort.swp e j4 a from rfl]
theorem ahO:Wk 230 3 CM:=by
 refine gi Tryz.func230 fun _ _ _ h=> ?_;unfold CM at h;split at h;case h_2=>cases h
 rename_i k;obtain⟨aO,rfl⟩:=hZ h;refine il (Zx (nT [Zz .u64 k] []) (kL fun b=>aP (!b) (Yx (Zz .i64 0,[])) (Yx (Zz .i64 (Zv .i64 (Int.fdiv k (2 ^ min (Zw 56) (Yb .u64)))),[])))) ?_;delta kL;dsimp only[nT,bB,cP,ak,jz,ai,ef,iX];simp only[aO,↓A0,A0];unfold Kerb.jK;cases hk:Kerb.bW k
 ·rfl
 simp only[Zj,Bool.not_false,gn,aR];simp only[Zh,Qa2] at aO;have h7:(min (Zw 56) (Yb .u64))=56:=rfl;rw[h7,Int.fdiv_eq_ediv_of_nonneg _ (by decide),wrap_i64 (by omega) (by omega)];rfl
theorem ah5:Wk 258 3 EL:=by
 refine gi Tryz.func258 fun _ _ _ h=> ?_;unfold EL at h;split at h;case h_2=>cases h
 rename_i lo hi first els
 obtain⟨aO,rfl⟩:=hZ h;refine Dp [0] (Zx (bH (fun st=>az st fun x r=>Ww x fun y=>ai .i64 r fun n r=>ai .i64 r fun cV r=>ai .i64 r fun eE r=>let t1:Bool:=Zq (0<=Zv .i64 (cV+eE))&&Zq (Zv .i64 (cV+eE)<(↑(Zy y):Int))&&Yv;let t5:AV:=Zg y (Zw (Zv .i64 (cV+eE))) Yu;let t7:Int:=Zv .i64 (Zv .i64 (2*eE)+1);let t10:Bool:=Yw (Zw (Zv .i64 (cV+eE))) (Zy y);let t11:List AV:=[Yn y,Zz .i64 n,Zz .i64 cV,Zz .i64 eE];let t3:Int:=Zv .i64 (cV+t7);let t4:Bool:=t10&&Yv;let t6:Int:=Zv .i64 (t7+1);let t9:Option (List AV ⊕ Ex×List AV):=Yx (Xj (Ex.ret,t11));let t2:Int:=Zv .i64 (cV+t6);let t8:Bool:=Zq (0<=t3)&&Zq (t3<(↑(Zy y):Int))&&Yv;let t0:Option (List AV ⊕ Ex×List AV):=aA t1 (aA t4 (Yk .u64 t5 fun ig=>aA t8 (aA (Yw (Zw t3) (Zy y)&&Yv) (Yk .u64 (Zg y (Zw t3) Yu) fun dk=>aP (!Zq (ig<dk)) t9 (aA t8 (aA (Yw (Zw t3) (Zy y)&&Yv) (Yk .u64 (Zg y (Zw t3) Yu) fun cK=>aA t1 (aA t4 (Yk .u64 t5 fun g7=>aA t1 (aA t4 (Yk .u64 t5 fun gY=>aA (Zy [Zz .u64 cK]==nat_lit 1&&Yv&&Yv&&Yv&&t10) (aA (Zq (0<=t3)&&Zq (t3<(↑(Zy (Yy y (Zw (Zv .i64 (cV+eE))) (Zz .u64 cK))):Int))&&Yv) (aA (Yw (Zw t3) (Zy (Yy y (Zw (Zv .i64 (cV+eE))) (Zz .u64 cK)))&&Yv) (Yk .u64 (Zg (Yy y (Zw (Zv .i64 (cV+eE))) (Zz .u64 cK)) (Zw t3) Yu) fun kC=>aA (Zy [Zz .u64 g7]==nat_lit 1&&Yv&&Yv&&Yv&&Yw (Zw t3) (Zy (Yy y (Zw (Zv .i64 (cV+eE))) (Zz .u64 cK)))) (Yx (Xd [Yn (Yy (Yy y (Zw (Zv .i64 (cV+eE))) (Zz .u64 cK)) (Zw t3) (Zz .u64 g7)),Zz .i64 n,Zz .i64 cV,Zz .i64 t7]))))))))))))))));ar r (aP (Zq (t7>=n)) (Yx (Xj (Xf 0,t11))) (aP (Zq (t6<n)) (aA t8 (aA (Yw (Zw t3) (Zy y)&&Yv) (Yk .u64 (Zg y (Zw t3) Yu) fun ig=>aA (Zq (0<=Zv .i64 (t3+1))&&Zq (Zv .i64 (t3+1)<(↑(Zy y):Int))&&Yv) (aA (Yw (Zw (Zv .i64 (t3+1))) (Zy y)&&Yv) (Yk .u64 (Zg y (Zw (Zv .i64 (t3+1))) Yu) fun dk=>aP (Zq (ig<dk)) (aA t1 (aA t4 (Yk .u64 t5 fun cK=>aA (Zq (0<=t2)&&Zq (t2<(↑(Zy y):Int))&&Yv) (aA (Yw (Zw t2) (Zy y)&&Yv) (Yk .u64 (Zg y (Zw t2) Yu) fun g7=>aP (!Zq (cK<g7)) t9 (aA (Zq (0<=t2)&&Zq (t2<(↑(Zy y):Int))&&Yv) (aA (Yw (Zw t2) (Zy y)&&Yv) (Yk .u64 (Zg y (Zw t2) Yu) fun gY=>let t12:List AV:=Yy y (Zw (Zv .i64 (cV+eE))) (Zz .u64 gY);aA t1 (aA t4 (Yk .u64 t5 fun kC=>aA t1 (aA t4 (Yk .u64 t5 fun qH=>aA (Zy [Zz .u64 gY]==nat_lit 1&&Yv&&Yv&&Yv&&t10) (aA (Zq (0<=t2)&&Zq (t2<(↑(Zy t12):Int))&&Yv) (aA (Yw (Zw t2) (Zy t12)&&Yv) (Yk .u64 (Zg t12 (Zw t2) Yu) fun um=>aA (Zy [Zz .u64 kC]==nat_lit 1&&Yv&&Yv&&Yv&&Yw (Zw t2) (Zy t12)) (Yx (Xd [Yn (Yy t12 (Zw t2) (Zz .u64 kC)),Zz .i64 n,Zz .i64 cV,Zz .i64 t6]))))))))))))))))) t0))))) t0))) [Yn els,Zz .i64 hi,Zz .i64 first,Zz .i64 lo]) fun(r:Ex×List AV)=>az (Yq r) fun x fA=>Ww x fun y=>ai .i64 fA fun n fP=>ai .i64 fP fun n gj=>ai .i64 gj fun n iV=>ar iV (mZ r.1 (Yx (Yz [],[y])) fun j=>aP (Wq j 0) (Yx (Yz [],[y])) none)) ?_;try dsimp only[bB,cP,ak,jz,ai,ef,iX]
 simp only[Zh,Qa2] at aO;obtain⟨⟨⟨⟨⟨⟨ib,hlen⟩,afS⟩,afI⟩,hf0⟩,hfh⟩,afT⟩:=aO;obtain⟨d,rfl,hd⟩:=Kerb.nw ib;simp only[Xz] at hlen hfh afT;unfold Kerb.sift;rw[hd];obtain⟨lo,rfl⟩:=Zm afS;obtain⟨hi,rfl⟩:=Zm afI;obtain⟨first,rfl⟩:=Zm hf0;simp only[Yg];refine dq (fun s:Array Int×Nat=>[Yn (Xh s.1),Zz .i64 (hi:Int),Zz .i64 (first:Int),Zz .i64 (s.2:Int)]) (fun s=>s.1.size=d.size/\s.2<=d.size/\Go.Sort.siftDown Go.Sort.ltInt hi first s.2 s.1=Go.Sort.siftDown Go.Sort.ltInt hi first lo d) (fun s=>hi-s.2) (fun r=>∃ n m k,(r.1 = .exit 0\/r.1 = .ret)/\r.2=[Yn (Xh (Go.Sort.siftDown Go.Sort.ltInt hi first lo d)),Zz .i64 n,Zz .i64 m,Zz .i64 k]) (d,lo) ⟨rfl,by dsimp only;omega,rfl⟩ rfl ?_ ?_
 ·rintro⟨e,root⟩ ⟨hs,hb,hr⟩;dsimp only at hs hb hr ⊢;simp only[↓cq,↓c4,↓dE,↓dF];simp only[show Zv .i64 ((2:Int)*(root:Int))=((2*root:Nat):Int) from(Yf (by omega) (by omega)).trans (by omega)];simp only[show Zv .i64 (((2*root:Nat):Int)+1)=((2*root+1:Nat):Int) from(Yf (by omega) (by omega)).trans (by omega)];simp only[show Zv .i64 (((2*root+1:Nat):Int)+1)=((2*root+1+1:Nat):Int) from(Yf (by omega) (by omega)).trans (by omega)];simp only[show Zv .i64 ((first:Int)+(root:Int))=((first+root:Nat):Int) from(Yf (by omega) (by omega)).trans (by omega)];simp only[show Zv .i64 ((first:Int)+((2*root+1:Nat):Int))=((first+(2*root+1):Nat):Int) from(Yf (by omega) (by omega)).trans (by omega)];simp only[show Zv .i64 ((first:Int)+((2*root+1+1:Nat):Int))=((first+(2*root+1+1):Nat):Int) from(Yf (by omega) (by omega)).trans (by omega)];simp only[show Zv .i64 (((first+(2*root+1):Nat):Int)+1)=((first+(2*root+1)+1:Nat):Int) from(Yf (by omega) (by omega)).trans (by omega)];by_cases hc:hi<=2*root+1
  ·rw[ah (by simp;omega)];refine⟨_,rfl,(hi:Int),(first:Int),(root:Int),.inl rfl,?_⟩;rw[<-hr];unfold Go.Sort.siftDown;rw[dif_pos hc]
  rw[aq (by simp;omega)];by_cases h2:2*root+1+1<hi
  ·have h3:first+(2*root+1)<e.size:=by omega
   have h4:first+(2*root+1)+1<e.size:=by omega
   rw[ah (by simp;omega),Xw h3,Xw h4];by_cases h5:e[first+(2*root+1)]! < e[first+(2*root+1)+1]!
   ·rw[ah (by simpa using h5)];have hq:first+(2*root+1+1)<e.size:=by omega
    have hp:first+root<e.size:=by omega
    rw[Xw hp,Xw hq];by_cases hl:e[first+root]! < e[first+(2*root+1+1)]!;case neg =>
     rw[ah (by simpa using hl)];refine⟨_,rfl,(hi:Int),(first:Int),(root:Int),.inr rfl,?_⟩;rw[<-hr];unfold Go.Sort.siftDown;rw[dif_neg (by omega),Qa1 (by simp[Go.Sort.ltInt,h5];omega),Qa1 (by simp[Go.Sort.ltInt,hl])]
    rw[aq (by simpa using hl),Kerb.sw hp hq (fun l=>Yx (Xd [Yn l,Zz .i64 (hi:Int),Zz .i64 (first:Int),Zz .i64 (((2*root+1+1):Nat):Int)]))];refine⟨_,rfl,(Go.Sort.swp e (first+root) (first+(2*root+1+1)),(2*root+1+1)),rfl,⟨by dsimp only;rw[Xy,hs],by dsimp only;omega,?_⟩,by dsimp only;omega⟩;dsimp only;rw[<-hr];conv=>rhs;unfold Go.Sort.siftDown
    rw[dif_neg (by omega),Qa1 (by simp[Go.Sort.ltInt,h5];omega),Qa0 (by simp[Go.Sort.ltInt,hl]),dif_pos (by omega)]
   ·rw[aq (by simpa using h5)];have hq:first+(2*root+1)<e.size:=by omega
    have hp:first+root<e.size:=by omega
    rw[Xw hp,Xw hq];by_cases hl:e[first+root]! < e[first+(2*root+1)]!;case neg =>
     rw[ah (by simpa using hl)];refine⟨_,rfl,(hi:Int),(first:Int),(root:Int),.inr rfl,?_⟩;rw[<-hr];unfold Go.Sort.siftDown;rw[dif_neg (by omega),Qa0 (by simp[Go.Sort.ltInt,h5]),Qa1 (by simp[Go.Sort.ltInt,hl])]
    rw[aq (by simpa using hl),Kerb.sw hp hq (fun l=>Yx (Xd [Yn l,Zz .i64 (hi:Int),Zz .i64 (first:Int),Zz .i64 (((2*root+1):Nat):Int)]))];refine⟨_,rfl,(Go.Sort.swp e (first+root) (first+(2*root+1)),(2*root+1)),rfl,⟨by dsimp only;rw[Xy,hs],by dsimp only;omega,?_⟩,by dsimp only;omega⟩;dsimp only;rw[<-hr];conv=>rhs;unfold Go.Sort.siftDown
    rw[dif_neg (by omega),Qa0 (by simp[Go.Sort.ltInt,h5]),Qa0 (by simp[Go.Sort.ltInt,hl])]
  ·rw[aq (by simp;omega)];have hq:first+(2*root+1)<e.size:=by omega
   have hp:first+root<e.size:=by omega
   rw[Xw hp,Xw hq];by_cases hl:e[first+root]! < e[first+(2*root+1)]!;case neg =>
    rw[ah (by simpa using hl)];refine⟨_,rfl,(hi:Int),(first:Int),(root:Int),.inr rfl,?_⟩;rw[<-hr];unfold Go.Sort.siftDown;rw[dif_neg (by omega),Qa0 (by simp;omega),Qa1 (by simp[Go.Sort.ltInt,hl])]
   rw[aq (by simpa using hl),Kerb.sw hp hq (fun l=>Yx (Xd [Yn l,Zz .i64 (hi:Int),Zz .i64 (first:Int),Zz .i64 (((2*root+1):Nat):Int)]))];refine⟨_,rfl,(Go.Sort.swp e (first+root) (first+(2*root+1)),(2*root+1)),rfl,⟨by dsimp only;rw[Xy,hs],by dsimp only;omega,?_⟩,by dsimp only;omega⟩;dsimp only;rw[<-hr];conv=>rhs;unfold Go.Sort.siftDown
   rw[dif_neg (by omega),Qa0 (by simp;omega),Qa0 (by simp[Go.Sort.ltInt,hl])]
 ·rintro⟨e,l⟩ ⟨n,m,k,h1 | h1,rfl⟩
  ·dsimp only at h1;subst h1;simp only[↓cq,↓c4,↓dE,↓dF,↓lX];rw[ah (Xu _)]
  ·dsimp only at h1;subst h1;simp only[↓cq,↓c4,↓dE,↓dF,↓TX]
theorem ah6:Wk 259 3 IZ:=by
 refine gi Tryz.func259 fun _ _ _ h=> ?_;unfold IZ at h;split at h;case h_2=>cases h
 rename_i n;obtain⟨aO,rfl⟩:=hZ h;refine il (Zx (CL [Zz .u64 (Zv .u64 n)] []) (kI .i64 fun n=>aA (Zq (0<=n)) (Yx (Zz .u64 (Zv .u64 (1*2 ^ min (Zw n) (Yb .u64))),[])))) ?_;delta kI;dsimp only[CL,bB,cP,ak,jz,ai,ef,iX];simp only[Zh,Qa2] at aO;obtain⟨h0,h1⟩:=aO;obtain⟨n,rfl⟩:=Zm h0;rw[Kerb.OL (n:=(n:Int)) (by omega) (by omega),ae (by rw[Kerb.FX];simp;omega)];simp only[↓gx,↓fm,↓cq,↓g8,↓lF,↓dE,↓dF,↓dX];rw[Kerb.BT,ae (by simp)];exact Qb5 (fun z=>Yx (Zz .u64 z,[])) (Kerb.NS (by omega))
theorem aih:Wk 304 3 I7:=by
 refine gi Tryz.func304 fun _ _ _ h=> ?_;unfold I7 at h;split at h;case h_2=>cases h
 rename_i lb t st en k;obtain⟨aO,rfl⟩:=hZ h;refine il (let t5:Option (AV×aZ):=Yx (Yz [AV.fO [],Zz .i64 104],[]);let t6:Bool:=lb==[(103:UInt8),(84:UInt8),(75:UInt8),(84:UInt8)];let t7:Option (AV×aZ):=Yx (Yz [AV.fO [],Zz .i64 108],[]);let t4:Option (AV×aZ):=Zx (gQ [Zu lb,Zz .i64 t,Zd Yp] []) (kO fun l=>aP t6 (Zx (gQ [Zu l,Zz .i64 st,Zd Yp] []) (kO fun l=>Zx (gQ [Zu l,Zz .i64 en,Zd Yp] []) (kO fun l=>Zx (mK [Zu l] []) (kO fun l=>Yx (Yz [AV.fO l,Zz .i64 0],[]))))) (Zx (o_ [Zz .u64 k] []) (kB fun b=>aA (room (Zy l+Zy b) 1) (Zx (mK [Zu (l++b)] []) (kO fun l=>Yx (Yz [AV.fO l,Zz .i64 0],[]))))));let t3:Option (AV×aZ):=aP (!t6) (aP (!st==0) t7 (aP (!en==0) t7 t4)) t4;let t2:Option (AV×aZ):=aP t6 (aP (!k==0) t7 t3) t3;let t1:Option (AV×aZ):=aP (!t6) (Zx (nT [Zz .u64 k] []) (kL fun b=>aP (!b) (Yx (Yz [AV.fO [],Zz .i64 10],[])) t2)) t2;let t0:Option (AV×aZ):=aP (!Zp t 4294967295) t5 (aP t6 (aP (!Zp st 4294967295) t5 (aP (!Zp en 4294967295) t5 t1)) t1);aP (lb==[(103:UInt8),(84:UInt8),(71:UInt8),(83:UInt8)]) (aP (!Zp t 4294967295) t5 (aP (!Zp st 4294967295) t5 (aP (!Zp en 4294967295) t5 (aP (!k==0) t7 (Zx (gQ [Zu lb,Zz .i64 t,Zd Yp] []) (kO fun l=>Zx (gQ [Zu l,Zz .i64 st,Zd Yp] []) (kO fun l=>Zx (gQ [Zu l,Zz .i64 en,Zd Yp] []) (kO fun l=>Zx (mK [Zu l] []) (kO fun l=>Yx (Yz [AV.fO l,Zz .i64 0],[])))))))))) (aP (!t6) (aP (!lb==[(67:UInt8),(80:UInt8),(87:UInt8),(108:UInt8)]) (Yx (Yz [AV.fO [],Zz .i64 80],[])) t0) t0)) ?_;delta kB kO kL;dsimp only[nT,gQ,o_,mK,bB,cP,ak,jz,ai,ef,iX];have S8:([103,84,71,83]:List UInt8)=Kerb.Aq:=rfl;have LH:([103,84,75,84]:List UInt8)=Kerb.oD:=rfl;have PI:([67,80,87,108]:List UInt8)=Kerb.gD:=rfl;have G3:([67,80,87,100]:List UInt8)=Kerb.nl:=rfl;have S9:([116,103,115,84]:List UInt8)=Kerb.FJ:=rfl;have Fk:([116,107,116,71]:List UInt8)=Kerb.vd:=rfl;simp only[A0,PI,S8,LH,aO];unfold Kerb.bR;simp only;cases hg:(lb==Kerb.Aq);case true =>
  have ht:Kerb.py lb=Yv:=by simp[Kerb.py,hg]
  have hl:lb.length=4:=by rw[Qb0 hg];rfl
  simp only[ht,gn,Zj,Bool.false_and];rw[Qa0 (by simp)];cases h1:Zp t 4294967295
  ·rfl
  rw[Zj,aR,Qa0 (by simp),Qa1 trivial];cases h2:Zp st 4294967295
  ·rfl
  rw[Zj,aR];cases h3:Zp en 4294967295
  ·rfl
  rw[Zj,aR,Qa0 (by simp)];by_cases h4:k=0;case neg=>rw[ah (by simpa using h4),Qa1 h4]
  rw[aq (by simp[h4]),Qa0 (by simp[h4]),ae (by simp;omega),ae (by simp[Zf];omega),ae (by simp[Zf];omega),ae (by simp[Zf];omega)]
 cases hk:(lb==Kerb.oD);case true =>
  have ht:Kerb.py lb=Yv:=by simp[Kerb.py,hk]
  have hl:lb.length=4:=by rw[Qb0 hk];rfl
  simp only[ht,gn,aR,Zj,Bool.false_and];rw[Qa0 (by simp)];cases h1:Zp t 4294967295
  ·rfl
  rw[Zj,aR,Qa0 (by simp),Qa1 trivial];cases h2:Zp st 4294967295
  ·rfl
  rw[Zj,aR];cases h3:Zp en 4294967295
  ·rfl
  rw[Zj,aR,Qa0 (by simp)];by_cases h4:k=0;case neg=>rw[ah (by simpa using h4),Qa1 h4]
  rw[aq (by simp[h4]),Qa0 (by simp[h4]),ae (by simp;omega),ae (by simp[Zf];omega),ae (by simp[Zf];omega),ae (by simp[Zf];omega)]
 have ht:Kerb.py lb=Yp:=by simp[Kerb.py,hg,hk]
 simp only[ht,gn,aR,Bool.not_false,Wy];cases hc:(lb==Kerb.gD)
 ·rfl
 have hl:lb.length=4:=by rw[Qb0 hc];rfl
 rw[Zj,aR,Qa0 (by simp)];cases h1:Zp t 4294967295
 ·rfl
 rw[Zj,aR,Qa0 (by simp),Qa0 (by simp)];cases h2:Kerb.bW k
 ·rfl
 rw[Zj,aR,Qa0 (by simp)];by_cases h3:st=0;case neg=>rw[ah (by simpa using h3),Qa1 (.inl h3)]
 rw[aq (by simp[h3])];by_cases h4:en=0;case neg=>rw[ah (by simpa using h4),Qa1 (.inr h4)]
 rw[aq (by simp[h4]),Qa0 (by simp[h3,h4]),ae (by simp;omega),ae (Xq (by simp[Zf,Zb];omega)),ae (by simp[Zf,Zb];omega)]
theorem aij:Wk 308 3 RL:=by
 refine gi Tryz.func308 fun _ _ _ h=> ?_;unfold RL at h;split at h;case h_2=>cases h
 rename_i b little;obtain⟨aO,rfl⟩:=hZ h;refine il (aP little (Zx (gV [Zu b,Zz .i64 1] []) (kO fun l=>Yx (AV.fO l,[]))) (Zx (gV [Zu b,Zz .i64 0] []) (kO fun l=>Yx (AV.fO l,[])))) ?_;delta kO;dsimp only[gV,bB,cP,ak,jz,ai,ef,iX];simp only[A0];rw[ae aO,ae aO];cases little<;>rfl
theorem ail:Wk 338 3 nU:=by
 refine gi Tryz.func338 fun _ _ _ h=> ?_;unfold nU at h;split at h;case h_2=>cases h
 rename_i B at_ li bad;obtain⟨aO,rfl⟩:=hZ h;refine Dp [0] (Zx (px [Xk 0 0] [(0,[Zu B,Zz .i64 at_,Zd li,Zd bad])]) fun r=>aH (Yq r) fun x fA=>cP x fun b fP=>ai .i64 fP fun n gj=>ak gj fun fS iV=>ak iV fun l6 j7=>ar j7 (aJ fA (AV.fc (Yd r) fun lO=>Zx (px [Xk 0 0] [(0,[Zu b,Zz .i64 n,Zd fS,Zd l6])]) fun r=>aH (Yq r) fun x kH=>cP x fun b nz=>ai .i64 nz fun n nK=>ak nK fun lI nL=>ak nL fun qu gU=>ar gU (aJ kH (AV.fc (Yd r) fun pC=>Zx (px [Xk 0 0] [(0,[Zu b,Zz .i64 n,Zd lI,Zd qu])]) fun r=>aH (Yq r) fun x iT=>cP x fun b iU=>ai .i64 iU fun n jC=>ak jC fun nN jT=>ak jT fun tS jU=>ar jU (aJ iT (AV.fc (Yd r) fun ra=>Yx (Xx [Zk lO,Zk pC,Zk ra],[[Zu b,Zz .i64 n,Zd nN,Zd tS]])))))))) ?_;dsimp only[px,bB,cP,ak,jz,ai,ef,iX];simp only[A0];rw[ae aO,ae aO,ae aO];rfl
theorem air:Wk 345 3 RN:=by
 refine gi Tryz.func345 fun _ _ _ h=> ?_;unfold RN at h;split at h;case h_2=>cases h
 rename_i s li;cases h;refine il (aP (Zq ((↑(Zy s):Int)>1012)) (Yx (Yz [Zu [],Zz .i64 105],[])) (Zx (pu [Zu (Xm 8 li),Zz .i64 (↑(Zy s):Int),Zd li] []) (kO fun l=>aA (room (Zy l+Zy s) 1) (Yx (Yz [Zu (l++s),Zz .i64 0],[]))))) ?_;delta kO;dsimp only[pu,bB,cP,ak,jz,ai,ef,iX];unfold Kerb.dC;by_cases h:1012<s.length
 ·rw[ah (by simp;omega),Qa1 h]
 rw[aq (by simp;omega),Qa0 h];have hl:(Xm 8 li).length=2:=by cases li<;>rfl
 simp only[↓A0];rw[ae (by simp[hl]),ae (by simp[room,Zf,hl];omega)]
theorem ais:Wk 346 3 CO:=by
 refine gi Tryz.func346 fun _ _ _ h=> ?_;unfold CO at h;split at h;case h_2=>cases h
 rename_i a b els s;obtain⟨aO,rfl⟩:=hZ h;refine Dp [0,3] (aA (Zq (0<=b)&&Zq (b<(↑(Zy els):Int))&&Yv) (aA (Yw (Zw b) (Zy els)&&Yv) (Yk .u64 (Zg els (Zw b) Yu) fun n=>aA (Zq (0<=a)&&Zq (a<(↑(Zy els):Int))&&Yv) (aA (Yw (Zw a) (Zy els)&&Yv) (Yk .u64 (Zg els (Zw a) Yu) fun cV=>aP (Zq (n<cV)) (Yx (Yz [Zz .i64 b,Zz .i64 a],[els,[Zz .i64 (Zv .i64 (s+1))]])) (Yx (Yz [Zz .i64 a,Zz .i64 b],[els,[Zz .i64 s]]))))))) ?_;simp only[Zh,Qa2] at aO;obtain⟨⟨⟨⟨⟨⟨⟨ib,hlen⟩,Jy⟩,WD⟩,Nd⟩,vN⟩,FD⟩,lk⟩:=aO;obtain⟨d,rfl,hd⟩:=Kerb.nw ib;simp only[Xz] at *;obtain⟨a,rfl⟩:=Zm Jy;obtain⟨b,rfl⟩:=Zm Nd;obtain⟨s,rfl⟩:=Zm FD;have ha:a<d.size:=by omega
 have hb:b<d.size:=by omega
 simp only[Yg];rw[ae (by simp;omega),ae (by simp;omega),Kerb.Bf hb,dE,ae (by simp;omega),ae (by simp;omega),Kerb.Bf ha,dE];unfold Kerb.order2 Go.Sort.order2 Go.Sort.ltInt;rw[hd];simp only[Yg];by_cases h:d[b]! < d[a]!
 ·rw[ah (by simpa using h),Qa1 (by simpa using h),Yf (by omega) (by omega)];rfl
 ·rw[aq (by simpa using h),Qa0 (by simpa using h)]
theorem aiv:Wk 400 3 I_:=by
 refine gi Tryz.func400 fun _ _ _ h=> ?_;unfold I_ at h;split at h;case h_2=>cases h
 rename_i b pos little;obtain⟨aO,rfl⟩:=hZ h;refine il (Zx (yy [Zu b,Zz .i64 pos,Zz .i64 4,Zd little] []) (kT fun vs=>ai .i64 vs fun n r=>ai .i64 r fun cV r=>ai .i64 r fun eE r=>ar r (Yx (Yz [Zz .i64 n,Zz .i64 cV,Zz .i64 eE],[])))) ?_;delta kT;dsimp only[yy,bB,cP,ak,jz,ai,ef,iX];simp only[A0];rw[ae (by rw[aO];rfl)]
theorem aix:Wk 402 3 I':=by
 refine gi Tryz.func402 fun _ _ _ h=> ?_;unfold I' at h;split at h;case h_2=>cases h
 rename_i b pos;obtain⟨aO,rfl⟩:=hZ h;refine il (Zx (yy [Zu b,Zz .i64 pos,Zz .i64 1,Zd Yp] []) (kT fun vs=>ai .i64 vs fun n r=>ai .i64 r fun cV r=>ai .i64 r fun eE r=>ar r (Yx (Yz [Zz .i64 n,Zz .i64 cV,Zz .i64 eE],[])))) ?_;delta kT;dsimp only[yy,bB,cP,ak,jz,ai,ef,iX];simp only[A0];rw[ae (by rw[aO];rfl)]
theorem aiy:Wk 403 3 Ja:=by
 refine gi Tryz.func403 fun _ _ _ h=> ?_;unfold Ja at h;split at h;case h_2=>cases h
 rename_i b pos little;obtain⟨aO,rfl⟩:=hZ h;refine il (Zx (yy [Zu b,Zz .i64 pos,Zz .i64 2,Zd little] []) (kT fun vs=>ai .i64 vs fun n r=>ai .i64 r fun cV r=>ai .i64 r fun eE r=>ar r (Yx (Yz [Zz .i64 n,Zz .i64 cV,Zz .i64 eE],[])))) ?_;delta kT;dsimp only[yy,bB,cP,ak,jz,ai,ef,iX];simp only[A0];rw[ae (by rw[aO];rfl)]
theorem w50:Wk 50 4 RS:=by
 refine gi Tryz.func50 fun _ _ _ h=> ?_;unfold RS at h;split at h;case h_2=>cases h
 rename_i b;obtain⟨aO,rfl⟩:=hZ h;refine il (let t1:Option (AV×aZ):=Yx (Yz [Xx [Zz .i64 0,Zz .u64 0,Zu []],Zz .i64 0,Zz .i64 100],[]);let t2:Int:=Zv .i64 (↑(BitVec.toNat (BitVec.ofInt (Yb .i64) (Zv .i64 (Zv .i64 (↑(Xn (Zg b (Zw 10) (0:UInt8))):Int)*2 ^ min (Zw 8) (Yb .i64))) ||| BitVec.ofInt (Yb .i64) (Zv .i64 (↑(Xn (Zg b (Zw 11) (0:UInt8))):Int)))):Int);let t3:Int:=Zv .i64 (↑(Xn (Zg b (Zw 1) (0:UInt8))):Int);let t4:Option (AV×aZ):=Yx (Yz [Xx [Zz .i64 0,Zz .u64 0,Zu []],Zz .i64 0,Zz .i64 101],[]);let t0:Int:=Zv .i64 (12+t2);aP (Zq ((↑(Zy b):Int)<12)) t4 (aA (Zq (10<=(↑(Zy b):Int))) (Zx (vF [Zu (List.drop (Zw 2) (List.take (Zw 10) b))] []) (kT fun vs=>ai .u64 vs fun n r=>ak r fun fS r=>ar r (aA (Zq (10<(↑(Zy b):Int))) (aA (Zq (11<(↑(Zy b):Int))) (aA (Zq (0<(↑(Zy b):Int))) (aP (!Zg b (Zw 0) (0:UInt8)==(66:UInt8)) t1 (aA (Zq (1<(↑(Zy b):Int))) (aP (Zq (t3<1)) t1 (aA (Zq (1<(↑(Zy b):Int))) (aP (Zq (t3>10)) t1 (aP (!fS) t1 (aP (Zq (t2>1000)) t1 (aP (Zq ((↑(Zy b):Int)<t0)) t4 (aA (Zq (1<(↑(Zy b):Int))) (aA (Zq (12<=t0)&&Zq (t0<=(↑(Zy b):Int))) (aA (room (Zy (List.drop (Zw 12) (List.take (Zw t0) b))) 1) (Yx (Yz [Xx [Zz .i64 t3,Zz .u64 n,Zu (List.drop (Zw 12) (List.take (Zw t0) b))],Zz .i64 t0,Zz .i64 0],[])))))))))))))))))))) ?_;delta kT;dsimp only[vF,bB,cP,ak,jz,ai,ef,iX];simp only[Qa2] at aO;unfold Kerb.bj;by_cases h0:b.length<12
 ·rw[ah (by simp;omega),Qa1 h0];rfl
 rw[aq (by simp;omega),Qa0 h0];have hc:=Kerb.AD b 2 8;have hs:(b.getD 10 0).toNat*256+(b.getD 11 0).toNat=Kerb.kr b:=rfl;simp only[Kerb.PE,Kerb.Mn];simp only[show Zw 0=0 from rfl,show Zw 1=1 from rfl,show Zw 10=10 from rfl,show Zw 11=11 from rfl,Kerb.EW,hs];rw[ae (by simp;omega),ae (by simp;omega)];simp only[↓A0];rw[ae (by simp;omega),ae (by simp;omega),ae (by simp;omega)];by_cases h1:b.getD 0 0=66;case neg=>rw[ah (by simpa using h1),Qa1 (.inl h1)];rfl
 rw[aq (by simpa using h1),ae (by simp;omega)];cases h2:Kerb.isKind ((b.getD 1 0).toNat:Int)
 ·rw[Qa1 (.inr (.inl rfl))];by_cases h2a:((b.getD 1 0).toNat:Int)<1
  ·rw[ah (by simpa using h2a)];rfl
  ·rw[aq (by simpa using h2a),ae (by simp;omega),ah (Qa4 (by simp only[Kerb.isKind,Bool.and_eq_false_iff,decide_eq_false_iff_not] at h2;omega))];rfl
 have hk:1<=((b.getD 1 0).toNat:Int)/\((b.getD 1 0).toNat:Int)<=10:=by simp only[Kerb.isKind,Zh,Qa2] at h2;exact h2
 rw[aq (Qa5 (by omega)),ae (by simp;omega),aq (Qa5 (by omega))];cases h3:(Kerb.cR (Kerb.cut b 2 8)).2
 ·rw[Qa1 (.inr (.inr (.inl rfl)))];rfl
 rw[Zj,aR];by_cases h4:1000<Kerb.kr b
 ·rw[ah (by simp;omega),Qa1 (.inr (.inr (.inr h4)))];rfl
 rw[aq (by simp;omega),Qa0 (by rintro(h | h | h | h)<;>first | exact h h1 | cases h | omega),wrap_i64 (by omega) (by omega)];by_cases h5:b.length<12+Kerb.kr b
 ·rw[ah (by simp;omega),Qa1 h5];rfl
 have sI:=Kerb.AD b 12 (Kerb.kr b);rw[aq (by simp;omega),Qa0 h5,Kerb.PD];repeat rw[ae (by first | (simp;omega) | exact Xq (by omega))]
 simp
theorem w70:Wk 70 4 RX:=by
 refine gi Tryz.func70 fun _ _ _ h=> ?_;unfold RX at h;split at h;case h_2=>cases h
 rename_i b;obtain⟨aO,rfl⟩:=hZ h;refine il (aP (!(↑(Zy b):Int)==8) (Yx (Yz [Zz .u64 0,Zd Yp],[])) (Zx (bH (fun st=>ai .u64 st fun n r=>cP r fun b r=>ai .i64 r fun cV r=>ai .i64 r fun eE r=>ar r (aP (Zq (eE<cV)) (aA (Zq (0<=eE)&&Zq (eE<(↑(Zy b):Int))) (Yx (Xd [Zz .u64 (Zv .u64 (↑(BitVec.toNat (BitVec.ofInt (Yb .u64) (Zv .u64 (n*2 ^ min (Zw 8) (Yb .u64))) ||| BitVec.ofInt (Yb .u64) (Zv .u64 (↑(Xn (Zg b (Zw eE) (0:UInt8))):Int)))):Int)),Zu b,Zz .i64 cV,Zz .i64 (Zv .i64 (eE+1))]))) (Yx (Xj (Xf 0,[Zz .u64 n,Zu b,Zz .i64 cV,Zz .i64 eE]))))) [Zz .u64 0,Zu b,Zz .i64 (↑(Zy b):Int),Zz .i64 0]) fun(r:Ex×List AV)=>ai .u64 (Yq r) fun n fA=>cP fA fun b fP=>ai .i64 fP fun cV gj=>ai .i64 gj fun eE iV=>ar iV (mZ r.1 none fun j=>aP (Wq j 0) (Zx (Iz [Zz .u64 n] []) (kL fun b=>aP (!b) (Yx (Yz [Zz .u64 0,Zd Yp],[])) (Yx (Yz [Zz .u64 n,Zd Yv],[])))) none))) ?_;delta kL;dsimp only[Iz,bB,cP,ak,jz,ai,ef,iX];have hb:=Qa3 aO;unfold Kerb.cR;by_cases h8:b.length=8;case neg =>
  rw[ah (by simp;omega),Qa0 (by omega)]
 rw[aq (by simp[h8])];refine dq (fun i:Nat=>[Zz IntKind.u64 (Kerb.kK (b.take i)),Zu b,Zz Xv (b.length:Int),Zz Xv (i:Int)]) (fun i=>i<=8) (fun i=>8-i)
  (fun r=>r=(Xf 0,[Zz IntKind.u64 (Kerb.kK b),Zu b,Zz Xv (b.length:Int),Zz Xv 8])) 0 (by omega) rfl ?_ ?_
 ·intro i hi;simp only[A0];by_cases gO:i<8
  ·have hv:=Kerb.zB (l:=b) (i:=i) (by omega);have WI:=Kerb.Ju (l:=b.take i) (by simp;omega);rw[ah (by simp;omega),ae (by simp;omega),Yg,Kerb.Iv _ WI.1 WI.2,wrap_i64 (by omega) (by omega),<-hv];exact⟨_,rfl,i+1,rfl,by omega,by dsimp only;omega⟩
  ·rw[aq (by simp;omega)];refine⟨_,rfl,?_⟩;show _=_;rw[List.take_of_length_le (by omega),show i=8 from by omega];rfl
 rintro r rfl;have WI:=Kerb.CW (l:=b) (by omega);simp only[A0];rw[ah (Xu _),ae (by simp;omega)];cases hv:Kerb.bW (Kerb.kK b)
 ·rw[Qa0 (by simp)];rfl
 ·rw[Qa1 ⟨h8,rfl⟩];rfl
theorem w96:Wk 96 4 RZ:=by
 refine gi Tryz.func96 fun _ _ _ h=> ?_;unfold RZ at h;split at h;case h_2=>cases h
 rename_i li mu kv rl tk au tm lf sv ins;obtain⟨aO,rfl⟩:=hZ h;refine il (aP mu (Yx (Yz [Zu [],Zz .i64 100],[])) (Zx (K5 [Xx [Zd li,Zd mu,Zz .i64 kv,Zk rl,Zu tk,Zu au]] []) (kT fun vs=>cP vs fun b r=>ai .i64 r fun n r=>ar r (aP (!n==0) (Yx (Yz [Zu [],Zz .i64 n],[])) (Zx (vD [Zk sv] []) (kL fun fS=>aP (!fS) (Yx (Yz [Zu [],Zz .i64 103],[])) (Zx (vE [Zk ins] []) (kL fun l6=>aP (!l6) (Yx (Yz [Zu [],Zz .i64 103],[])) (aP (!Zp tm 4294967295) (Yx (Yz [Zu [],Zz .i64 104],[])) (aP (!Zp lf 255) (Yx (Yz [Zu [],Zz .i64 104],[])) (Zx (gQ [Zu b,Zz .i64 tm,Zd li] []) (kO fun l=>Zx (gV [Zu l,Zz .i64 lf] []) (kO fun l=>Zx (lJ [Zu l,Zk sv] []) (kO fun l=>Zx (lJ [Zu l,Zk ins] []) (kO fun l=>Yx (Yz [Zu l,Zz .i64 0],[])))))))))))))))) ?_;delta kT kO kL;dsimp only[K5,gV,lJ,vD,vE,gQ,bB,cP,ak,jz,ai,ef,iX];simp only[Zh,Qa2] at aO;obtain⟨⟨p1,p2⟩,p3⟩:=aO;simp only[A0,Wz,Wx,Kerb.h_.av,p1,p2,p3,Qb4];have hL:∀ q,Kerb.bD ⟨li,mu,kv,rl,tk,au⟩=q->Kerb.dV ⟨⟨li,mu,kv,rl,tk,au⟩,tm,lf,sv,ins⟩=if mu then⟨[],100⟩ else if q.err≠0 then⟨[],q.err⟩ else if !(Kerb.validName sv&&Kerb.dg ins) then⟨[],103⟩ else if !(Zp tm 4294967295&&Zp lf 255) then⟨[],104⟩ else⟨Wu (Wu (q.val++Kerb.aL tm 4 li++Kerb.aL lf 1 Yp) sv) ins,0⟩:=by rintro _ rfl;rfl
 have hl:=Kerb.mX ⟨li,mu,kv,rl,tk,au⟩;obtain⟨q,hq⟩:∃ q,Kerb.bD ⟨li,mu,kv,rl,tk,au⟩=q:=⟨_,rfl⟩;rw[hL q hq,hq];rw[hq] at hl;cases mu;case true=>rfl
 rw[aR,Qa0 (by simp)];by_cases h1:q.err=0;case neg=>rw[ah (by simpa using h1),Qa1 h1]
 rw[aq (by simpa using h1),Qa0 (by simpa using h1)];cases h2:Kerb.validName sv
 ·rfl
 cases h3:Kerb.dg ins
 ·rfl
 cases Zp tm 4294967295
 ·rfl
 cases Zp lf 255
 ·rfl
 have l2:=Kerb.jq h2;have l3:=Kerb.io h3;simp only[Zj,aR,Bool.and_self,Bool.false_eq_true,if_false];rw[ae (by simp;omega),ae (by simp[Zf];omega),ae (by simp[Zf];omega),ae (by simp[Zf,Kerb.c7];omega)]
theorem w97:Wk 97 4 R2:=by
 refine gi Tryz.func97 fun _ _ _ h=> ?_;unfold R2 at h;split at h;case h_2=>cases h
 rename_i li x y z t ex kv sd;obtain⟨aO,rfl⟩:=hZ h;refine il (Zx (lY [Xx [Zk x,Zk y,Zk z]] []) (kL fun b=>aP (!b) (Yx (Yz [Zu [],Zz .i64 103],[])) (aP (!Zp t 4294967295) (Yx (Yz [Zu [],Zz .i64 104],[])) (aP (!Zp ex 4294967295) (Yx (Yz [Zu [],Zz .i64 104],[])) (aP (!Zp kv 255) (Yx (Yz [Zu [],Zz .i64 104],[])) (aP (Zq ((↑(Zy sd):Int)>1012)) (Yx (Yz [Zu [],Zz .i64 105],[])) (Zx (lK [Zu (Xm 2 li),Xx [Zk x,Zk y,Zk z]] []) (kO fun l=>Zx (gQ [Zu l,Zz .i64 t,Zd li] []) (kO fun l=>Zx (gV [Zu l,Zz .i64 1] []) (kO fun l=>Zx (gQ [Zu l,Zz .i64 ex,Zd li] []) (kO fun l=>Zx (gV [Zu l,Zz .i64 kv] []) (kO fun l=>Zx (pu [Zu l,Zz .i64 (↑(Zy sd):Int),Zd li] []) (kO fun l=>aA (room (Zy l+Zy sd) 1) (Yx (Yz [Zu (l++sd),Zz .i64 0],[]))))))))))))))) ?_;delta kO kL;dsimp only[gV,gQ,lY,lK,pu,bB,cP,ak,jz,ai,ef,iX];simp only[Zh,Qa2] at aO;obtain⟨⟨q1,q2⟩,q3⟩:=aO;simp only[A0];unfold Kerb.bK;rw[ae (by simp[q1,q2,q3])];cases h1:Kerb.ck.valid ⟨x,y,z⟩
 ·rfl
 rw[Zj,aR];cases h4:Zp t 4294967295
 ·rfl
 rw[Zj,aR];cases h5:Zp ex 4294967295
 ·rfl
 rw[Zj,aR];cases h6:Zp kv 255
 ·rfl
 rw[Zj,aR];by_cases h7:1012<sd.length
 ·rw[ah (by simp;omega),Qa0 (by simp),Qa0 (by simp),Qa1 h7]
 have l1:=Wv h1;have l4:=Kerb.bu 2 li;simp only at l1;rw[aq (by simp;omega),Qa0 (by simp),Qa0 (by simp),Qa0 h7];rw[ae (by simp;omega),ae (by simp[Zn];omega),ae (by simp[Zn,Zf];omega),ae (by simp[Zn,Zf];omega),ae (by simp[Zn,Zf];omega),ae (by simp[Zn,Zf];omega),ae (Xq (by simp[Zn,Zf];omega))]
theorem ag6:Wk 100 4 Iy:=by
 refine gi Tryz.func100 fun _ _ _ h=> ?_;unfold Iy at h;split at h;case h_2=>cases h
 rename_i op ux uy uz bx;obtain⟨aO,rfl⟩:=hZ h;refine il (aP (Zq (op<1)) (Yx (Yz [Zu [],Zz .i64 40],[])) (aP (Zq (op>3)) (Yx (Yz [Zu [],Zz .i64 40],[])) (Zx (lY [Xx [Zk ux,Zk uy,Zk uz]] []) (kL fun b=>aP (!b) (Yx (Yz [Zu [],Zz .i64 103],[])) (aP (Zq ((↑(Zy bx):Int)>1012)) (Yx (Yz [Zu [],Zz .i64 105],[])) (Zx (lK [Zu (Xm 10 Yp++Kerb.aL op 1 Yp),Xx [Zk ux,Zk uy,Zk uz]] []) (kO fun l=>Zx (pu [Zu l,Zz .i64 (↑(Zy bx):Int),Zd Yp] []) (kO fun l=>aA (room (Zy l+Zy bx) 1) (Yx (Yz [Zu (l++bx),Zz .i64 0],[])))))))))) ?_;delta kO kL;dsimp only[lY,lK,pu,bB,cP,ak,jz,ai,ef,iX];simp only[Zh,Qa2] at aO;simp only[A0,Wz,Wx,Kerb.h_.av];have C0:(Xm 10 Yp).length=2:=rfl;unfold Kerb.eY;simp only;by_cases h0:1<=op/\op<=3;case neg =>
  have e:Kerb.tc op=Yp:=by simp[Kerb.tc];omega
  rw[e];by_cases h1:op<1
  ·rw[ah (by simpa using h1)];rfl
  ·rw[aq (by simpa using h1),ah (by simp;omega)];rfl
 have e:Kerb.tc op=Yv:=by simp[Kerb.tc];omega
 rw[e,aq (by simp;omega),aq (by simp;omega),Qa0 (by simp),ae (by simp;omega)];cases h2:Kerb.ck.valid ⟨ux,uy,uz⟩
 ·rfl
 rw[Zj,aR,Qa0 (by simp)];by_cases h8:1012<bx.length
 ·rw[ah (by simp;omega),Qa1 h8]
 rw[aq (by simp;omega),Qa0 h8];have l2:=Wv h2;simp only at l2;rw[ae (by simp[Zf,C0];omega),ae (by simp[Zn,Zf,C0];omega),ae (Xq (by simp[Zn,Zf,C0];omega))];simp[Xp]
theorem ag7:Wk 103 4 Rt:=by
 refine gi Tryz.func103 fun _ _ _ h=> ?_;unfold Rt at h;split at h;case h_2=>cases h
 rename_i op ux uy uz kv rl tk sv ins bx;obtain⟨aO,rfl⟩:=hZ h
 refine il (Zx (aP (!(op==1||op==3)) (Yx [Zz .i64 op,Zk ux,Zk uy,Zk uz,Zz .i64 kv,Zk rl,Zu tk,Zk sv,Zk ins,Zu bx,Zd !op==2,Zz .i64 0]) (Yx [Zz .i64 op,Zk ux,Zk uy,Zk uz,Zz .i64 kv,Zk rl,Zu tk,Zk sv,Zk ins,Zu bx,Zd Yp,Zz .i64 0])) fun l=>ai .i64 l fun n r=>bB r fun b r=>bB r fun fS r=>bB r fun l6 r=>ai .i64 r fun cV r=>bB r fun lO r=>cP r fun lI r=>bB r fun qu r=>bB r fun pC r=>cP r fun nN r=>ak r fun tS r=>ai .i64 r fun eE r=>let t1:Option (List AV):=Yx [Zz .i64 n,Zk b,Zk fS,Zk l6,Zz .i64 cV,Zk lO,Zu lI,Zk qu,Zk pC,Zu nN,Zd Yv,Zz .i64 eE];let t0:Option (List AV):=aP (!(n==1||n==3)) (Zx (yv [Zk lO] []) (kL fun ra=>aP (!ra) t1 (Zx (vD [Zk qu] []) (kL fun jk=>aP (!jk) t1 (Zx (vE [Zk pC] []) (kL fun km=>Yx [Zz .i64 n,Zk b,Zk fS,Zk l6,Zz .i64 cV,Zk lO,Zu lI,Zk qu,Zk pC,Zu nN,Zd !km,Zz .i64 eE])))))) (Yx [Zz .i64 n,Zk b,Zk fS,Zk l6,Zz .i64 cV,Zk lO,Zu lI,Zk qu,Zk pC,Zu nN,Zd Yp,Zz .i64 eE]);ar r (aP tS (Yx (Yz [Zu [],Zz .i64 40],[])) (Zx (aP (n==1||n==3) (Zx (lY [Xx [Zk b,Zk fS,Zk l6]] []) (kL fun b=>aP (!b) t1 t0)) t0) fun l=>ai .i64 l fun n r=>bB r fun b r=>bB r fun ra r=>bB r fun jk r=>ai .i64 r fun ig r=>bB r fun km r=>cP r fun mb r=>bB r fun lM r=>bB r fun lN r=>cP r fun oK r=>ak r fun nV r=>ai .i64 r fun dk r=>ar r (aP nV (Yx (Yz [Zu [],Zz .i64 103],[])) (Zx (aP (!(n==1||n==3)) (Yx [Zz .i64 n,Zk b,Zk ra,Zk jk,Zz .i64 ig,Zk km,Zu mb,Zk lM,Zk lN,Zu oK,Zd !Zp ig 255,Zz .i64 dk]) (Yx [Zz .i64 n,Zk b,Zk ra,Zk jk,Zz .i64 ig,Zk km,Zu mb,Zk lM,Zk lN,Zu oK,Zd Yp,Zz .i64 dk])) fun l=>ai .i64 l fun n r=>bB r fun b r=>bB r fun pe r=>bB r fun oL r=>ai .i64 r fun cK r=>bB r fun rP r=>cP r fun qo r=>bB r fun pz r=>bB r fun pA r=>cP r fun qp r=>ak r fun ud r=>ai .i64 r fun g7 r=>let t2:Option (List AV):=Yx [Zz .i64 n,Zk b,Zk pe,Zk oL,Zz .i64 cK,Zk rP,Zu qo,Zk pz,Zk pA,Zu qp,Zd (Zq ((↑(Zy qp):Int)>1012)),Zz .i64 g7];ar r (aP ud (Yx (Yz [Zu [],Zz .i64 104],[])) (Zx (aP (!(n==1||n==3)) (aP (Zq ((↑(Zy qo):Int)>255)) (Yx [Zz .i64 n,Zk b,Zk pe,Zk oL,Zz .i64 cK,Zk rP,Zu qo,Zk pz,Zk pA,Zu qp,Zd Yv,Zz .i64 g7]) t2) t2) fun l=>ai .i64 l fun n r=>bB r fun b r=>bB r fun qt r=>bB r fun pB r=>ai .i64 r fun gY r=>bB r fun rQ r=>cP r fun xx r=>bB r fun Ah r=>bB r fun wK r=>cP r fun wL r=>ak r fun E5 r=>ai .i64 r fun kC r=>let t3:Option (List AV):=Yx [Zz .i64 n,Zk b,Zk qt,Zk pB,Zz .i64 gY,Zk rQ,Zu xx,Zk Ah,Zk wK,Zu wL,Zd Yv,Zz .i64 kC];let t4:Option (List AV):=aP (!(n==1||n==3)) (Yx [Zz .i64 n,Zk b,Zk qt,Zk pB,Zz .i64 gY,Zk rQ,Zu xx,Zk Ah,Zk wK,Zu wL,Zd !(b==[]&&(qt==[]&&pB==[])),Zz .i64 kC]) (Yx [Zz .i64 n,Zk b,Zk qt,Zk pB,Zz .i64 gY,Zk rQ,Zu xx,Zk Ah,Zk wK,Zu wL,Zd Yp,Zz .i64 kC]);ar r (aP E5 (Yx (Yz [Zu [],Zz .i64 105],[])) (Zx (aP (n==1||n==3) (aP (!gY==0) t3 (aP (!rQ==[]) t3 (aP (Zq ((↑(Zy xx):Int)>0)) t3 (aP (!Ah==[]) t3 (aP (!wK==[]) t3 t4))))) t4) fun l=>ai .i64 l fun n r=>bB r fun b r=>bB r fun MW r=>bB r fun Pl r=>ai .i64 r fun qH r=>bB r fun Pm r=>cP r fun Pn r=>bB r fun aeV r=>bB r fun aeW r=>cP r fun MX r=>ak r fun aeX r=>ai .i64 r fun um r=>ar r (aP aeX (Yx (Yz [Zu [],Zz .i64 108],[])) (aP (n==1||n==3) (Zx (lK [Zu (Xm 9 Yp++Kerb.aL n 1 Yp),Xx [Zk b,Zk MW,Zk Pl]] []) (kO fun l=>Zx (pu [Zu l,Zz .i64 (↑(Zy MX):Int),Zd Yp] []) (kO fun l=>aA (room (Zy l+Zy MX) 1) (Yx (Yz [Zu (l++MX),Zz .i64 0],[]))))) (Zx (gV [Zu (Xm 9 Yp++Kerb.aL n 1 Yp),Zz .i64 qH] []) (kO fun l=>Zx (lJ [Zu l,Zk Pm] []) (kO fun l=>Zx (gV [Zu l,Zz .i64 (↑(Zy Pn):Int)] []) (kO fun l=>aA (room (Zy l+Zy Pn) 1) (Zx (lJ [Zu (l++Pn),Zk aeV] []) (kO fun l=>Zx (lJ [Zu l,Zk aeW] []) (kO fun l=>Zx (pu [Zu l,Zz .i64 (↑(Zy MX):Int),Zd Yp] []) (kO fun l=>aA (room (Zy l+Zy MX) 1) (Yx (Yz [Zu (l++MX),Zz .i64 0],[]))))))))))))))))))))) ?_
 delta kO kL;dsimp only[yv,gV,lJ,vD,vE,lY,lK,pu,bB,cP,ak,jz,ai,ef,iX];simp only[Zh,Qa2] at aO;have C0:(Xm 9 Yp).length=2:=rfl;unfold Kerb.bF;by_cases h13:op=1\/op=3
 ·have e1:(op==1||op==3)=Yv:=by simpa using h13
  have e2:(op==2)=Yp:=by simp;omega
  have e3:Kerb.tc op=Yv:=by simp[Kerb.tc];omega
  simp only[A0,e1,e2,e3,Zj,gn,aR,Bool.false_eq_true,if_false];rw[ae (by simp;omega)];cases h2:Kerb.ck.valid ⟨ux,uy,uz⟩
  ·rfl
  rw[Zj,aR,Qa0 (by simp)];by_cases h3:1012<bx.length
  ·rw[ah (by simp;omega),Qa1 h3]
  rw[aq (by simp;omega),Qa0 h3];by_cases h4:kv=0;case neg=>rw[ah (by simpa using h4),Qa1 (.inl h4)]
  rw[aq (by simp[h4])];by_cases h5:rl=[];case neg=>rw[ah (by simpa using h5),Qa1 (.inr (.inl h5))]
  rw[aq (by simp[h5])];by_cases h6:tk=[];case neg=>rw[ah (by have:=List.length_pos_iff.2 h6;simp;omega),Qa1 (.inr (.inr (.inl h6)))]
  rw[aq (by simp[h6])];by_cases h7:sv=[];case neg=>rw[ah (by simpa using h7),Qa1 (.inr (.inr (.inr (.inl h7))))]
  rw[aq (by simp[h7])];by_cases h8:ins=[];case neg=>rw[ah (by simpa using h8),Qa1 (.inr (.inr (.inr (.inr h8))))]
  rw[aq (by simp[h8]),Qa0 (by simp[h4,h5,h6,h7,h8])];have l1:=Wv h2;simp only at l1;rw[ae (by simp[Zf,C0];omega),ae (by simp[Zf,C0,Zn];omega),ae (Xq (by simp[Zf,C0,Zn];omega))];simp[Xp,Kerb.u_]
 ·have e1:(op==1||op==3)=Yp:=by simpa using h13
  simp only[A0,e1,Bool.not_false,gn,aR];by_cases h2:op=2;case neg =>
   have e3:Kerb.tc op=Yp:=by simp[Kerb.tc];omega
   rw[ah (by simpa using h2),e3];rfl
  subst h2;rw[aq (by simp)];simp only[show Kerb.tc 2=Yv from rfl,Zj,Bool.false_eq_true,if_false,Qb2,if_true];rw[ae (by simp;omega)];cases h2:Kerb.fD rl
  ·rfl
  rw[Zj,aR,ae (by simp;omega)];cases h3:Kerb.validName sv
  ·rfl
  rw[Zj,aR,ae (by simp;omega)];cases h4:Kerb.dg ins
  ·rfl
  rw[Zj,aR,Qa0 (by simp)];cases h5:Zp kv 255
  ·rfl
  rw[Zj,aR,Qa0 (by simp)];by_cases h6:255<tk.length
  ·rw[ah (by simp;omega),Qa1 (.inl h6)]
  rw[aq (by simp;omega)];by_cases h7:1012<bx.length
  ·rw[ah (by simp;omega),Qa1 (.inr h7)]
  rw[aq (by simp;omega),Qa0 (by omega)];show aP (!(Kerb.ck.Hz ⟨ux,uy,uz⟩)) _ _=_;cases Kerb.ck.Hz ⟨ux,uy,uz⟩
  ·rfl
  rw[Zj,aR,Qa0 (by simp)];have l1:=Kerb.iL h2;have l2:=Kerb.jq h3;have l3:=Kerb.io h4;rw[ae (by simp[Zf,C0]),ae (by simp[Zf,C0];omega),ae (by simp[Zf,C0,Kerb.c7];omega),ae (Xq (by simp[Zf,C0,Kerb.c7];omega)),ae (by simp[Zf,C0,Kerb.c7];omega),ae (by simp[Zf,C0,Kerb.c7];omega),ae (by simp[Zf,C0,Kerb.c7];omega),ae (Xq (by simp[Zf,C0,Kerb.c7];omega))];simp[Xp,Kerb.u_,Kerb.tA]
theorem aht:Wk 166 4 IB:=by
 refine gi Tryz.func166 fun _ _ _ h=> ?_;unfold IB at h;split at h;case h_2=>cases h
 rename_i cx cy cz sx sy sz k t e a;obtain⟨aO,rfl⟩:=hZ h;refine il (Zx (lY [Xx [Zk cx,Zk cy,Zk cz]] []) (kL fun b=>aP (!b) (Yx (Yz [Zu [],Zz .i64 103],[])) (Zx (lY [Xx [Zk sx,Zk sy,Zk sz]] []) (kL fun b=>aP (!b) (Yx (Yz [Zu [],Zz .i64 103],[])) (Zx (CM [Zz .u64 k] []) (kI .i64 fun n=>aP (!n==2) (Yx (Yz [Zu [],Zz .i64 10],[])) (aP (!Zp t 4294967295) (Yx (Yz [Zu [],Zz .i64 104],[])) (aP (!Zp e 4294967295) (Yx (Yz [Zu [],Zz .i64 104],[])) (aP (Zq (t>e)) (Yx (Yz [Zu [],Zz .i64 104],[])) (aP (!Zp a 4294967295) (Yx (Yz [Zu [],Zz .i64 104],[])) (Zx (lK [Zu [],Xx [Zk cx,Zk cy,Zk cz]] []) (kO fun l=>Zx (lK [Zu l,Xx [Zk sx,Zk sy,Zk sz]] []) (kO fun l=>Zx (o_ [Zz .u64 k] []) (kB fun b=>aA (room (Zy l+Zy b) 1) (Zx (gQ [Zu (l++b),Zz .i64 t,Zd Yp] []) (kO fun l=>Zx (gQ [Zu l,Zz .i64 e,Zd Yp] []) (kO fun l=>Zx (gQ [Zu l,Zz .i64 a,Zd Yp] []) (kO fun l=>Zx (mK [Zu l] []) (kO fun l=>Yx (Yz [Zu l,Zz .i64 0],[])))))))))))))))))))) ?_;delta kB kO kL kI;dsimp only[gQ,lY,lK,CM,o_,mK,bB,cP,ak,jz,ai,ef,iX];simp only[Zh,Qa2] at aO;simp only[A0,Wz,Wx,Kerb.h_.av];unfold Kerb.fz;simp only;rw[ae (by simp;omega)];cases h1:Kerb.ck.valid ⟨cx,cy,cz⟩
 ·rfl
 rw[Zj,aR,ae (by simp;omega)];cases h2:Kerb.ck.valid ⟨sx,sy,sz⟩
 ·rfl
 rw[Zj,aR,ae (by simp;omega),Qa0 (by simp)];by_cases h3:Kerb.jK k=2;case neg=>rw[ah (by simpa using h3),Qa1 h3]
 rw[aq (by simp[h3]),Qa0 (show ¬ (Kerb.jK k≠2) by simpa using h3)];have hp4:Kerb.period t e=(Zp t 4294967295&&(Zp e 4294967295&&Zq (t<=e))):=by unfold Kerb.period;rw[Bool.and_assoc]
 rw[hp4];cases h4:Zp t 4294967295
 ·rfl
 rw[Zj,aR,Wy];cases h5:Zp e 4294967295
 ·rfl
 rw[Zj,aR,Wy];by_cases h6:t<=e;case neg=>rw[ah (by simp;omega),Qa5 h6];rfl
 rw[aq (by simp;omega),Qa4 h6];cases h7:Zp a 4294967295
 ·rfl
 rw[Zj,aR,Qa0 (by simp)];have l1:=Wv h1;have l2:=Wv h2;simp only at l1 l2;rw[ae (by simp;omega),ae (by simp[Zn,Zb,Zf,Xp];omega),ae (by simp;omega),ae (Xq (by simp[Zn,Zb,Zf,Xp];omega)),ae (by simp[Zn,Zb,Zf,Xp];omega),ae (by simp[Zn,Zb,Zf,Xp];omega),ae (by simp[Zn,Zb,Zf,Xp];omega),ae (by simp[Zn,Zb,Zf,Xp];omega)]
theorem ahz:Wk 183 4 IE:=by
 refine gi Tryz.func183 fun _ _ _ h=> ?_;unfold IE at h;split at h;case h_2=>cases h
 rename_i a b els;obtain⟨aO,rfl⟩:=hZ h;refine Dp [0] (Zx (bH (fun st=>az st fun x r=>Ww x fun y=>ai .i64 r fun n r=>ai .i64 r fun cV r=>ai .i64 r fun eE r=>ai .i64 r fun ig r=>ar r (aP (Zq (ig>=0)) (Zx (EL [AV.b_ 0 55 1,Zz .i64 ig,Zz .i64 eE,Zz .i64 n] [(0,y)]) fun r=>aH (Yq r) fun x fA=>aJ fA (AV.gP (Yd r) fun vs=>ar vs (Yx (Xd [Yn x,Zz .i64 n,Zz .i64 cV,Zz .i64 eE,Zz .i64 (Zv .i64 (ig-1))])))) (Yx (Xj (Xf 0,[Yn y,Zz .i64 n,Zz .i64 cV,Zz .i64 eE,Zz .i64 ig]))))) [Yn els,Zz .i64 a,Zz .i64 0,Zz .i64 (Zv .i64 (b-a)),Zz .i64 (Zv .i64 (Int.tdiv (Zv .i64 (Zv .i64 (b-a)-1)) 2))]) fun(r:Ex×List AV)=>az (Yq r) fun x fA=>Ww x fun y=>ai .i64 fA fun n fP=>ai .i64 fP fun cV gj=>ai .i64 gj fun eE iV=>ai .i64 iV fun ig j7=>ar j7 (mZ r.1 (Yx (Yz [],[y])) fun j=>aP (Wq j 0) (Zx (bH (fun st=>az st fun x r=>Ww x fun y=>ai .i64 r fun n r=>ai .i64 r fun dk r=>ai .i64 r fun cK r=>ar r (aP (Zq (cK>=0)) (aA (Zq (0<=Zv .i64 (n+cK))&&Zq (Zv .i64 (n+cK)<(↑(Zy y):Int))&&Yv) (aA (Yw (Zw (Zv .i64 (n+cK))) (Zy y)&&Yv) (Yk .u64 (Zg y (Zw (Zv .i64 (n+cK))) Yu) fun g7=>aA (Zq (0<=n)&&Zq (n<(↑(Zy y):Int))&&Yv) (aA (Yw (Zw n) (Zy y)&&Yv) (Yk .u64 (Zg y (Zw n) Yu) fun gY=>aA (Zq (0<=n)&&Zq (n<(↑(Zy y):Int))&&Yv) (aA (Yw (Zw n) (Zy y)&&Yv) (Yk .u64 (Zg y (Zw n) Yu) fun kC=>aA (Zy [Zz .u64 g7]==nat_lit 1&&Yv&&Yv&&Yv&&Yw (Zw n) (Zy y)) (aA (Zq (0<=Zv .i64 (n+cK))&&Zq (Zv .i64 (n+cK)<(↑(Zy (Yy y (Zw n) (Zz .u64 g7))):Int))&&Yv) (aA (Yw (Zw (Zv .i64 (n+cK))) (Zy (Yy y (Zw n) (Zz .u64 g7)))&&Yv) (Yk .u64 (Zg (Yy y (Zw n) (Zz .u64 g7)) (Zw (Zv .i64 (n+cK))) Yu) fun qH=>aA (Zy [Zz .u64 gY]==nat_lit 1&&Yv&&Yv&&Yv&&Yw (Zw (Zv .i64 (n+cK))) (Zy (Yy y (Zw n) (Zz .u64 g7)))) (Zx (EL [AV.b_ 0 55 1,Zz .i64 dk,Zz .i64 cK,Zz .i64 n] [(0,Yy (Yy y (Zw n) (Zz .u64 g7)) (Zw (Zv .i64 (n+cK))) (Zz .u64 gY))]) fun r=>aH (Yq r) fun x kH=>aJ kH (AV.gP (Yd r) fun vs=>ar vs (Yx (Xd [Yn x,Zz .i64 n,Zz .i64 dk,Zz .i64 (Zv .i64 (cK-1))])))))))))))))) (Yx (Xj (Xf 2,[Yn y,Zz .i64 n,Zz .i64 dk,Zz .i64 cK]))))) [Yn y,Zz .i64 n,Zz .i64 cV,Zz .i64 (Zv .i64 (eE-1))]) fun(r:Ex×List AV)=>az (Yq r) fun x kH=>Ww x fun y=>ai .i64 kH fun n nz=>ai .i64 nz fun n nK=>ai .i64 nK fun n nL=>ar nL (mZ r.1 (Yx (Yz [],[y])) fun j=>aP (Wq j 2) (Yx (Yz [],[y])) none)) none)) ?_;dsimp only[EL,bB,cP,ak,jz,ai,ef,iX];simp only[Zh,Qa2] at aO;obtain⟨⟨⟨⟨ib,hlen⟩,Jy⟩,xk⟩,hb⟩:=aO;obtain⟨d,rfl,hd⟩:=Kerb.nw ib;simp only[Xz] at hlen hb;unfold Kerb.LN;rw[hd];obtain⟨a,rfl⟩:=Zm Jy;obtain⟨b,rfl⟩:=Zm (show 0<=b by omega);simp only[Yg];obtain⟨n,hn⟩:∃ n,n=b-a:=⟨_,rfl⟩;simp only[show Zv .i64 ((b:Int)-(a:Int))=(n:Int) from(Yf (by omega) (by omega)).trans (by omega)];rw[show Zv .i64 ((n:Int)-1)=(n:Int)-1 from Yf (by omega) (by omega)];obtain⟨k0,Zl⟩:∃ k,k=(n-1) / 2+1:=⟨_,rfl⟩;have htd:Zv .i64 (Int.tdiv ((n:Int)-1) 2)=(k0:Int)-1:=by
  have:Int.tdiv ((n:Int)-1) 2=(k0:Int)-1:=by
   rcases Nat.eq_zero_or_pos n with h0 | h0
   ·subst Zl;rw[h0];rfl
   ·rw[show((n:Int)-1)=((n-1:Nat):Int) by omega,show Int.tdiv ((n-1:Nat):Int) 2=(((n-1) / 2:Nat):Int) from rfl];omega
  rw[this];exact Yf (by omega) (by omega)
 rw[htd];unfold Go.Sort.heapSort;rw[<-hn,<-Zl];refine dq (fun s:Array Int×Nat=>[Yn (Xh s.1),Zz .i64 (a:Int),Zz .i64 0,Zz .i64 (n:Int),Zz .i64 ((s.2:Int)-1)]) (fun s=>s.1.size=d.size/\s.2<=n+1/\(0<s.2->s.2<=n\/s.2=1)/\Go.Sort.heapBuild Go.Sort.ltInt n a s.2 s.1=Go.Sort.heapBuild Go.Sort.ltInt n a k0 d) (fun s=>s.2) (fun r=>r=(.exit 0,[Yn (Xh (Go.Sort.heapBuild Go.Sort.ltInt n a k0 d)),Zz .i64 (a:Int),Zz .i64 0,Zz .i64 (n:Int),Zz .i64 (-1)])/\(Go.Sort.heapBuild Go.Sort.ltInt n a k0 d).size=d.size) (d,k0) ⟨rfl,by dsimp only;omega,by dsimp only;omega,rfl⟩ rfl ?_ ?_
 ·rintro⟨e,k⟩ ⟨hs,hk,bG,hr⟩;dsimp only at hs hk bG hr ⊢;simp only[↓cq,↓c4,↓dE,↓dF];cases k with
  | zero =>
   rw[aq (by simp)];refine⟨_,rfl,?_,?_⟩
   ·rw[<-hr];rfl
   ·rw[<-hr];exact hs
  | succ k =>
   rw[show((k+1:Nat):Int)-1=(k:Int) by omega,ah (by simp)];rw[ae (by simp only[Kerb.dU,Xz,Zh,Qa2];refine⟨⟨⟨⟨⟨⟨trivial,?_⟩,?_⟩,?_⟩,?_⟩,?_⟩,?_⟩<;>omega)];simp only[↓gx,↓fm,↓g8,↓lF,↓dF,Kerb.sift,Yg,Kerb.fq];rw[show Zv .i64 ((k:Int)-1)=(k:Int)-1 from Yf (by omega) (by omega)];refine⟨_,rfl,(Go.Sort.siftDown Go.Sort.ltInt n a k e,k),rfl,⟨by dsimp only;rw[Kerb.wE,hs],by dsimp only;omega,by dsimp only;omega,?_⟩,by dsimp only;omega⟩;dsimp only;rw[<-hr];rfl
 rintro _ ⟨rfl,gh⟩;simp only[↓cq,↓c4,↓dE,↓dF,↓lX];rw[ah (Xu _)];generalize Go.Sort.heapBuild Go.Sort.ltInt n a k0 d=e0 at gh ⊢;rw[show Zv .i64 ((n:Int)-1)=(n:Int)-1 from Yf (by omega) (by omega)];refine dq (fun s:Array Int×Nat=>[Yn (Xh s.1),Zz .i64 (a:Int),Zz .i64 0,Zz .i64 ((s.2:Int)-1)]) (fun s=>s.1.size=d.size/\s.2<=n/\Go.Sort.heapPop Go.Sort.ltInt a s.2 s.1=Go.Sort.heapPop Go.Sort.ltInt a n e0) (fun s=>s.2) (fun r=>∃ x y z,r=(.exit 2,[Yn (Xh (Go.Sort.heapPop Go.Sort.ltInt a n e0)),Zz .i64 x,Zz .i64 y,Zz .i64 z])) (e0,n) ⟨gh,Nat.le_refl _,rfl⟩ rfl ?_ ?_
 ·rintro⟨e,k⟩ ⟨hs,hk,hr⟩;dsimp only at hs hk hr ⊢;simp only[↓cq,↓c4,↓dE,↓dF];cases k with
  | zero =>
   rw[aq (by simp)];refine⟨_,rfl,(a:Int),0,((0:Nat):Int)-1,?_⟩;rw[<-hr];rfl
  | succ k =>
   have hp:a<e.size:=by omega
   have hq:a+k<e.size:=by omega
   rw[show((k+1:Nat):Int)-1=(k:Int) by omega,ah (by simp)];simp only[show Zv .i64 ((a:Int)+(k:Int))=((a+k:Nat):Int) from(Yf (by omega) (by omega)).trans (by omega)];rw[Kerb.sw hp hq (fun l=>Zx (aA (Kerb.da l&&Zq ((Zy l:Int)<=1152921504606846976)&&Zq ((0:Int)<=0)&&Zq ((0:Int)<=(k:Int))&&Zq ((0:Int)<=(a:Int))&&Zq ((a:Int)+(k:Int)<=(Zy l:Int))&&Zq ((0:Int)<=(Zy l:Int))) (Yx (Yz [],[Kerb.sift l (0:Int) (k:Int) (a:Int)]))) fun r:AV×aZ=>aH (Yq r) fun x fA=>aJ fA (AV.gP (Yd r) fun vs=>ar vs (Yx (Xd [Yn x,Zz .i64 (a:Int),Zz .i64 0,Zz .i64 (Zv .i64 ((k:Int)-1))]))))];rw[ae (by simp only[Kerb.dU,Xz,Xy,Zh,Qa2];refine⟨⟨⟨⟨⟨⟨trivial,?_⟩,?_⟩,?_⟩,?_⟩,?_⟩,?_⟩<;>omega)];simp only[↓gx,↓fm,↓g8,↓lF,↓dF,Kerb.sift,Yg,Kerb.fq];rw[show Zv .i64 ((k:Int)-1)=(k:Int)-1 from Yf (by omega) (by omega)];refine⟨_,rfl,(Go.Sort.siftDown Go.Sort.ltInt k a 0 (Go.Sort.swp e a (a+k)),k),rfl,⟨by dsimp only;rw[Kerb.wE,Xy,hs],by dsimp only;omega,?_⟩,by dsimp only;omega⟩;dsimp only;rw[<-hr];rfl
 ·rintro _ ⟨x,y,z,rfl⟩;simp only[↓cq,↓c4,↓dE,↓dF,↓lX];rw[ah (Xu _)]
theorem ahA:Wk 184 4 IF:=by
 refine gi Tryz.func184 fun _ _ _ h=> ?_;unfold IF at h;split at h;case h_2=>cases h
 rename_i a b els;obtain⟨aO,rfl⟩:=hZ h;refine Dp [0] (aP (Zq (Zv .i64 (b-a)>=8)) (Zx (IZ [Zz .i64 (Zv .i64 (b-a))] []) (kI .u64 fun n=>Zx (bH (fun st=>az st fun x r=>Ww x fun y=>ai .i64 r fun n r=>ai .i64 r fun cV r=>let t0:Int:=Zv .i64 (Zv .i64 (n+Zv .i64 (Zv .i64 (Int.tdiv cV 4)*2))+1);ai .u64 r fun eE r=>ai .u64 r fun ig r=>let t1:BitVec (Yb .u64):=BitVec.ofInt (Yb .u64) (Zv .u64 (ig-1));ai .i64 r fun dk r=>let t2:Bool:=Zq (0<=dk)&&Zq (dk<(↑(Zy y):Int))&&Yv;let t3:Bool:=Yw (Zw dk) (Zy y)&&Yv;ar r (aP (Zq (dk<=t0)) (Zx (I0 [Xk 0 0] [(0,[Zz .u64 eE])]) fun r=>aH (Yq r) fun x fA=>ai .u64 x fun cK fP=>let t4:List AV:=[Zz .i64 n,Zz .i64 cV,Zz .u64 cK,Zz .u64 ig,Zz .i64 (Zv .i64 (dk+1))];ar fP (aJ fA (Yk .u64 (Yd r) fun g7=>let t7:Int:=Zv .i64 (Zv .u64 (↑(BitVec.toNat (BitVec.ofInt (Yb .u64) g7 &&& t1)):Int));let t5:Int:=Zv .i64 (n+Zv .i64 (t7-cV));let t6:Int:=Zv .i64 (n+t7);aP (Zq (t7>=cV)) (aA (Zq (0<=t5)&&Zq (t5<(↑(Zy y):Int))&&Yv) (aA (Yw (Zw t5) (Zy y)&&Yv) (Yk .u64 (Zg y (Zw t5) Yu) fun n=>aA t2 (aA t3 (Yk .u64 (Zg y (Zw dk) Yu) fun gY=>aA t2 (aA t3 (Yk .u64 (Zg y (Zw dk) Yu) fun kC=>aA (Zy [Zz .u64 n]==nat_lit 1&&Yv&&Yv&&Yv&&Yw (Zw dk) (Zy y)) (aA (Zq (0<=t5)&&Zq (t5<(↑(Zy (Yy y (Zw dk) (Zz .u64 n))):Int))&&Yv) (aA (Yw (Zw t5) (Zy (Yy y (Zw dk) (Zz .u64 n)))&&Yv) (Yk .u64 (Zg (Yy y (Zw dk) (Zz .u64 n)) (Zw t5) Yu) fun qH=>aA (Zy [Zz .u64 gY]==nat_lit 1&&Yv&&Yv&&Yv&&Yw (Zw t5) (Zy (Yy y (Zw dk) (Zz .u64 n)))) (Yx (Xd (Yn (Yy (Yy y (Zw dk) (Zz .u64 n)) (Zw t5) (Zz .u64 gY))::t4))))))))))))) (aA (Zq (0<=t6)&&Zq (t6<(↑(Zy y):Int))&&Yv) (aA (Yw (Zw t6) (Zy y)&&Yv) (Yk .u64 (Zg y (Zw t6) Yu) fun n=>aA t2 (aA t3 (Yk .u64 (Zg y (Zw dk) Yu) fun gY=>aA t2 (aA t3 (Yk .u64 (Zg y (Zw dk) Yu) fun kC=>aA (Zy [Zz .u64 n]==nat_lit 1&&Yv&&Yv&&Yv&&Yw (Zw dk) (Zy y)) (aA (Zq (0<=t6)&&Zq (t6<(↑(Zy (Yy y (Zw dk) (Zz .u64 n))):Int))&&Yv) (aA (Yw (Zw t6) (Zy (Yy y (Zw dk) (Zz .u64 n)))&&Yv) (Yk .u64 (Zg (Yy y (Zw dk) (Zz .u64 n)) (Zw t6) Yu) fun qH=>aA (Zy [Zz .u64 gY]==nat_lit 1&&Yv&&Yv&&Yv&&Yw (Zw t6) (Zy (Yy y (Zw dk) (Zz .u64 n)))) (Yx (Xd (Yn (Yy (Yy y (Zw dk) (Zz .u64 n)) (Zw t6) (Zz .u64 gY))::t4)))))))))))))))) (Yx (Xj (Xf 0,[Yn y,Zz .i64 n,Zz .i64 cV,Zz .u64 eE,Zz .u64 ig,Zz .i64 dk]))))) [Yn els,Zz .i64 a,Zz .i64 (Zv .i64 (b-a)),Zz .u64 (Zv .u64 (Zv .i64 (b-a))),Zz .u64 n,Zz .i64 (Zv .i64 (Zv .i64 (a+Zv .i64 (Zv .i64 (Int.tdiv (Zv .i64 (b-a)) 4)*2))-1))]) fun(r:Ex×List AV)=>az (Yq r) fun x fA=>Ww x fun y=>ai .i64 fA fun n fP=>ai .i64 fP fun n gj=>ai .u64 gj fun n iV=>ai .u64 iV fun n j7=>ai .i64 j7 fun n kH=>ar kH (mZ r.1 (Yx (Yz [],[y])) fun j=>aP (Wq j 0) (Yx (Yz [],[y])) none))) (Yx (Yz [],[els]))) ?_;delta kI;dsimp only[IZ,I0,bB,cP,ak,jz,ai,ef,iX];simp only[Zh,Qa2] at aO;obtain⟨⟨⟨⟨ib,hlen⟩,Jy⟩,xk⟩,hb⟩:=aO;obtain⟨d,rfl,hd⟩:=Kerb.nw ib;simp only[Xz] at hlen hb;obtain⟨a,rfl⟩:=Zm (show 0<=a by omega);obtain⟨b,rfl⟩:=Zm (show 0<=b by omega);simp only[Kerb.E9,Kerb.fq,Yg];obtain⟨l,hl⟩:∃ l,l=b-a:=⟨_,rfl⟩
 rw[show Zv .i64 ((b:Int)-(a:Int))=((l:Nat):Int) from(Yf (by omega) (by omega)).trans (by omega)];unfold Go.Sort.breakPatterns;dsimp only;rw[<-hl];by_cases h8:l>=8;case neg =>
  rw[aq (by simp;omega),Qa0 h8]
 rw[ah (by simp;omega),Qa1 h8,ae (by simp;omega)];simp only[↓gx,↓fm,↓cq,↓g8,↓lF,↓dE,↓dF,↓dX];rw[Kerb.QY];have hp:=Kerb.TS (n:=l) (by omega);generalize 1 <<< Go.Sort.bitsLen l=m at hp ⊢;simp only[show Int.tdiv (l:Int) 4=((l / 4:Nat):Int) from rfl,show Zv .i64 (((l / 4:Nat):Int))=((l / 4:Nat):Int) from(Yf (by omega) (by omega)).trans (by omega),show Zv .i64 (((l / 4:Nat):Int)*2)=((l / 4*2:Nat):Int) from(Yf (by omega) (by omega)).trans (by omega),show Zv .i64 ((a:Int)+((l / 4*2:Nat):Int))=((a+l / 4*2:Nat):Int) from(Yf (by omega) (by omega)).trans (by omega),show Zv .i64 (((a+l / 4*2:Nat):Int)-1)=((a+l / 4*2-1:Nat):Int) from(Yf (by omega) (by omega)).trans (by omega),Kerb.OL (n:=(l:Int)) (by omega) (by omega)];obtain⟨ix,hix⟩:∃ ix,ix=a+l / 4*2-1:=⟨_,rfl⟩;rw[<-hix];rw[show Go.Sort.breakStep a l m (Go.Sort.breakStep a l m (Go.Sort.breakStep a l m (UInt64.ofNat l,d) ix) (ix+1)) (ix+2)=Kerb.OO a l m ix d 3 from rfl];refine dq (fun k:Nat=>[Yn (Xh (Kerb.OO a l m ix d k).2),Zz .i64 (a:Int),Zz .i64 (l:Int),Zz .u64 ((Kerb.OO a l m ix d k).1.toNat:Int),Zz .u64 (m:Int),Zz .i64 ((ix+k:Nat):Int)]) (fun k=>k<=3) (fun k=>3-k) (fun r=>∃ n1 n2 n3 n4 n5,r=(.exit 0,[Yn (Xh (Kerb.OO a l m ix d 3).2),Zz .i64 n1,Zz .i64 n2,Zz .u64 n3,Zz .u64 n4,Zz .i64 n5])) 0 (by omega) (by simp[Kerb.OO];omega) ?_ ?_
 ·intro k hk;simp only[↓cq,↓c4,↓dE,↓dF];simp only[show Int.tdiv (l:Int) 4=((l / 4:Nat):Int) from rfl,show Zv .i64 (((l / 4:Nat):Int))=((l / 4:Nat):Int) from(Yf (by omega) (by omega)).trans (by omega),show Zv .i64 (((l / 4:Nat):Int)*2)=((l / 4*2:Nat):Int) from(Yf (by omega) (by omega)).trans (by omega),show Zv .i64 ((a:Int)+((l / 4*2:Nat):Int))=((a+l / 4*2:Nat):Int) from(Yf (by omega) (by omega)).trans (by omega),show Zv .i64 (((a+l / 4*2:Nat):Int)+1)=((a+l / 4*2+1:Nat):Int) from(Yf (by omega) (by omega)).trans (by omega)];by_cases h3:k<3;case neg =>
   rw[aq (by simp;omega)];rw[show k=3 by omega];exact⟨_,rfl,_,_,_,_,_,rfl⟩
  rw[ah (by simp;omega)];have hr:=(Kerb.OO a l m ix d k).1.toNat_lt;rw[ae (by simp;omega)];simp only[↓gx,↓fm,↓cq,↓g8,↓lF,↓dE,↓dF,↓dX];have dH:Kerb.OO a l m ix d (k+1)=Go.Sort.breakStep a l m (Kerb.OO a l m ix d k) (ix+k):=rfl;have hz:=Kerb.GP a l m ix d k;generalize Kerb.OO a l m ix d k=st at dH hz ⊢;obtain⟨r,e⟩:=st;dsimp only at dH hz ⊢;unfold Go.Sort.breakStep at dH;dsimp only at dH;rw[Kerb.SE];generalize Go.Sort.xorNext r=r2 at dH ⊢;have hm:=Kerb.SX r2 (m:=m) (by omega) (by omega);have hand:r2.toNat &&& (m-1)<=m-1:=Nat.and_le_right
  erw [hm]
  generalize r2.toNat &&& (m-1)=o at dH hand ⊢;have g1:ix+k<e.size:=by omega
  have hw:Zv .i64 (((ix+k:Nat):Int)+1)=((ix+(k+1):Nat):Int):=(Yf (by omega) (by omega)).trans (by omega);by_cases ho:o>=l
  ·rw[Qa1 ho] at dH;have g2:a+(o-l)<e.size:=by omega
   rw[ah (by simp;omega)];simp only[show Zv .i64 ((o:Int)-(l:Int))=((o-l:Nat):Int) from(Yf (by omega) (by omega)).trans (by omega),show Zv .i64 ((a:Int)+((o-l:Nat):Int))=((a+(o-l):Nat):Int) from(Yf (by omega) (by omega)).trans (by omega),hw];rw[Xw g2,Xw g1,Xg g1 (by simp[Xz];omega),Xb,Xg (by rw[Yh];exact g2) (by simp[Xz];omega),Xb,show(Yj (Yj e (ix+k) e[a+(o-l)]!) (a+(o-l)) e[ix+k]!)=Go.Sort.swp e (ix+k) (a+(o-l)) from rfl];refine⟨_,rfl,k+1,?_,by dsimp only;omega,by dsimp only;omega⟩;dsimp only;rw[dH]
  ·rw[Qa0 ho] at dH;have g2:a+o<e.size:=by omega
   rw[aq (by simp;omega)];simp only[show Zv .i64 ((a:Int)+(o:Int))=((a+o:Nat):Int) from(Yf (by omega) (by omega)).trans (by omega),hw];rw[Xw g2,Xw g1,Xg g1 (by simp[Xz];omega),Xb,Xg (by rw[Yh];exact g2) (by simp[Xz];omega),Xb,show(Yj (Yj e (ix+k) e[a+o]!) (a+o) e[ix+k]!)=Go.Sort.swp e (ix+k) (a+o) from rfl];refine⟨_,rfl,k+1,?_,by dsimp only;omega,by dsimp only;omega⟩;dsimp only;rw[dH]
 ·rintro _ ⟨n1,n2,n3,n4,n5,rfl⟩;simp only[↓cq,↓c4,↓dE,↓dF,↓lX];rw[ah (Xu _)]
theorem ahP:Wk 231 4 IK:=by
 refine gi Tryz.func231 fun _ _ _ h=> ?_;unfold IK at h;split at h;case h_2=>cases h
 rename_i k sx sy sz t e rc;obtain⟨aO,rfl⟩:=hZ h;refine il (Zx (nT [Zz .u64 k] []) (kL fun b=>aP (!b) (Yx (Yz [Zu [],Zz .i64 10],[])) (Zx (lY [Xx [Zk sx,Zk sy,Zk sz]] []) (kL fun b=>aP (!b) (Yx (Yz [Zu [],Zz .i64 103],[])) (aP (!Zp t 4294967295) (Yx (Yz [Zu [],Zz .i64 104],[])) (aP (!Zp e 4294967295) (Yx (Yz [Zu [],Zz .i64 104],[])) (aP (Zq (t>e)) (Yx (Yz [Zu [],Zz .i64 104],[])) (aP (Zq ((↑(Zy rc):Int)>300)) (Yx (Yz [Zu [],Zz .i64 105],[])) (Zx (o_ [Zz .u64 k] []) (kB fun b=>Zx (lK [Zu b,Xx [Zk sx,Zk sy,Zk sz]] []) (kO fun l=>Zx (gQ [Zu l,Zz .i64 t,Zd Yp] []) (kO fun l=>Zx (gQ [Zu l,Zz .i64 e,Zd Yp] []) (kO fun l=>Zx (pu [Zu l,Zz .i64 (↑(Zy rc):Int),Zd Yp] []) (kO fun l=>aA (room (Zy l+Zy rc) 1) (Zx (mK [Zu (l++rc)] []) (kO fun l=>Yx (Yz [Zu l,Zz .i64 0],[]))))))))))))))))) ?_;delta kB kO kL;dsimp only[nT,gQ,lY,lK,pu,o_,mK,bB,cP,ak,jz,ai,ef,iX];simp only[Zh,Qa2] at aO;simp only[A0,Wz,Wx,Kerb.h_.av];unfold Kerb.eK;simp only;rw[ae (by simp;omega)];cases h1:Kerb.bW k
 ·rfl
 rw[Zj,aR,ae (by simp;omega),Qa0 (by simp)];cases h2:Kerb.ck.valid ⟨sx,sy,sz⟩
 ·rfl
 rw[Zj,aR,Qa0 (by simp)];have hp4:Kerb.period t e=(Zp t 4294967295&&(Zp e 4294967295&&Zq (t<=e))):=by unfold Kerb.period;rw[Bool.and_assoc]
 rw[hp4];cases h4:Zp t 4294967295
 ·rfl
 rw[Zj,aR,Wy];cases h5:Zp e 4294967295
 ·rfl
 rw[Zj,aR,Wy];by_cases h6:t<=e;case neg=>rw[ah (by simp;omega),Qa5 h6];rfl
 rw[aq (by simp;omega),Qa4 h6];rw[Qa0 (by simp)];by_cases h8:300<rc.length
 ·rw[ah (by simp;omega),Qa1 h8]
 rw[aq (by simp;omega),Qa0 h8];have l2:=Wv h2;simp only at l2;rw[ae (by simp;omega),ae (by simp[Zn,Zb,Zf,Xp];omega),ae (by simp[Zn,Zb,Zf,Xp];omega),ae (by simp[Zn,Zb,Zf,Xp];omega),ae (by simp[Zn,Zb,Zf,Xp];omega),ae (Xq (by simp[Zn,Zb,Zf,Xp];omega)),ae (by simp[Zn,Zb,Zf,Xp];omega)];simp[Xp]
theorem ah9:Wk 262 4 Ab:=by
 refine gi Tryz.func262 fun _ _ _ h=> ?_;unfold Ab at h;split at h;case h_2=>cases h
 rename_i a b c els s;obtain⟨aO,rfl⟩:=hZ h;refine Dp [0,4] (Zx (CO [AV.b_ 0 55 1,Zz .i64 a,Zz .i64 b,Xk 3 0] [(0,els),(0+1+1+1,[Zz .i64 s])]) fun r=>aH (Yq r) fun x fA=>aH fA fun x_1 fP=>az x_1 fun x_2 gj=>Yk .i64 x_2 fun n=>ar gj (aJ fP (AV.gP (Yd r) fun vs=>az vs fun x_3 r=>Yk .i64 x_3 fun cV=>az r fun x_4 r=>Yk .i64 x_4 fun eE=>ar r (Zx (CO [AV.b_ 0 55 1,Zz .i64 eE,Zz .i64 c,Xk 3 0] [(0,x),(0+1+1+1,[Zz .i64 n])]) fun r=>aH (Yq r) fun x iV=>aH iV fun x_5 j7=>az x_5 fun x_6 kH=>Yk .i64 x_6 fun n=>ar kH (aJ j7 (AV.gP (Yd r) fun vs=>az vs fun x_7 r=>Yk .i64 x_7 fun ig=>az r fun x_8 r=>Yk .i64 x_8 fun dk=>ar r (Zx (CO [AV.b_ 0 55 1,Zz .i64 cV,Zz .i64 ig,Xk 3 0] [(0,x),(0+1+1+1,[Zz .i64 n])]) fun r=>aH (Yq r) fun x nz=>aH nz fun x_9 nK=>az x_9 fun x_10 nL=>Yk .i64 x_10 fun n=>ar nL (aJ nK (AV.gP (Yd r) fun vs=>az vs fun x_11 r=>Yk .i64 x_11 fun cK=>az r fun x_12 r=>Yk .i64 x_12 fun g7=>ar r (Yx (Zz .i64 g7,[x,[Zz .i64 n]]))))))))))) ?_;dsimp only[CO];simp only[Zh,Qa2] at aO;obtain⟨⟨⟨⟨⟨⟨⟨⟨⟨ib,hlen⟩,Jy⟩,WD⟩,Nd⟩,vN⟩,J8⟩,xn⟩,FD⟩,lk⟩:=aO;obtain⟨d,rfl,hd⟩:=Kerb.nw ib;simp only[Xz] at hlen WD vN xn;obtain⟨a,rfl⟩:=Zm (show 0<=a by omega);obtain⟨b,rfl⟩:=Zm (show 0<=b by omega);obtain⟨c,rfl⟩:=Zm (show 0<=c by omega);obtain⟨s,rfl⟩:=Zm (show 0<=s by omega);simp only[Kerb.order2,Kerb.median,Kerb.fq,Yg];have h1:=Kerb.sq (lt:=Go.Sort.ltInt) (d:=d) (s:=s) (show a<d.size by omega) (show b<d.size by omega);have h2:=Kerb.sq (lt:=Go.Sort.ltInt) (d:=d) (s:=(Go.Sort.order2 Go.Sort.ltInt d a b s).2.2) h1.2.1 (show c<d.size by omega);rw[ae (by simp only[Kerb.dU,Xz,Xy,Zh,Qa2,Qa9,Qa8];omega)];simp only[↓gx,↓fm,↓cq,↓g8,↓lF,↓dE,↓dF,↓dX];simp only[Kerb.fq,Yg];rw[ae (by simp only[Kerb.dU,Xz,Xy,Zh,Qa2,Qa9,Qa8];omega)];simp only[↓gx,↓fm,↓cq,↓g8,↓lF,↓dE,↓dF,↓dX];simp only[Kerb.fq,Yg];rw[ae (by simp only[Kerb.dU,Xz,Xy,Zh,Qa2,Qa9,Qa8];omega)];simp only[↓gx,↓fm,↓cq,↓g8,↓lF,↓dE,↓dF,↓dX];rfl
theorem aif:Wk 292 4 I6:=by
 refine gi Tryz.func292 fun _ _ _ h=> ?_;unfold I6 at h;split at h;case h_2=>cases h
 rename_i k x y z lf kv tk t little;obtain⟨aO,rfl⟩:=hZ h;refine il (Zx (nT [Zz .u64 k] []) (kL fun b=>aP (!b) (Yx (Yz [Zu [],Zz .i64 10],[])) (Zx (lY [Xx [Zk x,Zk y,Zk z]] []) (kL fun b=>aP (!b) (Yx (Yz [Zu [],Zz .i64 103],[])) (aP (!Zp lf 255) (Yx (Yz [Zu [],Zz .i64 104],[])) (aP (!Zp kv 255) (Yx (Yz [Zu [],Zz .i64 104],[])) (aP (!Zp t 4294967295) (Yx (Yz [Zu [],Zz .i64 104],[])) (aP (Zq ((↑(Zy tk):Int)>255)) (Yx (Yz [Zu [],Zz .i64 105],[])) (Zx (o_ [Zz .u64 k] []) (kB fun b=>aA (room (Zy ([]++Kerb.aL (bif little then 1 else 0) 1 Yp)+Zy b) 1) (Zx (lK [Zu ([]++Kerb.aL (bif little then 1 else 0) 1 Yp++b),Xx [Zk x,Zk y,Zk z]] []) (kO fun l=>Zx (gV [Zu l,Zz .i64 lf] []) (kO fun l=>Zx (gV [Zu l,Zz .i64 kv] []) (kO fun l=>Zx (gV [Zu l,Zz .i64 (↑(Zy tk):Int)] []) (kO fun l=>aA (room (Zy l+Zy tk) 1) (Zx (gQ [Zu (l++tk),Zz .i64 t,Zd little] []) (kO fun l=>Zx (mK [Zu l] []) (kO fun l=>Yx (Yz [Zu l,Zz .i64 0],[]))))))))))))))))))) ?_;delta kB kO kL;dsimp only[nT,gV,gQ,lY,lK,o_,mK,bB,cP,ak,jz,ai,ef,iX];simp only[Zh,Qa2] at aO;obtain⟨⟨⟨⟨q1,q2⟩,q3⟩,h0⟩,h1⟩:=aO;simp only[A0];unfold Kerb.bO;rw[ae (by simp[h0,h1])];cases hk:Kerb.bW k
 ·rfl
 rw[Zj,aR,ae (by simp[q1,q2,q3])];cases h1:Kerb.ck.valid ⟨x,y,z⟩
 ·rfl
 rw[Zj,aR];cases h4:Zp lf 255
 ·rfl
 rw[Zj,aR];cases h5:Zp kv 255
 ·rfl
 rw[Zj,aR];cases h6:Zp t 4294967295
 ·rfl
 rw[Zj,aR];by_cases h7:255<tk.length
 ·rw[ah (by simp;omega),Qa0 (by simp),Qa0 (by simp),Qa0 (by simp),Qa1 h7]
 have l1:=Wv h1;simp only at l1;rw[aq (by simp;omega),Qa0 (by simp),Qa0 (by simp),Qa0 (by simp),Qa0 h7];rw[ae (by simp;omega),ae (Xq (by first | (simp[Zn,Zf,Zb];done) | (simp[Zn,Zf,Zb];omega))),ae (by first | (simp[Zn,Zf,Zb];done) | (simp[Zn,Zf,Zb];omega)),ae (by first | (simp[Zn,Zf,Zb];done) | (simp[Zn,Zf,Zb];omega)),ae (by first | (simp[Zn,Zf,Zb];done) | (simp[Zn,Zf,Zb];omega)),ae (by first | (simp[Zn,Zf,Zb];done) | (simp[Zn,Zf,Zb];omega)),ae (Xq (by first | (simp[Zn,Zf,Zb];done) | (simp[Zn,Zf,Zb];omega))),ae (by first | (simp[Zn,Zf,Zb];done) | (simp[Zn,Zf,Zb];omega)),ae (by first | (simp[Zn,Zf,Zb];done) | (simp[Zn,Zf,Zb];omega))];simp
theorem aii:Wk 306 4 I8:=by
 refine gi Tryz.func306 fun _ _ _ h=> ?_;unfold I8 at h;split at h;case h_2=>cases h
 rename_i li x y z ad k lf OT sv ins;obtain⟨aO,rfl⟩:=hZ h;refine il (Zx (lY [Xx [Zk x,Zk y,Zk z]] []) (kL fun b=>aP (!b) (Yx (Zz .i64 103,[])) (Zx (vD [Zk sv] []) (kL fun b=>aP (!b) (Yx (Zz .i64 103,[])) (Zx (vE [Zk ins] []) (kL fun b=>aP (!b) (Yx (Zz .i64 103,[])) (Zx (CM [Zz .u64 k] []) (kI .i64 fun n=>aP (!n==2) (Yx (Zz .i64 10,[])) (aP (!Zp ad 4294967295) (Yx (Zz .i64 104,[])) (aP (!Zp lf 255) (Yx (Zz .i64 104,[])) (aP (!Zp OT 4294967295) (Yx (Zz .i64 104,[])) (Yx (Zz .i64 0,[]))))))))))))) ?_;delta kL kI;dsimp only[vD,vE,lY,CM,bB,cP,ak,jz,ai,ef,iX];simp only[Zh,Qa2] at aO;obtain⟨⟨⟨⟨⟨⟨h1,h2⟩,h3⟩,h4⟩,h5⟩,h6⟩,h7⟩:=aO;simp only[h1,h2,h3,h4,h5,h6,h7,Qb4,Bool.and_self,↓A0,A0];unfold Kerb.eU.err;dsimp only;cases Kerb.ck.valid ⟨x,y,z⟩
 ·rfl
 cases Kerb.validName sv
 ·rfl
 cases Kerb.dg ins
 ·rfl
 simp only[Zj,Bool.and_self,aR];by_cases hc:Kerb.jK k=2;case neg=>rw[ah (by simpa using hc),Qa0 (by simp),Qa1 hc]
 rw[aq (by simp[hc]),Qa0 (by simp),Qa0 (by simp[hc])];cases Zp ad 4294967295
 ·rfl
 cases Zp lf 255
 ·rfl
 cases Zp OT 4294967295
 ·rfl
 rfl
theorem aim:Wk 339 4 js:=by
 refine gi Tryz.func339 fun _ _ _ h=> ?_;unfold js at h;split at h;case h_2=>cases h
 rename_i B at_ li bad;obtain⟨aO,rfl⟩:=hZ h;refine Dp [0] (Zx (I_ [Zu B,Zz .i64 at_,Zd li] []) (kT fun vs=>ai .i64 vs fun n r=>ai .i64 r fun cV r=>ai .i64 r fun eE r=>ar r (Yx (Zz .i64 n,[[Zu B,Zz .i64 (bif bad || !eE==0 then at_ else cV),Zd li,Zd (bad || !eE==0)]])))) ?_;delta kT;dsimp only[I_,bB,cP,ak,jz,ai,ef,iX];simp only[A0];rw[ae aO]
theorem ain:Wk 340 4 iJ:=by
 refine gi Tryz.func340 fun _ _ _ h=> ?_;unfold iJ at h;split at h;case h_2=>cases h
 rename_i B at_ li bad;obtain⟨aO,rfl⟩:=hZ h;refine Dp [0] (Zx (I' [Zu B,Zz .i64 at_] []) (kT fun vs=>ai .i64 vs fun n r=>ai .i64 r fun cV r=>ai .i64 r fun eE r=>ar r (Yx (Zz .i64 n,[[Zu B,Zz .i64 (bif bad || !eE==0 then at_ else cV),Zd li,Zd (bad || !eE==0)]])))) ?_;delta kT;dsimp only[I',bB,cP,ak,jz,ai,ef,iX];simp only[A0];rw[ae aO]
theorem aio:Wk 341 4 pw:=by
 refine gi Tryz.func341 fun _ _ _ h=> ?_;unfold pw at h;split at h;case h_2=>cases h
 rename_i B at_ li bad;obtain⟨aO,rfl⟩:=hZ h;refine Dp [0] (Zx (Ja [Zu B,Zz .i64 at_,Zd li] []) (kT fun vs=>ai .i64 vs fun n r=>ai .i64 r fun cV r=>ai .i64 r fun eE r=>ar r (Yx (Zz .i64 n,[[Zu B,Zz .i64 (bif bad || !eE==0 then at_ else cV),Zd li,Zd (bad || !eE==0)]])))) ?_;delta kT;dsimp only[Ja,bB,cP,ak,jz,ai,ef,iX];simp only[A0];rw[ae aO]
theorem ait:Wk 347 4 I9:=by
 refine gi Tryz.func347 fun _ _ _ h=> ?_;unfold I9 at h;split at h;case h_2=>cases h
 rename_i lb t k st en kv x y z tk;obtain⟨aO,rfl⟩:=hZ h;refine il (let t1:Option (AV×aZ):=Yx (Yz [Zu [],Zz .i64 104],[]);let t2:Option (AV×aZ):=Yx (Yz [Zu [],Zz .i64 108],[]);let t3:List AV:=[Xx [Zk x,Zk y,Zk z]];let t0:Option (AV×aZ):=aP (!Zp t 4294967295) t1 (Zx (gQ [Zu lb,Zz .i64 t,Zd Yp] []) (kO fun l=>aP (!lb==[(116:UInt8),(107:UInt8),(116:UInt8),(71:UInt8)]) (aP (!k==0) t2 (aP (!st==0) t2 (aP (!en==0) t2 (aP (!kv==0) t2 (aP (!(x==[]&&(y==[]&&z==[]))) t2 (aP (Zq ((↑(Zy tk):Int)>0)) t2 (Zx (mK [Zu l] []) (kO fun l=>Yx (Yz [Zu l,Zz .i64 0],[]))))))))) (Zx (nT [Zz .u64 k] []) (kL fun b=>aP (!b) (Yx (Yz [Zu [],Zz .i64 10],[])) (aP (!Zp st 4294967295) t1 (aP (!Zp en 4294967295) t1 (aP (!Zp kv 255) t1 (Zx (lY t3 []) (kL fun b=>aP (!b) (Yx (Yz [Zu [],Zz .i64 103],[])) (aP (Zq ((↑(Zy tk):Int)>255)) (Yx (Yz [Zu [],Zz .i64 105],[])) (Zx (o_ [Zz .u64 k] []) (kB fun b=>aA (room (Zy l+Zy b) 1) (Zx (gQ [Zu (l++b),Zz .i64 st,Zd Yp] []) (kO fun l=>Zx (gQ [Zu l,Zz .i64 en,Zd Yp] []) (kO fun l=>Zx (gV [Zu l,Zz .i64 kv] []) (kO fun l=>Zx (lK (Zu l::t3) []) (kO fun l=>Zx (gV [Zu l,Zz .i64 (↑(Zy tk):Int)] []) (kO fun l=>aA (room (Zy l+Zy tk) 1) (Zx (mK [Zu (l++tk)] []) (kO fun l=>Yx (Yz [Zu l,Zz .i64 0],[])))))))))))))))))))));aP (lb==[(116:UInt8),(103:UInt8),(115:UInt8),(84:UInt8)]) (aP (!Zp t 4294967295) t1 (Zx (gQ [Zu lb,Zz .i64 t,Zd Yp] []) (kO fun l=>Zx (nT [Zz .u64 k] []) (kL fun b=>aP (!b) (Yx (Yz [Zu [],Zz .i64 10],[])) (aP (!Zp st 4294967295) t1 (aP (!Zp en 4294967295) t1 (aP (!Zp kv 255) t1 (Zx (lY t3 []) (kL fun b=>aP (!b) (Yx (Yz [Zu [],Zz .i64 103],[])) (aP (Zq ((↑(Zy tk):Int)>255)) (Yx (Yz [Zu [],Zz .i64 105],[])) (Zx (o_ [Zz .u64 k] []) (kB fun b=>aA (room (Zy l+Zy b) 1) (Zx (gQ [Zu (l++b),Zz .i64 st,Zd Yp] []) (kO fun l=>Zx (gQ [Zu l,Zz .i64 en,Zd Yp] []) (kO fun l=>Zx (gV [Zu l,Zz .i64 kv] []) (kO fun l=>Zx (lK (Zu l::t3) []) (kO fun l=>Zx (gV [Zu l,Zz .i64 (↑(Zy tk):Int)] []) (kO fun l=>aA (room (Zy l+Zy tk) 1) (Zx (mK [Zu (l++tk)] []) (kO fun l=>Yx (Yz [Zu l,Zz .i64 0],[]))))))))))))))))))))) (aP (!lb==[(116:UInt8),(107:UInt8),(116:UInt8),(71:UInt8)]) (aP (!lb==[(67:UInt8),(80:UInt8),(87:UInt8),(100:UInt8)]) (Yx (Yz [Zu [],Zz .i64 80],[])) t0) t0)) ?_;delta kB kO kL;dsimp only[nT,gV,gQ,lY,lK,o_,mK,bB,cP,ak,jz,ai,ef,iX];have S8:([103,84,71,83]:List UInt8)=Kerb.Aq:=rfl;have LH:([103,84,75,84]:List UInt8)=Kerb.oD:=rfl;have PI:([67,80,87,108]:List UInt8)=Kerb.gD:=rfl;have G3:([67,80,87,100]:List UInt8)=Kerb.nl:=rfl;have S9:([116,103,115,84]:List UInt8)=Kerb.FJ:=rfl;have Fk:([116,107,116,71]:List UInt8)=Kerb.vd:=rfl;have ajR:=aO;simp only[Zh,Qa2] at aO;have hk:(Zq (0<=k)&&Zq (k<18446744073709551616))=Yv:=by simp;omega
 have hv:(Zq (x.length<=9223372036854775807)&&Zq (y.length<=9223372036854775807)&&Zq (z.length<=9223372036854775807))=Yv:=by simp;omega
 simp only[A0,G3,S9,Fk,hk,hv];unfold Kerb.cg;simp only;cases hg:(lb==Kerb.FJ);case true =>
  have ht:Kerb.gW lb=Yv:=by simp[Kerb.gW,hg]
  have hl:lb.length=4:=by rw[Qb0 hg];rfl
  simp only[ht,gn,Zj,Bool.false_and];rw[Qa0 (by simp)];cases h1:Zp t 4294967295
  ·rfl
  rw[Zj,aR,Qa0 (by simp),Qa1 trivial,ae (by simp;omega)];cases h2:Kerb.bW k
  ·rfl
  rw[Zj,aR,Qa0 (by simp)];cases h3:Zp st 4294967295
  ·rfl
  rw[Zj,aR];cases h4:Zp en 4294967295
  ·rfl
  rw[Zj,aR];cases h5:Zp kv 255
  ·rfl
  rw[Zj,aR,Qa0 (by simp)];cases h6:Kerb.ck.valid ⟨x,y,z⟩
  ·rfl
  have l1:=Wv h6;simp only at l1;rw[Zj,aR,Qa0 (by simp)];by_cases h7:255<tk.length
  ·rw[ah (by simp;omega),Qa1 h7]
  rw[aq (by simp;omega),Qa0 h7];rw[ae (Xq (by simp[Zf,Zb];omega)),ae (by simp[Zf,Zb];omega),ae (by simp[Zf,Zb];omega),ae (by simp[Zf,Zb];omega),ae (by simp[Zf,Zb];omega),ae (by simp[Zf,Zb,Zn];omega),ae (Xq (by simp[Zf,Zb,Zn];omega)),ae (by simp[Zf,Zb,Zn];omega)];simp[Kerb.tA]
 cases hgv:(lb==Kerb.vd);case true =>
  have ht:Kerb.gW lb=Yv:=by simp[Kerb.gW,hgv]
  have hl:lb.length=4:=by rw[Qb0 hgv];rfl
  simp only[ht,gn,aR,Zj,Bool.false_and];rw[Qa0 (by simp)];cases h1:Zp t 4294967295
  ·rfl
  rw[Zj,aR,Qa0 (by simp),Qa1 trivial,ae (by simp;omega)];cases h2:Kerb.bW k
  ·rfl
  rw[Zj,aR,Qa0 (by simp)];cases h3:Zp st 4294967295
  ·rfl
  rw[Zj,aR];cases h4:Zp en 4294967295
  ·rfl
  rw[Zj,aR];cases h5:Zp kv 255
  ·rfl
  rw[Zj,aR,Qa0 (by simp)];cases h6:Kerb.ck.valid ⟨x,y,z⟩
  ·rfl
  have l1:=Wv h6;simp only at l1;rw[Zj,aR,Qa0 (by simp)];by_cases h7:255<tk.length
  ·rw[ah (by simp;omega),Qa1 h7]
  rw[aq (by simp;omega),Qa0 h7];rw[ae (Xq (by simp[Zf,Zb];omega)),ae (by simp[Zf,Zb];omega),ae (by simp[Zf,Zb];omega),ae (by simp[Zf,Zb];omega),ae (by simp[Zf,Zb];omega),ae (by simp[Zf,Zb,Zn];omega),ae (Xq (by simp[Zf,Zb,Zn];omega)),ae (by simp[Zf,Zb,Zn];omega)];simp[Kerb.tA]
 have ht:Kerb.gW lb=Yp:=by simp[Kerb.gW,hg,hgv]
 simp only[ht,gn,aR,Bool.not_false,Wy];cases hc:(lb==Kerb.nl)
 ·rfl
 have hl:lb.length=4:=by rw[Qb0 hc];rfl
 rw[Zj,aR,Qa0 (by simp)];cases h1:Zp t 4294967295
 ·rfl
 rw[Zj,aR,Qa0 (by simp),Qa0 (by simp),ae (by simp;omega)];by_cases h2:k=0;case neg=>rw[ah (by simpa using h2),Qa1 (.inl h2)]
 rw[aq (by simp[h2])];by_cases h3:st=0;case neg=>rw[ah (by simpa using h3),Qa1 (.inr (.inl h3))]
 rw[aq (by simp[h3])];by_cases h4:en=0;case neg=>rw[ah (by simpa using h4),Qa1 (.inr (.inr (.inl h4)))]
 rw[aq (by simp[h4])];by_cases h5:kv=0;case neg=>rw[ah (by simpa using h5),Qa1 (.inr (.inr (.inr (.inl h5))))]
 rw[aq (by simp[h5])];show aP (!(Kerb.ck.Hz ⟨x,y,z⟩)) _ _=_;cases h6:Kerb.ck.Hz ⟨x,y,z⟩
 ·rw[Qa1 (.inr (.inr (.inr (.inr (.inl rfl)))))];rfl
 rw[Zj,aR];by_cases h7:tk=[];case neg=>rw[ah (by have:=List.length_pos_iff.2 h7;simp;omega),Qa1 (.inr (.inr (.inr (.inr (.inr h7)))))]
 rw[aq (by simp[h7]),Qa0 (by simp[h2,h3,h4,h5,h7]),ae (by simp[Zf];omega)]
theorem w47:Wk 47 5 K4:=by
 refine gi Tryz.func47 fun _ _ _ h=> ?_;unfold K4 at h;split at h;case h_2=>cases h
 rename_i b;obtain⟨aO,rfl⟩:=hZ h;refine il (let t1:Int:=Zv .i64 (↑(BitVec.toNat (BitVec.ofInt (Yb .i64) (Zv .i64 (Zv .i64 (↑(Xn (Zg b (Zw 10) (0:UInt8))):Int)*2 ^ min (Zw 8) (Yb .i64))) ||| BitVec.ofInt (Yb .i64) (Zv .i64 (↑(Xn (Zg b (Zw 11) (0:UInt8))):Int)))):Int);let t2:Option (AV×aZ):=Yx (Yz [Xx [Zz .i64 0,Zz .u64 0,Zu []],Zz .i64 0,Zz .i64 100],[]);let t3:Option (AV×aZ):=Yx (Yz [Xx [Zz .i64 0,Zz .u64 0,Zu []],Zz .i64 0,Zz .i64 101],[]);let t0:Int:=Zv .i64 (12+t1);aP (Zq ((↑(Zy b):Int)<12)) t3 (aA (Zq (1<(↑(Zy b):Int))) (aA (Zq (10<=(↑(Zy b):Int))) (Zx (RX [Zu (List.drop (Zw 2) (List.take (Zw 10) b))] []) (kT fun vs=>ai .u64 vs fun n r=>ak r fun fS r=>ar r (aA (Zq (10<(↑(Zy b):Int))) (aA (Zq (11<(↑(Zy b):Int))) (aA (Zq (0<(↑(Zy b):Int))) (aP (!Zg b (Zw 0) (0:UInt8)==(66:UInt8)) t2 (aP (!Kerb.isKind (Zv .i64 (↑(Xn (Zg b (Zw 1) (0:UInt8))):Int))) t2 (aP (!fS) t2 (aP (Zq (t1>1000)) t2 (aP (Zq ((↑(Zy b):Int)<t0)) t3 (aA (Zq (12<=t0)&&Zq (t0<=t0)&&Zq (t0<=(↑(Zy b):Int))) (Zx (RY [Zu (List.drop (Zw 12) (List.take (Zw t0) b))] []) (kB fun l6=>Yx (Yz [Xx [Zz .i64 (Zv .i64 (↑(Xn (Zg b (Zw 1) (0:UInt8))):Int)),Zz .u64 n,Zu l6],Zz .i64 t0,Zz .i64 0],[]))))))))))))))))) ?_;delta kT kB;dsimp only[RX,RY,bB,cP,ak,jz,ai,ef,iX];simp only[Qa2] at aO;unfold Kerb.bj;by_cases h0:b.length<12
 ·rw[ah (by simp;omega),Qa1 h0];rfl
 rw[aq (by simp;omega),Qa0 h0];have hc:=Kerb.AD b 2 8;have hs:(b.getD 10 0).toNat*256+(b.getD 11 0).toNat=Kerb.kr b:=rfl;simp only[Kerb.PE,Kerb.Mn];simp only[show Zw 0=0 from rfl,show Zw 1=1 from rfl,show Zw 10=10 from rfl,show Zw 11=11 from rfl,Kerb.EW,hs];rw[ae (by simp;omega),ae (by simp;omega),ae (by simp;omega)];simp only[↓A0];rw[ae (by simp;omega),ae (by simp;omega),ae (by simp;omega)];by_cases h1:b.getD 0 0=66;case neg=>rw[ah (by simpa using h1),Qa1 (.inl h1)];rfl
 rw[aq (by simpa using h1)];cases h2:Kerb.isKind ((b.getD 1 0).toNat:Int)
 ·rw[Qa1 (.inr (.inl rfl))];rfl
 rw[Zj,aR];cases h3:(Kerb.cR (Kerb.cut b 2 8)).2
 ·rw[Qa1 (.inr (.inr (.inl rfl)))];rfl
 rw[Zj,aR];by_cases h4:1000<Kerb.kr b
 ·rw[ah (by simp;omega),Qa1 (.inr (.inr (.inr h4)))];rfl
 rw[aq (by simp;omega),Qa0 (by rintro(h | h | h | h)<;>first | exact h h1 | cases h | omega),wrap_i64 (by omega) (by omega)];by_cases h5:b.length<12+Kerb.kr b
 ·rw[ah (by simp;omega),Qa1 h5];rfl
 have sI:=Kerb.AD b 12 (Kerb.kr b);rw[aq (by simp;omega),Qa0 h5,Kerb.PD,ae (by simp;omega)];simp only[↓A0];rw[ae (by simp;omega)];simp
theorem w49:Wk 49 5 RR:=by
 refine gi Tryz.func49 fun _ _ _ h=> ?_;unfold RR at h;split at h;case h_2=>cases h
 rename_i b;obtain⟨aO,rfl⟩:=hZ h;refine il (Zx (RS [Zu b] []) (kT fun vs=>az vs fun x r=>AV.dD x fun cs=>ai .i64 cs fun n fA=>ai .u64 fA fun n fP=>cP fP fun fS gj=>ar gj (ai .i64 r fun n r=>ai .i64 r fun cV r=>ar r (aP (cV==0) (Yx (Zd (n==(↑(Zy b):Int)),[])) (Yx (Zd Yp,[])))))) ?_;delta kT;dsimp only[RS,bB,cP,ak,jz,ai,ef,iX];have lb:=Qa3 aO;simp(config:={maxSteps:=10000000}) only[lb,Qb4,↓N2];unfold Kerb.k8;cases ((Kerb.bj b).err==0)<;>rfl
theorem ahR:Wk 233 5 IL:=by
 refine gi Tryz.func233 fun _ _ _ h=> ?_;unfold IL at h;split at h;case h_2=>cases h
 rename_i li x y z ad k lf OT sv ins;obtain⟨aO,rfl⟩:=hZ h;refine il (Zx (I8 [Xx [Zd li,Zk x,Zk y,Zk z,Zz .i64 ad,Zz .u64 k,Zz .i64 lf,Zz .i64 OT,Zk sv,Zk ins]] []) (kI .i64 fun n=>aP (!n==0) (Yx (Yz [Zu [],Zz .i64 n],[])) (aP li (Zx (lK [Zu ([]++Kerb.aL 1 1 Yp),Xx [Zk x,Zk y,Zk z]] []) (kO fun l=>Zx (gQ [Zu l,Zz .i64 ad,Zd li] []) (kO fun l=>Zx (o_ [Zz .u64 k] []) (kB fun b=>aA (room (Zy l+Zy b) 1) (Zx (gV [Zu (l++b),Zz .i64 lf] []) (kO fun l=>Zx (gQ [Zu l,Zz .i64 OT,Zd li] []) (kO fun l=>Zx (lJ [Zu l,Zk sv] []) (kO fun l=>Zx (lJ [Zu l,Zk ins] []) (kO fun l=>Zx (mK [Zu l] []) (kO fun l=>Yx (Yz [Zu l,Zz .i64 0],[]))))))))))) (Zx (lK [Zu ([]++Kerb.aL 0 1 Yp),Xx [Zk x,Zk y,Zk z]] []) (kO fun l=>Zx (gQ [Zu l,Zz .i64 ad,Zd li] []) (kO fun l=>Zx (o_ [Zz .u64 k] []) (kB fun b=>aA (room (Zy l+Zy b) 1) (Zx (gV [Zu (l++b),Zz .i64 lf] []) (kO fun l=>Zx (gQ [Zu l,Zz .i64 OT,Zd li] []) (kO fun l=>Zx (lJ [Zu l,Zk sv] []) (kO fun l=>Zx (lJ [Zu l,Zk ins] []) (kO fun l=>Zx (mK [Zu l] []) (kO fun l=>Yx (Yz [Zu l,Zz .i64 0],[])))))))))))))) ?_;delta kB kO kI;dsimp only[gV,lJ,gQ,lK,o_,mK,I8,bB,cP,ak,jz,ai,ef,iX];simp only[Zh,Qa2] at aO;obtain⟨⟨⟨⟨⟨⟨h1,h2⟩,h3⟩,h4⟩,h5⟩,h6⟩,h7⟩:=aO;simp only[h1,h2,h3,h4,h5,h6,h7,Qb4,Bool.and_self,↓A0,A0];have hb := @Kerb.ov ⟨li,⟨x,y,z⟩,ad,k,lf,OT,sv,ins⟩;unfold Kerb.ca at hb ⊢;dsimp only at hb ⊢;generalize hE:Kerb.eU.err _=e at hb ⊢;by_cases he:e=0;case neg=>rw[ah (by simpa using he),Qa1 he]
 rw[Qa0 (by simpa using he)] at hb;obtain⟨v1,v2,v3,_⟩:=hb rfl;have l1:=Wv v1;have l2:=(Kerb.AN v2).1;have l3:=(Kerb.inst_ok v3).1;dsimp only at l1;rw[aq (by simpa using he),Qa0 (by simpa using he)];cases li
 ·rw[aR,ae (by first | (simp[Zn,Zf,Zb];done) | (simp[Zn,Zf,Zb];omega)),ae (by first | (simp[Zn,Zf,Zb];done) | (simp[Zn,Zf,Zb];omega)),ae (Xq (by first | (simp[Zn,Zf,Zb];done) | (simp[Zn,Zf,Zb];omega))),ae (by first | (simp[Zn,Zf,Zb];done) | (simp[Zn,Zf,Zb];omega)),ae (by first | (simp[Zn,Zf,Zb];done) | (simp[Zn,Zf,Zb];omega)),ae (by first | (simp[Zn,Zf,Zb];done) | (simp[Zn,Zf,Zb];omega)),ae (by first | (simp[Wu,Zn,Zf,Zb];done) | (simp[Wu,Zn,Zf,Zb];omega)),ae (by first | (simp[Wu,Zn,Zf,Zb];done) | (simp[Wu,Zn,Zf,Zb];omega))];simp
 ·rw[gn,ae (by first | (simp[Zn,Zf,Zb];done) | (simp[Zn,Zf,Zb];omega)),ae (by first | (simp[Zn,Zf,Zb];done) | (simp[Zn,Zf,Zb];omega)),ae (Xq (by first | (simp[Zn,Zf,Zb];done) | (simp[Zn,Zf,Zb];omega))),ae (by first | (simp[Zn,Zf,Zb];done) | (simp[Zn,Zf,Zb];omega)),ae (by first | (simp[Zn,Zf,Zb];done) | (simp[Zn,Zf,Zb];omega)),ae (by first | (simp[Zn,Zf,Zb];done) | (simp[Zn,Zf,Zb];omega)),ae (by first | (simp[Wu,Zn,Zf,Zb];done) | (simp[Wu,Zn,Zf,Zb];omega)),ae (by first | (simp[Wu,Zn,Zf,Zb];done) | (simp[Wu,Zn,Zf,Zb];omega))];simp
theorem ahW:Wk 249 5 IM:=by
 refine gi Tryz.func249 fun _ _ _ h=> ?_;unfold IM at h;split at h;case h_2=>cases h
 rename_i b;obtain⟨aO,rfl⟩:=hZ h;refine il (let t1:AV:=Xx [Zd Yp,Zk [],Zk [],Zk [],Zz .i64 0,Zz .i64 0,Zz .i64 0,Zu []];let t0:Option (AV×aZ):=Yx (Yz [t1,Zz .i64 100],[]);aP (!Yq (Ym b [2])==0) (Yx (Yz [t1,Zz .i64 (Yq (Ym b [2]))],[])) (Zx (nU [Xk 0 0] [(0,[Zu b,Zz .i64 2,Zd (Yd (Ym b [2])),Zd Yp])]) fun r=>aH (Yq r) fun x fA=>cP x fun fS fP=>ai .i64 fP fun n gj=>ak gj fun l6 iV=>ak iV fun lO j7=>ar j7 (aJ fA (AV.dD (Yd r) fun cs=>bB cs fun lI r=>bB r fun qu r=>bB r fun pC r=>ar r (Zx (js [Xk 0 0] [(0,[Zu fS,Zz .i64 n,Zd l6,Zd lO])]) fun r=>aH (Yq r) fun x kH=>cP x fun nN nz=>ai .i64 nz fun n nK=>ak nK fun tS nL=>ak nL fun ra gU=>ar gU (aJ kH (Yk .i64 (Yd r) fun cV=>Zx (iJ [Xk 0 0] [(0,[Zu nN,Zz .i64 n,Zd tS,Zd ra])]) fun r=>aH (Yq r) fun x iT=>cP x fun jk iU=>ai .i64 iU fun n jC=>ak jC fun km jT=>ak jT fun mb jU=>ar jU (aJ iT (Yk .i64 (Yd r) fun eE=>Zx (js [Xk 0 0] [(0,[Zu jk,Zz .i64 n,Zd km,Zd mb])]) fun r=>aH (Yq r) fun x k_=>cP x fun lM mj=>ai .i64 mj fun n ml=>ak ml fun lN mn=>ak mn fun oK mq=>ar mq (aJ k_ (Yk .i64 (Yd r) fun ig=>Zx (iJ [Xk 0 0] [(0,[Zu lM,Zz .i64 n,Zd lN,Zd oK])]) fun r=>aH (Yq r) fun x tB=>cP x fun nV tC=>ai .i64 tC fun n tD=>ak tD fun pe tE=>ak tE fun oL tF=>ar tF (aJ tB (Yk .i64 (Yd r) fun dk=>Zx (pw [Xk 0 0] [(0,[Zu nV,Zz .i64 n,Zd pe,Zd oL])]) fun r=>aH (Yq r) fun x tG=>cP x fun rP tH=>ai .i64 tH fun n tI=>ak tI fun qo tJ=>ak tJ fun pz tK=>ar tK (aJ tG (Yk .i64 (Yd r) fun cK=>Zx (gA [Xk 0 0,Zz .i64 cK] [(0,[Zu rP,Zz .i64 n,Zd qo,Zd pz])]) fun r=>aH (Yq r) fun x zo=>cP x fun pA zp=>ai .i64 zp fun n zq=>ak zq fun qp zr=>ak zr fun ud zt=>ar zt (aJ zo (AV.dP (Yd r) fun qt=>let t2:AV:=Xx [Zd (Yd (Ym b [2])),Zk lI,Zk qu,Zk pC,Zz .i64 cV,Zz .i64 ig,Zz .i64 dk,Zu qt];Zx (R2 [t2] []) (kT fun vs=>cP vs fun pB r=>ai .i64 r fun n r=>ar r (aP ud t0 (aP (!n==0) t0 (aP (!pB==b) t0 (Yx (Yz [t2,Zz .i64 0],[]))))))))))))))))))))))) ?_;delta kT;dsimp only[R2,nU,js,iJ,pw,gA,bB,cP,ak,jz,ai,ef,iX];have hb:=Qa3 aO;simp only[A0];by_cases h:(Ym b [2]).2=0;case neg =>
  unfold Kerb.bJ;rw[ah (by simpa using h),Qa1 h];rfl
 rw[aq (by simp[h]),Kerb.Ie h];rw[ae aO,ae aO,ae aO,ae aO,ae aO,ae aO,ae aO];have lp:=Kerb.bz b 2 Yp;have hx:∀ q,(Kerb.text b q).val.length<=40:=Kerb.bE b;rw[ae (by simp only[Zh,Qa2];refine⟨⟨Nat.le_trans lp.1 (by decide),Nat.le_trans lp.2.1 (by decide)⟩,Nat.le_trans lp.2.2 (by decide)⟩)];obtain⟨R,hR⟩:∃ R,R=Kerb.kD b:=⟨_,rfl⟩;have eb:_=R.bad:=(Qb5 Kerb.Rd.bad hR).symm;have ev:_=R.val:=(Qb5 Kerb.Rd.val hR).symm;rw[<-hR];unfold Kerb.kD at eb ev;dsimp only[Kerb.dJ,Kerb.nD,Kerb.dz] at eb ev;rw[eb];have ev2:Kerb.jX.mk (Ym b [2]).1 (Kerb.ck.mk (Kerb.dL b 2 Yp).p.name (Kerb.dL b 2 Yp).p.inst (Kerb.dL b 2 Yp).p.aC) _ _ _ _=R.val:=ev;rw[ev2];cases aaW:R.bad;case true=>rw[Qa1 (.inl rfl)];rfl
 rw[aR];by_cases h1:(Kerb.bK R.val).err=0
 ·rw[aq (by simp[h1])];by_cases h2:(Kerb.bK R.val).val=b
  ·rw[aq (by simp[h2]),Qa0 (by simp[h1,h2]),<-ev2]
  ·rw[ah (by simpa using h2),Qa1 (.inr (.inr h2))];rfl
 ·rw[ah (by simpa using h1),Qa1 (.inr (.inl h1))];rfl
theorem ah0:Wk 253 5 IU:=by
 refine gi Tryz.func253 fun _ _ _ h=> ?_;unfold IU at h;split at h;case h_2=>cases h
 rename_i b;obtain⟨aO,rfl⟩:=hZ h;refine il (aP (!Yq (Ym b [8])==0) (Yx (Yz [Zu [],Zd Yp,Zz .i64 (Yq (Ym b [8]))],[])) (Zx (pw [Xk 0 0] [(0,[Zu b,Zz .i64 2,Zd (Yd (Ym b [8])),Zd Yp])]) fun r=>aH (Yq r) fun x fA=>cP x fun fS fP=>ai .i64 fP fun n gj=>ak gj fun l6 iV=>ak iV fun lO j7=>ar j7 (aJ fA (Yk .i64 (Yd r) fun cV=>Zx (gA [Xk 0 0,Zz .i64 cV] [(0,[Zu fS,Zz .i64 n,Zd l6,Zd lO])]) fun r=>aH (Yq r) fun x kH=>cP x fun lI nz=>ai .i64 nz fun n nK=>ak nK fun qu nL=>ak nL fun pC gU=>ar gU (aJ kH (AV.dP (Yd r) fun nN=>aP pC (Yx (Yz [Zu [],Zd Yp,Zz .i64 100],[])) (aP (!Kerb.rK.err (Kerb.dC nN (Yd (Ym b [8])))==0) (Yx (Yz [Zu [],Zd Yp,Zz .i64 100],[])) (aP (!Kerb.rK.val (Kerb.dC nN (Yd (Ym b [8])))==b) (Yx (Yz [Zu [],Zd Yp,Zz .i64 100],[])) (Yx (Yz [Zu nN,Zd (Yd (Ym b [8])),Zz .i64 0],[])))))))))) ?_;dsimp only[pw,gA,bB,cP,ak,jz,ai,ef,iX];have hb:=Qa3 aO;have UL:Zq (b.length<=4611686018427387904)=Yv:=by simp;omega
 unfold Kerb.j_;by_cases h:(Ym b [8]).2=0;case neg=>rw[ah (by simpa using h),Qa1 h]
 rw[aq (by simpa using h),Qa0 (by simpa using h)];simp only[↓A0];rw[ae aO,ae aO];generalize (Ym b [8]).1=li;rw[Kerb.GX];have key:=Kerb.gZ (no:=([]:List UInt8)) (enc:=fun s=>Kerb.dC s li) (rd:=fun b'=>((Kerb.yj b' li).val,(Kerb.yj b' li).bad)) (b:=b) _ _ rfl (fun x e=>(Yz [Zu x,Zd (cond (e==0) li Yp),Zz Xv e],([]:aZ)));refine Qb3 key ?_;generalize hD:Kerb.eJ ([]:List UInt8) (fun s=>Kerb.dC s li) (fun b'=>((Kerb.yj b' li).val,(Kerb.yj b' li).bad)) b=D;have hD2:D.err=0\/(D.err=100/\D.val=[]):=by
  rw[<-hD];unfold Kerb.eJ;split
  ·exact .inr ⟨rfl,rfl⟩
  ·exact .inl rfl
 rcases hD2 with h0 | ⟨h0,h1⟩
 ·rw[h0,Qa1 rfl];rfl
 ·rw[h0,h1,Qa0 (by decide)];rfl
theorem ah1:Wk 254 5 IV:=by
  refine gi Tryz.func254 fun _ _ _ h=> ?_;unfold IV at h;split at h;case h_2=>cases h
  rename_i b;obtain⟨aO,rfl⟩:=hZ h;refine il (let t0:Option (AV×aZ):=Yx (Yz [Zu [],Zu [],Zd Yp,Zz .i64 100],[]);let t1:Option (AV×aZ):=pw [Xk 0 0] [(0,[Zu b,Zz .i64 2,Zd (Yd (Ym b [6,7])),Zd Yp])];let t2:List AV:=[Zd (Yd (Ym b [6,7])),Zz .i64 0];aP (!Yq (Ym b [6,7])==0) (Yx (Yz [Zu [],Zu [],Zd Yp,Zz .i64 (Yq (Ym b [6,7]))],[])) (aP (Kerb.Head.kind (Kerb.bX b)==7) (Zx t1 fun r=>aH (Yq r) fun x fA=>cP x fun fS fP=>ai .i64 fP fun n gj=>ak gj fun l6 iV=>ak iV fun lO j7=>ar j7 (aJ fA (Yk .i64 (Yd r) fun cV=>Zx (gA [Xk 0 0,Zz .i64 cV] [(0,[Zu fS,Zz .i64 n,Zd l6,Zd lO])]) fun r=>aH (Yq r) fun x kH=>cP x fun lI nz=>ai .i64 nz fun n nK=>ak nK fun qu nL=>ak nL fun pC gU=>ar gU (aJ kH (AV.dP (Yd r) fun nN=>Zx (pw [Xk 0 0] [(0,[Zu lI,Zz .i64 n,Zd qu,Zd pC])]) fun r=>aH (Yq r) fun x iT=>cP x fun tS iU=>ai .i64 iU fun n jC=>ak jC fun ra jT=>ak jT fun jk jU=>ar jU (aJ iT (Yk .i64 (Yd r) fun eE=>Zx (gA [Xk 0 0,Zz .i64 eE] [(0,[Zu tS,Zz .i64 n,Zd ra,Zd jk])]) fun r=>aH (Yq r) fun x k_=>cP x fun km mj=>ai .i64 mj fun n ml=>ak ml fun mb mn=>ak mn fun lM mq=>ar mq (aJ k_ (AV.dP (Yd r) fun lN=>aP lM t0 (aP (!n==(↑(Zy b):Int)) t0 (aP (Zq ((↑(Zy nN):Int)>1000)) t0 (aP (Zq ((↑(Zy lN):Int)>1012)) t0 (Yx (Yz (Zu nN::Zu lN::t2),[])))))))))))))) (Zx t1 fun r=>aH (Yq r) fun x fA=>cP x fun fS fP=>ai .i64 fP fun n gj=>ak gj fun l6 iV=>ak iV fun lO j7=>ar j7 (aJ fA (Yk .i64 (Yd r) fun cV=>Zx (gA [Xk 0 0,Zz .i64 cV] [(0,[Zu fS,Zz .i64 n,Zd l6,Zd lO])]) fun r=>aH (Yq r) fun x kH=>cP x fun lI nz=>ai .i64 nz fun n nK=>ak nK fun qu nL=>ak nL fun pC gU=>ar gU (aJ kH (AV.dP (Yd r) fun nN=>aP pC t0 (aP (!n==(↑(Zy b):Int)) t0 (aP (Zq ((↑(Zy nN):Int)>1012)) t0 (Yx (Yz (Zu []::Zu nN::t2),[]))))))))))) ?_;dsimp only[pw,gA,bB,cP,ak,jz,ai,ef,iX];simp only[Zh,Qa2] at aO;simp only[A0,Wz,Wx,Kerb.h_.av,aO,Qb4];rw[Kerb.H'];by_cases h:(Ym b [6,7]).2≠0
  · rw[ah (by simpa using h),Qa1 h]
  rw[aq (by simpa using h),Qa0 h];have fin:∀ (x y:List UInt8) (p:Int) (c:Bool),aP c (Yx (Yz [Zu [],Zu [],Zd Yp,Zz Xv 100],([]:aZ))) (aP (!p==(b.length:Int)) (Yx (Yz [Zu [],Zu [],Zd Yp,Zz Xv 100],[])) (aP (Zq ((x.length:Int)>1000)) (Yx (Yz [Zu [],Zu [],Zd Yp,Zz Xv 100],[])) (aP (Zq ((y.length:Int)>1012)) (Yx (Yz [Zu [],Zu [],Zd Yp,Zz Xv 100],[])) (Yx (Yz [Zu x,Zu y,Zd (Ym b [6,7]).1,Zz Xv 0],[]))))) =
      (let z:Kerb.Lk:=if c=Yv\/p≠b.length\/(1000:Int)<x.length\/(1012:Int)<y.length then⟨0,[],[],Yp,100⟩ else⟨(Kerb.bX b).kind,x,y,(Ym b [6,7]).1,0⟩
       Yx (Yz [Zu z.plain,Zu z.cQ,Zd z.little,Zz Xv z.err],[])):=by
    intro x y p c;cases c;case true=>rw[Qa1 (.inl rfl)];rfl
    rw[aR];by_cases h1:p=b.length;case neg=>rw[ah (by simpa using h1),Qa1 (.inr (.inl h1))]
    rw[aq (by simp[h1])];by_cases h2:(1000:Int)<x.length
    · rw[ah (by simpa using h2),Qa1 (.inr (.inr (.inl h2)))]
    rw[aq (by simpa using h2)];by_cases h3:(1012:Int)<y.length
    · rw[ah (by simpa using h3),Qa1 (.inr (.inr (.inr h3)))]
    rw[aq (by simpa using h3),Qa0 (by simp[h1,h2,h3])]
  unfold Kerb.lB Kerb.k9;cases hk:((Kerb.bX b).kind==7)
  · rw[aR]
    have:=fin [] (Kerb.fa b (Ym b [6,7]).1 2 Yp).val (Kerb.fa b (Ym b [6,7]).1 2 Yp).pos (Kerb.fa b (Ym b [6,7]).1 2 Yp).bad;rw[show aP (Zq (((Zy ([]:List UInt8)):Int)>1000)) (Yx (Yz [Zu [],Zu [],Zd Yp,Zz Xv 100],([]:aZ)))=fun q=>q from rfl] at this;exact this
  · rw[gn]
    exact fin (Kerb.fa b (Ym b [6,7]).1 2 Yp).val (Kerb.fa b (Ym b [6,7]).1 (Kerb.fa b (Ym b [6,7]).1 2 Yp).pos (Kerb.fa b (Ym b [6,7]).1 2 Yp).bad).val _ _
end Go.Proofs.YtpelamlfpffacaaGreat
