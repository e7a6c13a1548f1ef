/- The scans of the partitions. -/
import Derived.Test.YtledffmjoegdeaaGreatKerbSort
set_option linter.all false
open Go.IntKind renaming i64->AI,u64->AT
open Go.IntKind renaming i64->Zz,wrap->Zy,u64->Zu
open Go.Abs.AV renaming int->Zx,aw->Zd,undef->Zg,ay->Zm,bool->Yw
open Int renaming toNat->Zw,toNat_natCast->Zp
open List renaming length->Zv,getD->Zk,set->Yv
open Decidable renaming decide->Zq
open Bool renaming false->Zj,true->Zf,and_eq_true->Yy,not_eq_true'->Yu,not_eq_false->Yq
open Nat renaming blt->Zb
open Kerb renaming rd->Zn,im->Yj
open Sum renaming inr->Zh,inl->Yp
open Go.Abs.Ex renaming exit->Yz
open Option renaming some->Yx
open Array renaming setIfInBounds->Yk
namespace Kerb
open Go Go.Abs
variable {step:List AV->Option (List AV ⊕ (Ex×List AV))}{p:Int->Bool}{d:Array Int}{a:Nat}{j:Nat}{e:Nat}{i:Nat}{Z:Type}{K:Ex×List AV->Option Z}
abbrev mJ(d:Array Int)(a i j:Nat):List AV:=[Zm (back d),Zx AI (a:Int),Zx AI (i:Int),Zx AI (j:Int)]
theorem ahb(h:∀ i,i<=j->step (mJ d a i j)=if p d[i]! = Zf then Yx (.inl (mJ d a (i+1) j)) else Yx (.inr (.exit e,mJ d a i j)))(f:∀ i,j<i->step (mJ d a i j)=Yx (.inr (.exit e,mJ d a i j))):∀ (m i:Nat),j+1-i=m->∃ n,eD step n (mJ d a i j)=Yx (.exit e,mJ d a (Go.Sort.scanUp p d j i) j):=by
 intro m;induction m with
 | zero =>
  intro i c;refine⟨1,?_⟩;unfold eD;rw[f i (by omega)];unfold Go.Sort.scanUp
  grind
 | succ m ih =>
  intro i c;by_cases b:p d[i]! = Zf
  .obtain⟨n,g⟩:=ih (i+1) (by omega);refine⟨n+1,?_⟩;unfold eD;rw[h i (by omega),Qa1 b];unfold Go.Sort.scanUp
   grind
  .refine⟨1,?_⟩;unfold eD;rw[h i (by omega),Qa0 b];unfold Go.Sort.scanUp
   grind
theorem RR(h:∀ j,i<=j+1->j+1<d.size->step (mJ d a i (j+1))=if p d[j+1]! = Zf then Yx (.inl (mJ d a i j)) else Yx (.inr (.exit e,mJ d a i (j+1))))(f:∀ j,j<i->step (mJ d a i j)=Yx (.inr (.exit e,mJ d a i j)))(k:1<=i):∀ (j:Nat),j<d.size->∃ n,eD step n (mJ d a i j)=Yx (.exit e,mJ d a i (Go.Sort.scanDown p d i j)):=by
 intro j;induction j with
 | zero =>
  intro c;refine⟨1,?_⟩;unfold eD;rw[f 0 (by omega)];rfl
 | succ j ih =>
  intro c;by_cases hc:i<=j+1
  .by_cases b:p d[j+1]! = Zf
   .obtain⟨n,g⟩:=ih (by omega);refine⟨n+1,?_⟩;unfold eD;rw[h j hc c,Qa1 b];unfold Go.Sort.scanDown;rw[Qa1 (by simp[b];omega)];exact g
   .refine⟨1,?_⟩;unfold eD;rw[h j hc c,Qa0 b];unfold Go.Sort.scanDown;rw[Qa0 (by simp[b])]
  .refine⟨1,?_⟩;unfold eD;rw[f _ (by omega)];unfold Go.Sort.scanDown;rw[Qa0 (by simp;omega)]
theorem OU(l:a<d.size)(o:j<d.size)(q:1<=i)(hs:d.size<=1152921504606846976):Option.bind (bh (λ(st:List AV)=>ar st λ(x:AV) (r:List AV)=>AV.aS x λ(y:List AV)=>ar r λ(x:AV) (r:List AV)=>Zd Zz x λ(n:Int)=>ar r λ(x:AV) (r:List AV)=>Zd Zz x λ(b:Int)=>ar r λ(x:AV) (r:List AV)=>Zd Zz x λ(c:Int)=>ak r (aK (Zq (b<=c)) (ax (Zq ((0:Int)<=b)&&Zq (b<(↑(Zv y):Int))&&Zf) (ax (Zb (Zw b) (Zv y)&&Zf) (Zd Zu (Zk y (Zw b) Zg) λ(g:Int)=>(ax (Zq ((0:Int)<=n)&&Zq (n<(↑(Zv y):Int))&&Zf) (ax (Zb (Zw n) (Zv y)&&Zf) (Zd Zu (Zk y (Zw n) Zg) λ(f:Int)=>aK (Zq (g<f)) (Yx (Yp [Zm y,Zx Zz n,Zx Zz (Zy Zz (b+(1:Int))),Zx Zz c])) (Yx (Zh (Yz e,[Zm y,Zx Zz n,Zx Zz b,Zx Zz c]))))))))) (Yx (Zh (Yz e,[Zm y,Zx Zz n,Zx Zz b,Zx Zz c]))))) [Zm (back d),Zx AI (a:Int),Zx AI (i:Int),Zx AI (j:Int)]) K=K (.exit e,[Zm (back d),Zx AI (a:Int),Zx AI (Go.Sort.scanUp (λx=>Go.Sort.ltInt x d[a]!) d j i:Int),Zx AI (j:Int)]):=by
 suffices h:∃ n,eD (λ(st:List AV)=>ar st λ(x:AV) (r:List AV)=>AV.aS x λ(y:List AV)=>ar r λ(x:AV) (r:List AV)=>Zd Zz x λ(n:Int)=>ar r λ(x:AV) (r:List AV)=>Zd Zz x λ(b:Int)=>ar r λ(x:AV) (r:List AV)=>Zd Zz x λ(c:Int)=>ak r (aK (Zq (b<=c)) (ax (Zq ((0:Int)<=b)&&Zq (b<(↑(Zv y):Int))&&Zf) (ax (Zb (Zw b) (Zv y)&&Zf) (Zd Zu (Zk y (Zw b) Zg) λ(g:Int)=>(ax (Zq ((0:Int)<=n)&&Zq (n<(↑(Zv y):Int))&&Zf) (ax (Zb (Zw n) (Zv y)&&Zf) (Zd Zu (Zk y (Zw n) Zg) λ(f:Int)=>aK (Zq (g<f)) (Yx (Yp [Zm y,Zx Zz n,Zx Zz (Zy Zz (b+(1:Int))),Zx Zz c])) (Yx (Zh (Yz e,[Zm y,Zx Zz n,Zx Zz b,Zx Zz c]))))))))) (Yx (Zh (Yz e,[Zm y,Zx Zz n,Zx Zz b,Zx Zz c]))))) n (mJ d a i j)=Yx (.exit e,mJ d a (Go.Sort.scanUp (λx=>Go.Sort.ltInt x d[a]!) d j i) j) by
  obtain⟨n,k⟩:=h;exact Qb4 (Option.bind · K) (nj k)
 refine ahb (e:=e) (p:=(λx=>Go.Sort.ltInt x d[a]!)) (d:=d) (a:=a) (j:=j) (step:=λ(st:List AV)=>ar st λ(x:AV) (r:List AV)=>AV.aS x λ(y:List AV)=>ar r λ(x:AV) (r:List AV)=>Zd Zz x λ(n:Int)=>ar r λ(x:AV) (r:List AV)=>Zd Zz x λ(b:Int)=>ar r λ(x:AV) (r:List AV)=>Zd Zz x λ(c:Int)=>ak r (aK (Zq (b<=c)) (ax (Zq ((0:Int)<=b)&&Zq (b<(↑(Zv y):Int))&&Zf) (ax (Zb (Zw b) (Zv y)&&Zf) (Zd Zu (Zk y (Zw b) Zg) λ(g:Int)=>(ax (Zq ((0:Int)<=n)&&Zq (n<(↑(Zv y):Int))&&Zf) (ax (Zb (Zw n) (Zv y)&&Zf) (Zd Zu (Zk y (Zw n) Zg) λ(f:Int)=>aK (Zq (g<f)) (Yx (Yp [Zm y,Zx Zz n,Zx Zz (Zy Zz (b+(1:Int))),Zx Zz c])) (Yx (Zh (Yz e,[Zm y,Zx Zz n,Zx Zz b,Zx Zz c]))))))))) (Yx (Zh (Yz e,[Zm y,Zx Zz n,Zx Zz b,Zx Zz c]))))) ?_ ?_ _ i rfl
 .intro i hc;have m:i<d.size:=by omega
  dsimp only[mJ];simp only[↓bW,↓cG,↓dx,↓dA];rw[ae (by simp;omega),Zn m,Zn l];by_cases h:d[i]! < d[a]!
  .rw[ae (by simp[h]),Qa1 (by simp[Go.Sort.ltInt,h]),show Zy AI ((i:Int)+1)=((i+1:Nat):Int) from Yj (by omega) (by omega)]
  .rw[ai (by simp[h]),Qa0 (by simp[Go.Sort.ltInt,h])]
 .intro i hc;dsimp only[mJ];simp only[↓bW,↓cG,↓dx,↓dA];rw[ai (by simp;omega)]
theorem aha(l:a<d.size)(o:j<d.size)(q:1<=i)(hs:d.size<=1152921504606846976):Option.bind (bh (λ(st:List AV)=>ar st λ(x:AV) (r:List AV)=>AV.aS x λ(y:List AV)=>ar r λ(x:AV) (r:List AV)=>Zd Zz x λ(n:Int)=>ar r λ(x:AV) (r:List AV)=>Zd Zz x λ(b:Int)=>ar r λ(x:AV) (r:List AV)=>Zd Zz x λ(c:Int)=>ak r (aK (Zq (b<=c)) (ax (Zq ((0:Int)<=n)&&Zq (n<(↑(Zv y):Int))&&Zf) (ax (Zb (Zw n) (Zv y)&&Zf) (Zd Zu (Zk y (Zw n) Zg) λ(g:Int)=>(ax (Zq ((0:Int)<=b)&&Zq (b<(↑(Zv y):Int))&&Zf) (ax (Zb (Zw b) (Zv y)&&Zf) (Zd Zu (Zk y (Zw b) Zg) λ(f:Int)=>aK (!Zq (g<f)) (Yx (Yp [Zm y,Zx Zz n,Zx Zz (Zy Zz (b+(1:Int))),Zx Zz c])) (Yx (Zh (Yz e,[Zm y,Zx Zz n,Zx Zz b,Zx Zz c]))))))))) (Yx (Zh (Yz e,[Zm y,Zx Zz n,Zx Zz b,Zx Zz c]))))) [Zm (back d),Zx AI (a:Int),Zx AI (i:Int),Zx AI (j:Int)]) K=K (.exit e,[Zm (back d),Zx AI (a:Int),Zx AI (Go.Sort.scanUp (λx => !Go.Sort.ltInt d[a]! x) d j i:Int),Zx AI (j:Int)]):=by
 suffices h:∃ n,eD (λ(st:List AV)=>ar st λ(x:AV) (r:List AV)=>AV.aS x λ(y:List AV)=>ar r λ(x:AV) (r:List AV)=>Zd Zz x λ(n:Int)=>ar r λ(x:AV) (r:List AV)=>Zd Zz x λ(b:Int)=>ar r λ(x:AV) (r:List AV)=>Zd Zz x λ(c:Int)=>ak r (aK (Zq (b<=c)) (ax (Zq ((0:Int)<=n)&&Zq (n<(↑(Zv y):Int))&&Zf) (ax (Zb (Zw n) (Zv y)&&Zf) (Zd Zu (Zk y (Zw n) Zg) λ(g:Int)=>(ax (Zq ((0:Int)<=b)&&Zq (b<(↑(Zv y):Int))&&Zf) (ax (Zb (Zw b) (Zv y)&&Zf) (Zd Zu (Zk y (Zw b) Zg) λ(f:Int)=>aK (!Zq (g<f)) (Yx (Yp [Zm y,Zx Zz n,Zx Zz (Zy Zz (b+(1:Int))),Zx Zz c])) (Yx (Zh (Yz e,[Zm y,Zx Zz n,Zx Zz b,Zx Zz c]))))))))) (Yx (Zh (Yz e,[Zm y,Zx Zz n,Zx Zz b,Zx Zz c]))))) n (mJ d a i j)=Yx (.exit e,mJ d a (Go.Sort.scanUp (λx => !Go.Sort.ltInt d[a]! x) d j i) j) by
  obtain⟨n,k⟩:=h;exact Qb4 (Option.bind · K) (nj k)
 refine ahb (e:=e) (p:=(λx => !Go.Sort.ltInt d[a]! x)) (d:=d) (a:=a) (j:=j) (step:=λ(st:List AV)=>ar st λ(x:AV) (r:List AV)=>AV.aS x λ(y:List AV)=>ar r λ(x:AV) (r:List AV)=>Zd Zz x λ(n:Int)=>ar r λ(x:AV) (r:List AV)=>Zd Zz x λ(b:Int)=>ar r λ(x:AV) (r:List AV)=>Zd Zz x λ(c:Int)=>ak r (aK (Zq (b<=c)) (ax (Zq ((0:Int)<=n)&&Zq (n<(↑(Zv y):Int))&&Zf) (ax (Zb (Zw n) (Zv y)&&Zf) (Zd Zu (Zk y (Zw n) Zg) λ(g:Int)=>(ax (Zq ((0:Int)<=b)&&Zq (b<(↑(Zv y):Int))&&Zf) (ax (Zb (Zw b) (Zv y)&&Zf) (Zd Zu (Zk y (Zw b) Zg) λ(f:Int)=>aK (!Zq (g<f)) (Yx (Yp [Zm y,Zx Zz n,Zx Zz (Zy Zz (b+(1:Int))),Zx Zz c])) (Yx (Zh (Yz e,[Zm y,Zx Zz n,Zx Zz b,Zx Zz c]))))))))) (Yx (Zh (Yz e,[Zm y,Zx Zz n,Zx Zz b,Zx Zz c]))))) ?_ ?_ _ i rfl
 .intro i hc;have m:i<d.size:=by omega
  dsimp only[mJ];simp only[↓bW,↓cG,↓dx,↓dA];rw[ae (by simp;omega),Zn l,Zn m];by_cases h:d[a]! < d[i]!
  .rw[ai (by simp[h]),Qa0 (by simp[Go.Sort.ltInt,h])]
  .rw[ae (by simp[h]),Qa1 (by simp[Go.Sort.ltInt,h]),show Zy AI ((i:Int)+1)=((i+1:Nat):Int) from Yj (by omega) (by omega)]
 .intro i hc;dsimp only[mJ];simp only[↓bW,↓cG,↓dx,↓dA];rw[ai (by simp;omega)]
theorem E2(o:a<d.size)(l:j<d.size)(m:1<=i)(hs:d.size<=1152921504606846976):Option.bind (bh (λ(st:List AV)=>ar st λ(x:AV) (r:List AV)=>AV.aS x λ(y:List AV)=>ar r λ(x:AV) (r:List AV)=>Zd Zz x λ(n:Int)=>ar r λ(x:AV) (r:List AV)=>Zd Zz x λ(c:Int)=>ar r λ(x:AV) (r:List AV)=>Zd Zz x λ(b:Int)=>ak r (aK (Zq (c<=b)) (ax (Zq ((0:Int)<=b)&&Zq (b<(↑(Zv y):Int))&&Zf) (ax (Zb (Zw b) (Zv y)&&Zf) (Zd Zu (Zk y (Zw b) Zg) λ(g:Int)=>(ax (Zq ((0:Int)<=n)&&Zq (n<(↑(Zv y):Int))&&Zf) (ax (Zb (Zw n) (Zv y)&&Zf) (Zd Zu (Zk y (Zw n) Zg) λ(f:Int)=>aK (!Zq (g<f)) (Yx (Yp [Zm y,Zx Zz n,Zx Zz c,Zx Zz (Zy Zz (b-(1:Int)))])) (Yx (Zh (Yz e,[Zm y,Zx Zz n,Zx Zz c,Zx Zz b]))))))))) (Yx (Zh (Yz e,[Zm y,Zx Zz n,Zx Zz c,Zx Zz b]))))) [Zm (back d),Zx AI (a:Int),Zx AI (i:Int),Zx AI (j:Int)]) K=K (.exit e,[Zm (back d),Zx AI (a:Int),Zx AI (i:Int),Zx AI (Go.Sort.scanDown (λx => !Go.Sort.ltInt x d[a]!) d i j:Int)]):=by
 suffices h:∃ n,eD (λ(st:List AV)=>ar st λ(x:AV) (r:List AV)=>AV.aS x λ(y:List AV)=>ar r λ(x:AV) (r:List AV)=>Zd Zz x λ(n:Int)=>ar r λ(x:AV) (r:List AV)=>Zd Zz x λ(c:Int)=>ar r λ(x:AV) (r:List AV)=>Zd Zz x λ(b:Int)=>ak r (aK (Zq (c<=b)) (ax (Zq ((0:Int)<=b)&&Zq (b<(↑(Zv y):Int))&&Zf) (ax (Zb (Zw b) (Zv y)&&Zf) (Zd Zu (Zk y (Zw b) Zg) λ(g:Int)=>(ax (Zq ((0:Int)<=n)&&Zq (n<(↑(Zv y):Int))&&Zf) (ax (Zb (Zw n) (Zv y)&&Zf) (Zd Zu (Zk y (Zw n) Zg) λ(f:Int)=>aK (!Zq (g<f)) (Yx (Yp [Zm y,Zx Zz n,Zx Zz c,Zx Zz (Zy Zz (b-(1:Int)))])) (Yx (Zh (Yz e,[Zm y,Zx Zz n,Zx Zz c,Zx Zz b]))))))))) (Yx (Zh (Yz e,[Zm y,Zx Zz n,Zx Zz c,Zx Zz b]))))) n (mJ d a i j)=Yx (.exit e,mJ d a i (Go.Sort.scanDown (λx => !Go.Sort.ltInt x d[a]!) d i j)) by
  obtain⟨n,k⟩:=h;exact Qb4 (Option.bind · K) (nj k)
 refine RR (e:=e) (p:=(λx => !Go.Sort.ltInt x d[a]!)) (d:=d) (a:=a) (i:=i) (step:=λ(st:List AV)=>ar st λ(x:AV) (r:List AV)=>AV.aS x λ(y:List AV)=>ar r λ(x:AV) (r:List AV)=>Zd Zz x λ(n:Int)=>ar r λ(x:AV) (r:List AV)=>Zd Zz x λ(c:Int)=>ar r λ(x:AV) (r:List AV)=>Zd Zz x λ(b:Int)=>ak r (aK (Zq (c<=b)) (ax (Zq ((0:Int)<=b)&&Zq (b<(↑(Zv y):Int))&&Zf) (ax (Zb (Zw b) (Zv y)&&Zf) (Zd Zu (Zk y (Zw b) Zg) λ(g:Int)=>(ax (Zq ((0:Int)<=n)&&Zq (n<(↑(Zv y):Int))&&Zf) (ax (Zb (Zw n) (Zv y)&&Zf) (Zd Zu (Zk y (Zw n) Zg) λ(f:Int)=>aK (!Zq (g<f)) (Yx (Yp [Zm y,Zx Zz n,Zx Zz c,Zx Zz (Zy Zz (b-(1:Int)))])) (Yx (Zh (Yz e,[Zm y,Zx Zz n,Zx Zz c,Zx Zz b]))))))))) (Yx (Zh (Yz e,[Zm y,Zx Zz n,Zx Zz c,Zx Zz b]))))) ?_ ?_ m j l
 .intro j hc s;have q:(j+1)<d.size:=by omega
  dsimp only[mJ];simp only[↓bW,↓cG,↓dx,↓dA];rw[ae (by simp;omega),Zn q,Zn o];by_cases h:d[j+1]! < d[a]!
  .rw[ai (by simp[h]),Qa0 (by simp[Go.Sort.ltInt,h])]
  .rw[ae (by simp[h]),Qa1 (by simp[Go.Sort.ltInt,h]),show Zy AI (((j+1:Nat):Int)-1)=(j:Int) from(Yj (by omega) (by omega)).trans (by omega)]
 .intro j hc;dsimp only[mJ];simp only[↓bW,↓cG,↓dx,↓dA];rw[ai (by simp;omega)]
theorem VW(o:a<d.size)(l:j<d.size)(m:1<=i)(hs:d.size<=1152921504606846976):Option.bind (bh (λ(st:List AV)=>ar st λ(x:AV) (r:List AV)=>AV.aS x λ(y:List AV)=>ar r λ(x:AV) (r:List AV)=>Zd Zz x λ(n:Int)=>ar r λ(x:AV) (r:List AV)=>Zd Zz x λ(c:Int)=>ar r λ(x:AV) (r:List AV)=>Zd Zz x λ(b:Int)=>ak r (aK (Zq (c<=b)) (ax (Zq ((0:Int)<=n)&&Zq (n<(↑(Zv y):Int))&&Zf) (ax (Zb (Zw n) (Zv y)&&Zf) (Zd Zu (Zk y (Zw n) Zg) λ(g:Int)=>(ax (Zq ((0:Int)<=b)&&Zq (b<(↑(Zv y):Int))&&Zf) (ax (Zb (Zw b) (Zv y)&&Zf) (Zd Zu (Zk y (Zw b) Zg) λ(f:Int)=>aK (Zq (g<f)) (Yx (Yp [Zm y,Zx Zz n,Zx Zz c,Zx Zz (Zy Zz (b-(1:Int)))])) (Yx (Zh (Yz e,[Zm y,Zx Zz n,Zx Zz c,Zx Zz b]))))))))) (Yx (Zh (Yz e,[Zm y,Zx Zz n,Zx Zz c,Zx Zz b]))))) [Zm (back d),Zx AI (a:Int),Zx AI (i:Int),Zx AI (j:Int)]) K=K (.exit e,[Zm (back d),Zx AI (a:Int),Zx AI (i:Int),Zx AI (Go.Sort.scanDown (λx=>Go.Sort.ltInt d[a]! x) d i j:Int)]):=by
 suffices h:∃ n,eD (λ(st:List AV)=>ar st λ(x:AV) (r:List AV)=>AV.aS x λ(y:List AV)=>ar r λ(x:AV) (r:List AV)=>Zd Zz x λ(n:Int)=>ar r λ(x:AV) (r:List AV)=>Zd Zz x λ(c:Int)=>ar r λ(x:AV) (r:List AV)=>Zd Zz x λ(b:Int)=>ak r (aK (Zq (c<=b)) (ax (Zq ((0:Int)<=n)&&Zq (n<(↑(Zv y):Int))&&Zf) (ax (Zb (Zw n) (Zv y)&&Zf) (Zd Zu (Zk y (Zw n) Zg) λ(g:Int)=>(ax (Zq ((0:Int)<=b)&&Zq (b<(↑(Zv y):Int))&&Zf) (ax (Zb (Zw b) (Zv y)&&Zf) (Zd Zu (Zk y (Zw b) Zg) λ(f:Int)=>aK (Zq (g<f)) (Yx (Yp [Zm y,Zx Zz n,Zx Zz c,Zx Zz (Zy Zz (b-(1:Int)))])) (Yx (Zh (Yz e,[Zm y,Zx Zz n,Zx Zz c,Zx Zz b]))))))))) (Yx (Zh (Yz e,[Zm y,Zx Zz n,Zx Zz c,Zx Zz b]))))) n (mJ d a i j)=Yx (.exit e,mJ d a i (Go.Sort.scanDown (λx=>Go.Sort.ltInt d[a]! x) d i j)) by
  obtain⟨n,k⟩:=h;exact Qb4 (Option.bind · K) (nj k)
 refine RR (e:=e) (p:=(λx=>Go.Sort.ltInt d[a]! x)) (d:=d) (a:=a) (i:=i) (step:=λ(st:List AV)=>ar st λ(x:AV) (r:List AV)=>AV.aS x λ(y:List AV)=>ar r λ(x:AV) (r:List AV)=>Zd Zz x λ(n:Int)=>ar r λ(x:AV) (r:List AV)=>Zd Zz x λ(c:Int)=>ar r λ(x:AV) (r:List AV)=>Zd Zz x λ(b:Int)=>ak r (aK (Zq (c<=b)) (ax (Zq ((0:Int)<=n)&&Zq (n<(↑(Zv y):Int))&&Zf) (ax (Zb (Zw n) (Zv y)&&Zf) (Zd Zu (Zk y (Zw n) Zg) λ(g:Int)=>(ax (Zq ((0:Int)<=b)&&Zq (b<(↑(Zv y):Int))&&Zf) (ax (Zb (Zw b) (Zv y)&&Zf) (Zd Zu (Zk y (Zw b) Zg) λ(f:Int)=>aK (Zq (g<f)) (Yx (Yp [Zm y,Zx Zz n,Zx Zz c,Zx Zz (Zy Zz (b-(1:Int)))])) (Yx (Zh (Yz e,[Zm y,Zx Zz n,Zx Zz c,Zx Zz b]))))))))) (Yx (Zh (Yz e,[Zm y,Zx Zz n,Zx Zz c,Zx Zz b]))))) ?_ ?_ m j l
 .intro j hc s;have q:(j+1)<d.size:=by omega
  dsimp only[mJ];simp only[↓bW,↓cG,↓dx,↓dA];rw[ae (by simp;omega),Zn o,Zn q];by_cases h:d[a]! < d[j+1]!
  .rw[ae (by simp[h]),Qa1 (by simp[Go.Sort.ltInt,h]),show Zy AI (((j+1:Nat):Int)-1)=(j:Int) from(Yj (by omega) (by omega)).trans (by omega)]
  .rw[ai (by simp[h]),Qa0 (by simp[Go.Sort.ltInt,h])]
 .intro j hc;dsimp only[mJ];simp only[↓bW,↓cG,↓dx,↓dA];rw[ai (by simp;omega)]
theorem Dr(d:Array Int)(a b p:Nat):part (back d) (a:Int) (b:Int) (p:Int)=((Go.Sort.partition Go.Sort.ltInt d a b p).1,(Go.Sort.partition Go.Sort.ltInt d a b p).2.1,back (Go.Sort.partition Go.Sort.ltInt d a b p).2.2):=by
 simp only[part,fw,Zp]
theorem xZ(d:Array Int)(a b p:Nat):HB (back d) (a:Int) (b:Int) (p:Int)=((Go.Sort.partitionEqual Go.Sort.ltInt d a b p).1,back (Go.Sort.partitionEqual Go.Sort.ltInt d a b p).2):=by
 simp only[HB,fw,Zp]
theorem Ay{lt:Int->Int->Bool}{s n:Nat}(b:a+1<n):(Go.Sort.medianAdjacent lt d a s).1<n/\(Go.Sort.medianAdjacent lt d a s).2<=s+3:=by
 unfold Go.Sort.medianAdjacent;exact PY (by omega) (by omega) b
theorem Jo(f:Int->Option Z)(n:Nat):aK ((n:Int)==(0:Int)) (f 1) (aK ((n:Int)==(12:Int)) (f 2) (f 0))=f (Jn (if n=0 then Go.Sort.Hint.increasing else if n=12 then Go.Sort.Hint.decreasing else Go.Sort.Hint.unknown)):=by
 by_cases h:n=0
 .subst h;rfl
 .rw[ai (by simpa using h),Qa0 h];by_cases a:n=12
  .subst a;rfl
  .rw[ai (by simp;omega),Qa0 a];rfl
end Kerb
/- The loops of the sort that stops early (printed by mksort3.py). -/
namespace Kerb
open Go Go.Abs
variable {d:Array Int}{A:Int}{s:Int}{bb:Bool}{b:Nat}{e:Nat}{I:Int}{lt:Int->Int->Bool}
theorem HT(w:b<=d.size)(hs:d.size<=1152921504606846976):∀ (m i:Nat),b-i=m->1<=i->i<=b->bh (λ(st:List AV)=>ar st λ(x:AV) (r:List AV)=>AV.aS x λ(y:List AV)=>ar r λ(x:AV) (r:List AV)=>Zd Zz x λ(n:Int)=>ar r λ(x:AV) (r:List AV)=>Zd Zz x λ(c:Int)=>ar r λ(x:AV) (r:List AV)=>Zd Zz x λ(a:Int)=>ar r λ(x:AV) (r:List AV)=>Zd Zz x λ(f:Int)=>ar r λ(x:AV) (r:List AV)=>AV.dw x λ(b:Bool)=>ak r (aK (Zq (a<c)) (ax (Zq ((0:Int)<=a)&&Zq (a<(↑(Zv y):Int))&&Zf) (ax (Zb (Zw a) (Zv y)&&Zf) (Zd Zu (Zk y (Zw a) Zg) λ(p:Int)=>ax (Zq ((0:Int)<=Zy Zz (a-(1:Int)))&&Zq (Zy Zz (a-(1:Int))<(↑(Zv y):Int))&&Zf) (ax (Zb (Zw (Zy Zz (a-(1:Int)))) (Zv y)&&Zf) (Zd Zu (Zk y (Zw (Zy Zz (a-(1:Int)))) Zg) λ(g:Int)=>aK (!Zq (p<g)) (Yx (Yp [Zm y,Zx Zz n,Zx Zz c,Zx Zz (Zy Zz (a+(1:Int))),Zx Zz f,Yw b])) (Yx (Zh (Yz e,[Zm y,Zx Zz n,Zx Zz c,Zx Zz a,Zx Zz f,Yw b])))))))) (Yx (Zh (Yz e,[Zm y,Zx Zz n,Zx Zz c,Zx Zz a,Zx Zz f,Yw b]))))) [Zm (back d),Zx AI A,Zx AI (b:Int),Zx AI (i:Int),Zx AI s,Yw bb]=Yx (.exit e,[Zm (back d),Zx AI A,Zx AI (b:Int),Zx AI (Go.Sort.scanSorted Go.Sort.ltInt d b i:Int),Zx AI s,Yw bb]):=by
 suffices h:∀ (m i:Nat),b-i=m->1<=i->i<=b->∃ n,eD (λ(st:List AV)=>ar st λ(x:AV) (r:List AV)=>AV.aS x λ(y:List AV)=>ar r λ(x:AV) (r:List AV)=>Zd Zz x λ(n:Int)=>ar r λ(x:AV) (r:List AV)=>Zd Zz x λ(c:Int)=>ar r λ(x:AV) (r:List AV)=>Zd Zz x λ(a:Int)=>ar r λ(x:AV) (r:List AV)=>Zd Zz x λ(f:Int)=>ar r λ(x:AV) (r:List AV)=>AV.dw x λ(b:Bool)=>ak r (aK (Zq (a<c)) (ax (Zq ((0:Int)<=a)&&Zq (a<(↑(Zv y):Int))&&Zf) (ax (Zb (Zw a) (Zv y)&&Zf) (Zd Zu (Zk y (Zw a) Zg) λ(p:Int)=>ax (Zq ((0:Int)<=Zy Zz (a-(1:Int)))&&Zq (Zy Zz (a-(1:Int))<(↑(Zv y):Int))&&Zf) (ax (Zb (Zw (Zy Zz (a-(1:Int)))) (Zv y)&&Zf) (Zd Zu (Zk y (Zw (Zy Zz (a-(1:Int)))) Zg) λ(g:Int)=>aK (!Zq (p<g)) (Yx (Yp [Zm y,Zx Zz n,Zx Zz c,Zx Zz (Zy Zz (a+(1:Int))),Zx Zz f,Yw b])) (Yx (Zh (Yz e,[Zm y,Zx Zz n,Zx Zz c,Zx Zz a,Zx Zz f,Yw b])))))))) (Yx (Zh (Yz e,[Zm y,Zx Zz n,Zx Zz c,Zx Zz a,Zx Zz f,Yw b]))))) n [Zm (back d),Zx AI A,Zx AI (b:Int),Zx AI (i:Int),Zx AI s,Yw bb]=Yx (.exit e,[Zm (back d),Zx AI A,Zx AI (b:Int),Zx AI (Go.Sort.scanSorted Go.Sort.ltInt d b i:Int),Zx AI s,Yw bb]) by
  intro m i o l v;obtain⟨n,j⟩:=h m i o l v;exact nj j
 intro m;induction m with
 | zero =>
  intro i u o l;refine⟨1,?_⟩;unfold eD;simp only[↓bW,↓cG,↓dx,↓dP,↓dA];rw[ai (by simp;omega)];unfold Go.Sort.scanSorted;rw[Qa0 (by simp;omega)]
 | succ m ih =>
  intro i u o l;obtain⟨k,rfl⟩:∃ k,i=k+1:=⟨i-1,by omega⟩;have t:k+1<d.size:=by omega
  have q:k<d.size:=by omega
  by_cases h:d[k+1]! < d[k]!
  .refine⟨1,?_⟩;unfold eD;simp only[↓bW,↓cG,↓dx,↓dP,↓dA];rw[ae (by simp;omega),Zn t,show Zy AI (((k+1:Nat):Int)-1)=((k:Nat):Int) from(Yj (by omega) (by omega)).trans (by omega),Zn q,ai (by simp[h])];unfold Go.Sort.scanSorted;rw[Qa0 (by simp[Go.Sort.ltInt,h])]
  .obtain⟨n,j⟩:=ih (k+1+1) (by omega) (by omega) (by omega);refine⟨n+1,?_⟩;unfold eD;simp only[↓bW,↓cG,↓dx,↓dP,↓dA];rw[ae (by simp;omega),Zn t,show Zy AI (((k+1:Nat):Int)-1)=((k:Nat):Int) from(Yj (by omega) (by omega)).trans (by omega),Zn q,ae (by simp[h])];unfold Go.Sort.scanSorted;rw[Qa1 (by simp[Go.Sort.ltInt,h];omega),show Zy AI (((k+1:Nat):Int)+1)=((k+1+1:Nat):Int) from(Yj (by omega) (by omega)).trans (by omega)];exact j
theorem Ku{B:Int}:∀ (j:Nat) (d:Array Int),j<d.size->d.size<=1152921504606846976->∃ m,bh (λ(st:List AV)=>ar st λ(x:AV) (r:List AV)=>AV.aS x λ(y:List AV)=>ar r λ(x:AV) (r:List AV)=>Zd Zz x λ(n:Int)=>ar r λ(x:AV) (r:List AV)=>Zd Zz x λ(g:Int)=>ar r λ(x:AV) (r:List AV)=>Zd Zz x λ(f:Int)=>ar r λ(x:AV) (r:List AV)=>Zd Zz x λ(i:Int)=>ar r λ(x:AV) (r:List AV)=>Zd Zz x λ(a:Int)=>ar r λ(x:AV) (r:List AV)=>AV.dw x λ(b:Bool)=>ak r (aK (Zq (a>=(1:Int))) (ax (Zq ((0:Int)<=a)&&Zq (a<(↑(Zv y):Int))&&Zf) (ax (Zb (Zw a) (Zv y)&&Zf) (Zd Zu (Zk y (Zw a) Zg) λ(t:Int)=>ax (Zq ((0:Int)<=Zy Zz (a-(1:Int)))&&Zq (Zy Zz (a-(1:Int))<(↑(Zv y):Int))&&Zf) (ax (Zb (Zw (Zy Zz (a-(1:Int)))) (Zv y)&&Zf) (Zd Zu (Zk y (Zw (Zy Zz (a-(1:Int)))) Zg) λ(v:Int)=>aK (!Zq (t<v)) (Yx (Zh (Yz e,[Zm y,Zx Zz n,Zx Zz g,Zx Zz f,Zx Zz i,Zx Zz a,Yw b]))) (ax (Zq ((0:Int)<=Zy Zz (a-(1:Int)))&&Zq (Zy Zz (a-(1:Int))<(↑(Zv y):Int))&&Zf) (ax (Zb (Zw (Zy Zz (a-(1:Int)))) (Zv y)&&Zf) (Zd Zu (Zk y (Zw (Zy Zz (a-(1:Int)))) Zg) λ(c:Int)=>ax (Zq ((0:Int)<=a)&&Zq (a<(↑(Zv y):Int))&&Zf) (ax (Zb (Zw a) (Zv y)&&Zf) (Zd Zu (Zk y (Zw a) Zg) λ(o:Int)=>ax (Zq ((0:Int)<=a)&&Zq (a<(↑(Zv y):Int))&&Zf) (ax (Zb (Zw a) (Zv y)&&Zf) (Zd Zu (Zk y (Zw a) Zg) λ(z:Int)=>ax (Zv [Zx Zu c]==nat_lit 1&&Zf&&Zf&&Zf&&Zb (Zw a) (Zv y)) (ax (Zq ((0:Int)<=Zy Zz (a-(1:Int)))&&Zq (Zy Zz (a-(1:Int))<(↑(Zv (Yv y (Zw a) (Zx Zu c))):Int))&&Zf) (ax (Zb (Zw (Zy Zz (a-(1:Int)))) (Zv (Yv y (Zw a) (Zx Zu c)))&&Zf) (Zd Zu (Zk (Yv y (Zw a) (Zx Zu c)) (Zw (Zy Zz (a-(1:Int)))) Zg) λ(w:Int)=>ax (Zv [Zx Zu o]==nat_lit 1&&Zf&&Zf&&Zf&&Zb (Zw (Zy Zz (a-(1:Int)))) (Zv (Yv y (Zw a) (Zx Zu c)))) (Yx (Yp [Zm (Yv (Yv y (Zw a) (Zx Zu c)) (Zw (Zy Zz (a-(1:Int)))) (Zx Zu o)),Zx Zz n,Zx Zz g,Zx Zz f,Zx Zz i,Zx Zz (Zy Zz (a-(1:Int))),Yw b]))))))))))))))))) (Yx (Zh (Yz e,[Zm y,Zx Zz n,Zx Zz g,Zx Zz f,Zx Zz i,Zx Zz a,Yw b]))))) [Zm (back d),Zx AI A,Zx AI B,Zx AI I,Zx AI s,Zx AI (j:Int),Yw bb]=Yx (.exit e,[Zm (back (Go.Sort.shiftDown Go.Sort.ltInt j d)),Zx AI A,Zx AI B,Zx AI I,Zx AI s,Zx AI m,Yw bb]):=by
 suffices h:∀ (j:Nat) (d:Array Int),j<d.size->d.size<=1152921504606846976->∃ m n,eD (λ(st:List AV)=>ar st λ(x:AV) (r:List AV)=>AV.aS x λ(y:List AV)=>ar r λ(x:AV) (r:List AV)=>Zd Zz x λ(n:Int)=>ar r λ(x:AV) (r:List AV)=>Zd Zz x λ(g:Int)=>ar r λ(x:AV) (r:List AV)=>Zd Zz x λ(f:Int)=>ar r λ(x:AV) (r:List AV)=>Zd Zz x λ(i:Int)=>ar r λ(x:AV) (r:List AV)=>Zd Zz x λ(a:Int)=>ar r λ(x:AV) (r:List AV)=>AV.dw x λ(b:Bool)=>ak r (aK (Zq (a>=(1:Int))) (ax (Zq ((0:Int)<=a)&&Zq (a<(↑(Zv y):Int))&&Zf) (ax (Zb (Zw a) (Zv y)&&Zf) (Zd Zu (Zk y (Zw a) Zg) λ(t:Int)=>ax (Zq ((0:Int)<=Zy Zz (a-(1:Int)))&&Zq (Zy Zz (a-(1:Int))<(↑(Zv y):Int))&&Zf) (ax (Zb (Zw (Zy Zz (a-(1:Int)))) (Zv y)&&Zf) (Zd Zu (Zk y (Zw (Zy Zz (a-(1:Int)))) Zg) λ(v:Int)=>aK (!Zq (t<v)) (Yx (Zh (Yz e,[Zm y,Zx Zz n,Zx Zz g,Zx Zz f,Zx Zz i,Zx Zz a,Yw b]))) (ax (Zq ((0:Int)<=Zy Zz (a-(1:Int)))&&Zq (Zy Zz (a-(1:Int))<(↑(Zv y):Int))&&Zf) (ax (Zb (Zw (Zy Zz (a-(1:Int)))) (Zv y)&&Zf) (Zd Zu (Zk y (Zw (Zy Zz (a-(1:Int)))) Zg) λ(c:Int)=>ax (Zq ((0:Int)<=a)&&Zq (a<(↑(Zv y):Int))&&Zf) (ax (Zb (Zw a) (Zv y)&&Zf) (Zd Zu (Zk y (Zw a) Zg) λ(o:Int)=>ax (Zq ((0:Int)<=a)&&Zq (a<(↑(Zv y):Int))&&Zf) (ax (Zb (Zw a) (Zv y)&&Zf) (Zd Zu (Zk y (Zw a) Zg) λ(z:Int)=>ax (Zv [Zx Zu c]==nat_lit 1&&Zf&&Zf&&Zf&&Zb (Zw a) (Zv y)) (ax (Zq ((0:Int)<=Zy Zz (a-(1:Int)))&&Zq (Zy Zz (a-(1:Int))<(↑(Zv (Yv y (Zw a) (Zx Zu c))):Int))&&Zf) (ax (Zb (Zw (Zy Zz (a-(1:Int)))) (Zv (Yv y (Zw a) (Zx Zu c)))&&Zf) (Zd Zu (Zk (Yv y (Zw a) (Zx Zu c)) (Zw (Zy Zz (a-(1:Int)))) Zg) λ(w:Int)=>ax (Zv [Zx Zu o]==nat_lit 1&&Zf&&Zf&&Zf&&Zb (Zw (Zy Zz (a-(1:Int)))) (Zv (Yv y (Zw a) (Zx Zu c)))) (Yx (Yp [Zm (Yv (Yv y (Zw a) (Zx Zu c)) (Zw (Zy Zz (a-(1:Int)))) (Zx Zu o)),Zx Zz n,Zx Zz g,Zx Zz f,Zx Zz i,Zx Zz (Zy Zz (a-(1:Int))),Yw b]))))))))))))))))) (Yx (Zh (Yz e,[Zm y,Zx Zz n,Zx Zz g,Zx Zz f,Zx Zz i,Zx Zz a,Yw b]))))) n [Zm (back d),Zx AI A,Zx AI B,Zx AI I,Zx AI s,Zx AI (j:Int),Yw bb]=Yx (.exit e,[Zm (back (Go.Sort.shiftDown Go.Sort.ltInt j d)),Zx AI A,Zx AI B,Zx AI I,Zx AI s,Zx AI m,Yw bb]) by
  intro j d l p;obtain⟨m,n,u⟩:=h j d l p;exact⟨m,nj u⟩
 intro j;induction j with
 | zero =>
  intro d l p;refine⟨((0:Nat):Int),1,?_⟩;unfold eD;simp only[↓bW,↓cG,↓dx,↓dP,↓dA];rw[ai (by simp)];rfl
 | succ k ih =>
  intro d l p;have q:k<d.size:=by omega
  by_cases h:d[k+1]! < d[k]!
  .obtain⟨m,n,u⟩:=ih (Go.Sort.swp d (k+1) k) (by rw[swp_size];omega) (by rw[swp_size];exact p);refine⟨m,n+1,?_⟩;unfold eD;simp only[↓bW,↓cG,↓dx,↓dP,↓dA];rw[ae (by simp;omega),Zn l];simp only[show Zy AI (((k+1:Nat):Int)-1)=((k:Nat):Int) from(Yj (by omega) (by omega)).trans (by omega)];rw[Zn q,ai (by simp[h])];rw[Zn q,Zn l,Kerb.wr l (by simp[Kerb.aU];omega),Kerb.dq,Kerb.wr (by rw[Array.size_setIfInBounds];exact q) (by simp[Kerb.aU];omega),Kerb.dq,show(Yk (Yk d (k+1) d[k]!) k d[k+1]!)=Go.Sort.swp d (k+1) k from rfl];unfold Go.Sort.shiftDown;rw[Qa0 (by simp[Go.Sort.ltInt,h])];exact u
  .refine⟨((k+1:Nat):Int),1,?_⟩;unfold eD;simp only[↓bW,↓cG,↓dx,↓dP,↓dA];rw[ae (by simp;omega),Zn l];simp only[show Zy AI (((k+1:Nat):Int)-1)=((k:Nat):Int) from(Yj (by omega) (by omega)).trans (by omega)];rw[Zn q,ae (by simp[h])];unfold Go.Sort.shiftDown;rw[Qa1 (by simp[Go.Sort.ltInt,h])]
theorem FW:∀ (m:Nat) (j:Nat) (d:Array Int),b-j=m->1<=j->j<=b->b<=d.size->d.size<=1152921504606846976->∃ m,bh (λ(st:List AV)=>ar st λ(x:AV) (r:List AV)=>AV.aS x λ(y:List AV)=>ar r λ(x:AV) (r:List AV)=>Zd Zz x λ(n:Int)=>ar r λ(x:AV) (r:List AV)=>Zd Zz x λ(f:Int)=>ar r λ(x:AV) (r:List AV)=>Zd Zz x λ(g:Int)=>ar r λ(x:AV) (r:List AV)=>Zd Zz x λ(i:Int)=>ar r λ(x:AV) (r:List AV)=>Zd Zz x λ(a:Int)=>ar r λ(x:AV) (r:List AV)=>AV.dw x λ(b:Bool)=>ak r (aK (Zq (a<f)) (ax (Zq ((0:Int)<=a)&&Zq (a<(↑(Zv y):Int))&&Zf) (ax (Zb (Zw a) (Zv y)&&Zf) (Zd Zu (Zk y (Zw a) Zg) λ(u:Int)=>ax (Zq ((0:Int)<=Zy Zz (a-(1:Int)))&&Zq (Zy Zz (a-(1:Int))<(↑(Zv y):Int))&&Zf) (ax (Zb (Zw (Zy Zz (a-(1:Int)))) (Zv y)&&Zf) (Zd Zu (Zk y (Zw (Zy Zz (a-(1:Int)))) Zg) λ(t:Int)=>aK (!Zq (u<t)) (Yx (Zh (Yz e,[Zm y,Zx Zz n,Zx Zz f,Zx Zz g,Zx Zz i,Zx Zz a,Yw b]))) (ax (Zq ((0:Int)<=Zy Zz (a-(1:Int)))&&Zq (Zy Zz (a-(1:Int))<(↑(Zv y):Int))&&Zf) (ax (Zb (Zw (Zy Zz (a-(1:Int)))) (Zv y)&&Zf) (Zd Zu (Zk y (Zw (Zy Zz (a-(1:Int)))) Zg) λ(c:Int)=>ax (Zq ((0:Int)<=a)&&Zq (a<(↑(Zv y):Int))&&Zf) (ax (Zb (Zw a) (Zv y)&&Zf) (Zd Zu (Zk y (Zw a) Zg) λ(l:Int)=>ax (Zq ((0:Int)<=a)&&Zq (a<(↑(Zv y):Int))&&Zf) (ax (Zb (Zw a) (Zv y)&&Zf) (Zd Zu (Zk y (Zw a) Zg) λ(E:Int)=>ax (Zv [Zx Zu c]==nat_lit 1&&Zf&&Zf&&Zf&&Zb (Zw a) (Zv y)) (ax (Zq ((0:Int)<=Zy Zz (a-(1:Int)))&&Zq (Zy Zz (a-(1:Int))<(↑(Zv (Yv y (Zw a) (Zx Zu c))):Int))&&Zf) (ax (Zb (Zw (Zy Zz (a-(1:Int)))) (Zv (Yv y (Zw a) (Zx Zu c)))&&Zf) (Zd Zu (Zk (Yv y (Zw a) (Zx Zu c)) (Zw (Zy Zz (a-(1:Int)))) Zg) λ(D:Int)=>ax (Zv [Zx Zu l]==nat_lit 1&&Zf&&Zf&&Zf&&Zb (Zw (Zy Zz (a-(1:Int)))) (Zv (Yv y (Zw a) (Zx Zu c)))) (Yx (Yp [Zm (Yv (Yv y (Zw a) (Zx Zu c)) (Zw (Zy Zz (a-(1:Int)))) (Zx Zu l)),Zx Zz n,Zx Zz f,Zx Zz g,Zx Zz i,Zx Zz (Zy Zz (a+(1:Int))),Yw b]))))))))))))))))) (Yx (Zh (Yz e,[Zm y,Zx Zz n,Zx Zz f,Zx Zz g,Zx Zz i,Zx Zz a,Yw b]))))) [Zm (back d),Zx AI A,Zx AI (b:Int),Zx AI I,Zx AI s,Zx AI (j:Int),Yw bb]=Yx (.exit e,[Zm (back (Go.Sort.shiftUp Go.Sort.ltInt b j d)),Zx AI A,Zx AI (b:Int),Zx AI I,Zx AI s,Zx AI m,Yw bb]):=by
 suffices h:∀ (m:Nat) (j:Nat) (d:Array Int),b-j=m->1<=j->j<=b->b<=d.size->d.size<=1152921504606846976->∃ m n,eD (λ(st:List AV)=>ar st λ(x:AV) (r:List AV)=>AV.aS x λ(y:List AV)=>ar r λ(x:AV) (r:List AV)=>Zd Zz x λ(n:Int)=>ar r λ(x:AV) (r:List AV)=>Zd Zz x λ(f:Int)=>ar r λ(x:AV) (r:List AV)=>Zd Zz x λ(g:Int)=>ar r λ(x:AV) (r:List AV)=>Zd Zz x λ(i:Int)=>ar r λ(x:AV) (r:List AV)=>Zd Zz x λ(a:Int)=>ar r λ(x:AV) (r:List AV)=>AV.dw x λ(b:Bool)=>ak r (aK (Zq (a<f)) (ax (Zq ((0:Int)<=a)&&Zq (a<(↑(Zv y):Int))&&Zf) (ax (Zb (Zw a) (Zv y)&&Zf) (Zd Zu (Zk y (Zw a) Zg) λ(u:Int)=>ax (Zq ((0:Int)<=Zy Zz (a-(1:Int)))&&Zq (Zy Zz (a-(1:Int))<(↑(Zv y):Int))&&Zf) (ax (Zb (Zw (Zy Zz (a-(1:Int)))) (Zv y)&&Zf) (Zd Zu (Zk y (Zw (Zy Zz (a-(1:Int)))) Zg) λ(t:Int)=>aK (!Zq (u<t)) (Yx (Zh (Yz e,[Zm y,Zx Zz n,Zx Zz f,Zx Zz g,Zx Zz i,Zx Zz a,Yw b]))) (ax (Zq ((0:Int)<=Zy Zz (a-(1:Int)))&&Zq (Zy Zz (a-(1:Int))<(↑(Zv y):Int))&&Zf) (ax (Zb (Zw (Zy Zz (a-(1:Int)))) (Zv y)&&Zf) (Zd Zu (Zk y (Zw (Zy Zz (a-(1:Int)))) Zg) λ(c:Int)=>ax (Zq ((0:Int)<=a)&&Zq (a<(↑(Zv y):Int))&&Zf) (ax (Zb (Zw a) (Zv y)&&Zf) (Zd Zu (Zk y (Zw a) Zg) λ(l:Int)=>ax (Zq ((0:Int)<=a)&&Zq (a<(↑(Zv y):Int))&&Zf) (ax (Zb (Zw a) (Zv y)&&Zf) (Zd Zu (Zk y (Zw a) Zg) λ(E:Int)=>ax (Zv [Zx Zu c]==nat_lit 1&&Zf&&Zf&&Zf&&Zb (Zw a) (Zv y)) (ax (Zq ((0:Int)<=Zy Zz (a-(1:Int)))&&Zq (Zy Zz (a-(1:Int))<(↑(Zv (Yv y (Zw a) (Zx Zu c))):Int))&&Zf) (ax (Zb (Zw (Zy Zz (a-(1:Int)))) (Zv (Yv y (Zw a) (Zx Zu c)))&&Zf) (Zd Zu (Zk (Yv y (Zw a) (Zx Zu c)) (Zw (Zy Zz (a-(1:Int)))) Zg) λ(D:Int)=>ax (Zv [Zx Zu l]==nat_lit 1&&Zf&&Zf&&Zf&&Zb (Zw (Zy Zz (a-(1:Int)))) (Zv (Yv y (Zw a) (Zx Zu c)))) (Yx (Yp [Zm (Yv (Yv y (Zw a) (Zx Zu c)) (Zw (Zy Zz (a-(1:Int)))) (Zx Zu l)),Zx Zz n,Zx Zz f,Zx Zz g,Zx Zz i,Zx Zz (Zy Zz (a+(1:Int))),Yw b]))))))))))))))))) (Yx (Zh (Yz e,[Zm y,Zx Zz n,Zx Zz f,Zx Zz g,Zx Zz i,Zx Zz a,Yw b]))))) n [Zm (back d),Zx AI A,Zx AI (b:Int),Zx AI I,Zx AI s,Zx AI (j:Int),Yw bb]=Yx (.exit e,[Zm (back (Go.Sort.shiftUp Go.Sort.ltInt b j d)),Zx AI A,Zx AI (b:Int),Zx AI I,Zx AI s,Zx AI m,Yw bb]) by
  intro m j d C B z w o;obtain⟨m,n,v⟩:=h m j d C B z w o;exact⟨m,nj v⟩
 intro m;induction m with
 | zero =>
  intro j d C B z w o;refine⟨(j:Int),1,?_⟩;unfold eD;simp only[↓bW,↓cG,↓dx,↓dP,↓dA];rw[ai (by simp;omega)];unfold Go.Sort.shiftUp;rw[Qa0 (by omega)]
 | succ m ih =>
  intro j d C B z w o;obtain⟨k,rfl⟩:∃ k,j=k+1:=⟨j-1,by omega⟩;have q:k+1<d.size:=by omega
  have p:k<d.size:=by omega
  by_cases h:d[k+1]! < d[k]!
  .obtain⟨m,n,v⟩:=ih (k+1+1) (Go.Sort.swp d (k+1) k) (by omega) (by omega) (by omega) (by rw[swp_size];omega) (by rw[swp_size];exact o);refine⟨m,n+1,?_⟩;unfold eD;simp only[↓bW,↓cG,↓dx,↓dP,↓dA];rw[ae (by simp;omega),Zn q];simp only[show Zy AI (((k+1:Nat):Int)-1)=((k:Nat):Int) from(Yj (by omega) (by omega)).trans (by omega)];rw[Zn p,ai (by simp[h])];rw[Zn p,Zn q,Kerb.wr q (by simp[Kerb.aU];omega),Kerb.dq,Kerb.wr (by rw[Array.size_setIfInBounds];exact p) (by simp[Kerb.aU];omega),Kerb.dq,show(Yk (Yk d (k+1) d[k]!) k d[k+1]!)=Go.Sort.swp d (k+1) k from rfl];unfold Go.Sort.shiftUp;rw[Qa1 (by omega),Nat.add_sub_cancel,Qa0 (by simp[Go.Sort.ltInt,h]),show Zy AI (((k+1:Nat):Int)+1)=((k+1+1:Nat):Int) from(Yj (by omega) (by omega)).trans (by omega)];exact v
  .refine⟨((k+1:Nat):Int),1,?_⟩;unfold eD;simp only[↓bW,↓cG,↓dx,↓dP,↓dA];rw[ae (by simp;omega),Zn q];simp only[show Zy AI (((k+1:Nat):Int)-1)=((k:Nat):Int) from(Yj (by omega) (by omega)).trans (by omega)];rw[Zn p,ae (by simp[h])];unfold Go.Sort.shiftUp;rw[Qa1 (by omega),Nat.add_sub_cancel,Qa1 (by simp[Go.Sort.ltInt,h])]
theorem vM:∀ (j:Nat) (d:Array Int),(Go.Sort.shiftDown lt j d).size=d.size:=by
 intro j;induction j with
 | zero=>intro d;rfl
 | succ k ih =>
  intro d;unfold Go.Sort.shiftDown;split
  .rfl
  .rw[ih,swp_size]
theorem zN:∀ (m j:Nat) (d:Array Int),b-j=m->(Go.Sort.shiftUp lt b j d).size=d.size:=by
 intro m;induction m with
 | zero =>
  intro j d h;unfold Go.Sort.shiftUp;rw[Qa0 (by omega)]
 | succ m ih =>
  intro j d h;unfold Go.Sort.shiftUp;rw[Qa1 (by omega)];split
  .rfl
  .rw[ih _ _ (by omega),swp_size]
theorem EN:∀ (m i:Nat),b-i=m->i<=b->i<=Go.Sort.scanSorted lt d b i/\Go.Sort.scanSorted lt d b i<=b:=by
 intro m;induction m with
 | zero =>
  intro i c a;unfold Go.Sort.scanSorted
  grind
 | succ m ih =>
  intro i c a;unfold Go.Sort.scanSorted
  grind
end Kerb
/- The sort's pseudo-random number; lengths in bits. -/
namespace Kerb
open Go Go.Abs
variable {n:Nat}{m:Nat}
theorem ac_(v:BitVec 64):Zy AT (v.toNat:Int)=(v.toNat:Int):=by
 unfold Zy;simp[IntKind.bits,IntKind.signed];have:=v.isLt;omega
theorem afJ(v:BitVec 64):BitVec.ofInt 64 (v.toNat:Int)=v:=by
 grind
theorem shl(v:BitVec 64)(k:Nat)(p:Int)(a:p=((2 ^ k:Nat):Int)):BitVec.ofInt 64 (Zy AT ((v.toNat:Int)*p))=v <<< k:=by
 subst a;apply BitVec.eq_of_toNat_eq;rw[show Zy AT ((v.toNat:Int)*((2 ^ k:Nat):Int))=((v.toNat*2 ^ k % 2 ^ 64:Nat):Int) from by
  unfold Zy;rw[Qa0 (by simp[IntKind.signed])];rfl]
 rw[BitVec.toNat_ofInt,BitVec.toNat_shiftLeft,Nat.shiftLeft_eq]
 grind
theorem shr(v:BitVec 64)(k:Nat)(p:Int)(a:p=((2 ^ k:Nat):Int)):BitVec.ofInt 64 (Int.fdiv (v.toNat:Int) p)=v >>> k:=by
 subst a;apply BitVec.eq_of_toNat_eq;rw[show Int.fdiv (v.toNat:Int) ((2 ^ k:Nat):Int)=((v.toNat / 2 ^ k:Nat):Int) from by rw[Int.fdiv_eq_ediv_of_nonneg _ (Int.natCast_nonneg _)];rfl];rw[BitVec.toNat_ofInt,BitVec.toNat_ushiftRight,Nat.shiftRight_eq_div_pow];have:=v.isLt;have b:v.toNat / 2 ^ k<=v.toNat:=Nat.div_le_self _ _
 grind
theorem XZ(v:BitVec 64):Nk (v.toNat:Int)=((((v ^^^ v <<< 13) ^^^ (v ^^^ v <<< 13) >>> 7) ^^^ ((v ^^^ v <<< 13) ^^^ (v ^^^ v <<< 13) >>> 7) <<< 17).toNat:Int):=by
 unfold Nk;rw[Zp,show UInt64.ofNat v.toNat=UInt64.ofBitVec v from by apply UInt64.eq_of_toBitVec_eq;simp];rfl
theorem S9{k:Nat}(h:2 ^ k<=n):Nat.log2 n=k+Nat.log2 (n / 2 ^ k):=by
 have d:0<2 ^ k:=Nat.two_pow_pos k;have b:n / 2 ^ k≠0:=by
  simp_all
 have c:n≠0:=by omega
 have f:2 ^ (Nat.log2 (n / 2 ^ k))<=n / 2 ^ k:=(Nat.le_log2 b).mp (Nat.le_refl _);have e:n / 2 ^ k<2 ^ (Nat.log2 (n / 2 ^ k)+1):=(Nat.log2_lt b).mp (Nat.lt_succ_self _);generalize Nat.log2 (n / 2 ^ k)=a at f e ⊢;have i:k+a<=Nat.log2 n:=(Nat.le_log2 c).mpr (by
  rw[Nat.pow_add,Nat.mul_comm];exact(Nat.le_div_iff_mul_le d).mp f)
 have g:Nat.log2 n<k+a+1:=(Nat.log2_lt c).mpr (by
  rw[show k+a+1=(a+1)+k by omega,Nat.pow_add];exact(Nat.div_lt_iff_lt_mul d).mp e)
 omega
theorem k7(k:Nat)(h:2 ^ k<=n):Go.Sort.bitsLen n=k+Go.Sort.bitsLen (n / 2 ^ k):=by
 have b:0<2 ^ k:=Nat.two_pow_pos k;have a:n / 2 ^ k≠0:=by
  simp_all
 unfold Go.Sort.bitsLen;rw[Qa0 (by omega),Qa0 a,S9 h];omega
theorem te(k:Nat)(h:n<2 ^ k):Go.Sort.bitsLen n<=k:=by
 unfold Go.Sort.bitsLen;split
 .omega
 .rename_i a;exact(Nat.log2_lt a).mpr h
def Hk:List UInt8:=(List.range 256).map λi=>UInt8.ofNat (Go.Sort.bitsLen i)
theorem Mj(h:m<256):(Hk.getD m 0).toNat=Go.Sort.bitsLen m:=by
 unfold Hk;rw[List.getD_eq_getElem?_getD,List.getElem?_map,List.getElem?_range h];simp only[Option.map_some,Option.getD_some];have:=te 8 (n:=m) (by omega);simp only[UInt8.toNat_ofNat'];omega
theorem oS{T:List UInt8}{N:Int}(a:T=Hk)(hm:m<256)(c:0<=N)(b:N<=64):
  ax (Zq ((0:Int)<=((UInt8.ofNat (Zw (Zy .u8 (m:Int)))).toNat:Int))&&Zq (((UInt8.ofNat (Zw (Zy .u8 (m:Int)))).toNat:Int)<(T.length:Int))) (Yx (Zx AI (Zy AI (N+Zy AI ((Zk T (Zw ((UInt8.ofNat (Zw (Zy .u8 (m:Int)))).toNat:Int)) (0:UInt8)).toNat:Int))),([]:aO)))=Yx (Zx AI (N+(Go.Sort.bitsLen m:Int)),[]):=by
 subst a;have hw:Zy .u8 (m:Int)=(m:Int):=by
  unfold Zy;simp[IntKind.bits,IntKind.signed];omega
 have hu:(UInt8.ofNat m).toNat=m:=by simp;omega
 rw[hw,Zp,hu,Zp,Mj hm];have:=te 8 (n:=m) (by omega);rw[aq (by simp[Hk];omega),im (n:=(Go.Sort.bitsLen m:Int)) (by omega) (by omega),im (by omega) (by omega)]
theorem f32(n:Nat):Int.fdiv (n:Int) ((2:Int) ^ min (Zw (32:Int)) (IntKind.bits AT))=((n / 2 ^ 32:Nat):Int):=Int.fdiv_eq_ediv_of_nonneg (n:Int) (b:=((2 ^ 32:Nat):Int)) (Int.natCast_nonneg _)
theorem f16(n:Nat):Int.fdiv (n:Int) ((2:Int) ^ min (Zw (16:Int)) (IntKind.bits AT))=((n / 2 ^ 16:Nat):Int):=Int.fdiv_eq_ediv_of_nonneg (n:Int) (b:=((2 ^ 16:Nat):Int)) (Int.natCast_nonneg _)
theorem f8(n:Nat):Int.fdiv (n:Int) ((2:Int) ^ min (Zw (8:Int)) (IntKind.bits AT))=((n / 2 ^ 8:Nat):Int):=Int.fdiv_eq_ediv_of_nonneg (n:Int) (b:=((2 ^ 8:Nat):Int)) (Int.natCast_nonneg _)
theorem C6(n:Nat):S4 (n:Int)=(Go.Sort.bitsLen n:Int):=by unfold S4;rw[Zp]
theorem U8(v:BitVec 64) :
  Zy AT ((BitVec.toNat (BitVec.ofInt 64 (Zy AT ((BitVec.toNat (BitVec.ofInt 64 (Zy AT ((BitVec.toNat (BitVec.ofInt 64 (v.toNat:Int) ^^^ BitVec.ofInt 64 (Zy AT ((v.toNat:Int)*(2:Int) ^ min (Zw (13:Int)) 64)))):Int)) ^^^ BitVec.ofInt 64 (Int.fdiv (Zy AT ((BitVec.toNat (BitVec.ofInt 64 (v.toNat:Int) ^^^ BitVec.ofInt 64 (Zy AT ((v.toNat:Int)*(2:Int) ^ min (Zw (13:Int)) 64)))):Int)) ((2:Int) ^ min (Zw (7:Int)) 64)))):Int)) ^^^ BitVec.ofInt 64 (Zy AT (Zy AT ((BitVec.toNat (BitVec.ofInt 64 (Zy AT ((BitVec.toNat (BitVec.ofInt 64 (v.toNat:Int) ^^^ BitVec.ofInt 64 (Zy AT ((v.toNat:Int)*(2:Int) ^ min (Zw (13:Int)) 64)))):Int)) ^^^ BitVec.ofInt 64 (Int.fdiv (Zy AT ((BitVec.toNat (BitVec.ofInt 64 (v.toNat:Int) ^^^ BitVec.ofInt 64 (Zy AT ((v.toNat:Int)*(2:Int) ^ min (Zw (13:Int)) 64)))):Int)) ((2:Int) ^ min (Zw (7:Int)) 64)))):Int)*(2:Int) ^ min (Zw (17:Int)) 64)))):Int)=Nk (v.toNat:Int):=by
 rw[afJ v,shl v 13 ((2:Int) ^ min (Zw (13:Int)) 64) rfl];simp only[ac_,afJ];rw[shr _ 7 ((2:Int) ^ min (Zw (7:Int)) 64) rfl];rw[shl _ 17 ((2:Int) ^ min (Zw (17:Int)) 64) rfl,XZ]
theorem U7(r:UInt64):Nk (r.toNat:Int)=((Go.Sort.xorNext r).toNat:Int):=by
 unfold Nk
 simp_all
theorem QP{n:Int}(b:0<=n)(a:n<18446744073709551616):Zy AT n=n:=by
 unfold Zy;simp[IntKind.bits,IntKind.signed];omega
theorem VI(r:UInt64)(c:1<=m)(b:m<=4611686018427387904):Zy AI (Zy AT ((BitVec.toNat (BitVec.ofInt 64 (r.toNat:Int) &&& BitVec.ofInt 64 (Zy AT ((m:Int)-(1:Int)))):Int)))=((r.toNat &&& (m-1):Nat):Int):=by
 have a:=r.toNat_lt;rw[QP (n:=(m:Int)-1) (by omega) (by omega),BitVec.toNat_and,BitVec.toNat_ofInt,BitVec.toNat_ofInt];rw[show((r.toNat:Int) % ((2 ^ 64:Nat):Int)).toNat=r.toNat by omega,show(((m:Int)-1) % ((2 ^ 64:Nat):Int)).toNat=m-1 by omega];have:r.toNat &&& (m-1)<=m-1:=Nat.and_le_right;rw[QP (by omega) (by omega),im (by omega) (by omega)]
theorem W3(h:n≠0):1<=1 <<< Go.Sort.bitsLen n/\1 <<< Go.Sort.bitsLen n<=2*n:=by
 rw[Nat.one_shiftLeft];have:=Nat.two_pow_pos (Go.Sort.bitsLen n);refine⟨this,?_⟩;unfold Go.Sort.bitsLen;rw[Qa0 h,Nat.pow_succ];have:=(Nat.le_log2 h).mp (Nat.le_refl _);omega
theorem P3(h:n<=4611686018427387904):Zy AT ((1:Int)*(2:Int) ^ min (Zw ((Go.Sort.bitsLen n:Nat):Int)) 64)=Tp (n:Int):=by
 unfold Tp;have:=te 63 (n:=n) (by omega);rw[Zp,Zp,Nat.one_shiftLeft,show min (Go.Sort.bitsLen n) 64=Go.Sort.bitsLen n by omega,Int.one_mul];have a:2 ^ Go.Sort.bitsLen n<=2 ^ 63:=Nat.pow_le_pow_right (by omega) this;rw[show((2:Int) ^ Go.Sort.bitsLen n)=((2 ^ Go.Sort.bitsLen n:Nat):Int) from by simp];generalize 2 ^ Go.Sort.bitsLen n=q at a ⊢;exact QP (by omega) (by omega)
theorem Tq(n:Nat):Tp (n:Int)=((1 <<< Go.Sort.bitsLen n:Nat):Int):=by
 unfold Tp;rw[Zp]
def QR(a l m idx:Nat)(d:Array Int):Nat->UInt64×Array Int
 | 0=>(UInt64.ofNat l,d)
 | k+1=>Go.Sort.breakStep a l m (QR a l m idx d k) (idx+k)
theorem IF(a l m idx:Nat)(d:Array Int):∀ k,(QR a l m idx d k).2.size=d.size
 | 0=>rfl
 | k+1=>by
  unfold QR Go.Sort.breakStep;dsimp only;rw[swp_size,IF a l m idx d k]
end Kerb
/- The sort: one round of the outermost loop. -/
namespace Kerb
open Go Go.Abs Go.Sort
variable {a:Nat}{b:Nat}{d:Array Int}{p:Nat}{l:List AV}{k:Int}
theorem yQ{α Z:Type}{X:Option α}{v:α}{K:α->Option Z}{Q:Z->Prop}(h:X=Yx v)(a:∃ y,K v=Yx y/\Q y):∃ y,Option.bind X K=Yx y/\Q y:=by
 rw[h];exact a
theorem uj:∀ (s i:Nat) (d:Array Int),(partialIns ltInt a b s i d).1.size=d.size:=by
 intro s;induction s with
 | zero=>intro i d;rfl
 | succ s ih =>
  intro i d;rw[partialIns_succ];split
  .rfl
  .split
   .rfl
   .rw[ih];unfold fixUp fixDown;have f:∀ (c:Prop) [Decidable c] (x:Array Int) (j:Nat),(if c then shiftDown ltInt j x else x).size=x.size:=λc _ x j=>by
     split
     .rw[vM]
     .rfl
    have e:∀ (c:Prop) [Decidable c] (x:Array Int) (j:Nat),(if c then shiftUp ltInt b j x else x).size=x.size:=λc _ x j=>by
     split
     .rw[zN _ _ _ rfl]
     .rfl
    rw[e,f,Kerb.swp_size]
theorem tU(i:a<=p)(h:p<b)(g:b<=d.size):a<=(partition ltInt d a b p).1/\(partition ltInt d a b p).1<b/\(partition ltInt d a b p).2.2.size=d.size:=by
 obtain⟨f,e,c,_⟩:=partition_holds ltInt swo_ltInt d a b p i h g;exact⟨f,e,c.1⟩
theorem pP(k:a<=p)(j:p<b)(i:b<=d.size):a<(partitionEqual ltInt d a b p).1/\(partitionEqual ltInt d a b p).1<=b/\(partitionEqual ltInt d a b p).2.size=d.size:=by
 have hs:=Kerb.swp_size d a p;obtain⟨f,e,c,_⟩:=partEqLoop_spec (lt:=ltInt) a b _ (a+1) (b-1) (swp d a p) (Nat.le_refl _) (by omega) (by omega) (by omega) (by omega) (λt h g=>by omega) (λt h g=>by omega);exact⟨f,e,c.1.trans hs⟩
theorem JE(e:a<=b)(c:b<=d.size):(insertionSort ltInt d a b).size=d.size:=(insertionSort_holds swo_ltInt d a b e c).1.1
theorem Pt(e:a<=b)(c:b<=d.size):(heapSort ltInt d a b).size=d.size:=(heapSort_holds swo_ltInt d a b e c).1.1
theorem Cl(e:a<=b)(c:b<=d.size):(breakPatterns d a b).size=d.size:=(breakPatterns_holds d a b e c).1
theorem Ko(e:a<=b)(c:b<=d.size):(reverseRange d a b).size=d.size:=(reverseRange_holds d a b e c).1
def UW(d3:Array Int)(a b l c:Nat)(e d:Bool):Array Int :=
 if a>0 && !ltInt d3[a-1]! d3[c]! then
  match partitionEqual ltInt d3 a b c with
  | (mid,d4)=>if _h:a<mid/\mid<=b then pdq ltInt d4 mid b l e d else d4
 else
  match partition ltInt d3 a b c with
  | (mid,ap,d4) =>
   if _h:a<=mid/\mid<b then
    if mid-a<b-mid then
     pdq ltInt (pdq ltInt d4 a mid l Zf Zf) (mid+1) b l (Zq (mid-a>=(b-a) / 8)) ap
    else
     pdq ltInt (pdq ltInt d4 (mid+1) b l Zf Zf) a mid l (Zq (b-mid>=(b-a) / 8)) ap
   else d4
def ab1(d2:Array Int)(a b l e:Nat)(hint:Hint)(d c:Bool):Array Int :=
 if (if d&&c&&hint = .increasing then partialInsertionSort ltInt d2 a b else(d2,Zj)).2 then(if d&&c&&hint = .increasing then partialInsertionSort ltInt d2 a b else(d2,Zj)).1
 else UW (if d&&c&&hint = .increasing then partialInsertionSort ltInt d2 a b else(d2,Zj)).1 a b l e d c
def Sl(d1:Array Int)(a b l:Nat)(d c:Bool):Array Int :=
 ab1 (if (choosePivot ltInt d1 a b).2 = .decreasing then reverseRange d1 a b else d1) a b l (if (choosePivot ltInt d1 a b).2 = .decreasing then(b-1)-((choosePivot ltInt d1 a b).1-a) else(choosePivot ltInt d1 a b).1) (if (choosePivot ltInt d1 a b).2 = .decreasing then Hint.increasing else(choosePivot ltInt d1 a b).2) d c
theorem AF(d:Array Int)(a b l:Nat)(c e:Bool):pdq ltInt d a b l c e =
  if b-a<=12 then insertionSort ltInt d a b else
  if l=0 then heapSort ltInt d a b else
  Sl (if !c then breakPatterns d a b else d) a b (if !c then l-1 else l) c e:=by
 rw[pdq];rfl
theorem D9{d3:Array Int}{l c:Nat}{f d:Bool}(i:a<=c)(h:c<b)(g:b<=d3.size):UW d3 a b l c f d =
  if (Zq (a>0) && !ltInt d3[a-1]! d3[c]!)=Zf then pdq ltInt (partitionEqual ltInt d3 a b c).2 (partitionEqual ltInt d3 a b c).1 b l f d
  else if (partition ltInt d3 a b c).1-a<b-(partition ltInt d3 a b c).1 then
   pdq ltInt (pdq ltInt (partition ltInt d3 a b c).2.2 a (partition ltInt d3 a b c).1 l Zf Zf) ((partition ltInt d3 a b c).1+1) b l (Zq ((partition ltInt d3 a b c).1-a>=(b-a) / 8)) (partition ltInt d3 a b c).2.1
  else pdq ltInt (pdq ltInt (partition ltInt d3 a b c).2.2 ((partition ltInt d3 a b c).1+1) b l Zf Zf) a (partition ltInt d3 a b c).1 l (Zq (b-(partition ltInt d3 a b c).1>=(b-a) / 8)) (partition ltInt d3 a b c).2.1:=by
 unfold UW;have e:=pP i h g;have p:=tU i h g
 grind
theorem vE:∀ (n:Nat) (d:Array Int) (a b l:Nat) (f i:Bool),b-a<=n->a<=b->b<=d.size->(pdq ltInt d a b l f i).size=d.size:=by
 intro n;induction n with
 | zero =>
  intro d a b l f i r h j;rw[AF,Qa1 (by omega),JE h j]
 | succ n ih =>
  intro d a b l f i r h j;rw[AF];by_cases o:b-a<=12
  .rw[Qa1 o,JE h j]
  rw[Qa0 o];by_cases hl:l=0
  .rw[Qa1 hl,Pt h j]
  rw[Qa0 hl];have s1:(if (!f)=Zf then breakPatterns d a b else d).size=d.size:=by
   split
   .exact Cl h j
   .rfl
  generalize (if (!f)=Zf then breakPatterns d a b else d)=d1 at s1 ⊢;generalize (if (!f)=Zf then l-1 else l)=t;unfold Sl;have hc:=choosePivot_holds ltInt d1 a b (by omega);generalize choosePivot ltInt d1 a b=c at hc ⊢;have s2:(if c.2 = .decreasing then reverseRange d1 a b else d1).size=d.size:=by
   split
   .rw[Ko h (by omega),s1]
   .exact s1
  generalize (if c.2 = .decreasing then reverseRange d1 a b else d1)=d2 at s2 ⊢;have g:a<=(if c.2 = .decreasing then(b-1)-(c.1-a) else c.1)/\(if c.2 = .decreasing then(b-1)-(c.1-a) else c.1)<b:=by
   split<;>omega
  generalize (if c.2 = .decreasing then(b-1)-(c.1-a) else c.1)=s at g ⊢;generalize (if c.2 = .decreasing then Hint.increasing else c.2)=hint;unfold ab1;have q:(if (f&&i&&Zq (hint = .increasing))=Zf then partialInsertionSort ltInt d2 a b else(d2,Zj)).1.size=d.size:=by
   split
   .unfold partialInsertionSort;rw[uj,s2]
   .exact s2
  generalize (if (f&&i&&Zq (hint = .increasing))=Zf then partialInsertionSort ltInt d2 a b else(d2,Zj))=k at q ⊢;by_cases m:k.2=Zf
  .grind
  rw[Qa0 m,D9 g.1 g.2 (by omega)];have e:=pP g.1 g.2 (show b<=k.1.size by omega);have p:=tU g.1 g.2 (show b<=k.1.size by omega)
  grind
theorem sS(d:Array Int)(a b l:Nat):To (back d) (a:Int) (b:Int) (l:Int)=back (pdq ltInt d a b l Zf Zf):=by
 simp only[To,fw,Zp]
theorem SL(d:Array Int)(a b:Nat):BS (back d) (a:Int) (b:Int)=back (insertionSort ltInt d a b):=by
 simp only[BS,fw,Zp]
theorem Ps(d:Array Int)(a b:Nat):NN (back d) (a:Int) (b:Int)=back (heapSort ltInt d a b):=by
 simp only[NN,fw,Zp]
theorem Lz(d:Array Int)(a b:Nat):Gy (back d) (a:Int) (b:Int)=back (breakPatterns d a b):=by
 simp only[Gy,fw,Zp]
theorem Tz(d:Array Int)(a b:Nat):W9 (back d) (a:Int) (b:Int)=back (reverseRange d a b):=by
 simp only[W9,fw,Zp]
theorem Qi(d:Array Int)(a b:Nat):Ke (back d) (a:Int) (b:Int)=choosePivot ltInt d a b:=by
 simp only[Ke,fw,Zp]
theorem Kb(d:Array Int)(a b:Nat):zC (back d) (a:Int) (b:Int)=(back (partialInsertionSort ltInt d a b).1,(partialInsertionSort ltInt d a b).2):=by
 simp only[zC,fw,Zp]
theorem Pv(h:Hint):(Jn h==(2:Int))=Zq (h = .decreasing):=by cases h<;>rfl
theorem Pw(h:Hint):(Jn h==(1:Int))=Zq (h = .increasing):=by cases h<;>rfl
def Ej(l:List AV)(k:Int):List AV:=Bo (l++[.int AT k])
def num(l:List AV)(i:Nat):Int:=match l.getD i .undef with | .int _ n=>n | _=>0
def O3(l:List AV):Bool:=(List.range (l.length-1)).all λi=>Zq (num l i<num l (i+1))
theorem Rs(h:O3 (back d)=Zf){i:Nat}(a:i+1<d.size):d[i]! < d[i+1]! := by
 simp only[O3,List.all_eq_true,List.mem_range,aU,Qa2] at h;have:=h i (by omega);simp only[num,qk a,qk (show i<d.size by omega)] at this;exact this
theorem Og{n:Nat}(h:n<=1000000000000):Go.Abs.room n 8=Zf:=by
 simp[Go.Abs.room];omega
theorem all_join(h:cM l=Zf):cM (l++[.int AT k])=Zf:=by
 simp only[cM,List.all_append,Yy] at h ⊢;exact⟨h,rfl⟩
theorem OY(l:List AV)(k:Int):∃ d,Ej l k=back d:=⟨_,rfl⟩
theorem Rg(h:cM l=Zf):(Ej l k).length=l.length+1:=by
 unfold Ej Bo Go.Sort.sort;rw[aU,vE _ _ _ _ _ _ _ (Nat.le_refl _) (by omega) (Nat.le_refl _)];simp[c8,cu]
theorem MX(d:Array Int):Bo (back d)=back (pdq ltInt d 0 d.size (Go.Sort.bitsLen d.size) Zf Zf):=by
 unfold Bo Go.Sort.sort;rw[fw]
theorem QI(d:Array Int):To (back d) (0:Int) (d.size:Int) (Go.Sort.bitsLen d.size:Int)=Bo (back d):=by
 rw[MX];exact sS d 0 d.size (Go.Sort.bitsLen d.size)
theorem ab0(h:(d.size:Int)<=1152921504606846976):Go.Sort.bitsLen d.size<=64:=te 64 (Nat.lt_of_le_of_lt (m:=1152921504606846976) (by omega) (by decide))
end Kerb
/- Chapters 2 and 6: lifetimes that are granted, the state of a ticket, tickets. -/
namespace Kerb
open Go Go.Abs
def least(n:Int)(l:List Int):Int:=l.foldl CQ n
def E5(now want:Int)(ends:List Int):Int×Bool :=
 if !within now 4294967295||decide (want<0) then(0,Zj)
 else if least (now+300*(CQ want 255+1)) ends-now<300 then(0,Zj)
 else(CQ ((least (now+300*(CQ want 255+1)) ends-now) / 300-1) 255,Zf)
def K3(cf b now a:Int):Int :=
 if !(within cf 4294967295&&within now 4294967295&&within b 255&&within a 4294967295) then 104
 else if now+a<cf then 33 else if XL cf b+a<now then 32 else 0
def hY(k:Int):Int:=bif bf k then dI k else 0
def iL:dZ:=⟨false,bN,0,0,0,0,[],[]⟩
def dZ.err(t:dZ):Int :=
 if !(t.BY.valid&&(validName t.service&&cO t.inst)) then 103
 else if hY t.ah≠2 then 10
 else if !(within t.address 4294967295&&(within t.bK 255&&within t.cf 4294967295)) then 104 else 0
def bE(t:dZ):rF :=
 if t.err≠0 then⟨[],t.err⟩
 else⟨pad (cX (cX (cV (aD (cond t.By 1 0) 1 Zj) t.BY++aD t.address 4 t.By++keyBytes t.ah++aD t.bK 1 Zj++aD t.cf 4 t.By) t.service) t.inst),0⟩
def my(b:Bytes):dZ :=
 let o:=get b 0 1 Zj
 let li:=o.val==1
 let p:=fX b o.next
 let a:=get b p.next 4 li
 let k:=bytes b a.next 8
 let l:=get b k.next 1 Zj
 let i:=get b l.next 4 li
 let s:=text b i.next
 ⟨li,p.val,a.val,(dm k.val).1,l.val,i.val,s.val,(text b s.next).val⟩
def nz(b:Bytes):Rd dZ :=
 let o:=bV b 1 Zj 0 Zj
 let li:=o.val==1
 let p:=fA b o.pos o.bad
 let a:=bV b 4 li p.pos p.bad
 let k:=cq b 8 a.pos a.bad
 let l:=bV b 1 Zj k.pos k.bad
 let i:=bV b 4 li l.pos l.bad
 let s:=gi b i.pos i.bad
 let n:=gi b s.pos s.bad
 ⟨⟨li,p.p,a.val,(dm k.val).1,l.val,i.val,s.val,n.val⟩,n.pos,n.bad⟩
def aW(b:Bytes):Ii dZ :=
 if 1<(get b 0 1 Zj).val then⟨iL,7⟩ else dU iL bE (λb=>(my b,Zj)) b
def lm(t:dZ)(k:Int):rF:=if (bE t).err≠0 then⟨[],(bE t).err⟩ else jf 1 k (bE t).val
def gA(b:Bytes)(k:Int):Ii dZ:=if (jV b 1 k).2 then aW (jV b 1 k).1 else⟨iL,31⟩
theorem IL{k:Int}(h:hY k=2):bf k=Zf:=by
 unfold hY at h
 grind
theorem rI{t:dZ}(h:(bE t).err=0):t.BY.valid=Zf/\validName t.service=Zf/\cO t.inst=Zf/\bf t.ah=Zf/\(0<=t.address/\t.address<=4294967295)/\(0<=t.bK/\t.bK<=255)/\(0<=t.cf/\t.cf<=4294967295) /\
  (bE t).val=pad (aD (cond t.By 1 0) 1 Zj++(t.BY.name++0::(t.BY.inst++0::(t.BY.aA++0::(aD t.address 4 t.By++(keyBytes t.ah++(aD t.bK 1 Zj++(aD t.cf 4 t.By++(t.service++0::(t.inst++[0])))))))))):=by
 have he:t.err=0:=by
  unfold bE at h;split at h
  .exact h
  .rename_i e;simpa using e
 have d:(bE t).val=pad (cX (cX (cV (aD (cond t.By 1 0) 1 Zj) t.BY++aD t.address 4 t.By++keyBytes t.ah++aD t.bK 1 Zj++aD t.cf 4 t.By) t.service) t.inst):=by
  unfold bE;rw[Qa0 (by simpa using he)]
 unfold dZ.err at he;split at he
 .cases he
 rename_i b;split at he
 .cases he
 rename_i c;split at he
 .cases he
 rename_i a;simp only[Bool.not_eq_true,Bool.not_eq_false',Yy,within_iff] at b a;simp only[ne_eq,Decidable.not_not] at c;refine⟨b.1,b.2.1,b.2.2,IL c,a.1,a.2.1,a.2.2,?_⟩;rw[d];simp[cX,cV]
theorem Ht{s:Bytes}(h:validName s=Zf):s.length<=39/\(0:UInt8) ∉ s:=by
 simp only[validName,Yy,Qa2] at h;exact⟨h.1.2,BW h.2⟩
theorem inst_ok{s:Bytes}(h:cO s=Zf):s.length<=39/\(0:UInt8) ∉ s:=by
 simp only[cO,Yy,Qa2] at h;exact⟨h.1,BW h.2⟩
theorem BI{t:dZ}(i:0<=t.ah)(g:t.ah<18446744073709551616)(h:(bE t).err=0):my (bE t).val=t:=by
 have a:=rI h;generalize (bE t).val=b at a;obtain⟨li,⟨d,e,c⟩,address,ah,j,cf,service,inst⟩:=t;simp only at a i g;obtain⟨hc,o,r,s,f,hl,hd,u⟩:=a;obtain⟨s1,s2⟩:=Ht o;obtain⟨l,k⟩:=inst_ok r;obtain⟨z,m,_⟩:=rP (aD (cond li 1 0) 1 Zj++(d++0::(e++0::(c++0::(aD address 4 li++(keyBytes ah++(aD j 1 Zj++(aD cf 4 li++(service++0::(inst++[0]))))))))));have G:At b 0 (aD (cond li 1 0) 1 Zj++(d++0::(e++0::(c++0::(aD address 4 li++(keyBytes ah++(aD j 1 Zj++(aD cf 4 li++(service++0::(inst++0::z)))))))))):=(At.start b).as (by rw[u,m];simp);obtain⟨D,F⟩:=G.mK (by cases li<;>decide) (by cases li<;>decide);obtain⟨q,C,a2⟩:=At.fX (p:=⟨d,e,c⟩) F hc;obtain⟨B,a3⟩:=a2.mX f.1 f.2;obtain⟨A,a4⟩:=a3.bytes (n:=8) (by rw[bu];rfl);obtain⟨y,a5⟩:=a4.mK hl.1 hl.2;obtain⟨x,E⟩:=a5.mX hd.1 hd.2;obtain⟨w,a7⟩:=E.text s1 s2;obtain⟨v,a8⟩:=a7.text l k;have H:((cond li 1 0:Int)==1)=li:=by cases li<;>rfl
 unfold my;simp only[D,H,C,B,A,y,x,w,v,fG i g s]
theorem EF{t:dZ}(i:0<=t.ah)(g:t.ah<18446744073709551616)(h:(bE t).err=0):((nz (bE t).val).val,(nz (bE t).val).bad)=(t,Zj):=by
 have a:=rI h;generalize (bE t).val=b at a;obtain⟨li,⟨d,e,c⟩,address,ah,j,cf,service,inst⟩:=t;simp only at a i g;obtain⟨hc,o,r,s,f,hl,hd,u⟩:=a;obtain⟨s1,s2⟩:=Ht o;obtain⟨l,k⟩:=inst_ok r;obtain⟨z,m,_⟩:=rP (aD (cond li 1 0) 1 Zj++(d++0::(e++0::(c++0::(aD address 4 li++(keyBytes ah++(aD j 1 Zj++(aD cf 4 li++(service++0::(inst++[0]))))))))));have G:At b 0 (aD (cond li 1 0) 1 Zj++(d++0::(e++0::(c++0::(aD address 4 li++(keyBytes ah++(aD j 1 Zj++(aD cf 4 li++(service++0::(inst++0::z)))))))))):=(At.start b).as (by rw[u,m];simp);obtain⟨D,F⟩:=G.mK (by cases li<;>decide) (by cases li<;>decide);obtain⟨q,C,a2⟩:=At.fX (p:=⟨d,e,c⟩) F hc;obtain⟨B,a3⟩:=a2.mX f.1 f.2;obtain⟨A,a4⟩:=a3.bytes (n:=8) (by rw[bu];rfl);obtain⟨y,a5⟩:=a4.mK hl.1 hl.2;obtain⟨x,E⟩:=a5.mX hd.1 hd.2;obtain⟨w,a7⟩:=E.text s1 s2;obtain⟨v,a8⟩:=a7.text l k;have H:((cond li 1 0:Int)==1)=li:=by cases li<;>rfl
 unfold nz;simp only[cl D,H,lH C,cl B,eC A,cl y,cl x,sT w,sT v,fG i g s]
theorem EI(b:Bytes):0<=(my b).ah/\(my b).ah<18446744073709551616:=dN _
theorem Kh(b:Bytes):0<=(nz b).val.ah/\(nz b).val.ah<18446744073709551616:=dN _
theorem En(b:Bytes):dU iL bE (λb=>(my b,Zj)) b=dU iL bE (λb=>((nz b).val,(nz b).bad)) b :=
 iG (P:=λs=>0<=s.ah/\s.ah<18446744073709551616) (λ_ p h=>by rw[BI p.1 p.2 h]) (λ_ p h=>EF p.1 p.2 h) EI Kh b
theorem GU{t:dZ}(h:(bE t).err≠0):(bE t).val=[]:=by grind [bE]
theorem wT(t:dZ):(bE t).val.length<=224:=by
 by_cases h:(bE t).err=0
 .obtain⟨hc,a,b,g,i,hl,hd,c⟩:=rI h;have f:=fZ hc;have e:=(Ht a).1;have d:=(inst_ok b).1;rw[c,rz];simp[aP,bu];omega
 .rw[GU h];simp
end Kerb
/- Chapter 25: records, parts and messages of version 5, in plain words. -/
namespace Kerb
open Go Go.Abs
structure Bx where
 BY:bQ
 service:bQ
 ah:Int
 start:Int
 stop:Int
 addr:Int
structure rW where
 ah:Int
 service:bQ
 start:Int
 stop:Int
 record:Bytes
structure Bw where
 op:Int
 name:bQ
 box:Bytes
def period(a b:Int):Bool:=within a 4294967295&&within b 4294967295&&Zq (a<=b)
def eB(r:Bx):rF :=
 if !(r.BY.valid&&r.service.valid) then⟨[],103⟩
 else if hY r.ah≠2 then⟨[],10⟩
 else if !(period r.start r.stop&&within r.addr 4294967295) then⟨[],104⟩
 else⟨pad (cV (cV [] r.BY) r.service++keyBytes r.ah++aD r.start 4 Zj++aD r.stop 4 Zj++aD r.addr 4 Zj),0⟩
def dB(p:rW):rF :=
 if !bf p.ah then⟨[],10⟩
 else if !p.service.valid then⟨[],103⟩
 else if !period p.start p.stop then⟨[],104⟩
 else if 300<p.record.length then⟨[],105⟩
 else⟨pad (gL (cV (keyBytes p.ah) p.service++aD p.start 4 Zj++aD p.stop 4 Zj) p.record),0⟩
def dL(m:Bw):rF :=
 if !tJ m.op then⟨[],40⟩
 else if !m.name.valid then⟨[],103⟩
 else if 1012<m.box.length then⟨[],105⟩
 else⟨gL (cV (header 10 Zj++aD m.op 1 Zj) m.name) m.box,0⟩
def Dh:Bx:=⟨bN,bN,0,0,0,0⟩
def zx:rW:=⟨0,bN,0,0,[]⟩
def tQ:Bw:=⟨0,bN,[]⟩
def pH(b:Bytes)(k:Int)(pos:Int)(bad:Bool):Rd Int:=⟨(get b pos k Zj).val,cond ((get b pos k Zj).err==0) (get b pos k Zj).next pos,bad || !((get b pos k Zj).err==0)⟩
def mj(b:Bytes)(n:Int)(pos:Int)(bad:Bool):Rd Bytes:=⟨(bytes b pos n).val,cond ((bytes b pos n).err==0) (bytes b pos n).next pos,bad || !((bytes b pos n).err==0)⟩
def oN(b:Bytes)(pos:Int)(bad:Bool):Rd bQ:=⟨(fX b pos).val,cond ((fX b pos).err==0) (fX b pos).next pos,bad || !((fX b pos).err==0)⟩
def BC(b:Bytes)(pos:Int)(bad:Bool):Rd Int:=⟨(dm (mj b 8 pos bad).val).1,(mj b 8 pos bad).pos,(mj b 8 pos bad).bad || !(dm (mj b 8 pos bad).val).2⟩
theorem rh{b:Bytes}{k pos n a:Int}(h:get b pos k Zj=⟨n,a,0⟩):pH b k pos Zj=⟨n,a,Zj⟩:=by unfold pH;rw[h];rfl
theorem Ag{b s:Bytes}{pos n a:Int}(h:bytes b pos n=⟨s,a,0⟩):mj b n pos Zj=⟨s,a,Zj⟩:=by unfold mj;rw[h];rfl
theorem yR{b:Bytes}{p:bQ}{pos a:Int}(h:fX b pos=⟨p,a,0⟩):oN b pos Zj=⟨p,a,Zj⟩:=by unfold oN;rw[h];rfl
theorem NI{b:Bytes}{k pos a:Int}(h:bytes b pos 8=⟨keyBytes k,a,0⟩)(e:0<=k)(d:k<18446744073709551616)(c:bf k=Zf):BC b pos Zj=⟨k,a,Zj⟩:=by
 unfold BC;rw[Ag h];simp only[fG e d c];rfl
theorem wa(b:Bytes)(pos:Int)(bad:Bool):0<=(BC b pos bad).val/\(BC b pos bad).val<18446744073709551616:=dN _
def Tn(b:Bytes):Rd Bx :=
 let c:=oN b 0 Zj
 let s:=oN b c.pos c.bad
 let k:=BC b s.pos s.bad
 let t:=pH b 4 k.pos k.bad
 let e:=pH b 4 t.pos t.bad
 let a:=pH b 4 e.pos e.bad
 ⟨⟨c.val,s.val,k.val,t.val,e.val,a.val⟩,a.pos,a.bad⟩
def J_(b:Bytes):Rd rW :=
 let k:=BC b 0 Zj
 let s:=oN b k.pos k.bad
 let t:=pH b 4 s.pos s.bad
 let e:=pH b 4 t.pos t.bad
 let m:=pH b 2 e.pos e.bad
 let x:=mj b m.val m.pos m.bad
 ⟨⟨k.val,s.val,t.val,e.val,x.val⟩,x.pos,x.bad⟩
def Qe(b:Bytes):Rd Bw :=
 let o:=pH b 1 2 Zj
 let n:=oN b o.pos o.bad
 let m:=pH b 2 n.pos n.bad
 let x:=mj b m.val m.pos m.bad
 ⟨⟨o.val,n.val,x.val⟩,x.pos,x.bad⟩
def vG(b:Bytes):Bx×Bool:=((Tn b).val,(Tn b).bad)
def sW(b:Bytes):rW×Bool:=((J_ b).val,(J_ b).bad)
def qK(b:Bytes):Bw×Bool:=((Qe b).val,(Qe b).bad)
def bz(b:Bytes):Ii Bx:=dU Dh eB vG b
def bA(b:Bytes):Ii rW:=dU zx dB sW b
def cT(b:Bytes):Ii Bw :=
 if (aR b [10]).2≠0 then⟨tQ,(aR b [10]).2⟩ else dU tQ dL qK b
def W6(b:Bytes):Rd Bx :=
 let c:=fA b 0 Zj
 let s:=fA b c.pos c.bad
 let k:=cq b 8 s.pos s.bad
 let t:=bV b 4 Zj k.pos k.bad
 let e:=bV b 4 Zj t.pos t.bad
 let a:=bV b 4 Zj e.pos e.bad
 ⟨⟨c.p,s.p,(dm k.val).1,t.val,e.val,a.val⟩,a.pos,a.bad⟩
def Oe(b:Bytes):Rd rW :=
 let k:=cq b 8 0 Zj
 let s:=fA b k.pos k.bad
 let t:=bV b 4 Zj s.pos s.bad
 let e:=bV b 4 Zj t.pos t.bad
 let m:=bV b 2 Zj e.pos e.bad
 let x:=cq b m.val m.pos m.bad
 ⟨⟨(dm k.val).1,s.p,t.val,e.val,x.val⟩,x.pos,x.bad⟩
def ace(b:Bytes):Rd Bw :=
 let o:=bV b 1 Zj 2 Zj
 let n:=fA b o.pos o.bad
 let m:=bV b 2 Zj n.pos n.bad
 let x:=cq b m.val m.pos m.bad
 ⟨⟨o.val,n.p,x.val⟩,x.pos,x.bad⟩
def HD(b:Bytes):Bx×Bool:=((W6 b).val,(W6 b).bad)
def B2(b:Bytes):rW×Bool:=((Oe b).val,(Oe b).bad)
def ME(b:Bytes):Bw×Bool:=((ace b).val,(ace b).bad)
theorem Dt{a b:Int}:period a b=Zf↔(0<=a/\a<=4294967295)/\(0<=b/\b<=4294967295)/\a<=b:=by simp[period,within_iff,and_assoc]
theorem IM{k:Int}(h:hY k=2):bf k=Zf:=by
 unfold hY at h
 grind
theorem A4{r:Bx}(h:(eB r).err=0):r.BY.valid=Zf/\r.service.valid=Zf/\bf r.ah=Zf/\(0<=r.start/\r.start<=4294967295)/\(0<=r.stop/\r.stop<=4294967295)/\(0<=r.addr/\r.addr<=4294967295) /\
  ∃ z,(eB r).val=r.BY.name++0::(r.BY.inst++0::(r.BY.aA++0::(r.service.name++0::(r.service.inst++0::(r.service.aA++0::(keyBytes r.ah++(aD r.start 4 Zj++(aD r.stop 4 Zj++(aD r.addr 4 Zj++z)))))))))/\z.length<=7:=by
 unfold eB at h ⊢;split at h
 .cases h
 rename_i b;rw[Qa0 b];split at h
 .cases h
 rename_i d;rw[Qa0 d];split at h
 .cases h
 rename_i a;rw[Qa0 a];simp only[Yu,Yq,Yy,Dt,within_iff] at b a;obtain⟨z,c,hl⟩:=rP (cV (cV [] r.BY) r.service++keyBytes r.ah++aD r.start 4 Zj++aD r.stop 4 Zj++aD r.addr 4 Zj);refine⟨b.1,b.2,IM (by omega),a.1.1,a.1.2.1,a.2,z,?_,hl⟩;rw[c];simp[cV,cX]
theorem yK{p:rW}(h:(dB p).err=0):bf p.ah=Zf/\p.service.valid=Zf/\(0<=p.start/\p.start<=4294967295)/\(0<=p.stop/\p.stop<=4294967295)/\p.record.length<=300 /\
  ∃ z,(dB p).val=keyBytes p.ah++(p.service.name++0::(p.service.inst++0::(p.service.aA++0::(aD p.start 4 Zj++(aD p.stop 4 Zj++(aD p.record.length 2 Zj++(p.record++z)))))))/\z.length<=7:=by
 unfold dB at h ⊢;split at h
 .cases h
 rename_i c;rw[Qa0 c];split at h
 .cases h
 rename_i b;rw[Qa0 b];split at h
 .cases h
 rename_i a;rw[Qa0 a];split at h
 .cases h
 rename_i e;rw[Qa0 e];simp only[Yu,Yq,Dt] at c b a;obtain⟨z,d,hl⟩:=rP (gL (cV (keyBytes p.ah) p.service++aD p.start 4 Zj++aD p.stop 4 Zj) p.record);refine⟨c,b,a.1,a.2.1,by omega,z,?_,hl⟩;rw[d];simp[cV,cX,gL]
theorem A2{m:Bw}(h:(dL m).err=0):(1<=m.op/\m.op<=3)/\m.name.valid=Zf/\m.box.length<=1012 /\
  (dL m).val=header 10 Zj++(aD m.op 1 Zj++(m.name.name++0::(m.name.inst++0::(m.name.aA++0::(aD m.box.length 2 Zj++(m.box++[])))))):=by
 unfold dL at h ⊢;split at h
 .cases h
 rename_i b;rw[Qa0 b];split at h
 .cases h
 rename_i a;rw[Qa0 a];split at h
 .cases h
 rename_i c;rw[Qa0 c];simp only[Yu,Yq,C1] at b a;exact⟨by omega,a,by omega,by simp[cV,cX,gL]⟩
theorem FO{r:Bx}(g:0<=r.ah)(f:r.ah<18446744073709551616)(h:(eB r).err=0):vG (eB r).val=(r,Zj)/\HD (eB r).val=(r,Zj):=by
 obtain⟨v1,v2,d,c,he,e,z,a,_⟩:=A4 h;generalize (eB r).val=b at a;obtain⟨⟨s,x,w⟩,⟨u,v,t⟩,ah,start,stop,addr⟩:=r;simp only at g f d c he e a;have A:At b 0 (s++_):=(At.start b).as a;obtain⟨q,o,y⟩:=At.fX (p:=⟨s,x,w⟩) A v1;obtain⟨B,m,a2⟩:=At.fX (p:=⟨u,v,t⟩) y v2;obtain⟨l,a3⟩:=a2.bytes (n:=8) (by rw[bu];rfl);obtain⟨k,a4⟩:=a3.mX c.1 c.2;obtain⟨j,a5⟩:=a4.mX he.1 he.2;obtain⟨i,C⟩:=a5.mX e.1 e.2;constructor
 .unfold vG Tn;simp only[yR o,yR m,NI l g f d,rh k,rh j,rh i]
 .unfold HD W6;simp only[lH o,lH m,eC l,fG g f d,cl k,cl j,cl i]
theorem Dq{p:rW}(f:0<=p.ah)(e:p.ah<18446744073709551616)(h:(dB p).err=0):sW (dB p).val=(p,Zj)/\B2 (dB p).val=(p,Zj):=by
 obtain⟨d,v1,c,he,t,z,a,_⟩:=yK h;generalize (dB p).val=b at a;obtain⟨ah,⟨r,s,o⟩,start,stop,record⟩:=p;simp only at f e d c he t a;have v:At b 0 (keyBytes ah++_):=(At.start b).as a;obtain⟨m,u⟩:=v.bytes (n:=8) (by rw[bu];rfl);obtain⟨q,l,a2⟩:=At.fX (p:=⟨r,s,o⟩) u v1;obtain⟨k,a3⟩:=a2.mX c.1 c.2;obtain⟨j,a4⟩:=a3.mX he.1 he.2;obtain⟨i,a5⟩:=a4.Jb (by omega) (by omega);obtain⟨g,w⟩:=a5.bytes rfl;constructor
 .unfold sW J_;simp only[NI m f e d,yR l,rh k,rh j,rh i,Ag g]
 .unfold B2 Oe;simp only[eC m,fG f e d,lH l,cl k,cl j,cl i,eC g]
theorem Fx{m:Bw}(h:(dL m).err=0):qK (dL m).val=(m,Zj)/\ME (dL m).val=(m,Zj):=by
 obtain⟨j,v1,k,a⟩:=A2 h;generalize (dL m).val=b at a;obtain⟨op,⟨un,i,g⟩,box⟩:=m;simp only at j k a;have n:At b 2 _:=⟨header 10 Zj,a,by decide⟩;obtain⟨f,l⟩:=n.mK (by omega) (by omega);obtain⟨q,e,a2⟩:=At.fX (p:=⟨un,i,g⟩) l v1;obtain⟨d,a3⟩:=a2.Jb (by omega) (by omega);obtain⟨c,a4⟩:=a3.bytes rfl;constructor
 .unfold qK Qe;simp only[rh f,yR e,rh d,Ag c]
 .unfold ME ace;simp only[cl f,lH e,cl d,eC c]
theorem I2(b:Bytes):bz b=dU Dh eB HD b :=
 iG (P:=λs=>0<=s.ah/\s.ah<18446744073709551616) (λ_ p h=>(FO p.1 p.2 h).1) (λ_ p h=>(FO p.1 p.2 h).2) (λ_=>wa _ _ _) (λ_=>dN _) b
theorem GL(b:Bytes):bA b=dU zx dB B2 b :=
 iG (P:=λs=>0<=s.ah/\s.ah<18446744073709551616) (λ_ p h=>(Dq p.1 p.2 h).1) (λ_ p h=>(Dq p.1 p.2 h).2) (λ_=>wa _ _ _) (λ_=>dN _) b
theorem I1(b:Bytes):dU tQ dL qK b=dU tQ dL ME b :=
 iG (P:=λ_=>True) (λ_ _ h=>(Fx h).1) (λ_ _ h=>(Fx h).2) (λ_=>trivial) (λ_=>trivial) b
end Kerb
/- Chapters 12 and 14: the principals of a realm, keys between realms. -/
namespace Kerb
open Go Go.Abs
structure g9 where
 name:Bytes
 inst:Bytes
 key:Int
 bj:Int
 b_:Int
 nk:Int
 attr:Int
 CB:Int
 Ng:Int
def noEntry:g9:=⟨[],[],0,0,0,0,0,0,0⟩
def g9.av(e:g9):AV := .agg [.str e.name,.str e.inst,.int AT e.key,.int AI e.bj,.int AI e.b_,.int AI e.nk,.int AI e.attr,.int AI e.CB,.int AI e.Ng]
def pq(n:Int):Bool:=Zq (-9223372036854775808<=n)&&Zq (n<=9223372036854775807)
def Ff(n:Int):Bool:=Zq (0<=n)&&Zq (n<18446744073709551616)
def WE:AV->Bool
 | .agg [.str n,.str i,.int AT k,.int AI v,.int AI x,.int AI m,.int AI a,.int AI f,.int AI t] =>
  Zq (n.length<=9223372036854775807)&&Zq (i.length<=9223372036854775807)&&Ff k&&pq v&&pq x&&pq m&&pq a&&pq f&&pq t
 | _=>Zj
def g9.ok(e:g9):Prop:=e.name.length<=9223372036854775807/\e.inst.length<=9223372036854775807/\Ff e.key=Zf/\pq e.bj=Zf/\pq e.b_=Zf/\pq e.nk=Zf/\pq e.attr=Zf/\pq e.CB=Zf/\pq e.Ng=Zf
def g9.err(e:g9):Int :=
 if !(validName e.name&&cO e.inst) then 103
 else if e.key≠0/\bf e.key=Zj then 10
 else if !(within e.bj 255&&(within e.b_ 4294967295&&within e.Ng 4294967295)) then 104
 else if !(within e.nk 255&&(within e.attr 3&&within e.CB 20)) then 104 else 0
def g9.less(a b:g9):Bool:=Op.bytesLess a.name b.name||(a.name==b.name&&Op.bytesLess a.inst b.inst)
def Cy:Option g9->List g9->Int
 | _,[]=>0
 | p,e::r=>if e.err≠0 then e.err else if (match p with | some q=>e.less q | none=>Zj) then 110 else Cy (Yx e) r
structure Db where
 aA:Bytes
 entries:List g9
def g9.tz(a b:g9):Bool:=a.name==b.name&&(a.inst==b.inst&&(a.key==b.key&&(a.bj==b.bj&&(a.b_==b.b_&&(a.nk==b.nk&&(a.attr==b.attr&&(a.CB==b.CB&&a.Ng==b.Ng)))))))
def Kt:List g9->List g9->Bool
 | [],[]=>Zf
 | a::l,b::r=>a.tz b&&Kt l r
 | _,_=>Zj
def Db.same(a b:Db):Bool:=a.aA==b.aA&&Kt a.entries b.entries
theorem g9.I8(a:g9):a.tz a=Zf:=by simp[g9.tz]
def Db.err(d:Db):Int:=if !dG d.aA then 103 else if 60<d.entries.length then 106 else Cy none d.entries
def g9.named(n i:Bytes)(e:g9):Bool:=e.name==n&&e.inst==i
def jv(l:List g9)(n i:Bytes):Int×Int :=
 if l.countP (g9.named n i)=0 then(0,8) else if 1<l.countP (g9.named n i) then(0,9) else((l.findIdx (g9.named n i):Int),0)
def adQ(a b:Int):Int:=Zy AI ((BitVec.ofInt 64 a &&& BitVec.ofInt 64 b).toNat:Int)
def U6(d:Db)(n i:Bytes)(now bit expired a:Int):Int×Int :=
 if (jv d.entries n i).2≠0 then(0,(jv d.entries n i).2)
 else if bf (d.entries.getD (jv d.entries n i).1.toNat noEntry).key=Zj then(0,10)
 else if (d.entries.getD (jv d.entries n i).1.toNat noEntry).b_≠0/\(d.entries.getD (jv d.entries n i).1.toNat noEntry).b_<=now then(0,expired)
 else if adQ (d.entries.getD (jv d.entries n i).1.toNat noEntry).attr bit≠0 then(0,a)
 else((jv d.entries n i).1,0)
def rZ(d:Db)(n i:Bytes)(now:Int):Int×Int:=U6 d n i now 1 1 5
def oo(d:Db)(n i:Bytes)(now:Int):Int×Int:=U6 d n i now 2 2 6
structure lL where
 source:Bytes
 target:Bytes
 bj:Int
 key:Int
def pL:lL:=⟨[],[],0,0⟩
def lL.av(c:lL):AV := .agg [.str c.source,.str c.target,.int AI c.bj,.int AT c.key]
def GJ(l:List lL)(a b:Bytes):Nat->Option Nat
 | 0=>none
 | i+1=>cond ((l.getD i pL).source==a&&((l.getD i pL).target==b&&(match GJ l a b i with | some j=>Zq ((l.getD j pL).bj<(l.getD i pL).bj) | none=>Zf))) (Yx i) (GJ l a b i)
def Ah(l:List lL)(a b:Bytes):Int×Bool:=match GJ l a b l.length with | some i=>((i:Int),Zf) | none=>(0,Zj)
end Kerb
/- Chapter 24: clients of kaservers, in plain words. -/
namespace Kerb
open Go Go.Abs
structure Q7 where
 op:Int
 time:Int
 start:Int
 stop:Int
 service:bQ
 ah:Int
 new:Int
structure ah5 where
 w:Q7
 msg:Bytes
 err:Int
structure aop where
 c:Client
 w:Q7
 O_:jj
 err:Int
structure ah6 where
 op:UInt8
 label:UInt8
 time:UInt8
 service:UInt8
 key:UInt8
 code:UInt8
 start:Int
 stop:Int
 how:Int
end Kerb
/- Chapters 17 and 23: tickets that are granted, the servers of AFS. -/
namespace Kerb
open Go Go.Abs
def qC:Bytes:=[107,114,98,116,103,116]
structure VT where
 key:Int
 bj:Int
 bK:Int
 b_:Int
 err:Int
def zT(d:Db)(a:List lL)(n i:Bytes)(now:Int):VT :=
 if n==qC&&(dG i && !(i==d.aA)) then
  (if (Ah a d.aA i).2 then⟨(a.getD (Ah a d.aA i).1.toNat pL).key,(a.getD (Ah a d.aA i).1.toNat pL).bj,255,0,0⟩ else⟨0,0,0,0,8⟩)
 else if (oo d n i now).2≠0 then⟨0,0,0,0,(oo d n i now).2⟩
 else⟨(d.entries.getD (oo d n i now).1.toNat noEntry).key,(d.entries.getD (oo d n i now).1.toNat noEntry).bj,(d.entries.getD (oo d n i now).1.toNat noEntry).nk,(d.entries.getD (oo d n i now).1.toNat noEntry).b_,0⟩
structure AY where
 kind:Int
 server:bQ
 BY:bQ
 service:bQ
 ah:Int
 nD:Int
 pI:Int
 text:Bytes
 cf:Int
 stop:Int
def np:AY:=⟨0,bN,bN,bN,0,0,0,[],0,0⟩
def AY.cs(x:AY):List AV:=[.int AI x.kind,.str x.server.name,.str x.server.inst,.str x.server.aA,.str x.BY.name,.str x.BY.inst,.str x.BY.aA,.str x.service.name,.str x.service.inst,.str x.service.aA,.int AT x.ah,.int AT x.nD,.int AT x.pI,.bs x.text,.int AI x.cf,.int AI x.stop]
def AY.same(a b:AY):Bool:=a.kind==b.kind&&(a.server.tz b.server&&(a.BY.tz b.BY&&(a.service.tz b.service&&(a.ah==b.ah&&(a.nD==b.nD&&(a.pI==b.pI&&(a.text==b.text&&(a.cf==b.cf&&a.stop==b.stop))))))))
structure VB where
 hJ:AY
 part:fL
 err:Int
def so(By:Bool)(BY service:bQ)(address now a ah:Int):dZ:=⟨By,BY,address,ah,a,now,service.name,service.inst⟩
def ri(aA:Bytes)(BY service:bQ)(address:Int)(By:Bool)(now a ah c target b:Int):VB :=
 if (lm (so By BY service address now a ah) target).err≠0 then⟨np,qG,(lm (so By BY service address now a ah) target).err⟩
 else if (bt ⟨ah,service,a,b,(lm (so By BY service address now a ah) target).val,now⟩ By).err≠0 then
  ⟨np,qG,(bt ⟨ah,service,a,b,(lm (so By BY service address now a ah) target).val,now⟩ By).err⟩
 else⟨⟨0,F1 aA aA,BY,service,ah,c,0,(lm (so By BY service address now a ah) target).val,now,XL now a⟩,⟨ah,service,a,b,(lm (so By BY service address now a ah) target).val,now⟩,0⟩
def refuse(BY:bQ)(code now:Int)(By:Bool):Bytes:=(mB ⟨By,BY,now,code,message code⟩).val
structure adD where
 db:Db
 answer:Bytes
 hJ:AY
 ok:Bool
def iJ(d:Db)(i:Int):g9:=d.entries.getD i.toNat noEntry
theorem JU(kd k:Int)(b:Bytes):(jf kd k b).val.length<=12+b.length:=by grind [bu,aP,jf]
def fU.bd(s:fU):Prop:=(0<=s.time/\s.time<=4294967295)/\(0<=s.stop/\s.stop<=4294967295)/\0<=s.new/\s.new<18446744073709551616
def dZ.bd(t:dZ):Prop:=t.BY.name.length<=40/\t.BY.inst.length<=40/\t.BY.aA.length<=40/\Ff t.ah=Zf
def Db.ok(d:Db):Prop:=∀ e∈d.entries,e.ok
def df.bd(r:df):Prop:=(r.user.name.length<=40/\r.user.inst.length<=40/\r.user.aA.length<=40/\r.aA.length<=40/\r.service.length<=40/\r.inst.length<=40)/\tJ r.op=Zf/\r.aB.length<=255/\r.box.length<=1012
end Kerb
/- Chapters 7, 10, 13, 16, 18: what is decoded, keys of services, replay caches, services that verify. -/
namespace Kerb
open Go Go.Abs
variable {a:qg}{li:Bool}{r:cC}
def rM:qg:=⟨bN,0,0,0⟩
def zG(b:Bytes)(li:Bool):qg :=
 let p:=fX b 1
 let c:=get b p.next 4 li
 let t:=get b c.next 1 Zj
 ⟨p.val,c.val,t.val,(get b t.next 4 li).val⟩
def xE(b:Bytes)(li:Bool):Ii qg:=dU rM (λa=>fb a li) (λb=>(zG b li,Zj)) b
def oX(b:Bytes)(li:Bool)(k:Int):Ii qg :=
 if (jV b 2 k).2=Zj then⟨rM,31⟩
 else if (xE (jV b 2 k).1 li).err≠0 then⟨rM,31⟩ else⟨(xE (jV b 2 k).1 li).val,0⟩
theorem VJ(h:(fb a li).err=0):∃ z:Bytes,(fb a li).val=aD (cond li 1 0) 1 Zj++(a.BY.name++0::(a.BY.inst++0::(a.BY.aA++0::(aD a.cP 4 li++(aD a.tick 1 Zj++(aD a.time 4 li++z)))))) /\
  a.BY.valid=Zf/\(0<=a.cP/\a.cP<=4294967295)/\(0<=a.tick/\a.tick<=199)/\0<=a.time/\a.time<=4294967295:=by
 unfold fb at h ⊢;by_cases b:a.check=0;case neg=>rw[Qa1 b] at h;exact absurd h b
 rw[Qa0 (by simpa using b)];unfold qg.check at b;split at b
 .cases b
 rename_i c;split at b
 .cases b
 rename_i hw;simp only[Yu,Yq,Yy,within_iff] at c hw;refine⟨_,by unfold pad cV cX;simp only[List.append_assoc,List.singleton_append,List.cons_append,List.nil_append];rfl,c,hw.1.1,hw.1.2,hw.2⟩
theorem EG(h:(fb a li).err=0):zG (fb a li).val li=a:=by
 obtain⟨z,g,i,⟨n,m⟩,⟨l,t⟩,k,j⟩:=VJ h;have f:=(At.start (fb a li).val).as g;have b:=f.skip;rw[aP] at b;obtain⟨q,s,e⟩:=b.fX i;obtain⟨r,d⟩:=e.mX n m;obtain⟨p,c⟩:=d.mK l (by omega);obtain⟨o,_⟩:=c.mX k j;unfold zG
 simp_all
theorem BB(h:(fb a li).err=0):xE (fb a li).val li=⟨a,0⟩ :=
 Cr (no:=rM) (enc:=λa=>fb a li) (rd:=λb=>(zG b li,Zj)) (by simp only[EG h]) h
structure adB where
 val:cC
 next:Int
def jB(b:Bytes):adB :=
 let k:=get b 2 1 Zj
 let s:=text b k.next
 let n:=get b s.next 1 Zj
 let m:=get b n.next 1 Zj
 let t:=bytes b m.next n.val
 let a:=bytes b t.next m.val
 ⟨⟨(bm b).By,(bm b).kind==4,k.val,s.val,t.val,a.val⟩,a.next⟩
def EE(b:Bytes)(li c:Bool):Rd cC :=
 let k:=bV b 1 Zj 2 Zj
 let s:=gi b k.pos k.bad
 let n:=bV b 1 Zj s.pos s.bad
 let m:=bV b 1 Zj n.pos n.bad
 let t:=cq b n.val m.pos m.bad
 let a:=cq b m.val t.pos t.bad
 ⟨⟨li,c,k.val,s.val,t.val,a.val⟩,a.pos,a.bad⟩
def c7(b:Bytes):Ii cC :=
 if (aR b [3,4]).2≠0 then⟨qF,(aR b [3,4]).2⟩ else dU qF aZ (λb=>((jB b).val,Zj)) b
theorem yr(h:(aZ r).err=0):(aZ r).val=header (cond r.c5 4 3) r.By++(aD r.bj 1 Zj++(r.aA++0::(aD r.aB.length 1 Zj++(aD r.eQ.length 1 Zj++(r.aB++(r.eQ++[])))))) /\
  (r.aA.length<=39/\(0:UInt8) ∉ r.aA)/\(0<=r.bj/\r.bj<=255)/\r.aB.length<=255/\r.eQ.length<=255:=by
 unfold aZ at h ⊢;split at h
 .cases h
 rename_i a;rw[Qa0 a];split at h
 .cases h
 rename_i b;rw[Qa0 b];split at h
 .cases h
 rename_i c;rw[Qa0 c];simp only[Yu,Yq,within_iff] at a b;refine⟨by unfold cX;simp only[List.append_assoc,List.singleton_append,List.cons_append,List.nil_append,List.append_nil],?_,b,by omega,by omega⟩;simp only[dG,Yy] at a;exact inst_ok' a.2 where
 inst_ok' {s:Bytes} (h:cO s=Zf):s.length<=39/\(0:UInt8) ∉ s:=by
  simp only[cO,Yy,Qa2] at h;exact⟨h.1,λhm=>by
   have:=h.2;simp only[dO,List.all_eq_true] at this;exact absurd (this 0 hm) (by decide)⟩
theorem BK(z:Bytes):bm (header (cond r.c5 4 3) r.By++z)=⟨cond r.c5 4 3,r.By,0⟩:=by
 cases r.c5<;>exact A6 (by decide) (by decide) _ _
theorem Nw(h:(aZ r).err=0):∃ e d c b a g:Int,get (aZ r).val 2 1 Zj=⟨r.bj,e,0⟩/\text (aZ r).val e=⟨r.aA,d,0⟩/\get (aZ r).val d 1 Zj=⟨r.aB.length,c,0⟩/\get (aZ r).val c 1 Zj=⟨r.eQ.length,b,0⟩ /\
  bytes (aZ r).val b r.aB.length=⟨r.aB,a,0⟩/\bytes (aZ r).val a r.eQ.length=⟨r.eQ,g,0⟩:=by
 obtain⟨s,⟨q,p⟩,⟨u,t⟩,t1,v⟩:=yr h;have o:=(At.start (aZ r).val).as s;have f:=o.skip;rw[show(header (cond r.c5 4 3) r.By).length=2 by cases r.c5<;>cases r.By<;>rfl] at f;obtain⟨B,m⟩:=f.mK u t;obtain⟨A,l⟩:=m.text q p;obtain⟨z,k⟩:=l.mK (by omega) (by omega);obtain⟨y,j⟩:=k.mK (by omega) (by omega);obtain⟨x,i⟩:=j.bytes (n:=r.aB.length) rfl;obtain⟨w,_⟩:=i.bytes (n:=r.eQ.length) rfl
 grind
theorem Bi(h:(aZ r).err=0):(jB (aZ r).val).val=r:=by
 obtain⟨n,m,l,k,j,i,g,f,e,d,c,b⟩:=Nw h;have a:bm (aZ r).val=⟨cond r.c5 4 3,r.By,0⟩:=by rw[(yr h).1];exact BK _
 unfold jB;simp only[g,f,e,d,c,b,a];have:((cond r.c5 4 3:Int)==4)=r.c5:=by cases r.c5<;>rfl
 rw[this]
theorem FL(h:(aZ r).err=0):(EE (aZ r).val (bm (aZ r).val).By ((bm (aZ r).val).kind==4)).val=r/\(EE (aZ r).val (bm (aZ r).val).By ((bm (aZ r).val).kind==4)).bad=Zj:=by
 obtain⟨f,e,d,c,b,a,n,m,l,k,j,i⟩:=Nw h;have g:bm (aZ r).val=⟨cond r.c5 4 3,r.By,0⟩:=by rw[(yr h).1];exact BK _
 have:((cond r.c5 4 3:Int)==4)=r.c5:=by cases r.c5<;>rfl
 unfold EE bV gi cq
 simp_all
theorem Pb(b:Bytes):dU qF aZ (λb=>((jB b).val,Zj)) b=dU qF aZ (λb=>((EE b (bm b).By ((bm b).kind==4)).val,(EE b (bm b).By ((bm b).kind==4)).bad)) b :=
 iG (P:=λ_=>True) (λ_ _ h=>by simp only[Bi h]) (λr _ h=>Prod.ext (FL h).1 (FL h).2) (λ_=>trivial) (λ_=>trivial) b
theorem Es{b:Bytes}{l:List Int}(h:(aR b l).2=0):(aR b l).1=(bm b).By:=by grind [aR]
theorem Eo(h:(aZ r).err=0):c7 (aZ r).val=⟨r,0⟩:=by
 have c:bm (aZ r).val=⟨cond r.c5 4 3,r.By,0⟩:=by rw[(yr h).1];exact BK _
 have a:(aR (aZ r).val [3,4]).2=0:=by unfold aR;rw[c];cases r.c5<;>rfl
 unfold c7;rw[Qa0 (by simpa using a)];exact Cr (no:=qF) (enc:=aZ) (rd:=λb=>((jB b).val,Zj)) (by simp only[Bi h]) h
structure oL where
 service:bQ
 bj:Int
 key:Int
def ab7:oL:=⟨bN,0,0⟩
def oL.av(c:oL):AV := .agg [.str c.service.name,.str c.service.inst,.str c.service.aA,.int AI c.bj,.int AT c.key]
def oL.ok(c:oL):Prop:=c.service.name.length<=9223372036854775807/\c.service.inst.length<=9223372036854775807/\c.service.aA.length<=9223372036854775807/\pq c.bj=Zf/\Ff c.key=Zf
def oL.tz(a b:oL):Bool:=a.service.name==b.service.name&&(a.service.inst==b.service.inst&&(a.service.aA==b.service.aA&&(a.bj==b.bj&&a.key==b.key)))
def oL.is(p:bQ)(v:Int)(x:oL):Bool:=x.service.tz p&&x.bj==v
def agc(l:List oL)(p:bQ)(v:Int):Nat:=l.findIdx (oL.is p v)
def lU(l:List oL)(p:bQ)(v:Int):Int×Bool:=if agc l p v<l.length then((l.getD (agc l p v) ab7).key,Zf) else(0,Zj)
def oL.err(x:oL):Int:=if !x.service.valid then 103 else if !within x.bj 255 then 104 else if !bf x.key then 10 else 0
def TS:List oL->List oL->Int
 | _,[]=>0
 | seen,c::r=>if c.err≠0 then c.err else if seen.any (oL.is c.service c.bj) then 107 else TS (seen++[c]) r
def YT(l:List oL):Int:=if 60<l.length then 106 else TS [] l
def FV:List oL->List oL->Bool
 | [],[]=>Zf
 | a::l,b::r=>a.tz b&&FV l r
 | _,_=>Zj
structure Mark where
 BY:bQ
 time:Int
 tick:Int
def Mark.av(m:Mark):AV := .agg [.str m.BY.name,.str m.BY.inst,.str m.BY.aA,.int AI m.time,.int AI m.tick]
def Mark.ok(m:Mark):Prop:=m.BY.name.length<=9223372036854775807/\m.BY.inst.length<=9223372036854775807/\m.BY.aA.length<=9223372036854775807/\pq m.time=Zf/\pq m.tick=Zf
def Mark.tz(a b:Mark):Bool:=a.BY.name==b.BY.name&&(a.BY.inst==b.BY.inst&&(a.BY.aA==b.BY.aA&&(a.time==b.time&&a.tick==b.tick)))
theorem Mark.pG{a b:Mark}:a.tz b=Zf↔a=b:=by
 obtain⟨⟨h,a2,a3⟩,a4,a5⟩:=a;obtain⟨⟨g,f,e⟩,d,c⟩:=b;simp[Mark.tz,and_assoc]
def yZ(l:List Mark)(m:Mark):Bool:=l.any λx=>x.tz m
structure qi where
 size:Int
 floor:Int
 marks:List Mark
def P4:qi:=⟨0,0,[]⟩
def Mark.err(floor:Int)(m:Mark):Int :=
 if !m.BY.valid then 103 else if !(Zq (floor<=m.time)&&Zq (m.time<=4294967295)&&within m.tick 199) then 104 else 0
def JV(floor:Int):List Mark->List Mark->Int
 | _,[]=>0
 | seen,c::r=>if c.err floor≠0 then c.err floor else if yZ seen c then 107 else JV floor (seen++[c]) r
def qi.err(r:qi):Int :=
 if !(Zq (1<=r.size)&&Zq (r.size<=40)&&within r.floor 4294967295) then 104 else if r.size<r.marks.length then 106 else JV r.floor [] r.marks
def qw(r:qi)(now a:Int):List Mark:=r.marks.filter λx=>Zq (imax r.floor (now-a)<=x.time)
def mP(r:qi)(m:Mark)(now a:Int):Ii qi :=
 if r.err≠0 then⟨P4,108⟩ else if !m.BY.valid then⟨P4,103⟩ else if !within m.tick 199 then⟨P4,104⟩
 else if Hu m.time now a=Zj\/m.time<r.floor then⟨P4,37⟩ else if yZ r.marks m then⟨P4,34⟩
 else if r.size<=(qw r now a).length then⟨P4,82⟩
 else⟨⟨r.size,imax r.floor (now-a),qw r now a++[m]⟩,0⟩
def FU:List Mark->List Mark->Bool
 | [],[]=>Zf
 | a::l,b::r=>a.tz b&&FU l r
 | _,_=>Zj
def qi.same(a b:qi):Bool:=a.size==b.size&&(a.floor==b.floor&&FU a.marks b.marks)
structure Server where
 me:bQ
 keys:List oL
 replay:qi
 fI:Int
structure qf where
 BY:bQ
 ah:Int
 address:Int
 cP:Int
 time:Int
 tick:Int
 cf:Int
 bK:Int
 aB:Bytes
 eQ:Bytes
def tO:qf:=⟨bN,0,0,0,0,0,0,0,[],[]⟩
def Server.err(s:Server):Int :=
 if !s.me.valid then 103 else if YT s.keys≠0 then YT s.keys else if s.replay.err≠0 then s.replay.err else if !within s.fI 4294967295 then 104 else 0
structure aak where
 aB:dZ
 eQ:qg
 err:Int
def wz(t:dZ)(aA:Bytes):bQ:=⟨t.service,t.inst,aA⟩
def dY(s:Server)(r:cC):aak :=
 if r.aA≠s.me.aA then⟨iL,rM,35⟩
 else if (lU s.keys s.me r.bj).2=Zj then⟨iL,rM,35⟩
 else if (gA r.aB (lU s.keys s.me r.bj).1).err=7 then⟨iL,rM,7⟩
 else if (gA r.aB (lU s.keys s.me r.bj).1).err≠0 then⟨iL,rM,31⟩
 else if (wz (gA r.aB (lU s.keys s.me r.bj).1).val s.me.aA).tz s.me=Zj then⟨iL,rM,35⟩
 else if (oX r.eQ r.By (gA r.aB (lU s.keys s.me r.bj).1).val.ah).err≠0 then⟨iL,rM,31⟩
 else⟨(gA r.aB (lU s.keys s.me r.bj).1).val,(oX r.eQ r.By (gA r.aB (lU s.keys s.me r.bj).1).val.ah).val,0⟩
def N1(t:dZ)(a:qg)(src now b:Int):Int :=
 if t.BY.tz a.BY=Zj then 36 else if src≠t.address then 38 else if Hu a.time now b=Zj then 37 else K3 t.cf t.bK now b
def vA(a:qg):Mark:=⟨a.BY,a.time,a.tick⟩
structure Iq where
 s:Server
 a:qf
 err:Int
def verify(s:Server)(r:cC)(src now:Int):Iq :=
 if s.err≠0 then⟨s,tO,108⟩
 else if (dY s r).err≠0 then⟨s,tO,(dY s r).err⟩
 else if N1 (dY s r).aB (dY s r).eQ src now s.fI≠0 then⟨s,tO,N1 (dY s r).aB (dY s r).eQ src now s.fI⟩
 else if (mP s.replay (vA (dY s r).eQ) now s.fI).err≠0 then⟨s,tO,(mP s.replay (vA (dY s r).eQ) now s.fI).err⟩
 else⟨⟨s.me,s.keys,(mP s.replay (vA (dY s r).eQ) now s.fI).val,s.fI⟩,⟨(dY s r).aB.BY,(dY s r).aB.ah,(dY s r).aB.address,(dY s r).eQ.cP,(dY s r).eQ.time,(dY s r).eQ.tick,(dY s r).aB.cf,(dY s r).aB.bK,r.aB,r.eQ⟩,0⟩
def qf.YL(a:qf)(li:Bool):rF:=EQ a.ah a.cP a.time a.tick li
structure aot where
 s:Server
 a:qf
 answer:Bytes
 err:Int
def qf.same(a b:qf):Bool:=a.BY.tz b.BY&&a.ah==b.ah&&a.address==b.address&&a.cP==b.cP&&a.time==b.time&&a.tick==b.tick&&a.cf==b.cf&&a.bK==b.bK&&a.aB==b.aB&&a.eQ==b.eQ
def Server.same(a b:Server):Bool:=a.me.tz b.me&&a.fI==b.fI&&FV a.keys b.keys&&a.replay.same b.replay
theorem rf(b:Bytes):(c7 b).val.aA.length<=9223372036854775807/\(c7 b).val.aB.length<=255/\(c7 b).val.eQ.length<=255:=by
 unfold c7;split
 .exact⟨by simp[qF],by simp[qF],by simp[qF]⟩
 unfold dU;split
 .exact⟨by simp[qF],by simp[qF],by simp[qF]⟩
 .rename_i h;have he:(aZ (jB b).val).err=0:=Decidable.byContradiction λq=>h (.inr (.inl q));obtain⟨_,d,_,c,a⟩:=yr he
  grind
end Kerb
/- Chapter 11: safe and private messages, in plain words. -/
namespace Kerb
open Go Go.Abs
structure aor where
 data:Bytes
 tick:Int
 addr:Int
 time:Int
structure adE where
 text:Bytes
 box:Bytes
 err:Int
theorem Dc(kd k:Int)(b:Bytes):(jf kd k b).val.length<=1012:=by grind [bu,aP,jf]
structure Nn where
 val:Bytes
 next:Int
 ok:Bool
def fz(b:Bytes)(pos most:Int)(li:Bool):Nn :=
 if (get b pos 2 li).err≠0\/most<(get b pos 2 li).val then⟨[],0,Zj⟩
 else⟨(bytes b (get b pos 2 li).next (get b pos 2 li).val).val,(bytes b (get b pos 2 li).next (get b pos 2 li).val).next,(bytes b (get b pos 2 li).next (get b pos 2 li).val).err==0⟩
structure Nq where
 kind:Int
 plain:Bytes
 cw:Bytes
 By:Bool
 err:Int
def ic(b:Bytes):Nn:=cond ((bm b).kind==7) (fz b 2 1000 (aR b [6,7]).1) ⟨[],2,Zf⟩
def fW(b:Bytes):Nq :=
 if (aR b [6,7]).2≠0 then⟨0,[],[],Zj,(aR b [6,7]).2⟩
 else if (ic b).ok=Zf/\(fz b (ic b).next 1012 (aR b [6,7]).1).ok=Zf/\(fz b (ic b).next 1012 (aR b [6,7]).1).next=b.length then
  ⟨(bm b).kind,(ic b).val,(fz b (ic b).next 1012 (aR b [6,7]).1).val,(aR b [6,7]).1,0⟩
 else⟨0,[],[],Zj,100⟩
def fg(b:Bytes)(li:Bool)(pos:Int)(bad:Bool):Rd Bytes :=
 let n:=bV b 2 li pos bad
 cq b n.val n.pos n.bad
def lj(b:Bytes):Rd Bytes:=cond ((bm b).kind==7) (fg b (aR b [6,7]).1 2 Zj) ⟨[],2,Zj⟩
def lG(b:Bytes):Rd Bytes:=fg b (aR b [6,7]).1 (lj b).pos (lj b).bad
theorem AE{b:Bytes}{li:Bool}{pos most:Int}(h:(fz b pos most li).ok=Zf):fg b li pos Zj=⟨(fz b pos most li).val,(fz b pos most li).next,Zj⟩/\((fz b pos most li).val.length:Int)<=most:=by
 unfold fz at h ⊢;split at h
 .cases h
 rename_i c;rw[Qa0 c];simp only[Qb0] at h;have e:(get b pos 2 li).err=0:=Classical.byContradiction λq=>c (.inl q);constructor
 .unfold fg bV cq
  grind
 .have hl:=wQ h;have d:=GY b pos 2 li (by omega);simp only;omega where
 wQ {b:Bytes} {pos n:Int} (h:(bytes b pos n).err=0):((bytes b pos n).val.length:Int)=n.toNat:=by
  unfold bytes at h ⊢;split at h
  .rename_i a;rw[Qa1 a];simp only[jl a]
  .rename_i a;exact absurd h a
theorem Bf{b:Bytes}{li:Bool}{pos most:Int}{bad:Bool}(h:(fg b li pos bad).bad=Zj)(hl:((fg b li pos bad).val.length:Int)<=most):bad=Zj/\fz b pos most li=⟨(fg b li pos Zj).val,(fg b li pos Zj).pos,Zf⟩:=by
 unfold fg bV cq at h hl;simp only[Bool.or_eq_false_iff,Bool.not_eq_false',Qb0] at h hl;obtain⟨⟨d,c⟩,a⟩:=h;subst d;rw[c] at a hl;simp only[BEq.rfl,Bool.not_true,Bool.or_false,Qa7] at a hl;have f:=GY b pos 2 li (by omega);have e:=AE.wQ a;refine⟨rfl,?_⟩;unfold fz fg bV cq
 grind
theorem Kc(b:Bytes):fW b=if (aR b [6,7]).2≠0 then⟨0,[],[],Zj,(aR b [6,7]).2⟩
  else if (lG b).bad=Zf\/(lG b).pos≠b.length\/(1000:Int)<(lj b).val.length\/(1012:Int)<(lG b).val.length then⟨0,[],[],Zj,100⟩
  else⟨(bm b).kind,(lj b).val,(lG b).val,(aR b [6,7]).1,0⟩:=by
 unfold fW;by_cases f:(aR b [6,7]).2≠0
 .grind
 rw[Qa0 f,Qa0 f];by_cases hc:(ic b).ok=Zf/\(fz b (ic b).next 1012 (aR b [6,7]).1).ok=Zf/\(fz b (ic b).next 1012 (aR b [6,7]).1).next=b.length
 .rw[Qa1 hc];obtain⟨d,i,j⟩:=hc;have e:lj b=⟨(ic b).val,(ic b).next,Zj⟩/\((ic b).val.length:Int)<=1000:=by
   unfold ic at d;unfold lj ic;cases c:((bm b).kind==7)
   .exact⟨rfl,by simp⟩
   .rw[c] at d;exact AE d
  have hs:=AE i;have es:lG b=fg b (aR b [6,7]).1 (ic b).next Zj:=by unfold lG;rw[e.1]
  grind
 .rw[Qa0 hc];by_cases hd:(lG b).bad=Zf\/(lG b).pos≠b.length\/(1000:Int)<(lj b).val.length\/(1012:Int)<(lG b).val.length
  .rw[Qa1 hd]
  exfalso;apply hc;simp only[not_or,Bool.not_eq_true,Classical.not_not] at hd;obtain⟨d1,d2,d3,d4⟩:=hd;have g:((fg b (aR b [6,7]).1 (lj b).pos (lj b).bad).val.length:Int)<=1012:=by
   have:((lG b).val.length:Int)<=1012:=by omega
   exact this
  have q:=Bf (most:=1012) (show(fg b (aR b [6,7]).1 (lj b).pos (lj b).bad).bad=Zj from d1) g;have es:lG b=fg b (aR b [6,7]).1 (lj b).pos Zj:=by unfold lG;rw[q.1]
  have e:ic b=⟨(lj b).val,(lj b).pos,Zf⟩:=by
   have a:=q.1;unfold lj at a d3;unfold ic lj;cases c:((bm b).kind==7)
   .rfl
   .rw[c] at a d3;have h:((fg b (aR b [6,7]).1 2 Zj).val.length:Int)<=1000:=by
     grind
    have:=(Bf (most:=1000) (show(fg b (aR b [6,7]).1 2 Zj).bad=Zj from a) h).2;exact this
  grind
end Kerb
/- Data of the statements of chapter 23: databases, requests. -/
namespace Kerb
open Go Go.Abs
def g9.leq(x e:g9):Bool:=Op.bytesLess x.name e.name||(x.name==e.name&&(Op.bytesLess x.inst e.inst||x.inst==e.inst))
structure KAsk where
 op:UInt8
 user:UInt8
 service:UInt8
 ah:UInt8
 new:UInt8
 time:UInt8
 stop:UInt8
 cf:UInt8
 bK:UInt8
 address:UInt8
 ahl:UInt8
 old:UInt8
 how:Int
namespace KAsk
def OC(a:KAsk):Int:=1+ou a.op % 3
def w(a:KAsk):Int:=ou a.ahl % 16
def tm(a:KAsk):Int:=1000+ou a.time
def YK(c b a:Bytes)(n:Int):Bytes:=if n=0 then c else if n=1 then b else a
def label(a:KAsk):Bytes:=if a.w=1 then YK ng iO zm (a.OC-1) else YK zm ng iO (a.OC-1)
def MQ(a:KAsk):fU :=
 if a.label=iO then⟨a.label,a.tm,0,0,if a.w=2 then Kerb.ah 5 else tM (30+ou a.new % 3)⟩
 else⟨a.label,a.tm,a.tm,a.tm+ou a.stop*50,0⟩
def body(a:KAsk):Bytes:=if a.w=3 then(aY a.MQ).val++[0] else(aY a.MQ).val
def u(a:KAsk):Int:=ou a.user % 3
def IP(a:KAsk):dZ :=
 ⟨Zj,if a.w=5 then Kerb.user (3+a.u) else Kerb.user a.u,ou a.address % 2,Kerb.ah (ou a.ah % 4),ou a.bK % 40,1000+ou a.cf,qC,if a.w=6 then[66,79,83] else[65,84,72]⟩
def cw(a:KAsk):Bytes:=(lm a.IP (if a.w=8 then tM 4 else tM 3)).val
def want(a:KAsk):bQ:=if a.w=11 then F1 [65,84,72] [66,79,83] else Kerb.service (ou a.service % 3)
def key(a:KAsk):Int :=
 if a.w=7 then tM 99 else if a.OC=2 then Kerb.ah (ou a.ah % 4) else if ou a.old % 4=3 then tM (30+ou a.old / 4 % 3) else tM a.u
def box(a:KAsk):Bytes:=(jf 7 a.key a.body).val
def EL(a:KAsk):df :=
 if a.OC=2 then⟨2,bN,if a.w=10 then 5 else 6,if a.w=9 then[66,79,83] else[65,84,72],a.cw,a.want.name,a.want.inst,a.box⟩
 else⟨a.OC,if a.w=4 then Kerb.user (3+ou a.user % 6) else Kerb.user a.u,0,[],[],[],[],a.box⟩
def message(a:KAsk):Bytes:=if a.w=15 then xv (aH a.EL).val a.how else(aH a.EL).val
end KAsk
namespace KAsk
end KAsk
end Kerb
/- The statements of chapter 23, plain: databases stay without an error. -/
namespace Kerb
open Go Go.Abs
structure VA (d d':Db):Prop where
 err:d'.err=0
 ok:d'.ok
 len:d'.entries.length=d.entries.length
 aA:d'.aA=d.aA
theorem VA.trans{a b c:Db}(h:VA a b)(g:VA b c):VA a c:=⟨g.err,g.ok,g.len.trans h.len,g.aA.trans h.aA⟩
structure Kept (d:Db):Prop where
 err:d.err=0
 ok:d.ok
 all:(d.entries.map g9.av).all WE=Zf
 len:d.entries.length<=60
 aA:d.aA.length<=39
theorem g9.pG{x y:g9}:(x.name==y.name&&(x.inst==y.inst&&(x.key==y.key&&(x.bj==y.bj&&(x.b_==y.b_&&(x.nk==y.nk&&(x.attr==y.attr&&(x.CB==y.CB&&x.Ng==y.Ng))))))))=Zf↔x=y:=by
 cases x;cases y;simp
end Kerb
