/- Sorting a row of keys: the words. -/
import Derived.Test.YtpelamlfpffacaaGreatKerbCli7
import Derived.Sort.AssemblyPlain
set_option linter.all false
open Go.IntKind renaming i64→Zz,wrap→Zy,u64→Zu,signed→Yj
open Int renaming toNat→Zx,toNat_natCast→Zp
open Go.Abs.AV renaming int→Zw,ax→Zf,undef→Zb,aD→Zn,bool→Yx
open List renaming length→Zv,getD→Zk,set→Yw
open Decidable renaming decide→Zq
open Bool renaming false→Zj,true→Zd,and_eq_true→Yz,not_eq_true'→Yv,not_eq_false→Yu
open Nat renaming blt→Zg
open Sum renaming inr→Zm,inl→Yk
open Go.Abs.Ex renaming exit→Zh
open Option renaming some→Yy
open Array renaming setIfInBounds→Yq,size_setIfInBounds→Yp
namespace Kerb
open Go Go.Abs
def dp(els:List AV):Array Int:=(cO els).toArray
def back(d:Array Int):List AV:=d.toList.map (Zw .u64)
def Hi(h:Go.Sort.Hint):Int:=match h with | .unknown=>0 | .increasing=>1 | .decreasing=>2
def Lg(x:Int):Int:=((Go.Sort.xorNext (UInt64.ofNat x.toNat)).toNat:Int)
noncomputable def ok(_:Int):Bool := @decide True (Classical.propDecidable True)
theorem FX(x:Int):ok x=Zd:=by
 unfold ok;exact @Qa4 True (Classical.propDecidable True) trivial
def nn(a:Int):Bool:=Zq (0<=a)
def order2(els:List AV)(a b s:Int):Nat×Nat×Nat:=Go.Sort.order2 Go.Sort.ltInt (dp els) a.toNat b.toNat s.toNat
def median(els:List AV)(a b c s:Int):Nat×Nat:=Go.Sort.median Go.Sort.ltInt (dp els) a.toNat b.toNat c.toNat s.toNat
def FR(els:List AV)(a s:Int):Nat×Nat:=Go.Sort.medianAdjacent Go.Sort.ltInt (dp els) a.toNat s.toNat
def Ib(els:List AV)(a b:Int):Nat×Go.Sort.Hint:=Go.Sort.choosePivot Go.Sort.ltInt (dp els) a.toNat b.toNat
def AJ(els:List AV)(a b:Int):List AV:=back (Go.Sort.insertionSort Go.Sort.ltInt (dp els) a.toNat b.toNat)
def LN(els:List AV)(a b:Int):List AV:=back (Go.Sort.heapSort Go.Sort.ltInt (dp els) a.toNat b.toNat)
def TV(els:List AV)(a b:Int):List AV:=back (Go.Sort.reverseRange (dp els) a.toNat b.toNat)
def E9(els:List AV)(a b:Int):List AV:=back (Go.Sort.breakPatterns (dp els) a.toNat b.toNat)
def yf(els:List AV)(a b:Int):List AV×Bool:=(back (Go.Sort.partialInsertionSort Go.Sort.ltInt (dp els) a.toNat b.toNat).1,(Go.Sort.partialInsertionSort Go.Sort.ltInt (dp els) a.toNat b.toNat).2)
def part(els:List AV)(a b p:Int):Nat×Bool×List AV:=((Go.Sort.partition Go.Sort.ltInt (dp els) a.toNat b.toNat p.toNat).1,(Go.Sort.partition Go.Sort.ltInt (dp els) a.toNat b.toNat p.toNat).2.1,back (Go.Sort.partition Go.Sort.ltInt (dp els) a.toNat b.toNat p.toNat).2.2)
def F1(els:List AV)(a b p:Int):Nat×List AV:=((Go.Sort.partitionEqual Go.Sort.ltInt (dp els) a.toNat b.toNat p.toNat).1,back (Go.Sort.partitionEqual Go.Sort.ltInt (dp els) a.toNat b.toNat p.toNat).2)
def sift(els:List AV)(lo hi first:Int):List AV:=back (Go.Sort.siftDown Go.Sort.ltInt hi.toNat first.toNat lo.toNat (dp els))
def QV(els:List AV)(a b l:Int):List AV:=back (Go.Sort.pdq Go.Sort.ltInt (dp els) a.toNat b.toNat l.toNat Zd Zd)
def vB(els:List AV):List AV:=back (Go.Sort.sort Go.Sort.ltInt (dp els))
def TB(x:Int):Int:=(Go.Sort.bitsLen x.toNat:Int)
def QX(n:Int):Int:=((1 <<< Go.Sort.bitsLen n.toNat:Nat):Int)
theorem bt(d:Array Int):(back d).length=d.size:=by simp[back]
theorem Bf{d:Array Int}{i:Nat}(h:i<d.size):(back d).getD i .undef = .int .u64 d[i]! := by
 simp[back,Zk,h]
theorem Po(d:Array Int)(i:Nat)(v:Int):(back d).set i (.int .u64 v)=back (d.setIfInBounds i v):=by
 simp[back,List.map_set]
theorem fq(d:Array Int):dp (back d)=d:=by
 apply Array.ext';simp[dp,back,cO,Function.comp_def]
theorem GK{els:List AV}(h:da els=Zd):back (dp els)=els:=Js h
theorem nw{els:List AV}(h:da els=Zd):∃ d,els=back d/\dp els=d:=⟨dp els,(GK h).symm,rfl⟩
theorem swp_size(d:Array Int)(i j:Nat):(Go.Sort.swp d i j).size=d.size:=by simp[Go.Sort.swp]
theorem iM{n:Int}(h1 : -9223372036854775808<=n)(h2:n<9223372036854775808):Zy .i64 n=n:=by
 unfold Zy;simp[IntKind.bits,Yj];omega
theorem rd{α:Type}{d:Array Int}{n:Nat}(hn:n<d.size)(f:Int->Option α):aA (Zq ((0:Int)<=(n:Int))&&Zq ((n:Int)<((back d).length:Int))&&Zd) (aA (Zg (Zx (n:Int)) (back d).length&&Zd) (Zf .u64 (Zk (back d) (Zx (n:Int)) .undef) f))=f d[n]! := by
 rw[ae (by simp[bt];omega),ae (by simp[bt];omega),Zp,Bf hn,dE]
theorem wr{α:Type}{d:Array Int}{n:Nat}(hn:n<d.size){c:Bool}(hc:c=Zd)(X:Option α):aA (Zq ((0:Int)<=(n:Int))&&Zq ((n:Int)<((back d).length:Int))&&Zd) (aA (Zg (Zx (n:Int)) (back d).length&&Zd) (Zf .u64 (Zk (back d) (Zx (n:Int)) .undef) fun _=>aA c X))=X:=by
 rw[rd hn,ae hc]
theorem dA(d:Array Int)(n:Nat)(v:Int):(back d).set (Zx (n:Int)) (.int .u64 v)=back (d.setIfInBounds n v):=by rw[Zp,Po]
theorem sw{α:Type}{d:Array Int}{p q:Nat}(hp:p<d.size)(hq:q<d.size)(X:List AV->Option α) :
  aA (Zq ((0:Int)<=(q:Int))&&Zq ((q:Int)<((back d).length:Int))&&Zd) (aA (Zg (Zx (q:Int)) (back d).length&&Zd) (Zf .u64 (Zk (back d) (Zx (q:Int)) .undef) fun x=>aA (Zq ((0:Int)<=(p:Int))&&Zq ((p:Int)<((back d).length:Int))&&Zd) (aA (Zg (Zx (p:Int)) (back d).length&&Zd) (Zf .u64 (Zk (back d) (Zx (p:Int)) .undef) fun y=>aA (Zq ((0:Int)<=(p:Int))&&Zq ((p:Int)<((back d).length:Int))&&Zd) (aA (Zg (Zx (p:Int)) (back d).length&&Zd) (Zf .u64 (Zk (back d) (Zx (p:Int)) .undef) fun _=>aA (Zv [Zw .u64 x]==nat_lit 1&&Zd&&Zd&&Zd&&Zg (Zx (p:Int)) (Zv (back d))) (aA (Zq ((0:Int)<=(q:Int))&&Zq ((q:Int)<(((back d).set (Zx (p:Int)) (.int .u64 x)).length:Int))&&Zd) (aA (Zg (Zx (q:Int)) ((back d).set (Zx (p:Int)) (.int .u64 x)).length&&Zd) (Zf .u64 (Zk ((back d).set (Zx (p:Int)) (.int .u64 x)) (Zx (q:Int)) .undef) fun _=>aA (Zv [Zw .u64 y]==nat_lit 1&&Zd&&Zd&&Zd&&Zg (Zx (q:Int)) (Zv ((back d).set (Zx (p:Int)) (.int .u64 x)))) (X (((back d).set (Zx (p:Int)) (.int .u64 x)).set (Zx (q:Int)) (.int .u64 y))))))))))))=X (back (Go.Sort.swp d p q)):=by
 rw[rd hq,rd hp,wr hp (by simp[bt];exact hp),dA,wr (by rw[Yp];exact hq) (by simp[bt];exact hq),dA];rfl
theorem dU(d:Array Int):da (back d)=Zd:=by simp[da,back]
theorem On{lt:Int->Int->Bool}{hi f:Nat}:∀ (n root:Nat) (d:Array Int),hi-root<=n->(Go.Sort.siftDown lt hi f root d).size=d.size:=by
 intro n;induction n with
 | zero =>
  intro root d h;unfold Go.Sort.siftDown;rw[dif_pos (by omega)]
 | succ n ih =>
  intro root d h;unfold Go.Sort.siftDown;split
  ·rfl
  ·split
   ·split
    ·rfl
    ·split
     ·rw[ih _ _ (by omega),swp_size]
     ·rfl
   ·split
    ·rfl
    ·rw[ih _ _ (by omega),swp_size]
theorem wE{lt:Int->Int->Bool}{hi f root:Nat}{d:Array Int}:(Go.Sort.siftDown lt hi f root d).size=d.size:=On _ root d (Nat.le_refl _)
theorem sq{lt:Int->Int->Bool}{d:Array Int}{a b s n:Nat}(ha:a<n)(hb:b<n):(Go.Sort.order2 lt d a b s).1<n/\(Go.Sort.order2 lt d a b s).2.1<n/\(Go.Sort.order2 lt d a b s).2.2<=s+1:=by
 unfold Go.Sort.order2;split<;>simp only<;>omega
theorem NN{lt:Int->Int->Bool}{d:Array Int}{a b c s n:Nat}(ha:a<n)(hb:b<n)(hc:c<n):(Go.Sort.median lt d a b c s).1<n/\(Go.Sort.median lt d a b c s).2<=s+3:=by
 unfold Go.Sort.median;have h1:=sq (lt:=lt) (d:=d) (s:=s) ha hb;have h2:=sq (lt:=lt) (d:=d) (s:=(Go.Sort.order2 lt d a b s).2.2) h1.2.1 hc;have h3:=sq (lt:=lt) (d:=d) (s:=(Go.Sort.order2 lt d (Go.Sort.order2 lt d a b s).2.1 c (Go.Sort.order2 lt d a b s).2.2).2.2) h1.1 h2.1;exact⟨h3.2.1,by dsimp only;omega⟩
end Kerb
/- The scans of the partitions. -/
namespace Kerb
open Go Go.Abs
abbrev mL(d:Array Int)(a i j:Nat):List AV:=[Zn (back d),Zw .i64 (a:Int),Zw .i64 (i:Int),Zw .i64 (j:Int)]
theorem adC{step:List AV->Option (List AV ⊕ (Ex×List AV))}{p:Int->Bool}{d:Array Int}{a j e:Nat}
  (h:∀ i,i<=j->step (mL d a i j)=if p d[i]! = Zd then Yy (.inl (mL d a (i+1) j)) else Yy (.inr (.exit e,mL d a i j)))
  (h2:∀ i,j<i->step (mL d a i j)=Yy (.inr (.exit e,mL d a i j))):∀ (m i:Nat),j+1-i=m->∃ n,eC step n (mL d a i j)=Yy (.exit e,mL d a (Go.Sort.scanUp p d j i) j):=by
 intro m;induction m with
 | zero =>
  intro i hi;refine⟨1,?_⟩;unfold eC;rw[h2 i (by omega)];unfold Go.Sort.scanUp;rw[Qa0 (by simp;omega)]
 | succ m ih =>
  intro i hi;by_cases hp:p d[i]! = Zd
  ·obtain⟨n,hn⟩:=ih (i+1) (by omega);refine⟨n+1,?_⟩;unfold eC;rw[h i (by omega),Qa1 hp];unfold Go.Sort.scanUp;rw[Qa1 (by simp[hp];omega)];exact hn
  ·refine⟨1,?_⟩;unfold eC;rw[h i (by omega),Qa0 hp];unfold Go.Sort.scanUp;rw[Qa0 (by simp[hp])]
theorem PH{step:List AV->Option (List AV ⊕ (Ex×List AV))}{p:Int->Bool}{d:Array Int}{a i e:Nat}
  (h:∀ j,i<=j+1->j+1<d.size->step (mL d a i (j+1))=if p d[j+1]! = Zd then Yy (.inl (mL d a i j)) else Yy (.inr (.exit e,mL d a i (j+1))))
  (h2:∀ j,j<i->step (mL d a i j)=Yy (.inr (.exit e,mL d a i j))) (hi:1<=i):∀ (j:Nat),j<d.size->∃ n,eC step n (mL d a i j)=Yy (.exit e,mL d a i (Go.Sort.scanDown p d i j)):=by
 intro j;induction j with
 | zero =>
  intro hj;refine⟨1,?_⟩;unfold eC;rw[h2 0 (by omega)];rfl
 | succ j ih =>
  intro hj;by_cases hc:i<=j+1
  ·by_cases hp:p d[j+1]! = Zd
   ·obtain⟨n,hn⟩:=ih (by omega);refine⟨n+1,?_⟩;unfold eC;rw[h j hc hj,Qa1 hp];unfold Go.Sort.scanDown;rw[Qa1 (by simp[hp];omega)];exact hn
   ·refine⟨1,?_⟩;unfold eC;rw[h j hc hj,Qa0 hp];unfold Go.Sort.scanDown;rw[Qa0 (by simp[hp])]
  ·refine⟨1,?_⟩;unfold eC;rw[h2 _ (by omega)];unfold Go.Sort.scanDown;rw[Qa0 (by simp;omega)]
theorem MN{β:Type}{d:Array Int}{a i j e:Nat}{K:Ex×List AV->Option β}(ha:a<d.size)(hj:j<d.size)(hi:1<=i)(hs:d.size<=1152921504606846976):Option.bind (bH (fun(st:List AV)=>az st fun(x:AV) (r:List AV)=>AV.bw x fun(y:List AV)=>az r fun(x:AV) (r:List AV)=>Zf Zz x fun(n:Int)=>az r fun(x:AV) (r:List AV)=>Zf Zz x fun(dk:Int)=>az r fun(x:AV) (r:List AV)=>Zf Zz x fun(cK:Int)=>ar r (aP (Zq (dk<=cK)) (aA (Zq ((0:Int)<=dk)&&Zq (dk<(↑(Zv y):Int))&&Zd) (aA (Zg (Zx dk) (Zv y)&&Zd) (Zf Zu (Zk y (Zx dk) Zb) fun(g7:Int)=>(aA (Zq ((0:Int)<=n)&&Zq (n<(↑(Zv y):Int))&&Zd) (aA (Zg (Zx n) (Zv y)&&Zd) (Zf Zu (Zk y (Zx n) Zb) fun(gY:Int)=>aP (Zq (g7<gY)) (Yy (Yk [Zn y,Zw Zz n,Zw Zz (Zy Zz (dk+(1:Int))),Zw Zz cK])) (Yy (Zm (Zh e,[Zn y,Zw Zz n,Zw Zz dk,Zw Zz cK]))))))))) (Yy (Zm (Zh e,[Zn y,Zw Zz n,Zw Zz dk,Zw Zz cK]))))) [Zn (back d),Zw .i64 (a:Int),Zw .i64 (i:Int),Zw .i64 (j:Int)]) K=K (.exit e,[Zn (back d),Zw .i64 (a:Int),Zw .i64 (Go.Sort.scanUp (fun x=>Go.Sort.ltInt x d[a]!) d j i:Int),Zw .i64 (j:Int)]):=by
 suffices h:∃ n,eC (fun(st:List AV)=>az st fun(x:AV) (r:List AV)=>AV.bw x fun(y:List AV)=>az r fun(x:AV) (r:List AV)=>Zf Zz x fun(n:Int)=>az r fun(x:AV) (r:List AV)=>Zf Zz x fun(dk:Int)=>az r fun(x:AV) (r:List AV)=>Zf Zz x fun(cK:Int)=>ar r (aP (Zq (dk<=cK)) (aA (Zq ((0:Int)<=dk)&&Zq (dk<(↑(Zv y):Int))&&Zd) (aA (Zg (Zx dk) (Zv y)&&Zd) (Zf Zu (Zk y (Zx dk) Zb) fun(g7:Int)=>(aA (Zq ((0:Int)<=n)&&Zq (n<(↑(Zv y):Int))&&Zd) (aA (Zg (Zx n) (Zv y)&&Zd) (Zf Zu (Zk y (Zx n) Zb) fun(gY:Int)=>aP (Zq (g7<gY)) (Yy (Yk [Zn y,Zw Zz n,Zw Zz (Zy Zz (dk+(1:Int))),Zw Zz cK])) (Yy (Zm (Zh e,[Zn y,Zw Zz n,Zw Zz dk,Zw Zz cK]))))))))) (Yy (Zm (Zh e,[Zn y,Zw Zz n,Zw Zz dk,Zw Zz cK]))))) n (mL d a i j)=Yy (.exit e,mL d a (Go.Sort.scanUp (fun x=>Go.Sort.ltInt x d[a]!) d j i) j) by
  obtain⟨n,hn⟩:=h;exact Qb5 (Option.bind · K) (nr hn)
 refine adC (e:=e) (p:=(fun x=>Go.Sort.ltInt x d[a]!)) (d:=d) (a:=a) (j:=j) (step:=fun(st:List AV)=>az st fun(x:AV) (r:List AV)=>AV.bw x fun(y:List AV)=>az r fun(x:AV) (r:List AV)=>Zf Zz x fun(n:Int)=>az r fun(x:AV) (r:List AV)=>Zf Zz x fun(dk:Int)=>az r fun(x:AV) (r:List AV)=>Zf Zz x fun(cK:Int)=>ar r (aP (Zq (dk<=cK)) (aA (Zq ((0:Int)<=dk)&&Zq (dk<(↑(Zv y):Int))&&Zd) (aA (Zg (Zx dk) (Zv y)&&Zd) (Zf Zu (Zk y (Zx dk) Zb) fun(g7:Int)=>(aA (Zq ((0:Int)<=n)&&Zq (n<(↑(Zv y):Int))&&Zd) (aA (Zg (Zx n) (Zv y)&&Zd) (Zf Zu (Zk y (Zx n) Zb) fun(gY:Int)=>aP (Zq (g7<gY)) (Yy (Yk [Zn y,Zw Zz n,Zw Zz (Zy Zz (dk+(1:Int))),Zw Zz cK])) (Yy (Zm (Zh e,[Zn y,Zw Zz n,Zw Zz dk,Zw Zz cK]))))))))) (Yy (Zm (Zh e,[Zn y,Zw Zz n,Zw Zz dk,Zw Zz cK]))))) ?_ ?_ _ i rfl
 ·intro i hc;have h1:i<d.size:=by omega
  dsimp only[mL];simp only[↓cq,↓c4,↓dE,↓dF];rw[ah (by simp;omega),Kerb.rd h1,Kerb.rd ha];by_cases h:d[i]! < d[a]!
  ·rw[ah (by simp[h]),Qa1 (by simp[Go.Sort.ltInt,h]),show Zy .i64 ((i:Int)+1)=((i+1:Nat):Int) from Kerb.iM (by omega) (by omega)]
  ·rw[aq (by simp[h]),Qa0 (by simp[Go.Sort.ltInt,h])]
 ·intro i hc;dsimp only[mL];simp only[↓cq,↓c4,↓dE,↓dF];rw[aq (by simp;omega)]
theorem adB{β:Type}{d:Array Int}{a i j e:Nat}{K:Ex×List AV->Option β}(ha:a<d.size)(hj:j<d.size)(hi:1<=i)(hs:d.size<=1152921504606846976):Option.bind (bH (fun(st:List AV)=>az st fun(x:AV) (r:List AV)=>AV.bw x fun(y:List AV)=>az r fun(x:AV) (r:List AV)=>Zf Zz x fun(n:Int)=>az r fun(x:AV) (r:List AV)=>Zf Zz x fun(dk:Int)=>az r fun(x:AV) (r:List AV)=>Zf Zz x fun(cK:Int)=>ar r (aP (Zq (dk<=cK)) (aA (Zq ((0:Int)<=n)&&Zq (n<(↑(Zv y):Int))&&Zd) (aA (Zg (Zx n) (Zv y)&&Zd) (Zf Zu (Zk y (Zx n) Zb) fun(g7:Int)=>(aA (Zq ((0:Int)<=dk)&&Zq (dk<(↑(Zv y):Int))&&Zd) (aA (Zg (Zx dk) (Zv y)&&Zd) (Zf Zu (Zk y (Zx dk) Zb) fun(gY:Int)=>aP (!Zq (g7<gY)) (Yy (Yk [Zn y,Zw Zz n,Zw Zz (Zy Zz (dk+(1:Int))),Zw Zz cK])) (Yy (Zm (Zh e,[Zn y,Zw Zz n,Zw Zz dk,Zw Zz cK]))))))))) (Yy (Zm (Zh e,[Zn y,Zw Zz n,Zw Zz dk,Zw Zz cK]))))) [Zn (back d),Zw .i64 (a:Int),Zw .i64 (i:Int),Zw .i64 (j:Int)]) K=K (.exit e,[Zn (back d),Zw .i64 (a:Int),Zw .i64 (Go.Sort.scanUp (fun x => !Go.Sort.ltInt d[a]! x) d j i:Int),Zw .i64 (j:Int)]):=by
 suffices h:∃ n,eC (fun(st:List AV)=>az st fun(x:AV) (r:List AV)=>AV.bw x fun(y:List AV)=>az r fun(x:AV) (r:List AV)=>Zf Zz x fun(n:Int)=>az r fun(x:AV) (r:List AV)=>Zf Zz x fun(dk:Int)=>az r fun(x:AV) (r:List AV)=>Zf Zz x fun(cK:Int)=>ar r (aP (Zq (dk<=cK)) (aA (Zq ((0:Int)<=n)&&Zq (n<(↑(Zv y):Int))&&Zd) (aA (Zg (Zx n) (Zv y)&&Zd) (Zf Zu (Zk y (Zx n) Zb) fun(g7:Int)=>(aA (Zq ((0:Int)<=dk)&&Zq (dk<(↑(Zv y):Int))&&Zd) (aA (Zg (Zx dk) (Zv y)&&Zd) (Zf Zu (Zk y (Zx dk) Zb) fun(gY:Int)=>aP (!Zq (g7<gY)) (Yy (Yk [Zn y,Zw Zz n,Zw Zz (Zy Zz (dk+(1:Int))),Zw Zz cK])) (Yy (Zm (Zh e,[Zn y,Zw Zz n,Zw Zz dk,Zw Zz cK]))))))))) (Yy (Zm (Zh e,[Zn y,Zw Zz n,Zw Zz dk,Zw Zz cK]))))) n (mL d a i j)=Yy (.exit e,mL d a (Go.Sort.scanUp (fun x => !Go.Sort.ltInt d[a]! x) d j i) j) by
  obtain⟨n,hn⟩:=h;exact Qb5 (Option.bind · K) (nr hn)
 refine adC (e:=e) (p:=(fun x => !Go.Sort.ltInt d[a]! x)) (d:=d) (a:=a) (j:=j) (step:=fun(st:List AV)=>az st fun(x:AV) (r:List AV)=>AV.bw x fun(y:List AV)=>az r fun(x:AV) (r:List AV)=>Zf Zz x fun(n:Int)=>az r fun(x:AV) (r:List AV)=>Zf Zz x fun(dk:Int)=>az r fun(x:AV) (r:List AV)=>Zf Zz x fun(cK:Int)=>ar r (aP (Zq (dk<=cK)) (aA (Zq ((0:Int)<=n)&&Zq (n<(↑(Zv y):Int))&&Zd) (aA (Zg (Zx n) (Zv y)&&Zd) (Zf Zu (Zk y (Zx n) Zb) fun(g7:Int)=>(aA (Zq ((0:Int)<=dk)&&Zq (dk<(↑(Zv y):Int))&&Zd) (aA (Zg (Zx dk) (Zv y)&&Zd) (Zf Zu (Zk y (Zx dk) Zb) fun(gY:Int)=>aP (!Zq (g7<gY)) (Yy (Yk [Zn y,Zw Zz n,Zw Zz (Zy Zz (dk+(1:Int))),Zw Zz cK])) (Yy (Zm (Zh e,[Zn y,Zw Zz n,Zw Zz dk,Zw Zz cK]))))))))) (Yy (Zm (Zh e,[Zn y,Zw Zz n,Zw Zz dk,Zw Zz cK]))))) ?_ ?_ _ i rfl
 ·intro i hc;have h1:i<d.size:=by omega
  dsimp only[mL];simp only[↓cq,↓c4,↓dE,↓dF];rw[ah (by simp;omega),Kerb.rd ha,Kerb.rd h1];by_cases h:d[a]! < d[i]!
  ·rw[aq (by simp[h]),Qa0 (by simp[Go.Sort.ltInt,h])]
  ·rw[ah (by simp[h]),Qa1 (by simp[Go.Sort.ltInt,h]),show Zy .i64 ((i:Int)+1)=((i+1:Nat):Int) from Kerb.iM (by omega) (by omega)]
 ·intro i hc;dsimp only[mL];simp only[↓cq,↓c4,↓dE,↓dF];rw[aq (by simp;omega)]
theorem DR{β:Type}{d:Array Int}{a i j e:Nat}{K:Ex×List AV->Option β}(ha:a<d.size)(hj:j<d.size)(hi:1<=i)(hs:d.size<=1152921504606846976):Option.bind (bH (fun(st:List AV)=>az st fun(x:AV) (r:List AV)=>AV.bw x fun(y:List AV)=>az r fun(x:AV) (r:List AV)=>Zf Zz x fun(n:Int)=>az r fun(x:AV) (r:List AV)=>Zf Zz x fun(dk:Int)=>az r fun(x:AV) (r:List AV)=>Zf Zz x fun(cK:Int)=>ar r (aP (Zq (dk<=cK)) (aA (Zq ((0:Int)<=cK)&&Zq (cK<(↑(Zv y):Int))&&Zd) (aA (Zg (Zx cK) (Zv y)&&Zd) (Zf Zu (Zk y (Zx cK) Zb) fun(g7:Int)=>(aA (Zq ((0:Int)<=n)&&Zq (n<(↑(Zv y):Int))&&Zd) (aA (Zg (Zx n) (Zv y)&&Zd) (Zf Zu (Zk y (Zx n) Zb) fun(gY:Int)=>aP (!Zq (g7<gY)) (Yy (Yk [Zn y,Zw Zz n,Zw Zz dk,Zw Zz (Zy Zz (cK-(1:Int)))])) (Yy (Zm (Zh e,[Zn y,Zw Zz n,Zw Zz dk,Zw Zz cK]))))))))) (Yy (Zm (Zh e,[Zn y,Zw Zz n,Zw Zz dk,Zw Zz cK]))))) [Zn (back d),Zw .i64 (a:Int),Zw .i64 (i:Int),Zw .i64 (j:Int)]) K=K (.exit e,[Zn (back d),Zw .i64 (a:Int),Zw .i64 (i:Int),Zw .i64 (Go.Sort.scanDown (fun x => !Go.Sort.ltInt x d[a]!) d i j:Int)]):=by
 suffices h:∃ n,eC (fun(st:List AV)=>az st fun(x:AV) (r:List AV)=>AV.bw x fun(y:List AV)=>az r fun(x:AV) (r:List AV)=>Zf Zz x fun(n:Int)=>az r fun(x:AV) (r:List AV)=>Zf Zz x fun(dk:Int)=>az r fun(x:AV) (r:List AV)=>Zf Zz x fun(cK:Int)=>ar r (aP (Zq (dk<=cK)) (aA (Zq ((0:Int)<=cK)&&Zq (cK<(↑(Zv y):Int))&&Zd) (aA (Zg (Zx cK) (Zv y)&&Zd) (Zf Zu (Zk y (Zx cK) Zb) fun(g7:Int)=>(aA (Zq ((0:Int)<=n)&&Zq (n<(↑(Zv y):Int))&&Zd) (aA (Zg (Zx n) (Zv y)&&Zd) (Zf Zu (Zk y (Zx n) Zb) fun(gY:Int)=>aP (!Zq (g7<gY)) (Yy (Yk [Zn y,Zw Zz n,Zw Zz dk,Zw Zz (Zy Zz (cK-(1:Int)))])) (Yy (Zm (Zh e,[Zn y,Zw Zz n,Zw Zz dk,Zw Zz cK]))))))))) (Yy (Zm (Zh e,[Zn y,Zw Zz n,Zw Zz dk,Zw Zz cK]))))) n (mL d a i j)=Yy (.exit e,mL d a i (Go.Sort.scanDown (fun x => !Go.Sort.ltInt x d[a]!) d i j)) by
  obtain⟨n,hn⟩:=h;exact Qb5 (Option.bind · K) (nr hn)
 refine PH (e:=e) (p:=(fun x => !Go.Sort.ltInt x d[a]!)) (d:=d) (a:=a) (i:=i) (step:=fun(st:List AV)=>az st fun(x:AV) (r:List AV)=>AV.bw x fun(y:List AV)=>az r fun(x:AV) (r:List AV)=>Zf Zz x fun(n:Int)=>az r fun(x:AV) (r:List AV)=>Zf Zz x fun(dk:Int)=>az r fun(x:AV) (r:List AV)=>Zf Zz x fun(cK:Int)=>ar r (aP (Zq (dk<=cK)) (aA (Zq ((0:Int)<=cK)&&Zq (cK<(↑(Zv y):Int))&&Zd) (aA (Zg (Zx cK) (Zv y)&&Zd) (Zf Zu (Zk y (Zx cK) Zb) fun(g7:Int)=>(aA (Zq ((0:Int)<=n)&&Zq (n<(↑(Zv y):Int))&&Zd) (aA (Zg (Zx n) (Zv y)&&Zd) (Zf Zu (Zk y (Zx n) Zb) fun(gY:Int)=>aP (!Zq (g7<gY)) (Yy (Yk [Zn y,Zw Zz n,Zw Zz dk,Zw Zz (Zy Zz (cK-(1:Int)))])) (Yy (Zm (Zh e,[Zn y,Zw Zz n,Zw Zz dk,Zw Zz cK]))))))))) (Yy (Zm (Zh e,[Zn y,Zw Zz n,Zw Zz dk,Zw Zz cK]))))) ?_ ?_ hi j hj
 ·intro j hc sI;have h1:(j+1)<d.size:=by omega
  dsimp only[mL];simp only[↓cq,↓c4,↓dE,↓dF];rw[ah (by simp;omega),Kerb.rd h1,Kerb.rd ha];by_cases h:d[j+1]! < d[a]!
  ·rw[aq (by simp[h]),Qa0 (by simp[Go.Sort.ltInt,h])]
  ·rw[ah (by simp[h]),Qa1 (by simp[Go.Sort.ltInt,h]),show Zy .i64 (((j+1:Nat):Int)-1)=(j:Int) from(Kerb.iM (by omega) (by omega)).trans (by omega)]
 ·intro j hc;dsimp only[mL];simp only[↓cq,↓c4,↓dE,↓dF];rw[aq (by simp;omega)]
theorem S7{β:Type}{d:Array Int}{a i j e:Nat}{K:Ex×List AV->Option β}(ha:a<d.size)(hj:j<d.size)(hi:1<=i)(hs:d.size<=1152921504606846976):Option.bind (bH (fun(st:List AV)=>az st fun(x:AV) (r:List AV)=>AV.bw x fun(y:List AV)=>az r fun(x:AV) (r:List AV)=>Zf Zz x fun(n:Int)=>az r fun(x:AV) (r:List AV)=>Zf Zz x fun(dk:Int)=>az r fun(x:AV) (r:List AV)=>Zf Zz x fun(cK:Int)=>ar r (aP (Zq (dk<=cK)) (aA (Zq ((0:Int)<=n)&&Zq (n<(↑(Zv y):Int))&&Zd) (aA (Zg (Zx n) (Zv y)&&Zd) (Zf Zu (Zk y (Zx n) Zb) fun(g7:Int)=>(aA (Zq ((0:Int)<=cK)&&Zq (cK<(↑(Zv y):Int))&&Zd) (aA (Zg (Zx cK) (Zv y)&&Zd) (Zf Zu (Zk y (Zx cK) Zb) fun(gY:Int)=>aP (Zq (g7<gY)) (Yy (Yk [Zn y,Zw Zz n,Zw Zz dk,Zw Zz (Zy Zz (cK-(1:Int)))])) (Yy (Zm (Zh e,[Zn y,Zw Zz n,Zw Zz dk,Zw Zz cK]))))))))) (Yy (Zm (Zh e,[Zn y,Zw Zz n,Zw Zz dk,Zw Zz cK]))))) [Zn (back d),Zw .i64 (a:Int),Zw .i64 (i:Int),Zw .i64 (j:Int)]) K=K (.exit e,[Zn (back d),Zw .i64 (a:Int),Zw .i64 (i:Int),Zw .i64 (Go.Sort.scanDown (fun x=>Go.Sort.ltInt d[a]! x) d i j:Int)]):=by
 suffices h:∃ n,eC (fun(st:List AV)=>az st fun(x:AV) (r:List AV)=>AV.bw x fun(y:List AV)=>az r fun(x:AV) (r:List AV)=>Zf Zz x fun(n:Int)=>az r fun(x:AV) (r:List AV)=>Zf Zz x fun(dk:Int)=>az r fun(x:AV) (r:List AV)=>Zf Zz x fun(cK:Int)=>ar r (aP (Zq (dk<=cK)) (aA (Zq ((0:Int)<=n)&&Zq (n<(↑(Zv y):Int))&&Zd) (aA (Zg (Zx n) (Zv y)&&Zd) (Zf Zu (Zk y (Zx n) Zb) fun(g7:Int)=>(aA (Zq ((0:Int)<=cK)&&Zq (cK<(↑(Zv y):Int))&&Zd) (aA (Zg (Zx cK) (Zv y)&&Zd) (Zf Zu (Zk y (Zx cK) Zb) fun(gY:Int)=>aP (Zq (g7<gY)) (Yy (Yk [Zn y,Zw Zz n,Zw Zz dk,Zw Zz (Zy Zz (cK-(1:Int)))])) (Yy (Zm (Zh e,[Zn y,Zw Zz n,Zw Zz dk,Zw Zz cK]))))))))) (Yy (Zm (Zh e,[Zn y,Zw Zz n,Zw Zz dk,Zw Zz cK]))))) n (mL d a i j)=Yy (.exit e,mL d a i (Go.Sort.scanDown (fun x=>Go.Sort.ltInt d[a]! x) d i j)) by
  obtain⟨n,hn⟩:=h;exact Qb5 (Option.bind · K) (nr hn)
 refine PH (e:=e) (p:=(fun x=>Go.Sort.ltInt d[a]! x)) (d:=d) (a:=a) (i:=i) (step:=fun(st:List AV)=>az st fun(x:AV) (r:List AV)=>AV.bw x fun(y:List AV)=>az r fun(x:AV) (r:List AV)=>Zf Zz x fun(n:Int)=>az r fun(x:AV) (r:List AV)=>Zf Zz x fun(dk:Int)=>az r fun(x:AV) (r:List AV)=>Zf Zz x fun(cK:Int)=>ar r (aP (Zq (dk<=cK)) (aA (Zq ((0:Int)<=n)&&Zq (n<(↑(Zv y):Int))&&Zd) (aA (Zg (Zx n) (Zv y)&&Zd) (Zf Zu (Zk y (Zx n) Zb) fun(g7:Int)=>(aA (Zq ((0:Int)<=cK)&&Zq (cK<(↑(Zv y):Int))&&Zd) (aA (Zg (Zx cK) (Zv y)&&Zd) (Zf Zu (Zk y (Zx cK) Zb) fun(gY:Int)=>aP (Zq (g7<gY)) (Yy (Yk [Zn y,Zw Zz n,Zw Zz dk,Zw Zz (Zy Zz (cK-(1:Int)))])) (Yy (Zm (Zh e,[Zn y,Zw Zz n,Zw Zz dk,Zw Zz cK]))))))))) (Yy (Zm (Zh e,[Zn y,Zw Zz n,Zw Zz dk,Zw Zz cK]))))) ?_ ?_ hi j hj
 ·intro j hc sI;have h1:(j+1)<d.size:=by omega
  dsimp only[mL];simp only[↓cq,↓c4,↓dE,↓dF];rw[ah (by simp;omega),Kerb.rd ha,Kerb.rd h1];by_cases h:d[a]! < d[j+1]!
  ·rw[ah (by simp[h]),Qa1 (by simp[Go.Sort.ltInt,h]),show Zy .i64 (((j+1:Nat):Int)-1)=(j:Int) from(Kerb.iM (by omega) (by omega)).trans (by omega)]
  ·rw[aq (by simp[h]),Qa0 (by simp[Go.Sort.ltInt,h])]
 ·intro j hc;dsimp only[mL];simp only[↓cq,↓c4,↓dE,↓dF];rw[aq (by simp;omega)]
theorem Cf(d:Array Int)(a b p:Nat):part (back d) (a:Int) (b:Int) (p:Int)=((Go.Sort.partition Go.Sort.ltInt d a b p).1,(Go.Sort.partition Go.Sort.ltInt d a b p).2.1,back (Go.Sort.partition Go.Sort.ltInt d a b p).2.2):=by
 simp only[part,fq,Zp]
theorem xd(d:Array Int)(a b p:Nat):F1 (back d) (a:Int) (b:Int) (p:Int)=((Go.Sort.partitionEqual Go.Sort.ltInt d a b p).1,back (Go.Sort.partitionEqual Go.Sort.ltInt d a b p).2):=by
 simp only[F1,fq,Zp]
theorem zd{lt:Int->Int->Bool}{d:Array Int}{a s n:Nat}(ha:a+1<n):(Go.Sort.medianAdjacent lt d a s).1<n/\(Go.Sort.medianAdjacent lt d a s).2<=s+3:=by
 unfold Go.Sort.medianAdjacent;exact NN (by omega) (by omega) ha
theorem Hj{β:Type}(f:Int->Option β)(n:Nat):aP ((n:Int)==(0:Int)) (f 1) (aP ((n:Int)==(12:Int)) (f 2) (f 0))=f (Hi (if n=0 then Go.Sort.Hint.increasing else if n=12 then Go.Sort.Hint.decreasing else Go.Sort.Hint.unknown)):=by
 by_cases h:n=0
 ·subst h;rfl
 ·rw[aq (by simpa using h),Qa0 h];by_cases h2:n=12
  ·subst h2;rfl
  ·rw[aq (by simp;omega),Qa0 h2];rfl
end Kerb
/- The loops of the sort that stops early (printed by mksort3.py). -/
namespace Kerb
open Go Go.Abs
theorem Gj{d:Array Int}{A s:Int}{bb:Bool}{b e:Nat}(hb:b<=d.size)(hs:d.size<=1152921504606846976):∀ (m i:Nat),b-i=m->1<=i->i<=b->bH (fun(st:List AV)=>az st fun(x:AV) (r:List AV)=>AV.bw x fun(y:List AV)=>az r fun(x:AV) (r:List AV)=>Zf Zz x fun(n:Int)=>az r fun(x:AV) (r:List AV)=>Zf Zz x fun(dk:Int)=>az r fun(x:AV) (r:List AV)=>Zf Zz x fun(cK:Int)=>az r fun(x:AV) (r:List AV)=>Zf Zz x fun(g7:Int)=>az r fun(x:AV) (r:List AV)=>AV.dS x fun(b:Bool)=>ar r (aP (Zq (cK<dk)) (aA (Zq ((0:Int)<=cK)&&Zq (cK<(↑(Zv y):Int))&&Zd) (aA (Zg (Zx cK) (Zv y)&&Zd) (Zf Zu (Zk y (Zx cK) Zb) fun(gY:Int)=>aA (Zq ((0:Int)<=Zy Zz (cK-(1:Int)))&&Zq (Zy Zz (cK-(1:Int))<(↑(Zv y):Int))&&Zd) (aA (Zg (Zx (Zy Zz (cK-(1:Int)))) (Zv y)&&Zd) (Zf Zu (Zk y (Zx (Zy Zz (cK-(1:Int)))) Zb) fun(kC:Int)=>aP (!Zq (gY<kC)) (Yy (Yk [Zn y,Zw Zz n,Zw Zz dk,Zw Zz (Zy Zz (cK+(1:Int))),Zw Zz g7,Yx b])) (Yy (Zm (Zh e,[Zn y,Zw Zz n,Zw Zz dk,Zw Zz cK,Zw Zz g7,Yx b])))))))) (Yy (Zm (Zh e,[Zn y,Zw Zz n,Zw Zz dk,Zw Zz cK,Zw Zz g7,Yx b]))))) [Zn (back d),Zw .i64 A,Zw .i64 (b:Int),Zw .i64 (i:Int),Zw .i64 s,Yx bb]=Yy (.exit e,[Zn (back d),Zw .i64 A,Zw .i64 (b:Int),Zw .i64 (Go.Sort.scanSorted Go.Sort.ltInt d b i:Int),Zw .i64 s,Yx bb]):=by
 suffices h:∀ (m i:Nat),b-i=m->1<=i->i<=b->∃ n,eC (fun(st:List AV)=>az st fun(x:AV) (r:List AV)=>AV.bw x fun(y:List AV)=>az r fun(x:AV) (r:List AV)=>Zf Zz x fun(n:Int)=>az r fun(x:AV) (r:List AV)=>Zf Zz x fun(dk:Int)=>az r fun(x:AV) (r:List AV)=>Zf Zz x fun(cK:Int)=>az r fun(x:AV) (r:List AV)=>Zf Zz x fun(g7:Int)=>az r fun(x:AV) (r:List AV)=>AV.dS x fun(b:Bool)=>ar r (aP (Zq (cK<dk)) (aA (Zq ((0:Int)<=cK)&&Zq (cK<(↑(Zv y):Int))&&Zd) (aA (Zg (Zx cK) (Zv y)&&Zd) (Zf Zu (Zk y (Zx cK) Zb) fun(gY:Int)=>aA (Zq ((0:Int)<=Zy Zz (cK-(1:Int)))&&Zq (Zy Zz (cK-(1:Int))<(↑(Zv y):Int))&&Zd) (aA (Zg (Zx (Zy Zz (cK-(1:Int)))) (Zv y)&&Zd) (Zf Zu (Zk y (Zx (Zy Zz (cK-(1:Int)))) Zb) fun(kC:Int)=>aP (!Zq (gY<kC)) (Yy (Yk [Zn y,Zw Zz n,Zw Zz dk,Zw Zz (Zy Zz (cK+(1:Int))),Zw Zz g7,Yx b])) (Yy (Zm (Zh e,[Zn y,Zw Zz n,Zw Zz dk,Zw Zz cK,Zw Zz g7,Yx b])))))))) (Yy (Zm (Zh e,[Zn y,Zw Zz n,Zw Zz dk,Zw Zz cK,Zw Zz g7,Yx b]))))) n [Zn (back d),Zw .i64 A,Zw .i64 (b:Int),Zw .i64 (i:Int),Zw .i64 s,Yx bb]=Yy (.exit e,[Zn (back d),Zw .i64 A,Zw .i64 (b:Int),Zw .i64 (Go.Sort.scanSorted Go.Sort.ltInt d b i:Int),Zw .i64 s,Yx bb]) by
  intro m i h1 h2 h3;obtain⟨n,hn⟩:=h m i h1 h2 h3;exact nr hn
 intro m;induction m with
 | zero =>
  intro i hi h1 h2;refine⟨1,?_⟩;unfold eC;simp only[↓cq,↓c4,↓dE,↓dX,↓dF];rw[aq (by simp;omega)];unfold Go.Sort.scanSorted;rw[Qa0 (by simp;omega)]
 | succ m ih =>
  intro i hi h1 h2;obtain⟨k,rfl⟩:∃ k,i=k+1:=⟨i-1,by omega⟩;have g1:k+1<d.size:=by omega
  have g2:k<d.size:=by omega
  by_cases h:d[k+1]! < d[k]!
  ·refine⟨1,?_⟩;unfold eC;simp only[↓cq,↓c4,↓dE,↓dX,↓dF];rw[ah (by simp;omega),Kerb.rd g1,show Zy .i64 (((k+1:Nat):Int)-1)=((k:Nat):Int) from(Kerb.iM (by omega) (by omega)).trans (by omega),Kerb.rd g2,aq (by simp[h])];unfold Go.Sort.scanSorted;rw[Qa0 (by simp[Go.Sort.ltInt,h])]
  ·obtain⟨n,hn⟩:=ih (k+1+1) (by omega) (by omega) (by omega);refine⟨n+1,?_⟩;unfold eC;simp only[↓cq,↓c4,↓dE,↓dX,↓dF];rw[ah (by simp;omega),Kerb.rd g1,show Zy .i64 (((k+1:Nat):Int)-1)=((k:Nat):Int) from(Kerb.iM (by omega) (by omega)).trans (by omega),Kerb.rd g2,ah (by simp[h])];unfold Go.Sort.scanSorted;rw[Qa1 (by simp[Go.Sort.ltInt,h];omega),show Zy .i64 (((k+1:Nat):Int)+1)=((k+1+1:Nat):Int) from(Kerb.iM (by omega) (by omega)).trans (by omega)];exact hn
theorem Iu{A B I s:Int}{bb:Bool}{e:Nat}:∀ (j:Nat) (d:Array Int),j<d.size->d.size<=1152921504606846976->∃ m,bH (fun(st:List AV)=>az st fun(x:AV) (r:List AV)=>AV.bw x fun(y:List AV)=>az r fun(x:AV) (r:List AV)=>Zf Zz x fun(n:Int)=>az r fun(x:AV) (r:List AV)=>Zf Zz x fun(ly:Int)=>az r fun(x:AV) (r:List AV)=>Zf Zz x fun(nJ:Int)=>az r fun(x:AV) (r:List AV)=>Zf Zz x fun(jf:Int)=>az r fun(x:AV) (r:List AV)=>Zf Zz x fun(bS:Int)=>az r fun(x:AV) (r:List AV)=>AV.dS x fun(b:Bool)=>ar r (aP (Zq (bS>=(1:Int))) (aA (Zq ((0:Int)<=bS)&&Zq (bS<(↑(Zv y):Int))&&Zd) (aA (Zg (Zx bS) (Zv y)&&Zd) (Zf Zu (Zk y (Zx bS) Zb) fun(jP:Int)=>aA (Zq ((0:Int)<=Zy Zz (bS-(1:Int)))&&Zq (Zy Zz (bS-(1:Int))<(↑(Zv y):Int))&&Zd) (aA (Zg (Zx (Zy Zz (bS-(1:Int)))) (Zv y)&&Zd) (Zf Zu (Zk y (Zx (Zy Zz (bS-(1:Int)))) Zb) fun(gI:Int)=>aP (!Zq (jP<gI)) (Yy (Zm (Zh e,[Zn y,Zw Zz n,Zw Zz ly,Zw Zz nJ,Zw Zz jf,Zw Zz bS,Yx b]))) (aA (Zq ((0:Int)<=Zy Zz (bS-(1:Int)))&&Zq (Zy Zz (bS-(1:Int))<(↑(Zv y):Int))&&Zd) (aA (Zg (Zx (Zy Zz (bS-(1:Int)))) (Zv y)&&Zd) (Zf Zu (Zk y (Zx (Zy Zz (bS-(1:Int)))) Zb) fun(ep:Int)=>aA (Zq ((0:Int)<=bS)&&Zq (bS<(↑(Zv y):Int))&&Zd) (aA (Zg (Zx bS) (Zv y)&&Zd) (Zf Zu (Zk y (Zx bS) Zb) fun(ch:Int)=>aA (Zq ((0:Int)<=bS)&&Zq (bS<(↑(Zv y):Int))&&Zd) (aA (Zg (Zx bS) (Zv y)&&Zd) (Zf Zu (Zk y (Zx bS) Zb) fun(sk:Int)=>aA (Zv [Zw Zu ep]==nat_lit 1&&Zd&&Zd&&Zd&&Zg (Zx bS) (Zv y)) (aA (Zq ((0:Int)<=Zy Zz (bS-(1:Int)))&&Zq (Zy Zz (bS-(1:Int))<(↑(Zv (Yw y (Zx bS) (Zw Zu ep))):Int))&&Zd) (aA (Zg (Zx (Zy Zz (bS-(1:Int)))) (Zv (Yw y (Zx bS) (Zw Zu ep)))&&Zd) (Zf Zu (Zk (Yw y (Zx bS) (Zw Zu ep)) (Zx (Zy Zz (bS-(1:Int)))) Zb) fun(sm:Int)=>aA (Zv [Zw Zu ch]==nat_lit 1&&Zd&&Zd&&Zd&&Zg (Zx (Zy Zz (bS-(1:Int)))) (Zv (Yw y (Zx bS) (Zw Zu ep)))) (Yy (Yk [Zn (Yw (Yw y (Zx bS) (Zw Zu ep)) (Zx (Zy Zz (bS-(1:Int)))) (Zw Zu ch)),Zw Zz n,Zw Zz ly,Zw Zz nJ,Zw Zz jf,Zw Zz (Zy Zz (bS-(1:Int))),Yx b]))))))))))))))))) (Yy (Zm (Zh e,[Zn y,Zw Zz n,Zw Zz ly,Zw Zz nJ,Zw Zz jf,Zw Zz bS,Yx b]))))) [Zn (back d),Zw .i64 A,Zw .i64 B,Zw .i64 I,Zw .i64 s,Zw .i64 (j:Int),Yx bb]=Yy (.exit e,[Zn (back (Go.Sort.shiftDown Go.Sort.ltInt j d)),Zw .i64 A,Zw .i64 B,Zw .i64 I,Zw .i64 s,Zw .i64 m,Yx bb]):=by
 suffices h:∀ (j:Nat) (d:Array Int),j<d.size->d.size<=1152921504606846976->∃ m n,eC (fun(st:List AV)=>az st fun(x:AV) (r:List AV)=>AV.bw x fun(y:List AV)=>az r fun(x:AV) (r:List AV)=>Zf Zz x fun(n:Int)=>az r fun(x:AV) (r:List AV)=>Zf Zz x fun(ly:Int)=>az r fun(x:AV) (r:List AV)=>Zf Zz x fun(nJ:Int)=>az r fun(x:AV) (r:List AV)=>Zf Zz x fun(jf:Int)=>az r fun(x:AV) (r:List AV)=>Zf Zz x fun(bS:Int)=>az r fun(x:AV) (r:List AV)=>AV.dS x fun(b:Bool)=>ar r (aP (Zq (bS>=(1:Int))) (aA (Zq ((0:Int)<=bS)&&Zq (bS<(↑(Zv y):Int))&&Zd) (aA (Zg (Zx bS) (Zv y)&&Zd) (Zf Zu (Zk y (Zx bS) Zb) fun(jP:Int)=>aA (Zq ((0:Int)<=Zy Zz (bS-(1:Int)))&&Zq (Zy Zz (bS-(1:Int))<(↑(Zv y):Int))&&Zd) (aA (Zg (Zx (Zy Zz (bS-(1:Int)))) (Zv y)&&Zd) (Zf Zu (Zk y (Zx (Zy Zz (bS-(1:Int)))) Zb) fun(gI:Int)=>aP (!Zq (jP<gI)) (Yy (Zm (Zh e,[Zn y,Zw Zz n,Zw Zz ly,Zw Zz nJ,Zw Zz jf,Zw Zz bS,Yx b]))) (aA (Zq ((0:Int)<=Zy Zz (bS-(1:Int)))&&Zq (Zy Zz (bS-(1:Int))<(↑(Zv y):Int))&&Zd) (aA (Zg (Zx (Zy Zz (bS-(1:Int)))) (Zv y)&&Zd) (Zf Zu (Zk y (Zx (Zy Zz (bS-(1:Int)))) Zb) fun(ep:Int)=>aA (Zq ((0:Int)<=bS)&&Zq (bS<(↑(Zv y):Int))&&Zd) (aA (Zg (Zx bS) (Zv y)&&Zd) (Zf Zu (Zk y (Zx bS) Zb) fun(ch:Int)=>aA (Zq ((0:Int)<=bS)&&Zq (bS<(↑(Zv y):Int))&&Zd) (aA (Zg (Zx bS) (Zv y)&&Zd) (Zf Zu (Zk y (Zx bS) Zb) fun(sk:Int)=>aA (Zv [Zw Zu ep]==nat_lit 1&&Zd&&Zd&&Zd&&Zg (Zx bS) (Zv y)) (aA (Zq ((0:Int)<=Zy Zz (bS-(1:Int)))&&Zq (Zy Zz (bS-(1:Int))<(↑(Zv (Yw y (Zx bS) (Zw Zu ep))):Int))&&Zd) (aA (Zg (Zx (Zy Zz (bS-(1:Int)))) (Zv (Yw y (Zx bS) (Zw Zu ep)))&&Zd) (Zf Zu (Zk (Yw y (Zx bS) (Zw Zu ep)) (Zx (Zy Zz (bS-(1:Int)))) Zb) fun(sm:Int)=>aA (Zv [Zw Zu ch]==nat_lit 1&&Zd&&Zd&&Zd&&Zg (Zx (Zy Zz (bS-(1:Int)))) (Zv (Yw y (Zx bS) (Zw Zu ep)))) (Yy (Yk [Zn (Yw (Yw y (Zx bS) (Zw Zu ep)) (Zx (Zy Zz (bS-(1:Int)))) (Zw Zu ch)),Zw Zz n,Zw Zz ly,Zw Zz nJ,Zw Zz jf,Zw Zz (Zy Zz (bS-(1:Int))),Yx b]))))))))))))))))) (Yy (Zm (Zh e,[Zn y,Zw Zz n,Zw Zz ly,Zw Zz nJ,Zw Zz jf,Zw Zz bS,Yx b]))))) n [Zn (back d),Zw .i64 A,Zw .i64 B,Zw .i64 I,Zw .i64 s,Zw .i64 (j:Int),Yx bb]=Yy (.exit e,[Zn (back (Go.Sort.shiftDown Go.Sort.ltInt j d)),Zw .i64 A,Zw .i64 B,Zw .i64 I,Zw .i64 s,Zw .i64 m,Yx bb]) by
  intro j d h1 h2;obtain⟨m,n,hn⟩:=h j d h1 h2;exact⟨m,nr hn⟩
 intro j;induction j with
 | zero =>
  intro d h1 h2;refine⟨((0:Nat):Int),1,?_⟩;unfold eC;simp only[↓cq,↓c4,↓dE,↓dX,↓dF];rw[aq (by simp)];rfl
 | succ k ih =>
  intro d h1 h2;have g2:k<d.size:=by omega
  by_cases h:d[k+1]! < d[k]!
  ·obtain⟨m,n,hn⟩:=ih (Go.Sort.swp d (k+1) k) (by rw[swp_size];omega) (by rw[swp_size];exact h2);refine⟨m,n+1,?_⟩;unfold eC;simp only[↓cq,↓c4,↓dE,↓dX,↓dF];rw[ah (by simp;omega),Kerb.rd h1];simp only[show Zy .i64 (((k+1:Nat):Int)-1)=((k:Nat):Int) from(Kerb.iM (by omega) (by omega)).trans (by omega)];rw[Kerb.rd g2,aq (by simp[h])];rw[Kerb.rd g2,Kerb.rd h1,Kerb.wr h1 (by simp[Kerb.bt];omega),Kerb.dA,Kerb.wr (by rw[Yp];exact g2) (by simp[Kerb.bt];omega),Kerb.dA,show(Yq (Yq d (k+1) d[k]!) k d[k+1]!)=Go.Sort.swp d (k+1) k from rfl];unfold Go.Sort.shiftDown;rw[Qa0 (by simp[Go.Sort.ltInt,h])];exact hn
  ·refine⟨((k+1:Nat):Int),1,?_⟩;unfold eC;simp only[↓cq,↓c4,↓dE,↓dX,↓dF];rw[ah (by simp;omega),Kerb.rd h1];simp only[show Zy .i64 (((k+1:Nat):Int)-1)=((k:Nat):Int) from(Kerb.iM (by omega) (by omega)).trans (by omega)];rw[Kerb.rd g2,ah (by simp[h])];unfold Go.Sort.shiftDown;rw[Qa1 (by simp[Go.Sort.ltInt,h])]
theorem EB{A I s:Int}{bb:Bool}{b e:Nat}:∀ (m:Nat) (j:Nat) (d:Array Int),b-j=m->1<=j->j<=b->b<=d.size->d.size<=1152921504606846976->∃ m,bH (fun(st:List AV)=>az st fun(x:AV) (r:List AV)=>AV.bw x fun(y:List AV)=>az r fun(x:AV) (r:List AV)=>Zf Zz x fun(n:Int)=>az r fun(x:AV) (r:List AV)=>Zf Zz x fun(jP:Int)=>az r fun(x:AV) (r:List AV)=>Zf Zz x fun(gI:Int)=>az r fun(x:AV) (r:List AV)=>Zf Zz x fun(ep:Int)=>az r fun(x:AV) (r:List AV)=>Zf Zz x fun(ch:Int)=>az r fun(x:AV) (r:List AV)=>AV.dS x fun(b:Bool)=>ar r (aP (Zq (ch<jP)) (aA (Zq ((0:Int)<=ch)&&Zq (ch<(↑(Zv y):Int))&&Zd) (aA (Zg (Zx ch) (Zv y)&&Zd) (Zf Zu (Zk y (Zx ch) Zb) fun(sk:Int)=>aA (Zq ((0:Int)<=Zy Zz (ch-(1:Int)))&&Zq (Zy Zz (ch-(1:Int))<(↑(Zv y):Int))&&Zd) (aA (Zg (Zx (Zy Zz (ch-(1:Int)))) (Zv y)&&Zd) (Zf Zu (Zk y (Zx (Zy Zz (ch-(1:Int)))) Zb) fun(sm:Int)=>aP (!Zq (sk<sm)) (Yy (Zm (Zh e,[Zn y,Zw Zz n,Zw Zz jP,Zw Zz gI,Zw Zz ep,Zw Zz ch,Yx b]))) (aA (Zq ((0:Int)<=Zy Zz (ch-(1:Int)))&&Zq (Zy Zz (ch-(1:Int))<(↑(Zv y):Int))&&Zd) (aA (Zg (Zx (Zy Zz (ch-(1:Int)))) (Zv y)&&Zd) (Zf Zu (Zk y (Zx (Zy Zz (ch-(1:Int)))) Zb) fun(jQ:Int)=>aA (Zq ((0:Int)<=ch)&&Zq (ch<(↑(Zv y):Int))&&Zd) (aA (Zg (Zx ch) (Zv y)&&Zd) (Zf Zu (Zk y (Zx ch) Zb) fun(wc:Int)=>aA (Zq ((0:Int)<=ch)&&Zq (ch<(↑(Zv y):Int))&&Zd) (aA (Zg (Zx ch) (Zv y)&&Zd) (Zf Zu (Zk y (Zx ch) Zb) fun(QP:Int)=>aA (Zv [Zw Zu jQ]==nat_lit 1&&Zd&&Zd&&Zd&&Zg (Zx ch) (Zv y)) (aA (Zq ((0:Int)<=Zy Zz (ch-(1:Int)))&&Zq (Zy Zz (ch-(1:Int))<(↑(Zv (Yw y (Zx ch) (Zw Zu jQ))):Int))&&Zd) (aA (Zg (Zx (Zy Zz (ch-(1:Int)))) (Zv (Yw y (Zx ch) (Zw Zu jQ)))&&Zd) (Zf Zu (Zk (Yw y (Zx ch) (Zw Zu jQ)) (Zx (Zy Zz (ch-(1:Int)))) Zb) fun(QQ:Int)=>aA (Zv [Zw Zu wc]==nat_lit 1&&Zd&&Zd&&Zd&&Zg (Zx (Zy Zz (ch-(1:Int)))) (Zv (Yw y (Zx ch) (Zw Zu jQ)))) (Yy (Yk [Zn (Yw (Yw y (Zx ch) (Zw Zu jQ)) (Zx (Zy Zz (ch-(1:Int)))) (Zw Zu wc)),Zw Zz n,Zw Zz jP,Zw Zz gI,Zw Zz ep,Zw Zz (Zy Zz (ch+(1:Int))),Yx b]))))))))))))))))) (Yy (Zm (Zh e,[Zn y,Zw Zz n,Zw Zz jP,Zw Zz gI,Zw Zz ep,Zw Zz ch,Yx b]))))) [Zn (back d),Zw .i64 A,Zw .i64 (b:Int),Zw .i64 I,Zw .i64 s,Zw .i64 (j:Int),Yx bb]=Yy (.exit e,[Zn (back (Go.Sort.shiftUp Go.Sort.ltInt b j d)),Zw .i64 A,Zw .i64 (b:Int),Zw .i64 I,Zw .i64 s,Zw .i64 m,Yx bb]):=by
 suffices h:∀ (m:Nat) (j:Nat) (d:Array Int),b-j=m->1<=j->j<=b->b<=d.size->d.size<=1152921504606846976->∃ m n,eC (fun(st:List AV)=>az st fun(x:AV) (r:List AV)=>AV.bw x fun(y:List AV)=>az r fun(x:AV) (r:List AV)=>Zf Zz x fun(n:Int)=>az r fun(x:AV) (r:List AV)=>Zf Zz x fun(jP:Int)=>az r fun(x:AV) (r:List AV)=>Zf Zz x fun(gI:Int)=>az r fun(x:AV) (r:List AV)=>Zf Zz x fun(ep:Int)=>az r fun(x:AV) (r:List AV)=>Zf Zz x fun(ch:Int)=>az r fun(x:AV) (r:List AV)=>AV.dS x fun(b:Bool)=>ar r (aP (Zq (ch<jP)) (aA (Zq ((0:Int)<=ch)&&Zq (ch<(↑(Zv y):Int))&&Zd) (aA (Zg (Zx ch) (Zv y)&&Zd) (Zf Zu (Zk y (Zx ch) Zb) fun(sk:Int)=>aA (Zq ((0:Int)<=Zy Zz (ch-(1:Int)))&&Zq (Zy Zz (ch-(1:Int))<(↑(Zv y):Int))&&Zd) (aA (Zg (Zx (Zy Zz (ch-(1:Int)))) (Zv y)&&Zd) (Zf Zu (Zk y (Zx (Zy Zz (ch-(1:Int)))) Zb) fun(sm:Int)=>aP (!Zq (sk<sm)) (Yy (Zm (Zh e,[Zn y,Zw Zz n,Zw Zz jP,Zw Zz gI,Zw Zz ep,Zw Zz ch,Yx b]))) (aA (Zq ((0:Int)<=Zy Zz (ch-(1:Int)))&&Zq (Zy Zz (ch-(1:Int))<(↑(Zv y):Int))&&Zd) (aA (Zg (Zx (Zy Zz (ch-(1:Int)))) (Zv y)&&Zd) (Zf Zu (Zk y (Zx (Zy Zz (ch-(1:Int)))) Zb) fun(jQ:Int)=>aA (Zq ((0:Int)<=ch)&&Zq (ch<(↑(Zv y):Int))&&Zd) (aA (Zg (Zx ch) (Zv y)&&Zd) (Zf Zu (Zk y (Zx ch) Zb) fun(wc:Int)=>aA (Zq ((0:Int)<=ch)&&Zq (ch<(↑(Zv y):Int))&&Zd) (aA (Zg (Zx ch) (Zv y)&&Zd) (Zf Zu (Zk y (Zx ch) Zb) fun(QP:Int)=>aA (Zv [Zw Zu jQ]==nat_lit 1&&Zd&&Zd&&Zd&&Zg (Zx ch) (Zv y)) (aA (Zq ((0:Int)<=Zy Zz (ch-(1:Int)))&&Zq (Zy Zz (ch-(1:Int))<(↑(Zv (Yw y (Zx ch) (Zw Zu jQ))):Int))&&Zd) (aA (Zg (Zx (Zy Zz (ch-(1:Int)))) (Zv (Yw y (Zx ch) (Zw Zu jQ)))&&Zd) (Zf Zu (Zk (Yw y (Zx ch) (Zw Zu jQ)) (Zx (Zy Zz (ch-(1:Int)))) Zb) fun(QQ:Int)=>aA (Zv [Zw Zu wc]==nat_lit 1&&Zd&&Zd&&Zd&&Zg (Zx (Zy Zz (ch-(1:Int)))) (Zv (Yw y (Zx ch) (Zw Zu jQ)))) (Yy (Yk [Zn (Yw (Yw y (Zx ch) (Zw Zu jQ)) (Zx (Zy Zz (ch-(1:Int)))) (Zw Zu wc)),Zw Zz n,Zw Zz jP,Zw Zz gI,Zw Zz ep,Zw Zz (Zy Zz (ch+(1:Int))),Yx b]))))))))))))))))) (Yy (Zm (Zh e,[Zn y,Zw Zz n,Zw Zz jP,Zw Zz gI,Zw Zz ep,Zw Zz ch,Yx b]))))) n [Zn (back d),Zw .i64 A,Zw .i64 (b:Int),Zw .i64 I,Zw .i64 s,Zw .i64 (j:Int),Yx bb]=Yy (.exit e,[Zn (back (Go.Sort.shiftUp Go.Sort.ltInt b j d)),Zw .i64 A,Zw .i64 (b:Int),Zw .i64 I,Zw .i64 s,Zw .i64 m,Yx bb]) by
  intro m j d h1 h2 h3 h4 h5;obtain⟨m,n,hn⟩:=h m j d h1 h2 h3 h4 h5;exact⟨m,nr hn⟩
 intro m;induction m with
 | zero =>
  intro j d h1 h2 h3 h4 h5;refine⟨(j:Int),1,?_⟩;unfold eC;simp only[↓cq,↓c4,↓dE,↓dX,↓dF];rw[aq (by simp;omega)];unfold Go.Sort.shiftUp;rw[Qa0 (by omega)]
 | succ m ih =>
  intro j d h1 h2 h3 h4 h5;obtain⟨k,rfl⟩:∃ k,j=k+1:=⟨j-1,by omega⟩;have g1:k+1<d.size:=by omega
  have g2:k<d.size:=by omega
  by_cases h:d[k+1]! < d[k]!
  ·obtain⟨m,n,hn⟩:=ih (k+1+1) (Go.Sort.swp d (k+1) k) (by omega) (by omega) (by omega) (by rw[swp_size];omega) (by rw[swp_size];exact h5);refine⟨m,n+1,?_⟩;unfold eC;simp only[↓cq,↓c4,↓dE,↓dX,↓dF];rw[ah (by simp;omega),Kerb.rd g1];simp only[show Zy .i64 (((k+1:Nat):Int)-1)=((k:Nat):Int) from(Kerb.iM (by omega) (by omega)).trans (by omega)];rw[Kerb.rd g2,aq (by simp[h])];rw[Kerb.rd g2,Kerb.rd g1,Kerb.wr g1 (by simp[Kerb.bt];omega),Kerb.dA,Kerb.wr (by rw[Yp];exact g2) (by simp[Kerb.bt];omega),Kerb.dA,show(Yq (Yq d (k+1) d[k]!) k d[k+1]!)=Go.Sort.swp d (k+1) k from rfl];unfold Go.Sort.shiftUp;rw[Qa1 (by omega),Nat.add_sub_cancel,Qa0 (by simp[Go.Sort.ltInt,h]),show Zy .i64 (((k+1:Nat):Int)+1)=((k+1+1:Nat):Int) from(Kerb.iM (by omega) (by omega)).trans (by omega)];exact hn
  ·refine⟨((k+1:Nat):Int),1,?_⟩;unfold eC;simp only[↓cq,↓c4,↓dE,↓dX,↓dF];rw[ah (by simp;omega),Kerb.rd g1];simp only[show Zy .i64 (((k+1:Nat):Int)-1)=((k:Nat):Int) from(Kerb.iM (by omega) (by omega)).trans (by omega)];rw[Kerb.rd g2,ah (by simp[h])];unfold Go.Sort.shiftUp;rw[Qa1 (by omega),Nat.add_sub_cancel,Qa1 (by simp[Go.Sort.ltInt,h])]
theorem vw{lt:Int->Int->Bool}:∀ (j:Nat) (d:Array Int),(Go.Sort.shiftDown lt j d).size=d.size:=by
 intro j;induction j with
 | zero=>intro d;rfl
 | succ k ih =>
  intro d;unfold Go.Sort.shiftDown;split
  ·rfl
  ·rw[ih,swp_size]
theorem yt{lt:Int->Int->Bool}{b:Nat}:∀ (m j:Nat) (d:Array Int),b-j=m->(Go.Sort.shiftUp lt b j d).size=d.size:=by
 intro m;induction m with
 | zero =>
  intro j d h;unfold Go.Sort.shiftUp;rw[Qa0 (by omega)]
 | succ m ih =>
  intro j d h;unfold Go.Sort.shiftUp;rw[Qa1 (by omega)];split
  ·rfl
  ·rw[ih _ _ (by omega),swp_size]
theorem DB{lt:Int->Int->Bool}{d:Array Int}{b:Nat}:∀ (m i:Nat),b-i=m->i<=b->i<=Go.Sort.scanSorted lt d b i/\Go.Sort.scanSorted lt d b i<=b:=by
 intro m;induction m with
 | zero =>
  intro i h1 h2;unfold Go.Sort.scanSorted;rw[Qa0 (by simp;omega)];omega
 | succ m ih =>
  intro i h1 h2;unfold Go.Sort.scanSorted;split
  ·have:=ih (i+1) (by omega) (by omega);omega
  ·omega
end Kerb
/- The sort's pseudo-random number; lengths in bits. -/
namespace Kerb
open Go Go.Abs
theorem Y1(v:BitVec 64):Zy .u64 (v.toNat:Int)=(v.toNat:Int):=by
 unfold Zy;simp[IntKind.bits,Yj];have:=v.isLt;omega
theorem ab9(v:BitVec 64):BitVec.ofInt 64 (v.toNat:Int)=v:=by
 apply BitVec.eq_of_toNat_eq;simp[BitVec.toNat_ofInt]
theorem shl(v:BitVec 64)(k:Nat)(p:Int)(hp:p=((2 ^ k:Nat):Int)):BitVec.ofInt 64 (Zy .u64 ((v.toNat:Int)*p))=v <<< k:=by
 subst hp;apply BitVec.eq_of_toNat_eq;rw[show Zy .u64 ((v.toNat:Int)*((2 ^ k:Nat):Int))=((v.toNat*2 ^ k % 2 ^ 64:Nat):Int) from by
  unfold Zy;rw[Qa0 (by simp[Yj])];rfl]
 rw[BitVec.toNat_ofInt,BitVec.toNat_shiftLeft,Nat.shiftLeft_eq];generalize v.toNat*2 ^ k=m;omega
theorem shr(v:BitVec 64)(k:Nat)(p:Int)(hp:p=((2 ^ k:Nat):Int)):BitVec.ofInt 64 (Int.fdiv (v.toNat:Int) p)=v >>> k:=by
 subst hp;apply BitVec.eq_of_toNat_eq;rw[show Int.fdiv (v.toNat:Int) ((2 ^ k:Nat):Int)=((v.toNat / 2 ^ k:Nat):Int) from by rw[Int.fdiv_eq_ediv_of_nonneg _ (Int.natCast_nonneg _)];rfl];rw[BitVec.toNat_ofInt,BitVec.toNat_ushiftRight,Nat.shiftRight_eq_div_pow];have:=v.isLt;have h2:v.toNat / 2 ^ k<=v.toNat:=Nat.div_le_self _ _;generalize v.toNat / 2 ^ k=m at h2 ⊢;omega
theorem Ug(v:BitVec 64):Lg (v.toNat:Int)=((((v ^^^ v <<< 13) ^^^ (v ^^^ v <<< 13) >>> 7) ^^^ ((v ^^^ v <<< 13) ^^^ (v ^^^ v <<< 13) >>> 7) <<< 17).toNat:Int):=by
 unfold Lg;rw[Zp,show UInt64.ofNat v.toNat=UInt64.ofBitVec v from by apply UInt64.eq_of_toBitVec_eq;simp];rfl
theorem QL{n k:Nat}(h:2 ^ k<=n):Nat.log2 n=k+Nat.log2 (n / 2 ^ k):=by
 have hk:0<2 ^ k:=Nat.two_pow_pos k;have hq:n / 2 ^ k≠0:=by
  have:=Nat.div_pos h hk;omega
 have hn:n≠0:=by omega
 have h1:2 ^ (Nat.log2 (n / 2 ^ k))<=n / 2 ^ k:=(Nat.le_log2 hq).mp (Nat.le_refl _);have h2:n / 2 ^ k<2 ^ (Nat.log2 (n / 2 ^ k)+1):=(Nat.log2_lt hq).mp (Nat.lt_succ_self _);generalize Nat.log2 (n / 2 ^ k)=a at h1 h2 ⊢;have h3:k+a<=Nat.log2 n:=(Nat.le_log2 hn).mpr (by
  rw[Nat.pow_add,Nat.mul_comm];exact(Nat.le_div_iff_mul_le hk).mp h1)
 have h4:Nat.log2 n<k+a+1:=(Nat.log2_lt hn).mpr (by
  rw[show k+a+1=(a+1)+k by omega,Nat.pow_add];exact(Nat.div_lt_iff_lt_mul hk).mp h2)
 omega
theorem kQ(k:Nat){n:Nat}(h:2 ^ k<=n):Go.Sort.bitsLen n=k+Go.Sort.bitsLen (n / 2 ^ k):=by
 have hk:0<2 ^ k:=Nat.two_pow_pos k;have hq:n / 2 ^ k≠0:=by
  have:=Nat.div_pos h hk;omega
 unfold Go.Sort.bitsLen;rw[Qa0 (by omega),Qa0 hq,QL h];omega
theorem sP(k:Nat){n:Nat}(h:n<2 ^ k):Go.Sort.bitsLen n<=k:=by
 unfold Go.Sort.bitsLen;split
 ·omega
 ·rename_i h0;exact(Nat.log2_lt h0).mpr h
def FL:List UInt8:=(List.range 256).map fun i=>UInt8.ofNat (Go.Sort.bitsLen i)
theorem Kj{m:Nat}(h:m<256):(FL.getD m 0).toNat=Go.Sort.bitsLen m:=by
 unfold FL;rw[List.getD_eq_getElem?_getD,List.getElem?_map,List.getElem?_range h];simp only[Option.map_some,Option.getD_some];have:=sP 8 (n:=m) (by omega);simp only[UInt8.toNat_ofNat'];omega
theorem oU{T:List UInt8}{m:Nat}{N:Int}(hT:T=FL)(hm:m<256)(h1:0<=N)(h2:N<=64) :
  aA (Zq ((0:Int)<=((UInt8.ofNat (Zx (Zy .u8 (m:Int)))).toNat:Int))&&Zq (((UInt8.ofNat (Zx (Zy .u8 (m:Int)))).toNat:Int)<(T.length:Int))) (Yy (Zw .i64 (Zy .i64 (N+Zy .i64 ((Zk T (Zx ((UInt8.ofNat (Zx (Zy .u8 (m:Int)))).toNat:Int)) (0:UInt8)).toNat:Int))),([]:aZ)))=Yy (Zw .i64 (N+(Go.Sort.bitsLen m:Int)),[]):=by
 subst hT;have hw:Zy .u8 (m:Int)=(m:Int):=by
  unfold Zy;simp[IntKind.bits,Yj];omega
 have hu:(UInt8.ofNat m).toNat=m:=by simp;omega
 rw[hw,Zp,hu,Zp,Kj hm];have:=sP 8 (n:=m) (by omega);rw[ae (by simp[FL];omega),iM (n:=(Go.Sort.bitsLen m:Int)) (by omega) (by omega),iM (by omega) (by omega)]
theorem f32(n:Nat):Int.fdiv (n:Int) ((2:Int) ^ min (Zx (32:Int)) (IntKind.bits .u64))=((n / 2 ^ 32:Nat):Int):=Int.fdiv_eq_ediv_of_nonneg (n:Int) (b:=((2 ^ 32:Nat):Int)) (Int.natCast_nonneg _)
theorem f16(n:Nat):Int.fdiv (n:Int) ((2:Int) ^ min (Zx (16:Int)) (IntKind.bits .u64))=((n / 2 ^ 16:Nat):Int):=Int.fdiv_eq_ediv_of_nonneg (n:Int) (b:=((2 ^ 16:Nat):Int)) (Int.natCast_nonneg _)
theorem f8(n:Nat):Int.fdiv (n:Int) ((2:Int) ^ min (Zx (8:Int)) (IntKind.bits .u64))=((n / 2 ^ 8:Nat):Int):=Int.fdiv_eq_ediv_of_nonneg (n:Int) (b:=((2 ^ 8:Nat):Int)) (Int.natCast_nonneg _)
theorem BT(n:Nat):TB (n:Int)=(Go.Sort.bitsLen n:Int):=by unfold TB;rw[Zp]
theorem SF(v:BitVec 64) :
  Zy .u64 ((BitVec.toNat (BitVec.ofInt 64 (Zy .u64 ((BitVec.toNat (BitVec.ofInt 64 (Zy .u64 ((BitVec.toNat (BitVec.ofInt 64 (v.toNat:Int) ^^^ BitVec.ofInt 64 (Zy .u64 ((v.toNat:Int)*(2:Int) ^ min (Zx (13:Int)) 64)))):Int)) ^^^ BitVec.ofInt 64 (Int.fdiv (Zy .u64 ((BitVec.toNat (BitVec.ofInt 64 (v.toNat:Int) ^^^ BitVec.ofInt 64 (Zy .u64 ((v.toNat:Int)*(2:Int) ^ min (Zx (13:Int)) 64)))):Int)) ((2:Int) ^ min (Zx (7:Int)) 64)))):Int)) ^^^ BitVec.ofInt 64 (Zy .u64 (Zy .u64 ((BitVec.toNat (BitVec.ofInt 64 (Zy .u64 ((BitVec.toNat (BitVec.ofInt 64 (v.toNat:Int) ^^^ BitVec.ofInt 64 (Zy .u64 ((v.toNat:Int)*(2:Int) ^ min (Zx (13:Int)) 64)))):Int)) ^^^ BitVec.ofInt 64 (Int.fdiv (Zy .u64 ((BitVec.toNat (BitVec.ofInt 64 (v.toNat:Int) ^^^ BitVec.ofInt 64 (Zy .u64 ((v.toNat:Int)*(2:Int) ^ min (Zx (13:Int)) 64)))):Int)) ((2:Int) ^ min (Zx (7:Int)) 64)))):Int)*(2:Int) ^ min (Zx (17:Int)) 64)))):Int)=Lg (v.toNat:Int):=by
 rw[ab9 v,shl v 13 ((2:Int) ^ min (Zx (13:Int)) 64) rfl];simp only[Y1,ab9];rw[shr _ 7 ((2:Int) ^ min (Zx (7:Int)) 64) rfl];rw[shl _ 17 ((2:Int) ^ min (Zx (17:Int)) 64) rfl,Ug]
theorem SE(r:UInt64):Lg (r.toNat:Int)=((Go.Sort.xorNext r).toNat:Int):=by
 unfold Lg;rw[Zp,UInt64.ofNat_toNat]
theorem OL{n:Int}(h1:0<=n)(h2:n<18446744073709551616):Zy .u64 n=n:=by
 unfold Zy;simp[IntKind.bits,Yj];omega
theorem SX(r:UInt64){m:Nat}(h1:1<=m)(h2:m<=4611686018427387904):Zy .i64 (Zy .u64 ((BitVec.toNat (BitVec.ofInt 64 (r.toNat:Int) &&& BitVec.ofInt 64 (Zy .u64 ((m:Int)-(1:Int)))):Int)))=((r.toNat &&& (m-1):Nat):Int):=by
 have hr:=r.toNat_lt;rw[OL (n:=(m:Int)-1) (by omega) (by omega),BitVec.toNat_and,BitVec.toNat_ofInt,BitVec.toNat_ofInt];rw[show((r.toNat:Int) % ((2 ^ 64:Nat):Int)).toNat=r.toNat by omega,show(((m:Int)-1) % ((2 ^ 64:Nat):Int)).toNat=m-1 by omega];have:r.toNat &&& (m-1)<=m-1:=Nat.and_le_right;rw[OL (by omega) (by omega),iM (by omega) (by omega)]
theorem TS{n:Nat}(h:n≠0):1<=1 <<< Go.Sort.bitsLen n/\1 <<< Go.Sort.bitsLen n<=2*n:=by
 rw[Nat.one_shiftLeft];have:=Nat.two_pow_pos (Go.Sort.bitsLen n);refine⟨this,?_⟩;unfold Go.Sort.bitsLen;rw[Qa0 h,Nat.pow_succ];have:=(Nat.le_log2 h).mp (Nat.le_refl _);omega
theorem NS{n:Nat}(h:n<=4611686018427387904):Zy .u64 ((1:Int)*(2:Int) ^ min (Zx ((Go.Sort.bitsLen n:Nat):Int)) 64)=QX (n:Int):=by
 unfold QX;have:=sP 63 (n:=n) (by omega);rw[Zp,Zp,Nat.one_shiftLeft,show min (Go.Sort.bitsLen n) 64=Go.Sort.bitsLen n by omega,Int.one_mul];have h2:2 ^ Go.Sort.bitsLen n<=2 ^ 63:=Nat.pow_le_pow_right (by omega) this;rw[show((2:Int) ^ Go.Sort.bitsLen n)=((2 ^ Go.Sort.bitsLen n:Nat):Int) from by simp];generalize 2 ^ Go.Sort.bitsLen n=q at h2 ⊢;exact OL (by omega) (by omega)
theorem QY(n:Nat):QX (n:Int)=((1 <<< Go.Sort.bitsLen n:Nat):Int):=by
 unfold QX;rw[Zp]
def OO(a l m idx:Nat)(d:Array Int):Nat->UInt64×Array Int
 | 0=>(UInt64.ofNat l,d)
 | k+1=>Go.Sort.breakStep a l m (OO a l m idx d k) (idx+k)
theorem GP(a l m idx:Nat)(d:Array Int):∀ k,(OO a l m idx d k).2.size=d.size
 | 0=>rfl
 | k+1=>by
  unfold OO Go.Sort.breakStep;dsimp only;rw[swp_size,GP a l m idx d k]
end Kerb
/- The sort: one round of the outermost loop. -/
namespace Kerb
open Go Go.Abs Go.Sort
theorem xK{α β:Type}{X:Option α}{v:α}{K:α->Option β}{Q:β->Prop}(h:X=Yy v)(hk:∃ y,K v=Yy y/\Q y):∃ y,Option.bind X K=Yy y/\Q y:=by
 rw[h];exact hk
theorem tY{a b:Nat}:∀ (s i:Nat) (d:Array Int),(partialIns ltInt a b s i d).1.size=d.size:=by
 intro s;induction s with
 | zero=>intro i d;rfl
 | succ s ih =>
  intro i d;rw[partialIns_succ];split
  ·rfl
  ·split
   ·rfl
   ·rw[ih];unfold fixUp fixDown;have h1:∀ (c:Prop) [Decidable c] (x:Array Int) (j:Nat),(if c then shiftDown ltInt j x else x).size=x.size:=fun c _ x j=>by
     split
     ·rw[vw]
     ·rfl
    have h2:∀ (c:Prop) [Decidable c] (x:Array Int) (j:Nat),(if c then shiftUp ltInt b j x else x).size=x.size:=fun c _ x j=>by
     split
     ·rw[yt _ _ _ rfl]
     ·rfl
    rw[h2,h1,Kerb.swp_size]
theorem tw{d:Array Int}{a b p:Nat}(h1:a<=p)(h2:p<b)(h3:b<=d.size):a<=(partition ltInt d a b p).1/\(partition ltInt d a b p).1<b/\(partition ltInt d a b p).2.2.size=d.size:=by
 obtain⟨q1,q2,q3,_⟩:=partition_holds ltInt swo_ltInt d a b p h1 h2 h3;exact⟨q1,q2,q3.1⟩
theorem pW{d:Array Int}{a b p:Nat}(h1:a<=p)(h2:p<b)(h3:b<=d.size):a<(partitionEqual ltInt d a b p).1/\(partitionEqual ltInt d a b p).1<=b/\(partitionEqual ltInt d a b p).2.size=d.size:=by
 have hs:=Kerb.swp_size d a p;obtain⟨q1,q2,q3,_⟩:=partEqLoop_spec (lt:=ltInt) a b _ (a+1) (b-1) (swp d a p) (Nat.le_refl _) (by omega) (by omega) (by omega) (by omega) (fun t h4 h5=>by omega) (fun t h4 h5=>by omega);exact⟨q1,q2,q3.1.trans hs⟩
theorem Hw{d:Array Int}{a b:Nat}(h1:a<=b)(h2:b<=d.size):(insertionSort ltInt d a b).size=d.size:=(insertionSort_holds swo_ltInt d a b h1 h2).1.1
theorem Nk{d:Array Int}{a b:Nat}(h1:a<=b)(h2:b<=d.size):(heapSort ltInt d a b).size=d.size:=(heapSort_holds swo_ltInt d a b h1 h2).1.1
theorem Bg{d:Array Int}{a b:Nat}(h1:a<=b)(h2:b<=d.size):(breakPatterns d a b).size=d.size:=(breakPatterns_holds d a b h1 h2).1
theorem Il{d:Array Int}{a b:Nat}(h1:a<=b)(h2:b<=d.size):(reverseRange d a b).size=d.size:=(reverseRange_holds d a b h1 h2).1
def Su(d3:Array Int)(a b l pv:Nat)(wB wP:Bool):Array Int :=
 if a>0 && !ltInt d3[a-1]! d3[pv]! then
  match partitionEqual ltInt d3 a b pv with
  | (mid,d4)=>if _h:a<mid/\mid<=b then pdq ltInt d4 mid b l wB wP else d4
 else
  match partition ltInt d3 a b pv with
  | (mid,ap,d4) =>
   if _h:a<=mid/\mid<b then
    if mid-a<b-mid then
     pdq ltInt (pdq ltInt d4 a mid l Zd Zd) (mid+1) b l (Zq (mid-a>=(b-a) / 8)) ap
    else
     pdq ltInt (pdq ltInt d4 (mid+1) b l Zd Zd) a mid l (Zq (b-mid>=(b-a) / 8)) ap
   else d4
def XK(d2:Array Int)(a b l pv:Nat)(hint:Hint)(wB wP:Bool):Array Int :=
 if (if wB&&wP&&hint = .increasing then partialInsertionSort ltInt d2 a b else(d2,Zj)).2 then(if wB&&wP&&hint = .increasing then partialInsertionSort ltInt d2 a b else(d2,Zj)).1
 else Su (if wB&&wP&&hint = .increasing then partialInsertionSort ltInt d2 a b else(d2,Zj)).1 a b l pv wB wP
def P6(d1:Array Int)(a b l:Nat)(wB wP:Bool):Array Int :=
 XK (if (choosePivot ltInt d1 a b).2 = .decreasing then reverseRange d1 a b else d1) a b l (if (choosePivot ltInt d1 a b).2 = .decreasing then(b-1)-((choosePivot ltInt d1 a b).1-a) else(choosePivot ltInt d1 a b).1) (if (choosePivot ltInt d1 a b).2 = .decreasing then Hint.increasing else(choosePivot ltInt d1 a b).2) wB wP
theorem zm(d:Array Int)(a b l:Nat)(wB wP:Bool):pdq ltInt d a b l wB wP =
  if b-a<=12 then insertionSort ltInt d a b else
  if l=0 then heapSort ltInt d a b else
  P6 (if !wB then breakPatterns d a b else d) a b (if !wB then l-1 else l) wB wP:=by
 rw[pdq];rfl
theorem CS{d3:Array Int}{a b l pv:Nat}{wB wP:Bool}(h1:a<=pv)(h2:pv<b)(h3:b<=d3.size):Su d3 a b l pv wB wP =
  if (Zq (a>0) && !ltInt d3[a-1]! d3[pv]!)=Zd then pdq ltInt (partitionEqual ltInt d3 a b pv).2 (partitionEqual ltInt d3 a b pv).1 b l wB wP
  else if (partition ltInt d3 a b pv).1-a<b-(partition ltInt d3 a b pv).1 then
   pdq ltInt (pdq ltInt (partition ltInt d3 a b pv).2.2 a (partition ltInt d3 a b pv).1 l Zd Zd) ((partition ltInt d3 a b pv).1+1) b l (Zq ((partition ltInt d3 a b pv).1-a>=(b-a) / 8)) (partition ltInt d3 a b pv).2.1
  else pdq ltInt (pdq ltInt (partition ltInt d3 a b pv).2.2 ((partition ltInt d3 a b pv).1+1) b l Zd Zd) a (partition ltInt d3 a b pv).1 l (Zq (b-(partition ltInt d3 a b pv).1>=(b-a) / 8)) (partition ltInt d3 a b pv).2.1:=by
 unfold Su;have e:=pW h1 h2 h3;have p:=tw h1 h2 h3;generalize partitionEqual ltInt d3 a b pv=x at e ⊢;generalize partition ltInt d3 a b pv=y at p ⊢;obtain⟨mid,d4⟩:=x;obtain⟨m,ap,d5⟩:=y;dsimp only at e p ⊢;rw[dif_pos (show a<mid/\mid<=b from⟨e.1,e.2.1⟩),dif_pos (show a<=m/\m<b from⟨p.1,p.2.1⟩)]
theorem vm:∀ (n:Nat) (d:Array Int) (a b l:Nat) (wB wP:Bool),b-a<=n->a<=b->b<=d.size->(pdq ltInt d a b l wB wP).size=d.size:=by
 intro n;induction n with
 | zero =>
  intro d a b l wB wP h1 h2 h3;rw[zm,Qa1 (by omega),Hw h2 h3]
 | succ n ih =>
  intro d a b l wB wP h1 h2 h3;rw[zm];by_cases h12:b-a<=12
  ·rw[Qa1 h12,Hw h2 h3]
  rw[Qa0 h12];by_cases hl:l=0
  ·rw[Qa1 hl,Nk h2 h3]
  rw[Qa0 hl];have s1:(if (!wB)=Zd then breakPatterns d a b else d).size=d.size:=by
   split
   ·exact Bg h2 h3
   ·rfl
  generalize (if (!wB)=Zd then breakPatterns d a b else d)=d1 at s1 ⊢;generalize (if (!wB)=Zd then l-1 else l)=l1;unfold P6;have hc:=choosePivot_holds ltInt d1 a b (by omega);generalize choosePivot ltInt d1 a b=c at hc ⊢;have s2:(if c.2 = .decreasing then reverseRange d1 a b else d1).size=d.size:=by
   split
   ·rw[Il h2 (by omega),s1]
   ·exact s1
  generalize (if c.2 = .decreasing then reverseRange d1 a b else d1)=d2 at s2 ⊢;have hp:a<=(if c.2 = .decreasing then(b-1)-(c.1-a) else c.1)/\(if c.2 = .decreasing then(b-1)-(c.1-a) else c.1)<b:=by
   split<;>omega
  generalize (if c.2 = .decreasing then(b-1)-(c.1-a) else c.1)=pv at hp ⊢;generalize (if c.2 = .decreasing then Hint.increasing else c.2)=hint;unfold XK;have s3:(if (wB&&wP&&Zq (hint = .increasing))=Zd then partialInsertionSort ltInt d2 a b else(d2,Zj)).1.size=d.size:=by
   split
   ·unfold partialInsertionSort;rw[tY,s2]
   ·exact s2
  generalize (if (wB&&wP&&Zq (hint = .increasing))=Zd then partialInsertionSort ltInt d2 a b else(d2,Zj))=pi at s3 ⊢;by_cases hpi:pi.2=Zd
  ·rw[Qa1 hpi];exact s3
  rw[Qa0 hpi,CS hp.1 hp.2 (by omega)];have e:=pW hp.1 hp.2 (show b<=pi.1.size by omega);have p:=tw hp.1 hp.2 (show b<=pi.1.size by omega);generalize partitionEqual ltInt pi.1 a b pv=x at e ⊢;generalize partition ltInt pi.1 a b pv=y at p ⊢;split
  ·rw[ih _ _ _ _ _ _ (by omega) (by omega) (by omega)];omega
  ·have hL:=ih y.2.2 a y.1 l1 Zd Zd (by omega) (by omega) (by omega);have hR:=ih y.2.2 (y.1+1) b l1 Zd Zd (by omega) (by omega) (by omega);split
   ·rw[ih _ _ _ _ _ _ (by omega) (by omega) (by omega)];omega
   ·rw[ih _ _ _ _ _ _ (by omega) (by omega) (by omega)];omega
theorem sA(d:Array Int)(a b l:Nat):QV (back d) (a:Int) (b:Int) (l:Int)=back (pdq ltInt d a b l Zd Zd):=by
 simp only[QV,fq,Zp]
theorem Qu(d:Array Int)(a b:Nat):AJ (back d) (a:Int) (b:Int)=back (insertionSort ltInt d a b):=by
 simp only[AJ,fq,Zp]
theorem Nj(d:Array Int)(a b:Nat):LN (back d) (a:Int) (b:Int)=back (heapSort ltInt d a b):=by
 simp only[LN,fq,Zp]
theorem JL(d:Array Int)(a b:Nat):E9 (back d) (a:Int) (b:Int)=back (breakPatterns d a b):=by
 simp only[E9,fq,Zp]
theorem Q'(d:Array Int)(a b:Nat):TV (back d) (a:Int) (b:Int)=back (reverseRange d a b):=by
 simp only[TV,fq,Zp]
theorem N_(d:Array Int)(a b:Nat):Ib (back d) (a:Int) (b:Int)=choosePivot ltInt d a b:=by
 simp only[Ib,fq,Zp]
theorem H_(d:Array Int)(a b:Nat):yf (back d) (a:Int) (b:Int)=(back (partialInsertionSort ltInt d a b).1,(partialInsertionSort ltInt d a b).2):=by
 simp only[yf,fq,Zp]
theorem Nm(h:Hint):(Hi h==(2:Int))=Zq (h = .decreasing):=by cases h<;>rfl
theorem Nn(h:Hint):(Hi h==(1:Int))=Zq (h = .increasing):=by cases h<;>rfl
def MR(l:List AV)(k:Int):List AV:=vB (l++[.int .u64 k])
def num(l:List AV)(i:Nat):Int:=match l.getD i .undef with | .int _ n=>n | _=>0
def aeJ(l:List AV):Bool:=(List.range (l.length-1)).all fun i=>Zq (num l i<num l (i+1))
theorem Mi{n:Nat}(h:n<=1000000000000):Go.Abs.room n 8=Zd:=by
 simp[Go.Abs.room];omega
theorem all_join{l:List AV}{k:Int}(h:da l=Zd):da (l++[.int .u64 k])=Zd:=by
 simp only[da,List.all_append,Yz] at h ⊢;exact⟨h,rfl⟩
theorem MS(l:List AV)(k:Int):∃ d,MR l k=back d:=⟨_,rfl⟩
theorem O9{l:List AV}{k:Int}(h:da l=Zd):(MR l k).length=l.length+1:=by
 unfold MR vB Go.Sort.sort;rw[bt,vm _ _ _ _ _ _ _ (Nat.le_refl _) (by omega) (Nat.le_refl _)];simp[dp,cO]
theorem K3(d:Array Int):vB (back d)=back (pdq ltInt d 0 d.size (Go.Sort.bitsLen d.size) Zd Zd):=by
 unfold vB Go.Sort.sort;rw[fq]
theorem OC(d:Array Int):QV (back d) (0:Int) (d.size:Int) (Go.Sort.bitsLen d.size:Int)=vB (back d):=by
 rw[K3];exact sA d 0 d.size (Go.Sort.bitsLen d.size)
theorem XH{d:Array Int}(h:(d.size:Int)<=1152921504606846976):Go.Sort.bitsLen d.size<=64:=sP 64 (Nat.lt_of_le_of_lt (m:=1152921504606846976) (by omega) (by decide))
end Kerb
/- Chapters 2 and 6: lifetimes that are granted, the state of a ticket, tickets. -/
namespace Kerb
open Go Go.Abs
def least(n:Int)(l:List Int):Int:=l.foldl pP n
def DV(now want:Int)(ends:List Int):Int×Bool :=
 if !within now 4294967295||decide (want<0) then(0,Zj)
 else if least (now+300*(pP want 255+1)) ends-now<300 then(0,Zj)
 else(pP ((least (now+300*(pP want 255+1)) ends-now) / 300-1) 255,Zd)
def Jc(cH bZ now fJ:Int):Int :=
 if !(within cH 4294967295&&within now 4294967295&&within bZ 255&&within fJ 4294967295) then 104
 else if now+fJ<cH then 33 else if T9 cH bZ+fJ<now then 32 else 0
def jK(k:Int):Int:=bif bW k then lT k else 0
def jg:eU:=⟨false,cX,0,0,0,0,[],[]⟩
def eU.err(t:eU):Int :=
 if !(t.client.valid&&(validName t.service&&dg t.inst)) then 103
 else if jK t.af≠2 then 10
 else if !(within t.address 4294967295&&(within t.bZ 255&&within t.cH 4294967295)) then 104 else 0
def ca(t:eU):rK :=
 if t.err≠0 then⟨[],t.err⟩
 else⟨pad (cT (cT (dI (aL (cond t.little 1 0) 1 Zj) t.client++aL t.address 4 t.little++keyBytes t.af++aL t.bZ 1 Zj++aL t.cH 4 t.little) t.service) t.inst),0⟩
def oc(b:Bytes):eU :=
 let o:=get b 0 1 Zj
 let li:=o.val==1
 let p:=jG b o.next
 let a:=get b p.next 4 li
 let k:=bytes b a.next 8
 let l:=get b k.next 1 Zj
 let i:=get b l.next 4 li
 let s:=text b i.next
 ⟨li,p.val,a.val,(cR k.val).1,l.val,i.val,s.val,(text b s.next).val⟩
def nE(b:Bytes):Rd eU :=
 let o:=dJ b 1 Zj 0 Zj
 let li:=o.val==1
 let p:=dL b o.pos o.bad
 let a:=dJ b 4 li p.pos p.bad
 let k:=dz b 8 a.pos a.bad
 let l:=dJ b 1 Zj k.pos k.bad
 let i:=dJ b 4 li l.pos l.bad
 let s:=nD b i.pos i.bad
 let n:=nD b s.pos s.bad
 ⟨⟨li,p.p,a.val,(cR k.val).1,l.val,i.val,s.val,n.val⟩,n.pos,n.bad⟩
def bV(b:Bytes):Gu eU :=
 if 1<(get b 0 1 Zj).val then⟨jg,7⟩ else eJ jg ca (fun b=>(oc b,Zj)) b
def lh(t:eU)(k:Int):rK:=if (ca t).err≠0 then⟨[],(ca t).err⟩ else je 1 k (ca t).val
def gL(b:Bytes)(k:Int):Gu eU:=if (jS b 1 k).2 then bV (jS b 1 k).1 else⟨jg,31⟩
theorem GS{k:Int}(h:jK k=2):bW k=Zd:=by
 unfold jK at h;cases hk:bW k
 ·rw[hk] at h;simp at h
 ·rfl
theorem ov{t:eU}(h:(ca t).err=0):t.client.valid=Zd/\validName t.service=Zd/\dg t.inst=Zd/\bW t.af=Zd/\(0<=t.address/\t.address<=4294967295)/\(0<=t.bZ/\t.bZ<=255)/\(0<=t.cH/\t.cH<=4294967295) /\
  (ca t).val=pad (aL (cond t.little 1 0) 1 Zj++(t.client.name++0::(t.client.inst++0::(t.client.aC++0::(aL t.address 4 t.little++(keyBytes t.af++(aL t.bZ 1 Zj++(aL t.cH 4 t.little++(t.service++0::(t.inst++[0])))))))))):=by
 have he:t.err=0:=by
  unfold ca at h;split at h
  ·exact h
  ·rename_i hn;simpa using hn
 have hv:(ca t).val=pad (cT (cT (dI (aL (cond t.little 1 0) 1 Zj) t.client++aL t.address 4 t.little++keyBytes t.af++aL t.bZ 1 Zj++aL t.cH 4 t.little) t.service) t.inst):=by
  unfold ca;rw[Qa0 (by simpa using he)]
 unfold eU.err at he;split at he
 ·cases he
 rename_i h1;split at he
 ·cases he
 rename_i h2;split at he
 ·cases he
 rename_i h3;simp only[Bool.not_eq_true,Bool.not_eq_false',Yz,within_iff] at h1 h3;simp only[ne_eq,Decidable.not_not] at h2;refine⟨h1.1,h1.2.1,h1.2.2,GS h2,h3.1,h3.2.1,h3.2.2,?_⟩;rw[hv];simp[cT,dI]
theorem AN{s:Bytes}(h:validName s=Zd):s.length<=39/\(0:UInt8) ∉ s:=by
 simp only[validName,Yz,Qa2] at h;exact⟨h.1.2,AQ h.2⟩
theorem inst_ok{s:Bytes}(h:dg s=Zd):s.length<=39/\(0:UInt8) ∉ s:=by
 simp only[dg,Yz,Qa2] at h;exact⟨h.1,AQ h.2⟩
theorem Av{t:eU}(h0:0<=t.af)(h1:t.af<18446744073709551616)(h:(ca t).err=0):oc (ca t).val=t:=by
 have hi:=ov h;generalize (ca t).val=b at hi;obtain⟨li,⟨cn,ci,cr⟩,address,af,bZ,cH,service,inst⟩:=t;simp only at hi h0 h1;obtain⟨hc,hs,hn,hk,ha,hl,hd,hb⟩:=hi;obtain⟨s1,s2⟩:=AN hs;obtain⟨n1,n2⟩:=inst_ok hn;obtain⟨z,hz,_⟩:=rJ (aL (cond li 1 0) 1 Zj++(cn++0::(ci++0::(cr++0::(aL address 4 li++(keyBytes af++(aL bZ 1 Zj++(aL cH 4 li++(service++0::(inst++[0]))))))))));have a0:At b 0 (aL (cond li 1 0) 1 Zj++(cn++0::(ci++0::(cr++0::(aL address 4 li++(keyBytes af++(aL bZ 1 Zj++(aL cH 4 li++(service++0::(inst++0::z)))))))))):=(At.start b).as (by rw[hb,hz];simp);obtain⟨e1,a1⟩:=a0.mM (by cases li<;>decide) (by cases li<;>decide);obtain⟨q,e2,a2⟩:=At.jG (p:=⟨cn,ci,cr⟩) a1 hc;obtain⟨e3,a3⟩:=a2.m6 ha.1 ha.2;obtain⟨e4,a4⟩:=a3.bytes (n:=8) (by rw[ay];rfl);obtain⟨e5,a5⟩:=a4.mM hl.1 hl.2;obtain⟨e6,a6⟩:=a5.m6 hd.1 hd.2;obtain⟨e7,a7⟩:=a6.text s1 s2;obtain⟨e8,a8⟩:=a7.text n1 n2;have hli:((cond li 1 0:Int)==1)=li:=by cases li<;>rfl
 unfold oc;simp only[e1,hli,e2,e3,e4,e5,e6,e7,e8,fL h0 h1 hk]
theorem Du{t:eU}(h0:0<=t.af)(h1:t.af<18446744073709551616)(h:(ca t).err=0):((nE (ca t).val).val,(nE (ca t).val).bad)=(t,Zj):=by
 have hi:=ov h;generalize (ca t).val=b at hi;obtain⟨li,⟨cn,ci,cr⟩,address,af,bZ,cH,service,inst⟩:=t;simp only at hi h0 h1;obtain⟨hc,hs,hn,hk,ha,hl,hd,hb⟩:=hi;obtain⟨s1,s2⟩:=AN hs;obtain⟨n1,n2⟩:=inst_ok hn;obtain⟨z,hz,_⟩:=rJ (aL (cond li 1 0) 1 Zj++(cn++0::(ci++0::(cr++0::(aL address 4 li++(keyBytes af++(aL bZ 1 Zj++(aL cH 4 li++(service++0::(inst++[0]))))))))));have a0:At b 0 (aL (cond li 1 0) 1 Zj++(cn++0::(ci++0::(cr++0::(aL address 4 li++(keyBytes af++(aL bZ 1 Zj++(aL cH 4 li++(service++0::(inst++0::z)))))))))):=(At.start b).as (by rw[hb,hz];simp);obtain⟨e1,a1⟩:=a0.mM (by cases li<;>decide) (by cases li<;>decide);obtain⟨q,e2,a2⟩:=At.jG (p:=⟨cn,ci,cr⟩) a1 hc;obtain⟨e3,a3⟩:=a2.m6 ha.1 ha.2;obtain⟨e4,a4⟩:=a3.bytes (n:=8) (by rw[ay];rfl);obtain⟨e5,a5⟩:=a4.mM hl.1 hl.2;obtain⟨e6,a6⟩:=a5.m6 hd.1 hd.2;obtain⟨e7,a7⟩:=a6.text s1 s2;obtain⟨e8,a8⟩:=a7.text n1 n2;have hli:((cond li 1 0:Int)==1)=li:=by cases li<;>rfl
 unfold nE;simp only[cJ e1,hli,lC e2,cJ e3,eB e4,cJ e5,cJ e6,sC e7,sC e8,fL h0 h1 hk]
theorem Dx(b:Bytes):0<=(oc b).af/\(oc b).af<18446744073709551616:=dW _
theorem Ig(b:Bytes):0<=(nE b).val.af/\(nE b).val.af<18446744073709551616:=dW _
theorem C9(b:Bytes):eJ jg ca (fun b=>(oc b,Zj)) b=eJ jg ca (fun b=>((nE b).val,(nE b).bad)) b :=
 iD (P:=fun s=>0<=s.af/\s.af<18446744073709551616) (fun _ p h=>by rw[Av p.1 p.2 h]) (fun _ p h=>Du p.1 p.2 h) Dx Ig b
theorem Fo{t:eU}(h:(ca t).err≠0):(ca t).val=[]:=by grind [ca]
theorem ox(t:eU):(ca t).val.length<=224:=by
 by_cases h:(ca t).err=0
 ·obtain⟨hc,hs,hn,hk,ha,hl,hd,hb⟩:=ov h;have l1:=dN hc;have l2:=(AN hs).1;have l3:=(inst_ok hn).1;rw[hb,rz];simp[aw,ay];omega
 ·rw[Fo h];simp
end Kerb
/- Chapter 25: records, parts and messages of version 5, in plain words. -/
namespace Kerb
open Go Go.Abs
structure Ae where
 client:ck
 service:ck
 af:Int
 start:Int
 stop:Int
 addr:Int
structure rM where
 af:Int
 service:ck
 start:Int
 stop:Int
 record:Bytes
structure Ad where
 op:Int
 name:ck
 box:Bytes
def period(a b:Int):Bool:=within a 4294967295&&within b 4294967295&&Zq (a<=b)
def fz(r:Ae):rK :=
 if !(r.client.valid&&r.service.valid) then⟨[],103⟩
 else if jK r.af≠2 then⟨[],10⟩
 else if !(period r.start r.stop&&within r.addr 4294967295) then⟨[],104⟩
 else⟨pad (dI (dI [] r.client) r.service++keyBytes r.af++aL r.start 4 Zj++aL r.stop 4 Zj++aL r.addr 4 Zj),0⟩
def eK(p:rM):rK :=
 if !bW p.af then⟨[],10⟩
 else if !p.service.valid then⟨[],103⟩
 else if !period p.start p.stop then⟨[],104⟩
 else if 300<p.record.length then⟨[],105⟩
 else⟨pad (gM (dI (keyBytes p.af) p.service++aL p.start 4 Zj++aL p.stop 4 Zj) p.record),0⟩
def eY(m:Ad):rK :=
 if !tc m.op then⟨[],40⟩
 else if !m.name.valid then⟨[],103⟩
 else if 1012<m.box.length then⟨[],105⟩
 else⟨gM (dI (header 10 Zj++aL m.op 1 Zj) m.name) m.box,0⟩
def FU:Ae:=⟨cX,cX,0,0,0,0⟩
def AP:rM:=⟨0,cX,0,0,[]⟩
def wZ:Ad:=⟨0,cX,[]⟩
def C'(b:Bytes)(k:Int)(pos:Int)(bad:Bool):Rd Int:=⟨(get b pos k Zj).val,cond ((get b pos k Zj).err==0) (get b pos k Zj).next pos,bad || !((get b pos k Zj).err==0)⟩
def uT(b:Bytes)(n:Int)(pos:Int)(bad:Bool):Rd Bytes:=⟨(bytes b pos n).val,cond ((bytes b pos n).err==0) (bytes b pos n).next pos,bad || !((bytes b pos n).err==0)⟩
def DT(b:Bytes)(pos:Int)(bad:Bool):Rd ck:=⟨(jG b pos).val,cond ((jG b pos).err==0) (jG b pos).next pos,bad || !((jG b pos).err==0)⟩
def M8(b:Bytes)(pos:Int)(bad:Bool):Rd Int:=⟨(cR (uT b 8 pos bad).val).1,(uT b 8 pos bad).pos,(uT b 8 pos bad).bad || !(cR (uT b 8 pos bad).val).2⟩
theorem rj{b:Bytes}{k pos n nx:Int}(h:get b pos k Zj=⟨n,nx,0⟩):C' b k pos Zj=⟨n,nx,Zj⟩:=by unfold C';rw[h];rfl
theorem yQ{b s:Bytes}{pos n nx:Int}(h:bytes b pos n=⟨s,nx,0⟩):uT b n pos Zj=⟨s,nx,Zj⟩:=by unfold uT;rw[h];rfl
theorem xL{b:Bytes}{p:ck}{pos nx:Int}(h:jG b pos=⟨p,nx,0⟩):DT b pos Zj=⟨p,nx,Zj⟩:=by unfold DT;rw[h];rfl
theorem LJ{b:Bytes}{k pos nx:Int}(h:bytes b pos 8=⟨keyBytes k,nx,0⟩)(h0:0<=k)(h1:k<18446744073709551616)(hv:bW k=Zd):M8 b pos Zj=⟨k,nx,Zj⟩:=by
 unfold M8;rw[yQ h];simp only[fL h0 h1 hv];rfl
theorem AE(b:Bytes)(pos:Int)(bad:Bool):0<=(M8 b pos bad).val/\(M8 b pos bad).val<18446744073709551616:=dW _
def XU(b:Bytes):Rd Ae :=
 let c:=DT b 0 Zj
 let s:=DT b c.pos c.bad
 let k:=M8 b s.pos s.bad
 let t:=C' b 4 k.pos k.bad
 let e:=C' b 4 t.pos t.bad
 let a:=C' b 4 e.pos e.bad
 ⟨⟨c.val,s.val,k.val,t.val,e.val,a.val⟩,a.pos,a.bad⟩
def QU(b:Bytes):Rd rM :=
 let k:=M8 b 0 Zj
 let s:=DT b k.pos k.bad
 let t:=C' b 4 s.pos s.bad
 let e:=C' b 4 t.pos t.bad
 let m:=C' b 2 e.pos e.bad
 let x:=uT b m.val m.pos m.bad
 ⟨⟨k.val,s.val,t.val,e.val,x.val⟩,x.pos,x.bad⟩
def XT(b:Bytes):Rd Ad :=
 let o:=C' b 1 2 Zj
 let n:=DT b o.pos o.bad
 let m:=C' b 2 n.pos n.bad
 let x:=uT b m.val m.pos m.bad
 ⟨⟨o.val,n.val,x.val⟩,x.pos,x.bad⟩
def Cy(b:Bytes):Ae×Bool:=((XU b).val,(XU b).bad)
def zw(b:Bytes):rM×Bool:=((QU b).val,(QU b).bad)
def yn(b:Bytes):Ad×Bool:=((XT b).val,(XT b).bad)
def cW(b:Bytes):Gu Ae:=eJ FU fz Cy b
def cU(b:Bytes):Gu rM:=eJ AP eK zw b
def ez(b:Bytes):Gu Ad :=
 if (bh b [10]).2≠0 then⟨wZ,(bh b [10]).2⟩ else eJ wZ eY yn b
def X0(b:Bytes):Rd Ae :=
 let c:=dL b 0 Zj
 let s:=dL b c.pos c.bad
 let k:=dz b 8 s.pos s.bad
 let t:=dJ b 4 Zj k.pos k.bad
 let e:=dJ b 4 Zj t.pos t.bad
 let a:=dJ b 4 Zj e.pos e.bad
 ⟨⟨c.p,s.p,(cR k.val).1,t.val,e.val,a.val⟩,a.pos,a.bad⟩
def Q4(b:Bytes):Rd rM :=
 let k:=dz b 8 0 Zj
 let s:=dL b k.pos k.bad
 let t:=dJ b 4 Zj s.pos s.bad
 let e:=dJ b 4 Zj t.pos t.bad
 let m:=dJ b 2 Zj e.pos e.bad
 let x:=dz b m.val m.pos m.bad
 ⟨⟨(cR k.val).1,s.p,t.val,e.val,x.val⟩,x.pos,x.bad⟩
def XZ(b:Bytes):Rd Ad :=
 let o:=dJ b 1 Zj 2 Zj
 let n:=dL b o.pos o.bad
 let m:=dJ b 2 Zj n.pos n.bad
 let x:=dz b m.val m.pos m.bad
 ⟨⟨o.val,n.p,x.val⟩,x.pos,x.bad⟩
def F6(b:Bytes):Ae×Bool:=((X0 b).val,(X0 b).bad)
def AX(b:Bytes):rM×Bool:=((Q4 b).val,(Q4 b).bad)
def F5(b:Bytes):Ad×Bool:=((XZ b).val,(XZ b).bad)
theorem Ch{a b:Int}:period a b=Zd↔(0<=a/\a<=4294967295)/\(0<=b/\b<=4294967295)/\a<=b:=by simp[period,within_iff,and_assoc]
theorem GU{k:Int}(h:jK k=2):bW k=Zd:=by
 unfold jK at h;cases hk:bW k
 ·rw[hk] at h;cases h
 ·rfl
theorem zI{r:Ae}(h:(fz r).err=0):r.client.valid=Zd/\r.service.valid=Zd/\bW r.af=Zd/\(0<=r.start/\r.start<=4294967295)/\(0<=r.stop/\r.stop<=4294967295)/\(0<=r.addr/\r.addr<=4294967295) /\
  ∃ z,(fz r).val=r.client.name++0::(r.client.inst++0::(r.client.aC++0::(r.service.name++0::(r.service.inst++0::(r.service.aC++0::(keyBytes r.af++(aL r.start 4 Zj++(aL r.stop 4 Zj++(aL r.addr 4 Zj++z)))))))))/\z.length<=7:=by
 unfold fz at h ⊢;split at h
 ·cases h
 rename_i g0;rw[Qa0 g0];split at h
 ·cases h
 rename_i g1;rw[Qa0 g1];split at h
 ·cases h
 rename_i g2;rw[Qa0 g2];simp only[Yv,Yu,Yz,Ch,within_iff] at g0 g2;obtain⟨z,hz,hl⟩:=rJ (dI (dI [] r.client) r.service++keyBytes r.af++aL r.start 4 Zj++aL r.stop 4 Zj++aL r.addr 4 Zj);refine⟨g0.1,g0.2,GU (by omega),g2.1.1,g2.1.2.1,g2.2,z,?_,hl⟩;rw[hz];simp[dI,cT]
theorem xH{p:rM}(h:(eK p).err=0):bW p.af=Zd/\p.service.valid=Zd/\(0<=p.start/\p.start<=4294967295)/\(0<=p.stop/\p.stop<=4294967295)/\p.record.length<=300 /\
  ∃ z,(eK p).val=keyBytes p.af++(p.service.name++0::(p.service.inst++0::(p.service.aC++0::(aL p.start 4 Zj++(aL p.stop 4 Zj++(aL p.record.length 2 Zj++(p.record++z)))))))/\z.length<=7:=by
 unfold eK at h ⊢;split at h
 ·cases h
 rename_i g0;rw[Qa0 g0];split at h
 ·cases h
 rename_i g1;rw[Qa0 g1];split at h
 ·cases h
 rename_i g2;rw[Qa0 g2];split at h
 ·cases h
 rename_i g3;rw[Qa0 g3];simp only[Yv,Yu,Ch] at g0 g1 g2;obtain⟨z,hz,hl⟩:=rJ (gM (dI (keyBytes p.af) p.service++aL p.start 4 Zj++aL p.stop 4 Zj) p.record);refine⟨g0,g1,g2.1,g2.2.1,by omega,z,?_,hl⟩;rw[hz];simp[dI,cT,gM]
theorem zH{m:Ad}(h:(eY m).err=0):(1<=m.op/\m.op<=3)/\m.name.valid=Zd/\m.box.length<=1012 /\
  (eY m).val=header 10 Zj++(aL m.op 1 Zj++(m.name.name++0::(m.name.inst++0::(m.name.aC++0::(aL m.box.length 2 Zj++(m.box++[])))))):=by
 unfold eY at h ⊢;split at h
 ·cases h
 rename_i g0;rw[Qa0 g0];split at h
 ·cases h
 rename_i g1;rw[Qa0 g1];split at h
 ·cases h
 rename_i g2;rw[Qa0 g2];simp only[Yv,Yu,BO] at g0 g1;exact⟨by omega,g1,by omega,by simp[dI,cT,gM]⟩
theorem Eu{r:Ae}(h0:0<=r.af)(h1:r.af<18446744073709551616)(h:(fz r).err=0):Cy (fz r).val=(r,Zj)/\F6 (fz r).val=(r,Zj):=by
 obtain⟨v1,v2,hk,hs,he,ha,z,hv,_⟩:=zI h;generalize (fz r).val=b at hv;obtain⟨⟨cn,ci,cr⟩,⟨sn,si,sr⟩,af,start,stop,addr⟩:=r;simp only at h0 h1 hk hs he ha hv;have a0:At b 0 (cn++_):=(At.start b).as hv;obtain⟨q,e1,a1⟩:=At.jG (p:=⟨cn,ci,cr⟩) a0 v1;obtain⟨q2,e2,a2⟩:=At.jG (p:=⟨sn,si,sr⟩) a1 v2;obtain⟨e3,a3⟩:=a2.bytes (n:=8) (by rw[ay];rfl);obtain⟨e4,a4⟩:=a3.m6 hs.1 hs.2;obtain⟨e5,a5⟩:=a4.m6 he.1 he.2;obtain⟨e6,a6⟩:=a5.m6 ha.1 ha.2;constructor
 ·unfold Cy XU;simp only[xL e1,xL e2,LJ e3 h0 h1 hk,rj e4,rj e5,rj e6]
 ·unfold F6 X0;simp only[lC e1,lC e2,eB e3,fL h0 h1 hk,cJ e4,cJ e5,cJ e6]
theorem Ce{p:rM}(h0:0<=p.af)(h1:p.af<18446744073709551616)(h:(eK p).err=0):zw (eK p).val=(p,Zj)/\AX (eK p).val=(p,Zj):=by
 obtain⟨hk,v1,hs,he,hr,z,hv,_⟩:=xH h;generalize (eK p).val=b at hv;obtain⟨af,⟨sn,si,sr⟩,start,stop,record⟩:=p;simp only at h0 h1 hk hs he hr hv;have a0:At b 0 (keyBytes af++_):=(At.start b).as hv;obtain⟨e1,a1⟩:=a0.bytes (n:=8) (by rw[ay];rfl);obtain⟨q,e2,a2⟩:=At.jG (p:=⟨sn,si,sr⟩) a1 v1;obtain⟨e3,a3⟩:=a2.m6 hs.1 hs.2;obtain⟨e4,a4⟩:=a3.m6 he.1 he.2;obtain⟨e5,a5⟩:=a4.G9 (by omega) (by omega);obtain⟨e6,a6⟩:=a5.bytes rfl;constructor
 ·unfold zw QU;simp only[LJ e1 h0 h1 hk,xL e2,rj e3,rj e4,rj e5,yQ e6]
 ·unfold AX Q4;simp only[eB e1,fL h0 h1 hk,lC e2,cJ e3,cJ e4,cJ e5,eB e6]
theorem Eg{m:Ad}(h:(eY m).err=0):yn (eY m).val=(m,Zj)/\F5 (eY m).val=(m,Zj):=by
 obtain⟨ho,v1,hb,hv⟩:=zH h;generalize (eY m).val=b at hv;obtain⟨op,⟨un,ui,ur⟩,box⟩:=m;simp only at ho hb hv;have a0:At b 2 _:=⟨header 10 Zj,hv,by decide⟩;obtain⟨e1,a1⟩:=a0.mM (by omega) (by omega);obtain⟨q,e2,a2⟩:=At.jG (p:=⟨un,ui,ur⟩) a1 v1;obtain⟨e3,a3⟩:=a2.G9 (by omega) (by omega);obtain⟨e4,a4⟩:=a3.bytes rfl;constructor
 ·unfold yn XT;simp only[rj e1,xL e2,rj e3,yQ e4]
 ·unfold F5 XZ;simp only[cJ e1,lC e2,cJ e3,eB e4]
theorem GZ(b:Bytes):cW b=eJ FU fz F6 b :=
 iD (P:=fun s=>0<=s.af/\s.af<18446744073709551616) (fun _ p h=>(Eu p.1 p.2 h).1) (fun _ p h=>(Eu p.1 p.2 h).2) (fun _=>AE _ _ _) (fun _=>dW _) b
theorem Fg(b:Bytes):cU b=eJ AP eK AX b :=
 iD (P:=fun s=>0<=s.af/\s.af<18446744073709551616) (fun _ p h=>(Ce p.1 p.2 h).1) (fun _ p h=>(Ce p.1 p.2 h).2) (fun _=>AE _ _ _) (fun _=>dW _) b
theorem GY(b:Bytes):eJ wZ eY yn b=eJ wZ eY F5 b :=
 iD (P:=fun _=>True) (fun _ _ h=>(Eg h).1) (fun _ _ h=>(Eg h).2) (fun _=>trivial) (fun _=>trivial) b
end Kerb
/- Chapters 12 and 14: the principals of a realm, keys between realms. -/
namespace Kerb
open Go Go.Abs
structure hJ where
 name:Bytes
 inst:Bytes
 key:Int
 bI:Int
 cD:Int
 ns:Int
 attr:Int
 Br:Int
 La:Int
def noEntry:hJ:=⟨[],[],0,0,0,0,0,0,0⟩
def hJ.av(e:hJ):AV := .agg [.str e.name,.str e.inst,.int .u64 e.key,.int .i64 e.bI,.int .i64 e.cD,.int .i64 e.ns,.int .i64 e.attr,.int .i64 e.Br,.int .i64 e.La]
def pq(n:Int):Bool:=Zq (-9223372036854775808<=n)&&Zq (n<=9223372036854775807)
def D4(n:Int):Bool:=Zq (0<=n)&&Zq (n<18446744073709551616)
def Tz:AV->Bool
 | .agg [.str n,.str i,.int .u64 k,.int .i64 v,.int .i64 x,.int .i64 m,.int .i64 a,.int .i64 f,.int .i64 t] =>
  Zq (n.length<=9223372036854775807)&&Zq (i.length<=9223372036854775807)&&D4 k&&pq v&&pq x&&pq m&&pq a&&pq f&&pq t
 | _=>Zj
def hJ.ok(e:hJ):Prop:=e.name.length<=9223372036854775807/\e.inst.length<=9223372036854775807/\D4 e.key=Zd/\pq e.bI=Zd/\pq e.cD=Zd/\pq e.ns=Zd/\pq e.attr=Zd/\pq e.Br=Zd/\pq e.La=Zd
def hJ.err(e:hJ):Int :=
 if !(validName e.name&&dg e.inst) then 103
 else if e.key≠0/\bW e.key=Zj then 10
 else if !(within e.bI 255&&(within e.cD 4294967295&&within e.La 4294967295)) then 104
 else if !(within e.ns 255&&(within e.attr 3&&within e.Br 20)) then 104 else 0
def hJ.less(a b:hJ):Bool:=Op.bytesLess a.name b.name||(a.name==b.name&&Op.bytesLess a.inst b.inst)
def Bp:Option hJ->List hJ->Int
 | _,[]=>0
 | p,e::r=>if e.err≠0 then e.err else if (match p with | some q=>e.less q | none=>Zj) then 110 else Bp (Yy e) r
structure Db where
 aC:Bytes
 entries:List hJ
def hJ.s6(a b:hJ):Bool:=a.name==b.name&&(a.inst==b.inst&&(a.key==b.key&&(a.bI==b.bI&&(a.cD==b.cD&&(a.ns==b.ns&&(a.attr==b.attr&&(a.Br==b.Br&&a.La==b.La)))))))
def Is:List hJ->List hJ->Bool
 | [],[]=>Zd
 | a::l,b::r=>a.s6 b&&Is l r
 | _,_=>Zj
def Db.same(a b:Db):Bool:=a.aC==b.aC&&Is a.entries b.entries
theorem hJ.G4(a:hJ):a.s6 a=Zd:=by simp[hJ.s6]
def Db.err(d:Db):Int:=if !fD d.aC then 103 else if 60<d.entries.length then 106 else Bp none d.entries
def hJ.named(n i:Bytes)(e:hJ):Bool:=e.name==n&&e.inst==i
def jt(l:List hJ)(n i:Bytes):Int×Int :=
 if l.countP (hJ.named n i)=0 then(0,8) else if 1<l.countP (hJ.named n i) then(0,9) else((l.findIdx (hJ.named n i):Int),0)
def aap(a b:Int):Int:=Zy .i64 ((BitVec.ofInt 64 a &&& BitVec.ofInt 64 b).toNat:Int)
def SD(d:Db)(n i:Bytes)(now bit expired VY:Int):Int×Int :=
 if (jt d.entries n i).2≠0 then(0,(jt d.entries n i).2)
 else if bW (d.entries.getD (jt d.entries n i).1.toNat noEntry).key=Zj then(0,10)
 else if (d.entries.getD (jt d.entries n i).1.toNat noEntry).cD≠0/\(d.entries.getD (jt d.entries n i).1.toNat noEntry).cD<=now then(0,expired)
 else if aap (d.entries.getD (jt d.entries n i).1.toNat noEntry).attr bit≠0 then(0,VY)
 else((jt d.entries n i).1,0)
def rR(d:Db)(n i:Bytes)(now:Int):Int×Int:=SD d n i now 1 1 5
def og(d:Db)(n i:Bytes)(now:Int):Int×Int:=SD d n i now 2 2 6
structure lG where
 source:Bytes
 target:Bytes
 bI:Int
 key:Int
def pQ:lG:=⟨[],[],0,0⟩
def lG.av(c:lG):AV := .agg [.str c.source,.str c.target,.int .i64 c.bI,.int .u64 c.key]
def Fe(l:List lG)(a b:Bytes):Nat->Option Nat
 | 0=>none
 | i+1=>cond ((l.getD i pQ).source==a&&((l.getD i pQ).target==b&&(match Fe l a b i with | some j=>Zq ((l.getD j pQ).bI<(l.getD i pQ).bI) | none=>Zd))) (Yy i) (Fe l a b i)
def yR(l:List lG)(a b:Bytes):Int×Bool:=match Fe l a b l.length with | some i=>((i:Int),Zd) | none=>(0,Zj)
end Kerb
/- Chapter 24: clients of kaservers, in plain words. -/
namespace Kerb
open Go Go.Abs
structure O3 where
 op:Int
 time:Int
 start:Int
 stop:Int
 service:ck
 af:Int
 new:Int
structure aey where
 w:O3
 msg:Bytes
 err:Int
structure aiJ where
 c:Client
 w:O3
 MZ:h_
 err:Int
structure aez where
 op:UInt8
 label:UInt8
 time:UInt8
 service:UInt8
 key:UInt8
 code:UInt8
 start:Int
 stop:Int
 how:Int
end Kerb
/- Chapters 17 and 23: tickets that are granted, the servers of AFS. -/
namespace Kerb
open Go Go.Abs
def qF:Bytes:=[107,114,98,116,103,116]
structure Svc where
 key:Int
 bI:Int
 bZ:Int
 cD:Int
 err:Int
def yz(d:Db)(dv:List lG)(n i:Bytes)(now:Int):Svc :=
 if n==qF&&(fD i && !(i==d.aC)) then
  (if (yR dv d.aC i).2 then⟨(dv.getD (yR dv d.aC i).1.toNat pQ).key,(dv.getD (yR dv d.aC i).1.toNat pQ).bI,255,0,0⟩ else⟨0,0,0,0,8⟩)
 else if (og d n i now).2≠0 then⟨0,0,0,0,(og d n i now).2⟩
 else⟨(d.entries.getD (og d n i now).1.toNat noEntry).key,(d.entries.getD (og d n i now).1.toNat noEntry).bI,(d.entries.getD (og d n i now).1.toNat noEntry).ns,(d.entries.getD (og d n i now).1.toNat noEntry).cD,0⟩
structure zD where
 kind:Int
 server:ck
 client:ck
 service:ck
 af:Int
 nF:Int
 pN:Int
 text:Bytes
 cH:Int
 stop:Int
def nu:zD:=⟨0,cX,cX,cX,0,0,0,[],0,0⟩
def zD.cs(x:zD):List AV:=[.int .i64 x.kind,.str x.server.name,.str x.server.inst,.str x.server.aC,.str x.client.name,.str x.client.inst,.str x.client.aC,.str x.service.name,.str x.service.inst,.str x.service.aC,.int .u64 x.af,.int .u64 x.nF,.int .u64 x.pN,.bs x.text,.int .i64 x.cH,.int .i64 x.stop]
def zD.same(a b:zD):Bool:=a.kind==b.kind&&(a.server.s6 b.server&&(a.client.s6 b.client&&(a.service.s6 b.service&&(a.af==b.af&&(a.nF==b.nF&&(a.pN==b.pN&&(a.text==b.text&&(a.cH==b.cH&&a.stop==b.stop))))))))
structure SQ where
 hX:zD
 part:fY
 err:Int
def rX(little:Bool)(client service:ck)(address now bZ af:Int):eU:=⟨little,client,address,af,bZ,now,service.name,service.inst⟩
def rm(aC:Bytes)(client service:ck)(address:Int)(little:Bool)(now bZ af nF target bI:Int):SQ :=
 if (lh (rX little client service address now bZ af) target).err≠0 then⟨nu,rH,(lh (rX little client service address now bZ af) target).err⟩
 else if (bO ⟨af,service,bZ,bI,(lh (rX little client service address now bZ af) target).val,now⟩ little).err≠0 then
  ⟨nu,rH,(bO ⟨af,service,bZ,bI,(lh (rX little client service address now bZ af) target).val,now⟩ little).err⟩
 else⟨⟨0,YW aC aC,client,service,af,nF,0,(lh (rX little client service address now bZ af) target).val,now,T9 now bZ⟩,⟨af,service,bZ,bI,(lh (rX little client service address now bZ af) target).val,now⟩,0⟩
def refuse(client:ck)(code now:Int)(little:Bool):Bytes:=(mz ⟨little,client,now,code,message code⟩).val
structure ZG where
 db:Db
 answer:Bytes
 hX:zD
 ok:Bool
def iF(d:Db)(i:Int):hJ:=d.entries.getD i.toNat noEntry
theorem HQ(kd k:Int)(b:Bytes):(je kd k b).val.length<=12+b.length:=by grind [ay,aw,je]
def gE.bd(s:gE):Prop:=(0<=s.time/\s.time<=4294967295)/\(0<=s.stop/\s.stop<=4294967295)/\0<=s.new/\s.new<18446744073709551616
def eU.bd(t:eU):Prop:=t.client.name.length<=40/\t.client.inst.length<=40/\t.client.aC.length<=40/\D4 t.af=Zd
def Db.ok(d:Db):Prop:=∀ e∈d.entries,e.ok
def eG.bd(r:eG):Prop:=(r.user.name.length<=40/\r.user.inst.length<=40/\r.user.aC.length<=40/\r.aC.length<=40/\r.service.length<=40/\r.inst.length<=40)/\tc r.op=Zd/\r.aE.length<=255/\r.box.length<=1012
end Kerb
/- Chapters 7, 10, 13, 16, 18: what is decoded, keys of services, replay caches, services that verify. -/
namespace Kerb
open Go Go.Abs
def rG:qk:=⟨cX,0,0,0⟩
def ym(b:Bytes)(li:Bool):qk :=
 let p:=jG b 1
 let c:=get b p.next 4 li
 let t:=get b c.next 1 Zj
 ⟨p.val,c.val,t.val,(get b t.next 4 li).val⟩
def wN(b:Bytes)(li:Bool):Gu qk:=eJ rG (fun a=>eM a li) (fun b=>(ym b li,Zj)) b
def oZ(b:Bytes)(li:Bool)(k:Int):Gu qk :=
 if (jS b 2 k).2=Zj then⟨rG,31⟩
 else if (wN (jS b 2 k).1 li).err≠0 then⟨rG,31⟩ else⟨(wN (jS b 2 k).1 li).val,0⟩
theorem SZ{a:qk}{li:Bool}(h:(eM a li).err=0):∃ z:Bytes,(eM a li).val=aL (cond li 1 0) 1 Zj++(a.client.name++0::(a.client.inst++0::(a.client.aC++0::(aL a.c9 4 li++(aL a.tick 1 Zj++(aL a.time 4 li++z)))))) /\
  a.client.valid=Zd/\(0<=a.c9/\a.c9<=4294967295)/\(0<=a.tick/\a.tick<=199)/\0<=a.time/\a.time<=4294967295:=by
 unfold eM at h ⊢;by_cases h1:a.check=0;case neg=>rw[Qa1 h1] at h;exact absurd h h1
 rw[Qa0 (by simpa using h1)];unfold qk.check at h1;split at h1
 ·cases h1
 rename_i hv;split at h1
 ·cases h1
 rename_i hw;simp only[Yv,Yu,Yz,within_iff] at hv hw;refine⟨_,by unfold pad dI cT;simp only[List.append_assoc,List.singleton_append,List.cons_append,List.nil_append];rfl,hv,hw.1.1,hw.1.2,hw.2⟩
theorem Dv{a:qk}{li:Bool}(h:(eM a li).err=0):ym (eM a li).val li=a:=by
 obtain⟨z,hz,hv,⟨a0,a1⟩,⟨b0,b1⟩,c0,c1⟩:=SZ h;have p0:=(At.start (eM a li).val).as hz;have p1:=p0.skip;rw[aw] at p1;obtain⟨q,e0,p2⟩:=p1.jG hv;obtain⟨e1,p3⟩:=p2.m6 a0 a1;obtain⟨e2,p4⟩:=p3.mM b0 (by omega);obtain⟨e3,_⟩:=p4.m6 c0 c1;unfold ym;have e0':jG (eM a li).val 1=⟨a.client,q,0⟩:=e0;simp only[e0',e1,e2,e3]
theorem Aj{a:qk}{li:Bool}(h:(eM a li).err=0):wN (eM a li).val li=⟨a,0⟩ :=
 Bk (no:=rG) (enc:=fun a=>eM a li) (rd:=fun b=>(ym b li,Zj)) (by simp only[Dv h]) h
structure ZE where
 val:df
 next:Int
def vn(b:Bytes):ZE :=
 let k:=get b 2 1 Zj
 let s:=text b k.next
 let n:=get b s.next 1 Zj
 let m:=get b n.next 1 Zj
 let t:=bytes b m.next n.val
 let a:=bytes b t.next m.val
 ⟨⟨(bX b).little,(bX b).kind==4,k.val,s.val,t.val,a.val⟩,a.next⟩
def F4(b:Bytes)(li XL:Bool):Rd df :=
 let k:=dJ b 1 Zj 2 Zj
 let s:=nD b k.pos k.bad
 let n:=dJ b 1 Zj s.pos s.bad
 let m:=dJ b 1 Zj n.pos n.bad
 let t:=dz b n.val m.pos m.bad
 let a:=dz b m.val t.pos t.bad
 ⟨⟨li,XL,k.val,s.val,t.val,a.val⟩,a.pos,a.bad⟩
def eP(b:Bytes):Gu df :=
 if (bh b [3,4]).2≠0 then⟨tn,(bh b [3,4]).2⟩ else eJ tn bD (fun b=>((vn b).val,Zj)) b
theorem xv{r:df}(h:(bD r).err=0):(bD r).val=header (cond r.dx 4 3) r.little++(aL r.bI 1 Zj++(r.aC++0::(aL r.aE.length 1 Zj++(aL r.eS.length 1 Zj++(r.aE++(r.eS++[])))))) /\
  (r.aC.length<=39/\(0:UInt8) ∉ r.aC)/\(0<=r.bI/\r.bI<=255)/\r.aE.length<=255/\r.eS.length<=255:=by
 unfold bD at h ⊢;split at h
 ·cases h
 rename_i h1;rw[Qa0 h1];split at h
 ·cases h
 rename_i h2;rw[Qa0 h2];split at h
 ·cases h
 rename_i h3;rw[Qa0 h3];simp only[Yv,Yu,within_iff] at h1 h2;refine⟨by unfold cT;simp only[List.append_assoc,List.singleton_append,List.cons_append,List.nil_append,List.append_nil],?_,h2,by omega,by omega⟩;simp only[fD,Yz] at h1;exact inst_ok' h1.2 where
 inst_ok' {s:Bytes} (h:dg s=Zd):s.length<=39/\(0:UInt8) ∉ s:=by
  simp only[dg,Yz,Qa2] at h;exact⟨h.1,fun hm=>by
   have:=h.2;simp only[iy,List.all_eq_true] at this;exact absurd (this 0 hm) (by decide)⟩
theorem AA{r:df}(z:Bytes):bX (header (cond r.dx 4 3) r.little++z)=⟨cond r.dx 4 3,r.little,0⟩:=by
 cases r.dx<;>exact zL (by decide) (by decide) _ _
theorem Lq{r:df}(h:(bD r).err=0):∃ q1 q2 q3 q4 q5 q6:Int,get (bD r).val 2 1 Zj=⟨r.bI,q1,0⟩/\text (bD r).val q1=⟨r.aC,q2,0⟩/\get (bD r).val q2 1 Zj=⟨r.aE.length,q3,0⟩/\get (bD r).val q3 1 Zj=⟨r.eS.length,q4,0⟩ /\
  bytes (bD r).val q4 r.aE.length=⟨r.aE,q5,0⟩/\bytes (bD r).val q5 r.eS.length=⟨r.eS,q6,0⟩:=by
 obtain⟨hz,⟨n0,n1⟩,⟨a0,a1⟩,t1,u1⟩:=xv h;have p0:=(At.start (bD r).val).as hz;have p1:=p0.skip;rw[show(header (cond r.dx 4 3) r.little).length=2 by cases r.dx<;>cases r.little<;>rfl] at p1;obtain⟨e1,p2⟩:=p1.mM a0 a1;obtain⟨e2,p3⟩:=p2.text n0 n1;obtain⟨e3,p4⟩:=p3.mM (by omega) (by omega);obtain⟨e4,p5⟩:=p4.mM (by omega) (by omega);obtain⟨e5,p6⟩:=p5.bytes (n:=r.aE.length) rfl;obtain⟨e6,_⟩:=p6.bytes (n:=r.eS.length) rfl;exact⟨_,_,_,_,_,_,e1,e2,e3,e4,e5,e6⟩
theorem zY{r:df}(h:(bD r).err=0):(vn (bD r).val).val=r:=by
 obtain⟨q1,q2,q3,q4,q5,q6,e1,e2,e3,e4,e5,e6⟩:=Lq h;have hh:bX (bD r).val=⟨cond r.dx 4 3,r.little,0⟩:=by rw[(xv h).1];exact AA _
 unfold vn;simp only[e1,e2,e3,e4,e5,e6,hh];have:((cond r.dx 4 3:Int)==4)=r.dx:=by cases r.dx<;>rfl
 rw[this]
theorem Es{r:df}(h:(bD r).err=0):(F4 (bD r).val (bX (bD r).val).little ((bX (bD r).val).kind==4)).val=r/\(F4 (bD r).val (bX (bD r).val).little ((bX (bD r).val).kind==4)).bad=Zj:=by
 obtain⟨q1,q2,q3,q4,q5,q6,e1,e2,e3,e4,e5,e6⟩:=Lq h;have hh:bX (bD r).val=⟨cond r.dx 4 3,r.little,0⟩:=by rw[(xv h).1];exact AA _
 have:((cond r.dx 4 3:Int)==4)=r.dx:=by cases r.dx<;>rfl
 unfold F4 dJ nD dz;simp[e1,e2,e3,e4,e5,e6,hh,this]
theorem M2(b:Bytes):eJ tn bD (fun b=>((vn b).val,Zj)) b=eJ tn bD (fun b=>((F4 b (bX b).little ((bX b).kind==4)).val,(F4 b (bX b).little ((bX b).kind==4)).bad)) b :=
 iD (P:=fun _=>True) (fun _ _ h=>by simp only[zY h]) (fun r _ h=>Prod.ext (Es h).1 (Es h).2) (fun _=>trivial) (fun _=>trivial) b
theorem Dg{b:Bytes}{l:List Int}(h:(bh b l).2=0):(bh b l).1=(bX b).little:=by grind [bh]
theorem C_{r:df}(h:(bD r).err=0):eP (bD r).val=⟨r,0⟩:=by
 have hh:bX (bD r).val=⟨cond r.dx 4 3,r.little,0⟩:=by rw[(xv h).1];exact AA _
 have hi:(bh (bD r).val [3,4]).2=0:=by unfold bh;rw[hh];cases r.dx<;>rfl
 unfold eP;rw[Qa0 (by simpa using hi)];exact Bk (no:=tn) (enc:=bD) (rd:=fun b=>((vn b).val,Zj)) (by simp only[zY h]) h
structure oI where
 service:ck
 bI:Int
 key:Int
def XO:oI:=⟨cX,0,0⟩
def oI.av(c:oI):AV := .agg [.str c.service.name,.str c.service.inst,.str c.service.aC,.int .i64 c.bI,.int .u64 c.key]
def oI.ok(c:oI):Prop:=c.service.name.length<=9223372036854775807/\c.service.inst.length<=9223372036854775807/\c.service.aC.length<=9223372036854775807/\pq c.bI=Zd/\D4 c.key=Zd
def oI.s6(a b:oI):Bool:=a.service.name==b.service.name&&(a.service.inst==b.service.inst&&(a.service.aC==b.service.aC&&(a.bI==b.bI&&a.key==b.key)))
def oI.is(p:ck)(v:Int)(x:oI):Bool:=x.service.s6 p&&x.bI==v
def acB(l:List oI)(p:ck)(v:Int):Nat:=l.findIdx (oI.is p v)
def lQ(l:List oI)(p:ck)(v:Int):Int×Bool:=if acB l p v<l.length then((l.getD (acB l p v) XO).key,Zd) else(0,Zj)
def oI.err(x:oI):Int:=if !x.service.valid then 103 else if !within x.bI 255 then 104 else if !bW x.key then 10 else 0
def Rr:List oI->List oI->Int
 | _,[]=>0
 | seen,c::r=>if c.err≠0 then c.err else if seen.any (oI.is c.service c.bI) then 107 else Rr (seen++[c]) r
def Vs(l:List oI):Int:=if 60<l.length then 106 else Rr [] l
def EA:List oI->List oI->Bool
 | [],[]=>Zd
 | a::l,b::r=>a.s6 b&&EA l r
 | _,_=>Zj
structure Mark where
 client:ck
 time:Int
 tick:Int
def Mark.av(m:Mark):AV := .agg [.str m.client.name,.str m.client.inst,.str m.client.aC,.int .i64 m.time,.int .i64 m.tick]
def Mark.ok(m:Mark):Prop:=m.client.name.length<=9223372036854775807/\m.client.inst.length<=9223372036854775807/\m.client.aC.length<=9223372036854775807/\pq m.time=Zd/\pq m.tick=Zd
def Mark.s6(a b:Mark):Bool:=a.client.name==b.client.name&&(a.client.inst==b.client.inst&&(a.client.aC==b.client.aC&&(a.time==b.time&&a.tick==b.tick)))
theorem Mark.pL{a b:Mark}:a.s6 b=Zd↔a=b:=by
 obtain⟨⟨a1,a2,a3⟩,a4,a5⟩:=a;obtain⟨⟨b1,b2,b3⟩,b4,b5⟩:=b;simp[Mark.s6,and_assoc]
def xQ(l:List Mark)(m:Mark):Bool:=l.any fun x=>x.s6 m
structure qm where
 size:Int
 floor:Int
 marks:List Mark
def NT:qm:=⟨0,0,[]⟩
def Mark.err(floor:Int)(m:Mark):Int :=
 if !m.client.valid then 103 else if !(Zq (floor<=m.time)&&Zq (m.time<=4294967295)&&within m.tick 199) then 104 else 0
def HR(floor:Int):List Mark->List Mark->Int
 | _,[]=>0
 | seen,c::r=>if c.err floor≠0 then c.err floor else if xQ seen c then 107 else HR floor (seen++[c]) r
def qm.err(r:qm):Int :=
 if !(Zq (1<=r.size)&&Zq (r.size<=40)&&within r.floor 4294967295) then 104 else if r.size<r.marks.length then 106 else HR r.floor [] r.marks
def qC(r:qm)(now fJ:Int):List Mark:=r.marks.filter fun x=>Zq (imax r.floor (now-fJ)<=x.time)
def mS(r:qm)(m:Mark)(now fJ:Int):Gu qm :=
 if r.err≠0 then⟨NT,108⟩ else if !m.client.valid then⟨NT,103⟩ else if !within m.tick 199 then⟨NT,104⟩
 else if Ds m.time now fJ=Zj\/m.time<r.floor then⟨NT,37⟩ else if xQ r.marks m then⟨NT,34⟩
 else if r.size<=(qC r now fJ).length then⟨NT,82⟩
 else⟨⟨r.size,imax r.floor (now-fJ),qC r now fJ++[m]⟩,0⟩
def Ez:List Mark->List Mark->Bool
 | [],[]=>Zd
 | a::l,b::r=>a.s6 b&&Ez l r
 | _,_=>Zj
def qm.same(a b:qm):Bool:=a.size==b.size&&(a.floor==b.floor&&Ez a.marks b.marks)
structure Server where
 me:ck
 keys:List oI
 replay:qm
 fJ:Int
structure qj where
 client:ck
 af:Int
 address:Int
 c9:Int
 time:Int
 tick:Int
 cH:Int
 bZ:Int
 aE:Bytes
 eS:Bytes
def tj:qj:=⟨cX,0,0,0,0,0,0,0,[],[]⟩
def Server.err(s:Server):Int :=
 if !s.me.valid then 103 else if Vs s.keys≠0 then Vs s.keys else if s.replay.err≠0 then s.replay.err else if !within s.fJ 4294967295 then 104 else 0
structure VO where
 aE:eU
 eS:qk
 err:Int
def v_(t:eU)(aC:Bytes):ck:=⟨t.service,t.inst,aC⟩
def ea(s:Server)(r:df):VO :=
 if r.aC≠s.me.aC then⟨jg,rG,35⟩
 else if (lQ s.keys s.me r.bI).2=Zj then⟨jg,rG,35⟩
 else if (gL r.aE (lQ s.keys s.me r.bI).1).err=7 then⟨jg,rG,7⟩
 else if (gL r.aE (lQ s.keys s.me r.bI).1).err≠0 then⟨jg,rG,31⟩
 else if (v_ (gL r.aE (lQ s.keys s.me r.bI).1).val s.me.aC).s6 s.me=Zj then⟨jg,rG,35⟩
 else if (oZ r.eS r.little (gL r.aE (lQ s.keys s.me r.bI).1).val.af).err≠0 then⟨jg,rG,31⟩
 else⟨(gL r.aE (lQ s.keys s.me r.bI).1).val,(oZ r.eS r.little (gL r.aE (lQ s.keys s.me r.bI).1).val.af).val,0⟩
def L6(t:eU)(a:qk)(src now fJ:Int):Int :=
 if t.client.s6 a.client=Zj then 36 else if src≠t.address then 38 else if Ds a.time now fJ=Zj then 37 else Jc t.cH t.bZ now fJ
def vg(a:qk):Mark:=⟨a.client,a.time,a.tick⟩
structure GC where
 s:Server
 a:qj
 err:Int
def verify(s:Server)(r:df)(src now:Int):GC :=
 if s.err≠0 then⟨s,tj,108⟩
 else if (ea s r).err≠0 then⟨s,tj,(ea s r).err⟩
 else if L6 (ea s r).aE (ea s r).eS src now s.fJ≠0 then⟨s,tj,L6 (ea s r).aE (ea s r).eS src now s.fJ⟩
 else if (mS s.replay (vg (ea s r).eS) now s.fJ).err≠0 then⟨s,tj,(mS s.replay (vg (ea s r).eS) now s.fJ).err⟩
 else⟨⟨s.me,s.keys,(mS s.replay (vg (ea s r).eS) now s.fJ).val,s.fJ⟩,⟨(ea s r).aE.client,(ea s r).aE.af,(ea s r).aE.address,(ea s r).eS.c9,(ea s r).eS.time,(ea s r).eS.tick,(ea s r).aE.cH,(ea s r).aE.bZ,r.aE,r.eS⟩,0⟩
def qj.U9(a:qj)(li:Bool):rK:=DF a.af a.c9 a.time a.tick li
structure aiN where
 s:Server
 a:qj
 answer:Bytes
 err:Int
def qj.same(a b:qj):Bool:=a.client.s6 b.client&&a.af==b.af&&a.address==b.address&&a.c9==b.c9&&a.time==b.time&&a.tick==b.tick&&a.cH==b.cH&&a.bZ==b.bZ&&a.aE==b.aE&&a.eS==b.eS
def Server.same(a b:Server):Bool:=a.me.s6 b.me&&a.fJ==b.fJ&&EA a.keys b.keys&&a.replay.same b.replay
theorem bA(b:Bytes):(eP b).val.aC.length<=9223372036854775807/\(eP b).val.aE.length<=255/\(eP b).val.eS.length<=255:=by
 unfold eP;split
 ·exact⟨by simp[tn],by simp[tn],by simp[tn]⟩
 unfold eJ;split
 ·exact⟨by simp[tn],by simp[tn],by simp[tn]⟩
 ·rename_i h;have he:(bD (vn b).val).err=0:=Decidable.byContradiction fun q=>h (.inr (.inl q));obtain⟨_,h1,_,h2,h3⟩:=xv he;exact⟨by have:=h1.1;dsimp only;omega,h2,h3⟩
end Kerb
/- Chapter 11: safe and private messages, in plain words. -/
namespace Kerb
open Go Go.Abs
structure aiL where
 data:Bytes
 tick:Int
 addr:Int
 time:Int
structure ZI where
 text:Bytes
 box:Bytes
 err:Int
theorem tf(kd k:Int)(b:Bytes):(je kd k b).val.length<=1012:=by grind [ay,aw,je]
structure Li where
 val:Bytes
 next:Int
 ok:Bool
def iG(b:Bytes)(pos most:Int)(li:Bool):Li :=
 if (get b pos 2 li).err≠0\/most<(get b pos 2 li).val then⟨[],0,Zj⟩
 else⟨(bytes b (get b pos 2 li).next (get b pos 2 li).val).val,(bytes b (get b pos 2 li).next (get b pos 2 li).val).next,(bytes b (get b pos 2 li).next (get b pos 2 li).val).err==0⟩
structure Lk where
 kind:Int
 plain:Bytes
 cQ:Bytes
 little:Bool
 err:Int
def jx(b:Bytes):Li:=cond ((bX b).kind==7) (iG b 2 1000 (bh b [6,7]).1) ⟨[],2,Zd⟩
def ny(b:Bytes):Lk :=
 if (bh b [6,7]).2≠0 then⟨0,[],[],Zj,(bh b [6,7]).2⟩
 else if (jx b).ok=Zd/\(iG b (jx b).next 1012 (bh b [6,7]).1).ok=Zd/\(iG b (jx b).next 1012 (bh b [6,7]).1).next=b.length then
  ⟨(bX b).kind,(jx b).val,(iG b (jx b).next 1012 (bh b [6,7]).1).val,(bh b [6,7]).1,0⟩
 else⟨0,[],[],Zj,100⟩
def fa(b:Bytes)(li:Bool)(pos:Int)(bad:Bool):Rd Bytes :=
 let n:=dJ b 2 li pos bad
 dz b n.val n.pos n.bad
def k9(b:Bytes):Rd Bytes:=cond ((bX b).kind==7) (fa b (bh b [6,7]).1 2 Zj) ⟨[],2,Zj⟩
def lB(b:Bytes):Rd Bytes:=fa b (bh b [6,7]).1 (k9 b).pos (k9 b).bad
theorem zl{b:Bytes}{li:Bool}{pos most:Int}(h:(iG b pos most li).ok=Zd):fa b li pos Zj=⟨(iG b pos most li).val,(iG b pos most li).next,Zj⟩/\((iG b pos most li).val.length:Int)<=most:=by
 unfold iG at h ⊢;split at h
 ·cases h
 rename_i h0;rw[Qa0 h0];simp only[Qb1] at h;have e1:(get b pos 2 li).err=0:=Classical.byContradiction fun q=>h0 (.inl q);constructor
 ·unfold fa dJ dz;simp only[e1,BEq.rfl,Bool.not_true,Bool.or_false,Qa7,Bool.false_or,h]
 ·have hl:=wj h;have hb:=J1 b pos 2 li (by omega);simp only;omega where
 wj {b:Bytes} {pos n:Int} (h:(bytes b pos n).err=0):((bytes b pos n).val.length:Int)=n.toNat:=by
  unfold bytes at h ⊢;split at h
  ·rename_i h1;rw[Qa1 h1];simp only[kV h1]
  ·rename_i h1;exact absurd h h1
theorem zV{b:Bytes}{li:Bool}{pos most:Int}{bad:Bool}(h:(fa b li pos bad).bad=Zj)(hl:((fa b li pos bad).val.length:Int)<=most):bad=Zj/\iG b pos most li=⟨(fa b li pos Zj).val,(fa b li pos Zj).pos,Zd⟩:=by
 unfold fa dJ dz at h hl;simp only[Bool.or_eq_false_iff,Bool.not_eq_false',Qb1] at h hl;obtain⟨⟨h1,h2⟩,h3⟩:=h;subst h1;rw[h2] at h3 hl;simp only[BEq.rfl,Bool.not_true,Bool.or_false,Qa7] at h3 hl;have hb:=J1 b pos 2 li (by omega);have hn:=zl.wj h3;refine⟨rfl,?_⟩;unfold iG fa dJ dz;rw[Qa0 (by rintro(q | q);exact q h2;omega)];simp only[h2,BEq.rfl,Bool.not_true,Bool.or_false,Qa7,h3,Bool.false_or]
theorem H'(b:Bytes):ny b=if (bh b [6,7]).2≠0 then⟨0,[],[],Zj,(bh b [6,7]).2⟩
  else if (lB b).bad=Zd\/(lB b).pos≠b.length\/(1000:Int)<(k9 b).val.length\/(1012:Int)<(lB b).val.length then⟨0,[],[],Zj,100⟩
  else⟨(bX b).kind,(k9 b).val,(lB b).val,(bh b [6,7]).1,0⟩:=by
 unfold ny;by_cases h0:(bh b [6,7]).2≠0
 ·rw[Qa1 h0,Qa1 h0]
 rw[Qa0 h0,Qa0 h0];by_cases hc:(jx b).ok=Zd/\(iG b (jx b).next 1012 (bh b [6,7]).1).ok=Zd/\(iG b (jx b).next 1012 (bh b [6,7]).1).next=b.length
 ·rw[Qa1 hc];obtain⟨c1,c2,c3⟩:=hc;have hp:k9 b=⟨(jx b).val,(jx b).next,Zj⟩/\((jx b).val.length:Int)<=1000:=by
   unfold jx at c1;unfold k9 jx;cases hk:((bX b).kind==7)
   ·exact⟨rfl,by simp⟩
   ·rw[hk] at c1;exact zl c1
  have hs:=zl c2;have es:lB b=fa b (bh b [6,7]).1 (jx b).next Zj:=by unfold lB;rw[hp.1]
  rw[es,hs.1,hp.1];simp only;have:=hp.2;have:=hs.2;rw[Qa0 (by rintro(q | q | q | q);cases q;exact q c3;omega;omega)]
 ·rw[Qa0 hc];by_cases hd:(lB b).bad=Zd\/(lB b).pos≠b.length\/(1000:Int)<(k9 b).val.length\/(1012:Int)<(lB b).val.length
  ·rw[Qa1 hd]
  exfalso;apply hc;simp only[not_or,Bool.not_eq_true,Classical.not_not] at hd;obtain⟨d1,d2,d3,d4⟩:=hd;have l4:((fa b (bh b [6,7]).1 (k9 b).pos (k9 b).bad).val.length:Int)<=1012:=by
   have:((lB b).val.length:Int)<=1012:=by omega
   exact this
  have q:=zV (most:=1012) (show(fa b (bh b [6,7]).1 (k9 b).pos (k9 b).bad).bad=Zj from d1) l4;have es:lB b=fa b (bh b [6,7]).1 (k9 b).pos Zj:=by unfold lB;rw[q.1]
  have hp:jx b=⟨(k9 b).val,(k9 b).pos,Zd⟩:=by
   have q1:=q.1;unfold k9 at q1 d3;unfold jx k9;cases hk:((bX b).kind==7)
   ·rfl
   ·rw[hk] at q1 d3;have l3:((fa b (bh b [6,7]).1 2 Zj).val.length:Int)<=1000:=by
     simp only[Qa6] at d3;omega
    have:=(zV (most:=1000) (show(fa b (bh b [6,7]).1 2 Zj).bad=Zj from q1) l3).2;exact this
  rw[hp];simp only;rw[q.2];rw[<-es];exact⟨trivial,rfl,d2⟩
end Kerb
/- Data of the statements of chapter 23: databases, requests. -/
namespace Kerb
open Go Go.Abs
def hJ.leq(x e:hJ):Bool:=Op.bytesLess x.name e.name||(x.name==e.name&&(Op.bytesLess x.inst e.inst||x.inst==e.inst))
structure KAsk where
 op:UInt8
 user:UInt8
 service:UInt8
 af:UInt8
 new:UInt8
 time:UInt8
 stop:UInt8
 cH:UInt8
 bZ:UInt8
 address:UInt8
 adK:UInt8
 old:UInt8
 how:Int
namespace KAsk
def kop(a:KAsk):Int:=1+oo a.op % 3
def w(a:KAsk):Int:=oo a.adK % 16
def tm(a:KAsk):Int:=1000+oo a.time
def U6(l0 l1 l2:Bytes)(n:Int):Bytes:=if n=0 then l0 else if n=1 then l1 else l2
def label(a:KAsk):Bytes:=if a.w=1 then U6 oD gD Aq (a.kop-1) else U6 Aq oD gD (a.kop-1)
def KU(a:KAsk):gE :=
 if a.label=gD then⟨a.label,a.tm,0,0,if a.w=2 then Kerb.af 5 else ul (30+oo a.new % 3)⟩
 else⟨a.label,a.tm,a.tm,a.tm+oo a.stop*50,0⟩
def body(a:KAsk):Bytes:=if a.w=3 then(bR a.KU).val++[0] else(bR a.KU).val
def u(a:KAsk):Int:=oo a.user % 3
def ZC(a:KAsk):eU :=
 ⟨Zj,if a.w=5 then Kerb.user (3+a.u) else Kerb.user a.u,oo a.address % 2,Kerb.af (oo a.af % 4),oo a.bZ % 40,1000+oo a.cH,qF,if a.w=6 then[66,79,83] else[65,84,72]⟩
def cQ(a:KAsk):Bytes:=(lh a.ZC (if a.w=8 then ul 4 else ul 3)).val
def want(a:KAsk):ck:=if a.w=11 then YW [65,84,72] [66,79,83] else Kerb.service (oo a.service % 3)
def key(a:KAsk):Int :=
 if a.w=7 then ul 99 else if a.kop=2 then Kerb.af (oo a.af % 4) else if oo a.old % 4=3 then ul (30+oo a.old / 4 % 3) else ul a.u
def box(a:KAsk):Bytes:=(je 7 a.key a.body).val
def X3(a:KAsk):eG :=
 if a.kop=2 then⟨2,cX,if a.w=10 then 5 else 6,if a.w=9 then[66,79,83] else[65,84,72],a.cQ,a.want.name,a.want.inst,a.box⟩
 else⟨a.kop,if a.w=4 then Kerb.user (3+oo a.user % 6) else Kerb.user a.u,0,[],[],[],[],a.box⟩
def message(a:KAsk):Bytes:=if a.w=15 then wF (bF a.X3).val a.how else(bF a.X3).val
end KAsk
namespace KAsk
end KAsk
end Kerb
