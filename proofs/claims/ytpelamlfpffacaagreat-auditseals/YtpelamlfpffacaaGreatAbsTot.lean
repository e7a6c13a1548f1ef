/- Chapter 27: the program's closure, as its loops are. -/
import Derived.Test.YtpelamlfpffacaaGreatKerb27c
import Derived.Lib.Walk
import Derived.Lib.SliceRun
import Derived.Lib.AppendZerosOnto
import Derived.Lib.Bytealg
import Derived.Lib.BytesEntry
import Derived.Laws.Externs
set_option linter.all false
open Option renaming bind→Zz,some→Zy,none→Yz
open Int renaming toNat→Zx,toNat_natCast→Zv
open Decidable renaming decide→Zw
open Bool renaming false→Zu,and_eq_true→Zj,or_false→Zm,true→Zh
open List renaming any_eq_true→Zq,contains_iff_mem→Zd,getD→Zf,all_eq_true→Zg,mem_range→Zn
open Nat renaming beq→Zk
open Go.Abs.AV renaming dP→Zp,sl→Zb
namespace Kerb
open Go Go.Abs
section
variable {α:Type}
noncomputable def Ai(l:List AV)(f:List AV->List AV->Option α):Option α:=az l fun x r=>AV.bw x fun b=>f b r
noncomputable def B9(o:Option (List AV))(f:Bool->Option α):Option α:=Zz o fun l=>az l fun x r=>ar r (AV.dS x f)
abbrev iv(n:Int):AV := .int .i64 n
abbrev up(n:Int):AV := .int .i64 (IntKind.wrap .i64 (n+1))
abbrev St:=Option (List AV ⊕ (Ex×List AV))
noncomputable def xW(n:Int)(y:List AV)(f:Option α):Option α:=aA (Zw (0<=n)&&Zw (n<(y.length:Int))&&Zh) f
noncomputable def Hv(n:Int)(y:List AV)(f:Option α):Option α:=xW n y (aA (Nat.blt (Zx n) y.length&&Zh) f)
noncomputable def abT(y:List AV)(k:Int)(l:List AV):St:=ai .i64 l fun n r=>ai .i64 r fun i r=>ar r
 (aP (Zw (i<(y.length:Int))) (Hv i y (AV.ax .u64 (y.getD (Zx i) .undef) fun q=>aP (k==q) (Zy (.inr (.ret,[iv i,iv i]))) (Zy (.inl [iv n,up i]))))
  (Zy (.inr (.exit 0,[iv n,iv i]))))
noncomputable def Qw(r:Ex×List AV):Option (List AV):=ai .i64 r.2 fun n r1=>ai .i64 r1 fun _ r2=>ar r2 (mZ r.1 (Zy [.bool (Zw (n>=0))]) fun j=>aP (Zk j 0) (Zy [.bool Zu]) Yz)
noncomputable def abS(y:List AV)(k:Int):Option (List AV):=Zz (bH (abT y k) [iv 0,iv 0]) Qw
noncomputable def QD(y:List AV)(k:Int):Option (List AV):=B9 (abS y k) fun b=>Zy [.bool !b]
noncomputable def ae_(y kl:List AV)(l:List AV):St:=ai .i64 l fun n r=>ai .i64 r fun i r=>ar r
 (aP (Zw (i<(kl.length:Int))) (xW i kl (AV.ax .u64 (kl.getD (Zx i) .undef) fun q=>B9 (QD y q) fun b=>aP b (Zy (.inr (.ret,[iv i,iv i]))) (Zy (.inl [iv n,up i]))))
  (Zy (.inr (.exit 0,[iv n,iv i]))))
noncomputable def cfK(y kl:List AV):Option (List AV):=Zz (bH (ae_ y kl) [iv 0,iv 0]) Qw
noncomputable def abX(y:List AV)(b:List UInt8)(l:List AV):St:=ak l fun c r=>ai .i64 r fun i r=>ar r
 (aP (Zw (i<(y.length:Int))) (Hv i y (Zp (y.getD (Zx i) .undef) fun q=>aP (q==b) (Zy (.inr (.ret,[.bool Zu,iv i]))) (Zy (.inl [.bool c,up i]))))
  (Zy (.inr (.exit 0,[.bool c,iv i]))))
noncomputable def UR(y:List AV)(b:List UInt8):Option (List AV):=Zz (bH (abX y b) [.bool Zu,iv 0]) fun r=>ak r.2 fun c r1=>ai .i64 r1 fun _ r2=>ar r2 (mZ r.1 (Zy [.bool c]) fun j=>aP (Zk j 0) (Zy [.bool Zh]) Yz)
noncomputable def ae9(y bl:List AV)(l:List AV):St:=ai .i64 l fun n r=>ai .i64 r fun i r=>ar r
 (aP (Zw (i<(bl.length:Int))) (xW i bl (Zp (bl.getD (Zx i) .undef) fun q=>B9 (UR y q) fun b=>aP b (Zy (.inr (.ret,[iv i,iv i]))) (Zy (.inl [iv n,up i]))))
  (Zy (.inr (.exit 0,[iv n,iv i]))))
noncomputable def cfB(y bl:List AV):Option (List AV):=Zz (bH (ae9 y bl) [iv 0,iv 0]) Qw
noncomputable def aeG(y:List AV)(q:Int)(f:List AV->Option α):Option α:=Zz (aA (da y&&aeJ (MR y q)&&Zw ((y.length:Int)<=100000000)) (Zy (AV.aD (MR y q),([]:List (List AV))))) fun r=>aJ r.2 (AV.bw r.1 f)
noncomputable def ZL(kl:List AV)(l:List AV):St:=ai .i64 l fun n r=>Ai r fun y r=>Ai r fun y1 r=>Ai r fun y2 r=>ar r
 (aP (Zw (n<(kl.length:Int))) (xW n kl (AV.ax .u64 (kl.getD (Zx n) .undef) fun q=>B9 (QD y q) fun b =>
   aP b (aeG y q fun l=>Zy (.inl [up n,.aD l,.aD y1,.aD y2])) (Zy (.inl [up n,.aD y,.aD y1,.aD y2]))))
  (Zy (.inr (.exit 0,[iv n,.aD y,.aD y1,.aD y2]))))
noncomputable def ZK(bl:List AV)(l:List AV):St:=ai .i64 l fun n r=>Ai r fun y r=>Ai r fun y1 r=>Ai r fun y2 r=>ar r
 (aP (Zw (n<(bl.length:Int))) (xW n bl (Zp (bl.getD (Zx n) .undef) fun q=>B9 (UR y1 q) fun b =>
   aP b (aA (Go.Abs.room (y1.length+[AV.bs q].length) 24) (Zy (.inl [up n,.aD y,.aD (y1++[.bs q]),.aD y2]))) (Zy (.inl [up n,.aD y,.aD y1,.aD y2]))))
  (Zy (.inr (.exit 2,[iv n,.aD y,.aD y1,.aD y2]))))
noncomputable def UA(b:Bool)(n:Int)(kl bl y y1 y2:List AV):St :=
 Zz (bH (ZL kl) [iv 0,.aD y,.aD y1,.aD y2]) fun r=>ai .i64 r.2 fun _ r1=>Ai r1 fun y r2=>Ai r2 fun y7 r3=>Ai r3 fun y8 r4=>ar r4
  (mZ r.1 (Zy (.inl [.bool b,up n,.aD y,.aD y7,.aD y8])) fun j=>aP (Zk j 0)
   (Zz (bH (ZK bl) [iv 0,.aD y,.aD y7,.aD y8]) fun r=>ai .i64 r.2 fun _ r1=>Ai r1 fun y r2=>Ai r2 fun y9 r3=>Ai r3 fun y10 r4=>ar r4
    (mZ r.1 (Zy (.inl [.bool b,up n,.aD y,.aD y9,.aD y10])) fun j=>aP (Zk j 2) (Zy (.inr (.ret,[.bool Zh,iv n,.aD y,.aD y9,.aD y10]))) Yz))
   Yz)
noncomputable def ab_(b:Bool)(n:Int)(y y1 y2:List AV)(t:List UInt8):St :=
 Zz (aA (Zw (t.length<=140737488355328)) (Zy (AV.bC [.agg [.int .i64 (bj t).box.kind,.int .u64 (bj t).box.key,.bs (bj t).box.body],.int .i64 (bj t).n,.int .i64 (bj t).err],([]:List (List AV))))) fun r=>aJ r.2 (AV.gP r.1 fun vs=>az vs fun x r=>AV.dD x fun cs=>ai .i64 cs fun kd r1=>ai .u64 r1 fun ky r1=>cP r1 fun bd r1=>ar r1 (ai .i64 r fun _ r=>ai .i64 r fun er r=>ar r
  (aP (!(er==0)) (Zy (.inl [.bool b,up n,.aD y,.aD y1,.aD y2])) (B9 (QD y ky) fun b6=>aP b6 (Zy (.inl [.bool b,up n,.aD y,.aD y1,.aD y2]))
   (Zz (aA (Zw (bd.length<=70368744170000)) (Zy (AV.bC [.sl 1 (dl (jv ⟨kd,ky,bd⟩).keys),.sl 1 (dG (jv ⟨kd,ky,bd⟩).boxes)],([]:List (List AV))))) fun r=>aJ r.2 (AV.gP r.1 fun vs=>ef 1 vs fun kl r=>ef 1 r fun bl r=>ar r
    (B9 (cfK y kl) fun b9=>aP (!b9) (B9 (cfB y1 bl) fun b10=>aP (!b10) (Zy (.inl [.bool b,up n,.aD y,.aD y1,.aD (uo (iv n) (.bool Zh) y2)])) (UA b n kl bl y y1 (uo (iv n) (.bool Zh) y2))) (UA b n kl bl y y1 (uo (iv n) (.bool Zh) y2)))))))))
noncomputable def ab6(y3:List AV)(l:List AV):St:=ak l fun b r=>ai .i64 r fun n r=>Ai r fun y r=>Ai r fun y5 r=>Ai r fun y6 r=>ar r
 (aP (Zw (n<(y3.length:Int))) (AV.dS (getM (iv n) y6 (.bool Zu)) fun b3=>aP (!b3) (Hv n y5 (Zp (y5.getD (Zx n) .undef) fun t=>ab_ b n y y5 y6 t)) (Zy (.inl [.bool b,up n,.aD y,.aD y5,.aD y6])))
  (Zy (.inr (.exit 0,[.bool b,iv n,.aD y,.aD y5,.aD y6]))))
noncomputable def G7(l:List AV):St:=Ai l fun y r=>Ai r fun y3 r=>Ai r fun y4 r=>ar r
 (Zz (bH (ab6 y3) [.bool Zu,iv 0,.aD y,.aD y3,.aD y4]) fun r=>ak r.2 fun b r1=>ai .i64 r1 fun _ r1=>Ai r1 fun y r1=>Ai r1 fun y5 r1=>Ai r1 fun y6 r1=>ar r1
  (mZ r.1 (aP b (Zy (.inl [.aD y,.aD y5,.aD y6])) (Zy (.inr (.exit 0,[.aD y,.aD y5,.aD y6])))) fun j=>aP (Zk j 0) (Zy (.inr (.exit 0,[.aD y,.aD y5,.aD y6]))) Yz))
end
theorem CA{β:Type}{step:List AV->St}{k:Ex×List AV->Option β}{A:β}(e:Nat->List AV)(N:Nat)(hs:∀ i,i<N->step (e i)=Zy (.inl (e (i+1))))(he:∃ r,step (e N)=Zy (.inr r)/\k r=Zy A){t:List AV}(ht:t=e 0):Zz (bH step t) k=Zy A:=by
 refine dq (enc:=e) (I:=fun i=>i<=N) (μ:=fun i=>N-i) (R:=fun r=>k r=Zy A) 0 (Nat.zero_le _) ht ?_ fun r h=>h;intro i hi;by_cases h:i<N
 ·exact⟨_,hs i h,i+1,rfl,h,show N-(i+1)<N-i by omega⟩
 ·obtain rfl:i=N:=by omega
  obtain⟨r,h1,h2⟩:=he;exact⟨_,h1,h2⟩
theorem tb{β:Type}{step:List AV->St}{k:Ex×List AV->Option β}{A B:β}(e:Nat->List AV)(N:Nat)(p:Nat->Bool)(hs:∀ i,i<N->p i=Zu->step (e i)=Zy (.inl (e (i+1))))(hr:∀ i,i<N->p i=Zh->∃ r,step (e i)=Zy (.inr r)/\k r=Zy A)
  (he:∃ r,step (e N)=Zy (.inr r)/\k r=Zy B) {t:List AV} (ht:t=e 0):Zz (bH step t) k=Zy (bif (List.range N).any p then A else B):=by
 refine dq (enc:=e) (I:=fun i=>i<=N/\∀ j,j<i->p j=Zu) (μ:=fun i=>N-i) (R:=fun r=>k r=Zy (bif (List.range N).any p then A else B)) 0 ⟨Nat.zero_le _,fun j h=>by omega⟩ ht ?_ fun r h=>h;rintro i ⟨hi,hj⟩;by_cases h:i<N
 ·cases hp:p i with
  | false=>exact⟨_,hs i h hp,i+1,rfl,⟨h,fun j OR=>by by_cases UH:j=i;(· subst UH;exact hp);exact hj j (by omega)⟩,show N-(i+1)<N-i by omega⟩
  | true =>
   obtain⟨r,h1,h2⟩:=hr i h hp;have:(List.range N).any p=Zh:=Zq.2 ⟨i,Zn.2 h,hp⟩;exact⟨_,h1,by show k r=_;rw[h2,this];rfl⟩
 ·obtain rfl:i=N:=by omega
  obtain⟨r,h1,h2⟩:=he;have:(List.range i).any p=Zu:=by
   rw[List.any_eq_false];intro x hx;rw[hj x (Zn.1 hx)];exact Bool.false_ne_true
  exact⟨_,h1,by show k r=_;rw[h2,this];rfl⟩
theorem qa{α:Type}(l:List α)(d:α)(f:α->Bool):(List.range l.length).any (fun i=>f (l.getD i d))=l.any f:=by
 rw[Bool.eq_iff_iff,Zq,Zq];constructor
 ·rintro⟨i,hi,h⟩;have hi:=Zn.1 hi;exact⟨l[i],List.getElem_mem hi,by simpa [Zf,hi] using h⟩
 ·rintro⟨x,hx,h⟩;obtain⟨i,hi,rfl⟩:=List.mem_iff_getElem.1 hx;exact⟨i,Zn.2 hi,by simpa [Zf,hi] using h⟩
theorem Ag(l:List Int)(k:Int):l.any (fun x=>k==x)=l.contains k:=by grind
theorem rO(l:List Bytes)(k:Bytes):l.any (fun x=>x==k)=l.contains k:=by grind
theorem Jt{i:Nat}(h:i<=1000000000):up (i:Int)=iv ((i+1:Nat):Int):=by
 unfold up iv;rw[wrap_i64 (by omega) (by omega)];rfl
theorem ng{α:Type}{i:Nat}{y:List AV}(h:i<y.length)(f:Option α):xW (i:Int) y f=f:=by
 unfold xW;exact ae (by simp;omega) f
theorem LW{α:Type}{i:Nat}{y:List AV}(h:i<y.length)(f:Option α):Hv (i:Int) y f=f:=by
 unfold Hv;rw[ng h];exact ae (by simp[Nat.blt_eq];omega) f
theorem zc{i:Nat}{y:List AV}(h:i<y.length):Zw ((i:Int)<(y.length:Int))=Zh:=by simp;omega
theorem ab5{y:List AV}:Zw ((y.length:Int)<(y.length:Int))=Zu:=by simp
theorem sG{α:Type}{l:List α}(d:α){i:Nat}(h:i<l.length):l.take (i+1)=l.take i++[l.getD i d]:=by
 rw[List.take_succ_eq_append_getElem h];simp[Zf,h]
theorem JG(K L:List Int){i:Nat}(h:i<L.length):gw K (L.take (i+1))=bif (gw K (L.take i)).contains (L.getD i 0) then gw K (L.take i) else jO (gw K (L.take i)) (L.getD i 0):=by
 rw[sG 0 h];unfold gw;rw[List.foldl_append];rfl
theorem JF(K L:List Bytes){i:Nat}(h:i<L.length):iO K (L.take (i+1))=bif (iO K (L.take i)).contains (L.getD i []) then iO K (L.take i) else iO K (L.take i)++[L.getD i []]:=by
 rw[sG [] h];unfold iO;rw[List.foldl_append];rfl
theorem O7(l B:List Bytes):(iO B l).length<=B.length+l.length:=by
 obtain⟨N,h1,h2,_⟩:=mv (l:=l) (B:=B);rw[h1,List.length_append];omega
theorem Ra{n:Nat}(h:n<=100000000):Go.Abs.room (n+1) 24=Zh:=by
 unfold Go.Abs.room;simp only[Zj,Nat.ble_eq];omega
theorem Jr(B:List Bytes)(q:Bytes):dG B++[.bs q]=dG (B++[q]):=by simp[dG]
theorem WH{s:Kn}{x:Ax}:s.has x=(!(x.keys.any fun k => !s.keys.contains k) && !(x.boxes.any fun b => !s.boxes.contains b)):=by
 unfold Kn.has;rw[List.all_eq_not_any_not,List.all_eq_not_any_not]
def A'(M:List AV)(s:Kn):Prop:=∀ i,i<s.boxes.length->getM (iv i) M (.bool Zu) = .bool Zu\/(getM (iv i) M (.bool Zu) = .bool Zh/\s.done (s.boxes.getD i [])=Zh)
theorem BP(n m:Int):ni (iv n) (iv m)=(n==m):=by simp[ni,iv]
theorem Bw(n m:Int)(d v:AV):∀ {M:List AV},getM (iv m) (uo (iv n) v M) d=if n=m then v else getM (iv m) M d
 | []=>by
  show(bif ni (iv n) (iv m) then Zy v else Yz).getD d=_;rw[BP];by_cases h:n=m
  ·rw[Qa1 h,show(n==m)=Zh by simpa using h];rfl
  ·rw[Qa0 h,show(n==m)=Zu by simpa using h];rfl
 | e::r=>by
  have ih:=Bw n m d v (M:=r);unfold getM at ih ⊢;show(qB (iv m) (bif ni (gG e) (iv n) then AV.bC [iv n,v]::r else e::uo (iv n) v r)).getD d=_;cases he:ni (gG e) (iv n) with
  | true =>
   have hk:gG e=iv n:=by
    cases Zo:gG e<;>rw[Zo] at he<;>simp only[ni,iv] at he<;>try cases he
    simp only[Zj,Qb1] at he;rw[he.1,he.2]
   show(bif ni (iv n) (iv m) then Zy v else qB (iv m) r).getD d=if n=m then v else(bif ni (gG e) (iv m) then Zy (uS e) else qB (iv m) r).getD d
   rw[hk,BP];by_cases h:n=m
   ·rw[Qa1 h,show(n==m)=Zh by simpa using h];rfl
   ·rw[Qa0 h,show(n==m)=Zu by simpa using h];rfl
  | false =>
   show(bif ni (gG e) (iv m) then Zy (uS e) else qB (iv m) (uo (iv n) v r)).getD d=if n=m then v else(bif ni (gG e) (iv m) then Zy (uS e) else qB (iv m) r).getD d
   cases hm:ni (gG e) (iv m) with
   | false=>exact ih
   | true =>
    have hk:gG e=iv m:=by
     cases Zo:gG e<;>rw[Zo] at hm<;>simp only[ni,iv] at hm<;>try cases hm
     simp only[Zj,Qb1] at hm;rw[hm.1,hm.2]
    rw[hk,BP] at he;rw[Qa0 (by intro h;subst h;simp at he)];rfl
theorem A'.put{M:List AV}{s:Kn}(h:A' M s){j:Nat}(hd:s.done (s.boxes.getD j [])=Zh):A' (uo (iv j) (.bool Zh) M) s:=by
 intro i hi;rw[Bw];by_cases e:(j:Int)=i
 ·obtain rfl:j=i:=by omega
  rw[Qa1 e];exact .inr ⟨rfl,hd⟩
 ·rw[Qa0 e];exact h i hi
theorem A'.grow{M:List AV}{s:Kn}(h:A' M s)(x:Ax)(hx:∀ i,s.boxes.length<=i->getM (iv i) M (.bool Zu) = .bool Zu):A' M (s.add x):=by
 intro i hi;by_cases e:i<s.boxes.length
 ·rcases h i e with h | ⟨h1,h2⟩
  ·exact .inl h
  ·refine .inr ⟨h1,?_⟩;obtain⟨N,e1,_⟩:=mv (l:=x.boxes) (B:=s.boxes);have e2:(s.add x).boxes.getD i []=s.boxes.getD i []:=by
    show(iO s.boxes x.boxes).getD i []=_;rw[e1,Zf,Zf,List.getElem?_append_left e]
   rw[e2];exact(Gl s x).done h2
 ·exact .inl (hx i (by omega))
def EZ(M:List AV)(N:Nat):Prop:=∀ i:Nat,N<=i->getM (iv i) M (.bool Zu) = .bool Zu
theorem EZ.put{M:List AV}{N j:Nat}(h:EZ M N)(hj:j<N):EZ (uo (iv j) (.bool Zh) M) N:=by
 intro i hi;rw[Bw,Qa0 (by omega)];exact h i hi
structure adN (M:List AV) (s:Kn):Prop where
 ok:A' M s
 low:EZ M s.boxes.length
end Kerb
/- Chapter 27: small loops. -/
namespace Kerb
open Go Go.Abs
theorem E7{l:List Bytes}{i:Nat}(h:i<l.length):i_ (l.take (i+1))=bif k8 (l.getD i []) then i_ (l.take i)++[l.getD i []] else i_ (l.take i):=by
 rw[sG [] h];unfold i_;rw[List.filter_append];generalize l.getD i []=b;cases hb:k8 b<;>simp[List.filter_cons,hb]
theorem KQ{n:Nat}(h:n<=1000000000):Go.Abs.room n 8=Zh:=by
 unfold Go.Abs.room;simp only[Zj,Nat.ble_eq];omega
theorem TW{n:Nat}(h:n<=1000000000):Go.Abs.room n 24=Zh:=by
 unfold Go.Abs.room;simp only[Zj,Nat.ble_eq];omega
theorem VT{α:Type}[BEq α][LawfulBEq α]{K L:List α}(d:α)(h:K.length=L.length):((List.range K.length).any fun i => !(K.getD i d==L.getD i d)) = !(K==L):=by
 cases he:K==L with
 | true =>
  obtain rfl:=Qb0 he;rw[List.any_eq_false.2]
  ·rfl
  ·intro x _;simp
 | false =>
  have ic:K≠L:=by intro e;subst e;simp at he
  rw[Bool.not_false,Zq];refine Classical.byContradiction fun hc=>ic (List.ext_getElem h fun i h1 h2=> ?_);refine Classical.byContradiction fun hi=>hc ⟨i,Zn.2 h1,?_⟩;simpa [Zf,h1,h2] using hi
theorem LY:∀ {K:List Int} {k:Int} {i:Nat},i<=K.length->(∀ j,j<i->K.getD j 0<k)->(i<K.length->¬ K.getD i 0<k)->jO K k=if i<K.length/\K.getD i 0=k then K else K.take i++k::K.drop i
 | [],k,i,hi,_,_=>by
  obtain rfl:i=0:=by simpa using hi
  simp[jO]
 | x::r,k,0,_,_,h=>by
  have h0:¬ x<k:=h (by simp);by_cases e:x=k
  ·subst e;simp[jO]
  ·have e':(x==k)=Zu:=by simpa using e
   show(bif Zw (x<k) then _ else bif x==k then _ else k::x::r)=_;rw[Qa5 h0,e',Qa0 (by rintro⟨_,q⟩;exact e q)];rfl
 | x::r,k,i+1,hi,h1,h2=>by
  have h0:x<k:=h1 0 (by omega);have ih:=LY (K:=r) (k:=k) (i:=i) (by simpa using hi) (fun j hj=>h1 (j+1) (by omega)) (fun hj=>h2 (by simpa using hj));show(bif Zw (x<k) then x::jO r k else _)=_;rw[Qa4 h0,Qa6,ih];by_cases e:i<r.length/\r.getD i 0=k
  ·rw[Qa1 e,Qa1 (show i+1<(x::r).length/\(x::r).getD (i+1) 0=k from⟨by simpa using e.1,e.2⟩)]
  ·rw[Qa0 e,Qa0 (show ¬ (i+1<(x::r).length/\(x::r).getD (i+1) 0=k) from fun q=>e ⟨by simpa using q.1,q.2⟩)];rfl
theorem MG{i:Nat}(h:i<=1000000000):IntKind.wrap .i64 ((i:Int)+1)=((i+1:Nat):Int):=by
 rw[wrap_i64 (by omega) (by omega)];rfl
theorem Tb(i:Nat):Zw ((0:Int)<=(i:Int))=Zh:=by simp
theorem TG{l:List Int}{i:Nat}(h:i<l.length):Zw ((i:Int)<((dl l).length:Int))=Zh:=by rw[fR];simp;omega
theorem ltB{l:List Bytes}{i:Nat}(h:i<l.length):Zw ((i:Int)<((dG l).length:Int))=Zh:=by rw[gq];simp;omega
theorem Ft{l:List Int}{i:Nat}(h:i<l.length):Zf (dl l) (Zx (i:Int)) .undef = .int .u64 (l.getD i 0):=by rw[Zv];exact A4 h
theorem afj{l:List Bytes}{i:Nat}(h:i<l.length):Zf (dG l) (Zx (i:Int)) .undef = .bs (l.getD i []):=by rw[Zv];exact nG h
theorem ZA(l:List Int):Zw ((l.length:Int)<((dl l).length:Int))=Zu:=by rw[fR];simp
theorem noB(l:List Bytes):Zw ((l.length:Int)<((dG l).length:Int))=Zu:=by rw[gq];simp
theorem pM{α:Type}{l:List α}{i:Nat}(d:α)(h:i<l.length):l.getD i d∈l:=by simp[Zf,h]
theorem acK(l:List Int)(i:Nat):(dl l).take i=dl (l.take i):=by simp[dl,List.map_take]
theorem aaH(l:List Int)(i:Nat):(dl l).drop i=dl (l.drop i):=by simp[dl,List.map_drop]
abbrev kb2(ks bs:List AV):aZ:=[[.sl 1 ks,.sl 1 bs]]
end Kerb
/- Chapter 27: what is known does not depend on the order; what can be made teaches nothing. -/
namespace Kerb
open Go Go.Abs
inductive EX (B0:Bytes->Prop) (K0:Int->Prop):Int ⊕ Bytes->Prop
 | key {k:Int}:K0 k->EX B0 K0 (.inl k)
 | box {b:Bytes}:B0 b->EX B0 K0 (.inr b)
 | inK {b:Bytes} {k:Int}:EX B0 K0 (.inr b)->(bj b).err=0->EX B0 K0 (.inl (bj b).box.key)->k∈(cA b).keys->EX B0 K0 (.inl k)
 | inB {b c:Bytes}:EX B0 K0 (.inr b)->(bj b).err=0->EX B0 K0 (.inl (bj b).box.key)->c∈(cA b).boxes->EX B0 K0 (.inr c)
theorem EX.mono{B0 B1:Bytes->Prop}{K0 K1:Int->Prop}(h1:∀ b,B0 b->B1 b)(h2:∀ k,K0 k->K1 k){x:Int ⊕ Bytes}(h:EX B0 K0 x):EX B1 K1 x:=by
 induction h with
 | key h=>exact .key (h2 _ h)
 | box h=>exact .box (h1 _ h)
 | inK _ e _ m i1 i2=>exact .inK i1 e i2 m
 | inB _ e _ m i1 i2=>exact .inB i1 e i2 m
structure Full (B0:Bytes->Prop) (K0:Int->Prop) (s:Kn):Prop where
 next:s.next=Yz
 uq:uq s.keys=Zh
 nodup:s.boxes.Nodup
 keys:∀ k,k∈s.keys↔EX B0 K0 (.inl k)
 boxes:∀ b,b∈s.boxes↔EX B0 K0 (.inr b)
theorem Mc{s:Kn}(h:s.next=Yz){b:Bytes}(hb:b∈s.boxes)(e:(bj b).err=0)(hk:(bj b).box.key∈s.keys):s.has (cA b)=Zh:=by
 have:=List.find?_eq_none.1 h b hb;cases hh:s.has (cA b) with
 | true=>rfl
 | false=>exact absurd (zi.2 ⟨e,hk,hh⟩) this
theorem q_:∀ {l B:List Bytes},B.Nodup->(iO B l).Nodup
 | [],B,h=>h
 | b::l,B,h=>by
  have e:iO B (b::l)=iO (bif B.contains b then B else B++[b]) l:=rfl;rw[e];cases hc:B.contains b with
  | true=>exact q_ h
  | false =>
   refine q_ (List.nodup_append.2 ⟨h,by simp,?_⟩);intro x hx y hy;have:b ∉ B:=by simpa using hc
   simp only[List.mem_singleton] at hy;rintro rfl;exact this (hy ▸ hx)
theorem Full.join{B0 B1:Bytes->Prop}{K0 K1:Int->Prop}{s:Kn}(h:Full B0 K0 s){x:Ax}(hb:∀ b,B1 b↔B0 b\/b∈x.boxes)(hk:∀ k,K1 k↔K0 k\/k∈x.keys):Full B1 K1 (close (s.add x)):=by
 have m:∀ {y},EX B0 K0 y->EX B1 K1 y:=EX.mono (fun b q=>(hb b).2 (.inl q)) fun k q=>(hk k).2 (.inl q);obtain⟨⟨p1,p2,p3,p4,p5,p6⟩,hn⟩:=vK (P:=fun s=>Kerb.uq s.keys=Zh/\s.boxes.Nodup/\(∀ k∈s.keys,EX B1 K1 (.inl k))/\(∀ b∈s.boxes,EX B1 K1 (.inr b))/\(∀ k,K1 k->k∈s.keys)/\∀ b,B1 b->b∈s.boxes) (fun s b ⟨q1,q2,q3,q4,q5,q6⟩ gb go=>by
  obtain⟨e,ek,_⟩:=zi.1 go;refine⟨p_ q1,q_ q2,fun k hk=> ?_,fun c hc=> ?_,fun k hk=>jy.2 (.inl (q5 k hk)),fun c hc=>iq.2 (.inl (q6 c hc))⟩
  ·rcases jy.1 hk with hk | hk
   ·exact q3 k hk
   ·exact .inK (q4 b gb) e (q3 _ ek) hk
  ·rcases iq.1 hc with hc | hc
   ·exact q4 c hc
   ·exact .inB (q4 b gb) e (q3 _ ek) hc) (s.add x)
  ⟨p_ h.uq,q_ h.nodup,fun k q=>by
   rcases jy.1 q with q | q
   ·exact m ((h.keys k).1 q)
   ·exact .key ((hk k).2 (.inr q)),fun b q=>by
   rcases iq.1 q with q | q
   ·exact m ((h.boxes b).1 q)
   ·exact .box ((hb b).2 (.inr q)),fun k q=>by
   rcases (hk k).1 q with q | q
   ·exact jy.2 (.inl ((h.keys k).2 (.key q)))
   ·exact jy.2 (.inr q),fun b q=>by
   rcases (hb b).1 q with q | q
   ·exact iq.2 (.inl ((h.boxes b).2 (.box q)))
   ·exact iq.2 (.inr q)⟩
 have all:∀ y,EX B1 K1 y->(match y with | .inl k=>k∈(close (s.add x)).keys | .inr b=>b∈(close (s.add x)).boxes):=by
  intro y hy;induction hy with
  | key q=>exact p5 _ q
  | box q=>exact p6 _ q
  | inK _ e _ mm i1 i2=>exact(vM.1 (Mc hn i1 e i2)).1 _ mm
  | inB _ e _ mm i1 i2=>exact(vM.1 (Mc hn i1 e i2)).2 _ mm
 exact⟨hn,p1,p2,fun k=>⟨p3 k,fun q=>all _ q⟩,fun b=>⟨p4 b,fun q=>all _ q⟩⟩
theorem tT{s:Kn}:∀ {n:Nat} {b:Bytes},b.length<n->kR n s b=eu s b:=by
 have key:∀ (k:Nat) (b:Bytes),b.length<k->∀ n m,b.length<n->b.length<m->kR n s b=kR m s b:=by
  intro k;induction k with
  | zero=>intro b h;omega
  | succ k ih =>
   intro b hb n m hn hm;obtain⟨n,rfl⟩:∃ q,n=q+1:=⟨n-1,by omega⟩;obtain⟨m,rfl⟩:∃ q,m=q+1:=⟨m-1,by omega⟩;have:(cA b).boxes.all (fun b=>kR n s b)=(cA b).boxes.all fun b=>kR m s b:=by
    rw[Bool.eq_iff_iff,Zg,Zg];constructor
    ·intro h c hc;have:=qc hc;rw[<-ih c (by omega) n m (by omega) (by omega)];exact h c hc
    ·intro h c hc;have:=qc hc;rw[ih c (by omega) n m (by omega) (by omega)];exact h c hc
   simp only[kR,this]
 exact fun {n b} h=>key (b.length+1) b (by omega) n (b.length+1) h (by omega)
theorem C6(s:Kn)(b:Bytes):eu s b=(s.boxes.contains b||(k8 b&&s.keys.contains (bj b).box.key&&(cA b).keys.all (fun k=>s.keys.contains k)&&(cA b).boxes.all fun b=>eu s b)):=by
 have:(cA b).boxes.all (fun c=>kR b.length s c)=(cA b).boxes.all fun c=>eu s c:=by
  rw[Bool.eq_iff_iff,Zg,Zg];constructor
  ·intro h c hc;have:=qc hc;rw[<-tT (n:=b.length) (by omega)];exact h c hc
  ·intro h c hc;have:=qc hc;rw[tT (by omega)];exact h c hc
 show kR (b.length+1) s b=_;simp only[kR,this]
end Kerb
/- Chapter 27: the reference's functions, as their loops are. -/
namespace Kerb
open Go Go.Abs
abbrev rb(v:AV):AV×aZ:=(v,[])
noncomputable def aft(y:List AV)(b:List UInt8)(l:List AV):St:=ak l fun c r=>ai .i64 r fun i r=>ar r
 (aP (Zw (i<(y.length:Int))) (Hv i y (Zp (y.getD (Zx i) .undef) fun q=>aP (q==b) (Zy (.inr (.ret,[.bool Zh,iv i]))) (Zy (.inl [.bool c,up i]))))
  (Zy (.inr (.exit 0,[.bool c,iv i]))))
noncomputable def hasB(y:List AV)(b:List UInt8):Option (List AV):=Zz (bH (aft y b) [.bool Zu,iv 0]) fun r=>ak r.2 fun c r1=>ai .i64 r1 fun _ r2=>ar r2 (mZ r.1 (Zy [.bool c]) fun j=>aP (Zk j 0) (Zy [.bool Zu]) Yz)
theorem Ti{B:List Bytes}(b:Bytes)(h:B.length<=100000000):hasB (dG B) b=Zy [.bool (B.contains b)]:=by
 have e:hasB (dG B) b=Zy (bif (List.range (dG B).length).any (fun i=>B.getD i []==b) then[AV.bool Zh] else[AV.bool Zu]):=by
  refine tb (fun i=>[.bool Zu,iv i]) _ _ ?_ ?_ ?_ rfl
  ·intro i hi hp;have oP:i<B.length:=by rw[<-gq];exact hi
   show aP (Zw ((i:Int)<((dG B).length:Int))) (Hv i (dG B) (Zp ((dG B).getD (Zx i) .undef) _)) _=_;rw[ah (zc hi),LW hi,Zv,nG oP];show aP (B.getD i []==b) _ _=_;rw[aq hp,Jt (by omega)]
  ·intro i hi hp;have oP:i<B.length:=by rw[<-gq];exact hi
   refine⟨(.ret,[.bool Zh,iv i]),?_,rfl⟩;show aP (Zw ((i:Int)<((dG B).length:Int))) (Hv i (dG B) (Zp ((dG B).getD (Zx i) .undef) _)) _=_;rw[ah (zc hi),LW hi,Zv,nG oP];show aP (B.getD i []==b) _ _=_;rw[ah hp]
  ·refine⟨(.exit 0,[.bool Zu,iv (dG B).length]),?_,rfl⟩;show aP (Zw (((dG B).length:Int)<((dG B).length:Int))) _ _=_;rw[aq ab5]
 rw[e,gq,qa B [] (fun x=>x==b),rO];cases B.contains b<;>rfl
noncomputable def Hc{α:Type}(ks:List AV)(k:Int)(f:Bool->Option α):Option α:=Zz (aA (da ks&&Zw (ks.length<=1000000000)) (Zy (rb (.bool ((cO ks).contains k))))) fun r=>aJ r.2 (AV.dS r.1 f)
theorem xP{α:Type}{K:List Int}(k:Int)(h:K.length<=100000000)(f:Bool->Option α):Hc (dl K) k f=f (K.contains k):=by
 unfold Hc;rw[yC,f_,fR,ae (by simp;omega)];rfl
noncomputable def ZJ(st:List AV):St:=ef 1 st fun l r=>ef 1 r fun m r=>ef 1 r fun a r=>ef 1 r fun b r=>ef 1 r fun ks r=>Ai r fun y r=>ak r fun mo r=>ai .i64 r fun n r=>ar r
 (aP (Zw (n<(l.length:Int))) (xW n l (AV.ax .u64 (l.getD (Zx n) .undef) fun k=>Hc ks k fun b6=>aP (!b6)
   (xW n l (AV.ax .u64 (l.getD (Zx n) .undef) fun k2=>Zz (aA (da ks&&Zw (ks.length<=1000000000)) (Zy (rb (.sl 1 (dl (jO (cO ks) k2)))))) fun r=>aJ r.2 (AV.iH 1 r.1 fun k3=>Zy (.inl [.sl 1 l,.sl 1 m,.sl 1 a,.sl 1 b,.sl 1 k3,.aD y,.bool Zh,up n]))))
   (Zy (.inl [.sl 1 l,.sl 1 m,.sl 1 a,.sl 1 b,.sl 1 ks,.aD y,.bool mo,up n]))))
  (Zy (.inr (.exit 0,[.sl 1 l,.sl 1 m,.sl 1 a,.sl 1 b,.sl 1 ks,.aD y,.bool mo,iv n]))))
noncomputable def Lm(st:List AV):St:=ef 1 st fun m r=>ef 1 r fun a r=>ef 1 r fun b r=>ef 1 r fun ks r=>Ai r fun y r=>ak r fun mo r=>ai .i64 r fun n r=>ar r
 (aP (Zw (n<(m.length:Int))) (xW n m (Zp (m.getD (Zx n) .undef) fun q=>B9 (hasB y q) fun b6=>aP (!b6)
   (xW n m (Zp (m.getD (Zx n) .undef) fun q2=>aA (Go.Abs.room q2.length 1) (aA (Go.Abs.room (y.length+[AV.bs q2].length) 24) (Zy (.inl [.sl 1 m,.sl 1 a,.sl 1 b,.sl 1 ks,.aD (y++[.bs q2]),.bool Zh,up n])))))
   (Zy (.inl [.sl 1 m,.sl 1 a,.sl 1 b,.sl 1 ks,.aD y,.bool mo,up n]))))
  (Zy (.inr (.exit 2,[.sl 1 m,.sl 1 a,.sl 1 b,.sl 1 ks,.aD y,.bool mo,iv n]))))
noncomputable def VQ(ks bs l m:List AV):Option (AV×aZ):=aA (Go.Abs.room ks.length 8) (aA (Go.Abs.room bs.length 24)
 (Zz (bH ZJ [.sl 1 l,.sl 1 m,.sl 1 [],.sl 1 [],.sl 1 ks,.aD bs,.bool Zu,iv 0]) fun r=>ef 1 r.2 fun _ r1=>ef 1 r1 fun m r1=>ef 1 r1 fun a r1=>ef 1 r1 fun b r1=>ef 1 r1 fun ks r1=>Ai r1 fun y r1=>ak r1 fun mo r1=>ai .i64 r1 fun _ r1=>ar r1 (mZ r.1 Yz fun j=>aP (Zk j 0)
  (Zz (bH Lm [.sl 1 m,.sl 1 a,.sl 1 b,.sl 1 ks,.aD y,.bool mo,iv 0]) fun r=>ef 1 r.2 fun _ r1=>ef 1 r1 fun _ r1=>ef 1 r1 fun _ r1=>ef 1 r1 fun ks r1=>Ai r1 fun y r1=>ak r1 fun mo r1=>ai .i64 r1 fun _ r1=>ar r1 (mZ r.1 Yz fun j=>aP (Zk j 2) (Zy (.bC [.agg [.sl 1 ks,.sl 1 y],.bool mo],[])) Yz)) Yz)))
def ru{α:Type}[BEq α](K l:List α):Bool:=l.any fun k => !K.contains k
theorem NR(K L:List Int){i:Nat}(h:i<L.length):ru K (L.take (i+1))=bif (gw K (L.take i)).contains (L.getD i 0) then ru K (L.take i) else Zh:=by
 rw[sG 0 h];unfold ru;rw[List.any_append];cases hc:(gw K (L.take i)).contains (L.getD i 0) with
 | true =>
  have hc:=jy.1 (Zd.1 hc);simp only[List.any_cons,List.any_nil,Zm,Qa6];cases hk:K.contains (L.getD i 0) with
  | true=>simp
  | false =>
   have qW:L.getD i 0 ∉ K:=by simpa using hk
   have:L.getD i 0∈L.take i:=hc.resolve_left qW;rw[Zq.2 ⟨_,this,by simpa using qW⟩];rfl
 | false =>
  have hk:L.getD i 0 ∉ K:=fun q=>by
   have:(gw K (L.take i)).contains (L.getD i 0)=Zh:=Zd.2 (jy.2 (.inl q));rw[this] at hc;cases hc
  have:K.contains (L.getD i 0)=Zu:=by simpa using hk
  simp only[List.any_cons,List.any_nil,Zm,Qa7,this,Bool.not_false,Bool.or_true]
theorem NQ(K L:List Bytes){i:Nat}(h:i<L.length):ru K (L.take (i+1))=bif (iO K (L.take i)).contains (L.getD i []) then ru K (L.take i) else Zh:=by
 rw[sG [] h];unfold ru;rw[List.any_append];cases hc:(iO K (L.take i)).contains (L.getD i []) with
 | true =>
  have hc:=iq.1 (Zd.1 hc);simp only[List.any_cons,List.any_nil,Zm,Qa6];cases hk:K.contains (L.getD i []) with
  | true=>simp
  | false =>
   have qW:L.getD i [] ∉ K:=by simpa using hk
   have:L.getD i []∈L.take i:=hc.resolve_left qW;rw[Zq.2 ⟨_,this,by simpa using qW⟩];rfl
 | false =>
  have hk:L.getD i [] ∉ K:=fun q=>by
   have:(iO K (L.take i)).contains (L.getD i [])=Zh:=Zd.2 (iq.2 (.inl q));rw[this] at hc;cases hc
  have:K.contains (L.getD i [])=Zu:=by simpa using hk
  simp only[List.any_cons,List.any_nil,Zm,Qa7,this,Bool.not_false,Bool.or_true]
theorem aca{n:Nat}(h:n<=140737488355328):Go.Abs.room n 1=Zh:=by
 unfold Go.Abs.room;simp only[Zj,Nat.ble_eq];omega
theorem O6(m a b ks y:List AV)(mo:Bool)(n:Int):Lm [.sl 1 m,.sl 1 a,.sl 1 b,.sl 1 ks,.aD y,.bool mo,iv n]=aP (Zw (n<(m.length:Int))) (xW n m (Zp (m.getD (Zx n) .undef) fun q=>B9 (hasB y q) fun b6=>aP (!b6)
   (xW n m (Zp (m.getD (Zx n) .undef) fun q2=>aA (Go.Abs.room q2.length 1) (aA (Go.Abs.room (y.length+1) 24) (Zy (.inl [.sl 1 m,.sl 1 a,.sl 1 b,.sl 1 ks,.aD (y++[.bs q2]),.bool Zh,up n])))))
   (Zy (.inl [.sl 1 m,.sl 1 a,.sl 1 b,.sl 1 ks,.aD y,.bool mo,up n]))))
  (Zy (.inr (.exit 2,[.sl 1 m,.sl 1 a,.sl 1 b,.sl 1 ks,.aD y,.bool mo,iv n]))):=rfl
theorem SU{s:Kn}(hs:fU s){x:Ax}(h1:x.keys.length<=1000)(h2:x.boxes.length<=1000)(h3:∀ b∈x.boxes,b.length<=140737488355328) :
  VQ (dl s.keys) (dG s.boxes) (dl x.keys) (dG x.boxes)=Zy (.bC [.agg [.sl 1 (dl (s.add x).keys),.sl 1 (dG (s.add x).boxes)],.bool (!s.has x)],[]):=by
 have n1:=hs.L7;have n2:=hs.E8;unfold VQ;rw[fR,gq,ae (KQ (by omega)),ae (TW (by omega))];refine CA (fun i=>[.sl 1 (dl x.keys),.sl 1 (dG x.boxes),.sl 1 [],.sl 1 [],.sl 1 (dl (gw s.keys (x.keys.take i))),.aD (dG s.boxes),.bool (ru s.keys (x.keys.take i)),iv i]) x.keys.length (fun i hi=> ?_)
  ⟨(.exit 0,[.sl 1 (dl x.keys),.sl 1 (dG x.boxes),.sl 1 [],.sl 1 [],.sl 1 (dl (gw s.keys x.keys)),.aD (dG s.boxes),.bool (ru s.keys x.keys),iv x.keys.length]),?_,?_⟩ rfl
 ·have pg:i<(dl x.keys).length:=by rw[fR];exact hi
  have hm:(gw s.keys (x.keys.take i)).length<=100000000:=Nat.le_trans xt (by rw[List.length_take];omega);show aP (Zw ((i:Int)<((dl x.keys).length:Int))) (xW i (dl x.keys) (AV.ax .u64 ((dl x.keys).getD (Zx i) .undef) fun k=>Hc (dl (gw s.keys (x.keys.take i))) k fun b6=>aP (!b6) (xW i (dl x.keys) (AV.ax .u64 ((dl x.keys).getD (Zx i) .undef) fun k2=>Zz (aA (da (dl (gw s.keys (x.keys.take i)))&&Zw ((dl (gw s.keys (x.keys.take i))).length<=1000000000)) (Zy (rb (.sl 1 (dl (jO (cO (dl (gw s.keys (x.keys.take i)))) k2)))))) _)) _)) _=_;rw[ah (zc pg),ng pg,ng pg,Zv,A4 hi];show Hc (dl (gw s.keys (x.keys.take i))) (x.keys.getD i 0) (fun b6=>aP (!b6) (Zz (aA (da (dl (gw s.keys (x.keys.take i)))&&Zw ((dl (gw s.keys (x.keys.take i))).length<=1000000000)) (Zy (rb (.sl 1 (dl (jO (cO (dl (gw s.keys (x.keys.take i)))) (x.keys.getD i 0))))))) _) _)=_;rw[xP _ hm,yC,fR (gw _ _),f_,ae (by simp;omega),JG _ _ hi,NR _ _ hi,Jt (by omega)];cases (gw s.keys (x.keys.take i)).contains (x.keys.getD i 0)<;>rfl
 ·show aP (Zw ((x.keys.length:Int)<((dl x.keys).length:Int))) _ _=_;rw[aq (ZA _),List.take_length]
 show Zz (bH Lm [.sl 1 (dG x.boxes),.sl 1 [],.sl 1 [],.sl 1 (dl (gw s.keys x.keys)),.aD (dG s.boxes),.bool (ru s.keys x.keys),iv 0]) _=_;generalize Zs:ru s.keys x.keys=mo;have ht:[Zb 1 (dG x.boxes),Zb 1 [],Zb 1 [],Zb 1 (dl (gw s.keys x.keys)),AV.aD (dG s.boxes),AV.bool mo,iv 0]=[.sl 1 (dG x.boxes),.sl 1 [],.sl 1 [],.sl 1 (dl (gw s.keys x.keys)),.aD (dG (iO s.boxes (x.boxes.take 0))),.bool (mo||ru s.boxes (x.boxes.take 0)),iv ((0:Nat):Int)]:=by
  show _=[_,_,_,_,_,AV.bool (mo||false),_];rw[Zm];rfl
 refine CA (fun i=>[.sl 1 (dG x.boxes),.sl 1 [],.sl 1 [],.sl 1 (dl (gw s.keys x.keys)),.aD (dG (iO s.boxes (x.boxes.take i))),.bool (mo||ru s.boxes (x.boxes.take i)),iv i]) x.boxes.length (fun i hi=> ?_)
  ⟨(.exit 2,[.sl 1 (dG x.boxes),.sl 1 [],.sl 1 [],.sl 1 (dl (gw s.keys x.keys)),.aD (dG (iO s.boxes x.boxes)),.bool (mo||ru s.boxes x.boxes),iv x.boxes.length]),?_,?_⟩ ht
 ·have pg:i<(dG x.boxes).length:=by rw[gq];exact hi
  have hm:(iO s.boxes (x.boxes.take i)).length<=100000000:=Nat.le_trans (O7 _ _) (by rw[List.length_take];omega);show Lm [.sl 1 (dG x.boxes),.sl 1 [],.sl 1 [],.sl 1 (dl (gw s.keys x.keys)),.aD (dG (iO s.boxes (x.boxes.take i))),.bool (mo||ru s.boxes (x.boxes.take i)),iv i]=_;rw[O6,ah (zc pg),ng pg,ng pg,Zv,nG hi];simp only[AR];rw[Ti _ hm,ae (aca (h3 _ (pM [] hi))),gq (iO _ _),ae (Ra hm),Jr,JF _ _ hi,NQ _ _ hi,Jt (by omega)];show aP (!(iO s.boxes (x.boxes.take i)).contains (x.boxes.getD i [])) _ _=_;cases (iO s.boxes (x.boxes.take i)).contains (x.boxes.getD i [])
  ·rw[Bool.not_false,gn,Qa7,Qa7,Bool.or_true]
  ·rw[Bool.not_true,aR,Qa6,Qa6]
 ·show aP (Zw ((x.boxes.length:Int)<((dG x.boxes).length:Int))) _ _=_;rw[aq (noB _),List.take_length]
 ·rw[WH];show Zy ((_,_):AV×aZ)=_;rw[Bool.not_and,Bool.not_not,Bool.not_not,<-Zs];rfl
noncomputable def Ii{α:Type}(t:List UInt8)(f:Int->Int->List UInt8->Int->Int->Option α):Option α :=
 Zz (aA (Zw (t.length<=140737488355328)) (Zy (rb (.bC [.agg [.int .i64 (bj t).box.kind,.int .u64 (bj t).box.key,.bs (bj t).box.body],.int .i64 (bj t).n,.int .i64 (bj t).err])))) fun r=>aJ r.2 (AV.gP r.1 fun vs=>az vs fun x r=>AV.dD x fun cs=>ai .i64 cs fun kd r1=>ai .u64 r1 fun ky r1=>cP r1 fun bd r1=>ar r1 (ai .i64 r fun n r=>ai .i64 r fun er r=>ar r (f kd ky bd n er)))
theorem Ij{α:Type}{t:Bytes}(h:t.length<=140737488355328)(f:Int->Int->List UInt8->Int->Int->Option α):Ii t f=f (bj t).box.kind (bj t).box.key (bj t).box.body (bj t).n (bj t).err:=by
 unfold Ii;rw[ae (Qa4 h)];rfl
noncomputable def Tx{α:Type}(kd ky:Int)(bd:List UInt8)(f:List AV->List AV->Option α):Option α :=
 Zz (aA (Zw (bd.length<=70368744170000)) (Zy (rb (.bC [.sl 1 (dl (jv ⟨kd,ky,bd⟩).keys),.sl 1 (dG (jv ⟨kd,ky,bd⟩).boxes)])))) fun r=>aJ r.2 (AV.gP r.1 fun vs=>ef 1 vs fun kl r=>ef 1 r fun bl r=>ar r (f kl bl))
theorem LX{α:Type}{kd ky:Int}{bd:Bytes}(h:bd.length<=70368744170000)(f:List AV->List AV->Option α):Tx kd ky bd f=f (dl (jv ⟨kd,ky,bd⟩).keys) (dG (jv ⟨kd,ky,bd⟩).boxes):=by
 unfold Tx;rw[ae (Qa4 h)];rfl
noncomputable def Ln{α:Type}(ks bs l m:List AV)(f:List AV->List AV->Bool->Option α):Option α :=
 Zz (aA (eo ks bs&&da l&&zE m&&Zw (l.length<=1000)&&Zw (m.length<=1000)&&(gp m).all fun b=>Zw (b.length<=140737488355328)) (Zy (rb (.bC [.agg [.sl 1 (dl ((kn ks bs).add ⟨cO l,gp m⟩).keys),.sl 1 (dG ((kn ks bs).add ⟨cO l,gp m⟩).boxes)],.bool (!(kn ks bs).has ⟨cO l,gp m⟩)])))) fun r=>aJ r.2 (AV.gP r.1 fun vs=>az vs fun x r=>AV.dD x fun cs=>ef 1 cs fun k2 r1=>ef 1 r1 fun b2 r1=>ar r1 (ak r fun mo r=>ar r (f k2 b2 mo)))
theorem O8{α:Type}{s:Kn}(hs:fU s){x:Ax}(h1:x.keys.length<=1000)(h2:x.boxes.length<=1000)(h3:∀ b∈x.boxes,b.length<=140737488355328)(f:List AV->List AV->Bool->Option α):Ln (dl s.keys) (dG s.boxes) (dl x.keys) (dG x.boxes) f=f (dl (s.add x).keys) (dG (s.add x).boxes) (!s.has x):=by
 unfold Ln;have h3':x.boxes.all (fun b=>Zw (b.length<=140737488355328))=Zh:=Zg.2 fun b hb=>Qa4 (h3 b hb);rw[nk,f_,om,x4.2 hs,yC,Gr,fR,gq,h3',ae (by simp;omega)];rfl
noncomputable def xD{α:Type}(qV:Nat)(ks bs:List AV)(f:List AV->List AV->Option α):Option α :=
 Zz (aA (eo ks bs&&Zw ((fb (kn ks bs):Int)<(qV:Int))) (Zy (rb (.agg [.sl 1 (dl (close (kn ks bs)).keys),.sl 1 (dG (close (kn ks bs)).boxes)])))) fun r=>aJ r.2 (AV.dD r.1 fun cs=>ef 1 cs fun k2 r=>ef 1 r fun b2 r=>ar r (f k2 b2))
theorem JO{α:Type}{qV:Nat}{s:Kn}(hs:fU s)(h:fb s<qV)(f:List AV->List AV->Option α):xD qV (dl s.keys) (dG s.boxes) f=f (dl (close s).keys) (dG (close s).boxes):=by
 unfold xD;rw[nk,x4.2 hs,ae (by simp;omega)];rfl
noncomputable def Lw(qV:Nat)(st:List AV):St:=ef 1 st fun ks r=>ef 1 r fun bs r=>ef 1 r fun a r=>ef 1 r fun b r=>ai .i64 r fun n r=>ar r
 (aP (Zw (n<(bs.length:Int))) (xW n bs (Zp (bs.getD (Zx n) .undef) fun t=>Ii t fun kd ky bd _ _=>Hc ks ky fun b6=>aP (!b6) (Zy (.inl [.sl 1 ks,.sl 1 bs,.sl 1 a,.sl 1 b,up n]))
   (Tx kd ky bd fun kl bl=>Ln ks bs kl bl fun k2 b2 mo=>aP mo (xD qV k2 b2 fun k3 b3=>Zy (.inr (.ret,[.sl 1 ks,.sl 1 bs,.sl 1 k3,.sl 1 b3,iv n]))) (Zy (.inl [.sl 1 ks,.sl 1 bs,.sl 1 a,.sl 1 b,up n])))))
  (Zy (.inr (.exit 0,[.sl 1 ks,.sl 1 bs,.sl 1 a,.sl 1 b,iv n]))))
noncomputable def Fa(qV:Nat)(ks bs:List AV):Option (AV×aZ):=Zz (bH (Lw qV) [.sl 1 ks,.sl 1 bs,.sl 1 [],.sl 1 [],iv 0]) fun r=>ef 1 r.2 fun ks r1=>ef 1 r1 fun bs r1=>ef 1 r1 fun a r1=>ef 1 r1 fun b r1=>ai .i64 r1 fun _ r1=>ar r1
 (mZ r.1 (Zy (.agg [.sl 1 a,.sl 1 b],[])) fun j=>aP (Zk j 0) (Zy (.agg [.sl 1 ks,.sl 1 bs],[])) Yz)
theorem Ih{b:Bytes}(h:(bj b).err≠0):(bj b).box=vh:=by grind [bj]
theorem Lt{t:Bytes}(h:t.length<=70368744170000):(bj t).box.body.length<=70368744170000:=by
 rcases tL t with h1 | h1
 ·omega
 ·rw[h1];exact Nat.zero_le _
theorem JP{s:Kn}(hs:fU s){qV:Nat}(hd:fb s<=qV):Fa qV (dl s.keys) (dG s.boxes)=Zy (.agg [.sl 1 (dl (close s).keys),.sl 1 (dG (close s).boxes)],[]):=by
 have n1:=hs.L7;have n2:=hs.E8;unfold Fa;refine dq (enc:=fun(i:Nat)=>[.sl 1 (dl s.keys),.sl 1 (dG s.boxes),.sl 1 [],.sl 1 [],iv (i:Int)]) (I:=fun i=>i<=s.boxes.length/\∀ j,j<i->s.opens (s.boxes.getD j [])=Zu) (μ:=fun i=>s.boxes.length-i)
  (R:=fun r=>(r=(.exit 0,[.sl 1 (dl s.keys),.sl 1 (dG s.boxes),.sl 1 [],.sl 1 [],iv s.boxes.length])/\s.next=Yz)\/∃ n,r=(.ret,[.sl 1 (dl s.keys),.sl 1 (dG s.boxes),.sl 1 (dl (close s).keys),.sl 1 (dG (close s).boxes),iv n])) 0 ⟨Nat.zero_le _,fun j h=>by omega⟩ rfl ?_ ?_
 ·rintro i ⟨hi,hj⟩;by_cases h:i<s.boxes.length;case neg =>
   obtain rfl:i=s.boxes.length:=by omega
   refine⟨.inr (.exit 0,[.sl 1 (dl s.keys),.sl 1 (dG s.boxes),.sl 1 [],.sl 1 [],iv s.boxes.length]),?_,.inl ⟨rfl,?_⟩⟩
   ·show aP (Zw ((s.boxes.length:Int)<((dG s.boxes).length:Int))) _ _=_;rw[aq (noB _)]
   ·unfold Kn.next;rw[List.find?_eq_none];intro x hx;obtain⟨j,Tn,rfl⟩:=List.mem_iff_getElem.1 hx;have:=hj j Tn;simpa [Zf,Tn] using this
  have pg:i<(dG s.boxes).length:=by rw[gq];exact h
  have hlen:=hs.len _ (pM [] h);have e0:Lw qV [.sl 1 (dl s.keys),.sl 1 (dG s.boxes),.sl 1 [],.sl 1 [],iv (i:Int)]=aP (!s.keys.contains (bj (s.boxes.getD i [])).box.key) (Zy (.inl [.sl 1 (dl s.keys),.sl 1 (dG s.boxes),.sl 1 [],.sl 1 [],up i]))
    (aP (!s.has (cA (s.boxes.getD i []))) (xD qV (dl (s.add (cA (s.boxes.getD i []))).keys) (dG (s.add (cA (s.boxes.getD i []))).boxes) fun k3 b3=>Zy (.inr (.ret,[.sl 1 (dl s.keys),.sl 1 (dG s.boxes),.sl 1 k3,.sl 1 b3,iv i]))) (Zy (.inl [.sl 1 (dl s.keys),.sl 1 (dG s.boxes),.sl 1 [],.sl 1 [],up i]))):=by
   have uv:=BJ (s.boxes.getD i []);show aP (Zw ((i:Int)<((dG s.boxes).length:Int))) (xW i (dG s.boxes) (Zp ((dG s.boxes).getD (Zx i) .undef) _)) _=_;rw[ah (zc pg),ng pg,Zv,nG h];show Ii (s.boxes.getD i []) _=_;rw[Ij (by omega),xP _ (by omega),LX (Lt hlen)];show aP _ _ (Ln (dl s.keys) (dG s.boxes) (dl (cA (s.boxes.getD i [])).keys) (dG (cA (s.boxes.getD i [])).boxes) _)=_;rw[O8 hs (by have:=uv.keys;omega) (by have:=uv.boxes;omega) (fun b hb=>by have:=uv.len b hb;omega)]
  have step:s.opens (s.boxes.getD i [])=Zu->GB (fun(i:Nat)=>[Zb 1 (dl s.keys),Zb 1 (dG s.boxes),Zb 1 [],Zb 1 [],iv (i:Int)]) (fun i=>i<=s.boxes.length/\∀ j,j<i->s.opens (s.boxes.getD j [])=Zu) (fun i=>s.boxes.length-i)
    (fun r=>(r=((.exit 0:Ex),[Zb 1 (dl s.keys),Zb 1 (dG s.boxes),Zb 1 [],Zb 1 [],iv s.boxes.length])/\s.next=Yz)\/∃ n,r=((.ret:Ex),[Zb 1 (dl s.keys),Zb 1 (dG s.boxes),Zb 1 (dl (close s).keys),Zb 1 (dG (close s).boxes),iv n])) i (.inl [Zb 1 (dl s.keys),Zb 1 (dG s.boxes),Zb 1 [],Zb 1 [],up i]):=fun ho =>
   ⟨i+1,by dsimp only;rw[Jt (by omega)],⟨h,fun j OR=>by
    by_cases e:j=i
    ·rw[e];exact ho
    ·exact hj j (by omega)⟩,show s.boxes.length-(i+1)<s.boxes.length-i by omega⟩
  rw[e0];cases hk:s.keys.contains (bj (s.boxes.getD i [])).box.key with
  | false=>exact⟨_,rfl,step (by unfold Kn.opens;rw[hk];simp)⟩
  | true =>
   cases hh:s.has (cA (s.boxes.getD i [])) with
   | true=>exact⟨_,rfl,step (by unfold Kn.opens;rw[hh];simp)⟩
   | false =>
    have he:(bj (s.boxes.getD i [])).err=0:=by
     refine Classical.byContradiction fun hc=> ?_;have:cA (s.boxes.getD i [])=⟨[],[]⟩:=by unfold cA;rw[Ih hc];rfl
     rw[this] at hh;cases hh
    have ho:s.opens (s.boxes.getD i [])=Zh:=by unfold Kn.opens;rw[hk,hh,he];rfl
    have hn:s.next=Zy (s.boxes.getD i []):=by
     unfold Kn.next;rw[List.find?_eq_some_iff_getElem];refine⟨ho,i,h,by simp[Zf,h],fun j Tn=> ?_⟩;have:=hj j Tn;simpa [Zf,Nat.lt_trans Tn h] using this
    have gO:=qK (pM [] h) ho;refine⟨.inr (.ret,[.sl 1 (dl s.keys),.sl 1 (dG s.boxes),.sl 1 (dl (close s).keys),.sl 1 (dG (close s).boxes),iv i]),?_,Or.inr ⟨i,rfl⟩⟩;show xD qV _ _ _=_;rw[JO (hs.open (pM [] h) ho) (by omega),<-Bj hn]
 ·rintro r (⟨rfl,hn⟩ | ⟨n,rfl⟩)
  ·rw[wM hn];rfl
  ·rfl
noncomputable def Pt{α:Type}(ks bs:List AV)(b:List UInt8)(f:Bool->Option α):Option α:=Zz (aA (eo ks bs&&Zw (b.length<=70368744170000)) (Zy (rb (.bool (eu (kn ks bs) b))))) fun r=>aJ r.2 (AV.dS r.1 f)
theorem Lu{α:Type}{s:Kn}(hs:fU s){b:Bytes}(h:b.length<=70368744170000)(f:Bool->Option α):Pt (dl s.keys) (dG s.boxes) b f=f (eu s b):=by
 unfold Pt;rw[nk,x4.2 hs,ae (by simp;omega)];rfl
noncomputable def aaq(st:List AV):St:=ef 1 st fun ks r=>ef 1 r fun bs r=>ak r fun c r=>ef 1 r fun l r=>ai .i64 r fun n r=>ar r
 (aP (Zw (n<(l.length:Int))) (xW n l (Zp (l.getD (Zx n) .undef) fun t=>Pt ks bs t fun b5=>aP (!b5) (Zy (.inr (.ret,[.sl 1 ks,.sl 1 bs,.bool Zu,.sl 1 l,iv n]))) (Zy (.inl [.sl 1 ks,.sl 1 bs,.bool c,.sl 1 l,up n]))))
  (Zy (.inr (.exit 0,[.sl 1 ks,.sl 1 bs,.bool c,.sl 1 l,iv n]))))
noncomputable def U3{α:Type}(b:List UInt8)(f:List AV->Option α):Option α:=Zz (aA (Zw (b.length<=70368744170000)) (Zy (rb (.sl 1 (dG (partsOf b)))))) fun r=>aJ r.2 (AV.iH 1 r.1 f)
noncomputable def V0(ks bs:List AV)(b:List UInt8):Option (AV×aZ):=U3 b fun l=>Zz (bH aaq [.sl 1 ks,.sl 1 bs,.bool Zu,.sl 1 l,iv 0]) fun r=>ef 1 r.2 fun _ r1=>ef 1 r1 fun _ r1=>ak r1 fun c r1=>ef 1 r1 fun _ r1=>ai .i64 r1 fun _ r1=>ar r1
 (mZ r.1 (Zy (rb (.bool c))) fun j=>aP (Zk j 0) (Zy (rb (.bool Zh))) Yz)
theorem E3{α:Type}(l:List α)(p:α->Bool):l.all p = !(l.any fun x => !p x):=List.all_eq_not_any_not
theorem En{b x:Bytes}(hb:b.length<=70368744160000)(h:x∈partsOf b):x.length<=70368744170000:=by
 have:=(mE b).1 x h;omega
theorem S2{s:Kn}(hs:fU s){b:Bytes}(hb:b.length<=70368744160000):V0 (dl s.keys) (dG s.boxes) b=Zy (rb (.bool (AC s b))):=by
 have hp:=(mE b).2;unfold V0 U3;rw[ae (by simp;omega)];show Zz (bH aaq [.sl 1 (dl s.keys),.sl 1 (dG s.boxes),.bool Zu,.sl 1 (dG (partsOf b)),iv 0]) _=_;refine Qb3 (tb (A:=rb (.bool Zu)) (B:=rb (.bool Zh)) (fun i=>[.sl 1 (dl s.keys),.sl 1 (dG s.boxes),.bool Zu,.sl 1 (dG (partsOf b)),iv i]) (partsOf b).length (fun i => !eu s ((partsOf b).getD i [])) ?_ ?_ ?_ rfl) ?_
 ·intro i hi hq;have pg:i<(dG (partsOf b)).length:=by rw[gq];exact hi
  show aP (Zw ((i:Int)<((dG (partsOf b)).length:Int))) (xW i (dG (partsOf b)) (Zp ((dG (partsOf b)).getD (Zx i) .undef) _)) _=_;rw[ah (zc pg),ng pg,Zv,nG hi];show Pt (dl s.keys) (dG s.boxes) ((partsOf b).getD i []) _=_;rw[Lu hs (En hb (pM [] hi)),aq hq,Jt (by omega)]
 ·intro i hi hq;have pg:i<(dG (partsOf b)).length:=by rw[gq];exact hi
  refine⟨(.ret,[.sl 1 (dl s.keys),.sl 1 (dG s.boxes),.bool Zu,.sl 1 (dG (partsOf b)),iv i]),?_,rfl⟩;show aP (Zw ((i:Int)<((dG (partsOf b)).length:Int))) (xW i (dG (partsOf b)) (Zp ((dG (partsOf b)).getD (Zx i) .undef) _)) _=_;rw[ah (zc pg),ng pg,Zv,nG hi];show Pt (dl s.keys) (dG s.boxes) ((partsOf b).getD i []) _=_;rw[Lu hs (En hb (pM [] hi)),ah hq]
 ·refine⟨(.exit 0,[.sl 1 (dl s.keys),.sl 1 (dG s.boxes),.bool Zu,.sl 1 (dG (partsOf b)),iv (partsOf b).length]),?_,rfl⟩;show aP (Zw (((partsOf b).length:Int)<((dG (partsOf b)).length:Int))) _ _=_;rw[aq (noB _)]
 ·unfold AC;rw[qa (partsOf b) [] (fun x => !eu s x),E3];cases (partsOf b).any fun x => !eu s x<;>rfl
noncomputable def aaV(y:List AV)(b:List UInt8)(l:List AV):St:=ak l fun c r=>ai .i64 r fun i r=>ar r
 (aP (Zw (i<(y.length:Int))) (xW i y (Zp (y.getD (Zx i) .undef) fun q=>aP (q==b) (Zy (.inr (.ret,[.bool Zh,iv i]))) (Zy (.inl [.bool c,up i]))))
  (Zy (.inr (.exit 0,[.bool c,iv i]))))
noncomputable def PV(y:List AV)(b:List UInt8):Option (List AV):=Zz (bH (aaV y b) [.bool Zu,iv 0]) fun r=>ak r.2 fun c r1=>ai .i64 r1 fun _ r2=>ar r2 (mZ r.1 (Zy [.bool c]) fun j=>aP (Zk j 0) (Zy [.bool Zu]) Yz)
theorem PW{B:List Bytes}(b:Bytes)(h:B.length<=100000000):PV (dG B) b=Zy [.bool (B.contains b)]:=by
 have e:PV (dG B) b=Zy (bif (List.range (dG B).length).any (fun i=>B.getD i []==b) then[AV.bool Zh] else[AV.bool Zu]):=by
  refine tb (fun i=>[.bool Zu,iv i]) _ _ ?_ ?_ ?_ rfl
  ·intro i hi hp;have oP:i<B.length:=by rw[<-gq];exact hi
   show aP (Zw ((i:Int)<((dG B).length:Int))) (xW i (dG B) (Zp ((dG B).getD (Zx i) .undef) _)) _=_;rw[ah (zc hi),ng hi,Zv,nG oP];show aP (B.getD i []==b) _ _=_;rw[aq hp,Jt (by omega)]
  ·intro i hi hp;have oP:i<B.length:=by rw[<-gq];exact hi
   refine⟨(.ret,[.bool Zh,iv i]),?_,rfl⟩;show aP (Zw ((i:Int)<((dG B).length:Int))) (xW i (dG B) (Zp ((dG B).getD (Zx i) .undef) _)) _=_;rw[ah (zc hi),ng hi,Zv,nG oP];show aP (B.getD i []==b) _ _=_;rw[ah hp]
  ·refine⟨(.exit 0,[.bool Zu,iv (dG B).length]),?_,rfl⟩;show aP (Zw (((dG B).length:Int)<((dG B).length:Int))) _ _=_;rw[aq ab5]
 rw[e,gq,qa B [] (fun x=>x==b),rO];cases B.contains b<;>rfl
theorem NA(b:Bytes):k8 b=((bj b).err==0&&(bj b).n==(b.length:Int)):=rfl
theorem Qs(b:Bytes):jv ⟨(bj b).box.kind,(bj b).box.key,(bj b).box.body⟩=cA b:=rfl
noncomputable def ckS(st:List AV):St:=ef 1 st fun ks r=>ef 1 r fun bs r=>ak r fun c r=>ef 1 r fun kl r=>ef 1 r fun bl r=>ai .i64 r fun n r=>ar r
 (aP (Zw (n<(kl.length:Int))) (xW n kl (AV.ax .u64 (kl.getD (Zx n) .undef) fun k=>Hc ks k fun h=>aP (!h) (Zy (.inr (.ret,[.sl 1 ks,.sl 1 bs,.bool Zu,.sl 1 kl,.sl 1 bl,iv n]))) (Zy (.inl [.sl 1 ks,.sl 1 bs,.bool c,.sl 1 kl,.sl 1 bl,up n]))))
  (Zy (.inr (.exit 0,[.sl 1 ks,.sl 1 bs,.bool c,.sl 1 kl,.sl 1 bl,iv n]))))
noncomputable def cdC{α:Type}(qV:Nat)(ks bs:List AV)(t:List UInt8)(f:Bool->Option α):Option α:=Zz (aA (eo ks bs&&Zw (t.length<=70368744170000)&&Zw ((t.length:Int)<(qV:Int))) (Zy (rb (.bool (eu (kn ks bs) t))))) fun r=>aJ r.2 (AV.dS r.1 f)
theorem Pu{α:Type}{s:Kn}(hs:fU s){t:Bytes}(h:t.length<=70368744170000){qV:Nat}(hd:t.length<qV)(f:Bool->Option α):cdC qV (dl s.keys) (dG s.boxes) t f=f (eu s t):=by
 unfold cdC;rw[nk,x4.2 hs,ae (by simp;omega)];rfl
noncomputable def cbS(qV:Nat)(st:List AV):St:=ef 1 st fun ks r=>ef 1 r fun bs r=>ak r fun c r=>ef 1 r fun bl r=>ai .i64 r fun n r=>ar r
 (aP (Zw (n<(bl.length:Int))) (xW n bl (Zp (bl.getD (Zx n) .undef) fun t=>cdC qV ks bs t fun h=>aP (!h) (Zy (.inr (.ret,[.sl 1 ks,.sl 1 bs,.bool Zu,.sl 1 bl,iv n]))) (Zy (.inl [.sl 1 ks,.sl 1 bs,.bool c,.sl 1 bl,up n]))))
  (Zy (.inr (.exit 2,[.sl 1 ks,.sl 1 bs,.bool c,.sl 1 bl,iv n]))))
noncomputable def X2(qV:Nat)(ks bs:List AV)(b:List UInt8):Option (AV×aZ):=B9 (PV bs b) fun b1=>aP b1 (Zy (rb (.bool Zh))) (Ii b fun kd ky bd n er=>aP (!(er==0)) (Zy (rb (.bool Zu))) (aP (!(n==(b.length:Int))) (Zy (rb (.bool Zu))) (Hc ks ky fun h=>aP (!h) (Zy (rb (.bool Zu))) (Tx kd ky bd fun kl bl =>
 Zz (bH ckS [.sl 1 ks,.sl 1 bs,.bool Zu,.sl 1 kl,.sl 1 bl,iv 0]) fun r=>ef 1 r.2 fun ks r1=>ef 1 r1 fun bs r1=>ak r1 fun c r1=>ef 1 r1 fun _ r1=>ef 1 r1 fun bl r1=>ai .i64 r1 fun _ r1=>ar r1 (mZ r.1 (Zy (rb (.bool c))) fun j=>aP (Zk j 0)
  (Zz (bH (cbS qV) [.sl 1 ks,.sl 1 bs,.bool c,.sl 1 bl,iv 0]) fun r=>ef 1 r.2 fun _ r1=>ef 1 r1 fun _ r1=>ak r1 fun c r1=>ef 1 r1 fun _ r1=>ai .i64 r1 fun _ r1=>ar r1 (mZ r.1 (Zy (rb (.bool c))) fun j=>aP (Zk j 2) (Zy (rb (.bool Zh))) Yz)) Yz)))))
theorem TU{s:Kn}(hs:fU s){b:Bytes}(hb:b.length<=70368744170000){qV:Nat}(hd:b.length<=qV):X2 qV (dl s.keys) (dG s.boxes) b=Zy (rb (.bool (eu s b))):=by
 have n1:=hs.L7;have n2:=hs.E8;have uv:=BJ b;unfold X2;rw[PW _ (by omega)];show aP (s.boxes.contains b) _ _=_;rw[C6,NA];cases hc:s.boxes.contains b with
 | true=>rfl
 | false =>
  rw[aR,Ij (by omega),Bool.false_or];by_cases he:(bj b).err=0;case neg =>
   have h0:((bj b).err==0)=Zu:=by simpa using he
   rw[h0];rfl
  have hl:=Cv he;rw[he,aq (by rfl)];cases hn:(bj b).n==(b.length:Int) with
  | false=>rfl
  | true =>
   rw[Bool.not_true,aR,xP _ (by omega),show((0:Int)==0&&Zh)=Zh from rfl,Bool.true_and];cases hk:s.keys.contains (bj b).box.key with
   | false=>rfl
   | true =>
    rw[Bool.not_true,aR,LX (Lt hb),Bool.true_and,Qs];refine Qb3 (tb (A:=rb (.bool Zu)) (B:=rb (.bool ((cA b).boxes.all fun b=>eu s b))) (fun i=>[.sl 1 (dl s.keys),.sl 1 (dG s.boxes),.bool Zu,.sl 1 (dl (cA b).keys),.sl 1 (dG (cA b).boxes),iv i]) (cA b).keys.length (fun i => !s.keys.contains ((cA b).keys.getD i 0)) ?_ ?_ ?_ rfl) ?_
    ·intro i hi hq;have pg:i<(dl (cA b).keys).length:=by rw[fR];exact hi
     have hn1:=uv.keys;show aP (Zw ((i:Int)<((dl (cA b).keys).length:Int))) (xW i (dl (cA b).keys) (AV.ax .u64 ((dl (cA b).keys).getD (Zx i) .undef) _)) _=_;rw[ah (zc pg),ng pg,Zv,A4 hi,vQ,xP _ (by omega),aq hq,Jt (by omega)]
    ·intro i hi hq;have pg:i<(dl (cA b).keys).length:=by rw[fR];exact hi
     refine⟨(.ret,[.sl 1 (dl s.keys),.sl 1 (dG s.boxes),.bool Zu,.sl 1 (dl (cA b).keys),.sl 1 (dG (cA b).boxes),iv i]),?_,rfl⟩;show aP (Zw ((i:Int)<((dl (cA b).keys).length:Int))) (xW i (dl (cA b).keys) (AV.ax .u64 ((dl (cA b).keys).getD (Zx i) .undef) _)) _=_;rw[ah (zc pg),ng pg,Zv,A4 hi,vQ,xP _ (by omega),ah hq]
    ·refine⟨(.exit 0,[.sl 1 (dl s.keys),.sl 1 (dG s.boxes),.bool Zu,.sl 1 (dl (cA b).keys),.sl 1 (dG (cA b).boxes),iv (cA b).keys.length]),?_,?_⟩
     ·show aP (Zw (((cA b).keys.length:Int)<((dl (cA b).keys).length:Int))) _ _=_;rw[aq (ZA _)]
     show Zz (bH (cbS qV) [.sl 1 (dl s.keys),.sl 1 (dG s.boxes),.bool Zu,.sl 1 (dG (cA b).boxes),iv 0]) _=_;refine Qb3 (tb (A:=rb (.bool Zu)) (B:=rb (.bool Zh)) (fun i=>[.sl 1 (dl s.keys),.sl 1 (dG s.boxes),.bool Zu,.sl 1 (dG (cA b).boxes),iv i]) (cA b).boxes.length (fun i => !eu s ((cA b).boxes.getD i [])) ?_ ?_ ?_ rfl) ?_
     ·intro i hi hq;have pg:i<(dG (cA b).boxes).length:=by rw[gq];exact hi
      have nR:=uv.len _ (pM [] hi);have hn1:=uv.boxes;show aP (Zw ((i:Int)<((dG (cA b).boxes).length:Int))) (xW i (dG (cA b).boxes) (Zp ((dG (cA b).boxes).getD (Zx i) .undef) _)) _=_;rw[ah (zc pg),ng pg,Zv,nG hi,AR,Pu hs (by omega) (by omega),aq hq,Jt (by omega)]
     ·intro i hi hq;have pg:i<(dG (cA b).boxes).length:=by rw[gq];exact hi
      have nR:=uv.len _ (pM [] hi);refine⟨(.ret,[.sl 1 (dl s.keys),.sl 1 (dG s.boxes),.bool Zu,.sl 1 (dG (cA b).boxes),iv i]),?_,rfl⟩;show aP (Zw ((i:Int)<((dG (cA b).boxes).length:Int))) (xW i (dG (cA b).boxes) (Zp ((dG (cA b).boxes).getD (Zx i) .undef) _)) _=_;rw[ah (zc pg),ng pg,Zv,nG hi,AR,Pu hs (by omega) (by omega),ah hq]
     ·refine⟨(.exit 2,[.sl 1 (dl s.keys),.sl 1 (dG s.boxes),.bool Zu,.sl 1 (dG (cA b).boxes),iv (cA b).boxes.length]),?_,rfl⟩;show aP (Zw (((cA b).boxes.length:Int)<((dG (cA b).boxes).length:Int))) _ _=_;rw[aq (noB _)]
     ·rw[qa (cA b).boxes [] (fun x => !eu s x),E3];cases (cA b).boxes.any fun x => !eu s x<;>rfl
    ·rw[qa (cA b).keys 0 (fun x => !s.keys.contains x),E3 (cA b).keys];cases (cA b).keys.any fun x => !s.keys.contains x<;>rfl
end Kerb
/- Functions of the library that are taken as given: their contracts out of the kit's. -/
namespace Go.Abs
open Go.RowKit Go.Lib
section
variable {P:Program} {G:iY} {f:Nat} {fn:Func}
theorem Kept.refl{M:Nat->Prop}{w:World}{p:bP}(hn:JD w p):Kept M w p w p:=⟨rfl,rfl,rfl,Nat.le_refl _,fun _ _ _=>rfl,fun _ _=>rfl,hn⟩
theorem Ha{e t:Nat}(po:∀ vs (w:World),(callFunc f vs).run P w = .ok (.enter f vs) w){s:Spec}(xV:G.rts f=Zy [t])
  (h0:∀ (n c:Nat) w,Calls P f #[.slice Yz n c] w fun x w'=>x = .returned (.slice Yz 0 0)/\w'=w)
  (h1:∀ (a:Addr) (n c:Nat) (xs:List Int) (w:World),xs.length=n->n<=140737488355328->(∀ i,i<n->w.cell? (a.add i)=Zy (.int .u8 (xs.getD i 0))) ->
   Calls P f #[.slice (Zy a) n c] w fun x w'=>∃ v',x = .returned v'/\w'.ownsRow w.heap.size e 1 v' n (xs.map (Value.int .u8))/\Below w.heap.size w w')
  (hs:∀ xs bl r,s xs bl=Zy r->∃ b:List UInt8,xs=[.bs b]/\b.length<=140737488355328/\bl=[]/\r=(.bs b,[])):rL P G f s:=by
 intro call xs bl r bs rts g1 g2 w p fv bk W1 hG gh ha zJ;rw[xV] at g2;cases g2;obtain⟨b,rfl,Dc,rfl,hr⟩:=hs _ _ _ g1;cases hr;have Dk:fv.size=1:=gh;obtain⟨v0,rfl⟩:∃ a,fv = #[a]:=⟨fv[0],by apply Array.ext<;>simp[Dk];intro i hi;subst hi;rfl⟩;have r0:=ha 0 v0 _ rfl rfl;have hI:cu w p v0 (.bs b):=by
  rcases r0 with(h | ⟨_,_,_,h,_⟩) | ⟨_,_,_,h,_⟩ | ⟨_,_,_,_,_,_,h,_⟩
  ·exact h
  ·cases h
  ·cases h
  ·cases h
 left;refine⟨po _ w,?_⟩;cases hI with
 | bs β off hl qD UB hcell =>
  rename_i a len cap;cases a with
  | none =>
   have Nd:b=[]:=by
    rcases UB with h | h
    ·exact List.eq_nil_of_length_eq_zero (by omega)
    ·cases h
   subst Nd;refine(h0 len cap w).mono ?_;rintro x w' ⟨rfl,rfl⟩;exact⟨_,rfl,p,Kept.refl W1,.inl (.inl (.bs 0 0 rfl (Nat.le_refl _) (.inl rfl) fun i b hb=>by simp at hb)),⟨rfl,fun i j cs kU h=>by simp at h⟩⟩
  | some a =>
   refine(h1 a len cap (b.map fun c=>(c.toNat:Int)) w (by simp[hl]) (by omega) (fun i hi=> ?_)).mono ?_
   ·rcases UB with h | h
    ·omega
    ·cases h;have rZ:b[i]? = Zy b[i]:=List.getElem?_eq_getElem (by omega);rw[eV];have:=(hcell i _ rZ).2;rw[this];simp[lL,List.getD_eq_getElem?_getD,rZ]
   ·rintro x w' ⟨v',rfl,Ap,Am⟩;obtain⟨hlen,⟨rfl,hn⟩ | ⟨β',aar,kG,rfl,hB,hh,uj,yV,hcs,gH⟩⟩:=Ap
    ·have Nd:b=[]:=List.eq_nil_of_length_eq_zero (by omega);subst Nd;exact⟨_,rfl,p,⟨Am.os,Am.tape,Am.output,Am.size,fun β hβ _=>Am.block β hβ,fun _ _=>rfl,fun β hβ=>W1 β (Nat.le_trans Am.size hβ)⟩,.inl (.inl (.bs 0 0 rfl (Nat.le_refl _) (.inl rfl) fun i b hb=>by simp at hb)),⟨rfl,fun i j cs kU h=>by simp at h⟩⟩
    ·have gO:=l9 hh;refine⟨_,rfl,raise p (Zy β') len,⟨Am.os,Am.tape,Am.output,Am.size,fun β hβ _=>Am.block β hβ,fun β hβ=>nA (by simp;omega),fun β hβ=> ?_⟩,.inl (.inl (.bs β' 0 hl uj (.inr rfl) fun i c hc=>⟨?_,?_⟩)),⟨rfl,fun i j cs kU h=>by simp at h⟩⟩
     ·rw[nA (by simp;omega)];exact W1 β (Nat.le_trans Am.size hβ)
     ·rw[gN rfl];have:=(List.getElem?_eq_some_iff.1 hc).1;omega
     ·have hi:i<len:=by have:=(List.getElem?_eq_some_iff.1 hc).1;omega
      rw[Nat.zero_add,ff hh];have h2:(kG.toList.take (len*1))[i]? = Zy (lL c):=by
       rw[gH];simp[hc,lL]
      rw[List.getElem?_take,Qa1 (by omega)] at h2;simpa using h2
end
end Go.Abs
/- slices.Grow of nil, for rows of structs and numbers. -/
namespace Go.Abs
open Go.RowKit Go.Lib
section
variable {P:Program} {G:iY} {f:Nat} {fn:Func}
theorem Hb{e t:Nat}{cap:World->Nat->Nat}{cells:World->Nat->Array Value}(po:∀ vs (w:World),(callFunc f vs).run P w = .ok (.enter f vs) w){s:Spec}(xV:G.rts f=Zy [t]){i ei:TI}(FF:G.ty t=Zy i)(hk:i.kind = .slice e Zu)(hte:G.ty e=Zy ei)(kZ:0<ei.size)
  (h0:∀ a w,Calls P f #[.slice a 0 0,.int .i64 0] w fun x w'=>x = .returned (.slice a 0 0)/\w'=w)
  (h1:∀ a (n:Nat) w,0<n->n<=1000000000000->Calls P f #[.slice a 0 0,.int .i64 n] w fun x w'=>x = .returned (.slice (Zy ⟨w.heap.size,0,Yz⟩) 0 (cap w n))/\w'=w.drew.alloc (.cells (cells w n) e))
  (qD:∀ w n,0<n->n<=1000000000000->n<=cap w n/\cap w n<=maxLen/\(cells w n).size=cap w n*ei.size)
  (hs:∀ xs bl r,s xs bl=Zy r->∃ n:Int,xs=[.bY,.int .i64 n]/\0<=n/\n<=1000000000000/\bl=[]/\r=(.aD [],[])):rL P G f s:=by
 intro call xs bl r bs rts g1 g2 w p fv bk W1 hG gh ha zJ;rw[xV] at g2;cases g2;obtain⟨n,rfl,hn0,hn1,rfl,hr⟩:=hs _ _ _ g1;cases hr;have Dk:fv.size=2:=gh;obtain⟨v0,v1,rfl⟩:∃ a b,fv = #[a,b]:=⟨fv[0],fv[1],by apply Array.ext<;>simp[Dk];intro i h1 h2;rcases i with _ | _ | i<;>first | rfl | omega⟩;have r0:=ha 0 v0 _ rfl rfl;have r1:=ha 1 v1 _ rfl rfl;have e0:∃ a,v0 = .slice a 0 0:=by
  rcases r0 with(h | ⟨_,_,_,h,_⟩) | ⟨_,_,_,h,_⟩ | ⟨_,_,_,_,_,_,h,_⟩
  ·cases h;exact⟨_,rfl⟩
  ·cases h
  ·cases h
  ·cases h
 have e1:v1 = .int .i64 n:=by
  rcases r1 with(h | ⟨_,_,_,h,_⟩) | ⟨_,_,_,h,_⟩ | ⟨_,_,_,_,_,_,h,_⟩
  ·cases h;rfl
  ·cases h
  ·cases h
  ·cases h
 obtain⟨a,rfl⟩:=e0;subst e1;left;refine⟨po _ w,?_⟩;have Dd:mQ w w p bk [] [] []:=⟨rfl,fun i j cs kU h=>by simp at h⟩;obtain⟨m,rfl⟩:=Int.eq_ofNat_of_zero_le hn0;rcases Nat.eq_zero_or_pos m with hz | hz
 ·subst hz;refine(h0 a w).mono ?_;rintro x w' ⟨rfl,rfl⟩;exact⟨_,rfl,p,Kept.refl W1,.inr (.inr (.inl ⟨i,e,ei,[],[],FF,hk,hte,rfl,kZ,fun x hx=>(nomatch hx),⟨by simp,.inl ⟨rfl,_,rfl⟩⟩,bp.nil,fun β hβ=>by cases a<;>simp[cj] at hβ⟩)),⟨rfl,fun i j cs kU h=>by simp at h⟩⟩
 ·refine(h1 a m w hz (by omega)).mono ?_;rintro x w' ⟨rfl,rfl⟩;obtain⟨c1,c2,c3⟩:=qD w m hz (by omega);refine⟨_,rfl,p,⟨rfl,rfl,rfl,by simp,fun β hβ _=> ?_,fun _ _=>rfl,fun β hβ=>W1 β (by simp at hβ;omega)⟩,.inr (.inr (.inl ⟨i,e,ei,[],[],FF,hk,hte,rfl,kZ,fun x hx=>(nomatch hx),⟨by simp,.inr ⟨w.heap.size,cap w m,cells w m,rfl,by omega,Nat.le_refl _,?_,by simp,c2,c3,by simp⟩⟩,bp.nil,fun β hβ=> ?_⟩)),⟨rfl,fun i j cs kU h=>by simp at h⟩⟩
  ·exact eH w.drew _ hβ
  ·exact fK w.drew _
  ·simp only[cj] at hβ;split at hβ
   ·cases hβ
   ·cases hβ;exact W1 _ (Nat.le_refl _)
end
end Go.Abs
/- Functions whose meaning is what their own code does. -/
namespace Go.Abs
noncomputable def Tw(G:iY)(call:DK):Nat->Nat->Option A_
 | 0,_=>Yz
 | m+1,f=>match G.inl f with
  | some fn=>Zy (V4 (G.keep f 9999998) ⟨Mk (G.keep f 9999999) ⟨G.ty,G.keep f,G.own,call,G.qY,[],0,Tw G call m⟩ G.rts fn,fun kb args=>Eb _ _ fn kb args⟩)
  | none=>Yz
noncomputable def M7(G:iY)(call:DK)(f:Nat):Env:=⟨G.ty,G.keep f,G.own,call,G.qY,[],0,Tw G call 12⟩
abbrev OM:=Nat->Option (Nat×List CT×Func)
noncomputable def oE(G:iY)(ow:OM):Nat->DK
 | 0=>fun _ _ _=>Yz
 | k+1=>fun f as cw=>match ow f with
  | some x=>(match Zk x.1 k with
   | true=>vp (M7 G (oE G ow k) f) G.rts (G.own f) x.2.2 (my x.2.1 as) cw
   | false=>oE G ow k f as cw)
  | none=>ga G.uc (k+1) f as cw
noncomputable def lock{α:Type}(a:α):{ x:α // x=a }:=Classical.choice ⟨⟨a,rfl⟩⟩
noncomputable def ownSp(G:iY)(ow:OM)(k f:Nat)(fn:Func):Spec:=(lock fun as cw=>vp (M7 G (oE G ow k) f) G.rts (G.own f) fn as cw).1
theorem H5(G:iY)(ow:OM)(k f:Nat)(fn:Func)(as:List AV)(cw:List (Nat×List AV)):ownSp G ow k f fn as cw=vp (M7 G (oE G ow k) f) G.rts (G.own f) fn as cw:=by
 unfold ownSp;rw[(lock fun as cw=>vp (M7 G (oE G ow k) f) G.rts (G.own f) fn as cw).2]
noncomputable def iY.full(G:iY)(ow:OM):iY:={ G with uc:=fun f=>match ow f with
 | some x=>Zy (x.1,x.2.1,ownSp G ow x.1 f x.2.2)
 | none=>G.uc f }
theorem Pr{a k:Nat}(h:Zk a k=Zu):Nat.blt a (k+1)=Nat.blt a k:=by
 have h1:a≠k:=fun e=>by rw[e] at h;simp at h
 cases h2:Nat.blt a k with
 | true =>
  have:a<k:=by simpa using h2
  have:a<k+1:=by omega
  simpa using this
 | false =>
  cases h3:Nat.blt a (k+1) with
  | false=>rfl
  | true =>
   have h4:a<k+1:=by simpa using h3
   have h5:¬ a<k:=fun h=>by
    have:Nat.blt a k=Zh:=by simpa using h
    rw[this] at h2;cases h2
   omega
theorem H6(G:iY)(ow:OM):∀ k,ga (G.full ow).uc k=oE G ow k:=by
 intro k;induction k with
 | zero =>
  funext f as cw;simp only[ga,oE];split
  ·rename_i x _;have:Nat.blt x.1 0=Zu:=by
    cases h:Nat.blt x.1 0 with
    | false=>rfl
    | true =>
     have:x.1<0:=by
      simp at h
     omega
   rw[this]
  ·rfl
 | succ k ih =>
  funext f as cw;simp only[oE];cases ho:ow f with
  | none=>simp only[ga,iY.full,ho]
  | some x =>
   simp only;cases hb:Zk x.1 k with
   | true =>
    have e:x.1=k:=Nat.eq_of_beq_eq_true hb;have hl:Nat.blt x.1 (k+1)=Zh:=by
     have:x.1<k+1:=by omega
     simpa using this
    subst e;simp only[ga,iY.full,ho,hl,H5]
   | false =>
    rw[<-ih];simp only[ga,iY.full,ho,Pr hb]
theorem TP{G:iY}{ow:OM}(k:Nat):∀ m,ww (G.full ow) k m=Tw G (oE G ow k) m:=by
 intro m;induction m with
 | zero=>funext f;rfl
 | succ m ih =>
  funext f;simp only[ww,Tw,ih,H6];rfl
theorem TO{G:iY}{ow:OM}(f k:Nat):(G.full ow).env f k=M7 G (oE G ow k) f:=by
 unfold iY.env M7;rw[TP,H6];rfl
theorem Ku{G G':iY}{ow:OM}(hG:G'=G.full ow)(k f:Nat)(fn:Func)(as:List AV)(cw:List (Nat×List AV)):ownSp G ow k f fn as cw=vp (G'.env f k) G'.rts (G'.own f) fn as cw:=by
 subst hG;rw[TO,H5];rfl
theorem Kv {P : Program} {G G' : iY} {ow : OM} (hG : G' = G.full ow) {f k : Nat} {fn : Func} (h1 : P.funcs[f]? = Zy fn) (h2 : fn.name ≠ "runtime.NumGoroutine") (h3 : G'.rts f = Zy fn.resultTypes.toList) : Ba P G' f k (ownSp G ow k f fn) :=
 ⟨fn,h1,h2,h3,fun as cw r h=>by rw[<-Ku hG];exact h⟩
end Go.Abs
/- Functions of which only this is shown: that they have a result, and of what form it is. -/
namespace Go.Abs
def Tt{α:Type}(e:Option α)(Q:α->Prop):Prop:=∃ r,e=Zy r/\Q r
section
variable {α β:Type} {Q:α->Prop}
theorem Sg{e:Option α}{r:α}(h:e=Zy r)(k:Q r):Tt e Q:=⟨r,h,k⟩
theorem OG{e:Option α}(h:Tt e Q):Tt e Q:=h
theorem Sq{x:α}(h:Q x):Tt (Zy x) Q:=⟨x,rfl,h⟩
theorem VA{b:Bool}{e:Option α}(h:b=Zh)(k:Tt e Q):Tt (aA b e) Q:=by subst h;exact k
theorem acJ{b:Bool}{e f:Option α}(k:b=Zh->Tt e Q)(l:b=Zu->Tt f Q):Tt (aP b e f) Q:=by
 cases b
 ·exact l rfl
 ·exact k rfl
theorem zA{x:Option β}{f:β->Option α}(h:Tt x fun r=>Tt (f r) Q):Tt (Zz x f) Q:=by
 obtain⟨r,rfl,h⟩:=h;exact h
def Rd{σ ρ:Type}(I:σ->Prop)(μ:σ->Nat)(l:σ)(R:ρ->Prop):σ ⊕ ρ->Prop
 | .inl l'=>I l'/\μ l'<μ l
 | .inr r=>R r
theorem NK{σ ρ:Type}{step:σ->Option (σ ⊕ ρ)}{I:σ->Prop}{μ:σ->Nat}{R:ρ->Prop}(hs:∀ l,I l->Tt (step l) (Rd I μ l R)):∀ n s,I s->μ s<n->∃ r,eC step n s=Zy r/\R r:=by
 intro n;induction n with
 | zero=>intro s _ h;omega
 | succ n ih =>
  intro s hI hm;obtain⟨x,h1,h2⟩:=hs s hI;cases x with
  | inl s' =>
   obtain⟨r,h3,h4⟩:=ih s' h2.1 (by have:=h2.2;omega);exact⟨r,by simp only[eC,h1,h3],h4⟩
  | inr r=>exact⟨r,by simp only[eC,h1],h2⟩
theorem K9{ρ:Type}{step:List AV->Option (List AV ⊕ ρ)}{s0:List AV}{K:ρ->Option α}(I:List AV->Prop)(μ:List AV->Nat)(h0:I s0)(hs:∀ l,I l->Tt (step l) (Rd I μ l fun r=>Tt (K r) Q)):Tt (Zz (bH step s0) K) Q:=by
 obtain⟨r,h1,h2⟩:=NK (I:=I) (μ:=μ) hs (μ s0+1) s0 h0 (Nat.lt_succ_self _);exact zA ⟨r,HN h1,h2⟩
end
inductive Sh where
 | i (k:IntKind) (lo hi:Int) | j (k:IntKind) | u8 | b | s (n:Nat) | y (n:Nat) | sl (z n:Nat) (e:Sh) | ag (l:List Sh) | tu (l:List Sh) | oy (n:Nat) | ol (n:Nat) (e:Sh) | w (P:AV->Prop) | tr (T:(AV->Prop)->Prop)
mutual
def Sh.all:Sh->(AV->Prop)->Prop
 | .i k lo hi,C=>∀ n:Int,lo<=n->n<=hi->C (.int k n)
 | .j k,C=>∀ n:Int,C (.int k n)
 | .u8,C=>∀ b:UInt8,b.toNat<256->C (.u8 b)
 | .b,C=>∀ b:Bool,C (.bool b)
 | .s n,C=>∀ l:List UInt8,l.length<=n->C (.str l)
 | .y n,C=>∀ l:List UInt8,l.length<=n->C (.bs l)
 | .sl z n e,C=>∀ l:List AV,l.length<=n->(∀ x∈l,∀ D:AV->Prop,e.all D->D x)->C (.sl z l)
 | .ag l,C=>Sh.Bc l fun cs=>C (.agg cs)
 | .tu l,C=>Sh.Bc l fun cs=>C (.bC cs)
 | .oy n,C=>∀ l:List UInt8,l.length<=n->C (.fO l)
 | .ol n e,C=>∀ l:List AV,l.length<=n->(∀ x∈l,∀ D:AV->Prop,e.all D->D x)->C (.aD l)
 | .w P,C=>∀ x,P x->C x
 | .tr T,C=>T C
def Sh.Bc:List Sh->(List AV->Prop)->Prop
 | [],C=>C []
 | e::r,C=>e.all fun a=>Sh.Bc r fun l=>C (a::l)
end
abbrev Al(e:Sh)(l:List AV):Prop:=∀ x∈l,∀ D:AV->Prop,e.all D->D x
theorem E2{e:Sh}{l:List AV}{n:Nat}(h:Al e l)(hn:n<l.length)(D:AV->Prop)(k:e.all D):D (l.getD n .undef):=by
 have:l.getD n .undef∈l:=by
  rw[List.getD_eq_getElem?_getD,List.getElem?_eq_getElem hn];exact List.getElem_mem ..
 exact h _ this D k
theorem uE{e:Sh}:Al e []:=fun x h=>by cases h
theorem vJ{e:Sh}{x:AV}{l:List AV}(h:∀ D:AV->Prop,e.all D->D x)(k:Al e l):Al e (x::l):=fun y hy=>(List.mem_cons.1 hy).elim (fun q=>q ▸ h) (k y)
theorem O'{e:Sh}{l m:List AV}(h:Al e l)(k:Al e m):Al e (l++m):=fun y hy=>(List.mem_append.1 hy).elim (h y) (k y)
theorem Az{e:Sh}{l:List AV}{n:Nat}(h:Al e l):Al e (l.take n):=fun y hy=>h y (List.mem_of_mem_take hy)
theorem Ay{e:Sh}{l:List AV}{n:Nat}(h:Al e l):Al e (l.drop n):=fun y hy=>h y (List.mem_of_mem_drop hy)
theorem Pa{e:Sh}{l:List AV}{n:Nat}{x:AV}(h:Al e l)(k:∀ D:AV->Prop,e.all D->D x):Al e (l.set n x):=fun y hy=>(List.mem_or_eq_of_mem_set hy).elim (h y) (fun q=>q ▸ k)
theorem SW{e e':Sh}{l:List AV}(h:Al e l)(hm:∀ D:AV->Prop,e'.all D->e.all D):Al e' l:=fun x hx D hD=>h x hx D (hm D hD)
section
variable {α:Type} {Q:α->Prop}
theorem Q9{σ ρ:Type}{I:σ->Prop}{μ:σ->Nat}{l l':σ}{R:ρ->Prop}(h:I l')(k:μ l'<μ l):Rd I μ l R (.inl l'):=⟨h,k⟩
theorem Q_{σ ρ:Type}{I:σ->Prop}{μ:σ->Nat}{l:σ}{R:ρ->Prop}{r:ρ}(h:R r):Rd I μ l R (.inr r):=h
theorem YS{b:Bool}{e f:Option α}(h:b=Zh)(k:Tt e Q):Tt (cond b e f) Q:=by subst h;exact k
class Cs (s:Spec) (A:outParam (List Sh)) (R:outParam Sh):Prop where
 ok:∀ as,(∀ D:List AV->Prop,Sh.Bc A D->D as)->∀ Q:AV×aZ->Prop,(R.all fun r=>Q (r,[]))->Tt (s as []) Q
theorem Cs.of{s:Spec}{A:List Sh}{R:Sh}(h:Sh.Bc A fun xs=>∀ Q:AV×aZ->Prop,(R.all fun r=>Q (r,[]))->Tt (s xs []) Q):Cs s A R:=⟨fun xs g=>g _ h⟩
theorem acD{s:Spec}{A:List Sh}{R:Sh}[h:Cs s A R]{as:List AV}{K:AV×aZ->Option α}(g:∀ D:List AV->Prop,Sh.Bc A D->D as)(k:R.all fun r=>Tt (K (r,[])) Q):Tt (Zz (s as []) K) Q:=zA (h.ok _ g _ k)
class Cw (s:Spec) (W:outParam (List AV->(AV->Prop)->Prop)):Prop where
 ok:∀ as (Q:AV×aZ->Prop),(W as fun r=>Q (r,[]))->Tt (s as []) Q
theorem acE{s:Spec}{W:List AV->(AV->Prop)->Prop}[h:Cw s W]{as:List AV}{K:AV×aZ->Option α}(k:W as fun r=>Tt (K (r,[])) Q):Tt (Zz (s as []) K) Q:=zA (h.ok _ _ k)
theorem vY{l:List AV}{n:Nat}{f:List AV->Option α}{e:Sh}(h:Al e l)(hn:n<l.length)(k:e.all fun x=>l.getD n .undef=x->Tt (AV.dD x f) Q):Tt (AV.dD (l.getD n .undef) f) Q:=E2 h hn (fun x=>l.getD n .undef=x->Tt (AV.dD x f) Q) k rfl
theorem Jg{v x:AV}{f:List AV->Option α}(h:v=x)(k:Tt (AV.dD x f) Q):Tt (AV.dD v f) Q:=h ▸ k
theorem vZ{l:List AV}{n:Nat}{kd:IntKind}{f:Int->Option α}{e:Sh}(h:Al e l)(hn:n<l.length)(k:e.all fun x=>l.getD n .undef=x->Tt (AV.ax kd x f) Q):Tt (AV.ax kd (l.getD n .undef) f) Q:=E2 h hn (fun x=>l.getD n .undef=x->Tt (AV.ax kd x f) Q) k rfl
theorem Jj{v x:AV}{kd:IntKind}{f:Int->Option α}(h:v=x)(k:Tt (AV.ax kd x f) Q):Tt (AV.ax kd v f) Q:=h ▸ k
theorem A1{l:List AV}{n:Nat}{f:List UInt8->Option α}{e:Sh}(h:Al e l)(hn:n<l.length)(k:e.all fun x=>l.getD n .undef=x->Tt (AV.fc x f) Q):Tt (AV.fc (l.getD n .undef) f) Q:=E2 h hn (fun x=>l.getD n .undef=x->Tt (AV.fc x f) Q) k rfl
theorem Jl{v x:AV}{f:List UInt8->Option α}(h:v=x)(k:Tt (AV.fc x f) Q):Tt (AV.fc v f) Q:=h ▸ k
theorem Si{l:List AV}{n:Nat}{f:List UInt8->Option α}{e:Sh}(h:Al e l)(hn:n<l.length)(k:e.all fun x=>l.getD n .undef=x->Tt (Zp x f) Q):Tt (Zp (l.getD n .undef) f) Q:=E2 h hn (fun x=>l.getD n .undef=x->Tt (Zp x f) Q) k rfl
theorem Mz{v x:AV}{f:List UInt8->Option α}(h:v=x)(k:Tt (Zp x f) Q):Tt (Zp v f) Q:=h ▸ k
end
section
variable {α:Type} {Q:α->Prop}
class Cx (s:Spec) (A:outParam (List Sh)) (P:outParam (List AV->(AV->Prop)->Prop)):Prop where
 ok:∀ as,(∀ D:List AV->Prop,Sh.Bc A D->D as)->∀ Q:AV×aZ->Prop,(P as fun r=>Q (r,[]))->Tt (s as []) Q
theorem Cx.of{s:Spec}{A:List Sh}{P:List AV->(AV->Prop)->Prop}(h:Sh.Bc A fun xs=>∀ Q:AV×aZ->Prop,(P xs fun r=>Q (r,[]))->Tt (s xs []) Q):Cx s A P:=⟨fun xs g=>g _ h⟩
def PX(p:Prop):Prop:=p
theorem PX.of{p:Prop}(h:p):PX p:=h
theorem acF{s:Spec}{A:List Sh}{P:List AV->(AV->Prop)->Prop}[h:Cx s A P]{as:List AV}{K:AV×aZ->Option α}(g:∀ D:List AV->Prop,Sh.Bc A D->D as)(k:PX (P as fun r=>Tt (K (r,[])) Q)):Tt (Zz (s as []) K) Q:=zA (h.ok _ g _ k)
end
@[reducible] def stL:List AV->Nat->AV->List AV
 | [],_,_=>[]
 | _::r,0,v=>v::r
 | a::r,n+1,v=>a::stL r n v
@[irreducible] def LEq (a b:List AV):Prop:=a=b
structure fX (id:Nat) (J:List AV->(List AV->Prop)->Prop) (μ:List AV->Nat):Prop
structure ZH (id:Nat) (v:AV) (J:List AV->(List AV->Prop)->Prop) (μ:List AV->Nat):Prop
def mI(p:Nat)(N:Int)(l:List AV):Nat:=match l.getD p .undef with
 | .int _ i=>(N-i).toNat
 | _=>0
theorem UX{p:Nat}{N:Int}{l l':List AV}{k k':IntKind}{i i':Int}(h1:l'.getD p .undef = .int k i')(h2:l.getD p .undef = .int k' i)(h3:i<i')(h4:i<N):mI p N l'<mI p N l:=by
 unfold mI;rw[h1,h2];simp only;omega
def mD(p:Nat)(N:Int)(l:List AV):Nat:=match l.getD p .undef with
 | .int _ i=>(i-N).toNat
 | _=>0
theorem UW{p:Nat}{N:Int}{l l':List AV}{k k':IntKind}{i i':Int}(h1:l'.getD p .undef = .int k i')(h2:l.getD p .undef = .int k' i)(h3:i'<i)(h4:N<i):mD p N l'<mD p N l:=by
 unfold mD;rw[h1,h2];simp only;omega
def leS(s:List AV)(p:Nat)(F:Int->Prop):Prop:=match s.getD p .undef with
 | .int _ i=>F i
 | _=>F 0
def OV(s:List AV)(p:Nat)(F:Nat->Prop):Prop:=match s.getD p .undef with
 | .fO l=>F l.length
 | .aD l=>F l.length
 | _=>F 0
section
variable {α:Type} {Q:α->Prop}
theorem Mu{β:Type}{e e':Option β}{K:β->Option α}(h:e=e')(k:Tt (Zz e' K) Q):Tt (Zz e K) Q:=h ▸ k
theorem Mt{β:Type}{b:Bool}{e f:Option β}{K:β->Option α}(h:b=Zh)(k:Tt (Zz e K) Q):Tt (Zz (cond b e f) K) Q:=by subst h;exact k
theorem K_{b:Bool}{e f:Option α}(k:b=Zh->Tt e Q)(l:b=Zu->Tt f Q):Tt (aP.match_1 (fun _=>Option α) b (fun _=>e) (fun _=>f)) Q:=acJ (b:=b) k l
theorem AZ{b:Bool}{e f:Option α}(h:b=Zh)(k:Tt e Q):Tt (cond.match_1 (fun _=>Option α) b (fun _=>e) (fun _=>f)) Q:=YS (b:=b) h k
theorem Mv{β:Type}{x:Option β}{K:β->Option α}(h:Tt (Zz x K) Q):Tt (Zz.match_1 (fun _ _=>Option α) x K (fun _=>Yz) (fun a f=>f a)) Q:=h
theorem Jh{v:AV}{f:List AV->Option α}(h:Tt (AV.dD v f) Q):Tt (AV.dD.match_1 (fun _=>Option α) v (fun l=>f l) (fun _=>Yz)) Q:=h
theorem Jm{v:AV}{f:List UInt8->Option α}(h:Tt (AV.fc v f) Q):Tt (AV.fc.match_1 (fun _=>Option α) v (fun l=>f l) (fun _=>Yz)) Q:=h
theorem MA{v:AV}{f:List UInt8->Option α}(h:Tt (Zp v f) Q):Tt (Zp.match_1 (fun _=>Option α) v (fun l=>f l) (fun _=>Yz)) Q:=h
theorem Jk{v:AV}{kd:IntKind}{f:Int->Option α}(h:Tt (AV.ax kd v f) Q):Tt (AV.ax.match_1 (fun _=>Option α) v (fun k n=>cond (k==kd) (f n) Yz) (fun _=>Yz)) Q:=h
theorem U8{σ ρ:Type}{I:σ->Prop}{μ:σ->Nat}{l:σ}{R:ρ->Prop}{x:σ ⊕ ρ}(h:Rd I μ l R x):Rd I μ l R x:=h
end
@[reducible] def KH {α:Type} (kk:Ex->Fr->Option α) (Q:α->Prop) (P:Ex->Fr->Prop):Prop:=∀ e fr,P e fr->Tt (kk e fr) Q
@[reducible] def KF {α:Type} (X:Fr->Option α) (Q:α->Prop) (P:Fr->Prop):Prop:=∀ fr,P fr->Tt (X fr) Q
@[reducible] def KA {α:Type} (A:Option α) (Q:α->Prop) (P:Prop):Prop:=P->Tt A Q
section
variable {α:Type} {Q:α->Prop} {E:Env} {rts:Nat->Option (List Nat)} {n:Nat} {fr:Fr}
theorem Sn{a b:Code}{k:Ex->Fr->Option α}(h:∀ kk:Ex->Fr->Option α,KH kk Q (fun e bQ=>Tt (e.DE (exec E rts n b α bQ k) fun e=>k e bQ) Q)->Tt (exec E rts n a α fr kk) Q):Tt (exec E rts n (.seq a b) α fr k) Q:=h _ fun _ _ g=>g
theorem Sd{id:Nat}{a:Code}{k:Ex->Fr->Option α}(h:Tt (exec E rts n a α fr fun e bQ=>e.sS id fun e=>k e bQ) Q):Tt (exec E rts n (.block id a) α fr k) Q:=h
theorem Sf{c:Operand}{a b:Code}{k:Ex->Fr->Option α}(hk:E.keep (3000000+cC a)=[])(h:∀ A B:Option α,KA A Q (Tt (exec E rts n a α fr k) Q)->KA B Q (Tt (exec E rts n b α fr k) Q)->Tt ((dj E fr c).bind fun v=>v.dS fun t=>aP t A B) Q):Tt (exec E rts n (.cond c a b) α fr k) Q:=by
 unfold exec;rw[hk];exact h _ _ (fun g=>g) (fun g=>g)
theorem acH{x:Option α}{k:Ex->Option α}(h:Tt x Q):Tt (Ex.DE .normal x k) Q:=h
theorem acI{x:Option α}{k:Ex->Option α}(h:Tt (k .ret) Q):Tt (Ex.DE .ret x k) Q:=h
theorem acG{x:Option α}{k:Ex->Option α}{j:Nat}(h:Tt (k (.exit j)) Q):Tt (Ex.DE (.exit j) x k) Q:=h
theorem My{a:Code}{J:List AV->(List AV->Prop)->Prop}{μ:List AV->Nat}{s0:List AV}{K:Ex×List AV->Option α}(_:fX (cC a) J μ)(h0:∀ D:List AV->Prop,J s0 D->D s0)
  (hs:J s0 fun l=>∀ X:Fr->Option (List AV ⊕ (Ex×List AV)),KF X (Rd (fun l=>∀ D:List AV->Prop,J s0 D->D l) μ l fun r=>Tt (K r) Q) (fun Jx=>Tt (exec E rts n a (List AV ⊕ (Ex×List AV)) Jx fun e bQ=>collect E bQ (E.keep (cC a)) fun st'=>Zy (e.nq st')) (Rd (fun l=>∀ D:List AV->Prop,J s0 D->D l) μ l fun r=>Tt (K r) Q))->Tt (restore E (E.keep (cC a)) l (nW E) X) (Rd (fun l=>∀ D:List AV->Prop,J s0 D->D l) μ l fun r=>Tt (K r) Q)) :
  Tt (Zz (bH (fun st=>restore E (E.keep (cC a)) st (nW E) fun Jx=>exec E rts n a (List AV ⊕ (Ex×List AV)) Jx fun e bQ=>collect E bQ (E.keep (cC a)) fun st'=>Zy (e.nq st')) s0) K) Q :=
 K9 (fun l=>∀ D:List AV->Prop,J s0 D->D l) μ h0 fun l hl=>hl _ hs _ fun _ g=>g
end
theorem eA{G G0:iY}{ow:OM}(hG:G=G0.full ow){k f:Nat}{fn:Func}{c:Code}{xs:List AV}{Q:AV×aZ->Prop}(hc:fn.body=Zy c)(ha:(Nat.ble xs.length fn.ntmps&&Te 0 xs)=Zh)
  (h:∀ kk:Ex->Fr->Option (AV×aZ),KH kk Q (fun e fr=>Tt (e.PJ (tN { G.env f k with hand:=[] } fr.aT fn.results.toList fn.resultTypes.toList fr.st [] (G.own f) fun vs st L=>pU { G.env f k with hand:=[] } xs [] fn.params.toList st L fun bs =>
   match vs with
   | [v]=>Zy (v,bs)
   | vs=>Zy (.bC vs,bs)) Yz) Q)->Tt (exec { G.env f k with hand:=[] } G.rts fn.ntmps c (AV×aZ) (entry 0 xs []) kk) Q):Tt (ownSp G0 ow k f fn xs []) Q:=by
 rw[Ku hG];show Tt (tP (G.env f k) G.rts (G.own f) fn xs [] []) Q;unfold tP;rw[hc];exact VA ha (h _ fun _ _ g=>g)
@[reducible] def KJ {α:Type} (kk:Ex->Fr->FP->Option α) (Q:α->Prop) (P:Ex->Fr->FP->Prop):Prop:=∀ e fr f,P e fr f->Tt (kk e fr f) Q
section
variable {α:Type} {Q:α->Prop} {E:Env} {rts:Nat->Option (List Nat)} {n:Nat} {fr:Fr}
theorem Gn{fn:Func}{kb:Nat}{args:List AV}{st:Nat->bT}{k:lH α}{c:Code}(hc:fn.body=Zy c)(ha:Nat.ble args.length fn.ntmps=Zh)
  (h:∀ kk:Ex->Fr->FP->Option α,KJ kk Q (fun e fr f=>Tt (e.PJ (qM E fr.aT fn.results.toList fr.st fun vs cF f2=>aA (GD vs) (k (El vs) cF (f.add f2))) Yz) Q)->Tt (d_ rts fn.ntmps c { E with kb:=kb } α ⟨uG args,st⟩ kk) Q):Tt (fe E rts fn α kb args st k) Q:=by
 rw[Im];unfold Dz;rw[hc];exact VA ha (h _ fun _ _ _ g=>g)
theorem Gm{fn:Func}{kb kb':Nat}{args:List AV}{st:Nat->bT}{k:lH α}(hb:kb=kb')(h:Tt (fe E rts fn α kb' args st k) Q):Tt (fe E rts fn α kb args st k) Q:=hb ▸ h
theorem Sm{a b:Code}{k:Ex->Fr->FP->Option α}(h:∀ kk:Ex->Fr->FP->Option α,KJ kk Q (fun e bQ f1=>Tt (e.DE (d_ rts n b E α bQ fun e2 dT f2=>k e2 dT (f1.add f2)) fun e=>k e bQ (f1.add .none)) Q)->Tt (d_ rts n a E α fr kk) Q):Tt (d_ rts n (.seq a b) E α fr k) Q:=h _ fun _ _ _ g=>g
theorem Sc{id:Nat}{a:Code}{k:Ex->Fr->FP->Option α}(h:Tt (d_ rts n a E α fr fun e bQ f=>e.sS id fun e=>k e bQ f) Q):Tt (d_ rts n (.block id a) E α fr k) Q:=h
theorem Se{c:Operand}{a b:Code}{k:Ex->Fr->FP->Option α}(h:∀ A B:Option α,KA A Q (Tt (d_ rts n a E α fr k) Q)->KA B Q (Tt (d_ rts n b E α fr k) Q)->Tt ((dj E fr c).bind fun v=>v.dS fun t=>aP t A B) Q):Tt (d_ rts n (.cond c a b) E α fr k) Q:=h _ _ (fun g=>g) (fun g=>g)
theorem Mx{a:Code}{k:Ex->Fr->FP->Option α}(hk:E.keep (5000000+cC a)=[])(h:Tt (qS (fun kb fr k=>d_ rts n a { E with kb:=kb } α fr k) 9 E.kb fr k) Q):Tt (d_ rts n (.loop a) E α fr k) Q:=by
 unfold d_;rw[hk];exact h
noncomputable def A6(A L0:List Nat)(st:Nat->bT)(L:List Nat)(f g:FP):Bool:=(lock (within A L0 st L f g)).1
theorem xj(A L0:List Nat)(st:Nat->bT)(L:List Nat)(f g:FP):A6 A L0 st L f g=within A L0 st L f g:=(lock (within A L0 st L f g)).2
theorem EV{A L0:List Nat}{st:Nat->bT}{L:List Nat}{f g:FP}(h:within A L0 st L f g=Zh):A6 A L0 st L f g=Zh:=(xj ..).trans h
theorem MC{hs:List iZ}{A L0:List Nat}{OA:Nat->AV}{a:Code}{st:Nat->bT}{J:List AV->(List AV->Prop)->Prop}{μ:List AV->Nat}{s0:List AV}{K:Ex×List AV->Option α}(_:fX (5000000+cC a) J μ)(h0:∀ D:List AV->Prop,J s0 D->D s0)
  (hr:J s0 fun l=>∀ X:Fr->Option RT,KF X (Rd (fun l=>∀ D:List AV->Prop,J s0 D->D l) μ l fun r=>Tt (K r) Q) (fun Jx=>Tt (d_ rts n a E RT Jx fun e bQ f=>dO E bQ.aT hs bQ.st [] fun l' st' L' f'=>aA (A6 A L0 st L' f f') (Zy (e.nq l'))) (Rd (fun l=>∀ D:List AV->Prop,J s0 D->D l) μ l fun r=>Tt (K r) Q))->Tt (restore E hs l ⟨OA,j5 L0 st⟩ X) (Rd (fun l=>∀ D:List AV->Prop,J s0 D->D l) μ l fun r=>Tt (K r) Q)) :
  Tt (Zz (bH (tO E hs A L0 OA (fun β fr k=>d_ rts n a E β fr k) st) s0) K) Q :=
by
 simp only[xj] at hr;exact K9 (fun l=>∀ D:List AV->Prop,J s0 D->D l) μ h0 fun l hl=>hl _ hr _ fun _ g=>g
theorem MB{hs:List iZ}{A L0:List Nat}{OA:Nat->AV}{a:Code}{st:Nat->bT}{J:List AV->(List AV->Prop)->Prop}{μ:List AV->Nat}{s0:List AV}{K:Ex×List AV->Option α}(_:ZH (5000000+cC a) (OA 1) J μ)(h0:∀ D:List AV->Prop,J s0 D->D s0)
  (hr:J s0 fun l=>∀ X:Fr->Option RT,KF X (Rd (fun l=>∀ D:List AV->Prop,J s0 D->D l) μ l fun r=>Tt (K r) Q) (fun Jx=>Tt (d_ rts n a E RT Jx fun e bQ f=>dO E bQ.aT hs bQ.st [] fun l' st' L' f'=>aA (A6 A L0 st L' f f') (Zy (e.nq l'))) (Rd (fun l=>∀ D:List AV->Prop,J s0 D->D l) μ l fun r=>Tt (K r) Q))->Tt (restore E hs l ⟨OA,j5 L0 st⟩ X) (Rd (fun l=>∀ D:List AV->Prop,J s0 D->D l) μ l fun r=>Tt (K r) Q)) :
  Tt (Zz (bH (tO E hs A L0 OA (fun β fr k=>d_ rts n a E β fr k) st) s0) K) Q :=
by
 simp only[xj] at hr;exact K9 (fun l=>∀ D:List AV->Prop,J s0 D->D l) μ h0 fun l hl=>hl _ hr _ fun _ g=>g
theorem Jn{body:Nat->Fr->(Ex->Fr->FP->Option α)->Option α}{m kb:Nat}{k:Ex->Fr->FP->Option α}(h:∀ kk:Ex->Fr->FP->Option α,KJ kk Q (fun e bQ f1=>Tt (e.DE (qS body m (kb+10000) bQ fun e2 dT f2=>k e2 dT (f1.add f2)) fun e=>k e bQ (f1.add .none)) Q)->Tt (body kb fr kk) Q):Tt (qS body (m+1) kb fr k) Q:=h _ fun _ _ _ g=>g
end
end Go.Abs
