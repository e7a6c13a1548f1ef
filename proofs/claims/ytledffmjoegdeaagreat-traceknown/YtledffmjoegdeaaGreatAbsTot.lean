/- Chapter 27: the program's closure, as its loops are. -/
import Derived.Test.YtledffmjoegdeaaGreatKerb27c
import Derived.Lib.Walk
import Derived.Lib.SliceRun
import Derived.Lib.AppendZerosOnto
import Derived.Lib.Bytealg
import Derived.Lib.BytesEntry
import Derived.Laws.Externs
set_option linter.all false
open Go.IntKind renaming i64->AI,u64->AT
open Option renaming bind->Zz,some->Zv,none->Yd
open Int renaming toNat_natCast->Zy,toNat->Zw
open Decidable renaming decide->Zx
open Bool renaming false->Zu,true->Zf,not_false->Zb,not_true->Zh,and_eq_true->Yu
open List renaming range->Zq,eq_nil_of_length_eq_zero->Zd,getElem?_eq_some_iff->Zn,getElem?_eq_getElem->Zm,contains_iff_mem->Yy,take_length->Yx,length_take->Yw,all_eq_true->Yv,getD->Yk
open Go.Abs.AV renaming bool->Zj,dC->Zp,sl->Yz
open Nat renaming beq->Zk,le_trans->Zg,le_refl->Yq,zero_le->Yp
open Kerb renaming indexOf->Yj
namespace Kerb
open Go Go.Abs
section
variable {α:Type}
noncomputable def s7(l:List AV)(f:List AV->List AV->Option α):Option α:=ar l λx r=>AV.aS x λb=>f b r
noncomputable def qH(o:Option (List AV))(f:Bool->Option α):Option α:=Zz o λl=>ar l λx r=>ak r (AV.dw x f)
abbrev iv(n:Int):AV := .int AI n
abbrev up(n:Int):AV := .int AI (IntKind.wrap AI (n+1))
abbrev St:=Option (List AV ⊕ (Ex×List AV))
noncomputable def uI(n:Int)(y:List AV)(f:Option α):Option α:=ax (Zx (0<=n)&&Zx (n<(y.length:Int))&&Zf) f
noncomputable def Ap(n:Int)(y:List AV)(f:Option α):Option α:=uI n y (ax (Nat.blt (Zw n) y.length&&Zf) f)
noncomputable def afB(y:List AV)(k:Int)(l:List AV):St:=af AI l λn r=>af AI r λi r=>ak r
 (aK (Zx (i<(y.length:Int))) (Ap i y (AV.aw AT (y.getD (Zw i) .undef) λq=>aK (k==q) (Zv (.inr (.ret,[iv i,iv i]))) (Zv (.inl [iv n,up i]))))
  (Zv (.inr (.exit 0,[iv n,iv i]))))
noncomputable def SO(r:Ex×List AV):Option (List AV):=af AI r.2 λn b=>af AI b λ_ a=>ak a (kJ r.1 (Zv [.bool (Zx (n>=0))]) λj=>aK (Zk j 0) (Zv [.bool Zu]) Yd)
noncomputable def SW(y:List AV)(k:Int):Option (List AV):=Zz (bh (afB y k) [iv 0,iv 0]) SO
noncomputable def xe(y:List AV)(k:Int):Option (List AV):=qH (SW y k) λb=>Zv [.bool !b]
noncomputable def ajb(y kl:List AV)(l:List AV):St:=af AI l λn r=>af AI r λi r=>ak r
 (aK (Zx (i<(kl.length:Int))) (uI i kl (AV.aw AT (kl.getD (Zw i) .undef) λq=>qH (xe y q) λb=>aK b (Zv (.inr (.ret,[iv i,iv i]))) (Zv (.inl [iv n,up i]))))
  (Zv (.inr (.exit 0,[iv n,iv i]))))
noncomputable def SN(y kl:List AV):Option (List AV):=Zz (bh (ajb y kl) [iv 0,iv 0]) SO
noncomputable def afF(y:List AV)(b:List UInt8)(l:List AV):St:=az l λc r=>af AI r λi r=>ak r
 (aK (Zx (i<(y.length:Int))) (Ap i y (Zp (y.getD (Zw i) .undef) λq=>aK (q==b) (Zv (.inr (.ret,[.bool Zu,iv i]))) (Zv (.inl [.bool c,up i]))))
  (Zv (.inr (.exit 0,[.bool c,iv i]))))
noncomputable def zn(y:List AV)(b:List UInt8):Option (List AV):=Zz (bh (afF y b) [.bool Zu,iv 0]) λr=>az r.2 λc d=>af AI d λ_ a=>ak a (kJ r.1 (Zv [.bool c]) λj=>aK (Zk j 0) (Zv [.bool Zf]) Yd)
noncomputable def aja(y bl:List AV)(l:List AV):St:=af AI l λn r=>af AI r λi r=>ak r
 (aK (Zx (i<(bl.length:Int))) (uI i bl (Zp (bl.getD (Zw i) .undef) λq=>qH (zn y q) λb=>aK b (Zv (.inr (.ret,[iv i,iv i]))) (Zv (.inl [iv n,up i]))))
  (Zv (.inr (.exit 0,[iv n,iv i]))))
noncomputable def SJ(y bl:List AV):Option (List AV):=Zz (bh (aja y bl) [iv 0,iv 0]) SO
noncomputable def VD(y:List AV)(q:Int)(f:List AV->Option α):Option α:=Zz (ax (cM y&&O3 (Ej y q)&&Zx ((y.length:Int)<=100000000)) (Zv (AV.ay (Ej y q),([]:List (List AV))))) λr=>aE r.2 (AV.aS r.1 f)
noncomputable def X4(kl:List AV)(l:List AV):St:=af AI l λn r=>s7 r λy r=>s7 r λc r=>s7 r λa r=>ak r
 (aK (Zx (n<(kl.length:Int))) (uI n kl (AV.aw AT (kl.getD (Zw n) .undef) λq=>qH (xe y q) λb =>
   aK b (VD y q λl=>Zv (.inl [up n,.ay l,.ay c,.ay a])) (Zv (.inl [up n,.ay y,.ay c,.ay a]))))
  (Zv (.inr (.exit 0,[iv n,.ay y,.ay c,.ay a]))))
noncomputable def Ra(bl:List AV)(l:List AV):St:=af AI l λn r=>s7 r λy r=>s7 r λa r=>s7 r λc r=>ak r
 (aK (Zx (n<(bl.length:Int))) (uI n bl (Zp (bl.getD (Zw n) .undef) λq=>qH (zn a q) λb =>
   aK b (ax (Go.Abs.room (a.length+[AV.bs q].length) 24) (Zv (.inl [up n,.ay y,.ay (a++[.bs q]),.ay c]))) (Zv (.inl [up n,.ay y,.ay a,.ay c]))))
  (Zv (.inr (.exit 2,[iv n,.ay y,.ay a,.ay c]))))
noncomputable def E6(b:Bool)(n:Int)(kl bl y l k:List AV):St :=
 Zz (bh (X4 kl) [iv 0,.ay y,.ay l,.ay k]) λr=>af AI r.2 λ_ f=>s7 f λy e=>s7 e λi d=>s7 d λh c=>ak c
  (kJ r.1 (Zv (.inl [.bool b,up n,.ay y,.ay i,.ay h])) λj=>aK (Zk j 0)
   (Zz (bh (Ra bl) [iv 0,.ay y,.ay i,.ay h]) λr=>af AI r.2 λ_ f=>s7 f λy e=>s7 e λg d=>s7 d λa c=>ak c
    (kJ r.1 (Zv (.inl [.bool b,up n,.ay y,.ay g,.ay a])) λj=>aK (Zk j 2) (Zv (.inr (.ret,[.bool Zf,iv n,.ay y,.ay g,.ay a]))) Yd))
   Yd)
noncomputable def FE(b:Bool)(n:Int)(y a c:List AV)(t:List UInt8):St :=
 Zz (ax (Zx (t.length<=140737488355328)) (Zv (AV.bp [.agg [.int AI (aN t).box.kind,.int AT (aN t).box.key,.bs (aN t).box.body],.int AI (aN t).n,.int AI (aN t).err],([]:List (List AV))))) λr=>aE r.2 (AV.gJ r.1 λe=>ar e λx r=>AV.dt x λcs=>af AI cs λkd d=>af AT d λf d=>dg d λbd d=>ak d (af AI r λ_ r=>af AI r λh r=>ak r
  (aK (!(h==0)) (Zv (.inl [.bool b,up n,.ay y,.ay a,.ay c])) (qH (xe y f) λj=>aK j (Zv (.inl [.bool b,up n,.ay y,.ay a,.ay c]))
   (Zz (ax (Zx (bd.length<=70368744170000)) (Zv (AV.bp [.sl 1 (toK (h_ ⟨kd,f,bd⟩).keys),.sl 1 (toB (h_ ⟨kd,f,bd⟩).boxes)],([]:List (List AV))))) λr=>aE r.2 (AV.gJ r.1 λe=>eg 1 e λkl r=>eg 1 r λbl r=>ak r
    (qH (SN y kl) λi=>aK (!i) (qH (SJ a bl) λg=>aK (!g) (Zv (.inl [.bool b,up n,.ay y,.ay a,.ay (pR (iv n) (.bool Zf) c)])) (E6 b n kl bl y a (pR (iv n) (.bool Zf) c))) (E6 b n kl bl y a (pR (iv n) (.bool Zf) c)))))))))
noncomputable def N8(d:List AV)(l:List AV):St:=az l λb r=>af AI r λn r=>s7 r λy r=>s7 r λa r=>s7 r λc r=>ak r
 (aK (Zx (n<(d.length:Int))) (AV.dw (getM (iv n) c (.bool Zu)) λe=>aK (!e) (Ap n a (Zp (a.getD (Zw n) .undef) λt=>FE b n y a c t)) (Zv (.inl [.bool b,up n,.ay y,.ay a,.ay c])))
  (Zv (.inr (.exit 0,[.bool b,iv n,.ay y,.ay a,.ay c]))))
noncomputable def uC(l:List AV):St:=s7 l λy r=>s7 r λe r=>s7 r λf r=>ak r
 (Zz (bh (N8 e) [.bool Zu,iv 0,.ay y,.ay e,.ay f]) λr=>az r.2 λb a=>af AI a λ_ a=>s7 a λy a=>s7 a λd a=>s7 a λc a=>ak a
  (kJ r.1 (aK b (Zv (.inl [.ay y,.ay d,.ay c])) (Zv (.inr (.exit 0,[.ay y,.ay d,.ay c])))) λj=>aK (Zk j 0) (Zv (.inr (.exit 0,[.ay y,.ay d,.ay c]))) Yd))
noncomputable def I'(y d c:List AV):Option (AV×aO):=Zz (bh uC [.ay y,.ay d,.ay c]) λr=>s7 r.2 λy a=>s7 a λb a=>s7 a λ_ a=>ak a
 (kJ r.1 (Zv (.agg [.sl 1 y,.sl 1 b],[])) λj=>aK (Zk j 0) (Zv (.agg [.sl 1 y,.sl 1 b],[])) Yd)
noncomputable def YJ(l:List AV):St:=eg 1 l λb r=>eg 1 r λf r=>s7 r λy r=>s7 r λa r=>s7 r λe r=>eg 1 r λd r=>af AI r λn r=>af AI r λi r=>ak r
 (aK (Zx (i<n)) (uI i d (Zp (d.getD (Zw i) .undef) λq=>qH (zn a q) λc =>
   aK c (ax (Go.Abs.room (a.length+[AV.bs q].length) 24) (Zv (.inl [.sl 1 b,.sl 1 f,.ay y,.ay (a++[.bs q]),.ay e,.sl 1 d,iv n,up i]))) (Zv (.inl [.sl 1 b,.sl 1 f,.ay y,.ay a,.ay e,.sl 1 d,iv n,up i]))))
  (Zv (.inr (.exit 0,[.sl 1 b,.sl 1 f,.ay y,.ay a,.ay e,.sl 1 d,iv n,iv i]))))
noncomputable def VM(ks bs:List AV)(f:List AV->List AV->Option α):Option α:=Zz (ax (cM ks&&Zx (ks.length<=1000000)) (Zv (AV.ay ks,([]:List (List AV))))) λr=>aE r.2 (AV.aS r.1 λl=>Zz (ax (ua bs&&Zx (bs.length<=1000000)) (Zv (AV.ay bs,([]:List (List AV))))) λr=>aE r.2 (AV.aS r.1 λa=>f l a))
noncomputable def Mi(ks bs:List AV)(b:List UInt8):Option (AV×aO):=VM ks bs λl e =>
 Zz (ax (Zx (b.length<=70368744170000)) (Zv (Yz 1 (toB (partsOf b)),([]:List (List AV))))) λr=>aE r.2 (AV.fN 1 r.1 λp =>
  Zz (bh YJ [.sl 1 [],.sl 1 [],.ay l,.ay e,.ay [],.sl 1 p,iv p.length,iv 0]) λr=>eg 1 r.2 λb a=>eg 1 a λf a=>s7 a λy a=>s7 a λd a=>s7 a λc a=>eg 1 a λ_ a=>af AI a λ_ a=>af AI a λ_ a=>ak a
   (kJ r.1 (Zv (.agg [.sl 1 b,.sl 1 f],[])) λj=>aK (Zk j 0) (I' y d c) Yd))
noncomputable def SY(ks bs:List AV)(k:Int):Option (AV×aO):=VM ks bs λl a =>
 Zz (ax (Zx (0<=k)&&Zx (k<18446744073709551616)) (Zv (Zj (bf k),([]:List (List AV))))) λr=>aE r.2 (AV.dw r.1 λv =>
  Zz (aK v (qH (xe l k) λb=>aK b (VD l k λl=>Zv [.sl 1 [],.sl 1 [],.ay l,.ay a,.ay []]) (Zv [.sl 1 [],.sl 1 [],.ay l,.ay a,.ay []])) (Zv [.sl 1 [],.sl 1 [],.ay l,.ay a,.ay []]))
   λl=>eg 1 l λ_ r=>eg 1 r λ_ r=>s7 r λy r=>s7 r λd r=>s7 r λc r=>ak r (I' y d c))
end
variable {Z:Type}{step:List AV->St}{k:Ex×List AV->Option Z}{A:Z}{t:Bytes}{B:List Bytes}{α:Type}{i:Nat}{K:List Int}{s:Kn}{M:List AV}{j:Nat}{ks:List AV}
theorem o0(e:Nat->List AV)(N:Nat)(hs:∀ i,i<N->step (e i)=Zv (.inl (e (i+1))))(he:∃ r,step (e N)=Zv (.inr r)/\k r=Zv A){t:List AV}(a:t=e 0):Zz (bh step t) k=Zv A:=by
 refine bS (enc:=e) (I:=λi=>i<=N) (μ:=λi=>N-i) (R:=λr=>k r=Zv A) 0 (Yp _) a ?_ λr h=>h;intro i d;by_cases h:i<N
 .exact⟨_,hs i h,i+1,rfl,h,show N-(i+1)<N-i by omega⟩
 .obtain rfl:i=N:=by omega
  obtain⟨r,c,b⟩:=he;exact⟨_,c,b⟩
theorem oH{B:Z}(e:Nat->List AV)(N:Nat)(p:Nat->Bool)(hs:∀ i,i<N->p i=Zu->step (e i)=Zv (.inl (e (i+1))))(f:∀ i,i<N->p i=Zf->∃ r,step (e i)=Zv (.inr r)/\k r=Zv A)(he:∃ r,step (e N)=Zv (.inr r)/\k r=Zv B){t:List AV}(d:t=e 0):Zz (bh step t) k=Zv (bif (Zq N).any p then A else B):=by
 refine bS (enc:=e) (I:=λi=>i<=N/\∀ j,j<i->p j=Zu) (μ:=λi=>N-i) (R:=λr=>k r=Zv (bif (Zq N).any p then A else B)) 0 ⟨Yp _,λj h=>by omega⟩ d ?_ λr h=>h;rintro i ⟨m,g⟩;by_cases h:i<N
 .cases a:p i with
  | false=>exact⟨_,hs i h a,i+1,rfl,⟨h,λj n=>by by_cases l:j=i;(· subst l;exact a);exact g j (by omega)⟩,show N-(i+1)<N-i by omega⟩
  | true =>
   obtain⟨r,c,b⟩:=f i h a;have:(Zq N).any p=Zf:=List.any_eq_true.2 ⟨i,List.mem_range.2 h,a⟩;exact⟨_,c,by show k r=_;rw[b,this];rfl⟩
 .obtain rfl:i=N:=by omega
  obtain⟨r,c,b⟩:=he;have:(Zq i).any p=Zu:=by
   grind
  exact⟨_,c,by show k r=_;rw[b,this];rfl⟩
theorem kh(l:List α)(d:α)(f:α->Bool):(Zq l.length).any (λi=>f (l.getD i d))=l.any f:=by
 rw[Bool.eq_iff_iff,List.any_eq_true,List.any_eq_true];constructor
 .grind
 .rintro⟨x,b,h⟩;obtain⟨i,a,rfl⟩:=List.mem_iff_getElem.1 b;exact⟨i,List.mem_range.2 a,by simpa [Yk,a] using h⟩
theorem ub(l:List Int)(k:Int):l.any (λx=>k==x)=l.contains k:=by grind
theorem nT(l:List Bytes)(k:Bytes):l.any (λx=>x==k)=l.contains k:=by grind
theorem t_(h:i<=1000000000):up (i:Int)=iv ((i+1:Nat):Int):=by
 unfold up iv;rw[wrap_i64 (by omega) (by omega)];rfl
theorem jn{y:List AV}(h:i<y.length)(f:Option α):uI (i:Int) y f=f:=by
 unfold uI;exact aq (by simp;omega) f
theorem tH{y:List AV}(h:i<y.length)(f:Option α):Ap (i:Int) y f=f:=by
 unfold Ap;rw[jn h];exact aq (by simp[Nat.blt_eq];omega) f
theorem pg{y:List AV}(h:i<y.length):Zx ((i:Int)<(y.length:Int))=Zf:=by simp;omega
theorem PW{y:List AV}:Zx ((y.length:Int)<(y.length:Int))=Zu:=by simp
theorem SX(k:Int)(h:K.length<=100000000):SW (toK K) k=Zv [.bool (K.contains k)]:=by
 have e:SW (toK K) k=Zv (bif (Zq (toK K).length).any (λi=>k==K.getD i 0) then[Zj Zf] else[Zj Zu]):=by
  refine oH (λi=>[iv 0,iv i]) _ _ ?_ ?_ ?_ rfl
  .intro i a c;have b:i<K.length:=by rw[<-dp];exact a
   show aK (Zx ((i:Int)<((toK K).length:Int))) (Ap i (toK K) (AV.aw AT ((toK K).getD (Zw i) .undef) _)) _=_;rw[ae (pg a),tH a,Zy,nE b];show aK (k==K.getD i 0) _ _=_;rw[ai c,t_ (by omega)]
  .intro i a c;have b:i<K.length:=by rw[<-dp];exact a
   refine⟨(.ret,[iv i,iv i]),?_,?_⟩
   .show aK (Zx ((i:Int)<((toK K).length:Int))) (Ap i (toK K) (AV.aw AT ((toK K).getD (Zw i) .undef) _)) _=_;rw[ae (pg a),tH a,Zy,nE b];show aK (k==K.getD i 0) _ _=_;rw[ae c]
   .show Zv [Zj (Zx ((i:Int)>=0))]=_
    simp_all
  .refine⟨(.exit 0,[iv 0,iv (toK K).length]),?_,rfl⟩;show aK (Zx (((toK K).length:Int)<((toK K).length:Int))) _ _=_;rw[ai PW]
 rw[e,dp,kh K 0 (λx=>k==x),ub]
 grind
theorem vx(k:Int)(h:K.length<=100000000):xe (toK K) k=Zv [.bool (!K.contains k)]:=by
 unfold xe;rw[SX k h];rfl
theorem aaA(L:List Int)(h:K.length<=100000000)(hl:L.length<=100000000):SN (toK K) (toK L)=Zv [.bool (L.any λk => !K.contains k)]:=by
 have e:SN (toK K) (toK L)=Zv (bif (Zq (toK L).length).any (λi => !K.contains (L.getD i 0)) then[Zj Zf] else[Zj Zu]):=by
  refine oH (λi=>[iv 0,iv i]) _ _ ?_ ?_ ?_ rfl
  .intro i a c;have b:i<L.length:=by rw[<-dp];exact a
   show aK (Zx ((i:Int)<((toK L).length:Int))) (uI i (toK L) (AV.aw AT ((toK L).getD (Zw i) .undef) _)) _=_;rw[ae (pg a),jn a,Zy,nE b];show qH (xe (toK K) (L.getD i 0)) _=_;rw[vx _ h];show aK (!K.contains (L.getD i 0)) _ _=_;rw[ai c,t_ (by omega)]
  .intro i a c;have b:i<L.length:=by rw[<-dp];exact a
   refine⟨(.ret,[iv i,iv i]),?_,?_⟩
   .show aK (Zx ((i:Int)<((toK L).length:Int))) (uI i (toK L) (AV.aw AT ((toK L).getD (Zw i) .undef) _)) _=_;rw[ae (pg a),jn a,Zy,nE b];show qH (xe (toK K) (L.getD i 0)) _=_;rw[vx _ h];show aK (!K.contains (L.getD i 0)) _ _=_;rw[ae c]
   .show Zv [Zj (Zx ((i:Int)>=0))]=_
    simp_all
  .refine⟨(.exit 0,[iv 0,iv (toK L).length]),?_,rfl⟩;show aK (Zx (((toK L).length:Int)<((toK L).length:Int))) _ _=_;rw[ai PW]
 rw[e,dp,kh L 0 (λx => !K.contains x)]
 grind
theorem zo(b:Bytes)(h:B.length<=100000000):zn (toB B) b=Zv [.bool (!B.contains b)]:=by
 have e:zn (toB B) b=Zv (bif (Zq (toB B).length).any (λi=>B.getD i []==b) then[Zj Zu] else[Zj Zf]):=by
  refine oH (λi=>[.bool Zu,iv i]) _ _ ?_ ?_ ?_ rfl
  .intro i a d;have c:i<B.length:=by rw[<-c6];exact a
   show aK (Zx ((i:Int)<((toB B).length:Int))) (Ap i (toB B) (Zp ((toB B).getD (Zw i) .undef) _)) _=_;rw[ae (pg a),tH a,Zy,iP c];show aK (B.getD i []==b) _ _=_;rw[ai d,t_ (by omega)]
  .intro i a d;have c:i<B.length:=by rw[<-c6];exact a
   refine⟨(.ret,[.bool Zu,iv i]),?_,rfl⟩;show aK (Zx ((i:Int)<((toB B).length:Int))) (Ap i (toB B) (Zp ((toB B).getD (Zw i) .undef) _)) _=_;rw[ae (pg a),tH a,Zy,iP c];show aK (B.getD i []==b) _ _=_;rw[ae d]
  .refine⟨(.exit 0,[.bool Zu,iv (toB B).length]),?_,rfl⟩;show aK (Zx (((toB B).length:Int)<((toB B).length:Int))) _ _=_;rw[ai PW]
 rw[e,c6,kh B [] (λx=>x==b),nT]
 grind
theorem aaz(L:List Bytes)(h:B.length<=100000000)(hl:L.length<=100000000):SJ (toB B) (toB L)=Zv [.bool (L.any λk => !B.contains k)]:=by
 have e:SJ (toB B) (toB L)=Zv (bif (Zq (toB L).length).any (λi => !B.contains (L.getD i [])) then[Zj Zf] else[Zj Zu]):=by
  refine oH (λi=>[iv 0,iv i]) _ _ ?_ ?_ ?_ rfl
  .intro i a c;have b:i<L.length:=by rw[<-c6];exact a
   show aK (Zx ((i:Int)<((toB L).length:Int))) (uI i (toB L) (Zp ((toB L).getD (Zw i) .undef) _)) _=_;rw[ae (pg a),jn a,Zy,iP b];show qH (zn (toB B) (L.getD i [])) _=_;rw[zo _ h];show aK (!B.contains (L.getD i [])) _ _=_;rw[ai c,t_ (by omega)]
  .intro i a c;have b:i<L.length:=by rw[<-c6];exact a
   refine⟨(.ret,[iv i,iv i]),?_,?_⟩
   .show aK (Zx ((i:Int)<((toB L).length:Int))) (uI i (toB L) (Zp ((toB L).getD (Zw i) .undef) _)) _=_;rw[ae (pg a),jn a,Zy,iP b];show qH (zn (toB B) (L.getD i [])) _=_;rw[zo _ h];show aK (!B.contains (L.getD i [])) _ _=_;rw[ae c]
   .show Zv [Zj (Zx ((i:Int)>=0))]=_
    simp_all
  .refine⟨(.exit 0,[iv 0,iv (toB L).length]),?_,rfl⟩;show aK (Zx (((toB L).length:Int)<((toB L).length:Int))) _ _=_;rw[ai PW]
 rw[e,c6,kh L [] (λx => !B.contains x)]
 grind
theorem qe{l:List α}(d:α)(h:i<l.length):l.take (i+1)=l.take i++[l.getD i d]:=by
 simp_all
theorem Ce(K L:List Int)(h:i<L.length):eX K (L.take (i+1))=bif (eX K (L.take i)).contains (L.getD i 0) then eX K (L.take i) else jH (eX K (L.take i)) (L.getD i 0):=by
 rw[qe 0 h];unfold eX
 grind
theorem xy(K L:List Bytes)(h:i<L.length):eE K (L.take (i+1))=bif (eE K (L.take i)).contains (L.getD i []) then eE K (L.take i) else eE K (L.take i)++[L.getD i []]:=by
 rw[qe [] h];unfold eE
 grind
theorem Cd(l B:List Bytes):(eE B l).length<=B.length+l.length:=by
 obtain⟨N,b,a,_⟩:=jJ (l:=l) (B:=B)
 grind
theorem Nu{q:Int}(h:xA K=Zf)(a:K.contains q=Zu)(hl:K.length<=100000000)(f:List AV->Option α):VD (toK K) q f=f (toK (jH K q)):=by
 have b:q ∉ K:=by simpa using a
 unfold VD;rw[Rf h b,Rr (yu h),pY,dp];rw[show(Zf&&Zf&&Zx ((K.length:Int)<=100000000))=Zf by simp;omega];rfl
theorem Re{L:List Int}(f:xA K=Zf)(h:K.length+L.length<=100000000)(b a:List AV)(e:k (.exit 0,[iv L.length,.ay (toK (eX K L)),.ay b,.ay a])=Zv A):Zz (bh (X4 (toK L)) [iv 0,.ay (toK K),.ay b,.ay a]) k=Zv A:=by
 refine o0 (λi=>[iv i,.ay (toK (eX K (L.take i))),.ay b,.ay a]) L.length (λi c=> ?_) ⟨(.exit 0,[iv L.length,.ay (toK (eX K L)),.ay b,.ay a]),?_,e⟩ rfl
 .have d:i<(toK L).length:=by rw[dp];exact c
  have hm:(eX K (L.take i)).length<=100000000:=Zg uS (by rw[Yw];omega);show aK (Zx ((i:Int)<((toK L).length:Int))) (uI i (toK L) (AV.aw AT ((toK L).getD (Zw i) .undef) _)) _=_;rw[ae (pg d),jn d,Zy,nE c];show qH (xe (toK (eX K (L.take i))) (L.getD i 0)) _=_;rw[vx _ hm];show aK (!(eX K (L.take i)).contains (L.getD i 0)) _ _=_;rw[Ce K L c];cases hc:(eX K (L.take i)).contains (L.getD i 0) with
  | true =>
   rw[Zh,eA,t_ (by omega)];rfl
  | false =>
   rw[Zb,gO,Nu (nS f) hc hm,t_ (by omega)];rfl
 .show aK (Zx ((L.length:Int)<((toK L).length:Int))) _ _=_;rw[ai (by rw[dp];simp),Yx]
theorem DE{n:Nat}(h:n<=100000000):Go.Abs.room (n+1) 24=Zf:=by
 unfold Go.Abs.room;simp only[Yu,Nat.ble_eq];omega
theorem vU(B:List Bytes)(q:Bytes):toB B++[.bs q]=toB (B++[q]):=by simp[toB]
theorem Q'{K L:List Bytes}(h:K.length+L.length<=100000000)(y a:List AV)(d:k (.exit 2,[iv L.length,.ay y,.ay (toB (eE K L)),.ay a])=Zv A):Zz (bh (Ra (toB L)) [iv 0,.ay y,.ay (toB K),.ay a]) k=Zv A:=by
 refine o0 (λi=>[iv i,.ay y,.ay (toB (eE K (L.take i))),.ay a]) L.length (λi b=> ?_) ⟨(.exit 2,[iv L.length,.ay y,.ay (toB (eE K L)),.ay a]),?_,d⟩ rfl
 .have c:i<(toB L).length:=by rw[c6];exact b
  have hm:(eE K (L.take i)).length<=100000000:=Zg (Cd _ _) (by rw[Yw];omega);show aK (Zx ((i:Int)<((toB L).length:Int))) (uI i (toB L) (Zp ((toB L).getD (Zw i) .undef) _)) _=_;rw[ae (pg c),jn c,Zy,iP b];show qH (zn (toB (eE K (L.take i))) (L.getD i [])) _=_;rw[zo _ hm];show aK (!(eE K (L.take i)).contains (L.getD i [])) (ax (Go.Abs.room ((toB (eE K (L.take i))).length+1) 24) (Zv (Sum.inl [up i,.ay y,.ay (toB (eE K (L.take i))++[.bs (L.getD i [])]),.ay a]))) _=_;rw[xy K L b,c6,DE hm,vU];cases hc:(eE K (L.take i)).contains (L.getD i []) with
  | true =>
   rw[Zh,eA,t_ (by omega)];rfl
  | false =>
   rw[Zb,gO,t_ (by omega)];rfl
 .show aK (Zx ((L.length:Int)<((toB L).length:Int))) _ _=_;rw[ai (by rw[c6];simp),Yx]
def tv(s:Kn)(M:List AV):List AV:=[.ay (toK s.keys),.ay (toB s.boxes),.ay M]
theorem R4{x:Bv}(hs:eJ s)(a:x.keys.length<=1)(c:x.boxes.length<=1)(b:Bool)(n:Int)(M:List AV):E6 b n (toK x.keys) (toB x.boxes) (toK s.keys) (toB s.boxes) M=Zv (.inr (.ret,.bool Zf::iv n::tv (s.add x) M)):=by
 have e:=hs.Bb;have d:=hs.tg;unfold E6;refine Re hs.xA (by omega) _ _ ?_;show Zz (bh (Ra (toB x.boxes)) _) _=_;refine Q' (by omega) _ _ ?_;rfl
theorem Sb{x:Bv}:s.has x=(!(x.keys.any λk => !s.keys.contains k) && !(x.boxes.any λb => !s.boxes.contains b)):=by
 unfold Kn.has
 grind
theorem Tm(hs:eJ s)(e:t.length<=70368744170000)(b:Bool)(n:Int)(M:List AV):
  FE b n (toK s.keys) (toB s.boxes) M t=Zv (if s.opens t=Zf then .inr (.ret,.bool Zf::iv n::tv (s.add (bC t)) (pR (iv n) (.bool Zf) M))
   else .inl (.bool b::up n::tv s (if (aN t).err=0/\s.keys.contains (aN t).box.key=Zf then pR (iv n) (.bool Zf) M else M))):=by
 have j:=hs.Bb;have i:=hs.tg;unfold FE;rw[aq (by simp;omega)];show aK (!((aN t).err==0)) _ _=_;by_cases he:(aN t).err=0;case neg =>
  rw[ae (by simpa using he),Qa0 (by rw[wl];exact λh=>he h.1),Qa0 (λh=>he h.1)];rfl
 rw[ai (by simpa using he)];have c:s.opens t=(s.keys.contains (aN t).box.key && !s.has (bC t)):=by unfold Kn.opens;rw[he];rfl
 rw[c,vx _ (by omega)];show aK (!s.keys.contains (aN t).box.key) _ _=_;cases f:s.keys.contains (aN t).box.key with
 | false =>
  rw[Zb,gO,Bool.false_and,Qa0 Bool.false_ne_true,Qa0 (λh=>Bool.false_ne_true h.2)];rfl
 | true =>
  have d:(aN t).box.body.length<=70368744170000:=by
   rcases pT t with h | h
   .omega
   .rw[h];exact Yp _
  have a:=zd t;rw[Zh,eA,aq (by simp;omega),Bool.true_and,Qa1 (show(aN t).err=0/\Zf=Zf from⟨he,rfl⟩)];show qH (SN (toK s.keys) (toK (bC t).keys)) _=_;have g:=R4 hs a.keys a.boxes b n (pR (iv n) (.bool Zf) M);rw[aaA _ (by omega) (by have:=a.keys;omega)];show aK (!(bC t).keys.any λk => !s.keys.contains k) (qH (SJ (toB s.boxes) (toB (bC t).boxes)) _) (E6 b n (toK (bC t).keys) (toB (bC t).boxes) (toK s.keys) (toB s.boxes) (pR (iv n) (.bool Zf) M))=_;rw[aaz _ (by omega) (by have:=a.boxes;omega),g,Sb];show aK (!(bC t).keys.any λk => !s.keys.contains k) (aK (!(bC t).boxes.any λk => !s.boxes.contains k) _ (E6 b n (toK (bC t).keys) (toB (bC t).boxes) (toK s.keys) (toB s.boxes) (pR (iv n) (.bool Zf) M))) _=_;rw[g];cases (bC t).keys.any λk => !s.keys.contains k<;>cases (bC t).boxes.any λk => !s.boxes.contains k<;>rfl
def Cb(M:List AV)(s:Kn):Prop:=∀ i,i<s.boxes.length->getM (iv i) M (.bool Zu) = .bool Zu\/(getM (iv i) M (.bool Zu) = .bool Zf/\s.done (s.boxes.getD i [])=Zf)
theorem C2(n m:Int):nc (iv n) (iv m)=(n==m):=by simp[nc,iv]
theorem CE(n m:Int)(d v:AV):∀ {M:List AV},getM (iv m) (pR (iv n) v M) d=if n=m then v else getM (iv m) M d
 | []=>by
  show(bif nc (iv n) (iv m) then Zv v else Yd).getD d=_;rw[C2];by_cases h:n=m
  .rw[Qa1 h,show(n==m)=Zf by simpa using h];rfl
  .rw[Qa0 h,show(n==m)=Zu by simpa using h];rfl
 | e::r=>by
  have ih:=CE n m d v (M:=r);unfold getM at ih ⊢;show(qv (iv m) (bif nc (gp e) (iv n) then AV.bp [iv n,v]::r else e::pR (iv n) v r)).getD d=_;cases he:nc (gp e) (iv n) with
  | true =>
   have a:gp e=iv n:=by
    cases b:gp e<;>rw[b] at he<;>simp only[nc,iv] at he<;>try cases he
    simp only[Yu,Qb0] at he;rw[he.1,he.2]
   show(bif nc (iv n) (iv m) then Zv v else qv (iv m) r).getD d=if n=m then v else(bif nc (gp e) (iv m) then Zv (vn e) else qv (iv m) r).getD d
   rw[a,C2];by_cases h:n=m
   .rw[Qa1 h,show(n==m)=Zf by simpa using h];rfl
   .rw[Qa0 h,show(n==m)=Zu by simpa using h];rfl
  | false =>
   show(bif nc (gp e) (iv m) then Zv (vn e) else qv (iv m) (pR (iv n) v r)).getD d=if n=m then v else(bif nc (gp e) (iv m) then Zv (vn e) else qv (iv m) r).getD d
   cases hm:nc (gp e) (iv m) with
   | false=>exact ih
   | true =>
    have a:gp e=iv m:=by
     cases b:gp e<;>rw[b] at hm<;>simp only[nc,iv] at hm<;>try cases hm
     simp only[Yu,Qb0] at hm;rw[hm.1,hm.2]
    rw[a,C2] at he;rw[Qa0 (by intro h;subst h;simp at he)];rfl
theorem Cb.put(h:Cb M s)(hd:s.done (s.boxes.getD j [])=Zf):Cb (pR (iv j) (.bool Zf) M) s:=by
 intro i a;rw[CE];by_cases e:(j:Int)=i
 .grind
 .rw[Qa0 e];exact h i a
theorem Cb.grow(h:Cb M s)(x:Bv)(d:∀ i,s.boxes.length<=i->getM (iv i) M (.bool Zu) = .bool Zu):Cb M (s.add x):=by
 intro i f;by_cases e:i<s.boxes.length
 .rcases h i e with h | ⟨b,a⟩
  .exact .inl h
  .refine .inr ⟨b,?_⟩;obtain⟨N,g,_⟩:=jJ (l:=x.boxes) (B:=s.boxes);have c:(s.add x).boxes.getD i []=s.boxes.getD i []:=by
    show(eE s.boxes x.boxes).getD i []=_
    grind
   rw[c];exact(HX s x).done a
 all_goals grind
def Gn(M:List AV)(N:Nat):Prop:=∀ i:Nat,N<=i->getM (iv i) M (.bool Zu) = .bool Zu
theorem Gn.put{N:Nat}(h:Gn M N)(b:j<N):Gn (pR (iv j) (.bool Zf) M) N:=by
 intro i a;rw[CE,Qa0 (by omega)];exact h i a
structure qY (M:List AV) (s:Kn):Prop where
 ok:Cb M s
 low:Gn M s.boxes.length
theorem VV(he:(aN t).err=0)(b:s.keys.contains (aN t).box.key=Zf)(a:s.opens t=Zu):s.done t=Zf:=by simp_all [Bool.true_and,Kn.done,Kn.opens]
theorem LQ(h:s.done t=Zf):s.opens t=Zu:=by
 unfold Kn.done at h;unfold Kn.opens
 grind
def Next(s:Kn)(r:Ex×List AV):Prop:=(s.next=Yd/\∃ M,qY M s/\r=(.exit 0,.bool Zu::iv s.boxes.length::tv s M))\/∃ b M n,s.next=Zv b/\qY M (s.add (bC b))/\r=(.ret,.bool Zf::iv n::tv (s.add (bC b)) M)
theorem Tf(hs:eJ s)(a:qY M s){Q:Z->Prop}(w:∀ r,Next s r->∃ x,k r=Zv x/\Q x):∃ x,Zz (bh (N8 (toB s.boxes)) (.bool Zu::iv 0::tv s M)) k=Zv x/\Q x:=by
 have G:=hs.tg;refine Hq (enc:=λ(q:Nat×List AV) => .bool Zu::iv (q.1:Int)::tv s q.2) (I:=λq=>q.1<=s.boxes.length/\qY q.2 s/\∀ j,j<q.1->s.opens (s.boxes.getD j [])=Zu) (μ:=λq=>s.boxes.length-q.1) (R:=Next s) (0,M) ⟨Yp _,a,λj h=>by omega⟩ rfl ?_ w;rintro⟨i,M⟩ ⟨z,a,g⟩;dsimp only at z a g;by_cases h:i<s.boxes.length;case neg =>
  obtain rfl:i=s.boxes.length:=by omega
  refine⟨.inr (.exit 0,.bool Zu::iv s.boxes.length::tv s M),?_,.inl ⟨?_,M,a,rfl⟩⟩
  .show aK (Zx ((s.boxes.length:Int)<((toB s.boxes).length:Int))) _ _=_;rw[ai (by rw[c6];simp)];rfl
  .unfold Kn.next;rw[List.find?_eq_none];intro x v;obtain⟨j,c,rfl⟩:=List.mem_iff_getElem.1 v;have:=g j c;simpa [Yk,c] using this
 have o:i<(toB s.boxes).length:=by rw[c6];exact h
 have u:s.boxes.getD i []∈s.boxes:=by simp[Yk,h]
 have D:N8 (toB s.boxes) (.bool Zu::iv (i:Int)::tv s M)=AV.dw (getM (iv i) M (.bool Zu)) λn=>aK (!n) (FE Zu i (toK s.keys) (toB s.boxes) M (s.boxes.getD i [])) (Zv (.inl (.bool Zu::up i::tv s M))):=by
  show aK (Zx ((i:Int)<((toB s.boxes).length:Int))) (AV.dw (getM (iv i) M (.bool Zu)) λn=>aK (!n) (Ap i (toB s.boxes) (Zp ((toB s.boxes).getD (Zw i) .undef) λt=>FE Zu i (toK s.keys) (toB s.boxes) M t)) _) _=_;rw[ae (pg o),tH o,Zy,iP h];rfl
 have step:∀ d,qY d s->s.opens (s.boxes.getD i [])=Zu->Cc (λ(q:Nat×List AV)=>Zj Zu::iv (q.1:Int)::tv s q.2) (λq=>q.1<=s.boxes.length/\qY q.2 s/\∀ j,j<q.1->s.opens (s.boxes.getD j [])=Zu) (λq=>s.boxes.length-q.1) (Next s) (i,M) (.inl (.bool Zu::up i::tv s d)):=λd E b =>
  ⟨(i+1,d),by dsimp only;rw[t_ (by omega)],⟨h,E,λj F=>by
   by_cases e:j=i
   .rw[e];exact b
   .exact g j (by dsimp only at F;omega)⟩,show s.boxes.length-(i+1)<s.boxes.length-i by omega⟩
 dsimp only;rw[D];rcases a.ok i h with m | ⟨m,hd⟩
 .rw[m];show ∃ y,FE Zu i (toK s.keys) (toB s.boxes) M (s.boxes.getD i [])=Zv y/\_;rw[Tm hs (hs.len _ u)];by_cases b:s.opens (s.boxes.getD i [])=Zf
  .rw[Qa1 b];have hd:(s.add (bC (s.boxes.getD i []))).done (s.boxes.getD i [])=Zf:=by unfold Kn.done;rw[Nv];simp
   refine⟨_,rfl,.inr ⟨s.boxes.getD i [],pR (iv i) (.bool Zf) M,i,?_,?_,rfl⟩⟩
   .unfold Kn.next;rw[List.find?_eq_some_iff_getElem]
    grind
   .have hl:s.boxes.length<=(s.add (bC (s.boxes.getD i []))).boxes.length:=by
     obtain⟨N,C,_⟩:=jJ (l:=(bC (s.boxes.getD i [])).boxes) (B:=s.boxes);show _<=(eE s.boxes _).length
     grind
    have A:(s.add (bC (s.boxes.getD i []))).boxes.getD i []=s.boxes.getD i []:=by
     obtain⟨N,C,_⟩:=jJ (l:=(bC (s.boxes.getD i [])).boxes) (B:=s.boxes);show(eE s.boxes _).getD i []=_
     grind
    exact⟨(a.ok.grow _ a.low).put (by rw[A];exact hd),λj c=>(a.low.put h) j (Zg hl c)⟩
  .have p:s.opens (s.boxes.getD i [])=Zu:=by simpa using b
   rw[Qa0 b];by_cases f:(aN (s.boxes.getD i [])).err=0/\s.keys.contains (aN (s.boxes.getD i [])).box.key=Zf
   .rw[Qa1 f];exact⟨_,rfl,step _ ⟨a.ok.put (VV f.1 f.2 p),a.low.put h⟩ p⟩
   all_goals grind
 .rw[m];exact⟨_,rfl,step _ a (LQ hd)⟩
theorem NJ(hs:eJ s):I' (toK s.keys) (toB s.boxes) []=Zv (.agg [.sl 1 (toK (close s).keys),.sl 1 (toB (close s).boxes)],[]):=by
 unfold I';refine bS (enc:=λ(q:Kn×List AV)=>tv q.1 q.2) (I:=λq=>eJ q.1/\qY q.2 q.1/\close q.1=close s) (μ:=λq=>dz q.1) (R:=λr=>∃ M,r=(.exit 0,tv (close s) M)) (s,[]) ⟨hs,⟨λi o => .inl rfl,λi o=>rfl⟩,rfl⟩ rfl ?_ ?_
 .rintro⟨t,M⟩ ⟨f,h,hc⟩;dsimp only at f h hc;have key:∃ y,uC (tv t M)=Zv y/\Cc (λ(q:Kn×List AV)=>tv q.1 q.2) (λq=>eJ q.1/\qY q.2 q.1/\close q.1=close s) (λq=>dz q.1) (λr=>∃ M,r=(.exit 0,tv (close s) M)) (t,M) y:=by
   have p:uC (tv t M)=Zz (bh (N8 (toB t.boxes)) (.bool Zu::iv 0::tv t M)) λr=>az r.2 λb a=>af AI a λ_ a=>s7 a λy a=>s7 a λe a=>s7 a λd a=>ak a
     (kJ r.1 (aK b (Zv (.inl [.ay y,.ay e,.ay d])) (Zv (.inr (.exit 0,[.ay y,.ay e,.ay d])))) λj=>aK (Zk j 0) (Zv (.inr (.exit 0,[.ay y,.ay e,.ay d]))) Yd):=rfl
   rw[p];refine Tf f h ?_;rintro r (⟨c,g,m,rfl⟩ | ⟨b,g,n,c,m,rfl⟩)
   .exact⟨_,rfl,g,by rw[<-hc,tt c];rfl⟩
   .obtain⟨l,k⟩:=sI c;exact⟨_,rfl,(t.add (bC b),g),rfl,⟨f.open l k,m,by rw[<-xC c];exact hc⟩,oY l k⟩
  exact key
 .rintro r ⟨M,rfl⟩;rfl
theorem PM{bs:List AV}{b:Bytes}(h:cK ks bs=Zf)(hm:dz (kn ks bs)+2*b.length+2100<=1000000):Mi ks bs b=Zv (.agg [.sl 1 (toK (learn (kn ks bs) b).keys),.sl 1 (toB (learn (kn ks bs) b).boxes)],[]):=by
 obtain⟨s,rfl,rfl,hs⟩:=xg h;rw[gS] at hm ⊢;have f:=hs.tg;have e:=hs.Bb;have d:=lh b;unfold Mi VM;rw[pY,dp,aq (by simp;omega)];show Zz (ax (ua (toB s.boxes)&&Zx ((toB s.boxes).length<=1000000)) _) _=_;rw[zW,c6,aq (by simp;omega)];show Zz (ax (Zx (b.length<=70368744170000)) _) _=_;rw[aq (by simp;omega)];show Zz (bh YJ [.sl 1 [],.sl 1 [],.ay (toK s.keys),.ay (toB s.boxes),.ay [],.sl 1 (toB (partsOf b)),iv (toB (partsOf b)).length,iv 0]) _=_;refine o0 (λi=>[.sl 1 [],.sl 1 [],.ay (toK s.keys),.ay (toB (eE s.boxes ((partsOf b).take i))),.ay [],.sl 1 (toB (partsOf b)),iv (toB (partsOf b)).length,iv i]) (partsOf b).length (λi a=> ?_)
  ⟨(.exit 0,[.sl 1 [],.sl 1 [],.ay (toK s.keys),.ay (toB (eE s.boxes (partsOf b))),.ay [],.sl 1 (toB (partsOf b)),iv (toB (partsOf b)).length,iv (partsOf b).length]),?_,?_⟩ rfl
 .have c:i<(toB (partsOf b)).length:=by rw[c6];exact a
  have hl:(eE s.boxes ((partsOf b).take i)).length<=100000000:=Zg (Cd _ _) (by rw[Yw];omega);show aK (Zx ((i:Int)<((toB (partsOf b)).length:Int))) (uI i (toB (partsOf b)) (Zp ((toB (partsOf b)).getD (Zw i) .undef) _)) _=_;rw[ae (pg c),jn c,Zy,iP a];show qH (zn (toB (eE s.boxes ((partsOf b).take i))) ((partsOf b).getD i [])) _=_;rw[zo _ hl];show aK (!(eE s.boxes ((partsOf b).take i)).contains ((partsOf b).getD i [])) (ax (Go.Abs.room ((toB (eE s.boxes ((partsOf b).take i))).length+1) 24) (Zv (Sum.inl [.sl 1 [],.sl 1 [],.ay (toK s.keys),.ay (toB (eE s.boxes ((partsOf b).take i))++[.bs ((partsOf b).getD i [])]),.ay [],.sl 1 (toB (partsOf b)),iv (toB (partsOf b)).length,up i]))) _=_;rw[xy s.boxes (partsOf b) a,c6 (eE _ _),DE hl,vU];cases hc:(eE s.boxes ((partsOf b).take i)).contains ((partsOf b).getD i []) with
  | true =>
   rw[Zh,eA,t_ (by omega)];rfl
  | false =>
   rw[Zb,gO,t_ (by omega)];rfl
 .show aK (Zx (((partsOf b).length:Int)<((toB (partsOf b)).length:Int))) _ _=_;rw[ai (by rw[c6];simp),Yx]
 .show I' (toK s.keys) (toB (eE s.boxes (partsOf b))) []=_;exact NJ (s:=s.add ⟨[],partsOf b⟩) (hs.parts hm)
theorem SZ{bs:List AV}{k:Int}(h:cK ks bs=Zf)(b:(Zx (0<=k)&&Zx (k<18446744073709551616))=Zf)(hm:dz (kn ks bs)+1<=1000000):SY ks bs k=Zv (.agg [.sl 1 (toK (leak (kn ks bs) k).keys),.sl 1 (toB (leak (kn ks bs) k).boxes)],[]):=by
 obtain⟨s,rfl,rfl,hs⟩:=xg h;rw[gS] at hm ⊢;have d:=hs.Bb;have c:=hs.tg;unfold SY VM;rw[pY,dp,aq (by simp;omega)];show Zz (ax (ua (toB s.boxes)&&Zx ((toB s.boxes).length<=1000000)) _) _=_;rw[zW,c6,aq (by simp;omega)];show Zz (ax (Zx (0<=k)&&Zx (k<18446744073709551616)) _) _=_;rw[aq b];show Zz (aK (bf k) (qH (xe (toK s.keys) k) _) _) _=_;rw[vx _ (by omega)];show Zz (aK (bf k) (aK (!s.keys.contains k) _ _) _) _=_;have fin:I' (toK (eX s.keys (dK [k]))) (toB s.boxes) []=Zv (.agg [.sl 1 (toK (leak s k).keys),.sl 1 (toB (leak s k).boxes)],[]):=NJ (s:=s.add ⟨dK [k],[]⟩) (hs.Mh hm);cases a:bf k with
 | false =>
  rw[show dK [k]=[] by simp[dK,a]] at fin;exact fin
 | true =>
  rw[show dK [k]=[k] by simp[dK,a]] at fin;have e:eX s.keys [k]=bif s.keys.contains k then s.keys else jH s.keys k:=rfl
  rw[e] at fin;cases hc:s.keys.contains k with
  | true=>rw[hc] at fin;exact fin
  | false =>
   rw[hc] at fin;rw[gO,Zb,gO,Nu hs.xA hc (by omega)];exact fin
end Kerb
/- Chapter 27: small loops. -/
namespace Kerb
open Go Go.Abs
variable {l:List Bytes}{i:Nat}{n:Nat}{α:Type}
theorem yy(h:i<l.length):gj (l.take (i+1))=bif oO (l.getD i []) then gj (l.take i)++[l.getD i []] else gj (l.take i):=by
 rw[qe [] h];unfold gj
 grind
theorem Ie{l:List Int}(h:i<l.length):dK (l.take (i+1))=bif bf (l.getD i 0) then dK (l.take i)++[l.getD i 0] else dK (l.take i):=by
 rw[qe 0 h];unfold dK
 grind
theorem UZ(B:List Int)(q:Int):toK B++[.int AT q]=toK (B++[q]):=by simp[toK]
theorem HK(h:n<=1000000000):Go.Abs.room n 8=Zf:=by
 unfold Go.Abs.room;simp only[Yu,Nat.ble_eq];omega
theorem Xa(h:n<=1000000000):Go.Abs.room n 24=Zf:=by
 unfold Go.Abs.room;simp only[Yu,Nat.ble_eq];omega
theorem afj[BEq α][LawfulBEq α]{K L:List α}(d:α)(h:K.length=L.length):((Zq K.length).any λi => !(K.getD i d==L.getD i d)) = !(K==L):=by
 cases he:K==L with
 | true =>
  grind
 | false =>
  have a:K≠L:=by intro e;subst e;simp at he
  rw[Zb,List.any_eq_true];refine Classical.byContradiction λhc=>a (List.ext_getElem h λi c b=> ?_)
  simp_all
theorem NY:∀ {K:List Int} {k:Int} {i:Nat},i<=K.length->(∀ j,j<i->K.getD j 0<k)->(i<K.length->¬ K.getD i 0<k)->jH K k=if i<K.length/\K.getD i 0=k then K else K.take i++k::K.drop i
 | [],k,i,a,_,_=>by
  obtain rfl:i=0:=by simpa using a
  simp[jH]
 | x::r,k,0,_,_,h=>by
  have f:¬ x<k:=h (by simp);by_cases e:x=k
  .subst e;simp[jH]
  .have e':(x==k)=Zu:=by simpa using e
   show(bif Zx (x<k) then _ else bif x==k then _ else k::x::r)=_
   grind
 | x::r,k,i+1,a,c,d=>by
  have f:x<k:=c 0 (by omega);have ih:=NY (K:=r) (k:=k) (i:=i) (by simpa using a) (λj b=>c (j+1) (by omega)) (λb=>d (by simpa using b));show(bif Zx (x<k) then x::jH r k else _)=_
  grind
theorem Lb(h:i<=1000000000):IntKind.wrap AI ((i:Int)+1)=((i+1:Nat):Int):=by
 rw[wrap_i64 (by omega) (by omega)];rfl
theorem V2(i:Nat):Zx ((0:Int)<=(i:Int))=Zf:=by simp
theorem lk{l:List Int}(h:i<l.length):Zx ((i:Int)<((toK l).length:Int))=Zf:=by rw[dp];simp;omega
theorem IJ(h:i<l.length):Zx ((i:Int)<((toB l).length:Int))=Zf:=by rw[c6];simp;omega
theorem Pn{l:List Int}(h:i<l.length):Yk (toK l) (Zw (i:Int)) .undef = .int AT (l.getD i 0):=by rw[Zy];exact nE h
theorem aep(h:i<l.length):Yk (toB l) (Zw (i:Int)) .undef = .bs (l.getD i []):=by rw[Zy];exact iP h
theorem DV(l:List Int):Zx ((l.length:Int)<((toK l).length:Int))=Zu:=by rw[dp];simp
theorem DT(l:List Bytes):Zx ((l.length:Int)<((toB l).length:Int))=Zu:=by rw[c6];simp
theorem mZ{l:List α}(d:α)(h:i<l.length):l.getD i d∈l:=by simp[Yk,h]
theorem ago(l:List Int)(i:Nat):(toK l).take i=toK (l.take i):=by simp[toK,List.map_take]
theorem ad8(l:List Int)(i:Nat):(toK l).drop i=toK (l.drop i):=by simp[toK,List.map_drop]
abbrev kb2(ks bs:List AV):aO:=[[.sl 1 ks,.sl 1 bs]]
end Kerb
/- Chapter 27: what is known does not depend on the order; what can be made teaches nothing. -/
namespace Kerb
open Go Go.Abs
inductive Gl (B0:Bytes->Prop) (K0:Int->Prop):Int ⊕ Bytes->Prop
 | key {k:Int}:K0 k->Gl B0 K0 (.inl k)
 | box {b:Bytes}:B0 b->Gl B0 K0 (.inr b)
 | Uu {b:Bytes} {k:Int}:Gl B0 K0 (.inr b)->(aN b).err=0->Gl B0 K0 (.inl (aN b).box.key)->k∈(bC b).keys->Gl B0 K0 (.inl k)
 | Ut {b c:Bytes}:Gl B0 K0 (.inr b)->(aN b).err=0->Gl B0 K0 (.inl (aN b).box.key)->c∈(bC b).boxes->Gl B0 K0 (.inr c)
theorem Gl.mono{f d:Bytes->Prop}{c a:Int->Prop}(i:∀ b,f b->d b)(g:∀ k,c k->a k){x:Int ⊕ Bytes}(h:Gl f c x):Gl d a x:=by
 induction h with
 | key h=>exact .key (g _ h)
 | box h=>exact .box (i _ h)
 | Uu _ e _ m i1 i2=>exact .Uu i1 e i2 m
 | Ut _ e _ m i1 i2=>exact .Ut i1 e i2 m
structure Full (B0:Bytes->Prop) (K0:Int->Prop) (s:Kn):Prop where
 next:s.next=Yd
 xA:xA s.keys=Zf
 nodup:s.boxes.Nodup
 keys:∀ k,k∈s.keys↔Gl B0 K0 (.inl k)
 boxes:∀ b,b∈s.boxes↔Gl B0 K0 (.inr b)
theorem N9{s:Kn}(h:s.next=Yd){b:Bytes}(d:b∈s.boxes)(e:(aN b).err=0)(a:(aN b).box.key∈s.keys):s.has (bC b)=Zf:=by
 have:=List.find?_eq_none.1 h b d;cases c:s.has (bC b) with
 | true=>rfl
 | false=>exact absurd (wl.2 ⟨e,a,c⟩) this
theorem qZ:∀ {l B:List Bytes},B.Nodup->(eE B l).Nodup
 | [],B,h=>h
 | b::l,B,h=>by
  have e:eE B (b::l)=eE (bif B.contains b then B else B++[b]) l:=rfl;rw[e];cases hc:B.contains b with
  | true=>exact qZ h
  | false =>
   refine qZ (List.nodup_append.2 ⟨h,by simp,?_⟩)
   grind
theorem Full.join{p f:Bytes->Prop}{o d:Int->Prop}{s:Kn}(h:Full p o s){x:Bv}(n:∀ b,f b↔p b\/b∈x.boxes)(a:∀ k,d k↔o k\/k∈x.keys):Full f d (close (s.add x)):=by
 have m:∀ {y},Gl p o y->Gl f d y:=Gl.mono (λb q=>(n b).2 (.inl q)) λk q=>(a k).2 (.inl q);obtain⟨⟨F,E,D,C,B,A⟩,l⟩:=vZ (P:=λs=>Kerb.xA s.keys=Zf/\s.boxes.Nodup/\(∀ k∈s.keys,Gl f d (.inl k))/\(∀ b∈s.boxes,Gl f d (.inr b))/\(∀ k,d k->k∈s.keys)/\∀ b,f b->b∈s.boxes) (λs b ⟨z,w,i,g,v,u⟩ r go=>by
  obtain⟨e,t,_⟩:=wl.1 go;refine⟨nS z,qZ w,λk a=> ?_,λc hc=> ?_,λk a=>jy.2 (.inl (v k a)),λc hc=>io.2 (.inl (u c hc))⟩
  .rcases jy.1 a with a | a
   .exact i k a
   .exact .Uu (g b r) e (i _ t) a
  .rcases io.1 hc with hc | hc
   .exact g c hc
   .exact .Ut (g b r) e (i _ t) hc) (s.add x)
  ⟨nS h.xA,qZ h.nodup,λk q=>by
   rcases jy.1 q with q | q
   .exact m ((h.keys k).1 q)
   .exact .key ((a k).2 (.inr q)),λb q=>by
   rcases io.1 q with q | q
   .exact m ((h.boxes b).1 q)
   .exact .box ((n b).2 (.inr q)),λk q=>by
   rcases (a k).1 q with q | q
   .exact jy.2 (.inl ((h.keys k).2 (.key q)))
   .exact jy.2 (.inr q),λb q=>by
   rcases (n b).1 q with q | q
   .exact io.2 (.inl ((h.boxes b).2 (.box q)))
   .exact io.2 (.inr q)⟩
 have all:∀ y,Gl f d y->(match y with | .inl k=>k∈(close (s.add x)).keys | .inr b=>b∈(close (s.add x)).boxes):=by
  intro y hy;induction hy with
  | key q=>exact B _ q
  | box q=>exact A _ q
  | Uu _ e _ j i1 i2=>exact(wb.1 (N9 l i1 e i2)).1 _ j
  | Ut _ e _ j i1 i2=>exact(wb.1 (N9 l i1 e i2)).2 _ j
 exact⟨l,F,E,λk=>⟨D k,λq=>all _ q⟩,λb=>⟨C b,λq=>all _ q⟩⟩
theorem uc{s:Kn}:∀ {n:Nat} {b:Bytes},b.length<n->k8 n s b=eN s b:=by
 have key:∀ (k:Nat) (b:Bytes),b.length<k->∀ n m,b.length<n->b.length<m->k8 n s b=k8 m s b:=by
  intro k;induction k with
  | zero=>intro b h;omega
  | succ k ih =>
   intro b d n m a hm;obtain⟨n,rfl⟩:∃ q,n=q+1:=⟨n-1,by omega⟩;obtain⟨m,rfl⟩:∃ q,m=q+1:=⟨m-1,by omega⟩;have:(bC b).boxes.all (λb=>k8 n s b)=(bC b).boxes.all λb=>k8 m s b:=by
    rw[Bool.eq_iff_iff,Yv,Yv];constructor
    .intro h c hc;have:=p9 hc
     grind
    .intro h c hc;have:=p9 hc
     grind
   simp only[k8,this]
 exact λ{n b} h=>key (b.length+1) b (by omega) n (b.length+1) h (by omega)
theorem Ek(s:Kn)(b:Bytes):eN s b=(s.boxes.contains b||(oO b&&s.keys.contains (aN b).box.key&&(bC b).keys.all (λk=>s.keys.contains k)&&(bC b).boxes.all λb=>eN s b)):=by
 have:(bC b).boxes.all (λc=>k8 b.length s c)=(bC b).boxes.all λc=>eN s c:=by
  rw[Bool.eq_iff_iff,Yv,Yv];constructor
  .intro h c hc;have:=p9 hc;rw[<-uc (n:=b.length) (by omega)];exact h c hc
  .intro h c hc;have:=p9 hc;rw[uc (by omega)];exact h c hc
 show k8 (b.length+1) s b=_;simp only[k8,this]
end Kerb
/- Chapter 27: the reference's functions, as their loops are. -/
namespace Kerb
open Go Go.Abs
variable {B:List Bytes}{α:Type}{i:Nat}{s:Kn}{t:Bytes}{qT:Nat}{b:Bytes}
abbrev rb(v:AV):AV×aO:=(v,[])
noncomputable def ajC(y:List AV)(b:List UInt8)(l:List AV):St:=az l λc r=>af AI r λi r=>ak r
 (aK (Zx (i<(y.length:Int))) (Ap i y (Zp (y.getD (Zw i) .undef) λq=>aK (q==b) (Zv (.inr (.ret,[.bool Zf,iv i]))) (Zv (.inl [.bool c,up i]))))
  (Zv (.inr (.exit 0,[.bool c,iv i]))))
noncomputable def hasB(y:List AV)(b:List UInt8):Option (List AV):=Zz (bh (ajC y b) [.bool Zu,iv 0]) λr=>az r.2 λc d=>af AI d λ_ a=>ak a (kJ r.1 (Zv [.bool c]) λj=>aK (Zk j 0) (Zv [.bool Zu]) Yd)
theorem V9(b:Bytes)(h:B.length<=100000000):hasB (toB B) b=Zv [.bool (B.contains b)]:=by
 have e:hasB (toB B) b=Zv (bif (Zq (toB B).length).any (λi=>B.getD i []==b) then[Zj Zf] else[Zj Zu]):=by
  refine oH (λi=>[.bool Zu,iv i]) _ _ ?_ ?_ ?_ rfl
  .intro i a d;have c:i<B.length:=by rw[<-c6];exact a
   show aK (Zx ((i:Int)<((toB B).length:Int))) (Ap i (toB B) (Zp ((toB B).getD (Zw i) .undef) _)) _=_;rw[ae (pg a),tH a,Zy,iP c];show aK (B.getD i []==b) _ _=_;rw[ai d,t_ (by omega)]
  .intro i a d;have c:i<B.length:=by rw[<-c6];exact a
   refine⟨(.ret,[.bool Zf,iv i]),?_,rfl⟩;show aK (Zx ((i:Int)<((toB B).length:Int))) (Ap i (toB B) (Zp ((toB B).getD (Zw i) .undef) _)) _=_;rw[ae (pg a),tH a,Zy,iP c];show aK (B.getD i []==b) _ _=_;rw[ae d]
  .refine⟨(.exit 0,[.bool Zu,iv (toB B).length]),?_,rfl⟩;show aK (Zx (((toB B).length:Int)<((toB B).length:Int))) _ _=_;rw[ai PW]
 rw[e,c6,kh B [] (λx=>x==b),nT]
 grind
noncomputable def Jg(ks:List AV)(k:Int)(f:Bool->Option α):Option α:=Zz (ax (cM ks&&Zx (ks.length<=1000000000)) (Zv (rb (.bool ((cu ks).contains k))))) λr=>aE r.2 (AV.dw r.1 f)
theorem yY{K:List Int}(k:Int)(h:K.length<=100000000)(f:Bool->Option α):Jg (toK K) k f=f (K.contains k):=by
 unfold Jg;rw[pY,jE,dp,aq (by simp;omega)];rfl
noncomputable def adF(st:List AV):St:=eg 1 st λl r=>eg 1 r λm r=>eg 1 r λa r=>eg 1 r λb r=>eg 1 r λks r=>s7 r λy r=>az r λc r=>af AI r λn r=>ak r
 (aK (Zx (n<(l.length:Int))) (uI n l (AV.aw AT (l.getD (Zw n) .undef) λk=>Jg ks k λf=>aK (!f)
   (uI n l (AV.aw AT (l.getD (Zw n) .undef) λe=>Zz (ax (cM ks&&Zx (ks.length<=1000000000)) (Zv (rb (.sl 1 (toK (jH (cu ks) e)))))) λr=>aE r.2 (AV.fN 1 r.1 λd=>Zv (.inl [.sl 1 l,.sl 1 m,.sl 1 a,.sl 1 b,.sl 1 d,.ay y,.bool Zf,up n]))))
   (Zv (.inl [.sl 1 l,.sl 1 m,.sl 1 a,.sl 1 b,.sl 1 ks,.ay y,.bool c,up n]))))
  (Zv (.inr (.exit 0,[.sl 1 l,.sl 1 m,.sl 1 a,.sl 1 b,.sl 1 ks,.ay y,.bool c,iv n]))))
noncomputable def Ns(st:List AV):St:=eg 1 st λm r=>eg 1 r λa r=>eg 1 r λb r=>eg 1 r λks r=>s7 r λy r=>az r λd r=>af AI r λn r=>ak r
 (aK (Zx (n<(m.length:Int))) (uI n m (Zp (m.getD (Zw n) .undef) λq=>qH (hasB y q) λe=>aK (!e)
   (uI n m (Zp (m.getD (Zw n) .undef) λc=>ax (Go.Abs.room c.length 1) (ax (Go.Abs.room (y.length+[AV.bs c].length) 24) (Zv (.inl [.sl 1 m,.sl 1 a,.sl 1 b,.sl 1 ks,.ay (y++[.bs c]),.bool Zf,up n])))))
   (Zv (.inl [.sl 1 m,.sl 1 a,.sl 1 b,.sl 1 ks,.ay y,.bool d,up n]))))
  (Zv (.inr (.exit 2,[.sl 1 m,.sl 1 a,.sl 1 b,.sl 1 ks,.ay y,.bool d,iv n]))))
noncomputable def aam(ks bs l m:List AV):Option (AV×aO):=ax (Go.Abs.room ks.length 8) (ax (Go.Abs.room bs.length 24)
 (Zz (bh adF [.sl 1 l,.sl 1 m,.sl 1 [],.sl 1 [],.sl 1 ks,.ay bs,.bool Zu,iv 0]) λr=>eg 1 r.2 λ_ c=>eg 1 c λm c=>eg 1 c λa c=>eg 1 c λb c=>eg 1 c λks c=>s7 c λy c=>az c λd c=>af AI c λ_ c=>ak c (kJ r.1 Yd λj=>aK (Zk j 0)
  (Zz (bh Ns [.sl 1 m,.sl 1 a,.sl 1 b,.sl 1 ks,.ay y,.bool d,iv 0]) λr=>eg 1 r.2 λ_ c=>eg 1 c λ_ c=>eg 1 c λ_ c=>eg 1 c λks c=>s7 c λy c=>az c λd c=>af AI c λ_ c=>ak c (kJ r.1 Yd λj=>aK (Zk j 2) (Zv (.bp [.agg [.sl 1 ks,.sl 1 y],.bool d],[])) Yd)) Yd)))
def rq[BEq α](K l:List α):Bool:=l.any λk => !K.contains k
theorem P2(K L:List Int)(h:i<L.length):rq K (L.take (i+1))=bif (eX K (L.take i)).contains (L.getD i 0) then rq K (L.take i) else Zf:=by
 rw[qe 0 h];unfold rq;rw[List.any_append];cases hc:(eX K (L.take i)).contains (L.getD i 0) with
 | true =>
  have hc:=jy.1 (Yy.1 hc)
  grind
 | false =>
  have a:L.getD i 0 ∉ K:=λq=>by
   have:(eX K (L.take i)).contains (L.getD i 0)=Zf:=Yy.2 (jy.2 (.inl q))
   grind
  grind
theorem P1(K L:List Bytes)(h:i<L.length):rq K (L.take (i+1))=bif (eE K (L.take i)).contains (L.getD i []) then rq K (L.take i) else Zf:=by
 rw[qe [] h];unfold rq;rw[List.any_append];cases hc:(eE K (L.take i)).contains (L.getD i []) with
 | true =>
  have hc:=io.1 (Yy.1 hc)
  grind
 | false =>
  have a:L.getD i [] ∉ K:=λq=>by
   have:(eE K (L.take i)).contains (L.getD i [])=Zf:=Yy.2 (io.2 (.inl q))
   grind
  grind
theorem afT{n:Nat}(h:n<=140737488355328):Go.Abs.room n 1=Zf:=by
 unfold Go.Abs.room
 simp_all
theorem Q_(m a b ks y:List AV)(c:Bool)(n:Int):Ns [.sl 1 m,.sl 1 a,.sl 1 b,.sl 1 ks,.ay y,.bool c,iv n]=aK (Zx (n<(m.length:Int))) (uI n m (Zp (m.getD (Zw n) .undef) λq=>qH (hasB y q) λe=>aK (!e)
   (uI n m (Zp (m.getD (Zw n) .undef) λd=>ax (Go.Abs.room d.length 1) (ax (Go.Abs.room (y.length+1) 24) (Zv (.inl [.sl 1 m,.sl 1 a,.sl 1 b,.sl 1 ks,.ay (y++[.bs d]),.bool Zf,up n])))))
   (Zv (.inl [.sl 1 m,.sl 1 a,.sl 1 b,.sl 1 ks,.ay y,.bool c,up n]))))
  (Zv (.inr (.exit 2,[.sl 1 m,.sl 1 a,.sl 1 b,.sl 1 ks,.ay y,.bool c,iv n]))):=rfl
theorem VE(hs:eJ s){x:Bv}(o:x.keys.length<=1000)(n:x.boxes.length<=1000)(h:∀ b∈x.boxes,b.length<=140737488355328):
  aam (toK s.keys) (toB s.boxes) (toK x.keys) (toB x.boxes)=Zv (.bp [.agg [.sl 1 (toK (s.add x).keys),.sl 1 (toB (s.add x).boxes)],.bool (!s.has x)],[]):=by
 have m:=hs.Bb;have l:=hs.tg;unfold aam;rw[dp,c6,aq (HK (by omega)),aq (Xa (by omega))];refine o0 (λi=>[.sl 1 (toK x.keys),.sl 1 (toB x.boxes),.sl 1 [],.sl 1 [],.sl 1 (toK (eX s.keys (x.keys.take i))),.ay (toB s.boxes),.bool (rq s.keys (x.keys.take i)),iv i]) x.keys.length (λi a=> ?_)
  ⟨(.exit 0,[.sl 1 (toK x.keys),.sl 1 (toB x.boxes),.sl 1 [],.sl 1 [],.sl 1 (toK (eX s.keys x.keys)),.ay (toB s.boxes),.bool (rq s.keys x.keys),iv x.keys.length]),?_,?_⟩ rfl
 .have c:i<(toK x.keys).length:=by rw[dp];exact a
  have hm:(eX s.keys (x.keys.take i)).length<=100000000:=Zg uS (by rw[Yw];omega);show aK (Zx ((i:Int)<((toK x.keys).length:Int))) (uI i (toK x.keys) (AV.aw AT ((toK x.keys).getD (Zw i) .undef) λk=>Jg (toK (eX s.keys (x.keys.take i))) k λe=>aK (!e) (uI i (toK x.keys) (AV.aw AT ((toK x.keys).getD (Zw i) .undef) λf=>Zz (ax (cM (toK (eX s.keys (x.keys.take i)))&&Zx ((toK (eX s.keys (x.keys.take i))).length<=1000000000)) (Zv (rb (.sl 1 (toK (jH (cu (toK (eX s.keys (x.keys.take i)))) f)))))) _)) _)) _=_;rw[ae (pg c),jn c,jn c,Zy,nE a];show Jg (toK (eX s.keys (x.keys.take i))) (x.keys.getD i 0) (λe=>aK (!e) (Zz (ax (cM (toK (eX s.keys (x.keys.take i)))&&Zx ((toK (eX s.keys (x.keys.take i))).length<=1000000000)) (Zv (rb (.sl 1 (toK (jH (cu (toK (eX s.keys (x.keys.take i)))) (x.keys.getD i 0))))))) _) _)=_;rw[yY _ hm,pY,dp (eX _ _),jE,aq (by simp;omega),Ce _ _ a,P2 _ _ a,t_ (by omega)];cases (eX s.keys (x.keys.take i)).contains (x.keys.getD i 0)<;>rfl
 .show aK (Zx ((x.keys.length:Int)<((toK x.keys).length:Int))) _ _=_;rw[ai (DV _),Yx]
 show Zz (bh Ns [.sl 1 (toB x.boxes),.sl 1 [],.sl 1 [],.sl 1 (toK (eX s.keys x.keys)),.ay (toB s.boxes),.bool (rq s.keys x.keys),iv 0]) _=_;generalize j:rq s.keys x.keys=d;have g:[Yz 1 (toB x.boxes),Yz 1 [],Yz 1 [],Yz 1 (toK (eX s.keys x.keys)),AV.ay (toB s.boxes),Zj d,iv 0]=[.sl 1 (toB x.boxes),.sl 1 [],.sl 1 [],.sl 1 (toK (eX s.keys x.keys)),.ay (toB (eE s.boxes (x.boxes.take 0))),.bool (d||rq s.boxes (x.boxes.take 0)),iv ((0:Nat):Int)]:=by
  show _=[_,_,_,_,_,Zj (d||false),_];rw[Bool.or_false];rfl
 refine o0 (λi=>[.sl 1 (toB x.boxes),.sl 1 [],.sl 1 [],.sl 1 (toK (eX s.keys x.keys)),.ay (toB (eE s.boxes (x.boxes.take i))),.bool (d||rq s.boxes (x.boxes.take i)),iv i]) x.boxes.length (λi a=> ?_)
  ⟨(.exit 2,[.sl 1 (toB x.boxes),.sl 1 [],.sl 1 [],.sl 1 (toK (eX s.keys x.keys)),.ay (toB (eE s.boxes x.boxes)),.bool (d||rq s.boxes x.boxes),iv x.boxes.length]),?_,?_⟩ g
 .have c:i<(toB x.boxes).length:=by rw[c6];exact a
  have hm:(eE s.boxes (x.boxes.take i)).length<=100000000:=Zg (Cd _ _) (by rw[Yw];omega);show Ns [.sl 1 (toB x.boxes),.sl 1 [],.sl 1 [],.sl 1 (toK (eX s.keys x.keys)),.ay (toB (eE s.boxes (x.boxes.take i))),.bool (d||rq s.boxes (x.boxes.take i)),iv i]=_;rw[Q_,ae (pg c),jn c,jn c,Zy,iP a];simp only[wj];rw[V9 _ hm,aq (afT (h _ (mZ [] a))),c6 (eE _ _),aq (DE hm),vU,xy _ _ a,P1 _ _ a,t_ (by omega)];show aK (!(eE s.boxes (x.boxes.take i)).contains (x.boxes.getD i [])) _ _=_;cases (eE s.boxes (x.boxes.take i)).contains (x.boxes.getD i [])
  .rw[Zb,gO,Qa7,Qa7,Bool.or_true]
  .rw[Zh,eA,Qa6,Qa6]
 .show aK (Zx ((x.boxes.length:Int)<((toB x.boxes).length:Int))) _ _=_;rw[ai (DT _),Yx]
 .rw[Sb];show Zv ((_,_):AV×aO)=_;rw[Bool.not_and,Bool.not_not,Bool.not_not,<-j];rfl
noncomputable def Kj(t:List UInt8)(f:Int->Int->List UInt8->Int->Int->Option α):Option α :=
 Zz (ax (Zx (t.length<=140737488355328)) (Zv (rb (.bp [.agg [.int AI (aN t).box.kind,.int AT (aN t).box.key,.bs (aN t).box.body],.int AI (aN t).n,.int AI (aN t).err])))) λr=>aE r.2 (AV.gJ r.1 λb=>ar b λx r=>AV.dt x λcs=>af AI cs λkd a=>af AT a λc a=>dg a λbd a=>ak a (af AI r λn r=>af AI r λd r=>ak r (f kd c bd n d)))
theorem Kk(h:t.length<=140737488355328)(f:Int->Int->List UInt8->Int->Int->Option α):Kj t f=f (aN t).box.kind (aN t).box.key (aN t).box.body (aN t).n (aN t).err:=by
 unfold Kj;rw[aq (Qa4 h)];rfl
noncomputable def WC(kd a:Int)(bd:List UInt8)(f:List AV->List AV->Option α):Option α :=
 Zz (ax (Zx (bd.length<=70368744170000)) (Zv (rb (.bp [.sl 1 (toK (h_ ⟨kd,a,bd⟩).keys),.sl 1 (toB (h_ ⟨kd,a,bd⟩).boxes)])))) λr=>aE r.2 (AV.gJ r.1 λb=>eg 1 b λkl r=>eg 1 r λbl r=>ak r (f kl bl))
theorem NX{kd a:Int}{bd:Bytes}(h:bd.length<=70368744170000)(f:List AV->List AV->Option α):WC kd a bd f=f (toK (h_ ⟨kd,a,bd⟩).keys) (toB (h_ ⟨kd,a,bd⟩).boxes):=by
 unfold WC;rw[aq (Qa4 h)];rfl
noncomputable def Nt(ks bs l m:List AV)(f:List AV->List AV->Bool->Option α):Option α :=
 Zz (ax (cK ks bs&&cM l&&ua m&&Zx (l.length<=1000)&&Zx (m.length<=1000)&&(fO m).all λb=>Zx (b.length<=140737488355328)) (Zv (rb (.bp [.agg [.sl 1 (toK ((kn ks bs).add ⟨cu l,fO m⟩).keys),.sl 1 (toB ((kn ks bs).add ⟨cu l,fO m⟩).boxes)],.bool (!(kn ks bs).has ⟨cu l,fO m⟩)])))) λr=>aE r.2 (AV.gJ r.1 λc=>ar c λx r=>AV.dt x λcs=>eg 1 cs λe a=>eg 1 a λg a=>ak a (az r λd r=>ak r (f e g d)))
theorem Rc(hs:eJ s){x:Bv}(g:x.keys.length<=1000)(e:x.boxes.length<=1000)(d:∀ b∈x.boxes,b.length<=140737488355328)(f:List AV->List AV->Bool->Option α):Nt (toK s.keys) (toB s.boxes) (toK x.keys) (toB x.boxes) f=f (toK (s.add x).keys) (toB (s.add x).boxes) (!s.has x):=by
 unfold Nt;have a:x.boxes.all (λb=>Zx (b.length<=140737488355328))=Zf:=Yv.2 λb c=>Qa4 (d b c);rw[gS,jE,lK,zl.2 hs,pY,zW,dp,c6,a,aq (by simp;omega)];rfl
noncomputable def yB(qT:Nat)(ks bs:List AV)(f:List AV->List AV->Option α):Option α :=
 Zz (ax (cK ks bs&&Zx ((dz (kn ks bs):Int)<(qT:Int))) (Zv (rb (.agg [.sl 1 (toK (close (kn ks bs)).keys),.sl 1 (toB (close (kn ks bs)).boxes)])))) λr=>aE r.2 (AV.dt r.1 λcs=>eg 1 cs λa r=>eg 1 r λb r=>ak r (f a b))
theorem LD(hs:eJ s)(h:dz s<qT)(f:List AV->List AV->Option α):yB qT (toK s.keys) (toB s.boxes) f=f (toK (close s).keys) (toB (close s).boxes):=by
 unfold yB;rw[gS,zl.2 hs,aq (by simp;omega)];rfl
noncomputable def NA(qT:Nat)(st:List AV):St:=eg 1 st λks r=>eg 1 r λbs r=>eg 1 r λa r=>eg 1 r λb r=>af AI r λn r=>ak r
 (aK (Zx (n<(bs.length:Int))) (uI n bs (Zp (bs.getD (Zw n) .undef) λt=>Kj t λkd c bd _ _=>Jg ks c λg=>aK (!g) (Zv (.inl [.sl 1 ks,.sl 1 bs,.sl 1 a,.sl 1 b,up n]))
   (WC kd c bd λkl bl=>Nt ks bs kl bl λf i d=>aK d (yB qT f i λe h=>Zv (.inr (.ret,[.sl 1 ks,.sl 1 bs,.sl 1 e,.sl 1 h,iv n]))) (Zv (.inl [.sl 1 ks,.sl 1 bs,.sl 1 a,.sl 1 b,up n])))))
  (Zv (.inr (.exit 0,[.sl 1 ks,.sl 1 bs,.sl 1 a,.sl 1 b,iv n]))))
noncomputable def GF(qT:Nat)(ks bs:List AV):Option (AV×aO):=Zz (bh (NA qT) [.sl 1 ks,.sl 1 bs,.sl 1 [],.sl 1 [],iv 0]) λr=>eg 1 r.2 λks c=>eg 1 c λbs c=>eg 1 c λa c=>eg 1 c λb c=>af AI c λ_ c=>ak c
 (kJ r.1 (Zv (.agg [.sl 1 a,.sl 1 b],[])) λj=>aK (Zk j 0) (Zv (.agg [.sl 1 ks,.sl 1 bs],[])) Yd)
theorem Ki(h:(aN b).err≠0):(aN b).box=sM:=by grind [aN]
theorem Ny(h:t.length<=70368744170000):(aN t).box.body.length<=70368744170000:=by
 rcases pT t with a | a
 .omega
 .rw[a];exact Yp _
theorem LF(hs:eJ s)(hd:dz s<=qT):GF qT (toK s.keys) (toB s.boxes)=Zv (.agg [.sl 1 (toK (close s).keys),.sl 1 (toB (close s).boxes)],[]):=by
 have w:=hs.Bb;have v:=hs.tg;unfold GF;refine bS (enc:=λ(i:Nat)=>[.sl 1 (toK s.keys),.sl 1 (toB s.boxes),.sl 1 [],.sl 1 [],iv (i:Int)]) (I:=λi=>i<=s.boxes.length/\∀ j,j<i->s.opens (s.boxes.getD j [])=Zu) (μ:=λi=>s.boxes.length-i)
  (R:=λr=>(r=(.exit 0,[.sl 1 (toK s.keys),.sl 1 (toB s.boxes),.sl 1 [],.sl 1 [],iv s.boxes.length])/\s.next=Yd)\/∃ n,r=(.ret,[.sl 1 (toK s.keys),.sl 1 (toB s.boxes),.sl 1 (toK (close s).keys),.sl 1 (toB (close s).boxes),iv n])) 0 ⟨Yp _,λj h=>by omega⟩ rfl ?_ ?_
 .rintro i ⟨y,l⟩;by_cases h:i<s.boxes.length;case neg =>
   obtain rfl:i=s.boxes.length:=by omega
   refine⟨.inr (.exit 0,[.sl 1 (toK s.keys),.sl 1 (toB s.boxes),.sl 1 [],.sl 1 [],iv s.boxes.length]),?_,.inl ⟨rfl,?_⟩⟩
   .show aK (Zx ((s.boxes.length:Int)<((toB s.boxes).length:Int))) _ _=_;rw[ai (DT _)]
   .unfold Kn.next;rw[List.find?_eq_none];intro x p;obtain⟨j,m,rfl⟩:=List.mem_iff_getElem.1 p;have:=l j m;simpa [Yk,m] using this
  have g:i<(toB s.boxes).length:=by rw[c6];exact h
  have hlen:=hs.len _ (mZ [] h);have t:NA qT [.sl 1 (toK s.keys),.sl 1 (toB s.boxes),.sl 1 [],.sl 1 [],iv (i:Int)]=aK (!s.keys.contains (aN (s.boxes.getD i [])).box.key) (Zv (.inl [.sl 1 (toK s.keys),.sl 1 (toB s.boxes),.sl 1 [],.sl 1 [],up i]))
    (aK (!s.has (bC (s.boxes.getD i []))) (yB qT (toK (s.add (bC (s.boxes.getD i []))).keys) (toB (s.add (bC (s.boxes.getD i []))).boxes) λo u=>Zv (.inr (.ret,[.sl 1 (toK s.keys),.sl 1 (toB s.boxes),.sl 1 o,.sl 1 u,iv i]))) (Zv (.inl [.sl 1 (toK s.keys),.sl 1 (toB s.boxes),.sl 1 [],.sl 1 [],up i]))):=by
   have d:=zd (s.boxes.getD i []);show aK (Zx ((i:Int)<((toB s.boxes).length:Int))) (uI i (toB s.boxes) (Zp ((toB s.boxes).getD (Zw i) .undef) _)) _=_;rw[ae (pg g),jn g,Zy,iP h];show Kj (s.boxes.getD i []) _=_;rw[Kk (by omega),yY _ (by omega),NX (Ny hlen)];show aK _ _ (Nt (toK s.keys) (toB s.boxes) (toK (bC (s.boxes.getD i [])).keys) (toB (bC (s.boxes.getD i [])).boxes) _)=_;rw[Rc hs (by have:=d.keys;omega) (by have:=d.boxes;omega) (λb q=>by have:=d.len b q;omega)]
  have step:s.opens (s.boxes.getD i [])=Zu->Cc (λ(i:Nat)=>[Yz 1 (toK s.keys),Yz 1 (toB s.boxes),Yz 1 [],Yz 1 [],iv (i:Int)]) (λi=>i<=s.boxes.length/\∀ j,j<i->s.opens (s.boxes.getD j [])=Zu) (λi=>s.boxes.length-i)
    (λr=>(r=((.exit 0:Ex),[Yz 1 (toK s.keys),Yz 1 (toB s.boxes),Yz 1 [],Yz 1 [],iv s.boxes.length])/\s.next=Yd)\/∃ n,r=((.ret:Ex),[Yz 1 (toK s.keys),Yz 1 (toB s.boxes),Yz 1 (toK (close s).keys),Yz 1 (toB (close s).boxes),iv n])) i (.inl [Yz 1 (toK s.keys),Yz 1 (toB s.boxes),Yz 1 [],Yz 1 [],up i]):=λa =>
   ⟨i+1,by dsimp only;rw[t_ (by omega)],⟨h,λj A=>by
    by_cases e:j=i
    .rw[e];exact a
    .exact l j (by omega)⟩,show s.boxes.length-(i+1)<s.boxes.length-i by omega⟩
  rw[t];cases k:s.keys.contains (aN (s.boxes.getD i [])).box.key with
  | false=>exact⟨_,rfl,step (by unfold Kn.opens;rw[k];simp)⟩
  | true =>
   cases c:s.has (bC (s.boxes.getD i [])) with
   | true=>exact⟨_,rfl,step (by unfold Kn.opens;rw[c];simp)⟩
   | false =>
    have he:(aN (s.boxes.getD i [])).err=0:=by
     refine Classical.byContradiction λhc=> ?_;have:bC (s.boxes.getD i [])=⟨[],[]⟩:=by unfold bC;rw[Ki hc];rfl
     rw[this] at c;cases c
    have a:s.opens (s.boxes.getD i [])=Zf:=by unfold Kn.opens;rw[k,c,he];rfl
    have f:s.next=Zv (s.boxes.getD i []):=by
     unfold Kn.next;rw[List.find?_eq_some_iff_getElem]
     grind
    have z:=oY (mZ [] h) a;refine⟨.inr (.ret,[.sl 1 (toK s.keys),.sl 1 (toB s.boxes),.sl 1 (toK (close s).keys),.sl 1 (toB (close s).boxes),iv i]),?_,Or.inr ⟨i,rfl⟩⟩;show yB qT _ _ _=_;rw[LD (hs.open (mZ [] h) a) (by omega),<-xC f]
 .rintro r (⟨rfl,f⟩ | ⟨n,rfl⟩)
  .rw[tt f];rfl
  .rfl
noncomputable def Ry(ks bs:List AV)(b:List UInt8)(f:Bool->Option α):Option α:=Zz (ax (cK ks bs&&Zx (b.length<=70368744170000)) (Zv (rb (.bool (eN (kn ks bs) b))))) λr=>aE r.2 (AV.dw r.1 f)
theorem Nz(hs:eJ s)(h:b.length<=70368744170000)(f:Bool->Option α):Ry (toK s.keys) (toB s.boxes) b f=f (eN s b):=by
 unfold Ry;rw[gS,zl.2 hs,aq (by simp;omega)];rfl
noncomputable def adR(st:List AV):St:=eg 1 st λks r=>eg 1 r λbs r=>az r λc r=>eg 1 r λl r=>af AI r λn r=>ak r
 (aK (Zx (n<(l.length:Int))) (uI n l (Zp (l.getD (Zw n) .undef) λt=>Ry ks bs t λa=>aK (!a) (Zv (.inr (.ret,[.sl 1 ks,.sl 1 bs,.bool Zu,.sl 1 l,iv n]))) (Zv (.inl [.sl 1 ks,.sl 1 bs,.bool c,.sl 1 l,up n]))))
  (Zv (.inr (.exit 0,[.sl 1 ks,.sl 1 bs,.bool c,.sl 1 l,iv n]))))
noncomputable def YI(b:List UInt8)(f:List AV->Option α):Option α:=Zz (ax (Zx (b.length<=70368744170000)) (Zv (rb (.sl 1 (toB (partsOf b)))))) λr=>aE r.2 (AV.fN 1 r.1 f)
noncomputable def aay(ks bs:List AV)(b:List UInt8):Option (AV×aO):=YI b λl=>Zz (bh adR [.sl 1 ks,.sl 1 bs,.bool Zu,.sl 1 l,iv 0]) λr=>eg 1 r.2 λ_ a=>eg 1 a λ_ a=>az a λc a=>eg 1 a λ_ a=>af AI a λ_ a=>ak a
 (kJ r.1 (Zv (rb (.bool c))) λj=>aK (Zk j 0) (Zv (rb (.bool Zf))) Yd)
theorem Gt(l:List α)(p:α->Bool):l.all p = !(l.any λx => !p x):=List.all_eq_not_any_not
theorem FF{x:Bytes}(a:b.length<=70368744160000)(h:x∈partsOf b):x.length<=70368744170000:=by
 have:=(lh b).1 x h;omega
theorem VN(hs:eJ s)(e:b.length<=70368744160000):aay (toK s.keys) (toB s.boxes) b=Zv (rb (.bool (BM s b))):=by
 have f:=(lh b).2;unfold aay YI;rw[aq (by simp;omega)];show Zz (bh adR [.sl 1 (toK s.keys),.sl 1 (toB s.boxes),.bool Zu,.sl 1 (toB (partsOf b)),iv 0]) _=_;refine Qb2 (oH (A:=rb (.bool Zu)) (B:=rb (.bool Zf)) (λi=>[.sl 1 (toK s.keys),.sl 1 (toB s.boxes),.bool Zu,.sl 1 (toB (partsOf b)),iv i]) (partsOf b).length (λi => !eN s ((partsOf b).getD i [])) ?_ ?_ ?_ rfl) ?_
 .intro i a d;have c:i<(toB (partsOf b)).length:=by rw[c6];exact a
  show aK (Zx ((i:Int)<((toB (partsOf b)).length:Int))) (uI i (toB (partsOf b)) (Zp ((toB (partsOf b)).getD (Zw i) .undef) _)) _=_;rw[ae (pg c),jn c,Zy,iP a];show Ry (toK s.keys) (toB s.boxes) ((partsOf b).getD i []) _=_;rw[Nz hs (FF e (mZ [] a)),ai d,t_ (by omega)]
 .intro i a d;have c:i<(toB (partsOf b)).length:=by rw[c6];exact a
  refine⟨(.ret,[.sl 1 (toK s.keys),.sl 1 (toB s.boxes),.bool Zu,.sl 1 (toB (partsOf b)),iv i]),?_,rfl⟩;show aK (Zx ((i:Int)<((toB (partsOf b)).length:Int))) (uI i (toB (partsOf b)) (Zp ((toB (partsOf b)).getD (Zw i) .undef) _)) _=_;rw[ae (pg c),jn c,Zy,iP a];show Ry (toK s.keys) (toB s.boxes) ((partsOf b).getD i []) _=_;rw[Nz hs (FF e (mZ [] a)),ae d]
 .refine⟨(.exit 0,[.sl 1 (toK s.keys),.sl 1 (toB s.boxes),.bool Zu,.sl 1 (toB (partsOf b)),iv (partsOf b).length]),?_,rfl⟩;show aK (Zx (((partsOf b).length:Int)<((toB (partsOf b)).length:Int))) _ _=_;rw[ai (DT _)]
 .unfold BM;rw[kh (partsOf b) [] (λx => !eN s x),Gt]
  grind
noncomputable def aeA(y:List AV)(b:List UInt8)(l:List AV):St:=az l λc r=>af AI r λi r=>ak r
 (aK (Zx (i<(y.length:Int))) (uI i y (Zp (y.getD (Zw i) .undef) λq=>aK (q==b) (Zv (.inr (.ret,[.bool Zf,iv i]))) (Zv (.inl [.bool c,up i]))))
  (Zv (.inr (.exit 0,[.bool c,iv i]))))
noncomputable def R9(y:List AV)(b:List UInt8):Option (List AV):=Zz (bh (aeA y b) [.bool Zu,iv 0]) λr=>az r.2 λc d=>af AI d λ_ a=>ak a (kJ r.1 (Zv [.bool c]) λj=>aK (Zk j 0) (Zv [.bool Zu]) Yd)
theorem R_(b:Bytes)(h:B.length<=100000000):R9 (toB B) b=Zv [.bool (B.contains b)]:=by
 have e:R9 (toB B) b=Zv (bif (Zq (toB B).length).any (λi=>B.getD i []==b) then[Zj Zf] else[Zj Zu]):=by
  refine oH (λi=>[.bool Zu,iv i]) _ _ ?_ ?_ ?_ rfl
  .intro i a d;have c:i<B.length:=by rw[<-c6];exact a
   show aK (Zx ((i:Int)<((toB B).length:Int))) (uI i (toB B) (Zp ((toB B).getD (Zw i) .undef) _)) _=_;rw[ae (pg a),jn a,Zy,iP c];show aK (B.getD i []==b) _ _=_;rw[ai d,t_ (by omega)]
  .intro i a d;have c:i<B.length:=by rw[<-c6];exact a
   refine⟨(.ret,[.bool Zf,iv i]),?_,rfl⟩;show aK (Zx ((i:Int)<((toB B).length:Int))) (uI i (toB B) (Zp ((toB B).getD (Zw i) .undef) _)) _=_;rw[ae (pg a),jn a,Zy,iP c];show aK (B.getD i []==b) _ _=_;rw[ae d]
  .refine⟨(.exit 0,[.bool Zu,iv (toB B).length]),?_,rfl⟩;show aK (Zx (((toB B).length:Int)<((toB B).length:Int))) _ _=_;rw[ai PW]
 rw[e,c6,kh B [] (λx=>x==b),nT]
 grind
theorem PH(b:Bytes):oO b=((aN b).err==0&&(aN b).n==(b.length:Int)):=rfl
theorem SK(b:Bytes):h_ ⟨(aN b).box.kind,(aN b).box.key,(aN b).box.body⟩=bC b:=rfl
noncomputable def ckS(st:List AV):St:=eg 1 st λks r=>eg 1 r λbs r=>az r λc r=>eg 1 r λkl r=>eg 1 r λbl r=>af AI r λn r=>ak r
 (aK (Zx (n<(kl.length:Int))) (uI n kl (AV.aw AT (kl.getD (Zw n) .undef) λk=>Jg ks k λh=>aK (!h) (Zv (.inr (.ret,[.sl 1 ks,.sl 1 bs,.bool Zu,.sl 1 kl,.sl 1 bl,iv n]))) (Zv (.inl [.sl 1 ks,.sl 1 bs,.bool c,.sl 1 kl,.sl 1 bl,up n]))))
  (Zv (.inr (.exit 0,[.sl 1 ks,.sl 1 bs,.bool c,.sl 1 kl,.sl 1 bl,iv n]))))
noncomputable def WK(qT:Nat)(ks bs:List AV)(t:List UInt8)(f:Bool->Option α):Option α:=Zz (ax (cK ks bs&&Zx (t.length<=70368744170000)&&Zx ((t.length:Int)<(qT:Int))) (Zv (rb (.bool (eN (kn ks bs) t))))) λr=>aE r.2 (AV.dw r.1 f)
theorem Rz(hs:eJ s)(h:t.length<=70368744170000)(hd:t.length<qT)(f:Bool->Option α):WK qT (toK s.keys) (toB s.boxes) t f=f (eN s t):=by
 unfold WK;rw[gS,zl.2 hs,aq (by simp;omega)];rfl
noncomputable def ZS(qT:Nat)(st:List AV):St:=eg 1 st λks r=>eg 1 r λbs r=>az r λc r=>eg 1 r λbl r=>af AI r λn r=>ak r
 (aK (Zx (n<(bl.length:Int))) (uI n bl (Zp (bl.getD (Zw n) .undef) λt=>WK qT ks bs t λh=>aK (!h) (Zv (.inr (.ret,[.sl 1 ks,.sl 1 bs,.bool Zu,.sl 1 bl,iv n]))) (Zv (.inl [.sl 1 ks,.sl 1 bs,.bool c,.sl 1 bl,up n]))))
  (Zv (.inr (.exit 2,[.sl 1 ks,.sl 1 bs,.bool c,.sl 1 bl,iv n]))))
noncomputable def acj(qT:Nat)(ks bs:List AV)(b:List UInt8):Option (AV×aO):=qH (R9 bs b) λf=>aK f (Zv (rb (.bool Zf))) (Kj b λkd d bd n e=>aK (!(e==0)) (Zv (rb (.bool Zu))) (aK (!(n==(b.length:Int))) (Zv (rb (.bool Zu))) (Jg ks d λh=>aK (!h) (Zv (rb (.bool Zu))) (WC kd d bd λkl bl =>
 Zz (bh ckS [.sl 1 ks,.sl 1 bs,.bool Zu,.sl 1 kl,.sl 1 bl,iv 0]) λr=>eg 1 r.2 λks a=>eg 1 a λbs a=>az a λc a=>eg 1 a λ_ a=>eg 1 a λbl a=>af AI a λ_ a=>ak a (kJ r.1 (Zv (rb (.bool c))) λj=>aK (Zk j 0)
  (Zz (bh (ZS qT) [.sl 1 ks,.sl 1 bs,.bool c,.sl 1 bl,iv 0]) λr=>eg 1 r.2 λ_ a=>eg 1 a λ_ a=>az a λc a=>eg 1 a λ_ a=>af AI a λ_ a=>ak a (kJ r.1 (Zv (rb (.bool c))) λj=>aK (Zk j 2) (Zv (rb (.bool Zf))) Yd)) Yd)))))
theorem W7(hs:eJ s)(g:b.length<=70368744170000)(hd:b.length<=qT):acj qT (toK s.keys) (toB s.boxes) b=Zv (rb (.bool (eN s b))):=by
 have l:=hs.Bb;have k:=hs.tg;have e:=zd b;unfold acj;rw[R_ _ (by omega)];show aK (s.boxes.contains b) _ _=_;rw[Ek,PH];cases hc:s.boxes.contains b with
 | true=>rfl
 | false =>
  rw[eA,Kk (by omega),Bool.false_or];by_cases he:(aN b).err=0;case neg =>
   have h:((aN b).err==0)=Zu:=by simpa using he
   rw[h];rfl
  have hl:=DC he;rw[he,ai (by rfl)];cases m:(aN b).n==(b.length:Int) with
  | false=>rfl
  | true =>
   rw[Zh,eA,yY _ (by omega),show((0:Int)==0&&Zf)=Zf from rfl,Bool.true_and];cases o:s.keys.contains (aN b).box.key with
   | false=>rfl
   | true =>
    rw[Zh,eA,NX (Ny g),Bool.true_and,SK];refine Qb2 (oH (A:=rb (.bool Zu)) (B:=rb (.bool ((bC b).boxes.all λb=>eN s b))) (λi=>[.sl 1 (toK s.keys),.sl 1 (toB s.boxes),.bool Zu,.sl 1 (toK (bC b).keys),.sl 1 (toB (bC b).boxes),iv i]) (bC b).keys.length (λi => !s.keys.contains ((bC b).keys.getD i 0)) ?_ ?_ ?_ rfl) ?_
    .intro i a d;have c:i<(toK (bC b).keys).length:=by rw[dp];exact a
     have j:=e.keys;show aK (Zx ((i:Int)<((toK (bC b).keys).length:Int))) (uI i (toK (bC b).keys) (AV.aw AT ((toK (bC b).keys).getD (Zw i) .undef) _)) _=_;rw[ae (pg c),jn c,Zy,nE a,sO,yY _ (by omega),ai d,t_ (by omega)]
    .intro i a d;have c:i<(toK (bC b).keys).length:=by rw[dp];exact a
     refine⟨(.ret,[.sl 1 (toK s.keys),.sl 1 (toB s.boxes),.bool Zu,.sl 1 (toK (bC b).keys),.sl 1 (toB (bC b).boxes),iv i]),?_,rfl⟩;show aK (Zx ((i:Int)<((toK (bC b).keys).length:Int))) (uI i (toK (bC b).keys) (AV.aw AT ((toK (bC b).keys).getD (Zw i) .undef) _)) _=_;rw[ae (pg c),jn c,Zy,nE a,sO,yY _ (by omega),ae d]
    .refine⟨(.exit 0,[.sl 1 (toK s.keys),.sl 1 (toB s.boxes),.bool Zu,.sl 1 (toK (bC b).keys),.sl 1 (toB (bC b).boxes),iv (bC b).keys.length]),?_,?_⟩
     .show aK (Zx (((bC b).keys.length:Int)<((toK (bC b).keys).length:Int))) _ _=_;rw[ai (DV _)]
     show Zz (bh (ZS qT) [.sl 1 (toK s.keys),.sl 1 (toB s.boxes),.bool Zu,.sl 1 (toB (bC b).boxes),iv 0]) _=_;refine Qb2 (oH (A:=rb (.bool Zu)) (B:=rb (.bool Zf)) (λi=>[.sl 1 (toK s.keys),.sl 1 (toB s.boxes),.bool Zu,.sl 1 (toB (bC b).boxes),iv i]) (bC b).boxes.length (λi => !eN s ((bC b).boxes.getD i [])) ?_ ?_ ?_ rfl) ?_
     .intro i a d;have c:i<(toB (bC b).boxes).length:=by rw[c6];exact a
      have f:=e.len _ (mZ [] a);have j:=e.boxes;show aK (Zx ((i:Int)<((toB (bC b).boxes).length:Int))) (uI i (toB (bC b).boxes) (Zp ((toB (bC b).boxes).getD (Zw i) .undef) _)) _=_;rw[ae (pg c),jn c,Zy,iP a,wj,Rz hs (by omega) (by omega),ai d,t_ (by omega)]
     .intro i a d;have c:i<(toB (bC b).boxes).length:=by rw[c6];exact a
      have f:=e.len _ (mZ [] a);refine⟨(.ret,[.sl 1 (toK s.keys),.sl 1 (toB s.boxes),.bool Zu,.sl 1 (toB (bC b).boxes),iv i]),?_,rfl⟩;show aK (Zx ((i:Int)<((toB (bC b).boxes).length:Int))) (uI i (toB (bC b).boxes) (Zp ((toB (bC b).boxes).getD (Zw i) .undef) _)) _=_;rw[ae (pg c),jn c,Zy,iP a,wj,Rz hs (by omega) (by omega),ae d]
     .refine⟨(.exit 2,[.sl 1 (toK s.keys),.sl 1 (toB s.boxes),.bool Zu,.sl 1 (toB (bC b).boxes),iv (bC b).boxes.length]),?_,rfl⟩;show aK (Zx (((bC b).boxes.length:Int)<((toB (bC b).boxes).length:Int))) _ _=_;rw[ai (DT _)]
     .rw[kh (bC b).boxes [] (λx => !eN s x),Gt];cases (bC b).boxes.any λx => !eN s x<;>rfl
    .rw[kh (bC b).keys 0 (λx => !s.keys.contains x),Gt (bC b).keys];cases (bC b).keys.any λx => !s.keys.contains x<;>rfl
end Kerb
/- Functions of the library that are taken as given: their contracts out of the kit's. -/
namespace Go.Abs
open Go.RowKit Go.Lib
theorem tI(c:UInt8):∀ l:List UInt8,Lib.indexByte l c=Yj c l
 | []=>rfl
 | b::l=>by
  have a:=tI c l;have d:=Lib.indexByte_ge l c;simp only[Lib.indexByte,Yj,a]
  grind
section
variable {P:Program} {G:iT} {f:Nat} {fn:Func}
variable {s:Spec}{rt:Nat}{e:Nat}{t:Nat}{i:TI}
theorem Kept.refl{M:Nat->Prop}{w:World}{p:bF}(a:Lp w p):Kept M w p w p:=⟨rfl,rfl,rfl,Yq _,λ_ _ _=>rfl,λ_ _=>rfl,a⟩
theorem yW(x : P.funcs[f]? = Zv fn)(u : (fn.name == "runtime.NumGoroutine") = Zu)(y : fn.body.isNone = Zf)(v : Extern.findNext fn = Yd)(he : Extern.find fn = Zv Extern.BytealgIndexByte.indexByte)(q : G.rts f = Zv [rt])(hs:∀ xs bl r,s xs bl=Zv r->∃ l c,xs=[.str l,.u8 c]/\bl=[]/\r=(.int AI (Yj c l),[])):kV P G f s:=by
 intro call xs bl r bs rts n g w p d I D H A m E;rw[q] at g;cases g;obtain⟨l,c,rfl,rfl,e⟩:=hs _ _ _ n;cases e;have o:d.size=2:=A;obtain⟨k,v1,rfl⟩:∃ a b,d = #[a,b]:=⟨d[0],d[1],by apply Array.ext<;>simp[o];intro i n g;rcases i with _ | _ | i<;>first | rfl | omega⟩;have t:=m 0 k _ rfl rfl;have r1:=m 1 v1 _ rfl rfl;have C:∃ s:ByteArray,k = .string s/\s.data.toList=l:=by
  rcases t with(h | ⟨_,_,_,h,_⟩) | ⟨_,_,_,h,_⟩ | ⟨_,_,_,_,_,_,h,_⟩
  .cases h with | str h=>exact⟨_,rfl,h⟩
  all_goals grind
 have B:v1=kU c:=by
  rcases r1 with(h | ⟨_,_,_,h,_⟩) | ⟨_,_,_,h,_⟩ | ⟨_,_,_,_,_,_,h,_⟩
  .cases h;rfl
  all_goals grind
 obtain⟨s,rfl,z⟩:=C;subst B;right;refine⟨.int AI (Yj c l),w,?_,p,Kept.refl D,.inl (.inl (.int (by simp))),⟨rfl,λi j cs F h=>by simp at h⟩⟩;rw[run_callFunc_extern x u y v he];have e:=Lib.run_indexByteString (P:=P) s c.toNat w;rw[show(#[Value.string s,kU c]:Array Value) = #[.string s,.int .u8 c.toNat] from rfl,e];simp[z,tI,Result.andThen]
theorem Jf(D : P.funcs[f]? = Zv fn)(z : (fn.name == "runtime.NumGoroutine") = Zu)(d : fn.body.isNone = Zf)(C : Extern.findNext fn = Yd)(he : Extern.find fn = Zv Extern.BytealgIndexByte.indexByte)(u : G.rts f = Zv [rt])(hs:∀ xs bl r,s xs bl=Zv r->∃ l c,xs=[.bs l,.u8 c]/\bl=[]/\r=(.int AI (Yj c l),[])):kV P G f s:=by
 intro call xs bl r bs rts q m w p k R K Q F o M;rw[u] at m;cases m;obtain⟨l,c,rfl,rfl,B⟩:=hs _ _ _ q;cases B;have t:k.size=2:=F;obtain⟨n,v1,rfl⟩:∃ a b,k = #[a,b]:=⟨k[0],k[1],by apply Array.ext<;>simp[t];intro i q m;rcases i with _ | _ | i<;>first | rfl | omega⟩;have v:=o 0 n _ rfl rfl;have r1:=o 1 v1 _ rfl rfl;have H:v1=kU c:=by
  rcases r1 with(h | ⟨_,_,_,h,_⟩) | ⟨_,_,_,h,_⟩ | ⟨_,_,_,_,_,_,h,_⟩
  .cases h;rfl
  all_goals grind
 subst H;right;refine⟨.int AI (Yj c l),w,?_,p,Kept.refl K,.inl (.inl (.int (by simp))),⟨rfl,λi j cs O h=>by simp at h⟩⟩;rw[run_callFunc_extern D z d C he];have key:(Extern.BytealgIndexByte.indexByte #[n,kU c]).run P w = .ok (.int AI (Yj c l)) w:=by
  rcases v with(h | ⟨_,_,_,h,_⟩) | ⟨_,_,_,h,_⟩ | ⟨_,_,_,_,_,_,h,_⟩
  .cases h with
   | bs Z off hl N L hcell =>
    rename_i a len cap;have d:(Extern.Bytes.bytesOf (.slice a len cap)).run P w = .ok ⟨l.toArray⟩ w:=by
     rcases L with E | rfl
     .have J:l=[]:=Zd (by omega);subst J;cases a with
      | none=>simp[Extern.Bytes.bytesOf];rfl
      | some a=>subst E;simp[Extern.Bytes.bytesOf,Extern.Bytes.loadBytes];rfl
     .have A:=Lib.run_loadBytesX (P:=P) w (l.map λb=>(b.toNat:Int)) ⟨Z,off,Yd⟩ .empty (λj x g=>by
       rw[List.getElem?_map] at g;cases d:l[j]? with
       | none=>rw[d] at g;cases g
       | some b =>
        rw[d] at g;simp at g;subst g;rw[eF];exact(hcell j b d).2)
      have I:Lib.bytesOf (l.map λb=>(b.toNat:Int))=l:=by
       simp[Lib.bytesOf,Function.comp_def]
      simp only[List.length_map,hl,I] at A;simp only[Extern.Bytes.bytesOf]
      simp_all
    have hs:=Lib.run_indexByteString (P:=P) ⟨l.toArray⟩ c.toNat w;have e:(Extern.BytealgIndexByte.indexByte #[.slice a len cap,kU c]).run P w=(Extern.BytealgIndexByte.indexByte #[.string ⟨l.toArray⟩,.int .u8 c.toNat]).run P w:=by
     have hd:∀ (x y:Value),(Extern.BytealgIndexByte.indexByte #[x,y]).run P w=((Extern.Bytes.bytesOf x).run P w).andThen λb w'=>(Extern.BytealgIndexByte.indexByte #[.string b,y]).run P w':=by
      intro x y;show Sem.run P (Extern.Bytes.bytesOf x >>= _) w=_;rw[Sem.run_bind];rfl
     rw[hd,d];rfl
    rw[e,hs];simp[tI]
  all_goals grind
 simp_all
theorem LU{cap:World->Nat->Nat}{cells:World->Nat->Array Value}(F:∀ vs (w:World),(callFunc f vs).run P w = .ok (.enter f vs) w)(B:G.rts f=Zv [t])(z:G.ty t=Zv i)(q:i.kind = .slice e Zf)(I:∀ a w,Calls P f #[.slice a 0 0,.int AI 0] w λx w'=>x = .returned (.slice a 0 0)/\w'=w)(v:∀ a (n:Nat) w,0<n->n<=140737488355328->Calls P f #[.slice a 0 0,.int AI n] w λx w'=>x = .returned (.slice (Zv ⟨w.heap.size,0,Yd⟩) 0 (cap w n))/\w'=w.drew.alloc (.cells (cells w n) e))(E:∀ w n,0<n->n<=140737488355328->n<=cap w n/\cap w n<=maxLen/\(cells w n).size=cap w n)(hs:∀ xs bl r,s xs bl=Zv r->∃ n:Int,xs=[.bJ,.int AI n]/\0<=n/\n<=140737488355328/\bl=[]/\r=(.eG [],[])):kV P G f s:=by
 intro call xs bl r bs rts J y w p g Q k S K u R;rw[B] at y;cases y;obtain⟨n,rfl,D,V,rfl,H⟩:=hs _ _ _ J;cases H;have A:g.size=2:=K;obtain⟨l,v1,rfl⟩:∃ a b,g = #[a,b]:=⟨g[0],g[1],by apply Array.ext<;>simp[A];intro i v T;rcases i with _ | _ | i<;>first | rfl | omega⟩;have C:=u 0 l _ rfl rfl;have r1:=u 1 v1 _ rfl rfl;have M:∃ a,l = .slice a 0 0:=by
  rcases C with(h | ⟨_,_,_,h,_⟩) | ⟨_,_,_,h,_⟩ | ⟨_,_,_,_,_,_,h,_⟩
  .cases h;exact⟨_,rfl⟩
  all_goals grind
 have L:v1 = .int AI n:=by
  rcases r1 with(h | ⟨_,_,_,h,_⟩) | ⟨_,_,_,h,_⟩ | ⟨_,_,_,_,_,_,h,_⟩
  .cases h;rfl
  all_goals grind
 obtain⟨a,rfl⟩:=M;subst L;left;refine⟨F _ w,?_⟩;have W:ma w w p Q [] [] []:=⟨rfl,λi j cs o h=>by simp at h⟩;obtain⟨m,rfl⟩:=Int.eq_ofNat_of_zero_le D;rcases Nat.eq_zero_or_pos m with d | d
 .subst d;refine(I a w).mono ?_;rintro x w' ⟨rfl,rfl⟩;exact⟨_,rfl,p,Kept.refl k,.inr (.inl ⟨i,e,[],z,q,rfl,⟨rfl,.inl ⟨rfl,_,rfl⟩⟩,λZ c=>by cases a<;>simp[bR] at c⟩),⟨rfl,λi j cs o h=>by simp at h⟩⟩
 .refine(v a m w d (by omega)).mono ?_;rintro x w' ⟨rfl,rfl⟩;obtain⟨U,O,N⟩:=E w m d (by omega);refine⟨_,rfl,p,⟨rfl,rfl,rfl,by simp,λZ c _=> ?_,λ_ _=>rfl,λZ c=>k Z (by simp at c;omega)⟩,.inr (.inl ⟨i,e,[],z,q,rfl,⟨rfl,.inr ⟨w.heap.size,cap w m,cells w m,rfl,by omega,Yq _,?_,by simp,O,by rw[N];omega,by simp⟩⟩,λZ c=> ?_⟩),⟨rfl,λi j cs o h=>by simp at h⟩⟩
  .exact dW w.drew _ c
  .exact fl w.drew _
  .simp only[bR] at c;split at c
   .cases c
   .cases c;exact k _ (Yq _)
theorem Jd(K:∀ vs (w:World),(callFunc f vs).run P w = .ok (.enter f vs) w)(F:G.rts f=Zv [t])(R:∀ (n c:Nat) w,Calls P f #[.slice Yd n c] w λx w'=>x = .returned (.slice Yd 0 0)/\w'=w)(Q:∀ (a:Addr) (n c:Nat) (xs:List Int) (w:World),xs.length=n->n<=140737488355328->(∀ i,i<n->w.cell? (a.add i)=Zv (.int .u8 (xs.getD i 0))) ->
   Calls P f #[.slice (Zv a) n c] w λx w'=>∃ v',x = .returned v'/\w'.ownsRow w.heap.size e 1 v' n (xs.map (Value.int .u8))/\Below w.heap.size w w')(hs:∀ xs bl r,s xs bl=Zv r->∃ b:List UInt8,xs=[.bs b]/\b.length<=140737488355328/\bl=[]/\r=(.bs b,[])):kV P G f s:=by
 intro call xs bl r bs rts T C w p m bk o hG U N X;rw[F] at C;cases C;obtain⟨b,rfl,W,rfl,M⟩:=hs _ _ _ T;cases M;have E:m.size=1:=U;obtain⟨v,rfl⟩:∃ a,m = #[a]:=⟨m[0],by apply Array.ext<;>simp[E];intro i k;subst k;rfl⟩;have J:=N 0 v _ rfl rfl;have O:bZ w p v (.bs b):=by
  rcases J with(h | ⟨_,_,_,h,_⟩) | ⟨_,_,_,h,_⟩ | ⟨_,_,_,_,_,_,h,_⟩
  .exact h
  .cases h
  .cases h
  .cases h
 left;refine⟨K _ w,?_⟩;cases O with
 | bs Z off hl Y D hcell =>
  rename_i a len cap;cases a with
  | none =>
   have q:b=[]:=by
    rcases D with h | h
    .exact Zd (by omega)
    .cases h
   subst q;refine(R len cap w).mono ?_;rintro x w' ⟨rfl,rfl⟩;exact⟨_,rfl,p,Kept.refl o,.inl (.inl (.bs 0 0 rfl (Yq _) (.inl rfl) λi b l=>by simp at l)),⟨rfl,λi j cs z h=>by simp at h⟩⟩
  | some a =>
   refine(Q a len cap (b.map λc=>(c.toNat:Int)) w (by simp[hl]) (by omega) (λi k=> ?_)).mono ?_
   .rcases D with h | h
    .omega
    .cases h;have y:b[i]? = Zv b[i]:=Zm (by omega);rw[eF];have:=(hcell i _ y).2;rw[this];simp[kU,List.getD_eq_getElem?_getD,y]
   .rintro x w' ⟨v',rfl,H,d⟩;obtain⟨hlen,⟨rfl,hn⟩ | ⟨u,O7,L,rfl,hB,A,I,V,hcs,S⟩⟩:=H
    .have q:b=[]:=Zd (by omega);subst q;exact⟨_,rfl,p,⟨d.os,d.tape,d.output,d.size,λZ g _=>d.block Z g,λ_ _=>rfl,λZ g=>o Z (Zg d.size g)⟩,.inl (.inl (.bs 0 0 rfl (Yq _) (.inl rfl) λi b l=>by simp at l)),⟨rfl,λi j cs z h=>by simp at h⟩⟩
    .have fR:=rj A;refine⟨_,rfl,raise p (Zv u) len,⟨d.os,d.tape,d.output,d.size,λZ g _=>d.block Z g,λZ g=>nv (by simp;omega),λZ g=> ?_⟩,.inl (.inl (.bs u 0 hl I (.inr rfl) λi c hc=>⟨?_,?_⟩)),⟨rfl,λi j cs z h=>by simp at h⟩⟩
     .rw[nv (by simp;omega)];exact o Z (Zg d.size g)
     .rw[gC rfl];have:=(Zn.1 hc).1;omega
     .have k:i<len:=by have:=(Zn.1 hc).1;omega
      rw[Nat.zero_add,fo A];have B:(L.toList.take (len*1))[i]? = Zv (kU c):=by
       rw[S];simp[hc,kU]
      rw[List.getElem?_take,Qa1 (by omega)] at B;simpa using B
theorem yV{size:Nat}{l:TI}(Y:∀ vs (w:World),(callFunc f vs).run P w = .ok (.enter f vs) w)(U:G.rts f=Zv [t])(R:G.ty t=Zv i)(K:i.kind = .slice e Zu)(O:G.ty e=Zv l)(q:l.size=size)(J:0<size)(h0:∀ (n c:Nat) w,Calls P f #[.slice Yd n c] w λx w'=>x = .returned (.slice Yd 0 0)/\w'=w)(h1:∀ (a:Addr) (n c:Nat) (xs:List Value) (w:World),xs.length=n*size->n<=1000000->(∀ j u,xs[j]? = Zv u->w.cell? (a.add j)=Zv u)->(∀ u∈xs,u.oneCell'=Zf) ->
   Calls P f #[.slice (Zv a) n c] w λx w'=>∃ v',x = .returned v'/\w'.ownsRow w.heap.size e size v' n xs/\Below w.heap.size w w')(hs:∀ xs bl r,s xs bl=Zv r->∃ els:List AV,xs=[.sl size els]/\els.length<=1000000/\bl=[]/\r=(.ay els,[])):kV P G f s:=by
 intro call xs bl r bs rts g1 M w p z bk o hG fK ha xJ;rw[U] at M;cases M;obtain⟨els,rfl,y0,rfl,hr⟩:=hs _ _ _ g1;cases hr;have T:z.size=1:=fK;obtain⟨E,rfl⟩:∃ a,z = #[a]:=⟨z[0],by apply Array.ext<;>simp[T];intro i k;subst k;rfl⟩;have X:=ha 0 E _ rfl rfl;have hI:bZ w p E (.sl size els):=by
  rcases X with(h | ⟨_,_,_,h,_⟩) | ⟨_,_,_,h,_⟩ | ⟨_,_,_,_,_,_,h,_⟩
  .exact h
  .cases h
  .cases h
  .cases h
 left;refine⟨Y _ w,?_⟩;subst q;cases hI with
 | sl Z off vs hl n6 m Q hcell H =>
  rename_i a len cap;have D:=jL m;cases a with
  | none =>
   have BO:els=[]:=by
    rcases Q with h | h
    .exact Zd (by omega)
    .cases h
   subst BO;refine(h0 len cap w).mono ?_;rintro x w' ⟨rfl,rfl⟩;exact⟨_,rfl,p,Kept.refl o,.inr (.inr (.inl ⟨i,e,l,[],[],R,K,O,rfl,J,λx hx=>(nomatch hx),⟨by simp,.inl ⟨rfl,_,rfl⟩⟩,aT.nil,λZ b=>by simp[bR] at b⟩)),⟨rfl,λi j cs j5 h=>by simp at h⟩⟩
  | some a =>
   have F:∀ j u,((Zq (els.flatMap AV.cells).length).map vs)[j]? = Zv u->∃ c,(els.flatMap AV.cells)[j]? = Zv c/\u=vs j:=by
    intro j u d;have k:j<(els.flatMap AV.cells).length:=by have:=(Zn.1 d).1;simpa using this
    refine⟨_,Zm k,?_⟩;rw[List.getElem?_map,List.getElem?_range k] at d;cases d;rfl
   refine(h1 a len cap ((Zq (els.flatMap AV.cells).length).map vs) w (by simp[D,hl]) (by omega) (λj u d=> ?_) (λu hu=> ?_)).mono ?_
   .obtain⟨c,hc,rfl⟩:=F j u d;have N:=(Zn.1 hc).1;rcases Q with h | h
    .rw[D,hl,h] at N;simp at N
    .cases h;rw[eF];exact(hcell j c hc).2
   .obtain⟨j,d,rfl⟩:=List.mem_map.1 hu;exact(H j _ (Zm (List.mem_range.1 d))).u3.2.1
   .rintro x w' ⟨v',rfl,V,g⟩;have bL:lV w' w.heap.size e l.size v' els.length ((Zq (els.flatMap AV.cells).length).map vs):=by
     obtain⟨hlen,⟨rfl,hn⟩ | ⟨C,B,I,rfl,y,hh,W,S,hcs,gD⟩⟩:=V
     .exact⟨by rw[hl];exact hlen,.inl ⟨by omega,_,rfl⟩⟩
     .rw[hl];by_cases hz:B=0
      .subst hz;have L:len=0:=by omega
       subst L;exact⟨hlen,.inl ⟨rfl,_,rfl⟩⟩
      .exact⟨hlen,.inr ⟨C,B,I,rfl,by omega,y,hh,W,S,hcs,gD⟩⟩
    have A:∀ Z j,j<p Z->Z<w.heap.size:=λZ j d=>by
     rcases Nat.lt_or_ge Z w.heap.size with h | h
     .exact h
     .rw[o Z h] at d;omega
    refine⟨_,rfl,p,⟨g.os,g.tape,g.output,g.size,λZ b _=>g.block Z b,λ_ _=>rfl,λZ b=>o Z (Zg g.size b)⟩,
     .inr (.inr (.inl ⟨i,e,l,els,_,R,K,O,rfl,J,m,bL,⟨by simp,λj v c hv hc=> ?_⟩,λZ b=> ?_⟩)),⟨rfl,λi j cs j5 h=>by simp at h⟩⟩
    .obtain⟨c',Lk,rfl⟩:=F j v hv;exact(H j c hc).mono (λ_=>Yq _) λZ i k=>by
      have:=g.block Z (A Z i k);simp only[World.cell?,this]
    .obtain⟨_,⟨_,a',rfl⟩ | ⟨C,B,I,rfl,L,y,_⟩⟩:=bL
     .cases a'<;>simp[bR] at b
     .simp only[bR] at b;rw[Qa0 (by omega)] at b;cases b;exact o _ y
end
end Go.Abs
/- slices.Grow of nil, for rows of structs and numbers. -/
namespace Go.Abs
open Go.RowKit Go.Lib
section
variable {P:Program} {G:iT} {f:Nat} {fn:Func}
theorem Je{e t:Nat}{cap:World->Nat->Nat}{cells:World->Nat->Array Value}(K:∀ vs (w:World),(callFunc f vs).run P w = .ok (.enter f vs) w){s:Spec}(F:G.rts f=Zv [t]){i d:TI}(D:G.ty t=Zv i)(y:i.kind = .slice e Zu)(C:G.ty e=Zv d)(u:0<d.size)
  (M:∀ a w,Calls P f #[.slice a 0 0,.int AI 0] w λx w'=>x = .returned (.slice a 0 0)/\w'=w)
  (A:∀ a (n:Nat) w,0<n->n<=1000000000000->Calls P f #[.slice a 0 0,.int AI n] w λx w'=>x = .returned (.slice (Zv ⟨w.heap.size,0,Yd⟩) 0 (cap w n))/\w'=w.drew.alloc (.cells (cells w n) e))
  (J:∀ w n,0<n->n<=1000000000000->n<=cap w n/\cap w n<=maxLen/\(cells w n).size=cap w n*d.size)
  (hs:∀ xs bl r,s xs bl=Zv r->∃ n:Int,xs=[.bJ,.int AI n]/\0<=n/\n<=1000000000000/\bl=[]/\r=(.ay [],[])):kV P G f s:=by
 intro call xs bl r bs rts N B w p k U o W O z V;rw[F] at B;cases B;obtain⟨n,rfl,I,YW,rfl,L⟩:=hs _ _ _ N;cases L;have E:k.size=2:=O;obtain⟨q,v1,rfl⟩:∃ a b,k = #[a,b]:=⟨k[0],k[1],by apply Array.ext<;>simp[E];intro i A X;rcases i with _ | _ | i<;>first | rfl | omega⟩;have H:=z 0 q _ rfl rfl;have r1:=z 1 v1 _ rfl rfl;have R:∃ a,q = .slice a 0 0:=by
  rcases H with(h | ⟨_,_,_,h,_⟩) | ⟨_,_,_,h,_⟩ | ⟨_,_,_,_,_,_,h,_⟩
  .cases h;exact⟨_,rfl⟩
  all_goals grind
 have Q:v1 = .int AI n:=by
  rcases r1 with(h | ⟨_,_,_,h,_⟩) | ⟨_,_,_,h,_⟩ | ⟨_,_,_,_,_,_,h,_⟩
  .cases h;rfl
  all_goals grind
 obtain⟨a,rfl⟩:=R;subst Q;left;refine⟨K _ w,?_⟩;have CI:ma w w p U [] [] []:=⟨rfl,λi j cs v h=>by simp at h⟩;obtain⟨m,rfl⟩:=Int.eq_ofNat_of_zero_le I;rcases Nat.eq_zero_or_pos m with g | g
 .subst g;refine(M a w).mono ?_;rintro x w' ⟨rfl,rfl⟩;exact⟨_,rfl,p,Kept.refl o,.inr (.inr (.inl ⟨i,e,d,[],[],D,y,C,rfl,u,λx l=>(nomatch l),⟨by simp,.inl ⟨rfl,_,rfl⟩⟩,aT.nil,λZ c=>by cases a<;>simp[bR] at c⟩)),⟨rfl,λi j cs v h=>by simp at h⟩⟩
 .refine(A a m w g (by omega)).mono ?_;rintro x w' ⟨rfl,rfl⟩;obtain⟨Y,T,S⟩:=J w m g (by omega);refine⟨_,rfl,p,⟨rfl,rfl,rfl,by simp,λZ c _=> ?_,λ_ _=>rfl,λZ c=>o Z (by simp at c;omega)⟩,.inr (.inr (.inl ⟨i,e,d,[],[],D,y,C,rfl,u,λx l=>(nomatch l),⟨by simp,.inr ⟨w.heap.size,cap w m,cells w m,rfl,by omega,Yq _,?_,by simp,T,S,by simp⟩⟩,aT.nil,λZ c=> ?_⟩)),⟨rfl,λi j cs v h=>by simp at h⟩⟩
  .exact dW w.drew _ c
  .exact fl w.drew _
  .simp only[bR] at c;split at c
   .cases c
   .cases c;exact o _ (Yq _)
end
end Go.Abs
/- Functions whose meaning is what their own code does. -/
namespace Go.Abs
noncomputable def WB(G:iT)(call:EV):Nat->Nat->Option Ca
 | 0,_=>Yd
 | m+1,f=>match G.inl f with
  | some fn=>Zv (aaF (G.keep f 9999998) ⟨Oh (G.keep f 9999999) ⟨G.ty,G.keep f,G.own,call,G.qU,[],0,WB G call m⟩ G.rts fn,λkb args=>Ft _ _ fn kb args⟩)
  | none=>Yd
noncomputable def RU(G:iT)(call:EV)(f:Nat):Env:=⟨G.ty,G.keep f,G.own,call,G.qU,[],0,WB G call 12⟩
abbrev QQ:=Nat->Option (Nat×List CT×Func)
noncomputable def pN(G:iT)(ow:QQ):Nat->EV
 | 0=>λ_ _ _=>Yd
 | k+1=>λf as a=>match ow f with
  | some x=>(match Zk x.1 k with
   | true=>sX (RU G (pN G ow k) f) G.rts (G.own f) x.2.2 (mA x.2.1 as) a
   | false=>pN G ow k f as a)
  | none=>fP G.uw (k+1) f as a
noncomputable def lock{α:Type}(a:α):{ x:α // x=a }:=Classical.choice ⟨⟨a,rfl⟩⟩
noncomputable def ownSp(G:iT)(ow:QQ)(k f:Nat)(fn:Func):Spec:=(lock λas a=>sX (RU G (pN G ow k) f) G.rts (G.own f) fn as a).1
theorem J8(G:iT)(ow:QQ)(k f:Nat)(fn:Func)(as:List AV)(a:List (Nat×List AV)):ownSp G ow k f fn as a=sX (RU G (pN G ow k) f) G.rts (G.own f) fn as a:=by
 unfold ownSp
 grind
noncomputable def iT.full(G:iT)(ow:QQ):iT:={ G with uw:=λf=>match ow f with
 | some x=>Zv (x.1,x.2.1,ownSp G ow x.1 f x.2.2)
 | none=>G.uw f }
theorem Rw{a k:Nat}(h:Zk a k=Zu):Nat.blt a (k+1)=Nat.blt a k:=by
 have g:a≠k:=λe=>by rw[e] at h;simp at h
 cases c:Nat.blt a k with
 | true =>
  have:a<k:=by simpa using c
  have:a<k+1:=by omega
  simpa using this
 | false =>
  cases b:Nat.blt a (k+1) with
  | false=>rfl
  | true =>
   have f:a<k+1:=by simpa using b
   have d:¬ a<k:=λh=>by
    have:Nat.blt a k=Zf:=by simpa using h
    grind
   omega
theorem J9(G:iT)(ow:QQ):∀ k,fP (G.full ow).uw k=pN G ow k:=by
 intro k;induction k with
 | zero =>
  funext f as c;simp only[fP,pN];split
  .rename_i x _;have:Nat.blt x.1 0=Zu:=by
    cases h:Nat.blt x.1 0 with
    | false=>rfl
    | true =>
     simp_all
   rw[this]
  .rfl
 | succ k ih =>
  funext f as c;simp only[pN];cases a:ow f with
  | none=>simp only[fP,iT.full,a]
  | some x =>
   simp only;cases b:Zk x.1 k with
   | true =>
    have e:x.1=k:=Nat.eq_of_beq_eq_true b;have hl:Nat.blt x.1 (k+1)=Zf:=by
     simp_all
    subst e;simp only[fP,iT.full,a,hl,J8]
   | false =>
    rw[<-ih];simp only[fP,iT.full,a,Rw b]
theorem WZ{G:iT}{ow:QQ}(k:Nat):∀ m,w_ (G.full ow) k m=WB G (pN G ow k) m:=by
 intro m;induction m with
 | zero=>funext f;rfl
 | succ m ih =>
  funext f;simp only[w_,WB,ih,J9];rfl
theorem WY{G:iT}{ow:QQ}(f k:Nat):(G.full ow).env f k=RU G (pN G ow k) f:=by
 unfold iT.env RU;rw[WZ,J9];rfl
theorem Mt{G G':iT}{ow:QQ}(b:G'=G.full ow)(k f:Nat)(fn:Func)(as:List AV)(a:List (Nat×List AV)):ownSp G ow k f fn as a=sX (G'.env f k) G'.rts (G'.own f) fn as a:=by
 subst b;rw[WY,J8];rfl
theorem Mu {P : Program} {G G' : iT} {ow : QQ} (a : G' = G.full ow) {f k : Nat} {fn : Func} (d : P.funcs[f]? = Zv fn) (c : fn.name ≠ "runtime.NumGoroutine") (b : G'.rts f = Zv fn.resultTypes.toList) : z9 P G' f k (ownSp G ow k f fn) :=
 ⟨fn,d,c,b,λas e r h=>by rw[<-Mt a];exact h⟩
end Go.Abs
/- Functions of which only this is shown: that they have a result, and of what form it is. -/
namespace Go.Abs
def Tt{α:Type}(e:Option α)(Q:α->Prop):Prop:=∃ r,e=Zv r/\Q r
section
variable {α Z:Type} {Q:α->Prop}
variable {e:Option α}{b:Bool}{σ:Type}{ρ:Type}
theorem K8{r:α}(h:e=Zv r)(k:Q r):Tt e Q:=⟨r,h,k⟩
theorem K7(h:Tt e Q):Tt e Q:=h
theorem Nd{x:α}(h:Q x):Tt (Zv x) Q:=⟨x,rfl,h⟩
theorem US(h:b=Zf)(k:Tt e Q):Tt (ax b e) Q:=by subst h;exact k
theorem agn{f:Option α}(k:b=Zf->Tt e Q)(l:b=Zu->Tt f Q):Tt (aK b e f) Q:=by
 cases b
 .exact l rfl
 .exact k rfl
theorem yi{x:Option Z}{f:Z->Option α}(h:Tt x λr=>Tt (f r) Q):Tt (Zz x f) Q:=by
 obtain⟨r,rfl,h⟩:=h;exact h
def Rd(I:σ->Prop)(μ:σ->Nat)(l:σ)(R:ρ->Prop):σ ⊕ ρ->Prop
 | .inl a=>I a/\μ a<μ l
 | .inr r=>R r
theorem PT{step:σ->Option (σ ⊕ ρ)}{I:σ->Prop}{μ:σ->Nat}{R:ρ->Prop}(hs:∀ l,I l->Tt (step l) (Rd I μ l R)):∀ n s,I s->μ s<n->∃ r,eD step n s=Zv r/\R r:=by
 intro n;induction n with
 | zero=>intro s _ h;omega
 | succ n ih =>
  intro s d hm;obtain⟨x,b,a⟩:=hs s d;cases x with
  | inl c =>
   obtain⟨r,f,e⟩:=ih c a.1 (by have:=a.2;omega);exact⟨r,by simp only[eD,b,f],e⟩
  | inr r=>exact⟨r,by simp only[eD,b],a⟩
theorem M6{step:List AV->Option (List AV ⊕ ρ)}{s0:List AV}{K:ρ->Option α}(I:List AV->Prop)(μ:List AV->Nat)(c:I s0)(hs:∀ l,I l->Tt (step l) (Rd I μ l λr=>Tt (K r) Q)):Tt (Zz (bh step s0) K) Q:=by
 obtain⟨r,b,a⟩:=PT (I:=I) (μ:=μ) hs (μ s0+1) s0 c (Nat.lt_succ_self _);exact yi ⟨r,JT b,a⟩
end
inductive Sh where
 | i (k:IntKind) (lo hi:Int) | j (k:IntKind) | u8 | b | s (n:Nat) | y (n:Nat) | sl (z n:Nat) (e:Sh) | ag (l:List Sh) | tu (l:List Sh) | oy (n:Nat) | ol (n:Nat) (e:Sh) | w (P:AV->Prop) | tr (T:(AV->Prop)->Prop)
mutual
def Sh.all:Sh->(AV->Prop)->Prop
 | .i k a c,C=>∀ n:Int,a<=n->n<=c->C (.int k n)
 | .j k,C=>∀ n:Int,C (.int k n)
 | .u8,C=>∀ b:UInt8,b.toNat<256->C (.u8 b)
 | .b,C=>∀ b:Bool,C (.bool b)
 | .s n,C=>∀ l:List UInt8,l.length<=n->C (.str l)
 | .y n,C=>∀ l:List UInt8,l.length<=n->C (.bs l)
 | .sl z n e,C=>∀ l:List AV,l.length<=n->(∀ x∈l,∀ D:AV->Prop,e.all D->D x)->C (.sl z l)
 | .ag l,C=>Sh.Ch l λcs=>C (.agg cs)
 | .tu l,C=>Sh.Ch l λcs=>C (.bp cs)
 | .oy n,C=>∀ l:List UInt8,l.length<=n->C (.eG l)
 | .ol n e,C=>∀ l:List AV,l.length<=n->(∀ x∈l,∀ D:AV->Prop,e.all D->D x)->C (.ay l)
 | .w P,C=>∀ x,P x->C x
 | .tr T,C=>T C
def Sh.Ch:List Sh->(List AV->Prop)->Prop
 | [],C=>C []
 | e::r,C=>e.all λa=>Sh.Ch r λl=>C (a::l)
end
variable {e:Sh}{l:List AV}{n:Nat}
abbrev Al(e:Sh)(l:List AV):Prop:=∀ x∈l,∀ D:AV->Prop,e.all D->D x
theorem Cg(h:Al e l)(a:n<l.length)(D:AV->Prop)(k:e.all D):D (l.getD n .undef):=by
 have:l.getD n .undef∈l:=by
  rw[List.getD_eq_getElem?_getD,Zm a];exact List.getElem_mem ..
 exact h _ this D k
theorem mQ:Al e []:=λx h=>by cases h
theorem pw{x:AV}(h:∀ D:AV->Prop,e.all D->D x)(k:Al e l):Al e (x::l):=λy hy=>(List.mem_cons.1 hy).elim (λq=>q ▸ h) (k y)
theorem Gq{m:List AV}(h:Al e l)(k:Al e m):Al e (l++m):=λy hy=>(List.mem_append.1 hy).elim (h y) (k y)
theorem vY(h:Al e l):Al e (l.take n):=λy hy=>h y (List.mem_of_mem_take hy)
theorem vX(h:Al e l):Al e (l.drop n):=λy hy=>h y (List.mem_of_mem_drop hy)
theorem Lr{x:AV}(h:Al e l)(k:∀ D:AV->Prop,e.all D->D x):Al e (l.set n x):=λy hy=>(List.mem_or_eq_of_mem_set hy).elim (h y) (λq=>q ▸ k)
theorem VG{e':Sh}(h:Al e l)(hm:∀ D:AV->Prop,e'.all D->e.all D):Al e' l:=λx a D b=>h x a D (hm D b)
section
variable {α:Type} {Q:α->Prop}
variable {σ:Type}{ρ:Type}{I:σ->Prop}{μ:σ->Nat}{l:List AV}{R:ρ->Prop}{e:Sh}{f:List UInt8->Option α}{s:Spec}{A:List Sh}{K:AV×aO->Option α}{n:Nat}{kd:IntKind}{j:Nat}
theorem MH{l a:σ}(h:I a)(k:μ a<μ l):Rd I μ l R (.inl a):=⟨h,k⟩
theorem MI{l:σ}{r:ρ}(h:R r):Rd I μ l R (.inr r):=h
theorem acS{b:Bool}{e f:Option α}(h:b=Zf)(k:Tt e Q):Tt (cond b e f) Q:=by subst h;exact k
class Cs (s:Spec) (A:outParam (List Sh)) (R:outParam Sh):Prop where
 ok:∀ as,(∀ D:List AV->Prop,Sh.Ch A D->D as)->∀ Q:AV×aO->Prop,(R.all λr=>Q (r,[]))->Tt (s as []) Q
theorem Cs.of{R:Sh}(h:Sh.Ch A λxs=>∀ Q:AV×aO->Prop,(R.all λr=>Q (r,[]))->Tt (s xs []) Q):Cs s A R:=⟨λxs g=>g _ h⟩
theorem acT{R:Sh}[h:Cs s A R]{as:List AV}(g:∀ D:List AV->Prop,Sh.Ch A D->D as)(k:R.all λr=>Tt (K (r,[])) Q):Tt (Zz (s as []) K) Q:=yi (h.ok _ g _ k)
class Cw (s:Spec) (W:outParam (List AV->(AV->Prop)->Prop)):Prop where
 ok:∀ as (Q:AV×aO->Prop),(W as λr=>Q (r,[]))->Tt (s as []) Q
theorem acU{W:List AV->(AV->Prop)->Prop}[h:Cw s W]{as:List AV}(k:W as λr=>Tt (K (r,[])) Q):Tt (Zz (s as []) K) Q:=yi (h.ok _ _ k)
theorem pW{f:List AV->Option α}(h:Al e l)(a:n<l.length)(k:e.all λx=>l.getD n .undef=x->Tt (AV.dt x f) Q):Tt (AV.dt (l.getD n .undef) f) Q:=Cg h a (λx=>l.getD n .undef=x->Tt (AV.dt x f) Q) k rfl
theorem D1{v x:AV}{f:List AV->Option α}(h:v=x)(k:Tt (AV.dt x f) Q):Tt (AV.dt v f) Q:=h ▸ k
theorem pX{f:Int->Option α}(h:Al e l)(a:n<l.length)(k:e.all λx=>l.getD n .undef=x->Tt (AV.aw kd x f) Q):Tt (AV.aw kd (l.getD n .undef) f) Q:=Cg h a (λx=>l.getD n .undef=x->Tt (AV.aw kd x f) Q) k rfl
theorem D4{v x:AV}{f:Int->Option α}(h:v=x)(k:Tt (AV.aw kd x f) Q):Tt (AV.aw kd v f) Q:=h ▸ k
theorem jY{f:Bool->Option α}(h:Al e l)(a:n<l.length)(k:e.all λx=>l.getD n .undef=x->Tt (AV.dw x f) Q):Tt (AV.dw (l.getD n .undef) f) Q:=Cg h a (λx=>l.getD n .undef=x->Tt (AV.dw x f) Q) k rfl
theorem bM{v x:AV}{f:Bool->Option α}(h:v=x)(k:Tt (AV.dw x f) Q):Tt (AV.dw v f) Q:=h ▸ k
theorem bD{x y:AV}{f:List AV->Option α}(h:l.getD n .undef=y)(b:n<l.length)(a:Tt (AV.dt x f) Q)(k:Tt (AV.dt y f) Q):Tt (AV.dt ((l.set j x).getD n .undef) f) Q:=by
 by_cases e:j=n
 .have:(l.set j x).getD n .undef=x:=by subst e;simp[Yk,b]
  rw[this];exact a
 .have:(l.set j x).getD n .undef=l.getD n .undef:=by simp[Yk,e]
  rw[this,h];exact k
theorem ik{x:AV}{f:List AV->Option α}(h:Al e l)(a:n<l.length)(b:Tt (AV.dt x f) Q)(k:e.all λy=>l.getD n .undef=y->Tt (AV.dt y f) Q):Tt (AV.dt ((l.set j x).getD n .undef) f) Q:=by
 by_cases e:j=n
 .have:(l.set j x).getD n .undef=x:=by subst e;simp[Yk,a]
  rw[this];exact b
 .have:(l.set j x).getD n .undef=l.getD n .undef:=by simp[Yk,e]
  rw[this];exact Cg h a (λx=>l.getD n .undef=x->Tt (AV.dt x f) Q) k rfl
theorem wy(h:Al e l)(a:n<l.length)(k:e.all λx=>l.getD n .undef=x->Tt (AV.fT x f) Q):Tt (AV.fT (l.getD n .undef) f) Q:=Cg h a (λx=>l.getD n .undef=x->Tt (AV.fT x f) Q) k rfl
theorem D6{v x:AV}(h:v=x)(k:Tt (AV.fT x f) Q):Tt (AV.fT v f) Q:=h ▸ k
theorem M7(h:Al e l)(a:n<l.length)(k:e.all λx=>l.getD n .undef=x->Tt (Zp x f) Q):Tt (Zp (l.getD n .undef) f) Q:=Cg h a (λx=>l.getD n .undef=x->Tt (Zp x f) Q) k rfl
theorem H6{v x:AV}(h:v=x)(k:Tt (Zp x f) Q):Tt (Zp v f) Q:=h ▸ k
end
section
variable {α:Type} {Q:α->Prop}
variable {s:Spec}{A:List Sh}{P:List AV->(AV->Prop)->Prop}
class Cx (s:Spec) (A:outParam (List Sh)) (P:outParam (List AV->(AV->Prop)->Prop)):Prop where
 ok:∀ as,(∀ D:List AV->Prop,Sh.Ch A D->D as)->∀ Q:AV×aO->Prop,(P as λr=>Q (r,[]))->Tt (s as []) Q
theorem Cx.of(h:Sh.Ch A λxs=>∀ Q:AV×aO->Prop,(P xs λr=>Q (r,[]))->Tt (s xs []) Q):Cx s A P:=⟨λxs g=>g _ h⟩
def PX(p:Prop):Prop:=p
theorem PX.of{p:Prop}(h:p):PX p:=h
theorem acV[h:Cx s A P]{as:List AV}{K:AV×aO->Option α}(g:∀ D:List AV->Prop,Sh.Ch A D->D as)(k:PX (P as λr=>Tt (K (r,[])) Q)):Tt (Zz (s as []) K) Q:=yi (h.ok _ g _ k)
end
@[reducible] def stL:List AV->Nat->AV->List AV
 | [],_,_=>[]
 | _::r,0,v=>v::r
 | a::r,n+1,v=>a::stL r n v
@[irreducible] def LEq (a b:List AV):Prop:=a=b
structure eP (id:Nat) (J:List AV->(List AV->Prop)->Prop) (μ:List AV->Nat):Prop
structure X1 (id:Nat) (v:AV) (J:List AV->(List AV->Prop)->Prop) (μ:List AV->Nat):Prop
def mI(p:Nat)(N:Int)(l:List AV):Nat:=match l.getD p .undef with
 | .int _ i=>(N-i).toNat
 | _=>0
theorem Ta{p:Nat}{N:Int}{l a:List AV}{k k':IntKind}{i b:Int}(d:a.getD p .undef = .int k b)(c:l.getD p .undef = .int k' i)(f:i<b)(e:i<N):mI p N a<mI p N l:=by
 unfold mI;rw[d,c];simp only;omega
def mD(p:Nat)(N:Int)(l:List AV):Nat:=match l.getD p .undef with
 | .int _ i=>(i-N).toNat
 | _=>0
theorem S'{p:Nat}{N:Int}{l a:List AV}{k k':IntKind}{i b:Int}(d:a.getD p .undef = .int k b)(c:l.getD p .undef = .int k' i)(f:b<i)(e:N<i):mD p N a<mD p N l:=by
 unfold mD;rw[d,c];simp only;omega
def UE(s:List AV)(p:Nat)(F:Int->Prop):Prop:=match s.getD p .undef with
 | .int _ i=>F i
 | _=>F 0
def QY(s:List AV)(p:Nat)(F:Nat->Prop):Prop:=match s.getD p .undef with
 | .eG l=>F l.length
 | .ay l=>F l.length
 | _=>F 0
section
variable {α:Type} {Q:α->Prop}
variable {Z:Type}{e:Option α}{K:Z->Option α}{b:Bool}{f:List UInt8->Option α}
theorem H0{e e':Option Z}(h:e=e')(k:Tt (Zz e' K) Q):Tt (Zz e K) Q:=h ▸ k
theorem HZ{e f:Option Z}(h:b=Zf)(k:Tt (Zz e K) Q):Tt (Zz (cond b e f) K) Q:=by subst h;exact k
theorem M9{f:Option α}(k:b=Zf->Tt e Q)(l:b=Zu->Tt f Q):Tt (aK.match_1 (λ_=>Option α) b (λ_=>e) (λ_=>f)) Q:=agn (b:=b) k l
theorem wx{f:Option α}(h:b=Zf)(k:Tt e Q):Tt (cond.match_1 (λ_=>Option α) b (λ_=>e) (λ_=>f)) Q:=acS (b:=b) h k
theorem H2{x:Option Z}(h:Tt (Zz x K) Q):Tt (Zz.match_1 (λ_ _=>Option α) x K (λ_=>Yd) (λa f=>f a)) Q:=h
theorem D2{v:AV}{f:List AV->Option α}(h:Tt (AV.dt v f) Q):Tt (AV.dt.match_1 (λ_=>Option α) v (λl=>f l) (λ_=>Yd)) Q:=h
theorem gT{v:AV}{f:Bool->Option α}(h:Tt (AV.dw v f) Q):Tt (AV.dw.match_1 (λ_=>Option α) v (λl=>f l) (λ_=>Yd)) Q:=h
theorem D7{v:AV}(h:Tt (AV.fT v f) Q):Tt (AV.fT.match_1 (λ_=>Option α) v (λl=>f l) (λ_=>Yd)) Q:=h
theorem H7{v:AV}(h:Tt (Zp v f) Q):Tt (Zp.match_1 (λ_=>Option α) v (λl=>f l) (λ_=>Yd)) Q:=h
theorem D5{v:AV}{kd:IntKind}{f:Int->Option α}(h:Tt (AV.aw kd v f) Q):Tt (AV.aw.match_1 (λ_=>Option α) v (λk n=>cond (k==kd) (f n) Yd) (λ_=>Yd)) Q:=h
theorem Ty{σ ρ:Type}{I:σ->Prop}{μ:σ->Nat}{l:σ}{R:ρ->Prop}{x:σ ⊕ ρ}(h:Rd I μ l R x):Rd I μ l R x:=h
end
@[reducible] def KH {α:Type} (a:Ex->Fr->Option α) (Q:α->Prop) (P:Ex->Fr->Prop):Prop:=∀ e fr,P e fr->Tt (a e fr) Q
@[reducible] def KF {α:Type} (X:Fr->Option α) (Q:α->Prop) (P:Fr->Prop):Prop:=∀ fr,P fr->Tt (X fr) Q
@[reducible] def KA {α:Type} (A:Option α) (Q:α->Prop) (P:Prop):Prop:=P->Tt A Q
section
variable {α:Type} {Q:α->Prop} {E:Env} {rts:Nat->Option (List Nat)} {n:Nat} {fr:Fr}
variable {a:Code}{b:Code}{k:Ex->Fr->Option α}
theorem Nc(h:∀ c:Ex->Fr->Option α,KH c Q (λe d=>Tt (e.EP (exec E rts n b α d k) λe=>k e d) Q)->Tt (exec E rts n a α fr c) Q):Tt (exec E rts n (.seq a b) α fr k) Q:=h _ λ_ _ g=>g
theorem M3{id:Nat}(h:Tt (exec E rts n a α fr λe b=>e.tf id λe=>k e b) Q):Tt (exec E rts n (.block id a) α fr k) Q:=h
theorem M5{c:Operand}(d:E.keep (3000000+ca a)=[])(h:∀ A B:Option α,KA A Q (Tt (exec E rts n a α fr k) Q)->KA B Q (Tt (exec E rts n b α fr k) Q)->Tt ((cU E fr c).bind λv=>v.dw λt=>aK t A B) Q):Tt (exec E rts n (.cond c a b) α fr k) Q:=by
 unfold exec;rw[d];exact h _ _ (λg=>g) (λg=>g)
theorem acX{x:Option α}{k:Ex->Option α}(h:Tt x Q):Tt (Ex.EP .normal x k) Q:=h
theorem acY{x:Option α}{k:Ex->Option α}(h:Tt (k .ret) Q):Tt (Ex.EP .ret x k) Q:=h
theorem acW{x:Option α}{k:Ex->Option α}{j:Nat}(h:Tt (k (.exit j)) Q):Tt (Ex.EP (.exit j) x k) Q:=h
theorem H5{J:List AV->(List AV->Prop)->Prop}{μ:List AV->Nat}{s0:List AV}{K:Ex×List AV->Option α}(_:eP (ca a) J μ)(d:∀ D:List AV->Prop,J s0 D->D s0)(hs:J s0 λl=>∀ X:Fr->Option (List AV ⊕ (Ex×List AV)),KF X (Rd (λl=>∀ D:List AV->Prop,J s0 D->D l) μ l λr=>Tt (K r) Q) (λc=>Tt (exec E rts n a (List AV ⊕ (Ex×List AV)) c λe b=>collect E b (E.keep (ca a)) λst'=>Zv (e.ni st')) (Rd (λl=>∀ D:List AV->Prop,J s0 D->D l) μ l λr=>Tt (K r) Q))->Tt (restore E (E.keep (ca a)) l (nU E) X) (Rd (λl=>∀ D:List AV->Prop,J s0 D->D l) μ l λr=>Tt (K r) Q)):
  Tt (Zz (bh (λst=>restore E (E.keep (ca a)) st (nU E) λc=>exec E rts n a (List AV ⊕ (Ex×List AV)) c λe b=>collect E b (E.keep (ca a)) λst'=>Zv (e.ni st')) s0) K) Q :=
 M6 (λl=>∀ D:List AV->Prop,J s0 D->D l) μ d λl hl=>hl _ hs _ λ_ g=>g
end
theorem dD{G G0:iT}{ow:QQ}(i:G=G0.full ow){k f:Nat}{fn:Func}{c:Code}{xs:List AV}{Q:AV×aO->Prop}(hc:fn.body=Zv c)(d:(Nat.ble xs.length fn.ntmps&&U' 0 xs)=Zf)
  (h:∀ b:Ex->Fr->Option (AV×aO),KH b Q (λe fr=>Tt (e.Ph (rU { G.env f k with hand:=[] } fr.aL fn.results.toList fn.resultTypes.toList fr.st [] (G.own f) λa st L=>oI { G.env f k with hand:=[] } xs [] fn.params.toList st L λbs =>
   match a with
   | [v]=>Zv (v,bs)
   | a=>Zv (.bp a,bs)) Yd) Q)->Tt (exec { G.env f k with hand:=[] } G.rts fn.ntmps c (AV×aO) (entry 0 xs []) b) Q):Tt (ownSp G0 ow k f fn xs []) Q:=by
 rw[Mt i];show Tt (rV (G.env f k) G.rts (G.own f) fn xs [] []) Q;unfold rV;rw[hc];exact US d (h _ λ_ _ g=>g)
@[reducible] def KJ {α:Type} (a:Ex->Fr->FP->Option α) (Q:α->Prop) (P:Ex->Fr->FP->Prop):Prop:=∀ e fr f,P e fr f->Tt (a e fr f) Q
section
variable {α:Type} {Q:α->Prop} {E:Env} {rts:Nat->Option (List Nat)} {n:Nat} {fr:Fr}
variable {kb:Nat}{args:List AV}{st:Nat->bI}{k:Ex->Fr->FP->Option α}{a:Code}{b:Code}{A:List Nat}{L0:List Nat}{hs:List i_}{Q0:Nat->AV}{J:List AV->(List AV->Prop)->Prop}{μ:List AV->Nat}{s0:List AV}{K:Ex×List AV->Option α}
theorem AU{fn:Func}{k:lM α}{c:Code}(hc:fn.body=Zv c)(b:Nat.ble args.length fn.ntmps=Zf)(h:∀ a:Ex->Fr->FP->Option α,KJ a Q (λe fr f=>Tt (e.Ph (qJ E fr.aL fn.results.toList fr.st λvs d f2=>ax (Ir vs) (k (FC vs) d (f.add f2))) Yd) Q)->Tt (dV rts fn.ntmps c { E with kb:=kb } α ⟨uX args,st⟩ a) Q):Tt (gE E rts fn α kb args st k) Q:=by
 rw[Kp];unfold EK;rw[hc];exact US b (h _ λ_ _ _ g=>g)
theorem AS{fn:Func}{a:Nat}{k:lM α}(b:kb=a)(h:Tt (gE E rts fn α a args st k) Q):Tt (gE E rts fn α kb args st k) Q:=b ▸ h
theorem Nb(h:∀ c:Ex->Fr->FP->Option α,KJ c Q (λe d f1=>Tt (e.EP (dV rts n b E α d λf i f2=>k f i (f1.add f2)) λe=>k e d (f1.add .none)) Q)->Tt (dV rts n a E α fr c) Q):Tt (dV rts n (.seq a b) E α fr k) Q:=h _ λ_ _ _ g=>g
theorem M2{id:Nat}(h:Tt (dV rts n a E α fr λe b f=>e.tf id λe=>k e b f) Q):Tt (dV rts n (.block id a) E α fr k) Q:=h
theorem M4{c:Operand}(h:∀ A B:Option α,KA A Q (Tt (dV rts n a E α fr k) Q)->KA B Q (Tt (dV rts n b E α fr k) Q)->Tt ((cU E fr c).bind λv=>v.dw λt=>aK t A B) Q):Tt (dV rts n (.cond c a b) E α fr k) Q:=h _ _ (λg=>g) (λg=>g)
theorem H4(b:E.keep (5000000+ca a)=[])(h:Tt (qQ (λkb fr k=>dV rts n a { E with kb:=kb } α fr k) 9 E.kb fr k) Q):Tt (dV rts n (.loop a) E α fr k) Q:=by
 unfold dV;rw[b];exact h
noncomputable def B8(A L0:List Nat)(st:Nat->bI)(L:List Nat)(f g:FP):Bool:=(lock (within A L0 st L f g)).1
theorem yj(A L0:List Nat)(st:Nat->bI)(L:List Nat)(f g:FP):B8 A L0 st L f g=within A L0 st L f g:=(lock (within A L0 st L f g)).2
theorem AW{L:List Nat}{f g:FP}(h:within A L0 st L f g=Zf):B8 A L0 st L f g=Zf:=(yj ..).trans h
theorem H9(_:eP (5000000+ca a) J μ)(h:∀ D:List AV->Prop,J s0 D->D s0)(b:J s0 λl=>∀ X:Fr->Option RT,KF X (Rd (λl=>∀ D:List AV->Prop,J s0 D->D l) μ l λr=>Tt (K r) Q) (λj=>Tt (dV rts n a E RT j λe c f=>dH E c.aL hs c.st [] λd st' L' i=>ax (B8 A L0 st L' f i) (Zv (e.ni d))) (Rd (λl=>∀ D:List AV->Prop,J s0 D->D l) μ l λr=>Tt (K r) Q))->Tt (restore E hs l ⟨Q0,kK L0 st⟩ X) (Rd (λl=>∀ D:List AV->Prop,J s0 D->D l) μ l λr=>Tt (K r) Q)):
  Tt (Zz (bh (tX E hs A L0 Q0 (λZ fr k=>dV rts n a E Z fr k) st) s0) K) Q :=
by
 simp only[yj] at b;exact M6 (λl=>∀ D:List AV->Prop,J s0 D->D l) μ h λl hl=>hl _ b _ λ_ g=>g
theorem H8(_:X1 (5000000+ca a) (Q0 1) J μ)(h:∀ D:List AV->Prop,J s0 D->D s0)(b:J s0 λl=>∀ X:Fr->Option RT,KF X (Rd (λl=>∀ D:List AV->Prop,J s0 D->D l) μ l λr=>Tt (K r) Q) (λj=>Tt (dV rts n a E RT j λe c f=>dH E c.aL hs c.st [] λd st' L' i=>ax (B8 A L0 st L' f i) (Zv (e.ni d))) (Rd (λl=>∀ D:List AV->Prop,J s0 D->D l) μ l λr=>Tt (K r) Q))->Tt (restore E hs l ⟨Q0,kK L0 st⟩ X) (Rd (λl=>∀ D:List AV->Prop,J s0 D->D l) μ l λr=>Tt (K r) Q)):
  Tt (Zz (bh (tX E hs A L0 Q0 (λZ fr k=>dV rts n a E Z fr k) st) s0) K) Q :=
by
 simp only[yj] at b;exact M6 (λl=>∀ D:List AV->Prop,J s0 D->D l) μ h λl hl=>hl _ b _ λ_ g=>g
theorem D8{body:Nat->Fr->(Ex->Fr->FP->Option α)->Option α}{m:Nat}(h:∀ a:Ex->Fr->FP->Option α,KJ a Q (λe b f1=>Tt (e.EP (qQ body m (kb+10000) b λc d f2=>k c d (f1.add f2)) λe=>k e b (f1.add .none)) Q)->Tt (body kb fr a) Q):Tt (qQ body (m+1) kb fr k) Q:=h _ λ_ _ _ g=>g
end
end Go.Abs
