/- Chapter 27: the program's closure, as its loops are. -/
import Derived.Test.YteafbgcimcpfiaaGreatKerb27c
import Derived.Lib.Walk
import Derived.Lib.SliceRun
import Derived.Lib.AppendZerosOnto
import Derived.Lib.Bytealg
import Derived.Lib.BytesEntry
import Derived.Laws.Externs
set_option linter.all false
open Go.IntKind renaming i64->AI,u64->AT
open Option renaming bind->Zz,some->Zv,none->Xz
open Decidable renaming decide->Zy
open Int renaming toNat_natCast->Zx,toNat->Zw
open Bool renaming false->Zu,true->Zp,not_false->Zd,not_true->Zm,and_eq_true->Zh,true_and->Ym,or_false->Yh
open Go.Abs.AV renaming bool->Zq,cS->Zb,sl->Yd,aw->Yf
open Nat renaming le_trans->Zj,beq->Zn,zero_le->Yq,le_refl->Yj
open List renaming range->Zk,getD->Zf,eq_nil_of_length_eq_zero->Yz,any_eq_true->Yy,all_eq_true->Yx,getElem?_eq_some_iff->Yw,getElem?_eq_getElem->Yv,length_append->Yu,mem_range->Yk,contains_iff_mem->Yg,take_length->Yb,length_take->Yn
open Go.IntKind renaming wrap->Zg
open Kerb renaming indexOf->Yp
namespace Kerb
open Go Go.Abs
section
variable {O:Type}
noncomputable def sg(l:List AV)(f:List AV->List AV->Option O):Option O:=aA l λx r=>AV.aX x λb=>f b r
noncomputable def lM(o:Option (List AV))(f:Bool->Option O):Option O:=Zz o λl=>aA l λx r=>ak r (AV.dd x f)
abbrev iv(n:Int):AV := .int AI n
abbrev up(n:Int):AV := .int AI (Zg AI (n+1))
abbrev St:=Option (List AV ⊕ (Ex×List AV))
noncomputable def oX(n:Int)(y:List AV)(f:Option O):Option O:=aB (Zy (0<=n)&&Zy (n<(y.length:Int))&&Zp) f
noncomputable def zq(n:Int)(y:List AV)(f:Option O):Option O:=oX n y (aB (Nat.blt (Zw n) y.length&&Zp) f)
noncomputable def Z1(y:List AV)(k:Int)(l:List AV):St:=ag AI l λn r=>ag AI r λi r=>ak r
 (aE (Zy (i<(y.length:Int))) (zq i y (Yf AT (y.getD (Zw i) .undef) λq=>aE (k==q) (Zv (.inr (.ret,[iv i,iv i]))) (Zv (.inl [iv n,up i]))))
  (Zv (.inr (.exit 0,[iv n,iv i]))))
noncomputable def HW(r:Ex×List AV):Option (List AV):=ag AI r.2 λn r1=>ag AI r1 λ_ r2=>ak r2 (jl r.1 (Zv [.bool (Zy (n>=0))]) λj=>aE (Zn j 0) (Zv [.bool Zu]) Xz)
noncomputable def PX(y:List AV)(k:Int):Option (List AV):=Zz (bD (Z1 y k) [iv 0,iv 0]) HW
noncomputable def wc(y:List AV)(k:Int):Option (List AV):=lM (PX y k) λb=>Zv [.bool !b]
noncomputable def ack(y kl:List AV)(l:List AV):St:=ag AI l λn r=>ag AI r λi r=>ak r
 (aE (Zy (i<(kl.length:Int))) (oX i kl (Yf AT (kl.getD (Zw i) .undef) λq=>lM (wc y q) λb=>aE b (Zv (.inr (.ret,[iv i,iv i]))) (Zv (.inl [iv n,up i]))))
  (Zv (.inr (.exit 0,[iv n,iv i]))))
noncomputable def cfK(y kl:List AV):Option (List AV):=Zz (bD (ack y kl) [iv 0,iv 0]) HW
noncomputable def Z4(y:List AV)(b:List UInt8)(l:List AV):St:=aq l λc r=>ag AI r λi r=>ak r
 (aE (Zy (i<(y.length:Int))) (zq i y (Zb (y.getD (Zw i) .undef) λq=>aE (q==b) (Zv (.inr (.ret,[.bool Zu,iv i]))) (Zv (.inl [.bool c,up i]))))
  (Zv (.inr (.exit 0,[.bool c,iv i]))))
noncomputable def yd(y:List AV)(b:List UInt8):Option (List AV):=Zz (bD (Z4 y b) [.bool Zu,iv 0]) λr=>aq r.2 λc r1=>ag AI r1 λ_ r2=>ak r2 (jl r.1 (Zv [.bool c]) λj=>aE (Zn j 0) (Zv [.bool Zp]) Xz)
noncomputable def acj(y bl:List AV)(l:List AV):St:=ag AI l λn r=>ag AI r λi r=>ak r
 (aE (Zy (i<(bl.length:Int))) (oX i bl (Zb (bl.getD (Zw i) .undef) λq=>lM (yd y q) λb=>aE b (Zv (.inr (.ret,[iv i,iv i]))) (Zv (.inl [iv n,up i]))))
  (Zv (.inr (.exit 0,[iv n,iv i]))))
noncomputable def cfB(y bl:List AV):Option (List AV):=Zz (bD (acj y bl) [iv 0,iv 0]) HW
noncomputable def SE(y:List AV)(q:Int)(f:List AV->Option O):Option O:=Zz (aB (dl y&&MD (Dc y q)&&Zy ((y.length:Int)<=100000000)) (Zv (AV.aH (Dc y q),([]:List (List AV))))) λr=>aD r.2 (AV.aX r.1 f)
noncomputable def TV(kl:List AV)(l:List AV):St:=ag AI l λn r=>sg r λy r=>sg r λy1 r=>sg r λy2 r=>ak r
 (aE (Zy (n<(kl.length:Int))) (oX n kl (Yf AT (kl.getD (Zw n) .undef) λq=>lM (wc y q) λb =>
   aE b (SE y q λl=>Zv (.inl [up n,.aH l,.aH y1,.aH y2])) (Zv (.inl [up n,.aH y,.aH y1,.aH y2]))))
  (Zv (.inr (.exit 0,[iv n,.aH y,.aH y1,.aH y2]))))
noncomputable def OM(bl:List AV)(l:List AV):St:=ag AI l λn r=>sg r λy r=>sg r λy1 r=>sg r λy2 r=>ak r
 (aE (Zy (n<(bl.length:Int))) (oX n bl (Zb (bl.getD (Zw n) .undef) λq=>lM (yd y1 q) λb =>
   aE b (aB (Go.Abs.room (y1.length+[AV.bs q].length) 24) (Zv (.inl [up n,.aH y,.aH (y1++[.bs q]),.aH y2]))) (Zv (.inl [up n,.aH y,.aH y1,.aH y2]))))
  (Zv (.inr (.exit 2,[iv n,.aH y,.aH y1,.aH y2]))))
noncomputable def DY(b:Bool)(n:Int)(kl bl y y1 y2:List AV):St :=
 Zz (bD (TV kl) [iv 0,.aH y,.aH y1,.aH y2]) λr=>ag AI r.2 λ_ r1=>sg r1 λy r2=>sg r2 λy7 r3=>sg r3 λy8 r4=>ak r4
  (jl r.1 (Zv (.inl [.bool b,up n,.aH y,.aH y7,.aH y8])) λj=>aE (Zn j 0)
   (Zz (bD (OM bl) [iv 0,.aH y,.aH y7,.aH y8]) λr=>ag AI r.2 λ_ r1=>sg r1 λy r2=>sg r2 λy9 r3=>sg r3 λy10 r4=>ak r4
    (jl r.1 (Zv (.inl [.bool b,up n,.aH y,.aH y9,.aH y10])) λj=>aE (Zn j 2) (Zv (.inr (.ret,[.bool Zp,iv n,.aH y,.aH y9,.aH y10]))) Xz))
   Xz)
noncomputable def Ep(b:Bool)(n:Int)(y y1 y2:List AV)(t:List UInt8):St :=
 Zz (aB (Zy (t.length<=140737488355328)) (Zv (AV.aQ [.agg [.int AI (aU t).box.kind,.int AT (aU t).box.key,.bs (aU t).box.body],.int AI (aU t).n,.int AI (aU t).err],([]:List (List AV))))) λr=>aD r.2 (AV.gx r.1 λvs=>aA vs λx r=>AV.cR x λcs=>ag AI cs λkd r1=>ag AT r1 λky r1=>aW r1 λbd r1=>ak r1 (ag AI r λ_ r=>ag AI r λer r=>ak r
  (aE (!(er==0)) (Zv (.inl [.bool b,up n,.aH y,.aH y1,.aH y2])) (lM (wc y ky) λb6=>aE b6 (Zv (.inl [.bool b,up n,.aH y,.aH y1,.aH y2]))
   (Zz (aB (Zy (bd.length<=70368744170000)) (Zv (AV.aQ [.sl 1 (bK (ij ⟨kd,ky,bd⟩).keys),.sl 1 (bF (ij ⟨kd,ky,bd⟩).boxes)],([]:List (List AV))))) λr=>aD r.2 (AV.gx r.1 λvs=>bH 1 vs λkl r=>bH 1 r λbl r=>ak r
    (lM (cfK y kl) λb9=>aE (!b9) (lM (cfB y1 bl) λb10=>aE (!b10) (Zv (.inl [.bool b,up n,.aH y,.aH y1,.aH (po (iv n) (.bool Zp) y2)])) (DY b n kl bl y y1 (po (iv n) (.bool Zp) y2))) (DY b n kl bl y y1 (po (iv n) (.bool Zp) y2)))))))))
noncomputable def Mh(y3:List AV)(l:List AV):St:=aq l λb r=>ag AI r λn r=>sg r λy r=>sg r λy5 r=>sg r λy6 r=>ak r
 (aE (Zy (n<(y3.length:Int))) (AV.dd (getM (iv n) y6 (.bool Zu)) λb3=>aE (!b3) (zq n y5 (Zb (y5.getD (Zw n) .undef) λt=>Ep b n y y5 y6 t)) (Zv (.inl [.bool b,up n,.aH y,.aH y5,.aH y6])))
  (Zv (.inr (.exit 0,[.bool b,iv n,.aH y,.aH y5,.aH y6]))))
noncomputable def U2(l:List AV):St:=sg l λy r=>sg r λy3 r=>sg r λy4 r=>ak r
 (Zz (bD (Mh y3) [.bool Zu,iv 0,.aH y,.aH y3,.aH y4]) λr=>aq r.2 λb r1=>ag AI r1 λ_ r1=>sg r1 λy r1=>sg r1 λy5 r1=>sg r1 λy6 r1=>ak r1
  (jl r.1 (aE b (Zv (.inl [.aH y,.aH y5,.aH y6])) (Zv (.inr (.exit 0,[.aH y,.aH y5,.aH y6])))) λj=>aE (Zn j 0) (Zv (.inr (.exit 0,[.aH y,.aH y5,.aH y6]))) Xz))
noncomputable def MU(y y1 y2:List AV):Option (AV×aO):=Zz (bD U2 [.aH y,.aH y1,.aH y2]) λr=>sg r.2 λy r1=>sg r1 λy3 r1=>sg r1 λ_ r1=>ak r1
 (jl r.1 (Zv (.agg [.sl 1 y,.sl 1 y3],[])) λj=>aE (Zn j 0) (Zv (.agg [.sl 1 y,.sl 1 y3],[])) Xz)
noncomputable def Uj(l:List AV):St:=bH 1 l λb r=>bH 1 r λb1 r=>sg r λy r=>sg r λy1 r=>sg r λy2 r=>bH 1 r λb2 r=>ag AI r λn r=>ag AI r λi r=>ak r
 (aE (Zy (i<n)) (oX i b2 (Zb (b2.getD (Zw i) .undef) λq=>lM (yd y1 q) λc =>
   aE c (aB (Go.Abs.room (y1.length+[AV.bs q].length) 24) (Zv (.inl [.sl 1 b,.sl 1 b1,.aH y,.aH (y1++[.bs q]),.aH y2,.sl 1 b2,iv n,up i]))) (Zv (.inl [.sl 1 b,.sl 1 b1,.aH y,.aH y1,.aH y2,.sl 1 b2,iv n,up i]))))
  (Zv (.inr (.exit 0,[.sl 1 b,.sl 1 b1,.aH y,.aH y1,.aH y2,.sl 1 b2,iv n,iv i]))))
noncomputable def SU(ks bs:List AV)(f:List AV->List AV->Option O):Option O:=Zz (aB (dl ks&&Zy (ks.length<=1000000)) (Zv (AV.aH ks,([]:List (List AV))))) λr=>aD r.2 (AV.aX r.1 λl=>Zz (aB (oW bs&&Zy (bs.length<=1000000)) (Zv (AV.aH bs,([]:List (List AV))))) λr=>aD r.2 (AV.aX r.1 λl1=>f l l1))
noncomputable def KB(ks bs:List AV)(b:List UInt8):Option (AV×aO):=SU ks bs λl l1 =>
 Zz (aB (Zy (b.length<=70368744170000)) (Zv (Yd 1 (bF (partsOf b)),([]:List (List AV))))) λr=>aD r.2 (AV.fR 1 r.1 λp =>
  Zz (bD Uj [.sl 1 [],.sl 1 [],.aH l,.aH l1,.aH [],.sl 1 p,iv p.length,iv 0]) λr=>bH 1 r.2 λb r1=>bH 1 r1 λb1 r1=>sg r1 λy r1=>sg r1 λy1 r1=>sg r1 λy2 r1=>bH 1 r1 λ_ r1=>ag AI r1 λ_ r1=>ag AI r1 λ_ r1=>ak r1
   (jl r.1 (Zv (.agg [.sl 1 b,.sl 1 b1],[])) λj=>aE (Zn j 0) (MU y y1 y2) Xz))
noncomputable def PZ(ks bs:List AV)(k:Int):Option (AV×aO):=SU ks bs λl l1 =>
 Zz (aB (Zy (0<=k)&&Zy (k<18446744073709551616)) (Zv (Zq (bB k),([]:List (List AV))))) λr=>aD r.2 (AV.dd r.1 λv =>
  Zz (aE v (lM (wc l k) λb=>aE b (SE l k λl=>Zv [.sl 1 [],.sl 1 [],.aH l,.aH l1,.aH []]) (Zv [.sl 1 [],.sl 1 [],.aH l,.aH l1,.aH []])) (Zv [.sl 1 [],.sl 1 [],.aH l,.aH l1,.aH []]))
   λl=>bH 1 l λ_ r=>bH 1 r λ_ r=>sg r λy r=>sg r λy1 r=>sg r λy2 r=>ak r (MU y y1 y2))
end
theorem l9{J:Type}{step:List AV->St}{k:Ex×List AV->Option J}{A:J}(e:Nat->List AV)(N:Nat)(hs:∀ i,i<N->step (e i)=Zv (.inl (e (i+1))))(he:∃ r,step (e N)=Zv (.inr r)/\k r=Zv A){t:List AV}(ht:t=e 0):Zz (bD step t) k=Zv A:=by
 refine bQ (enc:=e) (I:=λi=>i<=N) (μ:=λi=>N-i) (R:=λr=>k r=Zv A) 0 (Yq _) ht ?_ λr h=>h;intro i hi;by_cases h:i<N
 .exact⟨_,hs i h,i+1,rfl,h,show N-(i+1)<N-i by omega⟩
 .obtain rfl:i=N:=by omega
  obtain⟨r,h1,h2⟩:=he;exact⟨_,h1,h2⟩
theorem jn{J:Type}{step:List AV->St}{k:Ex×List AV->Option J}{A B:J}(e:Nat->List AV)(N:Nat)(p:Nat->Bool)(hs:∀ i,i<N->p i=Zu->step (e i)=Zv (.inl (e (i+1))))(hr:∀ i,i<N->p i=Zp->∃ r,step (e i)=Zv (.inr r)/\k r=Zv A)
  (he:∃ r,step (e N)=Zv (.inr r)/\k r=Zv B) {t:List AV} (ht:t=e 0):Zz (bD step t) k=Zv (bif (Zk N).any p then A else B):=by
 refine bQ (enc:=e) (I:=λi=>i<=N/\∀ j,j<i->p j=Zu) (μ:=λi=>N-i) (R:=λr=>k r=Zv (bif (Zk N).any p then A else B)) 0 ⟨Yq _,λj h=>by omega⟩ ht ?_ λr h=>h;rintro i ⟨hi,hj⟩;by_cases h:i<N
 .cases hp:p i with
  | false=>exact⟨_,hs i h hp,i+1,rfl,⟨h,λj HF=>by by_cases T_:j=i;(· subst T_;exact hp);exact hj j (by omega)⟩,show N-(i+1)<N-i by omega⟩
  | true =>
   obtain⟨r,h1,h2⟩:=hr i h hp;have:(Zk N).any p=Zp:=Yy.2 ⟨i,Yk.2 h,hp⟩;exact⟨_,h1,by show k r=_;rw[h2,this];rfl⟩
 .obtain rfl:i=N:=by omega
  obtain⟨r,h1,h2⟩:=he;have:(Zk i).any p=Zu:=by
   rw[List.any_eq_false];intro x hx;rw[hj x (Yk.1 hx)];exact Bool.false_ne_true
  exact⟨_,h1,by show k r=_;rw[h2,this];rfl⟩
theorem g8{O:Type}(l:List O)(d:O)(f:O->Bool):(Zk l.length).any (λi=>f (l.getD i d))=l.any f:=by
 rw[Bool.eq_iff_iff,Yy,Yy];constructor
 .rintro⟨i,hi,h⟩;have hi:=Yk.1 hi;exact⟨l[i],List.getElem_mem hi,by simpa [Zf,hi] using h⟩
 .rintro⟨x,hx,h⟩;obtain⟨i,hi,rfl⟩:=List.mem_iff_getElem.1 hx;exact⟨i,Yk.2 hi,by simpa [Zf,hi] using h⟩
theorem oS(l:List Int)(k:Int):l.any (λx=>k==x)=l.contains k:=by grind
theorem lm(l:List Bytes)(k:Bytes):l.any (λx=>x==k)=l.contains k:=by grind
theorem ql{i:Nat}(h:i<=1000000000):up (i:Int)=iv ((i+1:Nat):Int):=by
 unfold up iv;rw[wrap_i64 (by omega) (by omega)];rfl
theorem gh{O:Type}{i:Nat}{y:List AV}(h:i<y.length)(f:Option O):oX (i:Int) y f=f:=by
 unfold oX;exact ae (by simp;omega) f
theorem sM{O:Type}{i:Nat}{y:List AV}(h:i<y.length)(f:Option O):zq (i:Int) y f=f:=by
 unfold zq;rw[gh h];exact ae (by simp[Nat.blt_eq];omega) f
theorem lL{i:Nat}{y:List AV}(h:i<y.length):Zy ((i:Int)<(y.length:Int))=Zp:=by simp;omega
theorem FO{y:List AV}:Zy ((y.length:Int)<(y.length:Int))=Zu:=by simp
theorem PY{K:List Int}(k:Int)(h:K.length<=100000000):PX (bK K) k=Zv [.bool (K.contains k)]:=by
 have e:PX (bK K) k=Zv (bif (Zk (bK K).length).any (λi=>k==K.getD i 0) then[Zq Zp] else[Zq Zu]):=by
  refine jn (λi=>[iv 0,iv i]) _ _ ?_ ?_ ?_ rfl
  .intro i hi hp;have jy:i<K.length:=by rw[<-cU];exact hi
   show aE (Zy ((i:Int)<((bK K).length:Int))) (zq i (bK K) (Yf AT ((bK K).getD (Zw i) .undef) _)) _=_;rw[af (lL hi),sM hi,Zx,jL jy];show aE (k==K.getD i 0) _ _=_;rw[ah hp,ql (by omega)]
  .intro i hi hp;have jy:i<K.length:=by rw[<-cU];exact hi
   refine⟨(.ret,[iv i,iv i]),?_,?_⟩
   .show aE (Zy ((i:Int)<((bK K).length:Int))) (zq i (bK K) (Yf AT ((bK K).getD (Zw i) .undef) _)) _=_;rw[af (lL hi),sM hi,Zx,jL jy];show aE (k==K.getD i 0) _ _=_;rw[af hp]
   .show Zv [Zq (Zy ((i:Int)>=0))]=_;rw[show Zy ((i:Int)>=0)=Zp by simp]
  .refine⟨(.exit 0,[iv 0,iv (bK K).length]),?_,rfl⟩;show aE (Zy (((bK K).length:Int)<((bK K).length:Int))) _ _=_;rw[ah FO]
 rw[e,cU,g8 K 0 (λx=>k==x),oS];cases K.contains k<;>rfl
theorem uI{K:List Int}(k:Int)(h:K.length<=100000000):wc (bK K) k=Zv [.bool (!K.contains k)]:=by
 unfold wc;rw[PY k h];rfl
theorem UO{K:List Int}(L:List Int)(h:K.length<=100000000)(hl:L.length<=100000000):cfK (bK K) (bK L)=Zv [.bool (L.any λk => !K.contains k)]:=by
 have e:cfK (bK K) (bK L)=Zv (bif (Zk (bK L).length).any (λi => !K.contains (L.getD i 0)) then[Zq Zp] else[Zq Zu]):=by
  refine jn (λi=>[iv 0,iv i]) _ _ ?_ ?_ ?_ rfl
  .intro i hi hp;have jy:i<L.length:=by rw[<-cU];exact hi
   show aE (Zy ((i:Int)<((bK L).length:Int))) (oX i (bK L) (Yf AT ((bK L).getD (Zw i) .undef) _)) _=_;rw[af (lL hi),gh hi,Zx,jL jy];show lM (wc (bK K) (L.getD i 0)) _=_;rw[uI _ h];show aE (!K.contains (L.getD i 0)) _ _=_;rw[ah hp,ql (by omega)]
  .intro i hi hp;have jy:i<L.length:=by rw[<-cU];exact hi
   refine⟨(.ret,[iv i,iv i]),?_,?_⟩
   .show aE (Zy ((i:Int)<((bK L).length:Int))) (oX i (bK L) (Yf AT ((bK L).getD (Zw i) .undef) _)) _=_;rw[af (lL hi),gh hi,Zx,jL jy];show lM (wc (bK K) (L.getD i 0)) _=_;rw[uI _ h];show aE (!K.contains (L.getD i 0)) _ _=_;rw[af hp]
   .show Zv [Zq (Zy ((i:Int)>=0))]=_;rw[show Zy ((i:Int)>=0)=Zp by simp]
  .refine⟨(.exit 0,[iv 0,iv (bK L).length]),?_,rfl⟩;show aE (Zy (((bK L).length:Int)<((bK L).length:Int))) _ _=_;rw[ah FO]
 rw[e,cU,g8 L 0 (λx => !K.contains x)];cases L.any λk => !K.contains k<;>rfl
theorem ye{B:List Bytes}(b:Bytes)(h:B.length<=100000000):yd (bF B) b=Zv [.bool (!B.contains b)]:=by
 have e:yd (bF B) b=Zv (bif (Zk (bF B).length).any (λi=>B.getD i []==b) then[Zq Zu] else[Zq Zp]):=by
  refine jn (λi=>[.bool Zu,iv i]) _ _ ?_ ?_ ?_ rfl
  .intro i hi hp;have jy:i<B.length:=by rw[<-cG];exact hi
   show aE (Zy ((i:Int)<((bF B).length:Int))) (zq i (bF B) (Zb ((bF B).getD (Zw i) .undef) _)) _=_;rw[af (lL hi),sM hi,Zx,gF jy];show aE (B.getD i []==b) _ _=_;rw[ah hp,ql (by omega)]
  .intro i hi hp;have jy:i<B.length:=by rw[<-cG];exact hi
   refine⟨(.ret,[.bool Zu,iv i]),?_,rfl⟩;show aE (Zy ((i:Int)<((bF B).length:Int))) (zq i (bF B) (Zb ((bF B).getD (Zw i) .undef) _)) _=_;rw[af (lL hi),sM hi,Zx,gF jy];show aE (B.getD i []==b) _ _=_;rw[af hp]
  .refine⟨(.exit 0,[.bool Zu,iv (bF B).length]),?_,rfl⟩;show aE (Zy (((bF B).length:Int)<((bF B).length:Int))) _ _=_;rw[ah FO]
 rw[e,cG,g8 B [] (λx=>x==b),lm];cases B.contains b<;>rfl
theorem UN{B:List Bytes}(L:List Bytes)(h:B.length<=100000000)(hl:L.length<=100000000):cfB (bF B) (bF L)=Zv [.bool (L.any λk => !B.contains k)]:=by
 have e:cfB (bF B) (bF L)=Zv (bif (Zk (bF L).length).any (λi => !B.contains (L.getD i [])) then[Zq Zp] else[Zq Zu]):=by
  refine jn (λi=>[iv 0,iv i]) _ _ ?_ ?_ ?_ rfl
  .intro i hi hp;have jy:i<L.length:=by rw[<-cG];exact hi
   show aE (Zy ((i:Int)<((bF L).length:Int))) (oX i (bF L) (Zb ((bF L).getD (Zw i) .undef) _)) _=_;rw[af (lL hi),gh hi,Zx,gF jy];show lM (yd (bF B) (L.getD i [])) _=_;rw[ye _ h];show aE (!B.contains (L.getD i [])) _ _=_;rw[ah hp,ql (by omega)]
  .intro i hi hp;have jy:i<L.length:=by rw[<-cG];exact hi
   refine⟨(.ret,[iv i,iv i]),?_,?_⟩
   .show aE (Zy ((i:Int)<((bF L).length:Int))) (oX i (bF L) (Zb ((bF L).getD (Zw i) .undef) _)) _=_;rw[af (lL hi),gh hi,Zx,gF jy];show lM (yd (bF B) (L.getD i [])) _=_;rw[ye _ h];show aE (!B.contains (L.getD i [])) _ _=_;rw[af hp]
   .show Zv [Zq (Zy ((i:Int)>=0))]=_;rw[show Zy ((i:Int)>=0)=Zp by simp]
  .refine⟨(.exit 0,[iv 0,iv (bF L).length]),?_,rfl⟩;show aE (Zy (((bF L).length:Int)<((bF L).length:Int))) _ _=_;rw[ah FO]
 rw[e,cG,g8 L [] (λx => !B.contains x)];cases L.any λk => !B.contains k<;>rfl
theorem pE{O:Type}{l:List O}(d:O){i:Nat}(h:i<l.length):l.take (i+1)=l.take i++[l.getD i d]:=by
 rw[List.take_succ_eq_append_getElem h];simp[Zf,h]
theorem A7(K L:List Int){i:Nat}(h:i<L.length):eZ K (L.take (i+1))=bif (eZ K (L.take i)).contains (L.getD i 0) then eZ K (L.take i) else lK (eZ K (L.take i)) (L.getD i 0):=by
 rw[pE 0 h];unfold eZ;rw[List.foldl_append];rfl
theorem wv(K L:List Bytes){i:Nat}(h:i<L.length):eH K (L.take (i+1))=bif (eH K (L.take i)).contains (L.getD i []) then eH K (L.take i) else eH K (L.take i)++[L.getD i []]:=by
 rw[pE [] h];unfold eH;rw[List.foldl_append];rfl
theorem A6(l B:List Bytes):(eH B l).length<=B.length+l.length:=by
 obtain⟨N,h1,h2,_⟩:=jB (l:=l) (B:=B);rw[h1,Yu];omega
theorem LD{O:Type}{K:List Int}{q:Int}(h:xt K=Zp)(hq:K.contains q=Zu)(hl:K.length<=100000000)(f:List AV->Option O):SE (bK K) q f=f (bK (lK K q)):=by
 have XJ:q ∉ K:=by simpa using hq
 unfold SE;rw[OP h XJ,OW (xv h),lG,cU];rw[show(Zp&&Zp&&Zy ((K.length:Int)<=100000000))=Zp by simp;omega];rfl
theorem OO{J:Type}{K L:List Int}(ha:xt K=Zp)(h:K.length+L.length<=100000000)(y1 y2:List AV){k:Ex×List AV->Option J}{A:J}(hk:k (.exit 0,[iv L.length,.aH (bK (eZ K L)),.aH y1,.aH y2])=Zv A):Zz (bD (TV (bK L)) [iv 0,.aH (bK K),.aH y1,.aH y2]) k=Zv A:=by
 refine l9 (λi=>[iv i,.aH (bK (eZ K (L.take i))),.aH y1,.aH y2]) L.length (λi hi=> ?_) ⟨(.exit 0,[iv L.length,.aH (bK (eZ K L)),.aH y1,.aH y2]),?_,hk⟩ rfl
 .have jz:i<(bK L).length:=by rw[cU];exact hi
  have hm:(eZ K (L.take i)).length<=100000000:=Zj tR (by rw[Yn];omega);show aE (Zy ((i:Int)<((bK L).length:Int))) (oX i (bK L) (Yf AT ((bK L).getD (Zw i) .undef) _)) _=_;rw[af (lL jz),gh jz,Zx,jL hi];show lM (wc (bK (eZ K (L.take i))) (L.getD i 0)) _=_;rw[uI _ hm];show aE (!(eZ K (L.take i)).contains (L.getD i 0)) _ _=_;rw[A7 K L hi];cases hc:(eZ K (L.take i)).contains (L.getD i 0) with
  | true =>
   rw[Zm,aF,ql (by omega)];rfl
  | false =>
   rw[Zd,b_,LD (nV ha) hc hm,ql (by omega)];rfl
 .show aE (Zy ((L.length:Int)<((bK L).length:Int))) _ _=_;rw[ah (by rw[cU];simp),Yb]
theorem Co{n:Nat}(h:n<=100000000):Go.Abs.room (n+1) 24=Zp:=by
 unfold Go.Abs.room;simp only[Zh,Nat.ble_eq];omega
theorem vj(B:List Bytes)(q:Bytes):bF B++[.bs q]=bF (B++[q]):=by simp[bF]
theorem OL{J:Type}{K L:List Bytes}(h:K.length+L.length<=100000000)(y y2:List AV){k:Ex×List AV->Option J}{A:J}(hk:k (.exit 2,[iv L.length,.aH y,.aH (bF (eH K L)),.aH y2])=Zv A):Zz (bD (OM (bF L)) [iv 0,.aH y,.aH (bF K),.aH y2]) k=Zv A:=by
 refine l9 (λi=>[iv i,.aH y,.aH (bF (eH K (L.take i))),.aH y2]) L.length (λi hi=> ?_) ⟨(.exit 2,[iv L.length,.aH y,.aH (bF (eH K L)),.aH y2]),?_,hk⟩ rfl
 .have jz:i<(bF L).length:=by rw[cG];exact hi
  have hm:(eH K (L.take i)).length<=100000000:=Zj (A6 _ _) (by rw[Yn];omega);show aE (Zy ((i:Int)<((bF L).length:Int))) (oX i (bF L) (Zb ((bF L).getD (Zw i) .undef) _)) _=_;rw[af (lL jz),gh jz,Zx,gF hi];show lM (yd (bF (eH K (L.take i))) (L.getD i [])) _=_;rw[ye _ hm];show aE (!(eH K (L.take i)).contains (L.getD i [])) (aB (Go.Abs.room ((bF (eH K (L.take i))).length+1) 24) (Zv (Sum.inl [up i,.aH y,.aH (bF (eH K (L.take i))++[.bs (L.getD i [])]),.aH y2]))) _=_;rw[wv K L hi,cG,Co hm,vj];cases hc:(eH K (L.take i)).contains (L.getD i []) with
  | true =>
   rw[Zm,aF,ql (by omega)];rfl
  | false =>
   rw[Zd,b_,ql (by omega)];rfl
 .show aE (Zy ((L.length:Int)<((bF L).length:Int))) _ _=_;rw[ah (by rw[cG];simp),Yb]
def sE(s:Kn)(M:List AV):List AV:=[.aH (bK s.keys),.aH (bF s.boxes),.aH M]
theorem Pf{s:Kn}{x:AD}(hs:eA s)(hk:x.keys.length<=1)(hb:x.boxes.length<=1)(b:Bool)(n:Int)(M:List AV):DY b n (bK x.keys) (bF x.boxes) (bK s.keys) (bF s.boxes) M=Zv (.inr (.ret,.bool Zp::iv n::sE (s.add x) M)):=by
 have h1:=hs.z_;have h2:=hs.sA;unfold DY;refine OO hs.xt (by omega) _ _ ?_;show Zz (bD (OM (bF x.boxes)) _) _=_;refine OL (by omega) _ _ ?_;rfl
theorem Pm{s:Kn}{x:AD}:s.has x=(!(x.keys.any λk => !s.keys.contains k) && !(x.boxes.any λb => !s.boxes.contains b)):=by
 unfold Kn.has;rw[List.all_eq_not_any_not,List.all_eq_not_any_not]
theorem Qk{s:Kn}(hs:eA s){t:Bytes}(ht:t.length<=70368744170000)(b:Bool)(n:Int)(M:List AV) :
  Ep b n (bK s.keys) (bF s.boxes) M t=Zv (if s.opens t=Zp then .inr (.ret,.bool Zp::iv n::sE (s.add (br t)) (po (iv n) (.bool Zp) M))
   else .inl (.bool b::up n::sE s (if (aU t).err=0/\s.keys.contains (aU t).box.key=Zp then po (iv n) (.bool Zp) M else M))):=by
 have h1:=hs.z_;have h2:=hs.sA;unfold Ep;rw[ae (by simp;omega)];show aE (!((aU t).err==0)) _ _=_;by_cases he:(aU t).err=0;case neg =>
  rw[af (by simpa using he),Qa0 (by rw[vw];exact λh=>he h.1),Qa0 (λh=>he h.1)];rfl
 rw[ah (by simpa using he)];have ho:s.opens t=(s.keys.contains (aU t).box.key && !s.has (br t)):=by unfold Kn.opens;rw[he];rfl
 rw[ho,uI _ (by omega)];show aE (!s.keys.contains (aU t).box.key) _ _=_;cases hk:s.keys.contains (aU t).box.key with
 | false =>
  rw[Zd,b_,Bool.false_and,Qa0 Bool.false_ne_true,Qa0 (λh=>Bool.false_ne_true h.2)];rfl
 | true =>
  have lY:(aU t).box.body.length<=70368744170000:=by
   rcases pr t with h | h
   .omega
   .rw[h];exact Yq _
  have hi:=uG t;rw[Zm,aF,ae (by simp;omega),Ym,Qa1 (show(aU t).err=0/\Zp=Zp from⟨he,rfl⟩)];show lM (cfK (bK s.keys) (bK (br t).keys)) _=_;have g:=Pf hs hi.keys hi.boxes b n (po (iv n) (.bool Zp) M);rw[UO _ (by omega) (by have:=hi.keys;omega)];show aE (!(br t).keys.any λk => !s.keys.contains k) (lM (cfB (bF s.boxes) (bF (br t).boxes)) _) (DY b n (bK (br t).keys) (bF (br t).boxes) (bK s.keys) (bF s.boxes) (po (iv n) (.bool Zp) M))=_;rw[UN _ (by omega) (by have:=hi.boxes;omega),g,Pm];show aE (!(br t).keys.any λk => !s.keys.contains k) (aE (!(br t).boxes.any λk => !s.boxes.contains k) _ (DY b n (bK (br t).keys) (bF (br t).boxes) (bK s.keys) (bF s.boxes) (po (iv n) (.bool Zp) M))) _=_;rw[g];cases (br t).keys.any λk => !s.keys.contains k<;>cases (br t).boxes.any λk => !s.boxes.contains k<;>rfl
def A2(M:List AV)(s:Kn):Prop:=∀ i,i<s.boxes.length->getM (iv i) M (.bool Zu) = .bool Zu\/(getM (iv i) M (.bool Zu) = .bool Zp/\s.done (s.boxes.getD i [])=Zp)
theorem BM(n m:Int):ng (iv n) (iv m)=(n==m):=by simp[ng,iv]
theorem Bo(n m:Int)(d v:AV):∀ {M:List AV},getM (iv m) (po (iv n) v M) d=if n=m then v else getM (iv m) M d
 | []=>by
  show(bif ng (iv n) (iv m) then Zv v else Xz).getD d=_;rw[BM];by_cases h:n=m
  .rw[Qa1 h,show(n==m)=Zp by simpa using h];rfl
  .rw[Qa0 h,show(n==m)=Zu by simpa using h];rfl
 | e::r=>by
  have ih:=Bo n m d v (M:=r);unfold getM at ih ⊢;show(pV (iv m) (bif ng (gH e) (iv n) then AV.aQ [iv n,v]::r else e::po (iv n) v r)).getD d=_;cases he:ng (gH e) (iv n) with
  | true =>
   have hk:gH e=iv n:=by
    cases XD:gH e<;>rw[XD] at he<;>simp only[ng,iv] at he<;>try cases he
    simp only[Zh,Qb1] at he;rw[he.1,he.2]
   show(bif ng (iv n) (iv m) then Zv v else pV (iv m) r).getD d=if n=m then v else(bif ng (gH e) (iv m) then Zv (uo e) else pV (iv m) r).getD d
   rw[hk,BM];by_cases h:n=m
   .rw[Qa1 h,show(n==m)=Zp by simpa using h];rfl
   .rw[Qa0 h,show(n==m)=Zu by simpa using h];rfl
  | false =>
   show(bif ng (gH e) (iv m) then Zv (uo e) else pV (iv m) (po (iv n) v r)).getD d=if n=m then v else(bif ng (gH e) (iv m) then Zv (uo e) else pV (iv m) r).getD d
   cases hm:ng (gH e) (iv m) with
   | false=>exact ih
   | true =>
    have hk:gH e=iv m:=by
     cases XD:gH e<;>rw[XD] at hm<;>simp only[ng,iv] at hm<;>try cases hm
     simp only[Zh,Qb1] at hm;rw[hm.1,hm.2]
    rw[hk,BM] at he;rw[Qa0 (by intro h;subst h;simp at he)];rfl
theorem A2.put{M:List AV}{s:Kn}(h:A2 M s){j:Nat}(hd:s.done (s.boxes.getD j [])=Zp):A2 (po (iv j) (.bool Zp) M) s:=by
 intro i hi;rw[Bo];by_cases e:(j:Int)=i
 .obtain rfl:j=i:=by omega
  rw[Qa1 e];exact .inr ⟨rfl,hd⟩
 .rw[Qa0 e];exact h i hi
theorem A2.grow{M:List AV}{s:Kn}(h:A2 M s)(x:AD)(hx:∀ i,s.boxes.length<=i->getM (iv i) M (.bool Zu) = .bool Zu):A2 M (s.add x):=by
 intro i hi;by_cases e:i<s.boxes.length
 .rcases h i e with h | ⟨h1,h2⟩
  .exact .inl h
  .refine .inr ⟨h1,?_⟩;obtain⟨N,e1,_⟩:=jB (l:=x.boxes) (B:=s.boxes);have e2:(s.add x).boxes.getD i []=s.boxes.getD i []:=by
    show(eH s.boxes x.boxes).getD i []=_;rw[e1,Zf,Zf,List.getElem?_append_left e]
   rw[e2];exact(Gu s x).done h2
 .exact .inl (hx i (by omega))
def EY(M:List AV)(N:Nat):Prop:=∀ i:Nat,N<=i->getM (iv i) M (.bool Zu) = .bool Zu
theorem EY.put{M:List AV}{N j:Nat}(h:EY M N)(hj:j<N):EY (po (iv j) (.bool Zp) M) N:=by
 intro i hi;rw[Bo,Qa0 (by omega)];exact h i hi
structure qx (M:List AV) (s:Kn):Prop where
 ok:A2 M s
 low:EY M s.boxes.length
theorem SZ{s:Kn}{t:Bytes}(he:(aU t).err=0)(hk:s.keys.contains (aU t).box.key=Zp)(ho:s.opens t=Zu):s.done t=Zp:=by simp_all [Ym,Kn.done,Kn.opens]
theorem Kc{s:Kn}{t:Bytes}(h:s.done t=Zp):s.opens t=Zu:=by
 unfold Kn.done at h;unfold Kn.opens;cases h0:(aU t).err==0
 .rfl
 .rw[h0] at h;have h':s.has (br t)=Zp:=h;rw[h'];simp
def Next(s:Kn)(r:Ex×List AV):Prop:=(s.next=Xz/\∃ M,qx M s/\r=(.exit 0,.bool Zu::iv s.boxes.length::sE s M))\/∃ b M n,s.next=Zv b/\qx M (s.add (br b))/\r=(.ret,.bool Zp::iv n::sE (s.add (br b)) M)
theorem Qf{J:Type}{s:Kn}(hs:eA s){M:List AV}(hM:qx M s){k:Ex×List AV->Option J}{Q:J->Prop}(hk:∀ r,Next s r->∃ x,k r=Zv x/\Q x):∃ x,Zz (bD (Mh (bF s.boxes)) (.bool Zu::iv 0::sE s M)) k=Zv x/\Q x:=by
 have h2:=hs.sA;refine FN (enc:=λ(q:Nat×List AV) => .bool Zu::iv (q.1:Int)::sE s q.2) (I:=λq=>q.1<=s.boxes.length/\qx q.2 s/\∀ j,j<q.1->s.opens (s.boxes.getD j [])=Zu) (μ:=λq=>s.boxes.length-q.1) (R:=Next s) (0,M) ⟨Yq _,hM,λj h=>by omega⟩ rfl ?_ hk;rintro⟨i,M⟩ ⟨hi,hM,hj⟩;dsimp only at hi hM hj;by_cases h:i<s.boxes.length;case neg =>
  obtain rfl:i=s.boxes.length:=by omega
  refine⟨.inr (.exit 0,.bool Zu::iv s.boxes.length::sE s M),?_,.inl ⟨?_,M,hM,rfl⟩⟩
  .show aE (Zy ((s.boxes.length:Int)<((bF s.boxes).length:Int))) _ _=_;rw[ah (by rw[cG];simp)];rfl
  .unfold Kn.next;rw[List.find?_eq_none];intro x hx;obtain⟨j,HG,rfl⟩:=List.mem_iff_getElem.1 hx;have:=hj j HG;simpa [Zf,HG] using this
 have jz:i<(bF s.boxes).length:=by rw[cG];exact h
 have rJ:s.boxes.getD i []∈s.boxes:=by simp[Zf,h]
 have e0:Mh (bF s.boxes) (.bool Zu::iv (i:Int)::sE s M)=AV.dd (getM (iv i) M (.bool Zu)) λb3=>aE (!b3) (Ep Zu i (bK s.keys) (bF s.boxes) M (s.boxes.getD i [])) (Zv (.inl (.bool Zu::up i::sE s M))):=by
  show aE (Zy ((i:Int)<((bF s.boxes).length:Int))) (AV.dd (getM (iv i) M (.bool Zu)) λb3=>aE (!b3) (zq i (bF s.boxes) (Zb ((bF s.boxes).getD (Zw i) .undef) λt=>Ep Zu i (bK s.keys) (bF s.boxes) M t)) _) _=_;rw[af (lL jz),sM jz,Zx,gF h];rfl
 have step:∀ M',qx M' s->s.opens (s.boxes.getD i [])=Zu->A5 (λ(q:Nat×List AV)=>Zq Zu::iv (q.1:Int)::sE s q.2) (λq=>q.1<=s.boxes.length/\qx q.2 s/\∀ j,j<q.1->s.opens (s.boxes.getD j [])=Zu) (λq=>s.boxes.length-q.1) (Next s) (i,M) (.inl (.bool Zu::up i::sE s M')):=λM' hM' ho =>
  ⟨(i+1,M'),by dsimp only;rw[ql (by omega)],⟨h,hM',λj HF=>by
   by_cases e:j=i
   .rw[e];exact ho
   .exact hj j (by dsimp only at HF;omega)⟩,show s.boxes.length-(i+1)<s.boxes.length-i by omega⟩
 dsimp only;rw[e0];rcases hM.ok i h with hg | ⟨hg,hd⟩
 .rw[hg];show ∃ y,Ep Zu i (bK s.keys) (bF s.boxes) M (s.boxes.getD i [])=Zv y/\_;rw[Qk hs (hs.len _ rJ)];by_cases ho:s.opens (s.boxes.getD i [])=Zp
  .rw[Qa1 ho];have hd:(s.add (br (s.boxes.getD i []))).done (s.boxes.getD i [])=Zp:=by unfold Kn.done;rw[LF];simp
   refine⟨_,rfl,.inr ⟨s.boxes.getD i [],po (iv i) (.bool Zp) M,i,?_,?_,rfl⟩⟩
   .unfold Kn.next;rw[List.find?_eq_some_iff_getElem];refine⟨ho,i,h,by simp[Zf,h],λj HG=> ?_⟩;have:=hj j HG;simpa [Zf,Nat.lt_trans HG h] using this
   .have hl:s.boxes.length<=(s.add (br (s.boxes.getD i []))).boxes.length:=by
     obtain⟨N,e1,_⟩:=jB (l:=(br (s.boxes.getD i [])).boxes) (B:=s.boxes);show _<=(eH s.boxes _).length;rw[e1,Yu];omega
    have e2:(s.add (br (s.boxes.getD i []))).boxes.getD i []=s.boxes.getD i []:=by
     obtain⟨N,e1,_⟩:=jB (l:=(br (s.boxes.getD i [])).boxes) (B:=s.boxes);show(eH s.boxes _).getD i []=_;rw[e1,Zf,Zf,List.getElem?_append_left h]
    exact⟨(hM.ok.grow _ hM.low).put (by rw[e2];exact hd),λj HG=>(hM.low.put h) j (Zj hl HG)⟩
  .have Ko:s.opens (s.boxes.getD i [])=Zu:=by simpa using ho
   rw[Qa0 ho];by_cases hq:(aU (s.boxes.getD i [])).err=0/\s.keys.contains (aU (s.boxes.getD i [])).box.key=Zp
   .rw[Qa1 hq];exact⟨_,rfl,step _ ⟨hM.ok.put (SZ hq.1 hq.2 Ko),hM.low.put h⟩ Ko⟩
   .rw[Qa0 hq];exact⟨_,rfl,step _ hM Ko⟩
 .rw[hg];exact⟨_,rfl,step _ hM (Kc hd)⟩
theorem LR{s:Kn}(hs:eA s):MU (bK s.keys) (bF s.boxes) []=Zv (.agg [.sl 1 (bK (close s).keys),.sl 1 (bF (close s).boxes)],[]):=by
 unfold MU;refine bQ (enc:=λ(q:Kn×List AV)=>sE q.1 q.2) (I:=λq=>eA q.1/\qx q.2 q.1/\close q.1=close s) (μ:=λq=>mi q.1) (R:=λr=>∃ M,r=(.exit 0,sE (close s) M)) (s,[]) ⟨hs,⟨λi hi => .inl rfl,λi hi=>rfl⟩,rfl⟩ rfl ?_ ?_
 .rintro⟨t,M⟩ ⟨ht,hM,hc⟩;dsimp only at ht hM hc;have key:∃ y,U2 (sE t M)=Zv y/\A5 (λ(q:Kn×List AV)=>sE q.1 q.2) (λq=>eA q.1/\qx q.2 q.1/\close q.1=close s) (λq=>mi q.1) (λr=>∃ M,r=(.exit 0,sE (close s) M)) (t,M) y:=by
   have e0:U2 (sE t M)=Zz (bD (Mh (bF t.boxes)) (.bool Zu::iv 0::sE t M)) λr=>aq r.2 λb r1=>ag AI r1 λ_ r1=>sg r1 λy r1=>sg r1 λy5 r1=>sg r1 λy6 r1=>ak r1
     (jl r.1 (aE b (Zv (.inl [.aH y,.aH y5,.aH y6])) (Zv (.inr (.exit 0,[.aH y,.aH y5,.aH y6])))) λj=>aE (Zn j 0) (Zv (.inr (.exit 0,[.aH y,.aH y5,.aH y6]))) Xz):=rfl
   rw[e0];refine Qf ht hM ?_;rintro r (⟨hn,M',hM',rfl⟩ | ⟨b,M',n,hn,hM',rfl⟩)
   .exact⟨_,rfl,M',by rw[<-hc,sD hn];rfl⟩
   .obtain⟨g1,g2⟩:=rS hn;exact⟨_,rfl,(t.add (br b),M'),rfl,⟨ht.open g1 g2,hM',by rw[<-wy hn];exact hc⟩,oM g1 g2⟩
  exact key
 .rintro r ⟨M,rfl⟩;rfl
theorem Nn{ks bs:List AV}{b:Bytes}(h:lZ ks bs=Zp)(hm:mi (kn ks bs)+2*b.length+2100<=1000000):KB ks bs b=Zv (.agg [.sl 1 (bK (learn (kn ks bs) b).keys),.sl 1 (bF (learn (kn ks bs) b).boxes)],[]):=by
 obtain⟨s,rfl,rfl,hs⟩:=wg h;rw[kW] at hm ⊢;have h2:=hs.sA;have h3:=hs.z_;have hp:=kZ b;unfold KB SU;rw[lG,cU,ae (by simp;omega)];show Zz (aB (oW (bF s.boxes)&&Zy ((bF s.boxes).length<=1000000)) _) _=_;rw[qS,cG,ae (by simp;omega)];show Zz (aB (Zy (b.length<=70368744170000)) _) _=_;rw[ae (by simp;omega)];show Zz (bD Uj [.sl 1 [],.sl 1 [],.aH (bK s.keys),.aH (bF s.boxes),.aH [],.sl 1 (bF (partsOf b)),iv (bF (partsOf b)).length,iv 0]) _=_;refine l9 (λi=>[.sl 1 [],.sl 1 [],.aH (bK s.keys),.aH (bF (eH s.boxes ((partsOf b).take i))),.aH [],.sl 1 (bF (partsOf b)),iv (bF (partsOf b)).length,iv i]) (partsOf b).length (λi hi=> ?_)
  ⟨(.exit 0,[.sl 1 [],.sl 1 [],.aH (bK s.keys),.aH (bF (eH s.boxes (partsOf b))),.aH [],.sl 1 (bF (partsOf b)),iv (bF (partsOf b)).length,iv (partsOf b).length]),?_,?_⟩ rfl
 .have jz:i<(bF (partsOf b)).length:=by rw[cG];exact hi
  have hl:(eH s.boxes ((partsOf b).take i)).length<=100000000:=Zj (A6 _ _) (by rw[Yn];omega);show aE (Zy ((i:Int)<((bF (partsOf b)).length:Int))) (oX i (bF (partsOf b)) (Zb ((bF (partsOf b)).getD (Zw i) .undef) _)) _=_;rw[af (lL jz),gh jz,Zx,gF hi];show lM (yd (bF (eH s.boxes ((partsOf b).take i))) ((partsOf b).getD i [])) _=_;rw[ye _ hl];show aE (!(eH s.boxes ((partsOf b).take i)).contains ((partsOf b).getD i [])) (aB (Go.Abs.room ((bF (eH s.boxes ((partsOf b).take i))).length+1) 24) (Zv (Sum.inl [.sl 1 [],.sl 1 [],.aH (bK s.keys),.aH (bF (eH s.boxes ((partsOf b).take i))++[.bs ((partsOf b).getD i [])]),.aH [],.sl 1 (bF (partsOf b)),iv (bF (partsOf b)).length,up i]))) _=_;rw[wv s.boxes (partsOf b) hi,cG (eH _ _),Co hl,vj];cases hc:(eH s.boxes ((partsOf b).take i)).contains ((partsOf b).getD i []) with
  | true =>
   rw[Zm,aF,ql (by omega)];rfl
  | false =>
   rw[Zd,b_,ql (by omega)];rfl
 .show aE (Zy (((partsOf b).length:Int)<((bF (partsOf b)).length:Int))) _ _=_;rw[ah (by rw[cG];simp),Yb]
 .show MU (bK s.keys) (bF (eH s.boxes (partsOf b))) []=_;exact LR (s:=s.add ⟨[],partsOf b⟩) (hs.parts hm)
theorem P1{ks bs:List AV}{k:Int}(h:lZ ks bs=Zp)(hk:(Zy (0<=k)&&Zy (k<18446744073709551616))=Zp)(hm:mi (kn ks bs)+1<=1000000):PZ ks bs k=Zv (.agg [.sl 1 (bK (leak (kn ks bs) k).keys),.sl 1 (bF (leak (kn ks bs) k).boxes)],[]):=by
 obtain⟨s,rfl,rfl,hs⟩:=wg h;rw[kW] at hm ⊢;have h2:=hs.z_;have h3:=hs.sA;unfold PZ SU;rw[lG,cU,ae (by simp;omega)];show Zz (aB (oW (bF s.boxes)&&Zy ((bF s.boxes).length<=1000000)) _) _=_;rw[qS,cG,ae (by simp;omega)];show Zz (aB (Zy (0<=k)&&Zy (k<18446744073709551616)) _) _=_;rw[ae hk];show Zz (aE (bB k) (lM (wc (bK s.keys) k) _) _) _=_;rw[uI _ (by omega)];show Zz (aE (bB k) (aE (!s.keys.contains k) _ _) _) _=_;have fin:MU (bK (eZ s.keys (ec [k]))) (bF s.boxes) []=Zv (.agg [.sl 1 (bK (leak s k).keys),.sl 1 (bF (leak s k).boxes)],[]):=LR (s:=s.add ⟨ec [k],[]⟩) (hs.KA hm);cases hv:bB k with
 | false =>
  rw[show ec [k]=[] by simp[ec,hv]] at fin;exact fin
 | true =>
  rw[show ec [k]=[k] by simp[ec,hv]] at fin;have e:eZ s.keys [k]=bif s.keys.contains k then s.keys else lK s.keys k:=rfl
  rw[e] at fin;cases hc:s.keys.contains k with
  | true=>rw[hc] at fin;exact fin
  | false =>
   rw[hc] at fin;rw[b_,Zd,b_,LD hs.xt hc (by omega)];exact fin
end Kerb
/- Chapter 27: small loops. -/
namespace Kerb
open Go Go.Abs
theorem xA{l:List Bytes}{i:Nat}(h:i<l.length):gC (l.take (i+1))=bif oF (l.getD i []) then gC (l.take i)++[l.getD i []] else gC (l.take i):=by
 rw[pE [] h];unfold gC;rw[List.filter_append];generalize l.getD i []=b;cases hb:oF b<;>simp[List.filter_cons,hb]
theorem Gz{l:List Int}{i:Nat}(h:i<l.length):ec (l.take (i+1))=bif bB (l.getD i 0) then ec (l.take i)++[l.getD i 0] else ec (l.take i):=by
 rw[pE 0 h];unfold ec;rw[List.filter_append];generalize l.getD i 0=b;cases hb:bB b<;>simp[List.filter_cons,hb]
theorem Sg(B:List Int)(q:Int):bK B++[.int AT q]=bK (B++[q]):=by simp[bK]
theorem Gj{n:Nat}(h:n<=1000000000):Go.Abs.room n 8=Zp:=by
 unfold Go.Abs.room;simp only[Zh,Nat.ble_eq];omega
theorem TD{n:Nat}(h:n<=1000000000):Go.Abs.room n 24=Zp:=by
 unfold Go.Abs.room;simp only[Zh,Nat.ble_eq];omega
theorem OT{O:Type}[BEq O][LawfulBEq O]{K L:List O}(d:O)(h:K.length=L.length):((Zk K.length).any λi => !(K.getD i d==L.getD i d)) = !(K==L):=by
 cases he:K==L with
 | true =>
  obtain rfl:=Qb0 he;rw[List.any_eq_false.2]
  .rfl
  .intro x _;simp
 | false =>
  have ii:K≠L:=by intro e;subst e;simp at he
  rw[Zd,Yy];refine Classical.byContradiction λhc=>ii (List.ext_getElem h λi h1 h2=> ?_);refine Classical.byContradiction λhi=>hc ⟨i,Yk.2 h1,?_⟩;simpa [Zf,h1,h2] using hi
theorem L9:∀ {K:List Int} {k:Int} {i:Nat},i<=K.length->(∀ j,j<i->K.getD j 0<k)->(i<K.length->¬ K.getD i 0<k)->lK K k=if i<K.length/\K.getD i 0=k then K else K.take i++k::K.drop i
 | [],k,i,hi,_,_=>by
  obtain rfl:i=0:=by simpa using hi
  simp[lK]
 | x::r,k,0,_,_,h=>by
  have h0:¬ x<k:=h (by simp);by_cases e:x=k
  .subst e;simp[lK]
  .have e':(x==k)=Zu:=by simpa using e
   show(bif Zy (x<k) then _ else bif x==k then _ else k::x::r)=_;rw[Qa5 h0,e',Qa0 (by rintro⟨_,q⟩;exact e q)];rfl
 | x::r,k,i+1,hi,h1,h2=>by
  have h0:x<k:=h1 0 (by omega);have ih:=L9 (K:=r) (k:=k) (i:=i) (by simpa using hi) (λj hj=>h1 (j+1) (by omega)) (λhj=>h2 (by simpa using hj));show(bif Zy (x<k) then x::lK r k else _)=_;rw[Qa4 h0,Qa6,ih];by_cases e:i<r.length/\r.getD i 0=k
  .rw[Qa1 e,Qa1 (show i+1<(x::r).length/\(x::r).getD (i+1) 0=k from⟨by simpa using e.1,e.2⟩)]
  .rw[Qa0 e,Qa0 (show ¬ (i+1<(x::r).length/\(x::r).getD (i+1) 0=k) from λq=>e ⟨by simpa using q.1,q.2⟩)];rfl
theorem yS{i:Nat}(h:i<=1000000000):Zg AI ((i:Int)+1)=((i+1:Nat):Int):=by
 rw[wrap_i64 (by omega) (by omega)];rfl
theorem Ht(i:Nat):Zy ((0:Int)<=(i:Int))=Zp:=by simp
theorem Sy{l:List Int}{i:Nat}(h:i<l.length):Zy ((i:Int)<((bK l).length:Int))=Zp:=by rw[cU];simp;omega
theorem XL{l:List Bytes}{i:Nat}(h:i<l.length):Zy ((i:Int)<((bF l).length:Int))=Zp:=by rw[cG];simp;omega
theorem Dp{l:List Int}{i:Nat}(h:i<l.length):Zf (bK l) (Zw (i:Int)) .undef = .int AT (l.getD i 0):=by rw[Zx];exact jL h
theorem MY{l:List Bytes}{i:Nat}(h:i<l.length):Zf (bF l) (Zw (i:Int)) .undef = .bs (l.getD i []):=by rw[Zx];exact gF h
theorem V_(l:List Int):Zy ((l.length:Int)<((bK l).length:Int))=Zu:=by rw[cU];simp
theorem Tp(l:List Bytes):Zy ((l.length:Int)<((bF l).length:Int))=Zu:=by rw[cG];simp
theorem lv{O:Type}{l:List O}{i:Nat}(d:O)(h:i<l.length):l.getD i d∈l:=by simp[Zf,h]
theorem aaC(l:List Int)(i:Nat):(bK l).take i=bK (l.take i):=by simp[bK,List.map_take]
theorem YA(l:List Int)(i:Nat):(bK l).drop i=bK (l.drop i):=by simp[bK,List.map_drop]
noncomputable def V5(y:List AV)(k:Int)(l:List AV):St:=ag AI l λn r=>ag AI r λi r=>ak r
 (aE (Zy (i<(y.length:Int))) (oX i y (Yf AT (y.getD (Zw i) .undef) λq=>aE (k==q) (Zv (.inr (.ret,[iv i,iv i]))) (Zv (.inl [iv n,up i]))))
  (Zv (.inr (.exit 0,[iv n,iv i]))))
noncomputable def FH(y:List AV)(k:Int):Option (List AV):=Zz (bD (V5 y k) [iv 0,iv 0]) HW
noncomputable def wJ(y:List AV)(k:Int):Option (List AV):=lM (FH y k) λb=>Zv [.bool !b]
noncomputable def X8(y kl:List AV)(l:List AV):St:=ag AI l λn r=>ag AI r λi r=>ak r
 (aE (Zy (i<(kl.length:Int))) (oX i kl (Yf AT (kl.getD (Zw i) .undef) λq=>lM (wJ y q) λb=>aE b (Zv (.inr (.ret,[iv i,iv i]))) (Zv (.inl [iv n,up i]))))
  (Zv (.inr (.exit 0,[iv n,iv i]))))
noncomputable def SW(y kl:List AV):Option (List AV):=Zz (bD (X8 y kl) [iv 0,iv 0]) HW
noncomputable def V6(y:List AV)(b:List UInt8)(l:List AV):St:=aq l λc r=>ag AI r λi r=>ak r
 (aE (Zy (i<(y.length:Int))) (oX i y (Zb (y.getD (Zw i) .undef) λq=>aE (q==b) (Zv (.inr (.ret,[.bool Zu,iv i]))) (Zv (.inl [.bool c,up i]))))
  (Zv (.inr (.exit 0,[.bool c,iv i]))))
noncomputable def Kz(y:List AV)(b:List UInt8):Option (List AV):=Zz (bD (V6 y b) [.bool Zu,iv 0]) λr=>aq r.2 λc r1=>ag AI r1 λ_ r2=>ak r2 (jl r.1 (Zv [.bool c]) λj=>aE (Zn j 0) (Zv [.bool Zp]) Xz)
theorem zt{K:List Int}(k:Int)(h:K.length<=100000000):FH (bK K) k=Zv [.bool (K.contains k)]:=by
 have e:FH (bK K) k=Zv (bif (Zk (bK K).length).any (λi=>k==K.getD i 0) then[Zq Zp] else[Zq Zu]):=by
  refine jn (λi=>[iv 0,iv i]) _ _ ?_ ?_ ?_ rfl
  .intro i hi hp;have jy:i<K.length:=by rw[<-cU];exact hi
   show aE (Zy ((i:Int)<((bK K).length:Int))) (oX i (bK K) (Yf AT ((bK K).getD (Zw i) .undef) _)) _=_;rw[af (lL hi),gh hi,Zx,jL jy];show aE (k==K.getD i 0) _ _=_;rw[ah hp,ql (by omega)]
  .intro i hi hp;have jy:i<K.length:=by rw[<-cU];exact hi
   refine⟨(.ret,[iv i,iv i]),?_,?_⟩
   .show aE (Zy ((i:Int)<((bK K).length:Int))) (oX i (bK K) (Yf AT ((bK K).getD (Zw i) .undef) _)) _=_;rw[af (lL hi),gh hi,Zx,jL jy];show aE (k==K.getD i 0) _ _=_;rw[af hp]
   .show Zv [Zq (Zy ((i:Int)>=0))]=_;rw[show Zy ((i:Int)>=0)=Zp by simp]
  .refine⟨(.exit 0,[iv 0,iv (bK K).length]),?_,rfl⟩;show aE (Zy (((bK K).length:Int)<((bK K).length:Int))) _ _=_;rw[ah FO]
 rw[e,cU,g8 K 0 (λx=>k==x),oS];cases K.contains k<;>rfl
theorem zw{K:List Int}(k:Int)(h:K.length<=100000000):wJ (bK K) k=Zv [.bool (!K.contains k)]:=by
 unfold wJ;rw[zt k h];rfl
theorem SX{K:List Int}(L:List Int)(h:K.length<=100000000)(hl:L.length<=100000000):SW (bK K) (bK L)=Zv [.bool (L.any λk => !K.contains k)]:=by
 have e:SW (bK K) (bK L)=Zv (bif (Zk (bK L).length).any (λi => !K.contains (L.getD i 0)) then[Zq Zp] else[Zq Zu]):=by
  refine jn (λi=>[iv 0,iv i]) _ _ ?_ ?_ ?_ rfl
  .intro i hi hp;have jy:i<L.length:=by rw[<-cU];exact hi
   show aE (Zy ((i:Int)<((bK L).length:Int))) (oX i (bK L) (Yf AT ((bK L).getD (Zw i) .undef) _)) _=_;rw[af (lL hi),gh hi,Zx,jL jy];show lM (wJ (bK K) (L.getD i 0)) _=_;rw[zw _ h];show aE (!K.contains (L.getD i 0)) _ _=_;rw[ah hp,ql (by omega)]
  .intro i hi hp;have jy:i<L.length:=by rw[<-cU];exact hi
   refine⟨(.ret,[iv i,iv i]),?_,?_⟩
   .show aE (Zy ((i:Int)<((bK L).length:Int))) (oX i (bK L) (Yf AT ((bK L).getD (Zw i) .undef) _)) _=_;rw[af (lL hi),gh hi,Zx,jL jy];show lM (wJ (bK K) (L.getD i 0)) _=_;rw[zw _ h];show aE (!K.contains (L.getD i 0)) _ _=_;rw[af hp]
   .show Zv [Zq (Zy ((i:Int)>=0))]=_;rw[show Zy ((i:Int)>=0)=Zp by simp]
  .refine⟨(.exit 0,[iv 0,iv (bK L).length]),?_,rfl⟩;show aE (Zy (((bK L).length:Int)<((bK L).length:Int))) _ _=_;rw[ah FO]
 rw[e,cU,g8 L 0 (λx => !K.contains x)];cases L.any λk => !K.contains k<;>rfl
theorem Nl{B:List Bytes}(b:Bytes)(h:B.length<=100000000):Kz (bF B) b=Zv [.bool (!B.contains b)]:=by
 have e:Kz (bF B) b=Zv (bif (Zk (bF B).length).any (λi=>B.getD i []==b) then[Zq Zu] else[Zq Zp]):=by
  refine jn (λi=>[.bool Zu,iv i]) _ _ ?_ ?_ ?_ rfl
  .intro i hi hp;have jy:i<B.length:=by rw[<-cG];exact hi
   show aE (Zy ((i:Int)<((bF B).length:Int))) (oX i (bF B) (Zb ((bF B).getD (Zw i) .undef) _)) _=_;rw[af (lL hi),gh hi,Zx,gF jy];show aE (B.getD i []==b) _ _=_;rw[ah hp,ql (by omega)]
  .intro i hi hp;have jy:i<B.length:=by rw[<-cG];exact hi
   refine⟨(.ret,[.bool Zu,iv i]),?_,rfl⟩;show aE (Zy ((i:Int)<((bF B).length:Int))) (oX i (bF B) (Zb ((bF B).getD (Zw i) .undef) _)) _=_;rw[af (lL hi),gh hi,Zx,gF jy];show aE (B.getD i []==b) _ _=_;rw[af hp]
  .refine⟨(.exit 0,[.bool Zu,iv (bF B).length]),?_,rfl⟩;show aE (Zy (((bF B).length:Int)<((bF B).length:Int))) _ _=_;rw[ah FO]
 rw[e,cG,g8 B [] (λx=>x==b),lm];cases B.contains b<;>rfl
abbrev Nk(ks bs:List AV):aO:=[[.sl 1 ks,.sl 1 bs]]
noncomputable def Z7{O:Type}(c:Bool)(ks bs:List AV)(q:List UInt8)(f:List AV->List AV->Bool->Option O):Option O:=Zz (aB c (Zv (Zq (!bZ (kn ks bs) q),Nk ks bs))) λr=>aC r.2 λx r1=>bH 1 x λk2 r2=>bH 1 r2 λb3 r3=>ak r3 (aD r1 (AV.dd r.1 (f k2 b3)))
theorem Qa{O:Type}{c:Bool}(hc:c=Zp)(s:Kn)(q:List UInt8)(f:List AV->List AV->Bool->Option O):Z7 c (bK s.keys) (bF s.boxes) q f=f (bK s.keys) (bF s.boxes) (!bZ s q):=by
 unfold Z7;rw[kW,ae hc];rfl
noncomputable def mkS(mn:Nat)(bl:List AV)(l:List AV):St:=ag AI l λn r=>ag AI r λi r=>bH 1 r λks r=>bH 1 r λbs r=>ak r
 (aE (Zy (i<(bl.length:Int))) (oX i bl (Zb (bl.getD (Zw i) .undef) λq=>Z7 (lZ ks bs&&Zy (q.length<=70368744170000)&&Zy ((q.length:Int)<(mn:Int))) ks bs q λk2 b3 b4 =>
   aE b4 (Zv (.inr (.ret,[iv i,iv i,.sl 1 k2,.sl 1 b3]))) (Zv (.inl [iv n,up i,.sl 1 k2,.sl 1 b3]))))
  (Zv (.inr (.exit 0,[iv n,iv i,.sl 1 ks,.sl 1 bs]))))
noncomputable def P_(mn:Nat)(ks bs:List AV)(b:List UInt8):Option (AV×aO) :=
 lM (Kz bs b) λb1=>aE (!b1) (Zv (.bool Zu,Nk ks bs)) (Zz (aB (Zy (b.length<=140737488355328)) (Zv (Zq (oF b),([]:aO)))) λr=>aD r.2 (AV.dd r.1 λb2=>aE (!b2) (Zv (.bool Zp,Nk ks bs))
  (Zz (aB (Zy (b.length<=140737488355328)) (Zv (AV.aQ [.agg [.int AI (aU b).box.kind,.int AT (aU b).box.key,.bs (aU b).box.body],.int AI (aU b).n,.int AI (aU b).err],([]:aO)))) λr=>aD r.2 (AV.gx r.1 λvs=>aA vs λx r=>AV.cR x λcs=>ag AI cs λkd r1=>ag AT r1 λky r1=>aW r1 λbd r1=>ak r1 (ag AI r λ_ r=>ag AI r λer r=>ak r
   (aE (!(er==0)) (Zv (.bool Zp,Nk ks bs)) (lM (wJ ks ky) λb6=>aE b6 (Zv (.bool Zp,Nk ks bs))
    (Zz (aB (Zy (bd.length<=70368744170000)) (Zv (AV.aQ [.sl 1 (bK (ij ⟨kd,ky,bd⟩).keys),.sl 1 (bF (ij ⟨kd,ky,bd⟩).boxes)],([]:aO)))) λr=>aD r.2 (AV.gx r.1 λvs=>bH 1 vs λkl r=>bH 1 r λbl r=>ak r
     (lM (SW ks kl) λb9=>aE b9 (Zv (.bool Zp,Nk ks bs)) (Zz (bD (mkS mn bl) [iv 0,iv 0,.sl 1 ks,.sl 1 bs]) λr=>ag AI r.2 λn r1=>ag AI r1 λ_ r1=>bH 1 r1 λk2 r1=>bH 1 r1 λb3 r1=>ak r1
      (jl r.1 (Zv (.bool (Zy (n>=0)),Nk k2 b3)) λj=>aE (Zn j 0) (Zv (.bool Zu,Nk k2 b3)) Xz))))))))))))
end Kerb
/- Chapter 27: what is known does not depend on the order; what can be made teaches nothing. -/
namespace Kerb
open Go Go.Abs
inductive EW (B0:Bytes->Prop) (K0:Int->Prop):Int ⊕ Bytes->Prop
 | key {k:Int}:K0 k->EW B0 K0 (.inl k)
 | box {b:Bytes}:B0 b->EW B0 K0 (.inr b)
 | inK {b:Bytes} {k:Int}:EW B0 K0 (.inr b)->(aU b).err=0->EW B0 K0 (.inl (aU b).box.key)->k∈(br b).keys->EW B0 K0 (.inl k)
 | inB {b c:Bytes}:EW B0 K0 (.inr b)->(aU b).err=0->EW B0 K0 (.inl (aU b).box.key)->c∈(br b).boxes->EW B0 K0 (.inr c)
theorem EW.mono{B0 B1:Bytes->Prop}{K0 K1:Int->Prop}(h1:∀ b,B0 b->B1 b)(h2:∀ k,K0 k->K1 k){x:Int ⊕ Bytes}(h:EW B0 K0 x):EW B1 K1 x:=by
 induction h with
 | key h=>exact .key (h2 _ h)
 | box h=>exact .box (h1 _ h)
 | inK _ e _ m i1 i2=>exact .inK i1 e i2 m
 | inB _ e _ m i1 i2=>exact .inB i1 e i2 m
structure Full (B0:Bytes->Prop) (K0:Int->Prop) (s:Kn):Prop where
 next:s.next=Xz
 xt:xt s.keys=Zp
 nodup:s.boxes.Nodup
 keys:∀ k,k∈s.keys↔EW B0 K0 (.inl k)
 boxes:∀ b,b∈s.boxes↔EW B0 K0 (.inr b)
theorem Mi{s:Kn}(h:s.next=Xz){b:Bytes}(hb:b∈s.boxes)(e:(aU b).err=0)(hk:(aU b).box.key∈s.keys):s.has (br b)=Zp:=by
 have:=List.find?_eq_none.1 h b hb;cases hh:s.has (br b) with
 | true=>rfl
 | false=>exact absurd (vw.2 ⟨e,hk,hh⟩) this
theorem qy:∀ {l B:List Bytes},B.Nodup->(eH B l).Nodup
 | [],B,h=>h
 | b::l,B,h=>by
  have e:eH B (b::l)=eH (bif B.contains b then B else B++[b]) l:=rfl;rw[e];cases hc:B.contains b with
  | true=>exact qy h
  | false =>
   refine qy (List.nodup_append.2 ⟨h,by simp,?_⟩);intro x hx y hy;have:b ∉ B:=by simpa using hc
   simp only[List.mem_singleton] at hy;rintro rfl;exact this (hy ▸ hx)
theorem Full.join{B0 B1:Bytes->Prop}{K0 K1:Int->Prop}{s:Kn}(h:Full B0 K0 s){x:AD}(hb:∀ b,B1 b↔B0 b\/b∈x.boxes)(hk:∀ k,K1 k↔K0 k\/k∈x.keys):Full B1 K1 (close (s.add x)):=by
 have m:∀ {y},EW B0 K0 y->EW B1 K1 y:=EW.mono (λb q=>(hb b).2 (.inl q)) λk q=>(hk k).2 (.inl q);obtain⟨⟨p1,p2,p3,p4,p5,p6⟩,hn⟩:=zd (P:=λs=>Kerb.xt s.keys=Zp/\s.boxes.Nodup/\(∀ k∈s.keys,EW B1 K1 (.inl k))/\(∀ b∈s.boxes,EW B1 K1 (.inr b))/\(∀ k,K1 k->k∈s.keys)/\∀ b,B1 b->b∈s.boxes) (λs b ⟨q1,q2,q3,q4,q5,q6⟩ gb go=>by
  obtain⟨e,ek,_⟩:=vw.1 go;refine⟨nV q1,qy q2,λk hk=> ?_,λc hc=> ?_,λk hk=>jV.2 (.inl (q5 k hk)),λc hc=>iW.2 (.inl (q6 c hc))⟩
  .rcases jV.1 hk with hk | hk
   .exact q3 k hk
   .exact .inK (q4 b gb) e (q3 _ ek) hk
  .rcases iW.1 hc with hc | hc
   .exact q4 c hc
   .exact .inB (q4 b gb) e (q3 _ ek) hc) (s.add x)
  ⟨nV h.xt,qy h.nodup,λk q=>by
   rcases jV.1 q with q | q
   .exact m ((h.keys k).1 q)
   .exact .key ((hk k).2 (.inr q)),λb q=>by
   rcases iW.1 q with q | q
   .exact m ((h.boxes b).1 q)
   .exact .box ((hb b).2 (.inr q)),λk q=>by
   rcases (hk k).1 q with q | q
   .exact jV.2 (.inl ((h.keys k).2 (.key q)))
   .exact jV.2 (.inr q),λb q=>by
   rcases (hb b).1 q with q | q
   .exact iW.2 (.inl ((h.boxes b).2 (.box q)))
   .exact iW.2 (.inr q)⟩
 have all:∀ y,EW B1 K1 y->(match y with | .inl k=>k∈(close (s.add x)).keys | .inr b=>b∈(close (s.add x)).boxes):=by
  intro y hy;induction hy with
  | key q=>exact p5 _ q
  | box q=>exact p6 _ q
  | inK _ e _ mm i1 i2=>exact(vr.1 (Mi hn i1 e i2)).1 _ mm
  | inB _ e _ mm i1 i2=>exact(vr.1 (Mi hn i1 e i2)).2 _ mm
 exact⟨hn,p1,p2,λk=>⟨p3 k,λq=>all _ q⟩,λb=>⟨p4 b,λq=>all _ q⟩⟩
def Z_:Kn:=⟨[],[]⟩
theorem tb{s:Kn}:∀ {n:Nat} {b:Bytes},b.length<n->kM n s b=bZ s b:=by
 have key:∀ (k:Nat) (b:Bytes),b.length<k->∀ n m,b.length<n->b.length<m->kM n s b=kM m s b:=by
  intro k;induction k with
  | zero=>intro b h;omega
  | succ k ih =>
   intro b hb n m hn hm;obtain⟨n,rfl⟩:∃ q,n=q+1:=⟨n-1,by omega⟩;obtain⟨m,rfl⟩:∃ q,m=q+1:=⟨m-1,by omega⟩;have:(br b).boxes.all (λb=>kM n s b)=(br b).boxes.all λb=>kM m s b:=by
    rw[Bool.eq_iff_iff,Yx,Yx];constructor
    .intro h c hc;have:=rK hc;rw[<-ih c (by omega) n m (by omega) (by omega)];exact h c hc
    .intro h c hc;have:=rK hc;rw[ih c (by omega) n m (by omega) (by omega)];exact h c hc
   simp only[kM,this]
 exact λ{n b} h=>key (b.length+1) b (by omega) n (b.length+1) h (by omega)
theorem vS(s:Kn)(b:Bytes):bZ s b=(s.boxes.contains b||(oF b&&s.keys.contains (aU b).box.key&&(br b).keys.all (λk=>s.keys.contains k)&&(br b).boxes.all λb=>bZ s b)):=by
 have:(br b).boxes.all (λc=>kM b.length s c)=(br b).boxes.all λc=>bZ s c:=by
  rw[Bool.eq_iff_iff,Yx,Yx];constructor
  .intro h c hc;have:=rK hc;rw[<-tb (n:=b.length) (by omega)];exact h c hc
  .intro h c hc;have:=rK hc;rw[tb (by omega)];exact h c hc
 show kM (b.length+1) s b=_;simp only[kM,this]
end Kerb
/- Chapter 27: the reference's functions, as their loops are. -/
namespace Kerb
open Go Go.Abs
abbrev rb(v:AV):AV×aO:=(v,[])
noncomputable def acO(y:List AV)(b:List UInt8)(l:List AV):St:=aq l λc r=>ag AI r λi r=>ak r
 (aE (Zy (i<(y.length:Int))) (zq i y (Zb (y.getD (Zw i) .undef) λq=>aE (q==b) (Zv (.inr (.ret,[.bool Zp,iv i]))) (Zv (.inl [.bool c,up i]))))
  (Zv (.inr (.exit 0,[.bool c,iv i]))))
noncomputable def hasB(y:List AV)(b:List UInt8):Option (List AV):=Zz (bD (acO y b) [.bool Zu,iv 0]) λr=>aq r.2 λc r1=>ag AI r1 λ_ r2=>ak r2 (jl r.1 (Zv [.bool c]) λj=>aE (Zn j 0) (Zv [.bool Zu]) Xz)
theorem S8{B:List Bytes}(b:Bytes)(h:B.length<=100000000):hasB (bF B) b=Zv [.bool (B.contains b)]:=by
 have e:hasB (bF B) b=Zv (bif (Zk (bF B).length).any (λi=>B.getD i []==b) then[Zq Zp] else[Zq Zu]):=by
  refine jn (λi=>[.bool Zu,iv i]) _ _ ?_ ?_ ?_ rfl
  .intro i hi hp;have jy:i<B.length:=by rw[<-cG];exact hi
   show aE (Zy ((i:Int)<((bF B).length:Int))) (zq i (bF B) (Zb ((bF B).getD (Zw i) .undef) _)) _=_;rw[af (lL hi),sM hi,Zx,gF jy];show aE (B.getD i []==b) _ _=_;rw[ah hp,ql (by omega)]
  .intro i hi hp;have jy:i<B.length:=by rw[<-cG];exact hi
   refine⟨(.ret,[.bool Zp,iv i]),?_,rfl⟩;show aE (Zy ((i:Int)<((bF B).length:Int))) (zq i (bF B) (Zb ((bF B).getD (Zw i) .undef) _)) _=_;rw[af (lL hi),sM hi,Zx,gF jy];show aE (B.getD i []==b) _ _=_;rw[af hp]
  .refine⟨(.exit 0,[.bool Zu,iv (bF B).length]),?_,rfl⟩;show aE (Zy (((bF B).length:Int)<((bF B).length:Int))) _ _=_;rw[ah FO]
 rw[e,cG,g8 B [] (λx=>x==b),lm];cases B.contains b<;>rfl
noncomputable def Hy{O:Type}(ks:List AV)(k:Int)(f:Bool->Option O):Option O:=Zz (aB (dl ks&&Zy (ks.length<=1000000000)) (Zv (rb (.bool ((eJ ks).contains k))))) λr=>aD r.2 (AV.dd r.1 f)
theorem xY{O:Type}{K:List Int}(k:Int)(h:K.length<=100000000)(f:Bool->Option O):Hy (bK K) k f=f (K.contains k):=by
 unfold Hy;rw[lG,gX,cU,ae (by simp;omega)];rfl
noncomputable def XV(st:List AV):St:=bH 1 st λl r=>bH 1 r λm r=>bH 1 r λa r=>bH 1 r λb r=>bH 1 r λks r=>sg r λy r=>aq r λmo r=>ag AI r λn r=>ak r
 (aE (Zy (n<(l.length:Int))) (oX n l (Yf AT (l.getD (Zw n) .undef) λk=>Hy ks k λb6=>aE (!b6)
   (oX n l (Yf AT (l.getD (Zw n) .undef) λk2=>Zz (aB (dl ks&&Zy (ks.length<=1000000000)) (Zv (rb (.sl 1 (bK (lK (eJ ks) k2)))))) λr=>aD r.2 (AV.fR 1 r.1 λk3=>Zv (.inl [.sl 1 l,.sl 1 m,.sl 1 a,.sl 1 b,.sl 1 k3,.aH y,.bool Zp,up n]))))
   (Zv (.inl [.sl 1 l,.sl 1 m,.sl 1 a,.sl 1 b,.sl 1 ks,.aH y,.bool mo,up n]))))
  (Zv (.inr (.exit 0,[.sl 1 l,.sl 1 m,.sl 1 a,.sl 1 b,.sl 1 ks,.aH y,.bool mo,iv n]))))
noncomputable def LB(st:List AV):St:=bH 1 st λm r=>bH 1 r λa r=>bH 1 r λb r=>bH 1 r λks r=>sg r λy r=>aq r λmo r=>ag AI r λn r=>ak r
 (aE (Zy (n<(m.length:Int))) (oX n m (Zb (m.getD (Zw n) .undef) λq=>lM (hasB y q) λb6=>aE (!b6)
   (oX n m (Zb (m.getD (Zw n) .undef) λq2=>aB (Go.Abs.room q2.length 1) (aB (Go.Abs.room (y.length+[AV.bs q2].length) 24) (Zv (.inl [.sl 1 m,.sl 1 a,.sl 1 b,.sl 1 ks,.aH (y++[.bs q2]),.bool Zp,up n])))))
   (Zv (.inl [.sl 1 m,.sl 1 a,.sl 1 b,.sl 1 ks,.aH y,.bool mo,up n]))))
  (Zv (.inr (.exit 2,[.sl 1 m,.sl 1 a,.sl 1 b,.sl 1 ks,.aH y,.bool mo,iv n]))))
noncomputable def UB(ks bs l m:List AV):Option (AV×aO):=aB (Go.Abs.room ks.length 8) (aB (Go.Abs.room bs.length 24)
 (Zz (bD XV [.sl 1 l,.sl 1 m,.sl 1 [],.sl 1 [],.sl 1 ks,.aH bs,.bool Zu,iv 0]) λr=>bH 1 r.2 λ_ r1=>bH 1 r1 λm r1=>bH 1 r1 λa r1=>bH 1 r1 λb r1=>bH 1 r1 λks r1=>sg r1 λy r1=>aq r1 λmo r1=>ag AI r1 λ_ r1=>ak r1 (jl r.1 Xz λj=>aE (Zn j 0)
  (Zz (bD LB [.sl 1 m,.sl 1 a,.sl 1 b,.sl 1 ks,.aH y,.bool mo,iv 0]) λr=>bH 1 r.2 λ_ r1=>bH 1 r1 λ_ r1=>bH 1 r1 λ_ r1=>bH 1 r1 λks r1=>sg r1 λy r1=>aq r1 λmo r1=>ag AI r1 λ_ r1=>ak r1 (jl r.1 Xz λj=>aE (Zn j 2) (Zv (.aQ [.agg [.sl 1 ks,.sl 1 y],.bool mo],[])) Xz)) Xz)))
def qL{O:Type}[BEq O](K l:List O):Bool:=l.any λk => !K.contains k
theorem Ny(K L:List Int){i:Nat}(h:i<L.length):qL K (L.take (i+1))=bif (eZ K (L.take i)).contains (L.getD i 0) then qL K (L.take i) else Zp:=by
 rw[pE 0 h];unfold qL;rw[List.any_append];cases hc:(eZ K (L.take i)).contains (L.getD i 0) with
 | true =>
  have hc:=jV.1 (Yg.1 hc);simp only[List.any_cons,List.any_nil,Yh,Qa6];cases hk:K.contains (L.getD i 0) with
  | true=>simp
  | false =>
   have qo:L.getD i 0 ∉ K:=by simpa using hk
   have:L.getD i 0∈L.take i:=hc.resolve_left qo;rw[Yy.2 ⟨_,this,by simpa using qo⟩];rfl
 | false =>
  have hk:L.getD i 0 ∉ K:=λq=>by
   have:(eZ K (L.take i)).contains (L.getD i 0)=Zp:=Yg.2 (jV.2 (.inl q));rw[this] at hc;cases hc
  have:K.contains (L.getD i 0)=Zu:=by simpa using hk
  simp only[List.any_cons,List.any_nil,Yh,Qa7,this,Zd,Bool.or_true]
theorem Nx(K L:List Bytes){i:Nat}(h:i<L.length):qL K (L.take (i+1))=bif (eH K (L.take i)).contains (L.getD i []) then qL K (L.take i) else Zp:=by
 rw[pE [] h];unfold qL;rw[List.any_append];cases hc:(eH K (L.take i)).contains (L.getD i []) with
 | true =>
  have hc:=iW.1 (Yg.1 hc);simp only[List.any_cons,List.any_nil,Yh,Qa6];cases hk:K.contains (L.getD i []) with
  | true=>simp
  | false =>
   have qo:L.getD i [] ∉ K:=by simpa using hk
   have:L.getD i []∈L.take i:=hc.resolve_left qo;rw[Yy.2 ⟨_,this,by simpa using qo⟩];rfl
 | false =>
  have hk:L.getD i [] ∉ K:=λq=>by
   have:(eH K (L.take i)).contains (L.getD i [])=Zp:=Yg.2 (iW.2 (.inl q));rw[this] at hc;cases hc
  have:K.contains (L.getD i [])=Zu:=by simpa using hk
  simp only[List.any_cons,List.any_nil,Yh,Qa7,this,Zd,Bool.or_true]
theorem aan{n:Nat}(h:n<=140737488355328):Go.Abs.room n 1=Zp:=by
 unfold Go.Abs.room;simp only[Zh,Nat.ble_eq];omega
theorem OK(m a b ks y:List AV)(mo:Bool)(n:Int):LB [.sl 1 m,.sl 1 a,.sl 1 b,.sl 1 ks,.aH y,.bool mo,iv n]=aE (Zy (n<(m.length:Int))) (oX n m (Zb (m.getD (Zw n) .undef) λq=>lM (hasB y q) λb6=>aE (!b6)
   (oX n m (Zb (m.getD (Zw n) .undef) λq2=>aB (Go.Abs.room q2.length 1) (aB (Go.Abs.room (y.length+1) 24) (Zv (.inl [.sl 1 m,.sl 1 a,.sl 1 b,.sl 1 ks,.aH (y++[.bs q2]),.bool Zp,up n])))))
   (Zv (.inl [.sl 1 m,.sl 1 a,.sl 1 b,.sl 1 ks,.aH y,.bool mo,up n]))))
  (Zv (.inr (.exit 2,[.sl 1 m,.sl 1 a,.sl 1 b,.sl 1 ks,.aH y,.bool mo,iv n]))):=rfl
theorem SF{s:Kn}(hs:eA s){x:AD}(h1:x.keys.length<=1000)(h2:x.boxes.length<=1000)(h3:∀ b∈x.boxes,b.length<=140737488355328) :
  UB (bK s.keys) (bF s.boxes) (bK x.keys) (bF x.boxes)=Zv (.aQ [.agg [.sl 1 (bK (s.add x).keys),.sl 1 (bF (s.add x).boxes)],.bool (!s.has x)],[]):=by
 have n1:=hs.z_;have n2:=hs.sA;unfold UB;rw[cU,cG,ae (Gj (by omega)),ae (TD (by omega))];refine l9 (λi=>[.sl 1 (bK x.keys),.sl 1 (bF x.boxes),.sl 1 [],.sl 1 [],.sl 1 (bK (eZ s.keys (x.keys.take i))),.aH (bF s.boxes),.bool (qL s.keys (x.keys.take i)),iv i]) x.keys.length (λi hi=> ?_)
  ⟨(.exit 0,[.sl 1 (bK x.keys),.sl 1 (bF x.boxes),.sl 1 [],.sl 1 [],.sl 1 (bK (eZ s.keys x.keys)),.aH (bF s.boxes),.bool (qL s.keys x.keys),iv x.keys.length]),?_,?_⟩ rfl
 .have jz:i<(bK x.keys).length:=by rw[cU];exact hi
  have hm:(eZ s.keys (x.keys.take i)).length<=100000000:=Zj tR (by rw[Yn];omega);show aE (Zy ((i:Int)<((bK x.keys).length:Int))) (oX i (bK x.keys) (Yf AT ((bK x.keys).getD (Zw i) .undef) λk=>Hy (bK (eZ s.keys (x.keys.take i))) k λb6=>aE (!b6) (oX i (bK x.keys) (Yf AT ((bK x.keys).getD (Zw i) .undef) λk2=>Zz (aB (dl (bK (eZ s.keys (x.keys.take i)))&&Zy ((bK (eZ s.keys (x.keys.take i))).length<=1000000000)) (Zv (rb (.sl 1 (bK (lK (eJ (bK (eZ s.keys (x.keys.take i)))) k2)))))) _)) _)) _=_;rw[af (lL jz),gh jz,gh jz,Zx,jL hi];show Hy (bK (eZ s.keys (x.keys.take i))) (x.keys.getD i 0) (λb6=>aE (!b6) (Zz (aB (dl (bK (eZ s.keys (x.keys.take i)))&&Zy ((bK (eZ s.keys (x.keys.take i))).length<=1000000000)) (Zv (rb (.sl 1 (bK (lK (eJ (bK (eZ s.keys (x.keys.take i)))) (x.keys.getD i 0))))))) _) _)=_;rw[xY _ hm,lG,cU (eZ _ _),gX,ae (by simp;omega),A7 _ _ hi,Ny _ _ hi,ql (by omega)];cases (eZ s.keys (x.keys.take i)).contains (x.keys.getD i 0)<;>rfl
 .show aE (Zy ((x.keys.length:Int)<((bK x.keys).length:Int))) _ _=_;rw[ah (V_ _),Yb]
 show Zz (bD LB [.sl 1 (bF x.boxes),.sl 1 [],.sl 1 [],.sl 1 (bK (eZ s.keys x.keys)),.aH (bF s.boxes),.bool (qL s.keys x.keys),iv 0]) _=_;generalize XG:qL s.keys x.keys=mo;have ht:[Yd 1 (bF x.boxes),Yd 1 [],Yd 1 [],Yd 1 (bK (eZ s.keys x.keys)),AV.aH (bF s.boxes),Zq mo,iv 0]=[.sl 1 (bF x.boxes),.sl 1 [],.sl 1 [],.sl 1 (bK (eZ s.keys x.keys)),.aH (bF (eH s.boxes (x.boxes.take 0))),.bool (mo||qL s.boxes (x.boxes.take 0)),iv ((0:Nat):Int)]:=by
  show _=[_,_,_,_,_,Zq (mo||false),_];rw[Yh];rfl
 refine l9 (λi=>[.sl 1 (bF x.boxes),.sl 1 [],.sl 1 [],.sl 1 (bK (eZ s.keys x.keys)),.aH (bF (eH s.boxes (x.boxes.take i))),.bool (mo||qL s.boxes (x.boxes.take i)),iv i]) x.boxes.length (λi hi=> ?_)
  ⟨(.exit 2,[.sl 1 (bF x.boxes),.sl 1 [],.sl 1 [],.sl 1 (bK (eZ s.keys x.keys)),.aH (bF (eH s.boxes x.boxes)),.bool (mo||qL s.boxes x.boxes),iv x.boxes.length]),?_,?_⟩ ht
 .have jz:i<(bF x.boxes).length:=by rw[cG];exact hi
  have hm:(eH s.boxes (x.boxes.take i)).length<=100000000:=Zj (A6 _ _) (by rw[Yn];omega);show LB [.sl 1 (bF x.boxes),.sl 1 [],.sl 1 [],.sl 1 (bK (eZ s.keys x.keys)),.aH (bF (eH s.boxes (x.boxes.take i))),.bool (mo||qL s.boxes (x.boxes.take i)),iv i]=_;rw[OK,af (lL jz),gh jz,gh jz,Zx,gF hi];simp only[qN];rw[S8 _ hm,ae (aan (h3 _ (lv [] hi))),cG (eH _ _),ae (Co hm),vj,wv _ _ hi,Nx _ _ hi,ql (by omega)];show aE (!(eH s.boxes (x.boxes.take i)).contains (x.boxes.getD i [])) _ _=_;cases (eH s.boxes (x.boxes.take i)).contains (x.boxes.getD i [])
  .rw[Zd,b_,Qa7,Qa7,Bool.or_true]
  .rw[Zm,aF,Qa6,Qa6]
 .show aE (Zy ((x.boxes.length:Int)<((bF x.boxes).length:Int))) _ _=_;rw[ah (Tp _),Yb]
 .rw[Pm];show Zv ((_,_):AV×aO)=_;rw[Bool.not_and,Bool.not_not,Bool.not_not,<-XG];rfl
noncomputable def IC{O:Type}(t:List UInt8)(f:Int->Int->List UInt8->Int->Int->Option O):Option O :=
 Zz (aB (Zy (t.length<=140737488355328)) (Zv (rb (.aQ [.agg [.int AI (aU t).box.kind,.int AT (aU t).box.key,.bs (aU t).box.body],.int AI (aU t).n,.int AI (aU t).err])))) λr=>aD r.2 (AV.gx r.1 λvs=>aA vs λx r=>AV.cR x λcs=>ag AI cs λkd r1=>ag AT r1 λky r1=>aW r1 λbd r1=>ak r1 (ag AI r λn r=>ag AI r λer r=>ak r (f kd ky bd n er)))
theorem ID{O:Type}{t:Bytes}(h:t.length<=140737488355328)(f:Int->Int->List UInt8->Int->Int->Option O):IC t f=f (aU t).box.kind (aU t).box.key (aU t).box.body (aU t).n (aU t).err:=by
 unfold IC;rw[ae (Qa4 h)];rfl
noncomputable def Ti{O:Type}(kd ky:Int)(bd:List UInt8)(f:List AV->List AV->Option O):Option O :=
 Zz (aB (Zy (bd.length<=70368744170000)) (Zv (rb (.aQ [.sl 1 (bK (ij ⟨kd,ky,bd⟩).keys),.sl 1 (bF (ij ⟨kd,ky,bd⟩).boxes)])))) λr=>aD r.2 (AV.gx r.1 λvs=>bH 1 vs λkl r=>bH 1 r λbl r=>ak r (f kl bl))
theorem L8{O:Type}{kd ky:Int}{bd:Bytes}(h:bd.length<=70368744170000)(f:List AV->List AV->Option O):Ti kd ky bd f=f (bK (ij ⟨kd,ky,bd⟩).keys) (bF (ij ⟨kd,ky,bd⟩).boxes):=by
 unfold Ti;rw[ae (Qa4 h)];rfl
noncomputable def LC{O:Type}(ks bs l m:List AV)(f:List AV->List AV->Bool->Option O):Option O :=
 Zz (aB (lZ ks bs&&dl l&&oW m&&Zy (l.length<=1000)&&Zy (m.length<=1000)&&(eY m).all λb=>Zy (b.length<=140737488355328)) (Zv (rb (.aQ [.agg [.sl 1 (bK ((kn ks bs).add ⟨eJ l,eY m⟩).keys),.sl 1 (bF ((kn ks bs).add ⟨eJ l,eY m⟩).boxes)],.bool (!(kn ks bs).has ⟨eJ l,eY m⟩)])))) λr=>aD r.2 (AV.gx r.1 λvs=>aA vs λx r=>AV.cR x λcs=>bH 1 cs λk2 r1=>bH 1 r1 λb2 r1=>ak r1 (aq r λmo r=>ak r (f k2 b2 mo)))
theorem ON{O:Type}{s:Kn}(hs:eA s){x:AD}(h1:x.keys.length<=1000)(h2:x.boxes.length<=1000)(h3:∀ b∈x.boxes,b.length<=140737488355328)(f:List AV->List AV->Bool->Option O):LC (bK s.keys) (bF s.boxes) (bK x.keys) (bF x.boxes) f=f (bK (s.add x).keys) (bF (s.add x).boxes) (!s.has x):=by
 unfold LC;have h3':x.boxes.all (λb=>Zy (b.length<=140737488355328))=Zp:=Yx.2 λb hb=>Qa4 (h3 b hb);rw[kW,gX,hJ,wb.2 hs,lG,qS,cU,cG,h3',ae (by simp;omega)];rfl
noncomputable def xD{O:Type}(mn:Nat)(ks bs:List AV)(f:List AV->List AV->Option O):Option O :=
 Zz (aB (lZ ks bs&&Zy ((mi (kn ks bs):Int)<(mn:Int))) (Zv (rb (.agg [.sl 1 (bK (close (kn ks bs)).keys),.sl 1 (bF (close (kn ks bs)).boxes)])))) λr=>aD r.2 (AV.cR r.1 λcs=>bH 1 cs λk2 r=>bH 1 r λb2 r=>ak r (f k2 b2))
theorem J6{O:Type}{mn:Nat}{s:Kn}(hs:eA s)(h:mi s<mn)(f:List AV->List AV->Option O):xD mn (bK s.keys) (bF s.boxes) f=f (bK (close s).keys) (bF (close s).boxes):=by
 unfold xD;rw[kW,wb.2 hs,ae (by simp;omega)];rfl
noncomputable def LJ(mn:Nat)(st:List AV):St:=bH 1 st λks r=>bH 1 r λbs r=>bH 1 r λa r=>bH 1 r λb r=>ag AI r λn r=>ak r
 (aE (Zy (n<(bs.length:Int))) (oX n bs (Zb (bs.getD (Zw n) .undef) λt=>IC t λkd ky bd _ _=>Hy ks ky λb6=>aE (!b6) (Zv (.inl [.sl 1 ks,.sl 1 bs,.sl 1 a,.sl 1 b,up n]))
   (Ti kd ky bd λkl bl=>LC ks bs kl bl λk2 b2 mo=>aE mo (xD mn k2 b2 λk3 b3=>Zv (.inr (.ret,[.sl 1 ks,.sl 1 bs,.sl 1 k3,.sl 1 b3,iv n]))) (Zv (.inl [.sl 1 ks,.sl 1 bs,.sl 1 a,.sl 1 b,up n])))))
  (Zv (.inr (.exit 0,[.sl 1 ks,.sl 1 bs,.sl 1 a,.sl 1 b,iv n]))))
noncomputable def E'(mn:Nat)(ks bs:List AV):Option (AV×aO):=Zz (bD (LJ mn) [.sl 1 ks,.sl 1 bs,.sl 1 [],.sl 1 [],iv 0]) λr=>bH 1 r.2 λks r1=>bH 1 r1 λbs r1=>bH 1 r1 λa r1=>bH 1 r1 λb r1=>ag AI r1 λ_ r1=>ak r1
 (jl r.1 (Zv (.agg [.sl 1 a,.sl 1 b],[])) λj=>aE (Zn j 0) (Zv (.agg [.sl 1 ks,.sl 1 bs],[])) Xz)
theorem IB{b:Bytes}(h:(aU b).err≠0):(aU b).box=Ek:=by grind [aU]
theorem E7{t:Bytes}(h:t.length<=70368744170000):(aU t).box.body.length<=70368744170000:=by
 rcases pr t with h1 | h1
 .omega
 .rw[h1];exact Yq _
theorem J7{s:Kn}(hs:eA s){mn:Nat}(hd:mi s<=mn):E' mn (bK s.keys) (bF s.boxes)=Zv (.agg [.sl 1 (bK (close s).keys),.sl 1 (bF (close s).boxes)],[]):=by
 have n1:=hs.z_;have n2:=hs.sA;unfold E';refine bQ (enc:=λ(i:Nat)=>[.sl 1 (bK s.keys),.sl 1 (bF s.boxes),.sl 1 [],.sl 1 [],iv (i:Int)]) (I:=λi=>i<=s.boxes.length/\∀ j,j<i->s.opens (s.boxes.getD j [])=Zu) (μ:=λi=>s.boxes.length-i)
  (R:=λr=>(r=(.exit 0,[.sl 1 (bK s.keys),.sl 1 (bF s.boxes),.sl 1 [],.sl 1 [],iv s.boxes.length])/\s.next=Xz)\/∃ n,r=(.ret,[.sl 1 (bK s.keys),.sl 1 (bF s.boxes),.sl 1 (bK (close s).keys),.sl 1 (bF (close s).boxes),iv n])) 0 ⟨Yq _,λj h=>by omega⟩ rfl ?_ ?_
 .rintro i ⟨hi,hj⟩;by_cases h:i<s.boxes.length;case neg =>
   obtain rfl:i=s.boxes.length:=by omega
   refine⟨.inr (.exit 0,[.sl 1 (bK s.keys),.sl 1 (bF s.boxes),.sl 1 [],.sl 1 [],iv s.boxes.length]),?_,.inl ⟨rfl,?_⟩⟩
   .show aE (Zy ((s.boxes.length:Int)<((bF s.boxes).length:Int))) _ _=_;rw[ah (Tp _)]
   .unfold Kn.next;rw[List.find?_eq_none];intro x hx;obtain⟨j,HG,rfl⟩:=List.mem_iff_getElem.1 hx;have:=hj j HG;simpa [Zf,HG] using this
  have jz:i<(bF s.boxes).length:=by rw[cG];exact h
  have hlen:=hs.len _ (lv [] h);have e0:LJ mn [.sl 1 (bK s.keys),.sl 1 (bF s.boxes),.sl 1 [],.sl 1 [],iv (i:Int)]=aE (!s.keys.contains (aU (s.boxes.getD i [])).box.key) (Zv (.inl [.sl 1 (bK s.keys),.sl 1 (bF s.boxes),.sl 1 [],.sl 1 [],up i]))
    (aE (!s.has (br (s.boxes.getD i []))) (xD mn (bK (s.add (br (s.boxes.getD i []))).keys) (bF (s.add (br (s.boxes.getD i []))).boxes) λk3 b3=>Zv (.inr (.ret,[.sl 1 (bK s.keys),.sl 1 (bF s.boxes),.sl 1 k3,.sl 1 b3,iv i]))) (Zv (.inl [.sl 1 (bK s.keys),.sl 1 (bF s.boxes),.sl 1 [],.sl 1 [],up i]))):=by
   have tg:=uG (s.boxes.getD i []);show aE (Zy ((i:Int)<((bF s.boxes).length:Int))) (oX i (bF s.boxes) (Zb ((bF s.boxes).getD (Zw i) .undef) _)) _=_;rw[af (lL jz),gh jz,Zx,gF h];show IC (s.boxes.getD i []) _=_;rw[ID (by omega),xY _ (by omega),L8 (E7 hlen)];show aE _ _ (LC (bK s.keys) (bF s.boxes) (bK (br (s.boxes.getD i [])).keys) (bF (br (s.boxes.getD i [])).boxes) _)=_;rw[ON hs (by have:=tg.keys;omega) (by have:=tg.boxes;omega) (λb hb=>by have:=tg.len b hb;omega)]
  have step:s.opens (s.boxes.getD i [])=Zu->A5 (λ(i:Nat)=>[Yd 1 (bK s.keys),Yd 1 (bF s.boxes),Yd 1 [],Yd 1 [],iv (i:Int)]) (λi=>i<=s.boxes.length/\∀ j,j<i->s.opens (s.boxes.getD j [])=Zu) (λi=>s.boxes.length-i)
    (λr=>(r=((.exit 0:Ex),[Yd 1 (bK s.keys),Yd 1 (bF s.boxes),Yd 1 [],Yd 1 [],iv s.boxes.length])/\s.next=Xz)\/∃ n,r=((.ret:Ex),[Yd 1 (bK s.keys),Yd 1 (bF s.boxes),Yd 1 (bK (close s).keys),Yd 1 (bF (close s).boxes),iv n])) i (.inl [Yd 1 (bK s.keys),Yd 1 (bF s.boxes),Yd 1 [],Yd 1 [],up i]):=λho =>
   ⟨i+1,by dsimp only;rw[ql (by omega)],⟨h,λj HF=>by
    by_cases e:j=i
    .rw[e];exact ho
    .exact hj j (by omega)⟩,show s.boxes.length-(i+1)<s.boxes.length-i by omega⟩
  rw[e0];cases hk:s.keys.contains (aU (s.boxes.getD i [])).box.key with
  | false=>exact⟨_,rfl,step (by unfold Kn.opens;rw[hk];simp)⟩
  | true =>
   cases hh:s.has (br (s.boxes.getD i [])) with
   | true=>exact⟨_,rfl,step (by unfold Kn.opens;rw[hh];simp)⟩
   | false =>
    have he:(aU (s.boxes.getD i [])).err=0:=by
     refine Classical.byContradiction λhc=> ?_;have:br (s.boxes.getD i [])=⟨[],[]⟩:=by unfold br;rw[IB hc];rfl
     rw[this] at hh;cases hh
    have ho:s.opens (s.boxes.getD i [])=Zp:=by unfold Kn.opens;rw[hk,hh,he];rfl
    have hn:s.next=Zv (s.boxes.getD i []):=by
     unfold Kn.next;rw[List.find?_eq_some_iff_getElem];refine⟨ho,i,h,by simp[Zf,h],λj HG=> ?_⟩;have:=hj j HG;simpa [Zf,Nat.lt_trans HG h] using this
    have fY:=oM (lv [] h) ho;refine⟨.inr (.ret,[.sl 1 (bK s.keys),.sl 1 (bF s.boxes),.sl 1 (bK (close s).keys),.sl 1 (bF (close s).boxes),iv i]),?_,Or.inr ⟨i,rfl⟩⟩;show xD mn _ _ _=_;rw[J6 (hs.open (lv [] h) ho) (by omega),<-wy hn]
 .rintro r (⟨rfl,hn⟩ | ⟨n,rfl⟩)
  .rw[sD hn];rfl
  .rfl
noncomputable def O2{O:Type}(ks bs:List AV)(b:List UInt8)(f:Bool->Option O):Option O:=Zz (aB (lZ ks bs&&Zy (b.length<=70368744170000)) (Zv (rb (.bool (bZ (kn ks bs) b))))) λr=>aD r.2 (AV.dd r.1 f)
theorem LI{O:Type}{s:Kn}(hs:eA s){b:Bytes}(h:b.length<=70368744170000)(f:Bool->Option O):O2 (bK s.keys) (bF s.boxes) b f=f (bZ s b):=by
 unfold O2;rw[kW,wb.2 hs,ae (by simp;omega)];rfl
noncomputable def X7(st:List AV):St:=bH 1 st λks r=>bH 1 r λbs r=>aq r λc r=>bH 1 r λl r=>ag AI r λn r=>ak r
 (aE (Zy (n<(l.length:Int))) (oX n l (Zb (l.getD (Zw n) .undef) λt=>O2 ks bs t λb5=>aE (!b5) (Zv (.inr (.ret,[.sl 1 ks,.sl 1 bs,.bool Zu,.sl 1 l,iv n]))) (Zv (.inl [.sl 1 ks,.sl 1 bs,.bool c,.sl 1 l,up n]))))
  (Zv (.inr (.exit 0,[.sl 1 ks,.sl 1 bs,.bool c,.sl 1 l,iv n]))))
noncomputable def Ml{O:Type}(b:List UInt8)(f:List AV->Option O):Option O:=Zz (aB (Zy (b.length<=70368744170000)) (Zv (rb (.sl 1 (bF (partsOf b)))))) λr=>aD r.2 (AV.fR 1 r.1 f)
noncomputable def UM(ks bs:List AV)(b:List UInt8):Option (AV×aO):=Ml b λl=>Zz (bD X7 [.sl 1 ks,.sl 1 bs,.bool Zu,.sl 1 l,iv 0]) λr=>bH 1 r.2 λ_ r1=>bH 1 r1 λ_ r1=>aq r1 λc r1=>bH 1 r1 λ_ r1=>ag AI r1 λ_ r1=>ak r1
 (jl r.1 (Zv (rb (.bool c))) λj=>aE (Zn j 0) (Zv (rb (.bool Zp))) Xz)
theorem xr{O:Type}(l:List O)(p:O->Bool):l.all p = !(l.any λx => !p x):=List.all_eq_not_any_not
theorem zI{b x:Bytes}(hb:b.length<=70368744160000)(h:x∈partsOf b):x.length<=70368744170000:=by
 have:=(kZ b).1 x h;omega
theorem SV{s:Kn}(hs:eA s){b:Bytes}(hb:b.length<=70368744160000):UM (bK s.keys) (bF s.boxes) b=Zv (rb (.bool (vn s b))):=by
 have hp:=(kZ b).2;unfold UM Ml;rw[ae (by simp;omega)];show Zz (bD X7 [.sl 1 (bK s.keys),.sl 1 (bF s.boxes),.bool Zu,.sl 1 (bF (partsOf b)),iv 0]) _=_;refine Qb3 (jn (A:=rb (.bool Zu)) (B:=rb (.bool Zp)) (λi=>[.sl 1 (bK s.keys),.sl 1 (bF s.boxes),.bool Zu,.sl 1 (bF (partsOf b)),iv i]) (partsOf b).length (λi => !bZ s ((partsOf b).getD i [])) ?_ ?_ ?_ rfl) ?_
 .intro i hi hq;have jz:i<(bF (partsOf b)).length:=by rw[cG];exact hi
  show aE (Zy ((i:Int)<((bF (partsOf b)).length:Int))) (oX i (bF (partsOf b)) (Zb ((bF (partsOf b)).getD (Zw i) .undef) _)) _=_;rw[af (lL jz),gh jz,Zx,gF hi];show O2 (bK s.keys) (bF s.boxes) ((partsOf b).getD i []) _=_;rw[LI hs (zI hb (lv [] hi)),ah hq,ql (by omega)]
 .intro i hi hq;have jz:i<(bF (partsOf b)).length:=by rw[cG];exact hi
  refine⟨(.ret,[.sl 1 (bK s.keys),.sl 1 (bF s.boxes),.bool Zu,.sl 1 (bF (partsOf b)),iv i]),?_,rfl⟩;show aE (Zy ((i:Int)<((bF (partsOf b)).length:Int))) (oX i (bF (partsOf b)) (Zb ((bF (partsOf b)).getD (Zw i) .undef) _)) _=_;rw[af (lL jz),gh jz,Zx,gF hi];show O2 (bK s.keys) (bF s.boxes) ((partsOf b).getD i []) _=_;rw[LI hs (zI hb (lv [] hi)),af hq]
 .refine⟨(.exit 0,[.sl 1 (bK s.keys),.sl 1 (bF s.boxes),.bool Zu,.sl 1 (bF (partsOf b)),iv (partsOf b).length]),?_,rfl⟩;show aE (Zy (((partsOf b).length:Int)<((bF (partsOf b)).length:Int))) _ _=_;rw[ah (Tp _)]
 .unfold vn;rw[g8 (partsOf b) [] (λx => !bZ s x),xr];cases (partsOf b).any λx => !bZ s x<;>rfl
noncomputable def YP(y:List AV)(b:List UInt8)(l:List AV):St:=aq l λc r=>ag AI r λi r=>ak r
 (aE (Zy (i<(y.length:Int))) (oX i y (Zb (y.getD (Zw i) .undef) λq=>aE (q==b) (Zv (.inr (.ret,[.bool Zp,iv i]))) (Zv (.inl [.bool c,up i]))))
  (Zv (.inr (.exit 0,[.bool c,iv i]))))
noncomputable def Pk(y:List AV)(b:List UInt8):Option (List AV):=Zz (bD (YP y b) [.bool Zu,iv 0]) λr=>aq r.2 λc r1=>ag AI r1 λ_ r2=>ak r2 (jl r.1 (Zv [.bool c]) λj=>aE (Zn j 0) (Zv [.bool Zu]) Xz)
theorem Pl{B:List Bytes}(b:Bytes)(h:B.length<=100000000):Pk (bF B) b=Zv [.bool (B.contains b)]:=by
 have e:Pk (bF B) b=Zv (bif (Zk (bF B).length).any (λi=>B.getD i []==b) then[Zq Zp] else[Zq Zu]):=by
  refine jn (λi=>[.bool Zu,iv i]) _ _ ?_ ?_ ?_ rfl
  .intro i hi hp;have jy:i<B.length:=by rw[<-cG];exact hi
   show aE (Zy ((i:Int)<((bF B).length:Int))) (oX i (bF B) (Zb ((bF B).getD (Zw i) .undef) _)) _=_;rw[af (lL hi),gh hi,Zx,gF jy];show aE (B.getD i []==b) _ _=_;rw[ah hp,ql (by omega)]
  .intro i hi hp;have jy:i<B.length:=by rw[<-cG];exact hi
   refine⟨(.ret,[.bool Zp,iv i]),?_,rfl⟩;show aE (Zy ((i:Int)<((bF B).length:Int))) (oX i (bF B) (Zb ((bF B).getD (Zw i) .undef) _)) _=_;rw[af (lL hi),gh hi,Zx,gF jy];show aE (B.getD i []==b) _ _=_;rw[af hp]
  .refine⟨(.exit 0,[.bool Zu,iv (bF B).length]),?_,rfl⟩;show aE (Zy (((bF B).length:Int)<((bF B).length:Int))) _ _=_;rw[ah FO]
 rw[e,cG,g8 B [] (λx=>x==b),lm];cases B.contains b<;>rfl
noncomputable def Z6(bl:List AV)(l:List AV):St:=ag AI l λn r=>ag AI r λi r=>bH 1 r λks r=>bH 1 r λbs r=>ak r
 (aE (Zy (i<(bl.length:Int))) (oX i bl (Zb (bl.getD (Zw i) .undef) λq=>Z7 (lZ ks bs&&Zy (q.length<=70368744170000)) ks bs q λk2 b3 b4 =>
   aE b4 (Zv (.inr (.ret,[iv i,iv i,.sl 1 k2,.sl 1 b3]))) (Zv (.inl [iv n,up i,.sl 1 k2,.sl 1 b3]))))
  (Zv (.inr (.exit 0,[iv n,iv i,.sl 1 ks,.sl 1 bs]))))
noncomputable def Qq(ks bs:List AV)(b:List UInt8):Option (AV×aO):=Ml b λl=>Zz (bD (Z6 l) [iv 0,iv 0,.sl 1 ks,.sl 1 bs]) λr=>ag AI r.2 λn r1=>ag AI r1 λ_ r1=>bH 1 r1 λ_ r1=>bH 1 r1 λ_ r1=>ak r1
 (jl r.1 (Zv (rb (.bool (!Zy (n>=0))))) λj=>aE (Zn j 0) (Zv (rb (.bool Zp))) Xz)
theorem Mf{J:Type}{s:Kn}{L:List Bytes}(hl:L.length<=100000000){step:List AV->St}(uF:∀ i,i<L.length->step [iv 0,iv i,.sl 1 (bK s.keys),.sl 1 (bF s.boxes)]=aE (!bZ s (L.getD i [])) (Zv (.inr (.ret,[iv i,iv i,.sl 1 (bK s.keys),.sl 1 (bF s.boxes)]))) (Zv (.inl [iv 0,up i,.sl 1 (bK s.keys),.sl 1 (bF s.boxes)])))
  (S_:step [iv 0,iv L.length,.sl 1 (bK s.keys),.sl 1 (bF s.boxes)]=Zv (.inr (.exit 0,[iv 0,iv L.length,.sl 1 (bK s.keys),.sl 1 (bF s.boxes)])))
  {k:Ex×List AV->Option J} {A B:J} (hA:∀ i:Nat,k (.ret,[iv i,iv i,.sl 1 (bK s.keys),.sl 1 (bF s.boxes)])=Zv A) (hB:k (.exit 0,[iv 0,iv L.length,.sl 1 (bK s.keys),.sl 1 (bF s.boxes)])=Zv B) :
  Zz (bD step [iv 0,iv 0,.sl 1 (bK s.keys),.sl 1 (bF s.boxes)]) k=Zv (bif L.all (bZ s) then B else A):=by
 refine Qb3 (jn (A:=A) (B:=B) (λi=>[iv 0,iv i,.sl 1 (bK s.keys),.sl 1 (bF s.boxes)]) L.length (λi => !bZ s (L.getD i [])) ?_ ?_ ⟨_,S_,hB⟩ rfl) ?_
 .intro i hi hq;rw[uF i hi,ah hq,ql (by omega)]
 .intro i hi hq;exact⟨_,by rw[uF i hi,af hq],hA i⟩
 .rw[g8 L [] (λx => !bZ s x),xr];cases L.any λx => !bZ s x<;>rfl
theorem Qr{s:Kn}(hs:eA s){b:Bytes}(hb:b.length<=70368744160000):Qq (bK s.keys) (bF s.boxes) b=Zv (rb (.bool (vn s b))):=by
 have hp:=(kZ b).2;unfold Qq Ml;rw[ae (by simp;omega)];show Zz (bD (Z6 (bF (partsOf b))) [iv 0,iv 0,.sl 1 (bK s.keys),.sl 1 (bF s.boxes)]) _=_;refine Qb3 (Mf (A:=rb (.bool Zu)) (B:=rb (.bool Zp)) (L:=partsOf b) (by omega) (λi hi=> ?_) ?_ (λi=> ?_) rfl) ?_
 .have jz:i<(bF (partsOf b)).length:=by rw[cG];exact hi
  show aE (Zy ((i:Int)<((bF (partsOf b)).length:Int))) (oX i (bF (partsOf b)) (Zb ((bF (partsOf b)).getD (Zw i) .undef) _)) _=_;rw[af (lL jz),gh jz,Zx,gF hi,qN,wb.2 hs,Qa (by have:=zI hb (lv [] hi);simp;simpa using this)]
 .show aE (Zy (((partsOf b).length:Int)<((bF (partsOf b)).length:Int))) _ _=_;rw[ah (Tp _)]
 .show Zv (rb (.bool (!Zy ((i:Int)>=0))))=_;rw[show Zy ((i:Int)>=0)=Zp by simp];rfl
 .unfold vn;cases (partsOf b).all (bZ s)<;>rfl
theorem D7(b:Bytes):oF b=((aU b).err==0&&(aU b).n==(b.length:Int)):=rfl
theorem PO(b:Bytes):ij ⟨(aU b).box.kind,(aU b).box.key,(aU b).box.body⟩=br b:=rfl
theorem V9(mn:Nat)(bl ks bs:List AV)(n i:Int):mkS mn bl [iv n,iv i,.sl 1 ks,.sl 1 bs]=aE (Zy (i<(bl.length:Int))) (oX i bl (Zb (bl.getD (Zw i) .undef) λq=>Z7 (lZ ks bs&&Zy (q.length<=70368744170000)&&Zy ((q.length:Int)<(mn:Int))) ks bs q λk2 b3 b4 =>
   aE b4 (Zv (.inr (.ret,[iv i,iv i,.sl 1 k2,.sl 1 b3]))) (Zv (.inl [iv n,up i,.sl 1 k2,.sl 1 b3]))))
  (Zv (.inr (.exit 0,[iv n,iv i,.sl 1 ks,.sl 1 bs]))):=rfl
theorem P'{s:Kn}(hs:eA s){b:Bytes}(hb:b.length<=70368744170000){mn:Nat}(hd:b.length<=mn):P_ mn (bK s.keys) (bF s.boxes) b=Zv (.bool (!bZ s b),Nk (bK s.keys) (bF s.boxes)):=by
 have n1:=hs.z_;have n2:=hs.sA;have tg:=uG b;unfold P_;rw[Nl _ (by omega)];show aE (!!s.boxes.contains b) _ _=_;rw[vS,Bool.not_not];cases hc:s.boxes.contains b with
 | true=>rfl
 | false =>
  rw[aF,ae (by simp;omega),Bool.false_or];show aE (!oF b) _ _=_;cases hbx:oF b with
  | false=>rfl
  | true =>
   have he:(aU b).err=0:=by rw[D7] at hbx;simp at hbx;exact hbx.1
   have hl:=wZ he;rw[Zm,aF,ae (by simp;omega),Ym];show aE (!((aU b).err==0)) _ (lM (wJ (bK s.keys) (aU b).box.key) _)=_;rw[he,ah (by rfl),zw _ (by omega)];show aE (!s.keys.contains (aU b).box.key) _ _=_;cases hk:s.keys.contains (aU b).box.key with
   | false=>rfl
   | true =>
    rw[Zm,aF,ae (by have:=E7 hb;simp;omega),Ym];show lM (SW (bK s.keys) (bK (br b).keys)) _=_;rw[SX _ (by omega) (by have:=tg.keys;omega)];show aE ((br b).keys.any λk => !s.keys.contains k) _ (Zz (bD (mkS mn (bF (br b).boxes)) [iv 0,iv 0,.sl 1 (bK s.keys),.sl 1 (bF s.boxes)]) _)=_;rw[xr (br b).keys];cases (br b).keys.any λk => !s.keys.contains k with
    | true=>rfl
    | false =>
     rw[aF,Zd,Ym];refine Qb3 (Mf (A:=(Zq Zp,Nk (bK s.keys) (bF s.boxes))) (B:=(Zq Zu,Nk (bK s.keys) (bF s.boxes))) (L:=(br b).boxes) (by have:=tg.boxes;omega) (λi hi=> ?_) ?_ (λi=> ?_) rfl) ?_
     .have jz:i<(bF (br b).boxes).length:=by rw[cG];exact hi
      have hq:=tg.len _ (lv [] hi);rw[V9,af (lL jz),gh jz,Zx,gF hi,qN,wb.2 hs,Qa (by rw[Qa4 (show((br b).boxes.getD i []).length<=70368744170000 by omega),Qa4 (show((((br b).boxes.getD i []).length:Nat):Int)<(mn:Int) by omega)];rfl)]
     .show aE (Zy (((br b).boxes.length:Int)<((bF (br b).boxes).length:Int))) _ _=_;rw[ah (Tp _)]
     .show Zv (Zq (Zy ((i:Int)>=0)),Nk (bK s.keys) (bF s.boxes))=_;rw[show Zy ((i:Int)>=0)=Zp by simp]
     .cases (br b).boxes.all (bZ s)<;>rfl
noncomputable def ckS(st:List AV):St:=bH 1 st λks r=>bH 1 r λbs r=>aq r λc r=>bH 1 r λkl r=>bH 1 r λbl r=>ag AI r λn r=>ak r
 (aE (Zy (n<(kl.length:Int))) (oX n kl (Yf AT (kl.getD (Zw n) .undef) λk=>Hy ks k λh=>aE (!h) (Zv (.inr (.ret,[.sl 1 ks,.sl 1 bs,.bool Zu,.sl 1 kl,.sl 1 bl,iv n]))) (Zv (.inl [.sl 1 ks,.sl 1 bs,.bool c,.sl 1 kl,.sl 1 bl,up n]))))
  (Zv (.inr (.exit 0,[.sl 1 ks,.sl 1 bs,.bool c,.sl 1 kl,.sl 1 bl,iv n]))))
noncomputable def cdC{O:Type}(mn:Nat)(ks bs:List AV)(t:List UInt8)(f:Bool->Option O):Option O:=Zz (aB (lZ ks bs&&Zy (t.length<=70368744170000)&&Zy ((t.length:Int)<(mn:Int))) (Zv (rb (.bool (bZ (kn ks bs) t))))) λr=>aD r.2 (AV.dd r.1 f)
theorem O3{O:Type}{s:Kn}(hs:eA s){t:Bytes}(h:t.length<=70368744170000){mn:Nat}(hd:t.length<mn)(f:Bool->Option O):cdC mn (bK s.keys) (bF s.boxes) t f=f (bZ s t):=by
 unfold cdC;rw[kW,wb.2 hs,ae (by simp;omega)];rfl
noncomputable def cbS(mn:Nat)(st:List AV):St:=bH 1 st λks r=>bH 1 r λbs r=>aq r λc r=>bH 1 r λbl r=>ag AI r λn r=>ak r
 (aE (Zy (n<(bl.length:Int))) (oX n bl (Zb (bl.getD (Zw n) .undef) λt=>cdC mn ks bs t λh=>aE (!h) (Zv (.inr (.ret,[.sl 1 ks,.sl 1 bs,.bool Zu,.sl 1 bl,iv n]))) (Zv (.inl [.sl 1 ks,.sl 1 bs,.bool c,.sl 1 bl,up n]))))
  (Zv (.inr (.exit 2,[.sl 1 ks,.sl 1 bs,.bool c,.sl 1 bl,iv n]))))
noncomputable def WA(mn:Nat)(ks bs:List AV)(b:List UInt8):Option (AV×aO):=lM (Pk bs b) λb1=>aE b1 (Zv (rb (.bool Zp))) (IC b λkd ky bd n er=>aE (!(er==0)) (Zv (rb (.bool Zu))) (aE (!(n==(b.length:Int))) (Zv (rb (.bool Zu))) (Hy ks ky λh=>aE (!h) (Zv (rb (.bool Zu))) (Ti kd ky bd λkl bl =>
 Zz (bD ckS [.sl 1 ks,.sl 1 bs,.bool Zu,.sl 1 kl,.sl 1 bl,iv 0]) λr=>bH 1 r.2 λks r1=>bH 1 r1 λbs r1=>aq r1 λc r1=>bH 1 r1 λ_ r1=>bH 1 r1 λbl r1=>ag AI r1 λ_ r1=>ak r1 (jl r.1 (Zv (rb (.bool c))) λj=>aE (Zn j 0)
  (Zz (bD (cbS mn) [.sl 1 ks,.sl 1 bs,.bool c,.sl 1 bl,iv 0]) λr=>bH 1 r.2 λ_ r1=>bH 1 r1 λ_ r1=>aq r1 λc r1=>bH 1 r1 λ_ r1=>ag AI r1 λ_ r1=>ak r1 (jl r.1 (Zv (rb (.bool c))) λj=>aE (Zn j 2) (Zv (rb (.bool Zp))) Xz)) Xz)))))
theorem TB{s:Kn}(hs:eA s){b:Bytes}(hb:b.length<=70368744170000){mn:Nat}(hd:b.length<=mn):WA mn (bK s.keys) (bF s.boxes) b=Zv (rb (.bool (bZ s b))):=by
 have n1:=hs.z_;have n2:=hs.sA;have tg:=uG b;unfold WA;rw[Pl _ (by omega)];show aE (s.boxes.contains b) _ _=_;rw[vS,D7];cases hc:s.boxes.contains b with
 | true=>rfl
 | false =>
  rw[aF,ID (by omega),Bool.false_or];by_cases he:(aU b).err=0;case neg =>
   have h0:((aU b).err==0)=Zu:=by simpa using he
   rw[h0];rfl
  have hl:=wZ he;rw[he,ah (by rfl)];cases hn:(aU b).n==(b.length:Int) with
  | false=>rfl
  | true =>
   rw[Zm,aF,xY _ (by omega),show((0:Int)==0&&Zp)=Zp from rfl,Ym];cases hk:s.keys.contains (aU b).box.key with
   | false=>rfl
   | true =>
    rw[Zm,aF,L8 (E7 hb),Ym,PO];refine Qb3 (jn (A:=rb (.bool Zu)) (B:=rb (.bool ((br b).boxes.all λb=>bZ s b))) (λi=>[.sl 1 (bK s.keys),.sl 1 (bF s.boxes),.bool Zu,.sl 1 (bK (br b).keys),.sl 1 (bF (br b).boxes),iv i]) (br b).keys.length (λi => !s.keys.contains ((br b).keys.getD i 0)) ?_ ?_ ?_ rfl) ?_
    .intro i hi hq;have jz:i<(bK (br b).keys).length:=by rw[cU];exact hi
     have hn1:=tg.keys;show aE (Zy ((i:Int)<((bK (br b).keys).length:Int))) (oX i (bK (br b).keys) (Yf AT ((bK (br b).keys).getD (Zw i) .undef) _)) _=_;rw[af (lL jz),gh jz,Zx,jL hi,rT,xY _ (by omega),ah hq,ql (by omega)]
    .intro i hi hq;have jz:i<(bK (br b).keys).length:=by rw[cU];exact hi
     refine⟨(.ret,[.sl 1 (bK s.keys),.sl 1 (bF s.boxes),.bool Zu,.sl 1 (bK (br b).keys),.sl 1 (bF (br b).boxes),iv i]),?_,rfl⟩;show aE (Zy ((i:Int)<((bK (br b).keys).length:Int))) (oX i (bK (br b).keys) (Yf AT ((bK (br b).keys).getD (Zw i) .undef) _)) _=_;rw[af (lL jz),gh jz,Zx,jL hi,rT,xY _ (by omega),af hq]
    .refine⟨(.exit 0,[.sl 1 (bK s.keys),.sl 1 (bF s.boxes),.bool Zu,.sl 1 (bK (br b).keys),.sl 1 (bF (br b).boxes),iv (br b).keys.length]),?_,?_⟩
     .show aE (Zy (((br b).keys.length:Int)<((bK (br b).keys).length:Int))) _ _=_;rw[ah (V_ _)]
     show Zz (bD (cbS mn) [.sl 1 (bK s.keys),.sl 1 (bF s.boxes),.bool Zu,.sl 1 (bF (br b).boxes),iv 0]) _=_;refine Qb3 (jn (A:=rb (.bool Zu)) (B:=rb (.bool Zp)) (λi=>[.sl 1 (bK s.keys),.sl 1 (bF s.boxes),.bool Zu,.sl 1 (bF (br b).boxes),iv i]) (br b).boxes.length (λi => !bZ s ((br b).boxes.getD i [])) ?_ ?_ ?_ rfl) ?_
     .intro i hi hq;have jz:i<(bF (br b).boxes).length:=by rw[cG];exact hi
      have nQ:=tg.len _ (lv [] hi);have hn1:=tg.boxes;show aE (Zy ((i:Int)<((bF (br b).boxes).length:Int))) (oX i (bF (br b).boxes) (Zb ((bF (br b).boxes).getD (Zw i) .undef) _)) _=_;rw[af (lL jz),gh jz,Zx,gF hi,qN,O3 hs (by omega) (by omega),ah hq,ql (by omega)]
     .intro i hi hq;have jz:i<(bF (br b).boxes).length:=by rw[cG];exact hi
      have nQ:=tg.len _ (lv [] hi);refine⟨(.ret,[.sl 1 (bK s.keys),.sl 1 (bF s.boxes),.bool Zu,.sl 1 (bF (br b).boxes),iv i]),?_,rfl⟩;show aE (Zy ((i:Int)<((bF (br b).boxes).length:Int))) (oX i (bF (br b).boxes) (Zb ((bF (br b).boxes).getD (Zw i) .undef) _)) _=_;rw[af (lL jz),gh jz,Zx,gF hi,qN,O3 hs (by omega) (by omega),af hq]
     .refine⟨(.exit 2,[.sl 1 (bK s.keys),.sl 1 (bF s.boxes),.bool Zu,.sl 1 (bF (br b).boxes),iv (br b).boxes.length]),?_,rfl⟩;show aE (Zy (((br b).boxes.length:Int)<((bF (br b).boxes).length:Int))) _ _=_;rw[ah (Tp _)]
     .rw[g8 (br b).boxes [] (λx => !bZ s x),xr];cases (br b).boxes.any λx => !bZ s x<;>rfl
    .rw[g8 (br b).keys 0 (λx => !s.keys.contains x),xr (br b).keys];cases (br b).keys.any λx => !s.keys.contains x<;>rfl
end Kerb
/- Chapter 27: the statements' messages. -/
namespace Kerb
open Go Go.Abs
abbrev w5(n:UInt8)(m:Int):Int:=Int.tmod (Zg AI (n.toNat:Int)) m
theorem Mo(n:UInt8){m:Int}(h:0<m):0<=w5 n m/\w5 n m<m:=by
 unfold w5;have:n.toNat<256:=n.toNat_lt;rw[wrap_i64 (by omega) (by omega),Int.tmod_eq_emod_of_nonneg (by omega)];exact⟨Int.emod_nonneg _ (by omega),Int.emod_lt_of_pos _ h⟩
def jE(n:UInt8):Int:=bif Zy (((UInt8.ofNat (Zw (Int.tmod (n.toNat:Int) ((6:UInt8).toNat:Int)))).toNat:Int)<((2:UInt8).toNat:Int)) then tL (w5 n 6) else ax (w5 n 6)
def la(n:UInt8):Int:=bif Zy (((UInt8.ofNat (Zw (Int.tmod (n.toNat:Int) ((6:UInt8).toNat:Int)))).toNat:Int)<((2:UInt8).toNat:Int)) then ax (Zg AI (2+w5 n 4)) else ax (Zg AI (2+w5 n 4))
theorem IJ(n:UInt8):la n=ax (Zg AI (2+w5 n 4)):=by grind [la]
def lI(x:UInt8):nJ:=⟨user (next [x] 0 9),0,0,0⟩
def Yt(n:UInt8):UInt8:=UInt8.ofNat (Zw (Zg .u8 (Int.tdiv (n.toNat:Int) ((8:UInt8).toNat:Int))))
def o7(gV de:UInt8):Bytes:=(gS { aG [gV,de] with ax:=la de } (jE (Yt de))).val
theorem p9(n:UInt8):0<=jE n/\jE n<18446744073709551616:=by
 unfold jE;cases Zy (((UInt8.ofNat (Zw (Int.tmod (n.toNat:Int) ((6:UInt8).toNat:Int)))).toNat:Int)<((2:UInt8).toNat:Int))
 .exact An _
 .exact To _
theorem rZ(n:UInt8):0<=la n/\la n<18446744073709551616:=by rw[IJ];exact An _
structure oC where
 kd:UInt8
 bx:UInt8
 se:UInt8
 gV:UInt8
 de:UInt8
 li:Bool
 hw:Int
def qX(bx:UInt8):Int:=Zg AI (1+w5 bx 10)
def s6(n m:UInt8):UInt8:=UInt8.ofNat (Zw (Int.tmod (n.toNat:Int) (m.toNat:Int)))
def wx(t:oC):Bytes :=
 let s:=service (Zg AI (t.bx.toNat:Int))
 if qX t.bx=1 then(bC { aG [t.gV] with ax:=la t.gV }).val
 else if qX t.bx=2 then(je (lI t.gV) t.li).val
 else if qX t.bx=3 then(bp ⟨la t.gV,s,0,0,o7 t.gV t.de,0⟩ t.li).val
 else if qX t.bx=4 then(fN ⟨5,0,0⟩ t.li).val
 else if qX t.bx=5\/qX t.bx=6 then(eB ⟨[],0,0,7⟩ t.li).val
 else if qX t.bx=7 then(bif s6 t.de 2==1 then(aR ⟨vM,4,0,0,0⟩).val else(aR ⟨fO,0,0,0,jE t.gV⟩).val)
 else if qX t.bx=8 then(bif s6 t.de 8==1 then(aZ ⟨lH,0,0,0,0,0,⟨[],[],[]⟩,[]⟩).val else(aZ ⟨zu,0,la t.gV,0,0,0,s,o7 t.gV t.de⟩).val)
 else if qX t.bx=9 then(dL ⟨user (Zg AI (t.bx.toNat:Int)),s,la t.gV,0,0,0⟩).val
 else(dh ⟨la t.gV,s,0,0,o7 t.gV t.de⟩).val
theorem Qg(x:UInt8):dS [x] 0 9=1:=rfl
theorem Qh(x:UInt8)(n:Int):dS [x] 1 n=1:=rfl
theorem Z8(x:UInt8)(n:Int):next [x] 1 n=0:=rfl
def tV(t:oC):Bytes:=(g_ (qX t.bx) (jE t.se) (bif Int.tmod t.hw 16==15 then tD (wx t) (Zg .u16 (Int.tdiv t.hw 16)) else wx t)).val
theorem Ho(r:A4):(dL r).val.length<=400:=by
 by_cases h:(dL r).err=0
 .obtain⟨h1,h2,_,_,_,_,z,hz,hl⟩:=zY h;have l1:=cV h1;have l2:=cV h2;rw[hz];simp[ai,aj];omega
 .unfold dL at h ⊢;repeat' split
  all_goals first | simp | skip
  all_goals exfalso;simp_all
theorem Fm(r:ta):(dh r).val.length<=600:=by
 by_cases h:(dh r).err=0
 .obtain⟨_,h2,_,_,_,z,hz,hl⟩:=xL h;have l2:=cV h2;rw[hz];simp[ai,aj];omega
 .unfold dh at h ⊢;repeat' split
  all_goals first | simp | skip
  all_goals exfalso;simp_all
theorem Hn(r:A3):(dE r).val.length<=2000:=by
 by_cases h:(dE r).err=0
 .obtain⟨_,h2,h3,hz⟩:=zX h;have l2:=cV h2;have hh:(header 10 Zu).length=2:=rfl;rw[hz];simp only[Yu,List.length_cons,List.length_nil,ai,hh];omega
 .unfold dE at h ⊢;repeat' split
  all_goals first | simp | skip
  all_goals exfalso;simp_all
theorem qI{c:Prop}[Decidable c]{a b:Bytes}(h1:a.length<=1000)(h2:b.length<=1000):(if c then a else b).length<=1000:=by
 split
 .exact h1
 .exact h2
theorem Ha{c:Bool}{a b:Bytes}(h1:a.length<=1000)(h2:b.length<=1000):(bif c then a else b).length<=1000:=by
 cases c
 .exact h2
 .exact h1
theorem qY{n m:Nat}(h:n<=m)(hm:m<=1000):n<=1000:=Zj h hm
theorem J3(t:oC):(wx t).length<=1000 :=
 qI (qY (Dm _) (by decide)) <| qI (qY Bh (by decide)) <| qI (qY (Bi _ _) (by decide)) <| qI (qY (zi _ _) (by decide)) <| qI (um _ _) <|
  qI (Ha (qY (xK _) (by decide)) (qY (xK _) (by decide))) <| qI (Ha (qY (xJ _) (by decide)) (qY (xJ _) (by decide))) <| qI (qY (Ho _) (by decide)) (qY (Fm _) (by decide))
theorem DQ(t:oC):(tV t).length<=1012:=BZ _ _ _
theorem xF{n m:Int}(h0:0<=n)(h1:n<=65535)(hm:0<m):0<=Zg .u16 (Int.tdiv n m)/\Zg .u16 (Int.tdiv n m)<=65535:=by
 rw[Int.tdiv_eq_ediv_of_nonneg h0,wrap_u16];omega
def qG(t:oC):Bytes :=
 let u:=user (Zg AI (t.kd.toNat:Int))
 let k:=s6 t.kd 10
 if k=0 then(bg ⟨t.li,u,0,0,0,tV t⟩).val
 else if k=1 then(bh ⟨t.li,Zu,0,[82],o7 t.gV t.de,tV t⟩).val
 else if k=2 then(cZ ⟨⟨t.li,Zu,0,[82],o7 t.gV t.de,o7 t.gV t.de⟩,0,0,[115],[]⟩).val
 else if k=3 then(cj (tV t) t.li).val
 else if k=4 then(aP ⟨2,⟨[],[],[]⟩,0,[82],o7 t.gV t.de,[115],[],tV t⟩).val
 else if k=5 then(bw ⟨1,0,tV t⟩).val
 else if k=6 then(dE ⟨Zg AI (1+Int.tmod (Zg AI (Int.tdiv (Zg AI (t.kd.toNat:Int)) 10)) 3),u,tV t⟩).val
 else if k=7 then(rQ ⟨[],0,0,Zg AI (t.de.toNat:Int)⟩ t.li (jE t.se)).val
 else if k=8 then(rP ⟨[],0,0,Zg AI (t.de.toNat:Int)⟩ t.li (jE t.se)).val
 else tV t
def nR(t:oC):Bytes:=bif Int.tmod t.hw 32==13 then tD (qG t) (Zg .u16 (Int.tdiv t.hw 32)) else qG t
theorem nb{c:Prop}[Decidable c]{a b:Bytes}(h1:a.length<=3000)(h2:b.length<=3000):(if c then a else b).length<=3000:=by
 split
 .exact h1
 .exact h2
theorem qZ{n m:Nat}(h:n<=m)(hm:m<=3000):n<=3000:=Zj h hm
theorem FR(p:rp)(li:Bool)(k:Int):(rQ p li k).val.length<=2100:=by
 have h:=s8 p li 6 k;have hh:(header 7 li).length<=2:=by cases li<;>decide
 unfold rQ;split
 .exact Yq _
 .simp only[Ch,Yu,ai];omega
theorem FQ(p:rp)(li:Bool)(k:Int):(rP p li k).val.length<=2100:=by
 have h:=s8 p li 5 k;have hh:(header 6 li).length<=2:=by cases li<;>decide
 unfold rP;split
 .exact Yq _
 .simp only[Ch,Yu,ai];omega
theorem z9(t:oC):(qG t).length<=3000 :=
 nb (qZ (Aw _) (by decide)) <| nb (qZ (OV _) (by decide)) <| nb (qZ (TQ _) (by decide)) <| nb (qZ (Dn _ _) (by decide)) <| nb (qZ (Fk _) (by decide)) <|
  nb (qZ (Fj _) (by decide)) <| nb (qZ (Hn _) (by decide)) <| nb (qZ (FR _ _ _) (by decide)) <| nb (qZ (FQ _ _ _) (by decide)) (qZ (DQ t) (by decide))
theorem zB(t:oC):(nR t).length<=6001:=by
 have h:=z9 t;unfold nR;cases Int.tmod t.hw 32==13
 .exact Zj h (by decide)
 .have:=Oo (qG t) (Zg .u16 (Int.tdiv t.hw 32));exact Zj this (by omega)
def ab0:Bytes:=(bh ⟨Zu,Zu,0,[82],(gS ⟨Zu,⟨(aG []).BY.name,(aG []).BY.inst,(aG []).BY.aK⟩,(aG []).address,(aG []).ax,(aG []).bS,(aG []).cL,(aG []).service,(aG []).inst⟩ (tL 1)).val,[]⟩).val
def XX:Kn:=leak (kn [] []) (tL 1)
def OZ:Kn:=learn (kn (bK XX.keys) (bF XX.boxes)) ab0
theorem SK:OZ.keys.length<=100000000:=by decide +kernel
theorem SJ:OZ.keys.contains (ax 0)=Zp:=by decide +kernel
noncomputable def UF:Option (AV×aO):=lM (FH (bK OZ.keys) (ax 0)) λb=>aE b (Zv (.bool Zp,[])) (Zv (.bool Zu,[]))
theorem SI:UF=some (.bool Zp,[]):=by
 unfold UF;rw[zt _ SK,SJ];rfl
end Kerb
namespace Kerb
open Go Go.Abs
end Kerb
/- Chapter 27: sequences of messages and leaked keys. -/
namespace Kerb
open Go Go.Abs
def qH:AV->Bool
 | .agg [.u8 _,.u8 _,.u8 _,.u8 _,.u8 _,.bool _,.int .u16 hw]=>Zy (0<=hw)&&Zy (hw<=65535)
 | _=>Zu
def Tq:oC:=⟨0,0,0,0,0,false,0⟩
def vG:AV->oC
 | .agg [.u8 kd,.u8 bx,.u8 se,.u8 gV,.u8 de,.bool li,.int .u16 hw]=>⟨kd,bx,se,gV,de,li,hw⟩
 | _=>Tq
end Kerb
/- Chapter 27: the statements about sequences of messages, in plain words. -/
namespace Kerb
open Go Go.Abs
theorem DR(s:Kn):mi (close s)<=mi s :=
 (zd (P:=λt=>mi t<=mi s) (λt b h gb go=>Zj (Nat.le_of_lt (oM gb go)) h) s (Yj _)).1
theorem Np(s:Kn)(b:Bytes):mi (learn s b)<=mi s+2*b.length+2026:=by
 have h1:=DR (s.add ⟨[],partsOf b⟩);have hp:=kZ b;have h2:=E1 s ⟨[],partsOf b⟩ (m:=b.length+1012) hp.1;have h3:(partsOf b).length*(b.length+1012+1)<=2*(b.length+1012+1):=Nat.mul_le_mul_right _ hp.2;unfold learn;simp only[List.length_nil] at h2;omega
theorem P2(s:Kn)(k:Int):mi (leak s k)<=mi s+1:=by
 have h1:=DR (s.add ⟨ec [k],[]⟩);have hp:=oQ k;have h2:=E1 s ⟨ec [k],[]⟩ (m:=0) (by simp);unfold leak;simp only[List.length_nil] at h2;omega
structure Fit (s:Kn) (n:Nat):Prop where
 MV:eA s
 mi:mi s<=n
theorem U3:Fit Z_ 0:=⟨⟨rfl,λb h=>(nomatch h),by decide⟩,by decide⟩
theorem Fit.learn{s:Kn}{n:Nat}(h:Fit s n){b:Bytes}(hb:b.length<=6001)(hn:n<=900000):Fit (learn s b) (n+14028):=by
 have h1:=Np s b;have h2:=h.mi;exact⟨(h.MV.parts (by omega)).close,by omega⟩
theorem Fit.leak{s:Kn}{n:Nat}(h:Fit s n){k:Int}(hn:n<=900000):Fit (leak s k) (n+1):=by
 have h1:=P2 s k;have h2:=h.mi;exact⟨(h.MV.KA (by omega)).close,by omega⟩
theorem turned{p:Nat->Prop}{N:Nat}(n:Nat):(∃ i,i<N/\p ((i+n) % N))↔∃ i,i<N/\p i:=by
 constructor
 .rintro⟨i,hi,hp⟩;exact⟨(i+n) % N,Nat.mod_lt _ (by omega),hp⟩
 .rintro⟨i,hi,hp⟩;refine⟨(i+(N-n % N)) % N,Nat.mod_lt _ (by omega),?_⟩;have fY:n % N<N:=Nat.mod_lt _ (by omega);have:((i+(N-n % N)) % N+n) % N=i:=by
   rw[Nat.add_mod,Nat.mod_mod,<-Nat.add_mod];have e:i+(N-n % N)+n=i+N*(n / N+1):=by
    have:=Nat.div_add_mod n N;rw[Nat.mul_add,Nat.mul_one];omega
   rw[e,Nat.add_mul_mod_self_left,Nat.mod_eq_of_lt hi]
  rw[this];exact hp
def oC.av(t:oC):AV := .agg [.u8 t.kd,.u8 t.bx,.u8 t.se,.u8 t.gV,.u8 t.de,.bool t.li,.int .u16 t.hw]
theorem Qj{a:AV}(h:qH a=Zp):∃ t:oC,a=t.av/\0<=t.hw/\t.hw<=65535/\vG a=t:=by
 unfold qH at h;split at h
 .rename_i kd bx se gV de li hw;simp only[Zh,Qa2] at h;exact⟨⟨kd,bx,se,gV,de,li,hw⟩,rfl,h.1,h.2,rfl⟩
 .cases h
theorem Sf{ls:List AV}(h:ls.all qH=Zp){i:Nat}(hi:i<ls.length):∃ t:oC,ls.getD i .undef=t.av/\0<=t.hw/\t.hw<=65535/\vG (ls.getD i .undef)=t:=by
 have e:ls.getD i .undef=ls[i]:=by simp only[Zf,Yv hi,Option.getD_some]
 rw[e];exact Qj (Yx.1 h _ (List.getElem_mem hi))
theorem Ot(t:oC):oC.mk t.kd t.bx t.se t.gV t.de t.li t.hw=t:=rfl
theorem Fit.kn{s:Kn}{n:Nat}(h:Fit s n):lZ (bK s.keys) (bF s.boxes)=Zp:=wb.2 h.MV
theorem Fit.pre{s:Kn}{n:Nat}(h:Fit s n)(hn:n<=900000){b:Bytes}(hb:b.length<=6001):Zy (Kerb.mi s+2*b.length+2100<=1000000)=Zp:=by
 exact Qa4 (by have:=h.mi;omega)
theorem Fit.Qp{s:Kn}{n:Nat}(h:Fit s n)(hn:n<=900000):Zy (Kerb.mi s+1<=1000000)=Zp:=by
 exact Qa4 (by have:=h.mi;omega)
theorem Fit.kl{s:Kn}{n:Nat}(h:Fit s n)(hn:n<=900000):s.keys.length<=900000:=by have:=h.mi;unfold Kerb.mi at this;omega
theorem Fit.bl{s:Kn}{n:Nat}(h:Fit s n)(hn:n<=900000):s.boxes.length<=900000:=by have:=h.mi;unfold Kerb.mi at this;omega
theorem Tl{b:Bytes}(h:b.length<=6001):Zy (b.length<=70368744160000)=Zp:=Qa4 (by omega)
theorem HX{b:Bytes}(h:b.length<=6001):Zy (b.length<=70368744170000)=Zp:=Qa4 (by omega)
end Kerb
namespace Kerb
end Kerb
namespace Kerb
open Go Go.Abs
def MN(x:UInt8):UInt8:=UInt8.ofNat (Zw (Zg .u8 (Int.tdiv (x.toNat:Int) ((3:UInt8).toNat:Int))))
def Ea(lk:Bytes)(i:Nat):Bool:=Zy ((i:Int)<(lk.length:Int))&&(s6 (lk.getD i 0) 3==0)
def As(ls:List AV)(lk:Bytes)(s:Kn)(i:Nat):Kn :=
 bif Ea lk i then leak (learn s (nR (vG (ls.getD i .undef)))) (jE (MN (lk.getD i 0))) else learn s (nR (vG (ls.getD i .undef)))
def zN(ls:List AV)(lk:Bytes):Nat->Kn
 | 0=>Z_
 | i+1=>As ls lk (zN ls lk i) i
theorem yz(ls:List AV)(lk:Bytes):∀ i,i<=12->Fit (zN ls lk i) (i*14029)
 | 0,_=>U3
 | i+1,h=>by
  have h1:=(yz ls lk i (by omega)).learn (b:=nR (vG (ls.getD i .undef))) (zB _) (by omega);rw[show zN ls lk (i+1)=As ls lk (zN ls lk i) i from rfl];generalize zN ls lk i=s at h1 ⊢;unfold As;generalize nR (vG (ls.getD i .undef))=m at h1 ⊢;cases Ea lk i
  .rw[Qa7];exact⟨h1.MV,Zj h1.mi (by omega)⟩
  .rw[Qa6];have h2:=h1.leak (k:=jE (MN (lk.getD i 0))) (by omega);exact⟨h2.MV,Zj h2.mi (by omega)⟩
theorem Fit.lk{s:Kn}{n:Nat}(h:Fit s n)(hn:n<=900000):Zy ((bK s.keys).length<=1000000000)=Zp:=by rw[cU];exact Qa4 (by have:=h.kl hn;omega)
theorem Fit.lb{s:Kn}{n:Nat}(h:Fit s n)(hn:n<=900000):Zy ((bF s.boxes).length<=1000000000)=Zp:=by rw[cG];exact Qa4 (by have:=h.bl hn;omega)
end Kerb
/- Functions of the library that are taken as given: their contracts out of the kit's. -/
namespace Go.Abs
open Go.RowKit Go.Lib
theorem sN(c:UInt8):∀ l:List UInt8,Lib.indexByte l c=Yp c l
 | []=>rfl
 | b::l=>by
  have h1:=sN c l;have h2:=Lib.indexByte_ge l c;simp only[Lib.indexByte,Yp,h1];rw[h1] at h2;by_cases hb:(b==c)=Zp
  .simp[hb]
  .simp only[hb,if_false,Bool.false_eq_true];by_cases h3:Yp c l = -1
   .simp[h3]
   .rw[Qa0 (by simpa using h3),Qa0 (by omega)]
section
variable {P:Program} {G:pG} {f:Nat} {fn:Func}
theorem Kept.refl{M:Nat->Prop}{w:World}{p:bJ}(hn:JU w p):Kept M w p w p:=⟨rfl,rfl,rfl,Yj _,λ_ _ _=>rfl,λ_ _=>rfl,hn⟩
theorem xW (hf : P.funcs[f]? = Zv fn) (jP : (fn.name == "runtime.NumGoroutine") = Zu) (hb : fn.body.isNone = Zp) (hn : Extern.findNext fn = Xz) (he : Extern.find fn = Zv Extern.BytealgIndexByte.indexByte) {s : Spec} {rt : Nat} (tI : G.rts f = Zv [rt])
  (hs:∀ xs bl r,s xs bl=Zv r->∃ l c,xs=[.str l,.u8 c]/\bl=[]/\r=(.int AI (Yp c l),[])):kE P G f s:=by
 intro call xs bl r bs rts h1 h2 w p dX bk D3 hG fV ha wD;rw[tI] at h2;cases h2;obtain⟨l,c,rfl,rfl,hr⟩:=hs _ _ _ h1;cases hr;have tJ:dX.size=2:=fV;obtain⟨v0,v1,rfl⟩:∃ a b,dX = #[a,b]:=⟨dX[0],dX[1],by apply Array.ext<;>simp[tJ];intro i h1 h2;rcases i with _ | _ | i<;>first | rfl | omega⟩;have r0:=ha 0 v0 _ rfl rfl;have r1:=ha 1 v1 _ rfl rfl;have e0:∃ s:ByteArray,v0 = .string s/\s.data.toList=l:=by
  rcases r0 with(h | ⟨_,_,_,h,_⟩) | ⟨_,_,_,h,_⟩ | ⟨_,_,_,_,_,_,h,_⟩
  .cases h with | str h=>exact⟨_,rfl,h⟩
  .cases h
  .cases h
  .cases h
 have e1:v1=ku c:=by
  rcases r1 with(h | ⟨_,_,_,h,_⟩) | ⟨_,_,_,h,_⟩ | ⟨_,_,_,_,_,_,h,_⟩
  .cases h;rfl
  .cases h
  .cases h
  .cases h
 obtain⟨s,rfl,gZ⟩:=e0;subst e1;right;refine⟨.int AI (Yp c l),w,?_,p,Kept.refl D3,.inl (.inl (.int (by simp))),⟨rfl,λi j cs jM h=>by simp at h⟩⟩;rw[run_callFunc_extern hf jP hb hn he];have hr:=Lib.run_indexByteString (P:=P) s c.toNat w;rw[show(#[Value.string s,ku c]:Array Value) = #[.string s,.int .u8 c.toNat] from rfl,hr];simp[gZ,sN,Result.andThen]
theorem Hx (hf : P.funcs[f]? = Zv fn) (jP : (fn.name == "runtime.NumGoroutine") = Zu) (hb : fn.body.isNone = Zp) (hn : Extern.findNext fn = Xz) (he : Extern.find fn = Zv Extern.BytealgIndexByte.indexByte) {s : Spec} {rt : Nat} (tI : G.rts f = Zv [rt])
  (hs:∀ xs bl r,s xs bl=Zv r->∃ l c,xs=[.bs l,.u8 c]/\bl=[]/\r=(.int AI (Yp c l),[])):kE P G f s:=by
 intro call xs bl r bs rts h1 h2 w p dX bk D3 hG fV ha wD;rw[tI] at h2;cases h2;obtain⟨l,c,rfl,rfl,hr⟩:=hs _ _ _ h1;cases hr;have tJ:dX.size=2:=fV;obtain⟨v0,v1,rfl⟩:∃ a b,dX = #[a,b]:=⟨dX[0],dX[1],by apply Array.ext<;>simp[tJ];intro i h1 h2;rcases i with _ | _ | i<;>first | rfl | omega⟩;have r0:=ha 0 v0 _ rfl rfl;have r1:=ha 1 v1 _ rfl rfl;have e1:v1=ku c:=by
  rcases r1 with(h | ⟨_,_,_,h,_⟩) | ⟨_,_,_,h,_⟩ | ⟨_,_,_,_,_,_,h,_⟩
  .cases h;rfl
  .cases h
  .cases h
  .cases h
 subst e1;right;refine⟨.int AI (Yp c l),w,?_,p,Kept.refl D3,.inl (.inl (.int (by simp))),⟨rfl,λi j cs jM h=>by simp at h⟩⟩;rw[run_callFunc_extern hf jP hb hn he];have key:(Extern.BytealgIndexByte.indexByte #[v0,ku c]).run P w = .ok (.int AI (Yp c l)) w:=by
  rcases r0 with(h | ⟨_,_,_,h,_⟩) | ⟨_,_,_,h,_⟩ | ⟨_,_,_,_,_,_,h,_⟩
  .cases h with
   | bs J off hl nZ Bp hcell =>
    rename_i a len cap;have hb:(Extern.Bytes.bytesOf (.slice a len cap)).run P w = .ok ⟨l.toArray⟩ w:=by
     rcases Bp with h0 | rfl
     .have XE:l=[]:=Yz (by omega);subst XE;cases a with
      | none=>simp[Extern.Bytes.bytesOf];rfl
      | some a=>subst h0;simp[Extern.Bytes.bytesOf,Extern.Bytes.loadBytes];rfl
     .have hx:=Lib.run_loadBytesX (P:=P) w (l.map λb=>(b.toNat:Int)) ⟨J,off,Xz⟩ .empty (λj x hj=>by
       rw[List.getElem?_map] at hj;cases hb:l[j]? with
       | none=>rw[hb] at hj;cases hj
       | some b =>
        rw[hb] at hj;simp at hj;subst hj;rw[eR];exact(hcell j b hb).2)
      have GC:Lib.bytesOf (l.map λb=>(b.toNat:Int))=l:=by
       simp[Lib.bytesOf,Function.comp_def]
      simp only[List.length_map,hl,GC] at hx;simp only[Extern.Bytes.bytesOf];rw[hx];congr 1;apply ByteArray.ext;show(#[]:Array UInt8)++l.toArray=l.toArray;simp
    have hs:=Lib.run_indexByteString (P:=P) ⟨l.toArray⟩ c.toNat w;have e:(Extern.BytealgIndexByte.indexByte #[.slice a len cap,ku c]).run P w=(Extern.BytealgIndexByte.indexByte #[.string ⟨l.toArray⟩,.int .u8 c.toNat]).run P w:=by
     have hd:∀ (x y:Value),(Extern.BytealgIndexByte.indexByte #[x,y]).run P w=((Extern.Bytes.bytesOf x).run P w).andThen λb w'=>(Extern.BytealgIndexByte.indexByte #[.string b,y]).run P w':=by
      intro x y;show Sem.run P (Extern.Bytes.bytesOf x >>= _) w=_;rw[Sem.run_bind];rfl
     rw[hd,hb];rfl
    rw[e,hs];simp[sN]
  .cases h
  .cases h
  .cases h
 rw[key];simp[Result.andThen]
theorem Ke{e t:Nat}{cap:World->Nat->Nat}{cells:World->Nat->Array Value}(lY:∀ vs (w:World),(callFunc f vs).run P w = .ok (.enter f vs) w){s:Spec}(tI:G.rts f=Zv [t]){i:TI}(AL:G.ty t=Zv i)(hk:i.kind = .slice e Zp)
  (h0:∀ a w,Calls P f #[.slice a 0 0,.int AI 0] w λx w'=>x = .returned (.slice a 0 0)/\w'=w)
  (h1:∀ a (n:Nat) w,0<n->n<=140737488355328->Calls P f #[.slice a 0 0,.int AI n] w λx w'=>x = .returned (.slice (Zv ⟨w.heap.size,0,Xz⟩) 0 (cap w n))/\w'=w.drew.alloc (.cells (cells w n) e))
  (nZ:∀ w n,0<n->n<=140737488355328->n<=cap w n/\cap w n<=maxLen/\(cells w n).size=cap w n)
  (hs:∀ xs bl r,s xs bl=Zv r->∃ n:Int,xs=[.dq,.int AI n]/\0<=n/\n<=140737488355328/\bl=[]/\r=(.bY [],[])):kE P G f s:=by
 intro call xs bl r bs rts g1 g2 w p dX bk D3 hG fV ha wD;rw[tI] at g2;cases g2;obtain⟨n,rfl,XH,hn1,rfl,hr⟩:=hs _ _ _ g1;cases hr;have tJ:dX.size=2:=fV;obtain⟨v0,v1,rfl⟩:∃ a b,dX = #[a,b]:=⟨dX[0],dX[1],by apply Array.ext<;>simp[tJ];intro i h1 h2;rcases i with _ | _ | i<;>first | rfl | omega⟩;have r0:=ha 0 v0 _ rfl rfl;have r1:=ha 1 v1 _ rfl rfl;have e0:∃ a,v0 = .slice a 0 0:=by
  rcases r0 with(h | ⟨_,_,_,h,_⟩) | ⟨_,_,_,h,_⟩ | ⟨_,_,_,_,_,_,h,_⟩
  .cases h;exact⟨_,rfl⟩
  .cases h
  .cases h
  .cases h
 have e1:v1 = .int AI n:=by
  rcases r1 with(h | ⟨_,_,_,h,_⟩) | ⟨_,_,_,h,_⟩ | ⟨_,_,_,_,_,_,h,_⟩
  .cases h;rfl
  .cases h
  .cases h
  .cases h
 obtain⟨a,rfl⟩:=e0;subst e1;left;refine⟨lY _ w,?_⟩;have Bs:l_ w w p bk [] [] []:=⟨rfl,λi j cs jM h=>by simp at h⟩;obtain⟨m,rfl⟩:=Int.eq_ofNat_of_zero_le XH;rcases Nat.eq_zero_or_pos m with hz | hz
 .subst hz;refine(h0 a w).mono ?_;rintro x w' ⟨rfl,rfl⟩;exact⟨_,rfl,p,Kept.refl D3,.inr (.inl ⟨i,e,[],AL,hk,rfl,⟨rfl,.inl ⟨rfl,_,rfl⟩⟩,λJ hβ=>by cases a<;>simp[bV] at hβ⟩),⟨rfl,λi j cs jM h=>by simp at h⟩⟩
 .refine(h1 a m w hz (by omega)).mono ?_;rintro x w' ⟨rfl,rfl⟩;obtain⟨c1,c2,c3⟩:=nZ w m hz (by omega);refine⟨_,rfl,p,⟨rfl,rfl,rfl,by simp,λJ hβ _=> ?_,λ_ _=>rfl,λJ hβ=>D3 J (by simp at hβ;omega)⟩,.inr (.inl ⟨i,e,[],AL,hk,rfl,⟨rfl,.inr ⟨w.heap.size,cap w m,cells w m,rfl,by omega,Yj _,?_,by simp,c2,by rw[c3];omega,by simp⟩⟩,λJ hβ=> ?_⟩),⟨rfl,λi j cs jM h=>by simp at h⟩⟩
  .exact d_ w.drew _ hβ
  .exact ff w.drew _
  .simp only[bV] at hβ;split at hβ
   .cases hβ
   .cases hβ;exact D3 _ (Yj _)
theorem Hv{e t:Nat}(lY:∀ vs (w:World),(callFunc f vs).run P w = .ok (.enter f vs) w){s:Spec}(tI:G.rts f=Zv [t])
  (h0:∀ (n c:Nat) w,Calls P f #[.slice Xz n c] w λx w'=>x = .returned (.slice Xz 0 0)/\w'=w)
  (h1:∀ (a:Addr) (n c:Nat) (xs:List Int) (w:World),xs.length=n->n<=140737488355328->(∀ i,i<n->w.cell? (a.add i)=Zv (.int .u8 (xs.getD i 0))) ->
   Calls P f #[.slice (Zv a) n c] w λx w'=>∃ v',x = .returned v'/\w'.ownsRow w.heap.size e 1 v' n (xs.map (Value.int .u8))/\Below w.heap.size w w')
  (hs:∀ xs bl r,s xs bl=Zv r->∃ b:List UInt8,xs=[.bs b]/\b.length<=140737488355328/\bl=[]/\r=(.bs b,[])):kE P G f s:=by
 intro call xs bl r bs rts g1 g2 w p dX bk D3 hG fV ha wD;rw[tI] at g2;cases g2;obtain⟨b,rfl,x3,rfl,hr⟩:=hs _ _ _ g1;cases hr;have tJ:dX.size=1:=fV;obtain⟨v0,rfl⟩:∃ a,dX = #[a]:=⟨dX[0],by apply Array.ext<;>simp[tJ];intro i hi;subst hi;rfl⟩;have r0:=ha 0 v0 _ rfl rfl;have hI:ca w p v0 (.bs b):=by
  rcases r0 with(h | ⟨_,_,_,h,_⟩) | ⟨_,_,_,h,_⟩ | ⟨_,_,_,_,_,_,h,_⟩
  .exact h
  .cases h
  .cases h
  .cases h
 left;refine⟨lY _ w,?_⟩;cases hI with
 | bs J off hl nZ Bp hcell =>
  rename_i a len cap;cases a with
  | none =>
   have AG:b=[]:=by
    rcases Bp with h | h
    .exact Yz (by omega)
    .cases h
   subst AG;refine(h0 len cap w).mono ?_;rintro x w' ⟨rfl,rfl⟩;exact⟨_,rfl,p,Kept.refl D3,.inl (.inl (.bs 0 0 rfl (Yj _) (.inl rfl) λi b hb=>by simp at hb)),⟨rfl,λi j cs jM h=>by simp at h⟩⟩
  | some a =>
   refine(h1 a len cap (b.map λc=>(c.toNat:Int)) w (by simp[hl]) (by omega) (λi hi=> ?_)).mono ?_
   .rcases Bp with h | h
    .omega
    .cases h;have pX:b[i]? = Zv b[i]:=Yv (by omega);rw[eR];have:=(hcell i _ pX).2;rw[this];simp[ku,List.getD_eq_getElem?_getD,pX]
   .rintro x w' ⟨v',rfl,tH,rH⟩;obtain⟨hlen,⟨rfl,hn⟩ | ⟨β',MJ,kC,rfl,hB,hh,tn,zZ,hcs,gI⟩⟩:=tH
    .have AG:b=[]:=Yz (by omega);subst AG;exact⟨_,rfl,p,⟨rH.os,rH.tape,rH.output,rH.size,λJ hβ _=>rH.block J hβ,λ_ _=>rfl,λJ hβ=>D3 J (Zj rH.size hβ)⟩,.inl (.inl (.bs 0 0 rfl (Yj _) (.inl rfl) λi b hb=>by simp at hb)),⟨rfl,λi j cs jM h=>by simp at h⟩⟩
    .have fY:=mf hh;refine⟨_,rfl,raise p (Zv β') len,⟨rH.os,rH.tape,rH.output,rH.size,λJ hβ _=>rH.block J hβ,λJ hβ=>nB (by simp;omega),λJ hβ=> ?_⟩,.inl (.inl (.bs β' 0 hl tn (.inr rfl) λi c hc=>⟨?_,?_⟩)),⟨rfl,λi j cs jM h=>by simp at h⟩⟩
     .rw[nB (by simp;omega)];exact D3 J (Zj rH.size hβ)
     .rw[gR rfl];have:=(Yw.1 hc).1;omega
     .have hi:i<len:=by have:=(Yw.1 hc).1;omega
      rw[Nat.zero_add,fH hh];have h2:(kC.toList.take (len*1))[i]? = Zv (ku c):=by
       rw[gI];simp[hc,ku]
      rw[List.getElem?_take,Qa1 (by omega)] at h2;simpa using h2
theorem xV{e t size:Nat}{i ei:TI}(lY:∀ vs (w:World),(callFunc f vs).run P w = .ok (.enter f vs) w){s:Spec}(tI:G.rts f=Zv [t])(AL:G.ty t=Zv i)(hk:i.kind = .slice e Zu)(ZN:G.ty e=Zv ei)(hes:ei.size=size)(kU:0<size)
  (h0:∀ (n c:Nat) w,Calls P f #[.slice Xz n c] w λx w'=>x = .returned (.slice Xz 0 0)/\w'=w)
  (h1:∀ (a:Addr) (n c:Nat) (xs:List Value) (w:World),xs.length=n*size->n<=1000000->(∀ j u,xs[j]? = Zv u->w.cell? (a.add j)=Zv u)->(∀ u∈xs,u.oneCell'=Zp) ->
   Calls P f #[.slice (Zv a) n c] w λx w'=>∃ v',x = .returned v'/\w'.ownsRow w.heap.size e size v' n xs/\Below w.heap.size w w')
  (hs:∀ xs bl r,s xs bl=Zv r->∃ els:List AV,xs=[.sl size els]/\els.length<=1000000/\bl=[]/\r=(.aH els,[])):kE P G f s:=by
 intro call xs bl r bs rts g1 g2 w p dX bk D3 hG fV ha wD;rw[tI] at g2;cases g2;obtain⟨els,rfl,x3,rfl,hr⟩:=hs _ _ _ g1;cases hr;have tJ:dX.size=1:=fV;obtain⟨v0,rfl⟩:∃ a,dX = #[a]:=⟨dX[0],by apply Array.ext<;>simp[tJ];intro i hi;subst hi;rfl⟩;have r0:=ha 0 v0 _ rfl rfl;have hI:ca w p v0 (.sl size els):=by
  rcases r0 with(h | ⟨_,_,_,h,_⟩) | ⟨_,_,_,h,_⟩ | ⟨_,_,_,_,_,_,h,_⟩
  .exact h
  .cases h
  .cases h
  .cases h
 left;refine⟨lY _ w,?_⟩;subst hes;cases hI with
 | sl J off vs hl nZ YT Bp hcell m4 =>
  rename_i a len cap;have Vr:=jC YT;cases a with
  | none =>
   have AG:els=[]:=by
    rcases Bp with h | h
    .exact Yz (by omega)
    .cases h
   subst AG;refine(h0 len cap w).mono ?_;rintro x w' ⟨rfl,rfl⟩;exact⟨_,rfl,p,Kept.refl D3,.inr (.inr (.inl ⟨i,e,ei,[],[],AL,hk,ZN,rfl,kU,λx hx=>(nomatch hx),⟨by simp,.inl ⟨rfl,_,rfl⟩⟩,a_.nil,λJ hβ=>by simp[bV] at hβ⟩)),⟨rfl,λi j cs jM h=>by simp at h⟩⟩
  | some a =>
   have pX:∀ j u,((Zk (els.flatMap AV.cells).length).map vs)[j]? = Zv u->∃ c,(els.flatMap AV.cells)[j]? = Zv c/\u=vs j:=by
    intro j u hj;have hi:j<(els.flatMap AV.cells).length:=by have:=(Yw.1 hj).1;simpa using this
    refine⟨_,Yv hi,?_⟩;rw[List.getElem?_map,List.getElem?_range hi] at hj;cases hj;rfl
   refine(h1 a len cap ((Zk (els.flatMap AV.cells).length).map vs) w (by simp[Vr,hl]) (by omega) (λj u hj=> ?_) (λu hu=> ?_)).mono ?_
   .obtain⟨c,hc,rfl⟩:=pX j u hj;have fY:=(Yw.1 hc).1;rcases Bp with h | h
    .rw[Vr,hl,h] at fY;simp at fY
    .cases h;rw[eR];exact(hcell j c hc).2
   .obtain⟨j,hj,rfl⟩:=List.mem_map.1 hu;exact(m4 j _ (Yv (Yk.1 hj))).tY.2.1
   .rintro x w' ⟨v',rfl,tH,rH⟩;have bR:lU w' w.heap.size e ei.size v' els.length ((Zk (els.flatMap AV.cells).length).map vs):=by
     obtain⟨hlen,⟨rfl,hn⟩ | ⟨β',MJ,kC,rfl,hB,hh,tn,zZ,hcs,gI⟩⟩:=tH
     .exact⟨by rw[hl];exact hlen,.inl ⟨by omega,_,rfl⟩⟩
     .rw[hl];by_cases hz:MJ=0
      .subst hz;have h9:len=0:=by omega
       subst h9;exact⟨hlen,.inl ⟨rfl,_,rfl⟩⟩
      .exact⟨hlen,.inr ⟨β',MJ,kC,rfl,by omega,hB,hh,tn,zZ,hcs,gI⟩⟩
    have adj:∀ J j,j<p J->J<w.heap.size:=λJ j hj=>by
     rcases Nat.lt_or_ge J w.heap.size with h | h
     .exact h
     .rw[D3 J h] at hj;omega
    refine⟨_,rfl,p,⟨rH.os,rH.tape,rH.output,rH.size,λJ hβ _=>rH.block J hβ,λ_ _=>rfl,λJ hβ=>D3 J (Zj rH.size hβ)⟩,
     .inr (.inr (.inl ⟨i,e,ei,els,_,AL,hk,ZN,rfl,kU,YT,bR,⟨by simp,λj v c hv hc=> ?_⟩,λJ hβ=> ?_⟩)),⟨rfl,λi j cs jM h=>by simp at h⟩⟩
    .obtain⟨c',JP,rfl⟩:=pX j v hv;exact(m4 j c hc).mono (λ_=>Yj _) λJ i hi=>by
      have:=rH.block J (adj J i hi);simp only[World.cell?,this]
    .obtain⟨_,⟨_,a',rfl⟩ | ⟨β',MJ,kC,rfl,h9,hB,_⟩⟩:=bR
     .cases a'<;>simp[bV] at hβ
     .simp only[bV] at hβ;rw[Qa0 (by omega)] at hβ;cases hβ;exact D3 _ hB
end
end Go.Abs
/- slices.Grow of nil, for rows of structs and numbers. -/
namespace Go.Abs
open Go.RowKit Go.Lib
section
variable {P:Program} {G:pG} {f:Nat} {fn:Func}
theorem Hw{e t:Nat}{cap:World->Nat->Nat}{cells:World->Nat->Array Value}(lY:∀ vs (w:World),(callFunc f vs).run P w = .ok (.enter f vs) w){s:Spec}(tI:G.rts f=Zv [t]){i ei:TI}(AL:G.ty t=Zv i)(hk:i.kind = .slice e Zu)(ZN:G.ty e=Zv ei)(kU:0<ei.size)
  (h0:∀ a w,Calls P f #[.slice a 0 0,.int AI 0] w λx w'=>x = .returned (.slice a 0 0)/\w'=w)
  (h1:∀ a (n:Nat) w,0<n->n<=1000000000000->Calls P f #[.slice a 0 0,.int AI n] w λx w'=>x = .returned (.slice (Zv ⟨w.heap.size,0,Xz⟩) 0 (cap w n))/\w'=w.drew.alloc (.cells (cells w n) e))
  (nZ:∀ w n,0<n->n<=1000000000000->n<=cap w n/\cap w n<=maxLen/\(cells w n).size=cap w n*ei.size)
  (hs:∀ xs bl r,s xs bl=Zv r->∃ n:Int,xs=[.dq,.int AI n]/\0<=n/\n<=1000000000000/\bl=[]/\r=(.aH [],[])):kE P G f s:=by
 intro call xs bl r bs rts g1 g2 w p dX bk D3 hG fV ha wD;rw[tI] at g2;cases g2;obtain⟨n,rfl,XH,hn1,rfl,hr⟩:=hs _ _ _ g1;cases hr;have tJ:dX.size=2:=fV;obtain⟨v0,v1,rfl⟩:∃ a b,dX = #[a,b]:=⟨dX[0],dX[1],by apply Array.ext<;>simp[tJ];intro i h1 h2;rcases i with _ | _ | i<;>first | rfl | omega⟩;have r0:=ha 0 v0 _ rfl rfl;have r1:=ha 1 v1 _ rfl rfl;have e0:∃ a,v0 = .slice a 0 0:=by
  rcases r0 with(h | ⟨_,_,_,h,_⟩) | ⟨_,_,_,h,_⟩ | ⟨_,_,_,_,_,_,h,_⟩
  .cases h;exact⟨_,rfl⟩
  .cases h
  .cases h
  .cases h
 have e1:v1 = .int AI n:=by
  rcases r1 with(h | ⟨_,_,_,h,_⟩) | ⟨_,_,_,h,_⟩ | ⟨_,_,_,_,_,_,h,_⟩
  .cases h;rfl
  .cases h
  .cases h
  .cases h
 obtain⟨a,rfl⟩:=e0;subst e1;left;refine⟨lY _ w,?_⟩;have Bs:l_ w w p bk [] [] []:=⟨rfl,λi j cs jM h=>by simp at h⟩;obtain⟨m,rfl⟩:=Int.eq_ofNat_of_zero_le XH;rcases Nat.eq_zero_or_pos m with hz | hz
 .subst hz;refine(h0 a w).mono ?_;rintro x w' ⟨rfl,rfl⟩;exact⟨_,rfl,p,Kept.refl D3,.inr (.inr (.inl ⟨i,e,ei,[],[],AL,hk,ZN,rfl,kU,λx hx=>(nomatch hx),⟨by simp,.inl ⟨rfl,_,rfl⟩⟩,a_.nil,λJ hβ=>by cases a<;>simp[bV] at hβ⟩)),⟨rfl,λi j cs jM h=>by simp at h⟩⟩
 .refine(h1 a m w hz (by omega)).mono ?_;rintro x w' ⟨rfl,rfl⟩;obtain⟨c1,c2,c3⟩:=nZ w m hz (by omega);refine⟨_,rfl,p,⟨rfl,rfl,rfl,by simp,λJ hβ _=> ?_,λ_ _=>rfl,λJ hβ=>D3 J (by simp at hβ;omega)⟩,.inr (.inr (.inl ⟨i,e,ei,[],[],AL,hk,ZN,rfl,kU,λx hx=>(nomatch hx),⟨by simp,.inr ⟨w.heap.size,cap w m,cells w m,rfl,by omega,Yj _,?_,by simp,c2,c3,by simp⟩⟩,a_.nil,λJ hβ=> ?_⟩)),⟨rfl,λi j cs jM h=>by simp at h⟩⟩
  .exact d_ w.drew _ hβ
  .exact ff w.drew _
  .simp only[bV] at hβ;split at hβ
   .cases hβ
   .cases hβ;exact D3 _ (Yj _)
end
end Go.Abs
