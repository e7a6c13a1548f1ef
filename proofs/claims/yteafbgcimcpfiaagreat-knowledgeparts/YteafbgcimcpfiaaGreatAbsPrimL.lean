/- Chapter 27: the program's closure, as its loops are. -/
import Derived.Test.YteafbgcimcpfiaaGreatKerb27c
import Derived.Lib.Walk
import Derived.Lib.SliceRun
import Derived.Lib.AppendZerosOnto
import Derived.Lib.Bytealg
import Derived.Lib.BytesEntry
import Derived.Laws.Externs
set_option linter.all false
open Option renaming bind→Zz,some→Zw,none→Yj
open Decidable renaming decide→Zy
open Int renaming toNat_natCast→Zx,toNat→Zv
open Bool renaming false→Zu,true→Zf,not_false→Zb,not_true→Yx
open Go.Abs.AV renaming bool→Zq,dm→Yu
open List renaming range→Zj,eq_nil_of_length_eq_zero→Zd,getD→Zg,getElem?_eq_some_iff→Zn,length_append→Zm,mem_range→Yz,getElem?_eq_getElem→Yq
open Go.IntKind renaming wrap→Zk
open Nat renaming le_trans→Zp,le_refl→Zh,zero_le→Yw,beq→Yv
open Kerb renaming indexOf→Yy
namespace Kerb
open Go Go.Abs
section
variable {α:Type}
noncomputable def td(l:List AV)(f:List AV->List AV->Option α):Option α:=aA l fun x r=>AV.aW x fun b=>f b r
noncomputable def mr(o:Option (List AV))(f:Bool->Option α):Option α:=Zz o fun l=>aA l fun x r=>ak r (AV.dD x f)
abbrev iv(n:Int):AV := .int .i64 n
abbrev up(n:Int):AV := .int .i64 (Zk .i64 (n+1))
abbrev St:=Option (List AV ⊕ (Ex×List AV))
noncomputable def yx(n:Int)(y:List AV)(f:Option α):Option α:=aD (Zy (0<=n)&&Zy (n<(y.length:Int))&&Zf) f
noncomputable def CQ(n:Int)(y:List AV)(f:Option α):Option α:=yx n y (aD (Nat.blt (Zv n) y.length&&Zf) f)
noncomputable def Xt(y:List AV)(k:Int)(l:List AV):St:=ag .i64 l fun n r=>ag .i64 r fun i r=>ak r
 (aG (Zy (i<(y.length:Int))) (CQ i y (AV.ax .u64 (y.getD (Zv i) .undef) fun q=>aG (k==q) (Zw (.inr (.ret,[iv i,iv i]))) (Zw (.inl [iv n,up i]))))
  (Zw (.inr (.exit 0,[iv n,iv i]))))
noncomputable def G8(r:Ex×List AV):Option (List AV):=ag .i64 r.2 fun n r1=>ag .i64 r1 fun _ r2=>ak r2 (jW r.1 (Zw [.bool (Zy (n>=0))]) fun j=>aG (Yv j 0) (Zw [.bool Zu]) Yj)
noncomputable def OM(y:List AV)(k:Int):Option (List AV):=Zz (bJ (Xt y k) [iv 0,iv 0]) G8
noncomputable def vC(y:List AV)(k:Int):Option (List AV):=mr (OM y k) fun b=>Zw [.bool !b]
noncomputable def Z2(y kl:List AV)(l:List AV):St:=ag .i64 l fun n r=>ag .i64 r fun i r=>ak r
 (aG (Zy (i<(kl.length:Int))) (yx i kl (AV.ax .u64 (kl.getD (Zv i) .undef) fun q=>mr (vC y q) fun b=>aG b (Zw (.inr (.ret,[iv i,iv i]))) (Zw (.inl [iv n,up i]))))
  (Zw (.inr (.exit 0,[iv n,iv i]))))
noncomputable def YW(y kl:List AV):Option (List AV):=Zz (bJ (Z2 y kl) [iv 0,iv 0]) G8
noncomputable def XC(y:List AV)(b:List UInt8)(l:List AV):St:=ar l fun c r=>ag .i64 r fun i r=>ak r
 (aG (Zy (i<(y.length:Int))) (CQ i y (Yu (y.getD (Zv i) .undef) fun q=>aG (q==b) (Zw (.inr (.ret,[.bool Zu,iv i]))) (Zw (.inl [.bool c,up i]))))
  (Zw (.inr (.exit 0,[.bool c,iv i]))))
noncomputable def xK(y:List AV)(b:List UInt8):Option (List AV):=Zz (bJ (XC y b) [.bool Zu,iv 0]) fun r=>ar r.2 fun c r1=>ag .i64 r1 fun _ r2=>ak r2 (jW r.1 (Zw [.bool c]) fun j=>aG (Yv j 0) (Zw [.bool Zf]) Yj)
noncomputable def Z1(y bl:List AV)(l:List AV):St:=ag .i64 l fun n r=>ag .i64 r fun i r=>ak r
 (aG (Zy (i<(bl.length:Int))) (yx i bl (Yu (bl.getD (Zv i) .undef) fun q=>mr (xK y q) fun b=>aG b (Zw (.inr (.ret,[iv i,iv i]))) (Zw (.inl [iv n,up i]))))
  (Zw (.inr (.exit 0,[iv n,iv i]))))
noncomputable def YV(y bl:List AV):Option (List AV):=Zz (bJ (Z1 y bl) [iv 0,iv 0]) G8
noncomputable def Ri(y:List AV)(q:Int)(f:List AV->Option α):Option α:=Zz (aD (eQ y&&Lu (CE y q)&&Zy ((y.length:Int)<=100000000)) (Zw (AV.aI (CE y q),([]:List (List AV))))) fun r=>aE r.2 (AV.aW r.1 f)
noncomputable def Sn(kl:List AV)(l:List AV):St:=ag .i64 l fun n r=>td r fun y r=>td r fun y1 r=>td r fun y2 r=>ak r
 (aG (Zy (n<(kl.length:Int))) (yx n kl (AV.ax .u64 (kl.getD (Zv n) .undef) fun q=>mr (vC y q) fun b =>
   aG b (Ri y q fun l=>Zw (.inl [up n,.aI l,.aI y1,.aI y2])) (Zw (.inl [up n,.aI y,.aI y1,.aI y2]))))
  (Zw (.inr (.exit 0,[iv n,.aI y,.aI y1,.aI y2]))))
noncomputable def Nx(bl:List AV)(l:List AV):St:=ag .i64 l fun n r=>td r fun y r=>td r fun y1 r=>td r fun y2 r=>ak r
 (aG (Zy (n<(bl.length:Int))) (yx n bl (Yu (bl.getD (Zv n) .undef) fun q=>mr (xK y1 q) fun b =>
   aG b (aD (Go.Abs.room (y1.length+[AV.bs q].length) 24) (Zw (.inl [up n,.aI y,.aI (y1++[.bs q]),.aI y2]))) (Zw (.inl [up n,.aI y,.aI y1,.aI y2]))))
  (Zw (.inr (.exit 2,[iv n,.aI y,.aI y1,.aI y2]))))
noncomputable def Dm(b:Bool)(n:Int)(kl bl y y1 y2:List AV):St :=
 Zz (bJ (Sn kl) [iv 0,.aI y,.aI y1,.aI y2]) fun r=>ag .i64 r.2 fun _ r1=>td r1 fun y r2=>td r2 fun y7 r3=>td r3 fun y8 r4=>ak r4
  (jW r.1 (Zw (.inl [.bool b,up n,.aI y,.aI y7,.aI y8])) fun j=>aG (Yv j 0)
   (Zz (bJ (Nx bl) [iv 0,.aI y,.aI y7,.aI y8]) fun r=>ag .i64 r.2 fun _ r1=>td r1 fun y r2=>td r2 fun y9 r3=>td r3 fun y10 r4=>ak r4
    (jW r.1 (Zw (.inl [.bool b,up n,.aI y,.aI y9,.aI y10])) fun j=>aG (Yv j 2) (Zw (.inr (.ret,[.bool Zf,iv n,.aI y,.aI y9,.aI y10]))) Yj))
   Yj)
noncomputable def DQ(b:Bool)(n:Int)(y y1 y2:List AV)(t:List UInt8):St :=
 Zz (aD (Zy (t.length<=140737488355328)) (Zw (AV.aQ [.agg [.int .i64 (bm t).box.kind,.int .u64 (bm t).box.key,.bs (bm t).box.body],.int .i64 (bm t).n,.int .i64 (bm t).err],([]:List (List AV))))) fun r=>aE r.2 (AV.gT r.1 fun vs=>aA vs fun x r=>AV.cV x fun cs=>ag .i64 cs fun kd r1=>ag .u64 r1 fun ky r1=>aV r1 fun bd r1=>ak r1 (ag .i64 r fun _ r=>ag .i64 r fun er r=>ak r
  (aG (!(er==0)) (Zw (.inl [.bool b,up n,.aI y,.aI y1,.aI y2])) (mr (vC y ky) fun b6=>aG b6 (Zw (.inl [.bool b,up n,.aI y,.aI y1,.aI y2]))
   (Zz (aD (Zy (bd.length<=70368744170000)) (Zw (AV.aQ [.sl 1 (dP (jd ⟨kd,ky,bd⟩).keys),.sl 1 (dl (jd ⟨kd,ky,bd⟩).boxes)],([]:List (List AV))))) fun r=>aE r.2 (AV.gT r.1 fun vs=>cL 1 vs fun kl r=>cL 1 r fun bl r=>ak r
    (mr (YW y kl) fun b9=>aG (!b9) (mr (YV y1 bl) fun b10=>aG (!b10) (Zw (.inl [.bool b,up n,.aI y,.aI y1,.aI (oY (iv n) (.bool Zf) y2)])) (Dm b n kl bl y y1 (oY (iv n) (.bool Zf) y2))) (Dm b n kl bl y y1 (oY (iv n) (.bool Zf) y2)))))))))
noncomputable def La(y3:List AV)(l:List AV):St:=ar l fun b r=>ag .i64 r fun n r=>td r fun y r=>td r fun y5 r=>td r fun y6 r=>ak r
 (aG (Zy (n<(y3.length:Int))) (AV.dD (getM (iv n) y6 (.bool Zu)) fun b3=>aG (!b3) (CQ n y5 (Yu (y5.getD (Zv n) .undef) fun t=>DQ b n y y5 y6 t)) (Zw (.inl [.bool b,up n,.aI y,.aI y5,.aI y6])))
  (Zw (.inr (.exit 0,[.bool b,iv n,.aI y,.aI y5,.aI y6]))))
noncomputable def Tk(l:List AV):St:=td l fun y r=>td r fun y3 r=>td r fun y4 r=>ak r
 (Zz (bJ (La y3) [.bool Zu,iv 0,.aI y,.aI y3,.aI y4]) fun r=>ar r.2 fun b r1=>ag .i64 r1 fun _ r1=>td r1 fun y r1=>td r1 fun y5 r1=>td r1 fun y6 r1=>ak r1
  (jW r.1 (aG b (Zw (.inl [.aI y,.aI y5,.aI y6])) (Zw (.inr (.exit 0,[.aI y,.aI y5,.aI y6])))) fun j=>aG (Yv j 0) (Zw (.inr (.exit 0,[.aI y,.aI y5,.aI y6]))) Yj))
noncomputable def LJ(y y1 y2:List AV):Option (AV×aw):=Zz (bJ Tk [.aI y,.aI y1,.aI y2]) fun r=>td r.2 fun y r1=>td r1 fun y3 r1=>td r1 fun _ r1=>ak r1
 (jW r.1 (Zw (.agg [.sl 1 y,.sl 1 y3],[])) fun j=>aG (Yv j 0) (Zw (.agg [.sl 1 y,.sl 1 y3],[])) Yj)
noncomputable def SM(l:List AV):St:=cL 1 l fun b r=>cL 1 r fun b1 r=>td r fun y r=>td r fun y1 r=>td r fun y2 r=>cL 1 r fun b2 r=>ag .i64 r fun n r=>ag .i64 r fun i r=>ak r
 (aG (Zy (i<n)) (yx i b2 (Yu (b2.getD (Zv i) .undef) fun q=>mr (xK y1 q) fun c =>
   aG c (aD (Go.Abs.room (y1.length+[AV.bs q].length) 24) (Zw (.inl [.sl 1 b,.sl 1 b1,.aI y,.aI (y1++[.bs q]),.aI y2,.sl 1 b2,iv n,up i]))) (Zw (.inl [.sl 1 b,.sl 1 b1,.aI y,.aI y1,.aI y2,.sl 1 b2,iv n,up i]))))
  (Zw (.inr (.exit 0,[.sl 1 b,.sl 1 b1,.aI y,.aI y1,.aI y2,.sl 1 b2,iv n,iv i]))))
noncomputable def Rp(ks bs:List AV)(f:List AV->List AV->Option α):Option α:=Zz (aD (eQ ks&&Zy (ks.length<=1000000)) (Zw (AV.aI ks,([]:List (List AV))))) fun r=>aE r.2 (AV.aW r.1 fun l=>Zz (aD (tr bs&&Zy (bs.length<=1000000)) (Zw (AV.aI bs,([]:List (List AV))))) fun r=>aE r.2 (AV.aW r.1 fun l1=>f l l1))
noncomputable def JF(ks bs:List AV)(b:List UInt8):Option (AV×aw):=Rp ks bs fun l l1 =>
 Zz (aD (Zy (b.length<=70368744170000)) (Zw (AV.sl 1 (dl (partsOf b)),([]:List (List AV))))) fun r=>aE r.2 (AV.fR 1 r.1 fun p =>
  Zz (bJ SM [.sl 1 [],.sl 1 [],.aI l,.aI l1,.aI [],.sl 1 p,iv p.length,iv 0]) fun r=>cL 1 r.2 fun b r1=>cL 1 r1 fun b1 r1=>td r1 fun y r1=>td r1 fun y1 r1=>td r1 fun y2 r1=>cL 1 r1 fun _ r1=>ag .i64 r1 fun _ r1=>ag .i64 r1 fun _ r1=>ak r1
   (jW r.1 (Zw (.agg [.sl 1 b,.sl 1 b1],[])) fun j=>aG (Yv j 0) (LJ y y1 y2) Yj))
noncomputable def OO(ks bs:List AV)(k:Int):Option (AV×aw):=Rp ks bs fun l l1 =>
 Zz (aD (Zy (0<=k)&&Zy (k<18446744073709551616)) (Zw (Zq (bA k),([]:List (List AV))))) fun r=>aE r.2 (AV.dD r.1 fun v =>
  Zz (aG v (mr (vC l k) fun b=>aG b (Ri l k fun l=>Zw [.sl 1 [],.sl 1 [],.aI l,.aI l1,.aI []]) (Zw [.sl 1 [],.sl 1 [],.aI l,.aI l1,.aI []])) (Zw [.sl 1 [],.sl 1 [],.aI l,.aI l1,.aI []]))
   fun l=>cL 1 l fun _ r=>cL 1 r fun _ r=>td r fun y r=>td r fun y1 r=>td r fun y2 r=>ak r (LJ y y1 y2))
end
theorem ox{β:Type}{step:List AV->St}{k:Ex×List AV->Option β}{A:β}(e:Nat->List AV)(N:Nat)(hs:∀ i,i<N->step (e i)=Zw (.inl (e (i+1))))(he:∃ r,step (e N)=Zw (.inr r)/\k r=Zw A){t:List AV}(ht:t=e 0):Zz (bJ step t) k=Zw A:=by
 refine bW (enc:=e) (I:=fun i=>i<=N) (μ:=fun i=>N-i) (R:=fun r=>k r=Zw A) 0 (Yw _) ht ?_ fun r h=>h;intro i hi;by_cases h:i<N
 ·exact⟨_,hs i h,i+1,rfl,h,show N-(i+1)<N-i by omega⟩
 ·obtain rfl:i=N:=by omega
  obtain⟨r,h1,h2⟩:=he;exact⟨_,h1,h2⟩
theorem oa{β:Type}{step:List AV->St}{k:Ex×List AV->Option β}{A B:β}(e:Nat->List AV)(N:Nat)(p:Nat->Bool)(hs:∀ i,i<N->p i=Zu->step (e i)=Zw (.inl (e (i+1))))(hr:∀ i,i<N->p i=Zf->∃ r,step (e i)=Zw (.inr r)/\k r=Zw A)
  (he:∃ r,step (e N)=Zw (.inr r)/\k r=Zw B) {t:List AV} (ht:t=e 0):Zz (bJ step t) k=Zw (bif (Zj N).any p then A else B):=by
 refine bW (enc:=e) (I:=fun i=>i<=N/\∀ j,j<i->p j=Zu) (μ:=fun i=>N-i) (R:=fun r=>k r=Zw (bif (Zj N).any p then A else B)) 0 ⟨Yw _,fun j h=>by omega⟩ ht ?_ fun r h=>h;rintro i ⟨hi,hj⟩;by_cases h:i<N
 ·cases hp:p i with
  | false=>exact⟨_,hs i h hp,i+1,rfl,⟨h,fun j IZ=>by by_cases SA:j=i;(· subst SA;exact hp);exact hj j (by omega)⟩,show N-(i+1)<N-i by omega⟩
  | true =>
   obtain⟨r,h1,h2⟩:=hr i h hp;have:(Zj N).any p=Zf:=List.any_eq_true.2 ⟨i,Yz.2 h,hp⟩;exact⟨_,h1,by show k r=_;rw[h2,this];rfl⟩
 ·obtain rfl:i=N:=by omega
  obtain⟨r,h1,h2⟩:=he;have:(Zj i).any p=Zu:=by
   rw[List.any_eq_false];intro x hx;rw[hj x (Yz.1 hx)];exact Bool.false_ne_true
  exact⟨_,h1,by show k r=_;rw[h2,this];rfl⟩
theorem lZ{α:Type}(l:List α)(d:α)(f:α->Bool):(Zj l.length).any (fun i=>f (l.getD i d))=l.any f:=by
 rw[Bool.eq_iff_iff,List.any_eq_true,List.any_eq_true];constructor
 ·rintro⟨i,hi,h⟩;have hi:=Yz.1 hi;exact⟨l[i],List.getElem_mem hi,by simpa [Zg,hi] using h⟩
 ·rintro⟨x,hx,h⟩;obtain⟨i,hi,rfl⟩:=List.mem_iff_getElem.1 hx;exact⟨i,Yz.2 hi,by simpa [Zg,hi] using h⟩
theorem sG(l:List Int)(k:Int):l.any (fun x=>k==x)=l.contains k:=by grind
theorem qR(l:List Bytes)(k:Bytes):l.any (fun x=>x==k)=l.contains k:=by grind
theorem wA{i:Nat}(h:i<=1000000000):up (i:Int)=iv ((i+1:Nat):Int):=by
 unfold up iv;rw[wrap_i64 (by omega) (by omega)];rfl
theorem lh{α:Type}{i:Nat}{y:List AV}(h:i<y.length)(f:Option α):yx (i:Int) y f=f:=by
 unfold yx;exact ae (by simp;omega) f
theorem xE{α:Type}{i:Nat}{y:List AV}(h:i<y.length)(f:Option α):CQ (i:Int) y f=f:=by
 unfold CQ;rw[lh h];exact ae (by simp[Nat.blt_eq];omega) f
theorem rq{i:Nat}{y:List AV}(h:i<y.length):Zy ((i:Int)<(y.length:Int))=Zf:=by simp;omega
theorem JN{y:List AV}:Zy ((y.length:Int)<(y.length:Int))=Zu:=by simp
theorem ON{K:List Int}(k:Int)(h:K.length<=100000000):OM (dP K) k=Zw [.bool (K.contains k)]:=by
 have e:OM (dP K) k=Zw (bif (Zj (dP K).length).any (fun i=>k==K.getD i 0) then[Zq Zf] else[Zq Zu]):=by
  refine oa (fun i=>[iv 0,iv i]) _ _ ?_ ?_ ?_ rfl
  ·intro i hi hp;have jX:i<K.length:=by rw[<-ff];exact hi
   show aG (Zy ((i:Int)<((dP K).length:Int))) (CQ i (dP K) (AV.ax .u64 ((dP K).getD (Zv i) .undef) _)) _=_;rw[af (rq hi),xE hi,Zx,lN jX];show aG (k==K.getD i 0) _ _=_;rw[ai hp,wA (by omega)]
  ·intro i hi hp;have jX:i<K.length:=by rw[<-ff];exact hi
   refine⟨(.ret,[iv i,iv i]),?_,?_⟩
   ·show aG (Zy ((i:Int)<((dP K).length:Int))) (CQ i (dP K) (AV.ax .u64 ((dP K).getD (Zv i) .undef) _)) _=_;rw[af (rq hi),xE hi,Zx,lN jX];show aG (k==K.getD i 0) _ _=_;rw[af hp]
   ·show Zw [Zq (Zy ((i:Int)>=0))]=_;rw[show Zy ((i:Int)>=0)=Zf by simp]
  ·refine⟨(.exit 0,[iv 0,iv (dP K).length]),?_,rfl⟩;show aG (Zy (((dP K).length:Int)<((dP K).length:Int))) _ _=_;rw[ai JN]
 rw[e,ff,lZ K 0 (fun x=>k==x),sG];cases K.contains k<;>rfl
theorem ua{K:List Int}(k:Int)(h:K.length<=100000000):vC (dP K) k=Zw [.bool (!K.contains k)]:=by
 unfold vC;rw[ON k h];rfl
theorem Ta{K:List Int}(L:List Int)(h:K.length<=100000000)(hl:L.length<=100000000):YW (dP K) (dP L)=Zw [.bool (L.any fun k => !K.contains k)]:=by
 have e:YW (dP K) (dP L)=Zw (bif (Zj (dP L).length).any (fun i => !K.contains (L.getD i 0)) then[Zq Zf] else[Zq Zu]):=by
  refine oa (fun i=>[iv 0,iv i]) _ _ ?_ ?_ ?_ rfl
  ·intro i hi hp;have jX:i<L.length:=by rw[<-ff];exact hi
   show aG (Zy ((i:Int)<((dP L).length:Int))) (yx i (dP L) (AV.ax .u64 ((dP L).getD (Zv i) .undef) _)) _=_;rw[af (rq hi),lh hi,Zx,lN jX];show mr (vC (dP K) (L.getD i 0)) _=_;rw[ua _ h];show aG (!K.contains (L.getD i 0)) _ _=_;rw[ai hp,wA (by omega)]
  ·intro i hi hp;have jX:i<L.length:=by rw[<-ff];exact hi
   refine⟨(.ret,[iv i,iv i]),?_,?_⟩
   ·show aG (Zy ((i:Int)<((dP L).length:Int))) (yx i (dP L) (AV.ax .u64 ((dP L).getD (Zv i) .undef) _)) _=_;rw[af (rq hi),lh hi,Zx,lN jX];show mr (vC (dP K) (L.getD i 0)) _=_;rw[ua _ h];show aG (!K.contains (L.getD i 0)) _ _=_;rw[af hp]
   ·show Zw [Zq (Zy ((i:Int)>=0))]=_;rw[show Zy ((i:Int)>=0)=Zf by simp]
  ·refine⟨(.exit 0,[iv 0,iv (dP L).length]),?_,rfl⟩;show aG (Zy (((dP L).length:Int)<((dP L).length:Int))) _ _=_;rw[ai JN]
 rw[e,ff,lZ L 0 (fun x => !K.contains x)];cases L.any fun k => !K.contains k<;>rfl
theorem xL{B:List Bytes}(b:Bytes)(h:B.length<=100000000):xK (dl B) b=Zw [.bool (!B.contains b)]:=by
 have e:xK (dl B) b=Zw (bif (Zj (dl B).length).any (fun i=>B.getD i []==b) then[Zq Zu] else[Zq Zf]):=by
  refine oa (fun i=>[.bool Zu,iv i]) _ _ ?_ ?_ ?_ rfl
  ·intro i hi hp;have jX:i<B.length:=by rw[<-d_];exact hi
   show aG (Zy ((i:Int)<((dl B).length:Int))) (CQ i (dl B) (Yu ((dl B).getD (Zv i) .undef) _)) _=_;rw[af (rq hi),xE hi,Zx,lM jX];show aG (B.getD i []==b) _ _=_;rw[ai hp,wA (by omega)]
  ·intro i hi hp;have jX:i<B.length:=by rw[<-d_];exact hi
   refine⟨(.ret,[.bool Zu,iv i]),?_,rfl⟩;show aG (Zy ((i:Int)<((dl B).length:Int))) (CQ i (dl B) (Yu ((dl B).getD (Zv i) .undef) _)) _=_;rw[af (rq hi),xE hi,Zx,lM jX];show aG (B.getD i []==b) _ _=_;rw[af hp]
  ·refine⟨(.exit 0,[.bool Zu,iv (dl B).length]),?_,rfl⟩;show aG (Zy (((dl B).length:Int)<((dl B).length:Int))) _ _=_;rw[ai JN]
 rw[e,d_,lZ B [] (fun x=>x==b),qR];cases B.contains b<;>rfl
theorem S'{B:List Bytes}(L:List Bytes)(h:B.length<=100000000)(hl:L.length<=100000000):YV (dl B) (dl L)=Zw [.bool (L.any fun k => !B.contains k)]:=by
 have e:YV (dl B) (dl L)=Zw (bif (Zj (dl L).length).any (fun i => !B.contains (L.getD i [])) then[Zq Zf] else[Zq Zu]):=by
  refine oa (fun i=>[iv 0,iv i]) _ _ ?_ ?_ ?_ rfl
  ·intro i hi hp;have jX:i<L.length:=by rw[<-d_];exact hi
   show aG (Zy ((i:Int)<((dl L).length:Int))) (yx i (dl L) (Yu ((dl L).getD (Zv i) .undef) _)) _=_;rw[af (rq hi),lh hi,Zx,lM jX];show mr (xK (dl B) (L.getD i [])) _=_;rw[xL _ h];show aG (!B.contains (L.getD i [])) _ _=_;rw[ai hp,wA (by omega)]
  ·intro i hi hp;have jX:i<L.length:=by rw[<-d_];exact hi
   refine⟨(.ret,[iv i,iv i]),?_,?_⟩
   ·show aG (Zy ((i:Int)<((dl L).length:Int))) (yx i (dl L) (Yu ((dl L).getD (Zv i) .undef) _)) _=_;rw[af (rq hi),lh hi,Zx,lM jX];show mr (xK (dl B) (L.getD i [])) _=_;rw[xL _ h];show aG (!B.contains (L.getD i [])) _ _=_;rw[af hp]
   ·show Zw [Zq (Zy ((i:Int)>=0))]=_;rw[show Zy ((i:Int)>=0)=Zf by simp]
  ·refine⟨(.exit 0,[iv 0,iv (dl L).length]),?_,rfl⟩;show aG (Zy (((dl L).length:Int)<((dl L).length:Int))) _ _=_;rw[ai JN]
 rw[e,d_,lZ L [] (fun x => !B.contains x)];cases L.any fun k => !B.contains k<;>rfl
theorem ve{α:Type}{l:List α}(d:α){i:Nat}(h:i<l.length):l.take (i+1)=l.take i++[l.getD i d]:=by
 rw[List.take_succ_eq_append_getElem h];simp[Zg,h]
theorem I5(K L:List Int){i:Nat}(h:i<L.length):jA K (L.take (i+1))=bif (jA K (L.take i)).contains (L.getD i 0) then jA K (L.take i) else oE (jA K (L.take i)) (L.getD i 0):=by
 rw[ve 0 h];unfold jA;rw[List.foldl_append];rfl
theorem Aw(K L:List Bytes){i:Nat}(h:i<L.length):fU K (L.take (i+1))=bif (fU K (L.take i)).contains (L.getD i []) then fU K (L.take i) else fU K (L.take i)++[L.getD i []]:=by
 rw[ve [] h];unfold fU;rw[List.foldl_append];rfl
theorem F4(l B:List Bytes):(fU B l).length<=B.length+l.length:=by
 obtain⟨N,h1,h2,_⟩:=jn (l:=l) (B:=B);rw[h1,Zm];omega
theorem KB{α:Type}{K:List Int}{q:Int}(h:wM K=Zf)(hq:K.contains q=Zu)(hl:K.length<=100000000)(f:List AV->Option α):Ri (dP K) q f=f (dP (oE K q)):=by
 have Vc:q ∉ K:=by simpa using hq
 unfold Ri;rw[Nz h Vc,NG (wO h),vg,ff];rw[show(Zf&&Zf&&Zy ((K.length:Int)<=100000000))=Zf by simp;omega];rfl
theorem Ny{β:Type}{K L:List Int}(ha:wM K=Zf)(h:K.length+L.length<=100000000)(y1 y2:List AV){k:Ex×List AV->Option β}{A:β}(hk:k (.exit 0,[iv L.length,.aI (dP (jA K L)),.aI y1,.aI y2])=Zw A):Zz (bJ (Sn (dP L)) [iv 0,.aI (dP K),.aI y1,.aI y2]) k=Zw A:=by
 refine ox (fun i=>[iv i,.aI (dP (jA K (L.take i))),.aI y1,.aI y2]) L.length (fun i hi=> ?_) ⟨(.exit 0,[iv L.length,.aI (dP (jA K L)),.aI y1,.aI y2]),?_,hk⟩ rfl
 ·have oA:i<(dP L).length:=by rw[ff];exact hi
  have hm:(jA K (L.take i)).length<=100000000:=Zp wK (by rw[List.length_take];omega);show aG (Zy ((i:Int)<((dP L).length:Int))) (yx i (dP L) (AV.ax .u64 ((dP L).getD (Zv i) .undef) _)) _=_;rw[af (rq oA),lh oA,Zx,lN hi];show mr (vC (dP (jA K (L.take i))) (L.getD i 0)) _=_;rw[ua _ hm];show aG (!(jA K (L.take i)).contains (L.getD i 0)) _ _=_;rw[I5 K L hi];cases hc:(jA K (L.take i)).contains (L.getD i 0) with
  | true =>
   rw[Yx,aF,wA (by omega)];rfl
  | false =>
   rw[Zb,cc,KB (nE ha) hc hm,wA (by omega)];rfl
 ·show aG (Zy ((L.length:Int)<((dP L).length:Int))) _ _=_;rw[ai (by rw[ff];simp),List.take_length]
theorem FB{n:Nat}(h:n<=100000000):Go.Abs.room (n+1) 24=Zf:=by
 unfold Go.Abs.room;simp only[Bool.and_eq_true,Nat.ble_eq];omega
theorem yq(B:List Bytes)(q:Bytes):dl B++[.bs q]=dl (B++[q]):=by simp[dl]
theorem Nw{β:Type}{K L:List Bytes}(h:K.length+L.length<=100000000)(y y2:List AV){k:Ex×List AV->Option β}{A:β}(hk:k (.exit 2,[iv L.length,.aI y,.aI (dl (fU K L)),.aI y2])=Zw A):Zz (bJ (Nx (dl L)) [iv 0,.aI y,.aI (dl K),.aI y2]) k=Zw A:=by
 refine ox (fun i=>[iv i,.aI y,.aI (dl (fU K (L.take i))),.aI y2]) L.length (fun i hi=> ?_) ⟨(.exit 2,[iv L.length,.aI y,.aI (dl (fU K L)),.aI y2]),?_,hk⟩ rfl
 ·have oA:i<(dl L).length:=by rw[d_];exact hi
  have hm:(fU K (L.take i)).length<=100000000:=Zp (F4 _ _) (by rw[List.length_take];omega);show aG (Zy ((i:Int)<((dl L).length:Int))) (yx i (dl L) (Yu ((dl L).getD (Zv i) .undef) _)) _=_;rw[af (rq oA),lh oA,Zx,lM hi];show mr (xK (dl (fU K (L.take i))) (L.getD i [])) _=_;rw[xL _ hm];show aG (!(fU K (L.take i)).contains (L.getD i [])) (aD (Go.Abs.room ((dl (fU K (L.take i))).length+1) 24) (Zw (Sum.inl [up i,.aI y,.aI (dl (fU K (L.take i))++[.bs (L.getD i [])]),.aI y2]))) _=_;rw[Aw K L hi,d_,FB hm,yq];cases hc:(fU K (L.take i)).contains (L.getD i []) with
  | true =>
   rw[Yx,aF,wA (by omega)];rfl
  | false =>
   rw[Zb,cc,wA (by omega)];rfl
 ·show aG (Zy ((L.length:Int)<((dl L).length:Int))) _ _=_;rw[ai (by rw[d_];simp),List.take_length]
def rT(s:Kn)(M:List AV):List AV:=[.aI (dP s.keys),.aI (dl s.boxes),.aI M]
theorem N5{s:Kn}{x:IV}(hs:fL s)(hk:x.keys.length<=1)(hb:x.boxes.length<=1)(b:Bool)(n:Int)(M:List AV):Dm b n (dP x.keys) (dl x.boxes) (dP s.keys) (dl s.boxes) M=Zw (.inr (.ret,.bool Zf::iv n::rT (s.add x) M)):=by
 have h1:=hs.G9;have h2:=hs.yE;unfold Dm;refine Ny hs.wM (by omega) _ _ ?_;show Zz (bJ (Nx (dl x.boxes)) _) _=_;refine Nw (by omega) _ _ ?_;rfl
theorem Tq{s:Kn}{x:IV}:s.has x=(!(x.keys.any fun k => !s.keys.contains k) && !(x.boxes.any fun b => !s.boxes.contains b)):=by
 unfold Kn.has;rw[List.all_eq_not_any_not,List.all_eq_not_any_not]
theorem O'{s:Kn}(hs:fL s){t:Bytes}(ht:t.length<=70368744170000)(b:Bool)(n:Int)(M:List AV) :
  DQ b n (dP s.keys) (dl s.boxes) M t=Zw (if s.opens t=Zf then .inr (.ret,.bool Zf::iv n::rT (s.add (cP t)) (oY (iv n) (.bool Zf) M))
   else .inl (.bool b::up n::rT s (if (bm t).err=0/\s.keys.contains (bm t).box.key=Zf then oY (iv n) (.bool Zf) M else M))):=by
 have h1:=hs.G9;have h2:=hs.yE;unfold DQ;rw[ae (by simp;omega)];show aG (!((bm t).err==0)) _ _=_;by_cases he:(bm t).err=0;case neg =>
  rw[af (by simpa using he),Qa0 (by rw[uX];exact fun h=>he h.1),Qa0 (fun h=>he h.1)];rfl
 rw[ai (by simpa using he)];have ho:s.opens t=(s.keys.contains (bm t).box.key && !s.has (cP t)):=by unfold Kn.opens;rw[he];rfl
 rw[ho,ua _ (by omega)];show aG (!s.keys.contains (bm t).box.key) _ _=_;cases hk:s.keys.contains (bm t).box.key with
 | false =>
  rw[Zb,cc,Bool.false_and,Qa0 Bool.false_ne_true,Qa0 (fun h=>Bool.false_ne_true h.2)];rfl
 | true =>
  have lC:(bm t).box.body.length<=70368744170000:=by
   rcases np t with h | h
   ·omega
   ·rw[h];exact Yw _
  have hi:=A6 t;rw[Yx,aF,ae (by simp;omega),Bool.true_and,Qa1 (show(bm t).err=0/\Zf=Zf from⟨he,rfl⟩)];show mr (YW (dP s.keys) (dP (cP t).keys)) _=_;have g:=N5 hs hi.keys hi.boxes b n (oY (iv n) (.bool Zf) M);rw[Ta _ (by omega) (by have:=hi.keys;omega)];show aG (!(cP t).keys.any fun k => !s.keys.contains k) (mr (YV (dl s.boxes) (dl (cP t).boxes)) _) (Dm b n (dP (cP t).keys) (dl (cP t).boxes) (dP s.keys) (dl s.boxes) (oY (iv n) (.bool Zf) M))=_;rw[S' _ (by omega) (by have:=hi.boxes;omega),g,Tq];show aG (!(cP t).keys.any fun k => !s.keys.contains k) (aG (!(cP t).boxes.any fun k => !s.boxes.contains k) _ (Dm b n (dP (cP t).keys) (dl (cP t).boxes) (dP s.keys) (dl s.boxes) (oY (iv n) (.bool Zf) M))) _=_;rw[g];cases (cP t).keys.any fun k => !s.keys.contains k<;>cases (cP t).boxes.any fun k => !s.boxes.contains k<;>rfl
def As(M:List AV)(s:Kn):Prop:=∀ i,i<s.boxes.length->getM (iv i) M (.bool Zu) = .bool Zu\/(getM (iv i) M (.bool Zu) = .bool Zf/\s.done (s.boxes.getD i [])=Zf)
theorem Bc(n m:Int):mV (iv n) (iv m)=(n==m):=by simp[mV,iv]
theorem AP(n m:Int)(d v:AV):∀ {M:List AV},getM (iv m) (oY (iv n) v M) d=if n=m then v else getM (iv m) M d
 | []=>by
  show(bif mV (iv n) (iv m) then Zw v else Yj).getD d=_;rw[Bc];by_cases h:n=m
  ·rw[Qa1 h,show(n==m)=Zf by simpa using h];rfl
  ·rw[Qa0 h,show(n==m)=Zu by simpa using h];rfl
 | e::r=>by
  have ih:=AP n m d v (M:=r);unfold getM at ih ⊢;show(pD (iv m) (bif mV (gB e) (iv n) then AV.aQ [iv n,v]::r else e::oY (iv n) v r)).getD d=_;cases he:mV (gB e) (iv n) with
  | true =>
   have hk:gB e=iv n:=by
    cases U8:gB e<;>rw[U8] at he<;>simp only[mV,iv] at he<;>try cases he
    simp only[Bool.and_eq_true,Qb1] at he;rw[he.1,he.2]
   show(bif mV (iv n) (iv m) then Zw v else pD (iv m) r).getD d=if n=m then v else(bif mV (gB e) (iv m) then Zw (tP e) else pD (iv m) r).getD d
   rw[hk,Bc];by_cases h:n=m
   ·rw[Qa1 h,show(n==m)=Zf by simpa using h];rfl
   ·rw[Qa0 h,show(n==m)=Zu by simpa using h];rfl
  | false =>
   show(bif mV (gB e) (iv m) then Zw (tP e) else pD (iv m) (oY (iv n) v r)).getD d=if n=m then v else(bif mV (gB e) (iv m) then Zw (tP e) else pD (iv m) r).getD d
   cases hm:mV (gB e) (iv m) with
   | false=>exact ih
   | true =>
    have hk:gB e=iv m:=by
     cases U8:gB e<;>rw[U8] at hm<;>simp only[mV,iv] at hm<;>try cases hm
     simp only[Bool.and_eq_true,Qb1] at hm;rw[hm.1,hm.2]
    rw[hk,Bc] at he;rw[Qa0 (by intro h;subst h;simp at he)];rfl
theorem As.put{M:List AV}{s:Kn}(h:As M s){j:Nat}(hd:s.done (s.boxes.getD j [])=Zf):As (oY (iv j) (.bool Zf) M) s:=by
 intro i hi;rw[AP];by_cases e:(j:Int)=i
 ·obtain rfl:j=i:=by omega
  rw[Qa1 e];exact .inr ⟨rfl,hd⟩
 ·rw[Qa0 e];exact h i hi
theorem As.grow{M:List AV}{s:Kn}(h:As M s)(x:IV)(hx:∀ i,s.boxes.length<=i->getM (iv i) M (.bool Zu) = .bool Zu):As M (s.add x):=by
 intro i hi;by_cases e:i<s.boxes.length
 ·rcases h i e with h | ⟨h1,h2⟩
  ·exact .inl h
  ·refine .inr ⟨h1,?_⟩;obtain⟨N,e1,_⟩:=jn (l:=x.boxes) (B:=s.boxes);have e2:(s.add x).boxes.getD i []=s.boxes.getD i []:=by
    show(fU s.boxes x.boxes).getD i []=_;rw[e1,Zg,Zg,List.getElem?_append_left e]
   rw[e2];exact(FL s x).done h2
 ·exact .inl (hx i (by omega))
def Ej(M:List AV)(N:Nat):Prop:=∀ i:Nat,N<=i->getM (iv i) M (.bool Zu) = .bool Zu
theorem Ej.put{M:List AV}{N j:Nat}(h:Ej M N)(hj:j<N):Ej (oY (iv j) (.bool Zf) M) N:=by
 intro i hi;rw[AP,Qa0 (by omega)];exact h i hi
structure qc (M:List AV) (s:Kn):Prop where
 ok:As M s
 low:Ej M s.boxes.length
theorem Ru{s:Kn}{t:Bytes}(he:(bm t).err=0)(hk:s.keys.contains (bm t).box.key=Zf)(ho:s.opens t=Zu):s.done t=Zf:=by simp_all [Bool.true_and,Kn.done,Kn.opens]
theorem Jh{s:Kn}{t:Bytes}(h:s.done t=Zf):s.opens t=Zu:=by
 unfold Kn.done at h;unfold Kn.opens;cases h0:(bm t).err==0
 ·rfl
 ·rw[h0] at h;have h':s.has (cP t)=Zf:=h;rw[h'];simp
def Next(s:Kn)(r:Ex×List AV):Prop:=(s.next=Yj/\∃ M,qc M s/\r=(.exit 0,.bool Zu::iv s.boxes.length::rT s M))\/∃ b M n,s.next=Zw b/\qc M (s.add (cP b))/\r=(.ret,.bool Zf::iv n::rT (s.add (cP b)) M)
theorem O7{β:Type}{s:Kn}(hs:fL s){M:List AV}(hM:qc M s){k:Ex×List AV->Option β}{Q:β->Prop}(hk:∀ r,Next s r->∃ x,k r=Zw x/\Q x):∃ x,Zz (bJ (La (dl s.boxes)) (.bool Zu::iv 0::rT s M)) k=Zw x/\Q x:=by
 have h2:=hs.yE;refine E8 (enc:=fun(q:Nat×List AV) => .bool Zu::iv (q.1:Int)::rT s q.2) (I:=fun q=>q.1<=s.boxes.length/\qc q.2 s/\∀ j,j<q.1->s.opens (s.boxes.getD j [])=Zu) (μ:=fun q=>s.boxes.length-q.1) (R:=Next s) (0,M) ⟨Yw _,hM,fun j h=>by omega⟩ rfl ?_ hk;rintro⟨i,M⟩ ⟨hi,hM,hj⟩;dsimp only at hi hM hj;by_cases h:i<s.boxes.length;case neg =>
  obtain rfl:i=s.boxes.length:=by omega
  refine⟨.inr (.exit 0,.bool Zu::iv s.boxes.length::rT s M),?_,.inl ⟨?_,M,hM,rfl⟩⟩
  ·show aG (Zy ((s.boxes.length:Int)<((dl s.boxes).length:Int))) _ _=_;rw[ai (by rw[d_];simp)];rfl
  ·unfold Kn.next;rw[List.find?_eq_none];intro x hx;obtain⟨j,Q9,rfl⟩:=List.mem_iff_getElem.1 hx;have:=hj j Q9;simpa [Zg,Q9] using this
 have oA:i<(dl s.boxes).length:=by rw[d_];exact h
 have rf:s.boxes.getD i []∈s.boxes:=by simp[Zg,h]
 have e0:La (dl s.boxes) (.bool Zu::iv (i:Int)::rT s M)=AV.dD (getM (iv i) M (.bool Zu)) fun b3=>aG (!b3) (DQ Zu i (dP s.keys) (dl s.boxes) M (s.boxes.getD i [])) (Zw (.inl (.bool Zu::up i::rT s M))):=by
  show aG (Zy ((i:Int)<((dl s.boxes).length:Int))) (AV.dD (getM (iv i) M (.bool Zu)) fun b3=>aG (!b3) (CQ i (dl s.boxes) (Yu ((dl s.boxes).getD (Zv i) .undef) fun t=>DQ Zu i (dP s.keys) (dl s.boxes) M t)) _) _=_;rw[af (rq oA),xE oA,Zx,lM h];rfl
 have step:∀ M',qc M' s->s.opens (s.boxes.getD i [])=Zu->Da (fun(q:Nat×List AV)=>Zq Zu::iv (q.1:Int)::rT s q.2) (fun q=>q.1<=s.boxes.length/\qc q.2 s/\∀ j,j<q.1->s.opens (s.boxes.getD j [])=Zu) (fun q=>s.boxes.length-q.1) (Next s) (i,M) (.inl (.bool Zu::up i::rT s M')):=fun M' YZ ho =>
  ⟨(i+1,M'),by dsimp only;rw[wA (by omega)],⟨h,YZ,fun j IZ=>by
   by_cases e:j=i
   ·rw[e];exact ho
   ·exact hj j (by dsimp only at IZ;omega)⟩,show s.boxes.length-(i+1)<s.boxes.length-i by omega⟩
 dsimp only;rw[e0];rcases hM.ok i h with hg | ⟨hg,hd⟩
 ·rw[hg];show ∃ y,DQ Zu i (dP s.keys) (dl s.boxes) M (s.boxes.getD i [])=Zw y/\_;rw[O' hs (hs.len _ rf)];by_cases ho:s.opens (s.boxes.getD i [])=Zf
  ·rw[Qa1 ho];have hd:(s.add (cP (s.boxes.getD i []))).done (s.boxes.getD i [])=Zf:=by unfold Kn.done;rw[KD];simp
   refine⟨_,rfl,.inr ⟨s.boxes.getD i [],oY (iv i) (.bool Zf) M,i,?_,?_,rfl⟩⟩
   ·unfold Kn.next;rw[List.find?_eq_some_iff_getElem];refine⟨ho,i,h,by simp[Zg,h],fun j Q9=> ?_⟩;have:=hj j Q9;simpa [Zg,Nat.lt_trans Q9 h] using this
   ·have hl:s.boxes.length<=(s.add (cP (s.boxes.getD i []))).boxes.length:=by
     obtain⟨N,e1,_⟩:=jn (l:=(cP (s.boxes.getD i [])).boxes) (B:=s.boxes);show _<=(fU s.boxes _).length;rw[e1,Zm];omega
    have e2:(s.add (cP (s.boxes.getD i []))).boxes.getD i []=s.boxes.getD i []:=by
     obtain⟨N,e1,_⟩:=jn (l:=(cP (s.boxes.getD i [])).boxes) (B:=s.boxes);show(fU s.boxes _).getD i []=_;rw[e1,Zg,Zg,List.getElem?_append_left h]
    exact⟨(hM.ok.grow _ hM.low).put (by rw[e2];exact hd),fun j Q9=>(hM.low.put h) j (Zp hl Q9)⟩
  ·have Js:s.opens (s.boxes.getD i [])=Zu:=by simpa using ho
   rw[Qa0 ho];by_cases hq:(bm (s.boxes.getD i [])).err=0/\s.keys.contains (bm (s.boxes.getD i [])).box.key=Zf
   ·rw[Qa1 hq];exact⟨_,rfl,step _ ⟨hM.ok.put (Ru hq.1 hq.2 Js),hM.low.put h⟩ Js⟩
   ·rw[Qa0 hq];exact⟨_,rfl,step _ hM Js⟩
 ·rw[hg];exact⟨_,rfl,step _ hM (Jh hd)⟩
theorem KP{s:Kn}(hs:fL s):LJ (dP s.keys) (dl s.boxes) []=Zw (.agg [.sl 1 (dP (close s).keys),.sl 1 (dl (close s).boxes)],[]):=by
 unfold LJ;refine bW (enc:=fun(q:Kn×List AV)=>rT q.1 q.2) (I:=fun q=>fL q.1/\qc q.2 q.1/\close q.1=close s) (μ:=fun q=>nK q.1) (R:=fun r=>∃ M,r=(.exit 0,rT (close s) M)) (s,[]) ⟨hs,⟨fun i hi => .inl rfl,fun i hi=>rfl⟩,rfl⟩ rfl ?_ ?_
 ·rintro⟨t,M⟩ ⟨ht,hM,hc⟩;dsimp only at ht hM hc;have key:∃ y,Tk (rT t M)=Zw y/\Da (fun(q:Kn×List AV)=>rT q.1 q.2) (fun q=>fL q.1/\qc q.2 q.1/\close q.1=close s) (fun q=>nK q.1) (fun r=>∃ M,r=(.exit 0,rT (close s) M)) (t,M) y:=by
   have e0:Tk (rT t M)=Zz (bJ (La (dl t.boxes)) (.bool Zu::iv 0::rT t M)) fun r=>ar r.2 fun b r1=>ag .i64 r1 fun _ r1=>td r1 fun y r1=>td r1 fun y5 r1=>td r1 fun y6 r1=>ak r1
     (jW r.1 (aG b (Zw (.inl [.aI y,.aI y5,.aI y6])) (Zw (.inr (.exit 0,[.aI y,.aI y5,.aI y6])))) fun j=>aG (Yv j 0) (Zw (.inr (.exit 0,[.aI y,.aI y5,.aI y6]))) Yj):=rfl
   rw[e0];refine O7 ht hM ?_;rintro r (⟨hn,M',YZ,rfl⟩ | ⟨b,M',n,hn,YZ,rfl⟩)
   ·exact⟨_,rfl,M',by rw[<-hc,vP hn];rfl⟩
   ·obtain⟨g1,g2⟩:=rA hn;exact⟨_,rfl,(t.add (cP b),M'),rfl,⟨ht.open g1 g2,YZ,by rw[<-AD hn];exact hc⟩,pP g1 g2⟩
  exact key
 ·rintro r ⟨M,rfl⟩;rfl
theorem Mg{ks bs:List AV}{b:Bytes}(h:vZ ks bs=Zf)(hm:nK (kn ks bs)+2*b.length+2100<=1000000):JF ks bs b=Zw (.agg [.sl 1 (dP (learn (kn ks bs) b).keys),.sl 1 (dl (learn (kn ks bs) b).boxes)],[]):=by
 obtain⟨s,rfl,rfl,hs⟩:=Lc h;rw[DA] at hm ⊢;have h2:=hs.yE;have h3:=hs.G9;have hp:=mh b;unfold JF Rp;rw[vg,ff,ae (by simp;omega)];show Zz (aD (tr (dl s.boxes)&&Zy ((dl s.boxes).length<=1000000)) _) _=_;rw[yp,d_,ae (by simp;omega)];show Zz (aD (Zy (b.length<=70368744170000)) _) _=_;rw[ae (by simp;omega)];show Zz (bJ SM [.sl 1 [],.sl 1 [],.aI (dP s.keys),.aI (dl s.boxes),.aI [],.sl 1 (dl (partsOf b)),iv (dl (partsOf b)).length,iv 0]) _=_;refine ox (fun i=>[.sl 1 [],.sl 1 [],.aI (dP s.keys),.aI (dl (fU s.boxes ((partsOf b).take i))),.aI [],.sl 1 (dl (partsOf b)),iv (dl (partsOf b)).length,iv i]) (partsOf b).length (fun i hi=> ?_)
  ⟨(.exit 0,[.sl 1 [],.sl 1 [],.aI (dP s.keys),.aI (dl (fU s.boxes (partsOf b))),.aI [],.sl 1 (dl (partsOf b)),iv (dl (partsOf b)).length,iv (partsOf b).length]),?_,?_⟩ rfl
 ·have oA:i<(dl (partsOf b)).length:=by rw[d_];exact hi
  have hl:(fU s.boxes ((partsOf b).take i)).length<=100000000:=Zp (F4 _ _) (by rw[List.length_take];omega);show aG (Zy ((i:Int)<((dl (partsOf b)).length:Int))) (yx i (dl (partsOf b)) (Yu ((dl (partsOf b)).getD (Zv i) .undef) _)) _=_;rw[af (rq oA),lh oA,Zx,lM hi];show mr (xK (dl (fU s.boxes ((partsOf b).take i))) ((partsOf b).getD i [])) _=_;rw[xL _ hl];show aG (!(fU s.boxes ((partsOf b).take i)).contains ((partsOf b).getD i [])) (aD (Go.Abs.room ((dl (fU s.boxes ((partsOf b).take i))).length+1) 24) (Zw (Sum.inl [.sl 1 [],.sl 1 [],.aI (dP s.keys),.aI (dl (fU s.boxes ((partsOf b).take i))++[.bs ((partsOf b).getD i [])]),.aI [],.sl 1 (dl (partsOf b)),iv (dl (partsOf b)).length,up i]))) _=_;rw[Aw s.boxes (partsOf b) hi,d_ (fU _ _),FB hl,yq];cases hc:(fU s.boxes ((partsOf b).take i)).contains ((partsOf b).getD i []) with
  | true =>
   rw[Yx,aF,wA (by omega)];rfl
  | false =>
   rw[Zb,cc,wA (by omega)];rfl
 ·show aG (Zy (((partsOf b).length:Int)<((dl (partsOf b)).length:Int))) _ _=_;rw[ai (by rw[d_];simp),List.take_length]
 ·show LJ (dP s.keys) (dl (fU s.boxes (partsOf b))) []=_;exact KP (s:=s.add ⟨[],partsOf b⟩) (hs.parts hm)
theorem OP{ks bs:List AV}{k:Int}(h:vZ ks bs=Zf)(hk:(Zy (0<=k)&&Zy (k<18446744073709551616))=Zf)(hm:nK (kn ks bs)+1<=1000000):OO ks bs k=Zw (.agg [.sl 1 (dP (leak (kn ks bs) k).keys),.sl 1 (dl (leak (kn ks bs) k).boxes)],[]):=by
 obtain⟨s,rfl,rfl,hs⟩:=Lc h;rw[DA] at hm ⊢;have h2:=hs.G9;have h3:=hs.yE;unfold OO Rp;rw[vg,ff,ae (by simp;omega)];show Zz (aD (tr (dl s.boxes)&&Zy ((dl s.boxes).length<=1000000)) _) _=_;rw[yp,d_,ae (by simp;omega)];show Zz (aD (Zy (0<=k)&&Zy (k<18446744073709551616)) _) _=_;rw[ae hk];show Zz (aG (bA k) (mr (vC (dP s.keys) k) _) _) _=_;rw[ua _ (by omega)];show Zz (aG (bA k) (aG (!s.keys.contains k) _ _) _) _=_;have fin:LJ (dP (jA s.keys (ez [k]))) (dl s.boxes) []=Zw (.agg [.sl 1 (dP (leak s k).keys),.sl 1 (dl (leak s k).boxes)],[]):=KP (s:=s.add ⟨ez [k],[]⟩) (hs.OR hm);cases hv:bA k with
 | false =>
  rw[show ez [k]=[] by simp[ez,hv]] at fin;exact fin
 | true =>
  rw[show ez [k]=[k] by simp[ez,hv]] at fin;have e:jA s.keys [k]=bif s.keys.contains k then s.keys else oE s.keys k:=rfl
  rw[e] at fin;cases hc:s.keys.contains k with
  | true=>rw[hc] at fin;exact fin
  | false =>
   rw[hc] at fin;rw[cc,Zb,cc,KB hs.wM hc (by omega)];exact fin
end Kerb
/- Chapter 27: small loops. -/
namespace Kerb
open Go Go.Abs
theorem wT{l:List Bytes}{i:Nat}(h:i<l.length):gx (l.take (i+1))=bif ol (l.getD i []) then gx (l.take i)++[l.getD i []] else gx (l.take i):=by
 rw[ve [] h];unfold gx;rw[List.filter_append];generalize l.getD i []=b;cases hb:ol b<;>simp[List.filter_cons,hb]
theorem FR{l:List Int}{i:Nat}(h:i<l.length):ez (l.take (i+1))=bif bA (l.getD i 0) then ez (l.take i)++[l.getD i 0] else ez (l.take i):=by
 rw[ve 0 h];unfold ez;rw[List.filter_append];generalize l.getD i 0=b;cases hb:bA b<;>simp[List.filter_cons,hb]
theorem QW(B:List Int)(q:Int):dP B++[.int .u64 q]=dP (B++[q]):=by simp[dP]
theorem Uq{n:Nat}(h:n<=1000000000):Go.Abs.room n 8=Zf:=by
 unfold Go.Abs.room;simp only[Bool.and_eq_true,Nat.ble_eq];omega
theorem ND{α:Type}[BEq α][LawfulBEq α]{K L:List α}(d:α)(h:K.length=L.length):((Zj K.length).any fun i => !(K.getD i d==L.getD i d)) = !(K==L):=by
 cases he:K==L with
 | true =>
  obtain rfl:=Qb0 he;rw[List.any_eq_false.2]
  ·rfl
  ·intro x _;simp
 | false =>
  have hU:K≠L:=by intro e;subst e;simp at he
  rw[Zb,List.any_eq_true];refine Classical.byContradiction fun hc=>hU (List.ext_getElem h fun i h1 h2=> ?_);refine Classical.byContradiction fun hi=>hc ⟨i,Yz.2 h1,?_⟩;simpa [Zg,h1,h2] using hi
theorem Cr{i:Nat}(h:i<=1000000000):Zk .i64 ((i:Int)+1)=((i+1:Nat):Int):=by
 rw[wrap_i64 (by omega) (by omega)];rfl
theorem RA(i:Nat):Zy ((0:Int)<=(i:Int))=Zf:=by simp
theorem XD{l:List Int}{i:Nat}(h:i<l.length):Zy ((i:Int)<((dP l).length:Int))=Zf:=by rw[ff];simp;omega
theorem Ve{l:List Bytes}{i:Nat}(h:i<l.length):Zy ((i:Int)<((dl l).length:Int))=Zf:=by rw[d_];simp;omega
theorem N4{l:List Int}{i:Nat}(h:i<l.length):Zg (dP l) (Zv (i:Int)) .undef = .int .u64 (l.getD i 0):=by rw[Zx];exact lN h
theorem LM{l:List Bytes}{i:Nat}(h:i<l.length):Zg (dl l) (Zv (i:Int)) .undef = .bs (l.getD i []):=by rw[Zx];exact lM h
theorem noK(l:List Int):Zy ((l.length:Int)<((dP l).length:Int))=Zu:=by rw[ff];simp
theorem XI(l:List Bytes):Zy ((l.length:Int)<((dl l).length:Int))=Zu:=by rw[d_];simp
theorem xp{α:Type}{l:List α}{i:Nat}(d:α)(h:i<l.length):l.getD i d∈l:=by simp[Zg,h]
noncomputable def Ua(y:List AV)(k:Int)(l:List AV):St:=ag .i64 l fun n r=>ag .i64 r fun i r=>ak r
 (aG (Zy (i<(y.length:Int))) (yx i y (AV.ax .u64 (y.getD (Zv i) .undef) fun q=>aG (k==q) (Zw (.inr (.ret,[iv i,iv i]))) (Zw (.inl [iv n,up i]))))
  (Zw (.inr (.exit 0,[iv n,iv i]))))
noncomputable def E2(y:List AV)(k:Int):Option (List AV):=Zz (bJ (Ua y k) [iv 0,iv 0]) G8
noncomputable def v_(y:List AV)(k:Int):Option (List AV):=mr (E2 y k) fun b=>Zw [.bool !b]
noncomputable def VF(y kl:List AV)(l:List AV):St:=ag .i64 l fun n r=>ag .i64 r fun i r=>ak r
 (aG (Zy (i<(kl.length:Int))) (yx i kl (AV.ax .u64 (kl.getD (Zv i) .undef) fun q=>mr (v_ y q) fun b=>aG b (Zw (.inr (.ret,[iv i,iv i]))) (Zw (.inl [iv n,up i]))))
  (Zw (.inr (.exit 0,[iv n,iv i]))))
noncomputable def Rr(y kl:List AV):Option (List AV):=Zz (bJ (VF y kl) [iv 0,iv 0]) G8
noncomputable def Ub(y:List AV)(b:List UInt8)(l:List AV):St:=ar l fun c r=>ag .i64 r fun i r=>ak r
 (aG (Zy (i<(y.length:Int))) (yx i y (Yu (y.getD (Zv i) .undef) fun q=>aG (q==b) (Zw (.inr (.ret,[.bool Zu,iv i]))) (Zw (.inl [.bool c,up i]))))
  (Zw (.inr (.exit 0,[.bool c,iv i]))))
noncomputable def JE(y:List AV)(b:List UInt8):Option (List AV):=Zz (bJ (Ub y b) [.bool Zu,iv 0]) fun r=>ar r.2 fun c r1=>ag .i64 r1 fun _ r2=>ak r2 (jW r.1 (Zw [.bool c]) fun j=>aG (Yv j 0) (Zw [.bool Zf]) Yj)
theorem DB{K:List Int}(k:Int)(h:K.length<=100000000):E2 (dP K) k=Zw [.bool (K.contains k)]:=by
 have e:E2 (dP K) k=Zw (bif (Zj (dP K).length).any (fun i=>k==K.getD i 0) then[Zq Zf] else[Zq Zu]):=by
  refine oa (fun i=>[iv 0,iv i]) _ _ ?_ ?_ ?_ rfl
  ·intro i hi hp;have jX:i<K.length:=by rw[<-ff];exact hi
   show aG (Zy ((i:Int)<((dP K).length:Int))) (yx i (dP K) (AV.ax .u64 ((dP K).getD (Zv i) .undef) _)) _=_;rw[af (rq hi),lh hi,Zx,lN jX];show aG (k==K.getD i 0) _ _=_;rw[ai hp,wA (by omega)]
  ·intro i hi hp;have jX:i<K.length:=by rw[<-ff];exact hi
   refine⟨(.ret,[iv i,iv i]),?_,?_⟩
   ·show aG (Zy ((i:Int)<((dP K).length:Int))) (yx i (dP K) (AV.ax .u64 ((dP K).getD (Zv i) .undef) _)) _=_;rw[af (rq hi),lh hi,Zx,lN jX];show aG (k==K.getD i 0) _ _=_;rw[af hp]
   ·show Zw [Zq (Zy ((i:Int)>=0))]=_;rw[show Zy ((i:Int)>=0)=Zf by simp]
  ·refine⟨(.exit 0,[iv 0,iv (dP K).length]),?_,rfl⟩;show aG (Zy (((dP K).length:Int)<((dP K).length:Int))) _ _=_;rw[ai JN]
 rw[e,ff,lZ K 0 (fun x=>k==x),sG];cases K.contains k<;>rfl
theorem yV{K:List Int}(k:Int)(h:K.length<=100000000):v_ (dP K) k=Zw [.bool (!K.contains k)]:=by
 unfold v_;rw[DB k h];rfl
theorem Rs{K:List Int}(L:List Int)(h:K.length<=100000000)(hl:L.length<=100000000):Rr (dP K) (dP L)=Zw [.bool (L.any fun k => !K.contains k)]:=by
 have e:Rr (dP K) (dP L)=Zw (bif (Zj (dP L).length).any (fun i => !K.contains (L.getD i 0)) then[Zq Zf] else[Zq Zu]):=by
  refine oa (fun i=>[iv 0,iv i]) _ _ ?_ ?_ ?_ rfl
  ·intro i hi hp;have jX:i<L.length:=by rw[<-ff];exact hi
   show aG (Zy ((i:Int)<((dP L).length:Int))) (yx i (dP L) (AV.ax .u64 ((dP L).getD (Zv i) .undef) _)) _=_;rw[af (rq hi),lh hi,Zx,lN jX];show mr (v_ (dP K) (L.getD i 0)) _=_;rw[yV _ h];show aG (!K.contains (L.getD i 0)) _ _=_;rw[ai hp,wA (by omega)]
  ·intro i hi hp;have jX:i<L.length:=by rw[<-ff];exact hi
   refine⟨(.ret,[iv i,iv i]),?_,?_⟩
   ·show aG (Zy ((i:Int)<((dP L).length:Int))) (yx i (dP L) (AV.ax .u64 ((dP L).getD (Zv i) .undef) _)) _=_;rw[af (rq hi),lh hi,Zx,lN jX];show mr (v_ (dP K) (L.getD i 0)) _=_;rw[yV _ h];show aG (!K.contains (L.getD i 0)) _ _=_;rw[af hp]
   ·show Zw [Zq (Zy ((i:Int)>=0))]=_;rw[show Zy ((i:Int)>=0)=Zf by simp]
  ·refine⟨(.exit 0,[iv 0,iv (dP L).length]),?_,rfl⟩;show aG (Zy (((dP L).length:Int)<((dP L).length:Int))) _ _=_;rw[ai JN]
 rw[e,ff,lZ L 0 (fun x => !K.contains x)];cases L.any fun k => !K.contains k<;>rfl
theorem Me{B:List Bytes}(b:Bytes)(h:B.length<=100000000):JE (dl B) b=Zw [.bool (!B.contains b)]:=by
 have e:JE (dl B) b=Zw (bif (Zj (dl B).length).any (fun i=>B.getD i []==b) then[Zq Zu] else[Zq Zf]):=by
  refine oa (fun i=>[.bool Zu,iv i]) _ _ ?_ ?_ ?_ rfl
  ·intro i hi hp;have jX:i<B.length:=by rw[<-d_];exact hi
   show aG (Zy ((i:Int)<((dl B).length:Int))) (yx i (dl B) (Yu ((dl B).getD (Zv i) .undef) _)) _=_;rw[af (rq hi),lh hi,Zx,lM jX];show aG (B.getD i []==b) _ _=_;rw[ai hp,wA (by omega)]
  ·intro i hi hp;have jX:i<B.length:=by rw[<-d_];exact hi
   refine⟨(.ret,[.bool Zu,iv i]),?_,rfl⟩;show aG (Zy ((i:Int)<((dl B).length:Int))) (yx i (dl B) (Yu ((dl B).getD (Zv i) .undef) _)) _=_;rw[af (rq hi),lh hi,Zx,lM jX];show aG (B.getD i []==b) _ _=_;rw[af hp]
  ·refine⟨(.exit 0,[.bool Zu,iv (dl B).length]),?_,rfl⟩;show aG (Zy (((dl B).length:Int)<((dl B).length:Int))) _ _=_;rw[ai JN]
 rw[e,d_,lZ B [] (fun x=>x==b),qR];cases B.contains b<;>rfl
abbrev Md(ks bs:List AV):aw:=[[.sl 1 ks,.sl 1 bs]]
noncomputable def XF{α:Type}(c:Bool)(ks bs:List AV)(q:List UInt8)(f:List AV->List AV->Bool->Option α):Option α:=Zz (aD c (Zw (Zq (!eW (kn ks bs) q),Md ks bs))) fun r=>aB r.2 fun x r1=>cL 1 x fun k2 r2=>cL 1 r2 fun b3 r3=>ak r3 (aE r1 (AV.dD r.1 (f k2 b3)))
theorem O2{α:Type}{c:Bool}(hc:c=Zf)(s:Kn)(q:List UInt8)(f:List AV->List AV->Bool->Option α):XF c (dP s.keys) (dl s.boxes) q f=f (dP s.keys) (dl s.boxes) (!eW s q):=by
 unfold XF;rw[DA,ae hc];rfl
noncomputable def mkS(zX:Nat)(bl:List AV)(l:List AV):St:=ag .i64 l fun n r=>ag .i64 r fun i r=>cL 1 r fun ks r=>cL 1 r fun bs r=>ak r
 (aG (Zy (i<(bl.length:Int))) (yx i bl (Yu (bl.getD (Zv i) .undef) fun q=>XF (vZ ks bs&&Zy (q.length<=70368744170000)&&Zy ((q.length:Int)<(zX:Int))) ks bs q fun k2 b3 b4 =>
   aG b4 (Zw (.inr (.ret,[iv i,iv i,.sl 1 k2,.sl 1 b3]))) (Zw (.inl [iv n,up i,.sl 1 k2,.sl 1 b3]))))
  (Zw (.inr (.exit 0,[iv n,iv i,.sl 1 ks,.sl 1 bs]))))
noncomputable def O0(zX:Nat)(ks bs:List AV)(b:List UInt8):Option (AV×aw) :=
 mr (JE bs b) fun b1=>aG (!b1) (Zw (.bool Zu,Md ks bs)) (Zz (aD (Zy (b.length<=140737488355328)) (Zw (Zq (ol b),([]:aw)))) fun r=>aE r.2 (AV.dD r.1 fun b2=>aG (!b2) (Zw (.bool Zf,Md ks bs))
  (Zz (aD (Zy (b.length<=140737488355328)) (Zw (AV.aQ [.agg [.int .i64 (bm b).box.kind,.int .u64 (bm b).box.key,.bs (bm b).box.body],.int .i64 (bm b).n,.int .i64 (bm b).err],([]:aw)))) fun r=>aE r.2 (AV.gT r.1 fun vs=>aA vs fun x r=>AV.cV x fun cs=>ag .i64 cs fun kd r1=>ag .u64 r1 fun ky r1=>aV r1 fun bd r1=>ak r1 (ag .i64 r fun _ r=>ag .i64 r fun er r=>ak r
   (aG (!(er==0)) (Zw (.bool Zf,Md ks bs)) (mr (v_ ks ky) fun b6=>aG b6 (Zw (.bool Zf,Md ks bs))
    (Zz (aD (Zy (bd.length<=70368744170000)) (Zw (AV.aQ [.sl 1 (dP (jd ⟨kd,ky,bd⟩).keys),.sl 1 (dl (jd ⟨kd,ky,bd⟩).boxes)],([]:aw)))) fun r=>aE r.2 (AV.gT r.1 fun vs=>cL 1 vs fun kl r=>cL 1 r fun bl r=>ak r
     (mr (Rr ks kl) fun b9=>aG b9 (Zw (.bool Zf,Md ks bs)) (Zz (bJ (mkS zX bl) [iv 0,iv 0,.sl 1 ks,.sl 1 bs]) fun r=>ag .i64 r.2 fun n r1=>ag .i64 r1 fun _ r1=>cL 1 r1 fun k2 r1=>cL 1 r1 fun b3 r1=>ak r1
      (jW r.1 (Zw (.bool (Zy (n>=0)),Md k2 b3)) fun j=>aG (Yv j 0) (Zw (.bool Zu,Md k2 b3)) Yj))))))))))))
end Kerb
/- Chapter 27: what is known does not depend on the order; what can be made teaches nothing. -/
namespace Kerb
open Go Go.Abs
inductive Eh (B0:Bytes->Prop) (K0:Int->Prop):Int ⊕ Bytes->Prop
 | key {k:Int}:K0 k->Eh B0 K0 (.inl k)
 | box {b:Bytes}:B0 b->Eh B0 K0 (.inr b)
 | Zr {b:Bytes} {k:Int}:Eh B0 K0 (.inr b)->(bm b).err=0->Eh B0 K0 (.inl (bm b).box.key)->k∈(cP b).keys->Eh B0 K0 (.inl k)
 | Zo {b c:Bytes}:Eh B0 K0 (.inr b)->(bm b).err=0->Eh B0 K0 (.inl (bm b).box.key)->c∈(cP b).boxes->Eh B0 K0 (.inr c)
theorem Eh.mono{B0 B1:Bytes->Prop}{K0 K1:Int->Prop}(h1:∀ b,B0 b->B1 b)(h2:∀ k,K0 k->K1 k){x:Int ⊕ Bytes}(h:Eh B0 K0 x):Eh B1 K1 x:=by
 induction h with
 | key h=>exact .key (h2 _ h)
 | box h=>exact .box (h1 _ h)
 | Zr _ e _ m i1 i2=>exact .Zr i1 e i2 m
 | Zo _ e _ m i1 i2=>exact .Zo i1 e i2 m
structure Full (B0:Bytes->Prop) (K0:Int->Prop) (s:Kn):Prop where
 next:s.next=Yj
 wM:wM s.keys=Zf
 nodup:s.boxes.Nodup
 keys:∀ k,k∈s.keys↔Eh B0 K0 (.inl k)
 boxes:∀ b,b∈s.boxes↔Eh B0 K0 (.inr b)
theorem Lb{s:Kn}(h:s.next=Yj){b:Bytes}(hb:b∈s.boxes)(e:(bm b).err=0)(hk:(bm b).box.key∈s.keys):s.has (cP b)=Zf:=by
 have:=List.find?_eq_none.1 h b hb;cases hh:s.has (cP b) with
 | true=>rfl
 | false=>exact absurd (uX.2 ⟨e,hk,hh⟩) this
theorem qd:∀ {l B:List Bytes},B.Nodup->(fU B l).Nodup
 | [],B,h=>h
 | b::l,B,h=>by
  have e:fU B (b::l)=fU (bif B.contains b then B else B++[b]) l:=rfl;rw[e];cases hc:B.contains b with
  | true=>exact qd h
  | false =>
   refine qd (List.nodup_append.2 ⟨h,by simp,?_⟩);intro x hx y hy;have:b ∉ B:=by simpa using hc
   simp only[List.mem_singleton] at hy;rintro rfl;exact this (hy ▸ hx)
theorem Full.join{B0 B1:Bytes->Prop}{K0 K1:Int->Prop}{s:Kn}(h:Full B0 K0 s){x:IV}(hb:∀ b,B1 b↔B0 b\/b∈x.boxes)(hk:∀ k,K1 k↔K0 k\/k∈x.keys):Full B1 K1 (close (s.add x)):=by
 have m:∀ {y},Eh B0 K0 y->Eh B1 K1 y:=Eh.mono (fun b q=>(hb b).2 (.inl q)) fun k q=>(hk k).2 (.inl q);obtain⟨⟨p1,p2,p3,p4,p5,p6⟩,hn⟩:=yG (P:=fun s=>Kerb.wM s.keys=Zf/\s.boxes.Nodup/\(∀ k∈s.keys,Eh B1 K1 (.inl k))/\(∀ b∈s.boxes,Eh B1 K1 (.inr b))/\(∀ k,K1 k->k∈s.keys)/\∀ b,B1 b->b∈s.boxes) (fun s b ⟨q1,q2,q3,q4,q5,q6⟩ gb go=>by
  obtain⟨e,ek,_⟩:=uX.1 go;refine⟨nE q1,qd q2,fun k hk=> ?_,fun c hc=> ?_,fun k hk=>lY.2 (.inl (q5 k hk)),fun c hc=>jH.2 (.inl (q6 c hc))⟩
  ·rcases lY.1 hk with hk | hk
   ·exact q3 k hk
   ·exact .Zr (q4 b gb) e (q3 _ ek) hk
  ·rcases jH.1 hc with hc | hc
   ·exact q4 c hc
   ·exact .Zo (q4 b gb) e (q3 _ ek) hc) (s.add x)
  ⟨nE h.wM,qd h.nodup,fun k q=>by
   rcases lY.1 q with q | q
   ·exact m ((h.keys k).1 q)
   ·exact .key ((hk k).2 (.inr q)),fun b q=>by
   rcases jH.1 q with q | q
   ·exact m ((h.boxes b).1 q)
   ·exact .box ((hb b).2 (.inr q)),fun k q=>by
   rcases (hk k).1 q with q | q
   ·exact lY.2 (.inl ((h.keys k).2 (.key q)))
   ·exact lY.2 (.inr q),fun b q=>by
   rcases (hb b).1 q with q | q
   ·exact jH.2 (.inl ((h.boxes b).2 (.box q)))
   ·exact jH.2 (.inr q)⟩
 have all:∀ y,Eh B1 K1 y->(match y with | .inl k=>k∈(close (s.add x)).keys | .inr b=>b∈(close (s.add x)).boxes):=by
  intro y hy;induction hy with
  | key q=>exact p5 _ q
  | box q=>exact p6 _ q
  | Zr _ e _ mm i1 i2=>exact(uT.1 (Lb hn i1 e i2)).1 _ mm
  | Zo _ e _ mm i1 i2=>exact(uT.1 (Lb hn i1 e i2)).2 _ mm
 exact⟨hn,p1,p2,fun k=>⟨p3 k,fun q=>all _ q⟩,fun b=>⟨p4 b,fun q=>all _ q⟩⟩
theorem sH{s:Kn}:∀ {n:Nat} {b:Bytes},b.length<n->kf n s b=eW s b:=by
 have key:∀ (k:Nat) (b:Bytes),b.length<k->∀ n m,b.length<n->b.length<m->kf n s b=kf m s b:=by
  intro k;induction k with
  | zero=>intro b h;omega
  | succ k ih =>
   intro b hb n m hn hm;obtain⟨n,rfl⟩:∃ q,n=q+1:=⟨n-1,by omega⟩;obtain⟨m,rfl⟩:∃ q,m=q+1:=⟨m-1,by omega⟩;have:(cP b).boxes.all (fun b=>kf n s b)=(cP b).boxes.all fun b=>kf m s b:=by
    rw[Bool.eq_iff_iff,List.all_eq_true,List.all_eq_true];constructor
    ·intro h c hc;have:=rh hc;rw[<-ih c (by omega) n m (by omega) (by omega)];exact h c hc
    ·intro h c hc;have:=rh hc;rw[ih c (by omega) n m (by omega) (by omega)];exact h c hc
   simp only[kf,this]
 exact fun {n b} h=>key (b.length+1) b (by omega) n (b.length+1) h (by omega)
theorem CF(s:Kn)(b:Bytes):eW s b=(s.boxes.contains b||(ol b&&s.keys.contains (bm b).box.key&&(cP b).keys.all (fun k=>s.keys.contains k)&&(cP b).boxes.all fun b=>eW s b)):=by
 have:(cP b).boxes.all (fun c=>kf b.length s c)=(cP b).boxes.all fun c=>eW s c:=by
  rw[Bool.eq_iff_iff,List.all_eq_true,List.all_eq_true];constructor
  ·intro h c hc;have:=rh hc;rw[<-sH (n:=b.length) (by omega)];exact h c hc
  ·intro h c hc;have:=rh hc;rw[sH (by omega)];exact h c hc
 show kf (b.length+1) s b=_;simp only[kf,this]
end Kerb
/- Chapter 27: the reference's functions, as their loops are. -/
namespace Kerb
open Go Go.Abs
abbrev rb(v:AV):AV×aw:=(v,[])
theorem Rq{t:Bytes}(h:t.length<=70368744170000):(bm t).box.body.length<=70368744170000:=by
 rcases np t with h1 | h1
 ·omega
 ·rw[h1];exact Yw _
noncomputable def SL{α:Type}(b:List UInt8)(f:List AV->Option α):Option α:=Zz (aD (Zy (b.length<=70368744170000)) (Zw (rb (.sl 1 (dl (partsOf b)))))) fun r=>aE r.2 (AV.fR 1 r.1 f)
theorem KE{α:Type}(l:List α)(p:α->Bool):l.all p = !(l.any fun x => !p x):=List.all_eq_not_any_not
theorem MF{b x:Bytes}(hb:b.length<=70368744160000)(h:x∈partsOf b):x.length<=70368744170000:=by
 have:=(mh b).1 x h;omega
noncomputable def XE(bl:List AV)(l:List AV):St:=ag .i64 l fun n r=>ag .i64 r fun i r=>cL 1 r fun ks r=>cL 1 r fun bs r=>ak r
 (aG (Zy (i<(bl.length:Int))) (yx i bl (Yu (bl.getD (Zv i) .undef) fun q=>XF (vZ ks bs&&Zy (q.length<=70368744170000)) ks bs q fun k2 b3 b4 =>
   aG b4 (Zw (.inr (.ret,[iv i,iv i,.sl 1 k2,.sl 1 b3]))) (Zw (.inl [iv n,up i,.sl 1 k2,.sl 1 b3]))))
  (Zw (.inr (.exit 0,[iv n,iv i,.sl 1 ks,.sl 1 bs]))))
noncomputable def Pe(ks bs:List AV)(b:List UInt8):Option (AV×aw):=SL b fun l=>Zz (bJ (XE l) [iv 0,iv 0,.sl 1 ks,.sl 1 bs]) fun r=>ag .i64 r.2 fun n r1=>ag .i64 r1 fun _ r1=>cL 1 r1 fun _ r1=>cL 1 r1 fun _ r1=>ak r1
 (jW r.1 (Zw (rb (.bool (!Zy (n>=0))))) fun j=>aG (Yv j 0) (Zw (rb (.bool Zf))) Yj)
theorem K_{β:Type}{s:Kn}{L:List Bytes}(hl:L.length<=100000000){step:List AV->St}(tZ:∀ i,i<L.length->step [iv 0,iv i,.sl 1 (dP s.keys),.sl 1 (dl s.boxes)]=aG (!eW s (L.getD i [])) (Zw (.inr (.ret,[iv i,iv i,.sl 1 (dP s.keys),.sl 1 (dl s.boxes)]))) (Zw (.inl [iv 0,up i,.sl 1 (dP s.keys),.sl 1 (dl s.boxes)])))
  (RG:step [iv 0,iv L.length,.sl 1 (dP s.keys),.sl 1 (dl s.boxes)]=Zw (.inr (.exit 0,[iv 0,iv L.length,.sl 1 (dP s.keys),.sl 1 (dl s.boxes)])))
  {k:Ex×List AV->Option β} {A B:β} (hA:∀ i:Nat,k (.ret,[iv i,iv i,.sl 1 (dP s.keys),.sl 1 (dl s.boxes)])=Zw A) (hB:k (.exit 0,[iv 0,iv L.length,.sl 1 (dP s.keys),.sl 1 (dl s.boxes)])=Zw B) :
  Zz (bJ step [iv 0,iv 0,.sl 1 (dP s.keys),.sl 1 (dl s.boxes)]) k=Zw (bif L.all (eW s) then B else A):=by
 refine Qb3 (oa (A:=A) (B:=B) (fun i=>[iv 0,iv i,.sl 1 (dP s.keys),.sl 1 (dl s.boxes)]) L.length (fun i => !eW s (L.getD i [])) ?_ ?_ ⟨_,RG,hB⟩ rfl) ?_
 ·intro i hi hq;rw[tZ i hi,ai hq,wA (by omega)]
 ·intro i hi hq;exact⟨_,by rw[tZ i hi,af hq],hA i⟩
 ·rw[lZ L [] (fun x => !eW s x),KE];cases L.any fun x => !eW s x<;>rfl
theorem Pf{s:Kn}(hs:fL s){b:Bytes}(hb:b.length<=70368744160000):Pe (dP s.keys) (dl s.boxes) b=Zw (rb (.bool (Eu s b))):=by
 have hp:=(mh b).2;unfold Pe SL;rw[ae (by simp;omega)];show Zz (bJ (XE (dl (partsOf b))) [iv 0,iv 0,.sl 1 (dP s.keys),.sl 1 (dl s.boxes)]) _=_;refine Qb3 (K_ (A:=rb (.bool Zu)) (B:=rb (.bool Zf)) (L:=partsOf b) (by omega) (fun i hi=> ?_) ?_ (fun i=> ?_) rfl) ?_
 ·have oA:i<(dl (partsOf b)).length:=by rw[d_];exact hi
  show aG (Zy ((i:Int)<((dl (partsOf b)).length:Int))) (yx i (dl (partsOf b)) (Yu ((dl (partsOf b)).getD (Zv i) .undef) _)) _=_;rw[af (rq oA),lh oA,Zx,lM hi,xX,K8.2 hs,O2 (by have:=MF hb (xp [] hi);simp;simpa using this)]
 ·show aG (Zy (((partsOf b).length:Int)<((dl (partsOf b)).length:Int))) _ _=_;rw[ai (XI _)]
 ·show Zw (rb (.bool (!Zy ((i:Int)>=0))))=_;rw[show Zy ((i:Int)>=0)=Zf by simp];rfl
 ·unfold Eu;cases (partsOf b).all (eW s)<;>rfl
theorem Mb(b:Bytes):ol b=((bm b).err==0&&(bm b).n==(b.length:Int)):=rfl
theorem Ue(zX:Nat)(bl ks bs:List AV)(n i:Int):mkS zX bl [iv n,iv i,.sl 1 ks,.sl 1 bs]=aG (Zy (i<(bl.length:Int))) (yx i bl (Yu (bl.getD (Zv i) .undef) fun q=>XF (vZ ks bs&&Zy (q.length<=70368744170000)&&Zy ((q.length:Int)<(zX:Int))) ks bs q fun k2 b3 b4 =>
   aG b4 (Zw (.inr (.ret,[iv i,iv i,.sl 1 k2,.sl 1 b3]))) (Zw (.inl [iv n,up i,.sl 1 k2,.sl 1 b3]))))
  (Zw (.inr (.exit 0,[iv n,iv i,.sl 1 ks,.sl 1 bs]))):=rfl
theorem O1{s:Kn}(hs:fL s){b:Bytes}(hb:b.length<=70368744170000){zX:Nat}(hd:b.length<=zX):O0 zX (dP s.keys) (dl s.boxes) b=Zw (.bool (!eW s b),Md (dP s.keys) (dl s.boxes)):=by
 have n1:=hs.G9;have n2:=hs.yE;have xA:=A6 b;unfold O0;rw[Me _ (by omega)];show aG (!!s.boxes.contains b) _ _=_;rw[CF,Bool.not_not];cases hc:s.boxes.contains b with
 | true=>rfl
 | false =>
  rw[aF,ae (by simp;omega),Bool.false_or];show aG (!ol b) _ _=_;cases hbx:ol b with
  | false=>rfl
  | true =>
   have he:(bm b).err=0:=by rw[Mb] at hbx;simp at hbx;exact hbx.1
   have hl:=BM he;rw[Yx,aF,ae (by simp;omega),Bool.true_and];show aG (!((bm b).err==0)) _ (mr (v_ (dP s.keys) (bm b).box.key) _)=_;rw[he,ai (by rfl),yV _ (by omega)];show aG (!s.keys.contains (bm b).box.key) _ _=_;cases hk:s.keys.contains (bm b).box.key with
   | false=>rfl
   | true =>
    rw[Yx,aF,ae (by have:=Rq hb;simp;omega),Bool.true_and];show mr (Rr (dP s.keys) (dP (cP b).keys)) _=_;rw[Rs _ (by omega) (by have:=xA.keys;omega)];show aG ((cP b).keys.any fun k => !s.keys.contains k) _ (Zz (bJ (mkS zX (dl (cP b).boxes)) [iv 0,iv 0,.sl 1 (dP s.keys),.sl 1 (dl s.boxes)]) _)=_;rw[KE (cP b).keys];cases (cP b).keys.any fun k => !s.keys.contains k with
    | true=>rfl
    | false =>
     rw[aF,Zb,Bool.true_and];refine Qb3 (K_ (A:=(Zq Zf,Md (dP s.keys) (dl s.boxes))) (B:=(Zq Zu,Md (dP s.keys) (dl s.boxes))) (L:=(cP b).boxes) (by have:=xA.boxes;omega) (fun i hi=> ?_) ?_ (fun i=> ?_) rfl) ?_
     ·have oA:i<(dl (cP b).boxes).length:=by rw[d_];exact hi
      have hq:=xA.len _ (xp [] hi);rw[Ue,af (rq oA),lh oA,Zx,lM hi,xX,K8.2 hs,O2 (by rw[Qa4 (show((cP b).boxes.getD i []).length<=70368744170000 by omega),Qa4 (show((((cP b).boxes.getD i []).length:Nat):Int)<(zX:Int) by omega)];rfl)]
     ·show aG (Zy (((cP b).boxes.length:Int)<((dl (cP b).boxes).length:Int))) _ _=_;rw[ai (XI _)]
     ·show Zw (Zq (Zy ((i:Int)>=0)),Md (dP s.keys) (dl s.boxes))=_;rw[show Zy ((i:Int)>=0)=Zf by simp]
     ·cases (cP b).boxes.all (eW s)<;>rfl
end Kerb
/- Chapter 27: the statements' messages. -/
namespace Kerb
open Go Go.Abs
abbrev ww(n:UInt8)(m:Int):Int:=Int.tmod (Zk .i64 (n.toNat:Int)) m
theorem Lh(n:UInt8){m:Int}(h:0<m):0<=ww n m/\ww n m<m:=by
 unfold ww;have:n.toNat<256:=n.toNat_lt;rw[wrap_i64 (by omega) (by omega),Int.tmod_eq_emod_of_nonneg (by omega)];exact⟨Int.emod_nonneg _ (by omega),Int.emod_lt_of_pos _ h⟩
def ma(n:UInt8):Int:=bif Zy (((UInt8.ofNat (Zv (Int.tmod (n.toNat:Int) ((6:UInt8).toNat:Int)))).toNat:Int)<((2:UInt8).toNat:Int)) then tb (ww n 6) else ay (ww n 6)
def kH(n:UInt8):Int:=bif Zy (((UInt8.ofNat (Zv (Int.tmod (n.toNat:Int) ((6:UInt8).toNat:Int)))).toNat:Int)<((2:UInt8).toNat:Int)) then ay (Zk .i64 (2+ww n 4)) else ay (Zk .i64 (2+ww n 4))
theorem HQ(n:UInt8):kH n=ay (Zk .i64 (2+ww n 4)):=by grind [kH]
def ld(x:UInt8):nt:=⟨user (next [x] 0 9),0,0,0⟩
def VR(n:UInt8):UInt8:=UInt8.ofNat (Zv (Zk .u8 (Int.tdiv (n.toNat:Int) ((8:UInt8).toNat:Int))))
def oK(gW de:UInt8):Bytes:=(gN { aH [gW,de] with ay:=kH de } (ma (VR de))).val
theorem rj(n:UInt8):0<=ma n/\ma n<18446744073709551616:=by
 unfold ma;cases Zy (((UInt8.ofNat (Zv (Int.tmod (n.toNat:Int) ((6:UInt8).toNat:Int)))).toNat:Int)<((2:UInt8).toNat:Int))
 ·exact zR _
 ·exact RV _
theorem rG(n:UInt8):0<=kH n/\kH n<18446744073709551616:=by rw[HQ];exact zR _
structure vo where
 kd:UInt8
 bx:UInt8
 se:UInt8
 gW:UInt8
 de:UInt8
 li:Bool
 hw:Int
def qD(bx:UInt8):Int:=Zk .i64 (1+ww bx 10)
def uo(n m:UInt8):UInt8:=UInt8.ofNat (Zv (Int.tmod (n.toNat:Int) (m.toNat:Int)))
def vO(t:vo):Bytes :=
 let s:=service (Zk .i64 (t.bx.toNat:Int))
 if qD t.bx=1 then(bB { aH [t.gW] with ay:=kH t.gW }).val
 else if qD t.bx=2 then(iT (ld t.gW) t.li).val
 else if qD t.bx=3 then(bp ⟨kH t.gW,s,0,0,oK t.gW t.de,0⟩ t.li).val
 else if qD t.bx=4 then(fG ⟨5,0,0⟩ t.li).val
 else if qD t.bx=5\/qD t.bx=6 then(eu ⟨[],0,0,7⟩ t.li).val
 else if qD t.bx=7 then(bif uo t.de 2==1 then(aR ⟨vl,4,0,0,0⟩).val else(aR ⟨fH,0,0,0,ma t.gW⟩).val)
 else if qD t.bx=8 then(bif uo t.de 8==1 then(aY ⟨k_,0,0,0,0,0,⟨[],[],[]⟩,[]⟩).val else(aY ⟨yU,0,kH t.gW,0,0,0,s,oK t.gW t.de⟩).val)
 else if qD t.bx=9 then(dF ⟨user (Zk .i64 (t.bx.toNat:Int)),s,kH t.gW,0,0,0⟩).val
 else(c5 ⟨kH t.gW,s,0,0,oK t.gW t.de⟩).val
theorem O8(x:UInt8):dN [x] 0 9=1:=rfl
theorem O9(x:UInt8)(n:Int):dN [x] 1 n=1:=rfl
theorem XG(x:UInt8)(n:Int):next [x] 1 n=0:=rfl
def qe(t:vo):Bytes:=(gX (qD t.bx) (ma t.se) (bif Int.tmod t.hw 16==15 then sY (vO t) (Zk .u16 (Int.tdiv t.hw 16)) else vO t)).val
theorem GB(r:Av):(dF r).val.length<=400:=by
 by_cases h:(dF r).err=0
 ·obtain⟨h1,h2,_,_,_,_,z,hz,hl⟩:=zt h;have l1:=cN h1;have l2:=cN h2;rw[hz];simp[ah,aj];omega
 ·unfold dF at h ⊢;repeat' split
  all_goals first | simp | skip
  all_goals exfalso;simp_all
theorem EJ(r:sF):(c5 r).val.length<=600:=by
 by_cases h:(c5 r).err=0
 ·obtain⟨_,h2,_,_,_,z,hz,hl⟩:=w_ h;have l2:=cN h2;rw[hz];simp[ah,aj];omega
 ·unfold c5 at h ⊢;repeat' split
  all_goals first | simp | skip
  all_goals exfalso;simp_all
theorem GA(r:Au):(dw r).val.length<=2000:=by
 by_cases h:(dw r).err=0
 ·obtain⟨_,h2,h3,hz⟩:=zs h;have l2:=cN h2;have hh:(header 10 Zu).length=2:=rfl;rw[hz];simp only[Zm,List.length_cons,List.length_nil,ah,hh];omega
 ·unfold dw at h ⊢;repeat' split
  all_goals first | simp | skip
  all_goals exfalso;simp_all
theorem qn{c:Prop}[Decidable c]{a b:Bytes}(h1:a.length<=1000)(h2:b.length<=1000):(if c then a else b).length<=1000:=by
 split
 ·exact h1
 ·exact h2
theorem Gn{c:Bool}{a b:Bytes}(h1:a.length<=1000)(h2:b.length<=1000):(bif c then a else b).length<=1000:=by
 cases c
 ·exact h2
 ·exact h1
theorem qE{n m:Nat}(h:n<=m)(hm:m<=1000):n<=1000:=Zp h hm
theorem I_(t:vo):(vO t).length<=1000 :=
 qn (qE (CJ _) (by decide)) <| qn (qE AH (by decide)) <| qn (qE (AJ _ _) (by decide)) <| qn (qE (yK _ _) (by decide)) <| qn (tO _ _) <|
  qn (Gn (qE (w7 _) (by decide)) (qE (w7 _) (by decide))) <| qn (Gn (qE (w6 _) (by decide)) (qE (w6 _) (by decide))) <| qn (qE (GB _) (by decide)) (qE (EJ _) (by decide))
theorem Dd(t:vo):(qe t).length<=1012:=Bo _ _ _
theorem wX{n m:Int}(h0:0<=n)(h1:n<=65535)(hm:0<m):0<=Zk .u16 (Int.tdiv n m)/\Zk .u16 (Int.tdiv n m)<=65535:=by
 rw[Int.tdiv_eq_ediv_of_nonneg h0,wrap_u16];omega
def qm(t:vo):Bytes :=
 let u:=user (Zk .i64 (t.kd.toNat:Int))
 let k:=uo t.kd 10
 if k=0 then(bc ⟨t.li,u,0,0,0,qe t⟩).val
 else if k=1 then(bf ⟨t.li,Zu,0,[82],oK t.gW t.de,qe t⟩).val
 else if k=2 then(cS ⟨⟨t.li,Zu,0,[82],oK t.gW t.de,oK t.gW t.de⟩,0,0,[115],[]⟩).val
 else if k=3 then(b_ (qe t) t.li).val
 else if k=4 then(aP ⟨2,⟨[],[],[]⟩,0,[82],oK t.gW t.de,[115],[],qe t⟩).val
 else if k=5 then(bu ⟨1,0,qe t⟩).val
 else if k=6 then(dw ⟨Zk .i64 (1+Int.tmod (Zk .i64 (Int.tdiv (Zk .i64 (t.kd.toNat:Int)) 10)) 3),u,qe t⟩).val
 else if k=7 then(ry ⟨[],0,0,Zk .i64 (t.de.toNat:Int)⟩ t.li (ma t.se)).val
 else if k=8 then(ru ⟨[],0,0,Zk .i64 (t.de.toNat:Int)⟩ t.li (ma t.se)).val
 else qe t
def zG(t:vo):Bytes:=bif Int.tmod t.hw 32==13 then sY (qm t) (Zk .u16 (Int.tdiv t.hw 32)) else qm t
theorem mS{c:Prop}[Decidable c]{a b:Bytes}(h1:a.length<=3000)(h2:b.length<=3000):(if c then a else b).length<=3000:=by
 split
 ·exact h1
 ·exact h2
theorem qF{n m:Nat}(h:n<=m)(hm:m<=3000):n<=3000:=Zp h hm
theorem E_(p:qP)(li:Bool)(k:Int):(ry p li k).val.length<=2100:=by
 have h:=sD p li 6 k;have hh:(header 7 li).length<=2:=by cases li<;>decide
 unfold ry;split
 ·exact Yw _
 ·simp only[BG,Zm,ah];omega
theorem E9(p:qP)(li:Bool)(k:Int):(ru p li k).val.length<=2100:=by
 have h:=sD p li 5 k;have hh:(header 6 li).length<=2:=by cases li<;>decide
 unfold ru;split
 ·exact Yw _
 ·simp only[BG,Zm,ah];omega
theorem zD(t:vo):(qm t).length<=3000 :=
 mS (qF (zY _) (by decide)) <| mS (qF (NF _) (by decide)) <| mS (qF (Sh _) (by decide)) <| mS (qF (CK _ _) (by decide)) <| mS (qF (EH _) (by decide)) <|
  mS (qF (EG _) (by decide)) <| mS (qF (GA _) (by decide)) <| mS (qF (E_ _ _ _) (by decide)) <| mS (qF (E9 _ _ _) (by decide)) (qF (Dd t) (by decide))
theorem Mp(t:vo):(zG t).length<=6001:=by
 have h:=zD t;unfold zG;cases Int.tmod t.hw 32==13
 ·exact Zp h (by decide)
 ·have:=Nc (qm t) (Zk .u16 (Int.tdiv t.hw 32));exact Zp this (by omega)
def ZT:Bytes:=(bf ⟨Zu,Zu,0,[82],(gN ⟨Zu,⟨(aH []).client.name,(aH []).client.inst,(aH []).client.aL⟩,(aH []).address,(aH []).ay,(aH []).bL,(aH []).cG,(aH []).service,(aH []).inst⟩ (tb 1)).val,[]⟩).val
def VC:Kn:=leak (kn [] []) (tb 1)
def NJ:Kn:=learn (kn (dP VC.keys) (dl VC.boxes)) ZT
theorem Rn:NJ.keys.length<=100000000:=by decide +kernel
theorem Rm:NJ.keys.contains (ay 0)=Zf:=by decide +kernel
noncomputable def S9:Option (AV×aw):=mr (E2 (dP NJ.keys) (ay 0)) fun b=>aG b (Zw (.bool Zf,[])) (Zw (.bool Zu,[]))
theorem Rl:S9=some (.bool Zf,[]):=by
 unfold S9;rw[DB _ Rn,Rm];rfl
end Kerb
namespace Kerb
open Go Go.Abs
theorem RP(x:UU):Zy ((jd x).keys.length<=1000000000)=Zf:=Qa4 (by have:=(sb x).keys;omega)
theorem RO(x:UU):Zy ((jd x).boxes.length<=1000000000)=Zf:=Qa4 (by have:=(sb x).boxes;omega)
theorem R8(b:Bytes):Zy ((partsOf b).length<=1000000000)=Zf:=Qa4 (by have:=(mh b).2;omega)
end Kerb
/- Chapter 27: sequences of messages and leaked keys. -/
namespace Kerb
open Go Go.Abs
end Kerb
/- Chapter 27: the statements about sequences of messages, in plain words. -/
namespace Kerb
open Go Go.Abs
theorem De(s:Kn):nK (close s)<=nK s :=
 (yG (P:=fun t=>nK t<=nK s) (fun t b h gb go=>Zp (Nat.le_of_lt (pP gb go)) h) s (Zh _)).1
theorem Mh(s:Kn)(b:Bytes):nK (learn s b)<=nK s+2*b.length+2026:=by
 have h1:=De (s.add ⟨[],partsOf b⟩);have hp:=mh b;have h2:=Em s ⟨[],partsOf b⟩ (m:=b.length+1012) hp.1;have h3:(partsOf b).length*(b.length+1012+1)<=2*(b.length+1012+1):=Nat.mul_le_mul_right _ hp.2;unfold learn;simp only[List.length_nil] at h2;omega
theorem OQ(s:Kn)(k:Int):nK (leak s k)<=nK s+1:=by
 have h1:=De (s.add ⟨ez [k],[]⟩);have hp:=qy k;have h2:=Em s ⟨ez [k],[]⟩ (m:=0) (by simp);unfold leak;simp only[List.length_nil] at h2;omega
structure Fit (s:Kn) (n:Nat):Prop where
 Rz:fL s
 nK:nK s<=n
theorem Fit.learn{s:Kn}{n:Nat}(h:Fit s n){b:Bytes}(hb:b.length<=6001)(hn:n<=900000):Fit (learn s b) (n+14028):=by
 have h1:=Mh s b;have h2:=h.nK;exact⟨(h.Rz.parts (by omega)).close,by omega⟩
theorem Fit.leak{s:Kn}{n:Nat}(h:Fit s n){k:Int}(hn:n<=900000):Fit (leak s k) (n+1):=by
 have h1:=OQ s k;have h2:=h.nK;exact⟨(h.Rz.OR (by omega)).close,by omega⟩
theorem turned{p:Nat->Prop}{N:Nat}(n:Nat):(∃ i,i<N/\p ((i+n) % N))↔∃ i,i<N/\p i:=by
 constructor
 ·rintro⟨i,hi,hp⟩;exact⟨(i+n) % N,Nat.mod_lt _ (by omega),hp⟩
 ·rintro⟨i,hi,hp⟩;refine⟨(i+(N-n % N)) % N,Nat.mod_lt _ (by omega),?_⟩;have fY:n % N<N:=Nat.mod_lt _ (by omega);have:((i+(N-n % N)) % N+n) % N=i:=by
   rw[Nat.add_mod,Nat.mod_mod,<-Nat.add_mod];have e:i+(N-n % N)+n=i+N*(n / N+1):=by
    have:=Nat.div_add_mod n N;rw[Nat.mul_add,Nat.mul_one];omega
   rw[e,Nat.add_mul_mod_self_left,Nat.mod_eq_of_lt hi]
  rw[this];exact hp
def vo.av(t:vo):AV := .agg [.u8 t.kd,.u8 t.bx,.u8 t.se,.u8 t.gW,.u8 t.de,.bool t.li,.int .u16 t.hw]
theorem Fit.kn{s:Kn}{n:Nat}(h:Fit s n):vZ (dP s.keys) (dl s.boxes)=Zf:=K8.2 h.Rz
theorem Fit.pre{s:Kn}{n:Nat}(h:Fit s n)(hn:n<=900000){b:Bytes}(hb:b.length<=6001):Zy (Kerb.nK s+2*b.length+2100<=1000000)=Zf:=by
 exact Qa4 (by have:=h.nK;omega)
theorem Fit.Ul{s:Kn}{n:Nat}(h:Fit s n)(hn:n<=900000):Zy (Kerb.nK s+1<=1000000)=Zf:=by
 exact Qa4 (by have:=h.nK;omega)
theorem Fit.kl{s:Kn}{n:Nat}(h:Fit s n)(hn:n<=900000):s.keys.length<=900000:=by have:=h.nK;unfold Kerb.nK at this;omega
theorem Fit.bl{s:Kn}{n:Nat}(h:Fit s n)(hn:n<=900000):s.boxes.length<=900000:=by have:=h.nK;unfold Kerb.nK at this;omega
end Kerb
namespace Kerb
end Kerb
namespace Kerb
open Go Go.Abs
theorem Fit.lk{s:Kn}{n:Nat}(h:Fit s n)(hn:n<=900000):Zy ((dP s.keys).length<=1000000000)=Zf:=by rw[ff];exact Qa4 (by have:=h.kl hn;omega)
theorem Fit.lb{s:Kn}{n:Nat}(h:Fit s n)(hn:n<=900000):Zy ((dl s.boxes).length<=1000000000)=Zf:=by rw[d_];exact Qa4 (by have:=h.bl hn;omega)
end Kerb
/- Functions of the library that are taken as given: their contracts out of the kit's. -/
namespace Go.Abs
open Go.RowKit Go.Lib
theorem sa(c:UInt8):∀ l:List UInt8,Lib.indexByte l c=Yy c l
 | []=>rfl
 | b::l=>by
  have h1:=sa c l;have h2:=Lib.indexByte_ge l c;simp only[Lib.indexByte,Yy,h1];rw[h1] at h2;by_cases hb:(b==c)=Zf
  ·simp[hb]
  ·simp only[hb,if_false,Bool.false_eq_true];by_cases h3:Yy c l = -1
   ·simp[h3]
   ·rw[Qa0 (by simpa using h3),Qa0 (by omega)]
section
variable {P:Program} {G:ph} {f:Nat} {fn:Func}
theorem Kept.refl{M:Nat->Prop}{w:World}{p:bF}(hn:I3 w p):Kept M w p w p:=⟨rfl,rfl,rfl,Zh _,fun _ _ _=>rfl,fun _ _=>rfl,hn⟩
theorem xt (hf : P.funcs[f]? = Zw fn) (jB : (fn.name == "runtime.NumGoroutine") = Zu) (hb : fn.body.isNone = Zf) (hn : Extern.findNext fn = Yj) (he : Extern.find fn = Zw Extern.BytealgIndexByte.indexByte) {s : Spec} {rt : Nat} (s9 : G.rts f = Zw [rt])
  (hs:∀ xs bl r,s xs bl=Zw r->∃ l c,xs=[.str l,.u8 c]/\bl=[]/\r=(.int .i64 (Yy c l),[])):lv P G f s:=by
 intro call xs bl r bs rts h1 h2 w p dU bk Ds hG fP ha vT;rw[s9] at h2;cases h2;obtain⟨l,c,rfl,rfl,hr⟩:=hs _ _ _ h1;cases hr;have ta:dU.size=2:=fP;obtain⟨v0,v1,rfl⟩:∃ a b,dU = #[a,b]:=⟨dU[0],dU[1],by apply Array.ext<;>simp[ta];intro i h1 h2;rcases i with _ | _ | i<;>first | rfl | omega⟩;have r0:=ha 0 v0 _ rfl rfl;have r1:=ha 1 v1 _ rfl rfl;have e0:∃ s:ByteArray,v0 = .string s/\s.data.toList=l:=by
  rcases r0 with(h | ⟨_,_,_,h,_⟩) | ⟨_,_,_,h,_⟩ | ⟨_,_,_,_,_,_,h,_⟩
  ·cases h with | str h=>exact⟨_,rfl,h⟩
  ·cases h
  ·cases h
  ·cases h
 have e1:v1=jZ c:=by
  rcases r1 with(h | ⟨_,_,_,h,_⟩) | ⟨_,_,_,h,_⟩ | ⟨_,_,_,_,_,_,h,_⟩
  ·cases h;rfl
  ·cases h
  ·cases h
  ·cases h
 obtain⟨s,rfl,gU⟩:=e0;subst e1;right;refine⟨.int .i64 (Yy c l),w,?_,p,Kept.refl Ds,.inl (.inl (.int (by simp))),⟨rfl,fun i j cs jx h=>by simp at h⟩⟩;rw[run_callFunc_extern hf jB hb hn he];have hr:=Lib.run_indexByteString (P:=P) s c.toNat w;rw[show(#[Value.string s,jZ c]:Array Value) = #[.string s,.int .u8 c.toNat] from rfl,hr];simp[gU,sa,Result.andThen]
theorem GK (hf : P.funcs[f]? = Zw fn) (jB : (fn.name == "runtime.NumGoroutine") = Zu) (hb : fn.body.isNone = Zf) (hn : Extern.findNext fn = Yj) (he : Extern.find fn = Zw Extern.BytealgIndexByte.indexByte) {s : Spec} {rt : Nat} (s9 : G.rts f = Zw [rt])
  (hs:∀ xs bl r,s xs bl=Zw r->∃ l c,xs=[.bs l,.u8 c]/\bl=[]/\r=(.int .i64 (Yy c l),[])):lv P G f s:=by
 intro call xs bl r bs rts h1 h2 w p dU bk Ds hG fP ha vT;rw[s9] at h2;cases h2;obtain⟨l,c,rfl,rfl,hr⟩:=hs _ _ _ h1;cases hr;have ta:dU.size=2:=fP;obtain⟨v0,v1,rfl⟩:∃ a b,dU = #[a,b]:=⟨dU[0],dU[1],by apply Array.ext<;>simp[ta];intro i h1 h2;rcases i with _ | _ | i<;>first | rfl | omega⟩;have r0:=ha 0 v0 _ rfl rfl;have r1:=ha 1 v1 _ rfl rfl;have e1:v1=jZ c:=by
  rcases r1 with(h | ⟨_,_,_,h,_⟩) | ⟨_,_,_,h,_⟩ | ⟨_,_,_,_,_,_,h,_⟩
  ·cases h;rfl
  ·cases h
  ·cases h
  ·cases h
 subst e1;right;refine⟨.int .i64 (Yy c l),w,?_,p,Kept.refl Ds,.inl (.inl (.int (by simp))),⟨rfl,fun i j cs jx h=>by simp at h⟩⟩;rw[run_callFunc_extern hf jB hb hn he];have key:(Extern.BytealgIndexByte.indexByte #[v0,jZ c]).run P w = .ok (.int .i64 (Yy c l)) w:=by
  rcases r0 with(h | ⟨_,_,_,h,_⟩) | ⟨_,_,_,h,_⟩ | ⟨_,_,_,_,_,_,h,_⟩
  ·cases h with
   | bs β off hl nH AQ hcell =>
    rename_i a len cap;have hb:(Extern.Bytes.bytesOf (.slice a len cap)).run P w = .ok ⟨l.toArray⟩ w:=by
     rcases AQ with h0 | rfl
     ·have U9:l=[]:=Zd (by omega);subst U9;cases a with
      | none=>simp[Extern.Bytes.bytesOf];rfl
      | some a=>subst h0;simp[Extern.Bytes.bytesOf,Extern.Bytes.loadBytes];rfl
     ·have hx:=Lib.run_loadBytesX (P:=P) w (l.map fun b=>(b.toNat:Int)) ⟨β,off,Yj⟩ .empty (fun j x hj=>by
       rw[List.getElem?_map] at hj;cases hb:l[j]? with
       | none=>rw[hb] at hj;cases hj
       | some b =>
        rw[hb] at hj;simp at hj;subst hj;rw[eL];exact(hcell j b hb).2)
      have FV:Lib.bytesOf (l.map fun b=>(b.toNat:Int))=l:=by
       simp[Lib.bytesOf,Function.comp_def]
      simp only[List.length_map,hl,FV] at hx;simp only[Extern.Bytes.bytesOf];rw[hx];congr 1;apply ByteArray.ext;show(#[]:Array UInt8)++l.toArray=l.toArray;simp
    have hs:=Lib.run_indexByteString (P:=P) ⟨l.toArray⟩ c.toNat w;have e:(Extern.BytealgIndexByte.indexByte #[.slice a len cap,jZ c]).run P w=(Extern.BytealgIndexByte.indexByte #[.string ⟨l.toArray⟩,.int .u8 c.toNat]).run P w:=by
     have hd:∀ (x y:Value),(Extern.BytealgIndexByte.indexByte #[x,y]).run P w=((Extern.Bytes.bytesOf x).run P w).andThen fun b w'=>(Extern.BytealgIndexByte.indexByte #[.string b,y]).run P w':=by
      intro x y;show Sem.run P (Extern.Bytes.bytesOf x >>= _) w=_;rw[Sem.run_bind];rfl
     rw[hd,hb];rfl
    rw[e,hs];simp[sa]
  ·cases h
  ·cases h
  ·cases h
 rw[key];simp[Result.andThen]
theorem Jj{e t:Nat}{cap:World->Nat->Nat}{cells:World->Nat->Array Value}(lC:∀ vs (w:World),(callFunc f vs).run P w = .ok (.enter f vs) w){s:Spec}(s9:G.rts f=Zw [t]){i:TI}(Ad:G.ty t=Zw i)(hk:i.kind = .slice e Zf)
  (h0:∀ a w,Calls P f #[.slice a 0 0,.int .i64 0] w fun x w'=>x = .returned (.slice a 0 0)/\w'=w)
  (h1:∀ a (n:Nat) w,0<n->n<=140737488355328->Calls P f #[.slice a 0 0,.int .i64 n] w fun x w'=>x = .returned (.slice (Zw ⟨w.heap.size,0,Yj⟩) 0 (cap w n))/\w'=w.drew.alloc (.cells (cells w n) e))
  (nH:∀ w n,0<n->n<=140737488355328->n<=cap w n/\cap w n<=maxLen/\(cells w n).size=cap w n)
  (hs:∀ xs bl r,s xs bl=Zw r->∃ n:Int,xs=[.dc,.int .i64 n]/\0<=n/\n<=140737488355328/\bl=[]/\r=(.bS [],[])):lv P G f s:=by
 intro call xs bl r bs rts g1 g2 w p dU bk Ds hG fP ha vT;rw[s9] at g2;cases g2;obtain⟨n,rfl,U',hn1,rfl,hr⟩:=hs _ _ _ g1;cases hr;have ta:dU.size=2:=fP;obtain⟨v0,v1,rfl⟩:∃ a b,dU = #[a,b]:=⟨dU[0],dU[1],by apply Array.ext<;>simp[ta];intro i h1 h2;rcases i with _ | _ | i<;>first | rfl | omega⟩;have r0:=ha 0 v0 _ rfl rfl;have r1:=ha 1 v1 _ rfl rfl;have e0:∃ a,v0 = .slice a 0 0:=by
  rcases r0 with(h | ⟨_,_,_,h,_⟩) | ⟨_,_,_,h,_⟩ | ⟨_,_,_,_,_,_,h,_⟩
  ·cases h;exact⟨_,rfl⟩
  ·cases h
  ·cases h
  ·cases h
 have e1:v1 = .int .i64 n:=by
  rcases r1 with(h | ⟨_,_,_,h,_⟩) | ⟨_,_,_,h,_⟩ | ⟨_,_,_,_,_,_,h,_⟩
  ·cases h;rfl
  ·cases h
  ·cases h
  ·cases h
 obtain⟨a,rfl⟩:=e0;subst e1;left;refine⟨lC _ w,?_⟩;have AU:lF w w p bk [] [] []:=⟨rfl,fun i j cs jx h=>by simp at h⟩;obtain⟨m,rfl⟩:=Int.eq_ofNat_of_zero_le U';rcases Nat.eq_zero_or_pos m with hz | hz
 ·subst hz;refine(h0 a w).mono ?_;rintro x w' ⟨rfl,rfl⟩;exact⟨_,rfl,p,Kept.refl Ds,.inr (.inl ⟨i,e,[],Ad,hk,rfl,⟨rfl,.inl ⟨rfl,_,rfl⟩⟩,fun β hβ=>by cases a<;>simp[bP] at hβ⟩),⟨rfl,fun i j cs jx h=>by simp at h⟩⟩
 ·refine(h1 a m w hz (by omega)).mono ?_;rintro x w' ⟨rfl,rfl⟩;obtain⟨c1,c2,c3⟩:=nH w m hz (by omega);refine⟨_,rfl,p,⟨rfl,rfl,rfl,by simp,fun β hβ _=> ?_,fun _ _=>rfl,fun β hβ=>Ds β (by simp at hβ;omega)⟩,.inr (.inl ⟨i,e,[],Ad,hk,rfl,⟨rfl,.inr ⟨w.heap.size,cap w m,cells w m,rfl,by omega,Zh _,?_,by simp,c2,by rw[c3];omega,by simp⟩⟩,fun β hβ=> ?_⟩),⟨rfl,fun i j cs jx h=>by simp at h⟩⟩
  ·exact dY w.drew _ hβ
  ·exact fa w.drew _
  ·simp only[bP] at hβ;split at hβ
   ·cases hβ
   ·cases hβ;exact Ds _ (Zh _)
theorem GI{e t:Nat}(lC:∀ vs (w:World),(callFunc f vs).run P w = .ok (.enter f vs) w){s:Spec}(s9:G.rts f=Zw [t])
  (h0:∀ (n c:Nat) w,Calls P f #[.slice Yj n c] w fun x w'=>x = .returned (.slice Yj 0 0)/\w'=w)
  (h1:∀ (a:Addr) (n c:Nat) (xs:List Int) (w:World),xs.length=n->n<=140737488355328->(∀ i,i<n->w.cell? (a.add i)=Zw (.int .u8 (xs.getD i 0))) ->
   Calls P f #[.slice (Zw a) n c] w fun x w'=>∃ v',x = .returned v'/\w'.ownsRow w.heap.size e 1 v' n (xs.map (Value.int .u8))/\Below w.heap.size w w')
  (hs:∀ xs bl r,s xs bl=Zw r->∃ b:List UInt8,xs=[.bs b]/\b.length<=140737488355328/\bl=[]/\r=(.bs b,[])):lv P G f s:=by
 intro call xs bl r bs rts g1 g2 w p dU bk Ds hG fP ha vT;rw[s9] at g2;cases g2;obtain⟨b,rfl,xw,rfl,hr⟩:=hs _ _ _ g1;cases hr;have ta:dU.size=1:=fP;obtain⟨v0,rfl⟩:∃ a,dU = #[a]:=⟨dU[0],by apply Array.ext<;>simp[ta];intro i hi;subst hi;rfl⟩;have r0:=ha 0 v0 _ rfl rfl;have hI:bU w p v0 (.bs b):=by
  rcases r0 with(h | ⟨_,_,_,h,_⟩) | ⟨_,_,_,h,_⟩ | ⟨_,_,_,_,_,_,h,_⟩
  ·exact h
  ·cases h
  ·cases h
  ·cases h
 left;refine⟨lC _ w,?_⟩;cases hI with
 | bs β off hl nH AQ hcell =>
  rename_i a len cap;cases a with
  | none =>
   have z_:b=[]:=by
    rcases AQ with h | h
    ·exact Zd (by omega)
    ·cases h
   subst z_;refine(h0 len cap w).mono ?_;rintro x w' ⟨rfl,rfl⟩;exact⟨_,rfl,p,Kept.refl Ds,.inl (.inl (.bs 0 0 rfl (Zh _) (.inl rfl) fun i b hb=>by simp at hb)),⟨rfl,fun i j cs jx h=>by simp at h⟩⟩
  | some a =>
   refine(h1 a len cap (b.map fun c=>(c.toNat:Int)) w (by simp[hl]) (by omega) (fun i hi=> ?_)).mono ?_
   ·rcases AQ with h | h
    ·omega
    ·cases h;have pF:b[i]? = Zw b[i]:=Yq (by omega);rw[eL];have:=(hcell i _ pF).2;rw[this];simp[jZ,List.getD_eq_getElem?_getD,pF]
   ·rintro x w' ⟨v',rfl,s8,ra⟩;obtain⟨hlen,⟨rfl,hn⟩ | ⟨β',Lz,j5,rfl,hB,hh,sN,zu,hcs,gC⟩⟩:=s8
    ·have z_:b=[]:=Zd (by omega);subst z_;exact⟨_,rfl,p,⟨ra.os,ra.tape,ra.output,ra.size,fun β hβ _=>ra.block β hβ,fun _ _=>rfl,fun β hβ=>Ds β (Zp ra.size hβ)⟩,.inl (.inl (.bs 0 0 rfl (Zh _) (.inl rfl) fun i b hb=>by simp at hb)),⟨rfl,fun i j cs jx h=>by simp at h⟩⟩
    ·have fY:=lJ hh;refine⟨_,rfl,raise p (Zw β') len,⟨ra.os,ra.tape,ra.output,ra.size,fun β hβ _=>ra.block β hβ,fun β hβ=>nh (by simp;omega),fun β hβ=> ?_⟩,.inl (.inl (.bs β' 0 hl sN (.inr rfl) fun i c hc=>⟨?_,?_⟩)),⟨rfl,fun i j cs jx h=>by simp at h⟩⟩
     ·rw[nh (by simp;omega)];exact Ds β (Zp ra.size hβ)
     ·rw[gM rfl];have:=(Zn.1 hc).1;omega
     ·have hi:i<len:=by have:=(Zn.1 hc).1;omega
      rw[Nat.zero_add,fz hh];have h2:(j5.toList.take (len*1))[i]? = Zw (jZ c):=by
       rw[gC];simp[hc,jZ]
      rw[List.getElem?_take,Qa1 (by omega)] at h2;simpa using h2
theorem xr{e t size:Nat}{i ei:TI}(lC:∀ vs (w:World),(callFunc f vs).run P w = .ok (.enter f vs) w){s:Spec}(s9:G.rts f=Zw [t])(Ad:G.ty t=Zw i)(hk:i.kind = .slice e Zu)(W5:G.ty e=Zw ei)(hes:ei.size=size)(ko:0<size)
  (h0:∀ (n c:Nat) w,Calls P f #[.slice Yj n c] w fun x w'=>x = .returned (.slice Yj 0 0)/\w'=w)
  (h1:∀ (a:Addr) (n c:Nat) (xs:List Value) (w:World),xs.length=n*size->n<=1000000->(∀ j u,xs[j]? = Zw u->w.cell? (a.add j)=Zw u)->(∀ u∈xs,u.oneCell'=Zf) ->
   Calls P f #[.slice (Zw a) n c] w fun x w'=>∃ v',x = .returned v'/\w'.ownsRow w.heap.size e size v' n xs/\Below w.heap.size w w')
  (hs:∀ xs bl r,s xs bl=Zw r->∃ els:List AV,xs=[.sl size els]/\els.length<=1000000/\bl=[]/\r=(.aI els,[])):lv P G f s:=by
 intro call xs bl r bs rts g1 g2 w p dU bk Ds hG fP ha vT;rw[s9] at g2;cases g2;obtain⟨els,rfl,xw,rfl,hr⟩:=hs _ _ _ g1;cases hr;have ta:dU.size=1:=fP;obtain⟨v0,rfl⟩:∃ a,dU = #[a]:=⟨dU[0],by apply Array.ext<;>simp[ta];intro i hi;subst hi;rfl⟩;have r0:=ha 0 v0 _ rfl rfl;have hI:bU w p v0 (.sl size els):=by
  rcases r0 with(h | ⟨_,_,_,h,_⟩) | ⟨_,_,_,h,_⟩ | ⟨_,_,_,_,_,_,h,_⟩
  ·exact h
  ·cases h
  ·cases h
  ·cases h
 left;refine⟨lC _ w,?_⟩;subst hes;cases hI with
 | sl β off vs hl nH V_ AQ hcell mM =>
  rename_i a len cap;have Tz:=jo V_;cases a with
  | none =>
   have z_:els=[]:=by
    rcases AQ with h | h
    ·exact Zd (by omega)
    ·cases h
   subst z_;refine(h0 len cap w).mono ?_;rintro x w' ⟨rfl,rfl⟩;exact⟨_,rfl,p,Kept.refl Ds,.inr (.inr (.inl ⟨i,e,ei,[],[],Ad,hk,W5,rfl,ko,fun x hx=>(nomatch hx),⟨by simp,.inl ⟨rfl,_,rfl⟩⟩,aZ.nil,fun β hβ=>by simp[bP] at hβ⟩)),⟨rfl,fun i j cs jx h=>by simp at h⟩⟩
  | some a =>
   have pF:∀ j u,((Zj (els.flatMap AV.cells).length).map vs)[j]? = Zw u->∃ c,(els.flatMap AV.cells)[j]? = Zw c/\u=vs j:=by
    intro j u hj;have hi:j<(els.flatMap AV.cells).length:=by have:=(Zn.1 hj).1;simpa using this
    refine⟨_,Yq hi,?_⟩;rw[List.getElem?_map,List.getElem?_range hi] at hj;cases hj;rfl
   refine(h1 a len cap ((Zj (els.flatMap AV.cells).length).map vs) w (by simp[Tz,hl]) (by omega) (fun j u hj=> ?_) (fun u hu=> ?_)).mono ?_
   ·obtain⟨c,hc,rfl⟩:=pF j u hj;have fY:=(Zn.1 hc).1;rcases AQ with h | h
    ·rw[Tz,hl,h] at fY;simp at fY
    ·cases h;rw[eL];exact(hcell j c hc).2
   ·obtain⟨j,hj,rfl⟩:=List.mem_map.1 hu;exact(mM j _ (Yq (Yz.1 hj))).tB.2.1
   ·rintro x w' ⟨v',rfl,s8,ra⟩;have bK:ly w' w.heap.size e ei.size v' els.length ((Zj (els.flatMap AV.cells).length).map vs):=by
     obtain⟨hlen,⟨rfl,hn⟩ | ⟨β',Lz,j5,rfl,hB,hh,sN,zu,hcs,gC⟩⟩:=s8
     ·exact⟨by rw[hl];exact hlen,.inl ⟨by omega,_,rfl⟩⟩
     ·rw[hl];by_cases hz:Lz=0
      ·subst hz;have h9:len=0:=by omega
       subst h9;exact⟨hlen,.inl ⟨rfl,_,rfl⟩⟩
      ·exact⟨hlen,.inr ⟨β',Lz,j5,rfl,by omega,hB,hh,sN,zu,hcs,gC⟩⟩
    have aaX:∀ β j,j<p β->β<w.heap.size:=fun β j hj=>by
     rcases Nat.lt_or_ge β w.heap.size with h | h
     ·exact h
     ·rw[Ds β h] at hj;omega
    refine⟨_,rfl,p,⟨ra.os,ra.tape,ra.output,ra.size,fun β hβ _=>ra.block β hβ,fun _ _=>rfl,fun β hβ=>Ds β (Zp ra.size hβ)⟩,
     .inr (.inr (.inl ⟨i,e,ei,els,_,Ad,hk,W5,rfl,ko,V_,bK,⟨by simp,fun j v c hv hc=> ?_⟩,fun β hβ=> ?_⟩)),⟨rfl,fun i j cs jx h=>by simp at h⟩⟩
    ·obtain⟨c',IX,rfl⟩:=pF j v hv;exact(mM j c hc).mono (fun _=>Zh _) fun β i hi=>by
      have:=ra.block β (aaX β i hi);simp only[World.cell?,this]
    ·obtain⟨_,⟨_,a',rfl⟩ | ⟨β',Lz,j5,rfl,h9,hB,_⟩⟩:=bK
     ·cases a'<;>simp[bP] at hβ
     ·simp only[bP] at hβ;rw[Qa0 (by omega)] at hβ;cases hβ;exact Ds _ hB
end
end Go.Abs
/- slices.Grow of nil, for rows of structs and numbers. -/
namespace Go.Abs
open Go.RowKit Go.Lib
section
variable {P:Program} {G:ph} {f:Nat} {fn:Func}
theorem GJ{e t:Nat}{cap:World->Nat->Nat}{cells:World->Nat->Array Value}(lC:∀ vs (w:World),(callFunc f vs).run P w = .ok (.enter f vs) w){s:Spec}(s9:G.rts f=Zw [t]){i ei:TI}(Ad:G.ty t=Zw i)(hk:i.kind = .slice e Zu)(W5:G.ty e=Zw ei)(ko:0<ei.size)
  (h0:∀ a w,Calls P f #[.slice a 0 0,.int .i64 0] w fun x w'=>x = .returned (.slice a 0 0)/\w'=w)
  (h1:∀ a (n:Nat) w,0<n->n<=1000000000000->Calls P f #[.slice a 0 0,.int .i64 n] w fun x w'=>x = .returned (.slice (Zw ⟨w.heap.size,0,Yj⟩) 0 (cap w n))/\w'=w.drew.alloc (.cells (cells w n) e))
  (nH:∀ w n,0<n->n<=1000000000000->n<=cap w n/\cap w n<=maxLen/\(cells w n).size=cap w n*ei.size)
  (hs:∀ xs bl r,s xs bl=Zw r->∃ n:Int,xs=[.dc,.int .i64 n]/\0<=n/\n<=1000000000000/\bl=[]/\r=(.aI [],[])):lv P G f s:=by
 intro call xs bl r bs rts g1 g2 w p dU bk Ds hG fP ha vT;rw[s9] at g2;cases g2;obtain⟨n,rfl,U',hn1,rfl,hr⟩:=hs _ _ _ g1;cases hr;have ta:dU.size=2:=fP;obtain⟨v0,v1,rfl⟩:∃ a b,dU = #[a,b]:=⟨dU[0],dU[1],by apply Array.ext<;>simp[ta];intro i h1 h2;rcases i with _ | _ | i<;>first | rfl | omega⟩;have r0:=ha 0 v0 _ rfl rfl;have r1:=ha 1 v1 _ rfl rfl;have e0:∃ a,v0 = .slice a 0 0:=by
  rcases r0 with(h | ⟨_,_,_,h,_⟩) | ⟨_,_,_,h,_⟩ | ⟨_,_,_,_,_,_,h,_⟩
  ·cases h;exact⟨_,rfl⟩
  ·cases h
  ·cases h
  ·cases h
 have e1:v1 = .int .i64 n:=by
  rcases r1 with(h | ⟨_,_,_,h,_⟩) | ⟨_,_,_,h,_⟩ | ⟨_,_,_,_,_,_,h,_⟩
  ·cases h;rfl
  ·cases h
  ·cases h
  ·cases h
 obtain⟨a,rfl⟩:=e0;subst e1;left;refine⟨lC _ w,?_⟩;have AU:lF w w p bk [] [] []:=⟨rfl,fun i j cs jx h=>by simp at h⟩;obtain⟨m,rfl⟩:=Int.eq_ofNat_of_zero_le U';rcases Nat.eq_zero_or_pos m with hz | hz
 ·subst hz;refine(h0 a w).mono ?_;rintro x w' ⟨rfl,rfl⟩;exact⟨_,rfl,p,Kept.refl Ds,.inr (.inr (.inl ⟨i,e,ei,[],[],Ad,hk,W5,rfl,ko,fun x hx=>(nomatch hx),⟨by simp,.inl ⟨rfl,_,rfl⟩⟩,aZ.nil,fun β hβ=>by cases a<;>simp[bP] at hβ⟩)),⟨rfl,fun i j cs jx h=>by simp at h⟩⟩
 ·refine(h1 a m w hz (by omega)).mono ?_;rintro x w' ⟨rfl,rfl⟩;obtain⟨c1,c2,c3⟩:=nH w m hz (by omega);refine⟨_,rfl,p,⟨rfl,rfl,rfl,by simp,fun β hβ _=> ?_,fun _ _=>rfl,fun β hβ=>Ds β (by simp at hβ;omega)⟩,.inr (.inr (.inl ⟨i,e,ei,[],[],Ad,hk,W5,rfl,ko,fun x hx=>(nomatch hx),⟨by simp,.inr ⟨w.heap.size,cap w m,cells w m,rfl,by omega,Zh _,?_,by simp,c2,c3,by simp⟩⟩,aZ.nil,fun β hβ=> ?_⟩)),⟨rfl,fun i j cs jx h=>by simp at h⟩⟩
  ·exact dY w.drew _ hβ
  ·exact fa w.drew _
  ·simp only[bP] at hβ;split at hβ
   ·cases hβ
   ·cases hβ;exact Ds _ (Zh _)
end
end Go.Abs
