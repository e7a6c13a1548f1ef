/- Chapter 27: the program's closure, as its loops are. -/
import Derived.Test.YteafbgcimcpfiaaGreatKerb27c
import Derived.Lib.Walk
import Derived.Lib.SliceRun
import Derived.Lib.AppendZerosOnto
import Derived.Lib.Bytealg
import Derived.Lib.BytesEntry
import Derived.Laws.Externs
set_option linter.all false
open Option renaming bind→Zz,some→Zw,none→Yd
open Decidable renaming decide→Zy
open Int renaming toNat_natCast→Zx,toNat→Zv
open Bool renaming false→Zu,true→Zb,not_false→Yz,and_eq_true→Yy,not_true→Yq
open Go.Abs.AV renaming bool→Zq,eH→Yp
open List renaming getD→Zj,range→Zk,mem_range→Zf,getElem?_eq_getElem→Zg,all_eq_true→Zn,eq_nil_of_length_eq_zero→Zm,getElem?_eq_some_iff→Yx,length_append→Yw,take_length→Yu
open Go.IntKind renaming wrap→Zp
open Nat renaming le_trans→Zd,le_refl→Zh,zero_le→Yj,beq→Yk
open Kerb renaming indexOf→Yv
namespace Kerb
open Go Go.Abs
section
variable {α:Type}
noncomputable def qR(l:List AV)(f:List AV->List AV->Option α):Option α:=ay l fun x r=>AV.aR x fun b=>f b r
noncomputable def kF(o:Option (List AV))(f:Bool->Option α):Option α:=Zz o fun l=>ay l fun x r=>aw r (AV.cR x f)
abbrev iv(n:Int):AV := .int .i64 n
abbrev up(n:Int):AV := .int .i64 (Zp .i64 (n+1))
abbrev St:=Option (List AV ⊕ (Ex×List AV))
noncomputable def ww(n:Int)(y:List AV)(f:Option α):Option α:=az (Zy (0<=n)&&Zy (n<(y.length:Int))&&Zb) f
noncomputable def A1(n:Int)(y:List AV)(f:Option α):Option α:=ww n y (az (Nat.blt (Zv n) y.length&&Zb) f)
noncomputable def Ux(y:List AV)(k:Int)(l:List AV):St:=ak .i64 l fun n r=>ak .i64 r fun i r=>aw r
 (aD (Zy (i<(y.length:Int))) (A1 i y (AV.ax .u64 (y.getD (Zv i) .undef) fun q=>aD (k==q) (Zw (.inr (.ret,[iv i,iv i]))) (Zw (.inl [iv n,up i]))))
  (Zw (.inr (.exit 0,[iv n,iv i]))))
noncomputable def E_(r:Ex×List AV):Option (List AV):=ak .i64 r.2 fun n r1=>ak .i64 r1 fun _ r2=>aw r2 (jp r.1 (Zw [.bool (Zy (n>=0))]) fun j=>aD (Yk j 0) (Zw [.bool Zu]) Yd)
noncomputable def Mm(y:List AV)(k:Int):Option (List AV):=Zz (bw (Ux y k) [iv 0,iv 0]) E_
noncomputable def tD(y:List AV)(k:Int):Option (List AV):=kF (Mm y k) fun b=>Zw [.bool !b]
noncomputable def Xo(y kl:List AV)(l:List AV):St:=ak .i64 l fun n r=>ak .i64 r fun i r=>aw r
 (aD (Zy (i<(kl.length:Int))) (ww i kl (AV.ax .u64 (kl.getD (Zv i) .undef) fun q=>kF (tD y q) fun b=>aD b (Zw (.inr (.ret,[iv i,iv i]))) (Zw (.inl [iv n,up i]))))
  (Zw (.inr (.exit 0,[iv n,iv i]))))
noncomputable def VV(y kl:List AV):Option (List AV):=Zz (bw (Xo y kl) [iv 0,iv 0]) E_
noncomputable def UA(y:List AV)(b:List UInt8)(l:List AV):St:=aE l fun c r=>ak .i64 r fun i r=>aw r
 (aD (Zy (i<(y.length:Int))) (A1 i y (Yp (y.getD (Zv i) .undef) fun q=>aD (q==b) (Zw (.inr (.ret,[.bool Zu,iv i]))) (Zw (.inl [.bool c,up i]))))
  (Zw (.inr (.exit 0,[.bool c,iv i]))))
noncomputable def vC(y:List AV)(b:List UInt8):Option (List AV):=Zz (bw (UA y b) [.bool Zu,iv 0]) fun r=>aE r.2 fun c r1=>ak .i64 r1 fun _ r2=>aw r2 (jp r.1 (Zw [.bool c]) fun j=>aD (Yk j 0) (Zw [.bool Zb]) Yd)
noncomputable def Xl(y bl:List AV)(l:List AV):St:=ak .i64 l fun n r=>ak .i64 r fun i r=>aw r
 (aD (Zy (i<(bl.length:Int))) (ww i bl (Yp (bl.getD (Zv i) .undef) fun q=>kF (vC y q) fun b=>aD b (Zw (.inr (.ret,[iv i,iv i]))) (Zw (.inl [iv n,up i]))))
  (Zw (.inr (.exit 0,[iv n,iv i]))))
noncomputable def VU(y bl:List AV):Option (List AV):=Zz (bw (Xl y bl) [iv 0,iv 0]) E_
noncomputable def OW(y:List AV)(q:Int)(f:List AV->Option α):Option α:=Zz (az (dL y&&Jh (AL y q)&&Zy ((y.length:Int)<=100000000)) (Zw (AV.aF (AL y q),([]:List (List AV))))) fun r=>aM r.2 (AV.aR r.1 f)
noncomputable def P1(kl:List AV)(l:List AV):St:=ak .i64 l fun n r=>qR r fun y r=>qR r fun y1 r=>qR r fun y2 r=>aw r
 (aD (Zy (n<(kl.length:Int))) (ww n kl (AV.ax .u64 (kl.getD (Zv n) .undef) fun q=>kF (tD y q) fun b =>
   aD b (OW y q fun l=>Zw (.inl [up n,.aF l,.aF y1,.aF y2])) (Zw (.inl [up n,.aF y,.aF y1,.aF y2]))))
  (Zw (.inr (.exit 0,[iv n,.aF y,.aF y1,.aF y2]))))
noncomputable def K_(bl:List AV)(l:List AV):St:=ak .i64 l fun n r=>qR r fun y r=>qR r fun y1 r=>qR r fun y2 r=>aw r
 (aD (Zy (n<(bl.length:Int))) (ww n bl (Yp (bl.getD (Zv n) .undef) fun q=>kF (vC y1 q) fun b =>
   aD b (az (Go.Abs.room (y1.length+[AV.bs q].length) 24) (Zw (.inl [up n,.aF y,.aF (y1++[.bs q]),.aF y2]))) (Zw (.inl [up n,.aF y,.aF y1,.aF y2]))))
  (Zw (.inr (.exit 2,[iv n,.aF y,.aF y1,.aF y2]))))
noncomputable def Br(b:Bool)(n:Int)(kl bl y y1 y2:List AV):St :=
 Zz (bw (P1 kl) [iv 0,.aF y,.aF y1,.aF y2]) fun r=>ak .i64 r.2 fun _ r1=>qR r1 fun y r2=>qR r2 fun y7 r3=>qR r3 fun y8 r4=>aw r4
  (jp r.1 (Zw (.inl [.bool b,up n,.aF y,.aF y7,.aF y8])) fun j=>aD (Yk j 0)
   (Zz (bw (K_ bl) [iv 0,.aF y,.aF y7,.aF y8]) fun r=>ak .i64 r.2 fun _ r1=>qR r1 fun y r2=>qR r2 fun y9 r3=>qR r3 fun y10 r4=>aw r4
    (jp r.1 (Zw (.inl [.bool b,up n,.aF y,.aF y9,.aF y10])) fun j=>aD (Yk j 2) (Zw (.inr (.ret,[.bool Zb,iv n,.aF y,.aF y9,.aF y10]))) Yd))
   Yd)
noncomputable def BS(b:Bool)(n:Int)(y y1 y2:List AV)(t:List UInt8):St :=
 Zz (az (Zy (t.length<=140737488355328)) (Zw (AV.aQ [.agg [.int .i64 (aY t).box.kind,.int .u64 (aY t).box.key,.bs (aY t).box.body],.int .i64 (aY t).n,.int .i64 (aY t).err],([]:List (List AV))))) fun r=>aM r.2 (AV.fI r.1 fun vs=>ay vs fun x r=>AV.eu x fun cs=>ak .i64 cs fun kd r1=>ak .u64 r1 fun ky r1=>bq r1 fun bd r1=>aw r1 (ak .i64 r fun _ r=>ak .i64 r fun er r=>aw r
  (aD (!(er==0)) (Zw (.inl [.bool b,up n,.aF y,.aF y1,.aF y2])) (kF (tD y ky) fun b6=>aD b6 (Zw (.inl [.bool b,up n,.aF y,.aF y1,.aF y2]))
   (Zz (az (Zy (bd.length<=70368744170000)) (Zw (AV.aQ [.sl 1 (cZ (k_ ⟨kd,ky,bd⟩).keys),.sl 1 (cQ (k_ ⟨kd,ky,bd⟩).boxes)],([]:List (List AV))))) fun r=>aM r.2 (AV.fI r.1 fun vs=>ci 1 vs fun kl r=>ci 1 r fun bl r=>aw r
    (kF (VV y kl) fun b9=>aD (!b9) (kF (VU y1 bl) fun b10=>aD (!b10) (Zw (.inl [.bool b,up n,.aF y,.aF y1,.aF (np (iv n) (.bool Zb) y2)])) (Br b n kl bl y y1 (np (iv n) (.bool Zb) y2))) (Br b n kl bl y y1 (np (iv n) (.bool Zb) y2)))))))))
noncomputable def IW(y3:List AV)(l:List AV):St:=aE l fun b r=>ak .i64 r fun n r=>qR r fun y r=>qR r fun y5 r=>qR r fun y6 r=>aw r
 (aD (Zy (n<(y3.length:Int))) (AV.cR (getM (iv n) y6 (.bool Zu)) fun b3=>aD (!b3) (A1 n y5 (Yp (y5.getD (Zv n) .undef) fun t=>BS b n y y5 y6 t)) (Zw (.inl [.bool b,up n,.aF y,.aF y5,.aF y6])))
  (Zw (.inr (.exit 0,[.bool b,iv n,.aF y,.aF y5,.aF y6]))))
noncomputable def Q6(l:List AV):St:=qR l fun y r=>qR r fun y3 r=>qR r fun y4 r=>aw r
 (Zz (bw (IW y3) [.bool Zu,iv 0,.aF y,.aF y3,.aF y4]) fun r=>aE r.2 fun b r1=>ak .i64 r1 fun _ r1=>qR r1 fun y r1=>qR r1 fun y5 r1=>qR r1 fun y6 r1=>aw r1
  (jp r.1 (aD b (Zw (.inl [.aF y,.aF y5,.aF y6])) (Zw (.inr (.exit 0,[.aF y,.aF y5,.aF y6])))) fun j=>aD (Yk j 0) (Zw (.inr (.exit 0,[.aF y,.aF y5,.aF y6]))) Yd))
noncomputable def Jv(y y1 y2:List AV):Option (AV×aC):=Zz (bw Q6 [.aF y,.aF y1,.aF y2]) fun r=>qR r.2 fun y r1=>qR r1 fun y3 r1=>qR r1 fun _ r1=>aw r1
 (jp r.1 (Zw (.agg [.sl 1 y,.sl 1 y3],[])) fun j=>aD (Yk j 0) (Zw (.agg [.sl 1 y,.sl 1 y3],[])) Yd)
noncomputable def Qo(l:List AV):St:=ci 1 l fun b r=>ci 1 r fun b1 r=>qR r fun y r=>qR r fun y1 r=>qR r fun y2 r=>ci 1 r fun b2 r=>ak .i64 r fun n r=>ak .i64 r fun i r=>aw r
 (aD (Zy (i<n)) (ww i b2 (Yp (b2.getD (Zv i) .undef) fun q=>kF (vC y1 q) fun c =>
   aD c (az (Go.Abs.room (y1.length+[AV.bs q].length) 24) (Zw (.inl [.sl 1 b,.sl 1 b1,.aF y,.aF (y1++[.bs q]),.aF y2,.sl 1 b2,iv n,up i]))) (Zw (.inl [.sl 1 b,.sl 1 b1,.aF y,.aF y1,.aF y2,.sl 1 b2,iv n,up i]))))
  (Zw (.inr (.exit 0,[.sl 1 b,.sl 1 b1,.aF y,.aF y1,.aF y2,.sl 1 b2,iv n,iv i]))))
noncomputable def O3(ks bs:List AV)(f:List AV->List AV->Option α):Option α:=Zz (az (dL ks&&Zy (ks.length<=1000000)) (Zw (AV.aF ks,([]:List (List AV))))) fun r=>aM r.2 (AV.aR r.1 fun l=>Zz (az (uN bs&&Zy (bs.length<=1000000)) (Zw (AV.aF bs,([]:List (List AV))))) fun r=>aM r.2 (AV.aR r.1 fun l1=>f l l1))
noncomputable def Hs(ks bs:List AV)(b:List UInt8):Option (AV×aC):=O3 ks bs fun l l1 =>
 Zz (az (Zy (b.length<=70368744170000)) (Zw (AV.sl 1 (cQ (partsOf b)),([]:List (List AV))))) fun r=>aM r.2 (AV.hO 1 r.1 fun p =>
  Zz (bw Qo [.sl 1 [],.sl 1 [],.aF l,.aF l1,.aF [],.sl 1 p,iv p.length,iv 0]) fun r=>ci 1 r.2 fun b r1=>ci 1 r1 fun b1 r1=>qR r1 fun y r1=>qR r1 fun y1 r1=>qR r1 fun y2 r1=>ci 1 r1 fun _ r1=>ak .i64 r1 fun _ r1=>ak .i64 r1 fun _ r1=>aw r1
   (jp r.1 (Zw (.agg [.sl 1 b,.sl 1 b1],[])) fun j=>aD (Yk j 0) (Jv y y1 y2) Yd))
noncomputable def Mo(ks bs:List AV)(k:Int):Option (AV×aC):=O3 ks bs fun l l1 =>
 Zz (az (Zy (0<=k)&&Zy (k<18446744073709551616)) (Zw (Zq (bp k),([]:List (List AV))))) fun r=>aM r.2 (AV.cR r.1 fun v =>
  Zz (aD v (kF (tD l k) fun b=>aD b (OW l k fun l=>Zw [.sl 1 [],.sl 1 [],.aF l,.aF l1,.aF []]) (Zw [.sl 1 [],.sl 1 [],.aF l,.aF l1,.aF []])) (Zw [.sl 1 [],.sl 1 [],.aF l,.aF l1,.aF []]))
   fun l=>ci 1 l fun _ r=>ci 1 r fun _ r=>qR r fun y r=>qR r fun y1 r=>qR r fun y2 r=>aw r (Jv y y1 y2))
end
theorem lH{β:Type}{step:List AV->St}{k:Ex×List AV->Option β}{A:β}(e:Nat->List AV)(N:Nat)(hs:∀ i,i<N->step (e i)=Zw (.inl (e (i+1))))(he:∃ r,step (e N)=Zw (.inr r)/\k r=Zw A){t:List AV}(ht:t=e 0):Zz (bw step t) k=Zw A:=by
 refine b_ (enc:=e) (I:=fun i=>i<=N) (μ:=fun i=>N-i) (R:=fun r=>k r=Zw A) 0 (Yj _) ht ?_ fun r h=>h;intro i hi;by_cases h:i<N
 ·exact⟨_,hs i h,i+1,rfl,h,show N-(i+1)<N-i by omega⟩
 ·obtain rfl:i=N:=by omega
  obtain⟨r,h1,h2⟩:=he;exact⟨_,h1,h2⟩
theorem ng{β:Type}{step:List AV->St}{k:Ex×List AV->Option β}{A B:β}(e:Nat->List AV)(N:Nat)(p:Nat->Bool)(hs:∀ i,i<N->p i=Zu->step (e i)=Zw (.inl (e (i+1))))(hr:∀ i,i<N->p i=Zb->∃ r,step (e i)=Zw (.inr r)/\k r=Zw A)
  (he:∃ r,step (e N)=Zw (.inr r)/\k r=Zw B) {t:List AV} (ht:t=e 0):Zz (bw step t) k=Zw (bif (Zk N).any p then A else B):=by
 refine b_ (enc:=e) (I:=fun i=>i<=N/\∀ j,j<i->p j=Zu) (μ:=fun i=>N-i) (R:=fun r=>k r=Zw (bif (Zk N).any p then A else B)) 0 ⟨Yj _,fun j h=>by omega⟩ ht ?_ fun r h=>h;rintro i ⟨hi,hj⟩;by_cases h:i<N
 ·cases hp:p i with
  | false=>exact⟨_,hs i h hp,i+1,rfl,⟨h,fun j GP=>by by_cases Qb:j=i;(· subst Qb;exact hp);exact hj j (by omega)⟩,show N-(i+1)<N-i by omega⟩
  | true =>
   obtain⟨r,h1,h2⟩:=hr i h hp;have:(Zk N).any p=Zb:=List.any_eq_true.2 ⟨i,Zf.2 h,hp⟩;exact⟨_,h1,by show k r=_;rw[h2,this];rfl⟩
 ·obtain rfl:i=N:=by omega
  obtain⟨r,h1,h2⟩:=he;have:(Zk i).any p=Zu:=by
   rw[List.any_eq_false];intro x hx;rw[hj x (Zf.1 hx)];exact Bool.false_ne_true
  exact⟨_,h1,by show k r=_;rw[h2,this];rfl⟩
theorem kj{α:Type}(l:List α)(d:α)(f:α->Bool):(Zk l.length).any (fun i=>f (l.getD i d))=l.any f:=by
 rw[Bool.eq_iff_iff,List.any_eq_true,List.any_eq_true];constructor
 ·rintro⟨i,hi,h⟩;have hi:=Zf.1 hi;exact⟨l[i],List.getElem_mem hi,by simpa [Zj,hi] using h⟩
 ·rintro⟨x,hx,h⟩;obtain⟨i,hi,rfl⟩:=List.mem_iff_getElem.1 hx;exact⟨i,Zf.2 hi,by simpa [Zj,hi] using h⟩
theorem qp(l:List Int)(k:Int):l.any (fun x=>k==x)=l.contains k:=by grind
theorem oY(l:List Bytes)(k:Bytes):l.any (fun x=>x==k)=l.contains k:=by grind
theorem uD{i:Nat}(h:i<=1000000000):up (i:Int)=iv ((i+1:Nat):Int):=by
 unfold up iv;rw[wrap_i64 (by omega) (by omega)];rfl
theorem jA{α:Type}{i:Nat}{y:List AV}(h:i<y.length)(f:Option α):ww (i:Int) y f=f:=by
 unfold ww;exact ae (by simp;omega) f
theorem vv{α:Type}{i:Nat}{y:List AV}(h:i<y.length)(f:Option α):A1 (i:Int) y f=f:=by
 unfold A1;rw[jA h];exact ae (by simp[Nat.blt_eq];omega) f
theorem pu{i:Nat}{y:List AV}(h:i<y.length):Zy ((i:Int)<(y.length:Int))=Zb:=by simp;omega
theorem HA{y:List AV}:Zy ((y.length:Int)<(y.length:Int))=Zu:=by simp
theorem Mn{K:List Int}(k:Int)(h:K.length<=100000000):Mm (cZ K) k=Zw [.bool (K.contains k)]:=by
 have e:Mm (cZ K) k=Zw (bif (Zk (cZ K).length).any (fun i=>k==K.getD i 0) then[Zq Zb] else[Zq Zu]):=by
  refine ng (fun i=>[iv 0,iv i]) _ _ ?_ ?_ ?_ rfl
  ·intro i hi hp;have iS:i<K.length:=by rw[<-ef];exact hi
   show aD (Zy ((i:Int)<((cZ K).length:Int))) (A1 i (cZ K) (AV.ax .u64 ((cZ K).getD (Zv i) .undef) _)) _=_;rw[ah (pu hi),vv hi,Zx,jZ iS];show aD (k==K.getD i 0) _ _=_;rw[aj hp,uD (by omega)]
  ·intro i hi hp;have iS:i<K.length:=by rw[<-ef];exact hi
   refine⟨(.ret,[iv i,iv i]),?_,?_⟩
   ·show aD (Zy ((i:Int)<((cZ K).length:Int))) (A1 i (cZ K) (AV.ax .u64 ((cZ K).getD (Zv i) .undef) _)) _=_;rw[ah (pu hi),vv hi,Zx,jZ iS];show aD (k==K.getD i 0) _ _=_;rw[ah hp]
   ·show Zw [Zq (Zy ((i:Int)>=0))]=_;rw[show Zy ((i:Int)>=0)=Zb by simp]
  ·refine⟨(.exit 0,[iv 0,iv (cZ K).length]),?_,rfl⟩;show aD (Zy (((cZ K).length:Int)<((cZ K).length:Int))) _ _=_;rw[aj HA]
 rw[e,ef,kj K 0 (fun x=>k==x),qp];cases K.contains k<;>rfl
theorem rL{K:List Int}(k:Int)(h:K.length<=100000000):tD (cZ K) k=Zw [.bool (!K.contains k)]:=by
 unfold tD;rw[Mn k h];rfl
theorem QR{K:List Int}(L:List Int)(h:K.length<=100000000)(hl:L.length<=100000000):VV (cZ K) (cZ L)=Zw [.bool (L.any fun k => !K.contains k)]:=by
 have e:VV (cZ K) (cZ L)=Zw (bif (Zk (cZ L).length).any (fun i => !K.contains (L.getD i 0)) then[Zq Zb] else[Zq Zu]):=by
  refine ng (fun i=>[iv 0,iv i]) _ _ ?_ ?_ ?_ rfl
  ·intro i hi hp;have iS:i<L.length:=by rw[<-ef];exact hi
   show aD (Zy ((i:Int)<((cZ L).length:Int))) (ww i (cZ L) (AV.ax .u64 ((cZ L).getD (Zv i) .undef) _)) _=_;rw[ah (pu hi),jA hi,Zx,jZ iS];show kF (tD (cZ K) (L.getD i 0)) _=_;rw[rL _ h];show aD (!K.contains (L.getD i 0)) _ _=_;rw[aj hp,uD (by omega)]
  ·intro i hi hp;have iS:i<L.length:=by rw[<-ef];exact hi
   refine⟨(.ret,[iv i,iv i]),?_,?_⟩
   ·show aD (Zy ((i:Int)<((cZ L).length:Int))) (ww i (cZ L) (AV.ax .u64 ((cZ L).getD (Zv i) .undef) _)) _=_;rw[ah (pu hi),jA hi,Zx,jZ iS];show kF (tD (cZ K) (L.getD i 0)) _=_;rw[rL _ h];show aD (!K.contains (L.getD i 0)) _ _=_;rw[ah hp]
   ·show Zw [Zq (Zy ((i:Int)>=0))]=_;rw[show Zy ((i:Int)>=0)=Zb by simp]
  ·refine⟨(.exit 0,[iv 0,iv (cZ L).length]),?_,rfl⟩;show aD (Zy (((cZ L).length:Int)<((cZ L).length:Int))) _ _=_;rw[aj HA]
 rw[e,ef,kj L 0 (fun x => !K.contains x)];cases L.any fun k => !K.contains k<;>rfl
theorem vD{B:List Bytes}(b:Bytes)(h:B.length<=100000000):vC (cQ B) b=Zw [.bool (!B.contains b)]:=by
 have e:vC (cQ B) b=Zw (bif (Zk (cQ B).length).any (fun i=>B.getD i []==b) then[Zq Zu] else[Zq Zb]):=by
  refine ng (fun i=>[.bool Zu,iv i]) _ _ ?_ ?_ ?_ rfl
  ·intro i hi hp;have iS:i<B.length:=by rw[<-ec];exact hi
   show aD (Zy ((i:Int)<((cQ B).length:Int))) (A1 i (cQ B) (Yp ((cQ B).getD (Zv i) .undef) _)) _=_;rw[ah (pu hi),vv hi,Zx,jY iS];show aD (B.getD i []==b) _ _=_;rw[aj hp,uD (by omega)]
  ·intro i hi hp;have iS:i<B.length:=by rw[<-ec];exact hi
   refine⟨(.ret,[.bool Zu,iv i]),?_,rfl⟩;show aD (Zy ((i:Int)<((cQ B).length:Int))) (A1 i (cQ B) (Yp ((cQ B).getD (Zv i) .undef) _)) _=_;rw[ah (pu hi),vv hi,Zx,jY iS];show aD (B.getD i []==b) _ _=_;rw[ah hp]
  ·refine⟨(.exit 0,[.bool Zu,iv (cQ B).length]),?_,rfl⟩;show aD (Zy (((cQ B).length:Int)<((cQ B).length:Int))) _ _=_;rw[aj HA]
 rw[e,ec,kj B [] (fun x=>x==b),oY];cases B.contains b<;>rfl
theorem QQ{B:List Bytes}(L:List Bytes)(h:B.length<=100000000)(hl:L.length<=100000000):VU (cQ B) (cQ L)=Zw [.bool (L.any fun k => !B.contains k)]:=by
 have e:VU (cQ B) (cQ L)=Zw (bif (Zk (cQ L).length).any (fun i => !B.contains (L.getD i [])) then[Zq Zb] else[Zq Zu]):=by
  refine ng (fun i=>[iv 0,iv i]) _ _ ?_ ?_ ?_ rfl
  ·intro i hi hp;have iS:i<L.length:=by rw[<-ec];exact hi
   show aD (Zy ((i:Int)<((cQ L).length:Int))) (ww i (cQ L) (Yp ((cQ L).getD (Zv i) .undef) _)) _=_;rw[ah (pu hi),jA hi,Zx,jY iS];show kF (vC (cQ B) (L.getD i [])) _=_;rw[vD _ h];show aD (!B.contains (L.getD i [])) _ _=_;rw[aj hp,uD (by omega)]
  ·intro i hi hp;have iS:i<L.length:=by rw[<-ec];exact hi
   refine⟨(.ret,[iv i,iv i]),?_,?_⟩
   ·show aD (Zy ((i:Int)<((cQ L).length:Int))) (ww i (cQ L) (Yp ((cQ L).getD (Zv i) .undef) _)) _=_;rw[ah (pu hi),jA hi,Zx,jY iS];show kF (vC (cQ B) (L.getD i [])) _=_;rw[vD _ h];show aD (!B.contains (L.getD i [])) _ _=_;rw[ah hp]
   ·show Zw [Zq (Zy ((i:Int)>=0))]=_;rw[show Zy ((i:Int)>=0)=Zb by simp]
  ·refine⟨(.exit 0,[iv 0,iv (cQ L).length]),?_,rfl⟩;show aD (Zy (((cQ L).length:Int)<((cQ L).length:Int))) _ _=_;rw[aj HA]
 rw[e,ec,kj L [] (fun x => !B.contains x)];cases L.any fun k => !B.contains k<;>rfl
theorem sY{α:Type}{l:List α}(d:α){i:Nat}(h:i<l.length):l.take (i+1)=l.take i++[l.getD i d]:=by
 rw[List.take_succ_eq_append_getElem h];simp[Zj,h]
theorem GW(K L:List Int){i:Nat}(h:i<L.length):gX K (L.take (i+1))=bif (gX K (L.take i)).contains (L.getD i 0) then gX K (L.take i) else mJ (gX K (L.take i)) (L.getD i 0):=by
 rw[sY 0 h];unfold gX;rw[List.foldl_append];rfl
theorem yo(K L:List Bytes){i:Nat}(h:i<L.length):eE K (L.take (i+1))=bif (eE K (L.take i)).contains (L.getD i []) then eE K (L.take i) else eE K (L.take i)++[L.getD i []]:=by
 rw[sY [] h];unfold eE;rw[List.foldl_append];rfl
theorem D6(l B:List Bytes):(eE B l).length<=B.length+l.length:=by
 obtain⟨N,h1,h2,_⟩:=ib (l:=l) (B:=B);rw[h1,Yw];omega
theorem Ii{α:Type}{K:List Int}{q:Int}(h:uP K=Zb)(hq:K.contains q=Zu)(hl:K.length<=100000000)(f:List AV->Option α):OW (cZ K) q f=f (cZ (mJ K q)):=by
 have SX:q ∉ K:=by simpa using hq
 unfold OW;rw[La h SX,Lg (uR h),s7,ef];rw[show(Zb&&Zb&&Zy ((K.length:Int)<=100000000))=Zb by simp;omega];rfl
theorem K'{β:Type}{K L:List Int}(ha:uP K=Zb)(h:K.length+L.length<=100000000)(y1 y2:List AV){k:Ex×List AV->Option β}{A:β}(hk:k (.exit 0,[iv L.length,.aF (cZ (gX K L)),.aF y1,.aF y2])=Zw A):Zz (bw (P1 (cZ L)) [iv 0,.aF (cZ K),.aF y1,.aF y2]) k=Zw A:=by
 refine lH (fun i=>[iv i,.aF (cZ (gX K (L.take i))),.aF y1,.aF y2]) L.length (fun i hi=> ?_) ⟨(.exit 0,[iv L.length,.aF (cZ (gX K L)),.aF y1,.aF y2]),?_,hk⟩ rfl
 ·have n9:i<(cZ L).length:=by rw[ef];exact hi
  have hm:(gX K (L.take i)).length<=100000000:=Zd uM (by rw[List.length_take];omega);show aD (Zy ((i:Int)<((cZ L).length:Int))) (ww i (cZ L) (AV.ax .u64 ((cZ L).getD (Zv i) .undef) _)) _=_;rw[ah (pu n9),jA n9,Zx,jZ hi];show kF (tD (cZ (gX K (L.take i))) (L.getD i 0)) _=_;rw[rL _ hm];show aD (!(gX K (L.take i)).contains (L.getD i 0)) _ _=_;rw[GW K L hi];cases hc:(gX K (L.take i)).contains (L.getD i 0) with
  | true =>
   rw[Yq,aA,uD (by omega)];rfl
  | false =>
   rw[Yz,cc,Ii (lY ha) hc hm,uD (by omega)];rfl
 ·show aD (Zy ((L.length:Int)<((cZ L).length:Int))) _ _=_;rw[aj (by rw[ef];simp),Yu]
theorem HP{n:Nat}(h:n<=100000000):Go.Abs.room (n+1) 24=Zb:=by
 unfold Go.Abs.room;simp only[Yy,Nat.ble_eq];omega
theorem As(B:List Bytes)(q:Bytes):cQ B++[.bs q]=cQ (B++[q]):=by simp[cQ]
theorem K9{β:Type}{K L:List Bytes}(h:K.length+L.length<=100000000)(y y2:List AV){k:Ex×List AV->Option β}{A:β}(hk:k (.exit 2,[iv L.length,.aF y,.aF (cQ (eE K L)),.aF y2])=Zw A):Zz (bw (K_ (cQ L)) [iv 0,.aF y,.aF (cQ K),.aF y2]) k=Zw A:=by
 refine lH (fun i=>[iv i,.aF y,.aF (cQ (eE K (L.take i))),.aF y2]) L.length (fun i hi=> ?_) ⟨(.exit 2,[iv L.length,.aF y,.aF (cQ (eE K L)),.aF y2]),?_,hk⟩ rfl
 ·have n9:i<(cQ L).length:=by rw[ec];exact hi
  have hm:(eE K (L.take i)).length<=100000000:=Zd (D6 _ _) (by rw[List.length_take];omega);show aD (Zy ((i:Int)<((cQ L).length:Int))) (ww i (cQ L) (Yp ((cQ L).getD (Zv i) .undef) _)) _=_;rw[ah (pu n9),jA n9,Zx,jY hi];show kF (vC (cQ (eE K (L.take i))) (L.getD i [])) _=_;rw[vD _ hm];show aD (!(eE K (L.take i)).contains (L.getD i [])) (az (Go.Abs.room ((cQ (eE K (L.take i))).length+1) 24) (Zw (Sum.inl [up i,.aF y,.aF (cQ (eE K (L.take i))++[.bs (L.getD i [])]),.aF y2]))) _=_;rw[yo K L hi,ec,HP hm,As];cases hc:(eE K (L.take i)).contains (L.getD i []) with
  | true =>
   rw[Yq,aA,uD (by omega)];rfl
  | false =>
   rw[Yz,cc,uD (by omega)];rfl
 ·show aD (Zy ((L.length:Int)<((cQ L).length:Int))) _ _=_;rw[aj (by rw[ec];simp),Yu]
def pX(s:Kn)(M:List AV):List AV:=[.aF (cZ s.keys),.aF (cQ s.boxes),.aF M]
theorem LH{s:Kn}{x:D0}(hs:eL s)(hk:x.keys.length<=1)(hb:x.boxes.length<=1)(b:Bool)(n:Int)(M:List AV):Br b n (cZ x.keys) (cQ x.boxes) (cZ s.keys) (cQ s.boxes) M=Zw (.inr (.ret,.bool Zb::iv n::pX (s.add x) M)):=by
 have h1:=hs.E';have h2:=hs.wD;unfold Br;refine K' hs.uP (by omega) _ _ ?_;show Zz (bw (K_ (cQ x.boxes)) _) _=_;refine K9 (by omega) _ _ ?_;rfl
theorem Rf{s:Kn}{x:D0}:s.has x=(!(x.keys.any fun k => !s.keys.contains k) && !(x.boxes.any fun b => !s.boxes.contains b)):=by
 unfold Kn.has;rw[List.all_eq_not_any_not,List.all_eq_not_any_not]
theorem MP{s:Kn}(hs:eL s){t:Bytes}(ht:t.length<=70368744170000)(b:Bool)(n:Int)(M:List AV) :
  BS b n (cZ s.keys) (cQ s.boxes) M t=Zw (if s.opens t=Zb then .inr (.ret,.bool Zb::iv n::pX (s.add (bY t)) (np (iv n) (.bool Zb) M))
   else .inl (.bool b::up n::pX s (if (aY t).err=0/\s.keys.contains (aY t).box.key=Zb then np (iv n) (.bool Zb) M else M))):=by
 have h1:=hs.E';have h2:=hs.wD;unfold BS;rw[ae (by simp;omega)];show aD (!((aY t).err==0)) _ _=_;by_cases he:(aY t).err=0;case neg =>
  rw[ah (by simpa using he),Qa0 (by rw[pB];exact fun h=>he h.1),Qa0 (fun h=>he h.1)];rfl
 rw[aj (by simpa using he)];have ho:s.opens t=(s.keys.contains (aY t).box.key && !s.has (bY t)):=by unfold Kn.opens;rw[he];rfl
 rw[ho,rL _ (by omega)];show aD (!s.keys.contains (aY t).box.key) _ _=_;cases hk:s.keys.contains (aY t).box.key with
 | false =>
  rw[Yz,cc,Bool.false_and,Qa0 Bool.false_ne_true,Qa0 (fun h=>Bool.false_ne_true h.2)];rfl
 | true =>
  have jM:(aY t).box.body.length<=70368744170000:=by
   rcases nq t with h | h
   ·omega
   ·rw[h];exact Yj _
  have hi:=za t;rw[Yq,aA,ae (by simp;omega),Bool.true_and,Qa1 (show(aY t).err=0/\Zb=Zb from⟨he,rfl⟩)];show kF (VV (cZ s.keys) (cZ (bY t).keys)) _=_;have g:=LH hs hi.keys hi.boxes b n (np (iv n) (.bool Zb) M);rw[QR _ (by omega) (by have:=hi.keys;omega)];show aD (!(bY t).keys.any fun k => !s.keys.contains k) (kF (VU (cQ s.boxes) (cQ (bY t).boxes)) _) (Br b n (cZ (bY t).keys) (cQ (bY t).boxes) (cZ s.keys) (cQ s.boxes) (np (iv n) (.bool Zb) M))=_;rw[QQ _ (by omega) (by have:=hi.boxes;omega),g,Rf];show aD (!(bY t).keys.any fun k => !s.keys.contains k) (aD (!(bY t).boxes.any fun k => !s.boxes.contains k) _ (Br b n (cZ (bY t).keys) (cQ (bY t).boxes) (cZ s.keys) (cQ s.boxes) (np (iv n) (.bool Zb) M))) _=_;rw[g];cases (bY t).keys.any fun k => !s.keys.contains k<;>cases (bY t).boxes.any fun k => !s.boxes.contains k<;>rfl
def yn(M:List AV)(s:Kn):Prop:=∀ i,i<s.boxes.length->getM (iv i) M (.bool Zu) = .bool Zu\/(getM (iv i) M (.bool Zu) = .bool Zb/\s.done (s.boxes.getD i [])=Zb)
theorem zi(n m:Int):ll (iv n) (iv m)=(n==m):=by simp[ll,iv]
theorem yO(n m:Int)(d v:AV):∀ {M:List AV},getM (iv m) (np (iv n) v M) d=if n=m then v else getM (iv m) M d
 | []=>by
  show(bif ll (iv n) (iv m) then Zw v else Yd).getD d=_;rw[zi];by_cases h:n=m
  ·rw[Qa1 h,show(n==m)=Zb by simpa using h];rfl
  ·rw[Qa0 h,show(n==m)=Zu by simpa using h];rfl
 | e::r=>by
  have ih:=yO n m d v (M:=r);unfold getM at ih ⊢;show(nN (iv m) (bif ll (fm e) (iv n) then AV.aQ [iv n,v]::r else e::np (iv n) v r)).getD d=_;cases he:ll (fm e) (iv n) with
  | true =>
   have hk:fm e=iv n:=by
    cases SR:fm e<;>rw[SR] at he<;>simp only[ll,iv] at he<;>try cases he
    simp only[Yy,Qb0] at he;rw[he.1,he.2]
   show(bif ll (iv n) (iv m) then Zw v else nN (iv m) r).getD d=if n=m then v else(bif ll (fm e) (iv m) then Zw (rz e) else nN (iv m) r).getD d
   rw[hk,zi];by_cases h:n=m
   ·rw[Qa1 h,show(n==m)=Zb by simpa using h];rfl
   ·rw[Qa0 h,show(n==m)=Zu by simpa using h];rfl
  | false =>
   show(bif ll (fm e) (iv m) then Zw (rz e) else nN (iv m) (np (iv n) v r)).getD d=if n=m then v else(bif ll (fm e) (iv m) then Zw (rz e) else nN (iv m) r).getD d
   cases hm:ll (fm e) (iv m) with
   | false=>exact ih
   | true =>
    have hk:fm e=iv m:=by
     cases SR:fm e<;>rw[SR] at hm<;>simp only[ll,iv] at hm<;>try cases hm
     simp only[Yy,Qb0] at hm;rw[hm.1,hm.2]
    rw[hk,zi] at he;rw[Qa0 (by intro h;subst h;simp at he)];rfl
theorem yn.put{M:List AV}{s:Kn}(h:yn M s){j:Nat}(hd:s.done (s.boxes.getD j [])=Zb):yn (np (iv j) (.bool Zb) M) s:=by
 intro i hi;rw[yO];by_cases e:(j:Int)=i
 ·obtain rfl:j=i:=by omega
  rw[Qa1 e];exact .inr ⟨rfl,hd⟩
 ·rw[Qa0 e];exact h i hi
theorem yn.grow{M:List AV}{s:Kn}(h:yn M s)(x:D0)(hx:∀ i,s.boxes.length<=i->getM (iv i) M (.bool Zu) = .bool Zu):yn M (s.add x):=by
 intro i hi;by_cases e:i<s.boxes.length
 ·rcases h i e with h | ⟨h1,h2⟩
  ·exact .inl h
  ·refine .inr ⟨h1,?_⟩;obtain⟨N,e1,_⟩:=ib (l:=x.boxes) (B:=s.boxes);have e2:(s.add x).boxes.getD i []=s.boxes.getD i []:=by
    show(eE s.boxes x.boxes).getD i []=_;rw[e1,Zj,Zj,List.getElem?_append_left e]
   rw[e2];exact(DM s x).done h2
 ·exact .inl (hx i (by omega))
def Co(M:List AV)(N:Nat):Prop:=∀ i:Nat,N<=i->getM (iv i) M (.bool Zu) = .bool Zu
theorem Co.put{M:List AV}{N j:Nat}(h:Co M N)(hj:j<N):Co (np (iv j) (.bool Zb) M) N:=by
 intro i hi;rw[yO,Qa0 (by omega)];exact h i hi
structure oc (M:List AV) (s:Kn):Prop where
 ok:yn M s
 low:Co M s.boxes.length
theorem O8{s:Kn}{t:Bytes}(he:(aY t).err=0)(hk:s.keys.contains (aY t).box.key=Zb)(ho:s.opens t=Zu):s.done t=Zb:=by simp_all [Bool.true_and,Kn.done,Kn.opens]
theorem G7{s:Kn}{t:Bytes}(h:s.done t=Zb):s.opens t=Zu:=by
 unfold Kn.done at h;unfold Kn.opens;cases h0:(aY t).err==0
 ·rfl
 ·rw[h0] at h;have h':s.has (bY t)=Zb:=h;rw[h'];simp
def Next(s:Kn)(r:Ex×List AV):Prop:=(s.next=Yd/\∃ M,oc M s/\r=(.exit 0,.bool Zu::iv s.boxes.length::pX s M))\/∃ b M n,s.next=Zw b/\oc M (s.add (bY b))/\r=(.ret,.bool Zb::iv n::pX (s.add (bY b)) M)
theorem MI{β:Type}{s:Kn}(hs:eL s){M:List AV}(hM:oc M s){k:Ex×List AV->Option β}{Q:β->Prop}(hk:∀ r,Next s r->∃ x,k r=Zw x/\Q x):∃ x,Zz (bw (IW (cQ s.boxes)) (.bool Zu::iv 0::pX s M)) k=Zw x/\Q x:=by
 have h2:=hs.wD;refine Da (enc:=fun(q:Nat×List AV) => .bool Zu::iv (q.1:Int)::pX s q.2) (I:=fun q=>q.1<=s.boxes.length/\oc q.2 s/\∀ j,j<q.1->s.opens (s.boxes.getD j [])=Zu) (μ:=fun q=>s.boxes.length-q.1) (R:=Next s) (0,M) ⟨Yj _,hM,fun j h=>by omega⟩ rfl ?_ hk;rintro⟨i,M⟩ ⟨hi,hM,hj⟩;dsimp only at hi hM hj;by_cases h:i<s.boxes.length;case neg =>
  obtain rfl:i=s.boxes.length:=by omega
  refine⟨.inr (.exit 0,.bool Zu::iv s.boxes.length::pX s M),?_,.inl ⟨?_,M,hM,rfl⟩⟩
  ·show aD (Zy ((s.boxes.length:Int)<((cQ s.boxes).length:Int))) _ _=_;rw[aj (by rw[ec];simp)];rfl
  ·unfold Kn.next;rw[List.find?_eq_none];intro x hx;obtain⟨j,OM,rfl⟩:=List.mem_iff_getElem.1 hx;have:=hj j OM;simpa [Zj,OM] using this
 have n9:i<(cQ s.boxes).length:=by rw[ec];exact h
 have ph:s.boxes.getD i []∈s.boxes:=by simp[Zj,h]
 have e0:IW (cQ s.boxes) (.bool Zu::iv (i:Int)::pX s M)=AV.cR (getM (iv i) M (.bool Zu)) fun b3=>aD (!b3) (BS Zu i (cZ s.keys) (cQ s.boxes) M (s.boxes.getD i [])) (Zw (.inl (.bool Zu::up i::pX s M))):=by
  show aD (Zy ((i:Int)<((cQ s.boxes).length:Int))) (AV.cR (getM (iv i) M (.bool Zu)) fun b3=>aD (!b3) (A1 i (cQ s.boxes) (Yp ((cQ s.boxes).getD (Zv i) .undef) fun t=>BS Zu i (cZ s.keys) (cQ s.boxes) M t)) _) _=_;rw[ah (pu n9),vv n9,Zx,jY h];rfl
 have step:∀ M',oc M' s->s.opens (s.boxes.getD i [])=Zu->Bi (fun(q:Nat×List AV)=>Zq Zu::iv (q.1:Int)::pX s q.2) (fun q=>q.1<=s.boxes.length/\oc q.2 s/\∀ j,j<q.1->s.opens (s.boxes.getD j [])=Zu) (fun q=>s.boxes.length-q.1) (Next s) (i,M) (.inl (.bool Zu::up i::pX s M')):=fun M' VZ ho =>
  ⟨(i+1,M'),by dsimp only;rw[uD (by omega)],⟨h,VZ,fun j GP=>by
   by_cases e:j=i
   ·rw[e];exact ho
   ·exact hj j (by dsimp only at GP;omega)⟩,show s.boxes.length-(i+1)<s.boxes.length-i by omega⟩
 dsimp only;rw[e0];rcases hM.ok i h with hg | ⟨hg,hd⟩
 ·rw[hg];show ∃ y,BS Zu i (cZ s.keys) (cQ s.boxes) M (s.boxes.getD i [])=Zw y/\_;rw[MP hs (hs.len _ ph)];by_cases ho:s.opens (s.boxes.getD i [])=Zb
  ·rw[Qa1 ho];have hd:(s.add (bY (s.boxes.getD i []))).done (s.boxes.getD i [])=Zb:=by unfold Kn.done;rw[Ij];simp
   refine⟨_,rfl,.inr ⟨s.boxes.getD i [],np (iv i) (.bool Zb) M,i,?_,?_,rfl⟩⟩
   ·unfold Kn.next;rw[List.find?_eq_some_iff_getElem];refine⟨ho,i,h,by simp[Zj,h],fun j OM=> ?_⟩;have:=hj j OM;simpa [Zj,Nat.lt_trans OM h] using this
   ·have hl:s.boxes.length<=(s.add (bY (s.boxes.getD i []))).boxes.length:=by
     obtain⟨N,e1,_⟩:=ib (l:=(bY (s.boxes.getD i [])).boxes) (B:=s.boxes);show _<=(eE s.boxes _).length;rw[e1,Yw];omega
    have e2:(s.add (bY (s.boxes.getD i []))).boxes.getD i []=s.boxes.getD i []:=by
     obtain⟨N,e1,_⟩:=ib (l:=(bY (s.boxes.getD i [])).boxes) (B:=s.boxes);show(eE s.boxes _).getD i []=_;rw[e1,Zj,Zj,List.getElem?_append_left h]
    exact⟨(hM.ok.grow _ hM.low).put (by rw[e2];exact hd),fun j OM=>(hM.low.put h) j (Zd hl OM)⟩
  ·have Hi:s.opens (s.boxes.getD i [])=Zu:=by simpa using ho
   rw[Qa0 ho];by_cases hq:(aY (s.boxes.getD i [])).err=0/\s.keys.contains (aY (s.boxes.getD i [])).box.key=Zb
   ·rw[Qa1 hq];exact⟨_,rfl,step _ ⟨hM.ok.put (O8 hq.1 hq.2 Hi),hM.low.put h⟩ Hi⟩
   ·rw[Qa0 hq];exact⟨_,rfl,step _ hM Hi⟩
 ·rw[hg];exact⟨_,rfl,step _ hM (G7 hd)⟩
theorem Iw{s:Kn}(hs:eL s):Jv (cZ s.keys) (cQ s.boxes) []=Zw (.agg [.sl 1 (cZ (close s).keys),.sl 1 (cQ (close s).boxes)],[]):=by
 unfold Jv;refine b_ (enc:=fun(q:Kn×List AV)=>pX q.1 q.2) (I:=fun q=>eL q.1/\oc q.2 q.1/\close q.1=close s) (μ:=fun q=>lT q.1) (R:=fun r=>∃ M,r=(.exit 0,pX (close s) M)) (s,[]) ⟨hs,⟨fun i hi => .inl rfl,fun i hi=>rfl⟩,rfl⟩ rfl ?_ ?_
 ·rintro⟨t,M⟩ ⟨ht,hM,hc⟩;dsimp only at ht hM hc;have key:∃ y,Q6 (pX t M)=Zw y/\Bi (fun(q:Kn×List AV)=>pX q.1 q.2) (fun q=>eL q.1/\oc q.2 q.1/\close q.1=close s) (fun q=>lT q.1) (fun r=>∃ M,r=(.exit 0,pX (close s) M)) (t,M) y:=by
   have e0:Q6 (pX t M)=Zz (bw (IW (cQ t.boxes)) (.bool Zu::iv 0::pX t M)) fun r=>aE r.2 fun b r1=>ak .i64 r1 fun _ r1=>qR r1 fun y r1=>qR r1 fun y5 r1=>qR r1 fun y6 r1=>aw r1
     (jp r.1 (aD b (Zw (.inl [.aF y,.aF y5,.aF y6])) (Zw (.inr (.exit 0,[.aF y,.aF y5,.aF y6])))) fun j=>aD (Yk j 0) (Zw (.inr (.exit 0,[.aF y,.aF y5,.aF y6]))) Yd):=rfl
   rw[e0];refine MI ht hM ?_;rintro r (⟨hn,M',VZ,rfl⟩ | ⟨b,M',n,hn,VZ,rfl⟩)
   ·exact⟨_,rfl,M',by rw[<-hc,tO hn];rfl⟩
   ·obtain⟨g1,g2⟩:=pA hn;exact⟨_,rfl,(t.add (bY b),M'),rfl,⟨ht.open g1 g2,VZ,by rw[<-yx hn];exact hc⟩,nX g1 g2⟩
  exact key
 ·rintro r ⟨M,rfl⟩;rfl
theorem JZ{ks bs:List AV}{b:Bytes}(h:td ks bs=Zb)(hm:lT (kn ks bs)+2*b.length+2100<=1000000):Hs ks bs b=Zw (.agg [.sl 1 (cZ (learn (kn ks bs) b).keys),.sl 1 (cQ (learn (kn ks bs) b).boxes)],[]):=by
 obtain⟨s,rfl,rfl,hs⟩:=IZ h;rw[qB] at hm ⊢;have h2:=hs.wD;have h3:=hs.E';have hp:=mS b;unfold Hs O3;rw[s7,ef,ae (by simp;omega)];show Zz (az (uN (cQ s.boxes)&&Zy ((cQ s.boxes).length<=1000000)) _) _=_;rw[DQ,ec,ae (by simp;omega)];show Zz (az (Zy (b.length<=70368744170000)) _) _=_;rw[ae (by simp;omega)];show Zz (bw Qo [.sl 1 [],.sl 1 [],.aF (cZ s.keys),.aF (cQ s.boxes),.aF [],.sl 1 (cQ (partsOf b)),iv (cQ (partsOf b)).length,iv 0]) _=_;refine lH (fun i=>[.sl 1 [],.sl 1 [],.aF (cZ s.keys),.aF (cQ (eE s.boxes ((partsOf b).take i))),.aF [],.sl 1 (cQ (partsOf b)),iv (cQ (partsOf b)).length,iv i]) (partsOf b).length (fun i hi=> ?_)
  ⟨(.exit 0,[.sl 1 [],.sl 1 [],.aF (cZ s.keys),.aF (cQ (eE s.boxes (partsOf b))),.aF [],.sl 1 (cQ (partsOf b)),iv (cQ (partsOf b)).length,iv (partsOf b).length]),?_,?_⟩ rfl
 ·have n9:i<(cQ (partsOf b)).length:=by rw[ec];exact hi
  have hl:(eE s.boxes ((partsOf b).take i)).length<=100000000:=Zd (D6 _ _) (by rw[List.length_take];omega);show aD (Zy ((i:Int)<((cQ (partsOf b)).length:Int))) (ww i (cQ (partsOf b)) (Yp ((cQ (partsOf b)).getD (Zv i) .undef) _)) _=_;rw[ah (pu n9),jA n9,Zx,jY hi];show kF (vC (cQ (eE s.boxes ((partsOf b).take i))) ((partsOf b).getD i [])) _=_;rw[vD _ hl];show aD (!(eE s.boxes ((partsOf b).take i)).contains ((partsOf b).getD i [])) (az (Go.Abs.room ((cQ (eE s.boxes ((partsOf b).take i))).length+1) 24) (Zw (Sum.inl [.sl 1 [],.sl 1 [],.aF (cZ s.keys),.aF (cQ (eE s.boxes ((partsOf b).take i))++[.bs ((partsOf b).getD i [])]),.aF [],.sl 1 (cQ (partsOf b)),iv (cQ (partsOf b)).length,up i]))) _=_;rw[yo s.boxes (partsOf b) hi,ec (eE _ _),HP hl,As];cases hc:(eE s.boxes ((partsOf b).take i)).contains ((partsOf b).getD i []) with
  | true =>
   rw[Yq,aA,uD (by omega)];rfl
  | false =>
   rw[Yz,cc,uD (by omega)];rfl
 ·show aD (Zy (((partsOf b).length:Int)<((cQ (partsOf b)).length:Int))) _ _=_;rw[aj (by rw[ec];simp),Yu]
 ·show Jv (cZ s.keys) (cQ (eE s.boxes (partsOf b))) []=_;exact Iw (s:=s.add ⟨[],partsOf b⟩) (hs.parts hm)
theorem Mp{ks bs:List AV}{k:Int}(h:td ks bs=Zb)(hk:(Zy (0<=k)&&Zy (k<18446744073709551616))=Zb)(hm:lT (kn ks bs)+1<=1000000):Mo ks bs k=Zw (.agg [.sl 1 (cZ (leak (kn ks bs) k).keys),.sl 1 (cQ (leak (kn ks bs) k).boxes)],[]):=by
 obtain⟨s,rfl,rfl,hs⟩:=IZ h;rw[qB] at hm ⊢;have h2:=hs.E';have h3:=hs.wD;unfold Mo O3;rw[s7,ef,ae (by simp;omega)];show Zz (az (uN (cQ s.boxes)&&Zy ((cQ s.boxes).length<=1000000)) _) _=_;rw[DQ,ec,ae (by simp;omega)];show Zz (az (Zy (0<=k)&&Zy (k<18446744073709551616)) _) _=_;rw[ae hk];show Zz (aD (bp k) (kF (tD (cZ s.keys) k) _) _) _=_;rw[rL _ (by omega)];show Zz (aD (bp k) (aD (!s.keys.contains k) _ _) _) _=_;have fin:Jv (cZ (gX s.keys (cr [k]))) (cQ s.boxes) []=Zw (.agg [.sl 1 (cZ (leak s k).keys),.sl 1 (cQ (leak s k).boxes)],[]):=Iw (s:=s.add ⟨cr [k],[]⟩) (hs.Mr hm);cases hv:bp k with
 | false =>
  rw[show cr [k]=[] by simp[cr,hv]] at fin;exact fin
 | true =>
  rw[show cr [k]=[k] by simp[cr,hv]] at fin;have e:gX s.keys [k]=bif s.keys.contains k then s.keys else mJ s.keys k:=rfl
  rw[e] at fin;cases hc:s.keys.contains k with
  | true=>rw[hc] at fin;exact fin
  | false =>
   rw[hc] at fin;rw[cc,Yz,cc,Ii hs.uP hc (by omega)];exact fin
end Kerb
/- Chapter 27: small loops. -/
namespace Kerb
open Go Go.Abs
theorem Cv{l:List Bytes}{i:Nat}(h:i<l.length):gJ (l.take (i+1))=bif ox (l.getD i []) then gJ (l.take i)++[l.getD i []] else gJ (l.take i):=by
 rw[sY [] h];unfold gJ;rw[List.filter_append];generalize l.getD i []=b;cases hb:ox b<;>simp[List.filter_cons,hb]
theorem DR{l:List Int}{i:Nat}(h:i<l.length):cr (l.take (i+1))=bif bp (l.getD i 0) then cr (l.take i)++[l.getD i 0] else cr (l.take i):=by
 rw[sY 0 h];unfold cr;rw[List.filter_append];generalize l.getD i 0=b;cases hb:bp b<;>simp[List.filter_cons,hb]
theorem Ox(B:List Int)(q:Int):cZ B++[.int .u64 q]=cZ (B++[q]):=by simp[cZ]
theorem R9{n:Nat}(h:n<=1000000000):Go.Abs.room n 8=Zb:=by
 unfold Go.Abs.room;simp only[Yy,Nat.ble_eq];omega
theorem QK{α:Type}[BEq α][LawfulBEq α]{K L:List α}(d:α)(h:K.length=L.length):((Zk K.length).any fun i => !(K.getD i d==L.getD i d)) = !(K==L):=by
 cases he:K==L with
 | true =>
  obtain rfl:=Qa9 he;rw[List.any_eq_false.2]
  ·rfl
  ·intro x _;simp
 | false =>
  have gj:K≠L:=by intro e;subst e;simp at he
  rw[Yz,List.any_eq_true];refine Classical.byContradiction fun hc=>gj (List.ext_getElem h fun i h1 h2=> ?_);refine Classical.byContradiction fun hi=>hc ⟨i,Zf.2 h1,?_⟩;simpa [Zj,h1,h2] using hi
theorem Ax{i:Nat}(h:i<=1000000000):Zp .i64 ((i:Int)+1)=((i+1:Nat):Int):=by
 rw[wrap_i64 (by omega) (by omega)];rfl
theorem P5(i:Nat):Zy ((0:Int)<=(i:Int))=Zb:=by simp
theorem UB{l:List Int}{i:Nat}(h:i<l.length):Zy ((i:Int)<((cZ l).length:Int))=Zb:=by rw[ef];simp;omega
theorem ltB{l:List Bytes}{i:Nat}(h:i<l.length):Zy ((i:Int)<((cQ l).length:Int))=Zb:=by rw[ec];simp;omega
theorem LG{l:List Int}{i:Nat}(h:i<l.length):Zj (cZ l) (Zv (i:Int)) .undef = .int .u64 (l.getD i 0):=by rw[Zx];exact jZ h
theorem To{l:List Bytes}{i:Nat}(h:i<l.length):Zj (cQ l) (Zv (i:Int)) .undef = .bs (l.getD i []):=by rw[Zx];exact jY h
theorem noK(l:List Int):Zy ((l.length:Int)<((cZ l).length:Int))=Zu:=by rw[ef];simp
theorem Zo(l:List Bytes):Zy ((l.length:Int)<((cQ l).length:Int))=Zu:=by rw[ec];simp
theorem x3{α:Type}{l:List α}{i:Nat}(d:α)(h:i<l.length):l.getD i d∈l:=by simp[Zj,h]
noncomputable def RV(y:List AV)(k:Int)(l:List AV):St:=ak .i64 l fun n r=>ak .i64 r fun i r=>aw r
 (aD (Zy (i<(y.length:Int))) (ww i y (AV.ax .u64 (y.getD (Zv i) .undef) fun q=>aD (k==q) (Zw (.inr (.ret,[iv i,iv i]))) (Zw (.inl [iv n,up i]))))
  (Zw (.inr (.exit 0,[iv n,iv i]))))
noncomputable def C6(y:List AV)(k:Int):Option (List AV):=Zz (bw (RV y k) [iv 0,iv 0]) E_
noncomputable def ub(y:List AV)(k:Int):Option (List AV):=kF (C6 y k) fun b=>Zw [.bool !b]
noncomputable def S8(y kl:List AV)(l:List AV):St:=ak .i64 l fun n r=>ak .i64 r fun i r=>aw r
 (aD (Zy (i<(kl.length:Int))) (ww i kl (AV.ax .u64 (kl.getD (Zv i) .undef) fun q=>kF (ub y q) fun b=>aD b (Zw (.inr (.ret,[iv i,iv i]))) (Zw (.inl [iv n,up i]))))
  (Zw (.inr (.exit 0,[iv n,iv i]))))
noncomputable def O5(y kl:List AV):Option (List AV):=Zz (bw (S8 y kl) [iv 0,iv 0]) E_
noncomputable def RW(y:List AV)(b:List UInt8)(l:List AV):St:=aE l fun c r=>ak .i64 r fun i r=>aw r
 (aD (Zy (i<(y.length:Int))) (ww i y (Yp (y.getD (Zv i) .undef) fun q=>aD (q==b) (Zw (.inr (.ret,[.bool Zu,iv i]))) (Zw (.inl [.bool c,up i]))))
  (Zw (.inr (.exit 0,[.bool c,iv i]))))
noncomputable def Hr(y:List AV)(b:List UInt8):Option (List AV):=Zz (bw (RW y b) [.bool Zu,iv 0]) fun r=>aE r.2 fun c r1=>ak .i64 r1 fun _ r2=>aw r2 (jp r.1 (Zw [.bool c]) fun j=>aD (Yk j 0) (Zw [.bool Zb]) Yd)
theorem BD{K:List Int}(k:Int)(h:K.length<=100000000):C6 (cZ K) k=Zw [.bool (K.contains k)]:=by
 have e:C6 (cZ K) k=Zw (bif (Zk (cZ K).length).any (fun i=>k==K.getD i 0) then[Zq Zb] else[Zq Zu]):=by
  refine ng (fun i=>[iv 0,iv i]) _ _ ?_ ?_ ?_ rfl
  ·intro i hi hp;have iS:i<K.length:=by rw[<-ef];exact hi
   show aD (Zy ((i:Int)<((cZ K).length:Int))) (ww i (cZ K) (AV.ax .u64 ((cZ K).getD (Zv i) .undef) _)) _=_;rw[ah (pu hi),jA hi,Zx,jZ iS];show aD (k==K.getD i 0) _ _=_;rw[aj hp,uD (by omega)]
  ·intro i hi hp;have iS:i<K.length:=by rw[<-ef];exact hi
   refine⟨(.ret,[iv i,iv i]),?_,?_⟩
   ·show aD (Zy ((i:Int)<((cZ K).length:Int))) (ww i (cZ K) (AV.ax .u64 ((cZ K).getD (Zv i) .undef) _)) _=_;rw[ah (pu hi),jA hi,Zx,jZ iS];show aD (k==K.getD i 0) _ _=_;rw[ah hp]
   ·show Zw [Zq (Zy ((i:Int)>=0))]=_;rw[show Zy ((i:Int)>=0)=Zb by simp]
  ·refine⟨(.exit 0,[iv 0,iv (cZ K).length]),?_,rfl⟩;show aD (Zy (((cZ K).length:Int)<((cZ K).length:Int))) _ _=_;rw[aj HA]
 rw[e,ef,kj K 0 (fun x=>k==x),qp];cases K.contains k<;>rfl
theorem wT{K:List Int}(k:Int)(h:K.length<=100000000):ub (cZ K) k=Zw [.bool (!K.contains k)]:=by
 unfold ub;rw[BD k h];rfl
theorem O6{K:List Int}(L:List Int)(h:K.length<=100000000)(hl:L.length<=100000000):O5 (cZ K) (cZ L)=Zw [.bool (L.any fun k => !K.contains k)]:=by
 have e:O5 (cZ K) (cZ L)=Zw (bif (Zk (cZ L).length).any (fun i => !K.contains (L.getD i 0)) then[Zq Zb] else[Zq Zu]):=by
  refine ng (fun i=>[iv 0,iv i]) _ _ ?_ ?_ ?_ rfl
  ·intro i hi hp;have iS:i<L.length:=by rw[<-ef];exact hi
   show aD (Zy ((i:Int)<((cZ L).length:Int))) (ww i (cZ L) (AV.ax .u64 ((cZ L).getD (Zv i) .undef) _)) _=_;rw[ah (pu hi),jA hi,Zx,jZ iS];show kF (ub (cZ K) (L.getD i 0)) _=_;rw[wT _ h];show aD (!K.contains (L.getD i 0)) _ _=_;rw[aj hp,uD (by omega)]
  ·intro i hi hp;have iS:i<L.length:=by rw[<-ef];exact hi
   refine⟨(.ret,[iv i,iv i]),?_,?_⟩
   ·show aD (Zy ((i:Int)<((cZ L).length:Int))) (ww i (cZ L) (AV.ax .u64 ((cZ L).getD (Zv i) .undef) _)) _=_;rw[ah (pu hi),jA hi,Zx,jZ iS];show kF (ub (cZ K) (L.getD i 0)) _=_;rw[wT _ h];show aD (!K.contains (L.getD i 0)) _ _=_;rw[ah hp]
   ·show Zw [Zq (Zy ((i:Int)>=0))]=_;rw[show Zy ((i:Int)>=0)=Zb by simp]
  ·refine⟨(.exit 0,[iv 0,iv (cZ L).length]),?_,rfl⟩;show aD (Zy (((cZ L).length:Int)<((cZ L).length:Int))) _ _=_;rw[aj HA]
 rw[e,ef,kj L 0 (fun x => !K.contains x)];cases L.any fun k => !K.contains k<;>rfl
theorem JX{B:List Bytes}(b:Bytes)(h:B.length<=100000000):Hr (cQ B) b=Zw [.bool (!B.contains b)]:=by
 have e:Hr (cQ B) b=Zw (bif (Zk (cQ B).length).any (fun i=>B.getD i []==b) then[Zq Zu] else[Zq Zb]):=by
  refine ng (fun i=>[.bool Zu,iv i]) _ _ ?_ ?_ ?_ rfl
  ·intro i hi hp;have iS:i<B.length:=by rw[<-ec];exact hi
   show aD (Zy ((i:Int)<((cQ B).length:Int))) (ww i (cQ B) (Yp ((cQ B).getD (Zv i) .undef) _)) _=_;rw[ah (pu hi),jA hi,Zx,jY iS];show aD (B.getD i []==b) _ _=_;rw[aj hp,uD (by omega)]
  ·intro i hi hp;have iS:i<B.length:=by rw[<-ec];exact hi
   refine⟨(.ret,[.bool Zu,iv i]),?_,rfl⟩;show aD (Zy ((i:Int)<((cQ B).length:Int))) (ww i (cQ B) (Yp ((cQ B).getD (Zv i) .undef) _)) _=_;rw[ah (pu hi),jA hi,Zx,jY iS];show aD (B.getD i []==b) _ _=_;rw[ah hp]
  ·refine⟨(.exit 0,[.bool Zu,iv (cQ B).length]),?_,rfl⟩;show aD (Zy (((cQ B).length:Int)<((cQ B).length:Int))) _ _=_;rw[aj HA]
 rw[e,ec,kj B [] (fun x=>x==b),oY];cases B.contains b<;>rfl
abbrev JV(ks bs:List AV):aC:=[[.sl 1 ks,.sl 1 bs]]
noncomputable def UD{α:Type}(c:Bool)(ks bs:List AV)(q:List UInt8)(f:List AV->List AV->Bool->Option α):Option α:=Zz (az c (Zw (Zq (!cq (kn ks bs) q),JV ks bs))) fun r=>aL r.2 fun x r1=>ci 1 x fun k2 r2=>ci 1 r2 fun b3 r3=>aw r3 (aM r1 (AV.cR r.1 (f k2 b3)))
theorem MD{α:Type}{c:Bool}(hc:c=Zb)(s:Kn)(q:List UInt8)(f:List AV->List AV->Bool->Option α):UD c (cZ s.keys) (cQ s.boxes) q f=f (cZ s.keys) (cQ s.boxes) (!cq s q):=by
 unfold UD;rw[qB,ae hc];rfl
noncomputable def Zi(xP:Nat)(bl:List AV)(l:List AV):St:=ak .i64 l fun n r=>ak .i64 r fun i r=>ci 1 r fun ks r=>ci 1 r fun bs r=>aw r
 (aD (Zy (i<(bl.length:Int))) (ww i bl (Yp (bl.getD (Zv i) .undef) fun q=>UD (td ks bs&&Zy (q.length<=70368744170000)&&Zy ((q.length:Int)<(xP:Int))) ks bs q fun k2 b3 b4 =>
   aD b4 (Zw (.inr (.ret,[iv i,iv i,.sl 1 k2,.sl 1 b3]))) (Zw (.inl [iv n,up i,.sl 1 k2,.sl 1 b3]))))
  (Zw (.inr (.exit 0,[iv n,iv i,.sl 1 ks,.sl 1 bs]))))
noncomputable def MB(xP:Nat)(ks bs:List AV)(b:List UInt8):Option (AV×aC) :=
 kF (Hr bs b) fun b1=>aD (!b1) (Zw (.bool Zu,JV ks bs)) (Zz (az (Zy (b.length<=140737488355328)) (Zw (Zq (ox b),([]:aC)))) fun r=>aM r.2 (AV.cR r.1 fun b2=>aD (!b2) (Zw (.bool Zb,JV ks bs))
  (Zz (az (Zy (b.length<=140737488355328)) (Zw (AV.aQ [.agg [.int .i64 (aY b).box.kind,.int .u64 (aY b).box.key,.bs (aY b).box.body],.int .i64 (aY b).n,.int .i64 (aY b).err],([]:aC)))) fun r=>aM r.2 (AV.fI r.1 fun vs=>ay vs fun x r=>AV.eu x fun cs=>ak .i64 cs fun kd r1=>ak .u64 r1 fun ky r1=>bq r1 fun bd r1=>aw r1 (ak .i64 r fun _ r=>ak .i64 r fun er r=>aw r
   (aD (!(er==0)) (Zw (.bool Zb,JV ks bs)) (kF (ub ks ky) fun b6=>aD b6 (Zw (.bool Zb,JV ks bs))
    (Zz (az (Zy (bd.length<=70368744170000)) (Zw (AV.aQ [.sl 1 (cZ (k_ ⟨kd,ky,bd⟩).keys),.sl 1 (cQ (k_ ⟨kd,ky,bd⟩).boxes)],([]:aC)))) fun r=>aM r.2 (AV.fI r.1 fun vs=>ci 1 vs fun kl r=>ci 1 r fun bl r=>aw r
     (kF (O5 ks kl) fun b9=>aD b9 (Zw (.bool Zb,JV ks bs)) (Zz (bw (Zi xP bl) [iv 0,iv 0,.sl 1 ks,.sl 1 bs]) fun r=>ak .i64 r.2 fun n r1=>ak .i64 r1 fun _ r1=>ci 1 r1 fun k2 r1=>ci 1 r1 fun b3 r1=>aw r1
      (jp r.1 (Zw (.bool (Zy (n>=0)),JV k2 b3)) fun j=>aD (Yk j 0) (Zw (.bool Zu,JV k2 b3)) Yd))))))))))))
end Kerb
/- Chapter 27: what is known does not depend on the order; what can be made teaches nothing. -/
namespace Kerb
open Go Go.Abs
inductive Bg (B0:Bytes->Prop) (K0:Int->Prop):Int ⊕ Bytes->Prop
 | key {k:Int}:K0 k->Bg B0 K0 (.inl k)
 | box {b:Bytes}:B0 b->Bg B0 K0 (.inr b)
 | Us {b:Bytes} {k:Int}:Bg B0 K0 (.inr b)->(aY b).err=0->Bg B0 K0 (.inl (aY b).box.key)->k∈(bY b).keys->Bg B0 K0 (.inl k)
 | Ur {b c:Bytes}:Bg B0 K0 (.inr b)->(aY b).err=0->Bg B0 K0 (.inl (aY b).box.key)->c∈(bY b).boxes->Bg B0 K0 (.inr c)
theorem Bg.mono{B0 B1:Bytes->Prop}{K0 K1:Int->Prop}(h1:∀ b,B0 b->B1 b)(h2:∀ k,K0 k->K1 k){x:Int ⊕ Bytes}(h:Bg B0 K0 x):Bg B1 K1 x:=by
 induction h with
 | key h=>exact .key (h2 _ h)
 | box h=>exact .box (h1 _ h)
 | Us _ e _ m i1 i2=>exact .Us i1 e i2 m
 | Ur _ e _ m i1 i2=>exact .Ur i1 e i2 m
structure Full (B0:Bytes->Prop) (K0:Int->Prop) (s:Kn):Prop where
 next:s.next=Yd
 uP:uP s.keys=Zb
 nodup:s.boxes.Nodup
 keys:∀ k,k∈s.keys↔Bg B0 K0 (.inl k)
 boxes:∀ b,b∈s.boxes↔Bg B0 K0 (.inr b)
theorem ye{s:Kn}(h:s.next=Yd){b:Bytes}(hb:b∈s.boxes)(e:(aY b).err=0)(hk:(aY b).box.key∈s.keys):s.has (bY b)=Zb:=by
 have:=List.find?_eq_none.1 h b hb;cases hh:s.has (bY b) with
 | true=>rfl
 | false=>exact absurd (pB.2 ⟨e,hk,hh⟩) this
theorem od:∀ {l B:List Bytes},B.Nodup->(eE B l).Nodup
 | [],B,h=>h
 | b::l,B,h=>by
  have e:eE B (b::l)=eE (bif B.contains b then B else B++[b]) l:=rfl;rw[e];cases hc:B.contains b with
  | true=>exact od h
  | false =>
   refine od (List.nodup_append.2 ⟨h,by simp,?_⟩);intro x hx y hy;have:b ∉ B:=by simpa using hc
   simp only[List.mem_singleton] at hy;rintro rfl;exact this (hy ▸ hx)
theorem Full.join{B0 B1:Bytes->Prop}{K0 K1:Int->Prop}{s:Kn}(h:Full B0 K0 s){x:D0}(hb:∀ b,B1 b↔B0 b\/b∈x.boxes)(hk:∀ k,K1 k↔K0 k\/k∈x.keys):Full B1 K1 (close (s.add x)):=by
 have m:∀ {y},Bg B0 K0 y->Bg B1 K1 y:=Bg.mono (fun b q=>(hb b).2 (.inl q)) fun k q=>(hk k).2 (.inl q);obtain⟨⟨p1,p2,p3,p4,p5,p6⟩,hn⟩:=sH (P:=fun s=>Kerb.uP s.keys=Zb/\s.boxes.Nodup/\(∀ k∈s.keys,Bg B1 K1 (.inl k))/\(∀ b∈s.boxes,Bg B1 K1 (.inr b))/\(∀ k,K1 k->k∈s.keys)/\∀ b,B1 b->b∈s.boxes) (fun s b ⟨q1,q2,q3,q4,q5,q6⟩ gb go=>by
  obtain⟨e,ek,_⟩:=pB.1 go;refine⟨lY q1,od q2,fun k hk=> ?_,fun c hc=> ?_,fun k hk=>kh.2 (.inl (q5 k hk)),fun c hc=>gH.2 (.inl (q6 c hc))⟩
  ·rcases kh.1 hk with hk | hk
   ·exact q3 k hk
   ·exact .Us (q4 b gb) e (q3 _ ek) hk
  ·rcases gH.1 hc with hc | hc
   ·exact q4 c hc
   ·exact .Ur (q4 b gb) e (q3 _ ek) hc) (s.add x)
  ⟨lY h.uP,od h.nodup,fun k q=>by
   rcases kh.1 q with q | q
   ·exact m ((h.keys k).1 q)
   ·exact .key ((hk k).2 (.inr q)),fun b q=>by
   rcases gH.1 q with q | q
   ·exact m ((h.boxes b).1 q)
   ·exact .box ((hb b).2 (.inr q)),fun k q=>by
   rcases (hk k).1 q with q | q
   ·exact kh.2 (.inl ((h.keys k).2 (.key q)))
   ·exact kh.2 (.inr q),fun b q=>by
   rcases (hb b).1 q with q | q
   ·exact gH.2 (.inl ((h.boxes b).2 (.box q)))
   ·exact gH.2 (.inr q)⟩
 have all:∀ y,Bg B1 K1 y->(match y with | .inl k=>k∈(close (s.add x)).keys | .inr b=>b∈(close (s.add x)).boxes):=by
  intro y hy;induction hy with
  | key q=>exact p5 _ q
  | box q=>exact p6 _ q
  | Us _ e _ mm i1 i2=>exact(my.1 (ye hn i1 e i2)).1 _ mm
  | Ur _ e _ mm i1 i2=>exact(my.1 (ye hn i1 e i2)).2 _ mm
 exact⟨hn,p1,p2,fun k=>⟨p3 k,fun q=>all _ q⟩,fun b=>⟨p4 b,fun q=>all _ q⟩⟩
def zC:Kn:=⟨[],[]⟩
theorem Eu{x:Int ⊕ Bytes}(h:Bg (fun _=>False) (fun _=>False) x):False:=by
 induction h with
 | key h=>exact h
 | box h=>exact h
 | Us _ _ _ _ i _=>exact i
 | Ur _ _ _ _ i _=>exact i
theorem Pd:Full (fun _=>False) (fun _=>False) zC :=
 ⟨rfl,rfl,List.nodup_nil,fun k=>⟨fun h=>(nomatch h),fun h=>(Eu h).elim⟩,fun k=>⟨fun h=>(nomatch h),fun h=>(Eu h).elim⟩⟩
theorem pc{B0 B1:Bytes->Prop}{K0 K1:Int->Prop}{s:Kn}(hb:∀ b,B0 b↔B1 b)(hk:∀ k,K0 k↔K1 k)(h:Full B0 K0 s):Full B1 K1 s:=by
 have:B0=B1:=funext fun b=>propext (hb b);have:K0=K1:=funext fun b=>propext (hk b);subst B1 K1;exact h
theorem xn{B0:Bytes->Prop}{K0:Int->Prop}:∀ {l:List Bytes} {s:Kn},Full B0 K0 s->Full (fun b=>B0 b\/∃ m∈l,b∈partsOf m) K0 (l.foldl learn s)
 | [],s,h=>pc (fun b=>by simp) (fun k=>Iff.rfl) h
 | m::l,s,h=>by
  have h1:Full (fun b=>B0 b\/b∈partsOf m) K0 (learn s m):=h.join (x:=⟨[],partsOf m⟩) (fun b=>Iff.rfl) (fun k=>by simp);exact pc (fun b=>by simp[or_assoc]) (fun k=>Iff.rfl) (xn (l:=l) h1)
theorem yN{B0:Bytes->Prop}{K0:Int->Prop}:∀ {l:List Int} {s:Kn},Full B0 K0 s->Full B0 (fun k=>K0 k\/k∈cr l) (l.foldl leak s)
 | [],s,h=>pc (fun b=>Iff.rfl) (fun k=>by simp[cr]) h
 | m::l,s,h=>by
  have h1:Full B0 (fun k=>K0 k\/k∈cr [m]) (leak s m):=h.join (x:=⟨cr [m],[]⟩) (fun b=>by simp) (fun k=>Iff.rfl);exact pc (fun b=>Iff.rfl) (fun k=>by
   have:cr (m::l)=cr [m]++cr l:=by simp[cr,List.filter_cons];split<;>simp
   rw[this,List.mem_append,or_assoc]) (yN (l:=l) h1)
def Lc(ms:List Bytes)(ks:List Int):Kn:=ks.foldl leak (ms.foldl learn zC)
theorem GX(ms:List Bytes)(ks:List Int):Full (fun b=>∃ m∈ms,b∈partsOf m) (fun k=>k∈cr ks) (Lc ms ks) :=
 pc (fun b=>by simp) (fun k=>by simp) (yN (l:=ks) (xn (l:=ms) Pd))
theorem Jd{s:Kn}{x:D0}(h:s.has x=Zb):s.add x=s:=by
 obtain⟨h1,h2⟩:=my.1 h;have a1:∀ {l:List Int},(∀ k∈l,k∈s.keys)->gX s.keys l=s.keys:=by
  intro l;induction l with
  | nil=>intro _;rfl
  | cons k l ih =>
   intro q;have e:gX s.keys (k::l)=gX (bif s.keys.contains k then s.keys else mJ s.keys k) l:=rfl;have c:s.keys.contains k=Zb:=by simpa using q k (by simp)
   rw[e,c,Qa5];exact ih fun k' oT=>q k' (List.mem_cons_of_mem _ oT)
 have a2:∀ {l:List Bytes},(∀ k∈l,k∈s.boxes)->eE s.boxes l=s.boxes:=by
  intro l;induction l with
  | nil=>intro _;rfl
  | cons k l ih =>
   intro q;have e:eE s.boxes (k::l)=eE (bif s.boxes.contains k then s.boxes else s.boxes++[k]) l:=rfl;have c:s.boxes.contains k=Zb:=by simpa using q k (by simp)
   rw[e,c,Qa5];exact ih fun k' oT=>q k' (List.mem_cons_of_mem _ oT)
 unfold Kn.add;rw[a1 h1,a2 h2]
theorem qt{s:Kn}:∀ {n:Nat} {b:Bytes},b.length<n->iA n s b=cq s b:=by
 have key:∀ (k:Nat) (b:Bytes),b.length<k->∀ n m,b.length<n->b.length<m->iA n s b=iA m s b:=by
  intro k;induction k with
  | zero=>intro b h;omega
  | succ k ih =>
   intro b hb n m hn hm;obtain⟨n,rfl⟩:∃ q,n=q+1:=⟨n-1,by omega⟩;obtain⟨m,rfl⟩:∃ q,m=q+1:=⟨m-1,by omega⟩;have:(bY b).boxes.all (fun b=>iA n s b)=(bY b).boxes.all fun b=>iA m s b:=by
    rw[Bool.eq_iff_iff,Zn,Zn];constructor
    ·intro h c hc;have:=pj hc;rw[<-ih c (by omega) n m (by omega) (by omega)];exact h c hc
    ·intro h c hc;have:=pj hc;rw[ih c (by omega) n m (by omega) (by omega)];exact h c hc
   simp only[iA,this]
 exact fun {n b} h=>key (b.length+1) b (by omega) n (b.length+1) h (by omega)
theorem tr(s:Kn)(b:Bytes):cq s b=(s.boxes.contains b||(ox b&&s.keys.contains (aY b).box.key&&(bY b).keys.all (fun k=>s.keys.contains k)&&(bY b).boxes.all fun b=>cq s b)):=by
 have:(bY b).boxes.all (fun c=>iA b.length s c)=(bY b).boxes.all fun c=>cq s c:=by
  rw[Bool.eq_iff_iff,Zn,Zn];constructor
  ·intro h c hc;have:=pj hc;rw[<-qt (n:=b.length) (by omega)];exact h c hc
  ·intro h c hc;have:=pj hc;rw[qt (by omega)];exact h c hc
 show iA (b.length+1) s b=_;simp only[iA,this]
theorem xk{s:Kn}{b:Bytes}(h:cq s b=Zb):b∈s.boxes\/((aY b).box.key∈s.keys/\(∀ k∈(bY b).keys,k∈s.keys)/\∀ c∈(bY b).boxes,cq s c=Zb):=by
 rw[tr] at h;simp only[Bool.or_eq_true,Yy,Zn,List.contains_iff_mem] at h;rcases h with h | ⟨⟨⟨h1,h2⟩,h3⟩,h4⟩
 ·exact .inl h
 ·exact .inr ⟨h2,h3,h4⟩
theorem ol{s:Kn}{b:Bytes}(h:b∈s.boxes):cq s b=Zb:=by
 unfold cq;simp[iA,h]
theorem A6{B0:Bytes->Prop}{K0:Int->Prop}{s:Kn}(h:Full B0 K0 s){m:Bytes}(hm:kM s m=Zb):(learn s m).keys=s.keys:=by
 have x6:∀ b∈partsOf m,cq s b=Zb:=by unfold kM at hm;simpa using hm
 refine(sH (P:=fun t=>t.keys=s.keys/\∀ b∈t.boxes,cq s b=Zb) (fun t b ⟨q1,q2⟩ gb go=> ?_) (s.add ⟨[],partsOf m⟩) ⟨rfl,fun b hb=> ?_⟩).1.1
 ·obtain⟨e,ek,_⟩:=pB.1 go;rw[q1] at ek;have hk:∀ k∈(bY b).keys,k∈s.keys:=by
   rcases xk (q2 b gb) with g | ⟨_,g,_⟩
   ·exact(my.1 (ye h.next g e ek)).1
   ·exact g
  have hb:∀ c∈(bY b).boxes,cq s c=Zb:=by
   rcases xk (q2 b gb) with g | ⟨_,_,g⟩
   ·exact fun c hc=>ol ((my.1 (ye h.next g e ek)).2 c hc)
   ·exact g
  refine⟨?_,fun c hc=> ?_⟩
  ·have:=Jd (s:=⟨t.keys,[]⟩) (x:=⟨(bY b).keys,[]⟩) (my.2 ⟨by rw[q1];exact hk,by simp⟩);exact(Qb3 Kn.keys this).trans q1
  ·rcases gH.1 hc with hc | hc
   ·exact q2 c hc
   ·exact hb c hc
 ·rcases gH.1 hb with hb | hb
  ·exact ol hb
  ·exact x6 b hb
end Kerb
/- Chapter 27: the reference's functions, as their loops are. -/
namespace Kerb
open Go Go.Abs
abbrev rb(v:AV):AV×aC:=(v,[])
theorem O4{t:Bytes}(h:t.length<=70368744170000):(aY t).box.body.length<=70368744170000:=by
 rcases nq t with h1 | h1
 ·omega
 ·rw[h1];exact Yj _
noncomputable def Qn{α:Type}(b:List UInt8)(f:List AV->Option α):Option α:=Zz (az (Zy (b.length<=70368744170000)) (Zw (rb (.sl 1 (cQ (partsOf b)))))) fun r=>aM r.2 (AV.hO 1 r.1 f)
theorem Ik{α:Type}(l:List α)(p:α->Bool):l.all p = !(l.any fun x => !p x):=List.all_eq_not_any_not
theorem Kl{b x:Bytes}(hb:b.length<=70368744160000)(h:x∈partsOf b):x.length<=70368744170000:=by
 have:=(mS b).1 x h;omega
noncomputable def UC(bl:List AV)(l:List AV):St:=ak .i64 l fun n r=>ak .i64 r fun i r=>ci 1 r fun ks r=>ci 1 r fun bs r=>aw r
 (aD (Zy (i<(bl.length:Int))) (ww i bl (Yp (bl.getD (Zv i) .undef) fun q=>UD (td ks bs&&Zy (q.length<=70368744170000)) ks bs q fun k2 b3 b4 =>
   aD b4 (Zw (.inr (.ret,[iv i,iv i,.sl 1 k2,.sl 1 b3]))) (Zw (.inl [iv n,up i,.sl 1 k2,.sl 1 b3]))))
  (Zw (.inr (.exit 0,[iv n,iv i,.sl 1 ks,.sl 1 bs]))))
noncomputable def MU(ks bs:List AV)(b:List UInt8):Option (AV×aC):=Qn b fun l=>Zz (bw (UC l) [iv 0,iv 0,.sl 1 ks,.sl 1 bs]) fun r=>ak .i64 r.2 fun n r1=>ak .i64 r1 fun _ r1=>ci 1 r1 fun _ r1=>ci 1 r1 fun _ r1=>aw r1
 (jp r.1 (Zw (rb (.bool (!Zy (n>=0))))) fun j=>aD (Yk j 0) (Zw (rb (.bool Zb))) Yd)
theorem IU{β:Type}{s:Kn}{L:List Bytes}(hl:L.length<=100000000){step:List AV->St}(rH:∀ i,i<L.length->step [iv 0,iv i,.sl 1 (cZ s.keys),.sl 1 (cQ s.boxes)]=aD (!cq s (L.getD i [])) (Zw (.inr (.ret,[iv i,iv i,.sl 1 (cZ s.keys),.sl 1 (cQ s.boxes)]))) (Zw (.inl [iv 0,up i,.sl 1 (cZ s.keys),.sl 1 (cQ s.boxes)])))
  (X8:step [iv 0,iv L.length,.sl 1 (cZ s.keys),.sl 1 (cQ s.boxes)]=Zw (.inr (.exit 0,[iv 0,iv L.length,.sl 1 (cZ s.keys),.sl 1 (cQ s.boxes)])))
  {k:Ex×List AV->Option β} {A B:β} (hA:∀ i:Nat,k (.ret,[iv i,iv i,.sl 1 (cZ s.keys),.sl 1 (cQ s.boxes)])=Zw A) (hB:k (.exit 0,[iv 0,iv L.length,.sl 1 (cZ s.keys),.sl 1 (cQ s.boxes)])=Zw B) :
  Zz (bw step [iv 0,iv 0,.sl 1 (cZ s.keys),.sl 1 (cQ s.boxes)]) k=Zw (bif L.all (cq s) then B else A):=by
 refine Qb1 (ng (A:=A) (B:=B) (fun i=>[iv 0,iv i,.sl 1 (cZ s.keys),.sl 1 (cQ s.boxes)]) L.length (fun i => !cq s (L.getD i [])) ?_ ?_ ⟨_,X8,hB⟩ rfl) ?_
 ·intro i hi hq;rw[rH i hi,aj hq,uD (by omega)]
 ·intro i hi hq;exact⟨_,by rw[rH i hi,ah hq],hA i⟩
 ·rw[kj L [] (fun x => !cq s x),Ik];cases L.any fun x => !cq s x<;>rfl
theorem MV{s:Kn}(hs:eL s){b:Bytes}(hb:b.length<=70368744160000):MU (cZ s.keys) (cQ s.boxes) b=Zw (rb (.bool (kM s b))):=by
 have hp:=(mS b).2;unfold MU Qn;rw[ae (by simp;omega)];show Zz (bw (UC (cQ (partsOf b))) [iv 0,iv 0,.sl 1 (cZ s.keys),.sl 1 (cQ s.boxes)]) _=_;refine Qb1 (IU (A:=rb (.bool Zu)) (B:=rb (.bool Zb)) (L:=partsOf b) (by omega) (fun i hi=> ?_) ?_ (fun i=> ?_) rfl) ?_
 ·have n9:i<(cQ (partsOf b)).length:=by rw[ec];exact hi
  show aD (Zy ((i:Int)<((cQ (partsOf b)).length:Int))) (ww i (cQ (partsOf b)) (Yp ((cQ (partsOf b)).getD (Zv i) .undef) _)) _=_;rw[ah (pu n9),jA n9,Zx,jY hi,vO,IM.2 hs,MD (by have:=Kl hb (x3 [] hi);simp;simpa using this)]
 ·show aD (Zy (((partsOf b).length:Int)<((cQ (partsOf b)).length:Int))) _ _=_;rw[aj (Zo _)]
 ·show Zw (rb (.bool (!Zy ((i:Int)>=0))))=_;rw[show Zy ((i:Int)>=0)=Zb by simp];rfl
 ·unfold kM;cases (partsOf b).all (cq s)<;>rfl
theorem JT(b:Bytes):ox b=((aY b).err==0&&(aY b).n==(b.length:Int)):=rfl
theorem RZ(xP:Nat)(bl ks bs:List AV)(n i:Int):Zi xP bl [iv n,iv i,.sl 1 ks,.sl 1 bs]=aD (Zy (i<(bl.length:Int))) (ww i bl (Yp (bl.getD (Zv i) .undef) fun q=>UD (td ks bs&&Zy (q.length<=70368744170000)&&Zy ((q.length:Int)<(xP:Int))) ks bs q fun k2 b3 b4 =>
   aD b4 (Zw (.inr (.ret,[iv i,iv i,.sl 1 k2,.sl 1 b3]))) (Zw (.inl [iv n,up i,.sl 1 k2,.sl 1 b3]))))
  (Zw (.inr (.exit 0,[iv n,iv i,.sl 1 ks,.sl 1 bs]))):=rfl
theorem MC{s:Kn}(hs:eL s){b:Bytes}(hb:b.length<=70368744170000){xP:Nat}(hd:b.length<=xP):MB xP (cZ s.keys) (cQ s.boxes) b=Zw (.bool (!cq s b),JV (cZ s.keys) (cQ s.boxes)):=by
 have n1:=hs.E';have n2:=hs.wD;have vq:=za b;unfold MB;rw[JX _ (by omega)];show aD (!!s.boxes.contains b) _ _=_;rw[tr,Bool.not_not];cases hc:s.boxes.contains b with
 | true=>rfl
 | false =>
  rw[aA,ae (by simp;omega),Bool.false_or];show aD (!ox b) _ _=_;cases X1:ox b with
  | false=>rfl
  | true =>
   have he:(aY b).err=0:=by rw[JT] at X1;simp at X1;exact X1.1
   have hl:=zR he;rw[Yq,aA,ae (by simp;omega),Bool.true_and];show aD (!((aY b).err==0)) _ (kF (ub (cZ s.keys) (aY b).box.key) _)=_;rw[he,aj (by rfl),wT _ (by omega)];show aD (!s.keys.contains (aY b).box.key) _ _=_;cases hk:s.keys.contains (aY b).box.key with
   | false=>rfl
   | true =>
    rw[Yq,aA,ae (by have:=O4 hb;simp;omega),Bool.true_and];show kF (O5 (cZ s.keys) (cZ (bY b).keys)) _=_;rw[O6 _ (by omega) (by have:=vq.keys;omega)];show aD ((bY b).keys.any fun k => !s.keys.contains k) _ (Zz (bw (Zi xP (cQ (bY b).boxes)) [iv 0,iv 0,.sl 1 (cZ s.keys),.sl 1 (cQ s.boxes)]) _)=_;rw[Ik (bY b).keys];cases (bY b).keys.any fun k => !s.keys.contains k with
    | true=>rfl
    | false =>
     rw[aA,Yz,Bool.true_and];refine Qb1 (IU (A:=(Zq Zb,JV (cZ s.keys) (cQ s.boxes))) (B:=(Zq Zu,JV (cZ s.keys) (cQ s.boxes))) (L:=(bY b).boxes) (by have:=vq.boxes;omega) (fun i hi=> ?_) ?_ (fun i=> ?_) rfl) ?_
     ·have n9:i<(cQ (bY b).boxes).length:=by rw[ec];exact hi
      have hq:=vq.len _ (x3 [] hi);rw[RZ,ah (pu n9),jA n9,Zx,jY hi,vO,IM.2 hs,MD (by rw[Qa4 (show((bY b).boxes.getD i []).length<=70368744170000 by omega),Qa4 (show((((bY b).boxes.getD i []).length:Nat):Int)<(xP:Int) by omega)];rfl)]
     ·show aD (Zy (((bY b).boxes.length:Int)<((cQ (bY b).boxes).length:Int))) _ _=_;rw[aj (Zo _)]
     ·show Zw (Zq (Zy ((i:Int)>=0)),JV (cZ s.keys) (cQ s.boxes))=_;rw[show Zy ((i:Int)>=0)=Zb by simp]
     ·cases (bY b).boxes.all (cq s)<;>rfl
end Kerb
/- Chapter 27: the statements' messages. -/
namespace Kerb
open Go Go.Abs
abbrev uw(n:UInt8)(m:Int):Int:=Int.tmod (Zp .i64 (n.toNat:Int)) m
theorem I4(n:UInt8){m:Int}(h:0<m):0<=uw n m/\uw n m<m:=by
 unfold uw;have:n.toNat<256:=n.toNat_lt;rw[wrap_i64 (by omega) (by omega),Int.tmod_eq_emod_of_nonneg (by omega)];exact⟨Int.emod_nonneg _ (by omega),Int.emod_lt_of_pos _ h⟩
def ig(n:UInt8):Int:=bif Zy (((UInt8.ofNat (Zv (Int.tmod (n.toNat:Int) ((6:UInt8).toNat:Int)))).toNat:Int)<((2:UInt8).toNat:Int)) then qQ (uw n 6) else aG (uw n 6)
def jh(n:UInt8):Int:=bif Zy (((UInt8.ofNat (Zv (Int.tmod (n.toNat:Int) ((6:UInt8).toNat:Int)))).toNat:Int)<((2:UInt8).toNat:Int)) then aG (Zp .i64 (2+uw n 4)) else aG (Zp .i64 (2+uw n 4))
theorem FR(n:UInt8):jh n=aG (Zp .i64 (2+uw n 4)):=by grind [jh]
def jy(x:UInt8):lL:=⟨user (next [x] 0 9),0,0,0⟩
def Tj(n:UInt8):UInt8:=UInt8.ofNat (Zv (Zp .u8 (Int.tdiv (n.toNat:Int) ((8:UInt8).toNat:Int))))
def m6(fN de:UInt8):Bytes:=(fz { aN [fN,de] with aG:=jh de } (ig (Tj de))).val
theorem nR(n:UInt8):0<=ig n/\ig n<18446744073709551616:=by
 unfold ig;cases Zy (((UInt8.ofNat (Zv (Int.tmod (n.toNat:Int) ((6:UInt8).toNat:Int)))).toNat:Int)<((2:UInt8).toNat:Int))
 ·exact xI _
 ·exact Pv _
theorem pH(n:UInt8):0<=jh n/\jh n<18446744073709551616:=by rw[FR];exact xI _
structure lP where
 kd:UInt8
 bx:UInt8
 se:UInt8
 fN:UInt8
 de:UInt8
 li:Bool
 hw:Int
def oM(bx:UInt8):Int:=Zp .i64 (1+uw bx 10)
def r_(n m:UInt8):UInt8:=UInt8.ofNat (Zv (Int.tmod (n.toNat:Int) (m.toNat:Int)))
def tN(t:lP):Bytes :=
 let s:=service (Zp .i64 (t.bx.toNat:Int))
 if oM t.bx=1 then(bR { aN [t.fN] with aG:=jh t.fN }).val
 else if oM t.bx=2 then(gN (jy t.fN) t.li).val
 else if oM t.bx=3 then(cX ⟨jh t.fN,s,0,0,m6 t.fN t.de,0⟩ t.li).val
 else if oM t.bx=4 then(eG ⟨5,0,0⟩ t.li).val
 else if oM t.bx=5\/oM t.bx=6 then(dv ⟨[],0,0,7⟩ t.li).val
 else if oM t.bx=7 then(bif r_ t.de 2==1 then(aW ⟨vB,4,0,0,0⟩).val else(aW ⟨g9,0,0,0,ig t.fN⟩).val)
 else if oM t.bx=8 then(bif r_ t.de 8==1 then(bm ⟨po,0,0,0,0,0,⟨[],[],[]⟩,[]⟩).val else(bm ⟨zn,0,jh t.fN,0,0,0,s,m6 t.fN t.de⟩).val)
 else if oM t.bx=9 then(eN ⟨user (Zp .i64 (t.bx.toNat:Int)),s,jh t.fN,0,0,0⟩).val
 else(dT ⟨jh t.fN,s,0,0,m6 t.fN t.de⟩).val
theorem MJ(x:UInt8):c9 [x] 0 9=1:=rfl
theorem MK(x:UInt8)(n:Int):c9 [x] 1 n=1:=rfl
theorem UE(x:UInt8)(n:Int):next [x] 1 n=0:=rfl
def tp(t:lP):Bytes:=(fO (oM t.bx) (ig t.se) (bif Int.tmod t.hw 16==15 then qJ (tN t) (Zp .u16 (Int.tdiv t.hw 16)) else tN t)).val
theorem EF(r:D4):(eN r).val.length<=400:=by
 by_cases h:(eN r).err=0
 ·obtain⟨h1,h2,_,_,_,_,z,hz,hl⟩:=EE h;have l1:=ch h1;have l2:=ch h2;rw[hz];simp[af,ag];omega
 ·unfold eN at h ⊢;repeat' split
  all_goals first | simp | skip
  all_goals exfalso;simp_all
theorem CN(r:uJ):(dT r).val.length<=600:=by
 by_cases h:(dT r).err=0
 ·obtain⟨_,h2,_,_,_,z,hz,hl⟩:=CM h;have l2:=ch h2;rw[hz];simp[af,ag];omega
 ·unfold dT at h ⊢;repeat' split
  all_goals first | simp | skip
  all_goals exfalso;simp_all
theorem ED(r:D2):(eM r).val.length<=2000:=by
 by_cases h:(eM r).err=0
 ·obtain⟨_,h2,h3,hz⟩:=EC h;have l2:=ch h2;have hh:(header 10 Zu).length=2:=rfl;rw[hz];simp only[Yw,List.length_cons,List.length_nil,af,hh];omega
 ·unfold eM at h ⊢;repeat' split
  all_goals first | simp | skip
  all_goals exfalso;simp_all
theorem oy{c:Prop}[Decidable c]{a b:Bytes}(h1:a.length<=1000)(h2:b.length<=1000):(if c then a else b).length<=1000:=by
 split
 ·exact h1
 ·exact h2
theorem Ep{c:Bool}{a b:Bytes}(h1:a.length<=1000)(h2:b.length<=1000):(bif c then a else b).length<=1000:=by
 cases c
 ·exact h2
 ·exact h1
theorem oN{n m:Nat}(h:n<=m)(hm:m<=1000):n<=1000:=Zd h hm
theorem G3(t:lP):(tN t).length<=1000 :=
 oy (oN (AS _) (by decide)) <| oy (oN yE (by decide)) <| oy (oN (yF _ _) (by decide)) <| oy (oN (wJ _ _) (by decide)) <| oy (ry _ _) <|
  oy (Ep (oN (vd _) (by decide)) (oN (vd _) (by decide))) <| oy (Ep (oN (u7 _) (by decide)) (oN (u7 _) (by decide))) <| oy (oN (EF _) (by decide)) (oN (CN _) (by decide))
theorem Jo(t:lP):(tp t).length<=1012:=zw _ _ _
theorem uX{n m:Int}(h0:0<=n)(h1:n<=65535)(hm:0<m):0<=Zp .u16 (Int.tdiv n m)/\Zp .u16 (Int.tdiv n m)<=65535:=by
 rw[Int.tdiv_eq_ediv_of_nonneg h0,wrap_u16];omega
def ow(t:lP):Bytes :=
 let u:=user (Zp .i64 (t.kd.toNat:Int))
 let k:=r_ t.kd 10
 if k=0 then(dU ⟨t.li,u,0,0,0,tp t⟩).val
 else if k=1 then(cH ⟨t.li,Zu,0,[82],m6 t.fN t.de,tp t⟩).val
 else if k=2 then(dN ⟨⟨t.li,Zu,0,[82],m6 t.fN t.de,m6 t.fN t.de⟩,0,0,[115],[]⟩).val
 else if k=3 then(dM (tp t) t.li).val
 else if k=4 then(aV ⟨2,⟨[],[],[]⟩,0,[82],m6 t.fN t.de,[115],[],tp t⟩).val
 else if k=5 then(cg ⟨1,0,tp t⟩).val
 else if k=6 then(eM ⟨Zp .i64 (1+Int.tmod (Zp .i64 (Int.tdiv (Zp .i64 (t.kd.toNat:Int)) 10)) 3),u,tp t⟩).val
 else if k=7 then(px ⟨[],0,0,Zp .i64 (t.de.toNat:Int)⟩ t.li (ig t.se)).val
 else if k=8 then(pw ⟨[],0,0,Zp .i64 (t.de.toNat:Int)⟩ t.li (ig t.se)).val
 else tp t
def pz(t:lP):Bytes:=bif Int.tmod t.hw 32==13 then qJ (ow t) (Zp .u16 (Int.tdiv t.hw 32)) else ow t
theorem lg{c:Prop}[Decidable c]{a b:Bytes}(h1:a.length<=3000)(h2:b.length<=3000):(if c then a else b).length<=3000:=by
 split
 ·exact h1
 ·exact h2
theorem oO{n m:Nat}(h:n<=m)(hm:m<=3000):n<=3000:=Zd h hm
theorem Dd(p:oW)(li:Bool)(k:Int):(px p li k).val.length<=2100:=by
 have h:=qm p li 6 k;have hh:(header 7 li).length<=2:=by cases li<;>decide
 unfold px;split
 ·exact Yj _
 ·simp only[zO,Yw,af];omega
theorem Dc(p:oW)(li:Bool)(k:Int):(pw p li k).val.length<=2100:=by
 have h:=qm p li 5 k;have hh:(header 6 li).length<=2:=by cases li<;>decide
 unfold pw;split
 ·exact Yj _
 ·simp only[zO,Yw,af];omega
theorem xv(t:lP):(ow t).length<=3000 :=
 lg (oO (xQ _) (by decide)) <| lg (oO (Lf _) (by decide)) <| lg (oO (PU _) (by decide)) <| lg (oO (AU _ _) (by decide)) <| lg (oO (CK _) (by decide)) <|
  lg (oO (CJ _) (by decide)) <| lg (oO (ED _) (by decide)) <| lg (oO (Dd _ _ _) (by decide)) <| lg (oO (Dc _ _ _) (by decide)) (oO (Jo t) (by decide))
theorem sM(t:lP):(pz t).length<=6001:=by
 have h:=xv t;unfold pz;cases Int.tmod t.hw 32==13
 ·exact Zd h (by decide)
 ·have:=KM (ow t) (Zp .u16 (Int.tdiv t.hw 32));exact Zd this (by omega)
def WZ:Bytes:=(cH ⟨Zu,Zu,0,[82],(fz ⟨Zu,⟨(aN []).client.name,(aN []).client.inst,(aN []).client.aJ⟩,(aN []).address,(aN []).aG,(aN []).cj,(aN []).cE,(aN []).service,(aN []).inst⟩ (qQ 1)).val,[]⟩).val
def S5:Kn:=leak (kn [] []) (qQ 1)
def Lj:Kn:=learn (kn (cZ S5.keys) (cQ S5.boxes)) WZ
theorem O1:Lj.keys.length<=100000000:=by decide +kernel
theorem O0:Lj.keys.contains (aG 0)=Zb:=by decide +kernel
noncomputable def QN:Option (AV×aC):=kF (C6 (cZ Lj.keys) (aG 0)) fun b=>aD b (Zw (.bool Zb,[])) (Zw (.bool Zu,[]))
theorem OZ:QN=some (.bool Zb,[]):=by
 unfold QN;rw[BD _ O1,O0];rfl
end Kerb
namespace Kerb
open Go Go.Abs
end Kerb
/- Chapter 27: sequences of messages and leaked keys. -/
namespace Kerb
open Go Go.Abs
def nf:AV->Bool
 | .agg [.u8 _,.u8 _,.u8 _,.u8 _,.u8 _,.bool _,.int .u16 hw]=>Zy (0<=hw)&&Zy (hw<=65535)
 | _=>Zu
def Pw:lP:=⟨0,0,0,0,0,false,0⟩
def nt:AV->lP
 | .agg [.u8 kd,.u8 bx,.u8 se,.u8 fN,.u8 de,.bool li,.int .u16 hw]=>⟨kd,bx,se,fN,de,li,hw⟩
 | _=>Pw
def gQ(ls:List AV)(n:Nat):List Bytes:=(Zk ls.length).map fun i=>pz (nt (ls.getD ((i+n) % ls.length) .undef))
def gP(lk:Bytes)(n:Nat):List Int:=(Zk (min 6 lk.length)).map fun i=>ig (lk.getD ((i+n) % min 6 lk.length) 0)
def oe(ls:List AV)(lk:Bytes)(turn:Int):Kn:=Lc (gQ ls turn.toNat) (gP lk turn.toNat)
end Kerb
/- Chapter 27: the statements about sequences of messages, in plain words. -/
namespace Kerb
open Go Go.Abs
theorem Bk(s:Kn):lT (close s)<=lT s :=
 (sH (P:=fun t=>lT t<=lT s) (fun t b h gb go=>Zd (Nat.le_of_lt (nX gb go)) h) s (Zh _)).1
theorem J0(s:Kn)(b:Bytes):lT (learn s b)<=lT s+2*b.length+2026:=by
 have h1:=Bk (s.add ⟨[],partsOf b⟩);have hp:=mS b;have h2:=Cr s ⟨[],partsOf b⟩ (m:=b.length+1012) hp.1;have h3:(partsOf b).length*(b.length+1012+1)<=2*(b.length+1012+1):=Nat.mul_le_mul_right _ hp.2;unfold learn;simp only[List.length_nil] at h2;omega
theorem Mq(s:Kn)(k:Int):lT (leak s k)<=lT s+1:=by
 have h1:=Bk (s.add ⟨cr [k],[]⟩);have hp:=oG k;have h2:=Cr s ⟨cr [k],[]⟩ (m:=0) (by simp);unfold leak;simp only[List.length_nil] at h2;omega
structure Fit (s:Kn) (n:Nat):Prop where
 Jw:eL s
 lT:lT s<=n
theorem Q7:Fit zC 0:=⟨⟨rfl,fun b h=>(nomatch h),by decide⟩,by decide⟩
theorem Fit.learn{s:Kn}{n:Nat}(h:Fit s n){b:Bytes}(hb:b.length<=6001)(hn:n<=900000):Fit (learn s b) (n+14028):=by
 have h1:=J0 s b;have h2:=h.lT;exact⟨(h.Jw.parts (by omega)).close,by omega⟩
theorem Fit.leak{s:Kn}{n:Nat}(h:Fit s n){k:Int}(hn:n<=900000):Fit (leak s k) (n+1):=by
 have h1:=Mq s k;have h2:=h.lT;exact⟨(h.Jw.Mr (by omega)).close,by omega⟩
theorem sJ{α β:Type}(f:β->α->β)(s:β)(d:α):∀ {l:List α} {i:Nat},i<l.length->(l.take (i+1)).foldl f s=f ((l.take i).foldl f s) (l.getD i d):=by
 intro l i h;rw[List.take_add_one,List.foldl_append];simp[Zj,h]
theorem yK{l:List Bytes}(h:∀ b∈l,b.length<=6001)(hl:l.length<=12):∀ i,i<=l.length->Fit ((l.take i).foldl Kerb.learn zC) (i*14028)
 | 0,_=>by simpa using Q7
 | i+1,hi=>by
  rw[sJ _ _ [] hi,Nat.succ_mul];refine(yK h hl i (by omega)).learn ?_ (by omega);have:l.getD i []=l[i]:=by simp only[Zj,Zg (show i<l.length from hi),Option.getD_some]
  rw[this];exact h _ (List.getElem_mem _)
theorem yJ{s:Kn}{n:Nat}(h:Fit s n){l:List Int}(hl:l.length<=300)(hn:n<=500000):∀ i,i<=l.length->Fit ((l.take i).foldl Kerb.leak s) (n+i)
 | 0,_=>by simpa using h
 | i+1,hi=>by
  rw[sJ _ _ 0 hi];exact(yJ h hl hn i (by omega)).leak (by omega)
theorem ik(ls:List AV)(n:Nat):(gQ ls n).length=ls.length:=by simp[gQ]
theorem BM(ls:List AV)(n:Nat):∀ b∈gQ ls n,b.length<=6001:=by
 intro b hb;simp only[gQ,List.mem_map] at hb;obtain⟨i,_,rfl⟩:=hb;exact sM _
theorem J8{ls:List AV}{n i:Nat}(h:i<ls.length):(gQ ls n).getD i []=pz (nt (ls.getD ((i+n) % ls.length) .undef)):=by
 simp[gQ,Zj,h]
theorem l9(lk:Bytes)(n:Nat):(gP lk n).length=min 6 lk.length:=by simp[gP]
theorem JW{lk:Bytes}{n i:Nat}(h:i<min 6 lk.length):(gP lk n).getD i 0=ig (lk.getD ((i+n) % min 6 lk.length) 0):=by
 unfold gP;rw[Zj,List.getElem?_map,List.getElem?_range h];rfl
theorem Jf{ls:List AV}(lk:Bytes)(turn:Int)(h:ls.length<=12):Fit (oe ls lk turn) 200000:=by
 have h1:=yK (BM ls turn.toNat) (by rw[ik];exact h) _ (Zh _);rw[Yu,ik] at h1;have h2:=yJ h1 (l:=gP lk turn.toNat) (by rw[l9];omega) (by omega) _ (Zh _);rw[Yu,l9] at h2;exact⟨h2.Jw,Zd h2.lT (by omega)⟩
theorem turned{p:Nat->Prop}{N:Nat}(n:Nat):(∃ i,i<N/\p ((i+n) % N))↔∃ i,i<N/\p i:=by
 constructor
 ·rintro⟨i,hi,hp⟩;exact⟨(i+n) % N,Nat.mod_lt _ (by omega),hp⟩
 ·rintro⟨i,hi,hp⟩;refine⟨(i+(N-n % N)) % N,Nat.mod_lt _ (by omega),?_⟩;have eY:n % N<N:=Nat.mod_lt _ (by omega);have:((i+(N-n % N)) % N+n) % N=i:=by
   rw[Nat.add_mod,Nat.mod_mod,<-Nat.add_mod];have e:i+(N-n % N)+n=i+N*(n / N+1):=by
    have:=Nat.div_add_mod n N;rw[Nat.mul_add,Nat.mul_one];omega
   rw[e,Nat.add_mul_mod_self_left,Nat.mod_eq_of_lt hi]
  rw[this];exact hp
theorem HB(ls:List AV)(n:Nat)(b:Bytes):b∈gQ ls n↔b∈gQ ls 0:=by
 have h:=turned (p:=fun i=>pz (nt (ls.getD i .undef))=b) (N:=ls.length) n;have h0:=turned (p:=fun i=>pz (nt (ls.getD i .undef))=b) (N:=ls.length) 0;simp only[gQ,List.mem_map,Zf];exact h.trans h0.symm
theorem Hp(lk:Bytes)(n:Nat)(k:Int):k∈gP lk n↔k∈gP lk 0:=by
 have h:=turned (p:=fun i=>ig (lk.getD i 0)=k) (N:=min 6 lk.length) n;have h0:=turned (p:=fun i=>ig (lk.getD i 0)=k) (N:=min 6 lk.length) 0;simp only[gP,List.mem_map,Zf];exact h.trans h0.symm
theorem yq(ls:List AV)(lk:Bytes)(turn:Int):Full (fun b=>∃ m∈gQ ls 0,b∈partsOf m) (fun k=>k∈cr (gP lk 0)) (oe ls lk turn):=by
 refine pc (fun b=> ?_) (fun k=> ?_) (GX (gQ ls turn.toNat) (gP lk turn.toNat))
 ·simp only[HB]
 ·simp only[cr,List.mem_filter,Hp]
theorem D7{ls:List AV}(lk:Bytes)(n:Int){i:Nat}(h:i<ls.length):∀ b∈partsOf (pz (nt (ls.getD i .undef))),∃ m∈gQ ls 0,b∈partsOf m:=fun b hb =>
 ⟨_,by
  simp only[gQ,List.mem_map,Zf];exact⟨i,h,by rw[Nat.add_zero,Nat.mod_eq_of_lt h]⟩,hb⟩
theorem Je{ls:List AV}(lk:Bytes)(n:Int){i:Nat}(h:i<ls.length):kM (oe ls lk n) (pz (nt (ls.getD i .undef)))=Zb:=by
 unfold kM;rw[Zn];intro b hb;exact ol (((yq ls lk n).boxes b).2 (.box (D7 lk n h b hb)))
theorem D8{ls:List AV}(lk:Bytes)(n:Int){m:Bytes}(h:kM (oe ls lk n) m=Zb):(learn (oe ls lk n) m).keys=(oe ls lk n).keys :=
 A6 (yq ls lk n) h
def lP.av(t:lP):AV := .agg [.u8 t.kd,.u8 t.bx,.u8 t.se,.u8 t.fN,.u8 t.de,.bool t.li,.int .u16 t.hw]
theorem MO{a:AV}(h:nf a=Zb):∃ t:lP,a=t.av/\0<=t.hw/\t.hw<=65535/\nt a=t:=by
 unfold nf at h;split at h
 ·rename_i kd bx se fN de li hw;simp only[Yy,Qa2] at h;exact⟨⟨kd,bx,se,fN,de,li,hw⟩,rfl,h.1,h.2,rfl⟩
 ·cases h
theorem GH{ls:List AV}(h:ls.all nf=Zb){i:Nat}(hi:i<ls.length):∃ t:lP,ls.getD i .undef=t.av/\0<=t.hw/\t.hw<=65535/\nt (ls.getD i .undef)=t:=by
 have e:ls.getD i .undef=ls[i]:=by simp only[Zj,Zg hi,Option.getD_some]
 rw[e];exact MO (Zn.1 h _ (List.getElem_mem hi))
theorem Cg(t:lP):lP.mk t.kd t.bx t.se t.fN t.de t.li t.hw=t:=rfl
theorem Ms{n:Nat}(h:0<n):(((n:Nat):Int)==0)=Zu:=by rw[beq_eq_false_iff_ne];omega
theorem Ch{i n N:Nat}(h:i+n<=1000000):Int.tmod (Zp .i64 ((i:Int)+(n:Int))) (N:Int)=(((i+n) % N:Nat):Int):=by
 rw[wrap_i64 (by omega) (by omega),Int.tmod_eq_emod_of_nonneg (by omega)];rfl
theorem Uq(N:Nat):tY 6 (N:Int)=((min 6 N:Nat):Int):=by
 unfold tY;split<;>omega
theorem Fit.kn{s:Kn}{n:Nat}(h:Fit s n):td (cZ s.keys) (cQ s.boxes)=Zb:=IM.2 h.Jw
theorem Fit.pre{s:Kn}{n:Nat}(h:Fit s n)(hn:n<=900000){b:Bytes}(hb:b.length<=6001):Zy (Kerb.lT s+2*b.length+2100<=1000000)=Zb:=by
 exact Qa4 (by have:=h.lT;omega)
theorem Fit.PG{s:Kn}{n:Nat}(h:Fit s n)(hn:n<=900000):Zy (Kerb.lT s+1<=1000000)=Zb:=by
 exact Qa4 (by have:=h.lT;omega)
theorem Fit.kl{s:Kn}{n:Nat}(h:Fit s n)(hn:n<=900000):s.keys.length<=900000:=by have:=h.lT;unfold Kerb.lT at this;omega
theorem Fit.bl{s:Kn}{n:Nat}(h:Fit s n)(hn:n<=900000):s.boxes.length<=900000:=by have:=h.lT;unfold Kerb.lT at this;omega
theorem IP{b:Bytes}(h:b.length<=6001):Zy (b.length<=70368744160000)=Zb:=Qa4 (by omega)
end Kerb
namespace Kerb
end Kerb
namespace Kerb
open Go Go.Abs
theorem Fit.lk{s:Kn}{n:Nat}(h:Fit s n)(hn:n<=900000):Zy ((cZ s.keys).length<=1000000000)=Zb:=by rw[ef];exact Qa4 (by have:=h.kl hn;omega)
theorem Fit.lb{s:Kn}{n:Nat}(h:Fit s n)(hn:n<=900000):Zy ((cQ s.boxes).length<=1000000000)=Zb:=by rw[ec];exact Qa4 (by have:=h.bl hn;omega)
end Kerb
/- Functions of the library that are taken as given: their contracts out of the kit's. -/
namespace Go.Abs
open Go.RowKit Go.Lib
theorem qa(c:UInt8):∀ l:List UInt8,Lib.indexByte l c=Yv c l
 | []=>rfl
 | b::l=>by
  have h1:=qa c l;have h2:=Lib.indexByte_ge l c;simp only[Lib.indexByte,Yv,h1];rw[h1] at h2;by_cases hb:(b==c)=Zb
  ·simp[hb]
  ·simp only[hb,if_false,Bool.false_eq_true];by_cases h3:Yv c l = -1
   ·simp[h3]
   ·rw[Qa0 (by simpa using h3),Qa0 (by omega)]
section
variable {P:Program} {G:nE} {f:Nat} {fn:Func}
theorem Kept.refl{M:Nat->Prop}{w:World}{p:bj}(hn:GU w p):Kept M w p w p:=⟨rfl,rfl,rfl,Zh _,fun _ _ _=>rfl,fun _ _=>rfl,hn⟩
theorem vl (hf : P.funcs[f]? = Zw fn) (iC : (fn.name == "runtime.NumGoroutine") = Zu) (hb : fn.body.isNone = Zb) (hn : Extern.findNext fn = Yd) (he : Extern.find fn = Zw Extern.BytealgIndexByte.indexByte) {s : Spec} {rt : Nat} (qO : G.rts f = Zw [rt])
  (hs:∀ xs bl r,s xs bl=Zw r->∃ l c,xs=[.str l,.u8 c]/\bl=[]/\r=(.int .i64 (Yv c l),[])):jG P G f s:=by
 intro call xs bl r bs rts h1 h2 w p dd bk Bu hG eQ ha tV;rw[qO] at h2;cases h2;obtain⟨l,c,rfl,rfl,hr⟩:=hs _ _ _ h1;cases hr;have qP:dd.size=2:=eQ;obtain⟨v0,v1,rfl⟩:∃ a b,dd = #[a,b]:=⟨dd[0],dd[1],by apply Array.ext<;>simp[qP];intro i h1 h2;rcases i with _ | _ | i<;>first | rfl | omega⟩;have r0:=ha 0 v0 _ rfl rfl;have r1:=ha 1 v1 _ rfl rfl;have e0:∃ s:ByteArray,v0 = .string s/\s.data.toList=l:=by
  rcases r0 with(h | ⟨_,_,_,h,_⟩) | ⟨_,_,_,h,_⟩ | ⟨_,_,_,_,_,_,h,_⟩
  ·cases h with | str h=>exact⟨_,rfl,h⟩
  ·cases h
  ·cases h
  ·cases h
 have e1:v1=iU c:=by
  rcases r1 with(h | ⟨_,_,_,h,_⟩) | ⟨_,_,_,h,_⟩ | ⟨_,_,_,_,_,_,h,_⟩
  ·cases h;rfl
  ·cases h
  ·cases h
  ·cases h
 obtain⟨s,rfl,fJ⟩:=e0;subst e1;right;refine⟨.int .i64 (Yv c l),w,?_,p,Kept.refl Bu,.inl (.inl (.int (by simp))),⟨rfl,fun i j cs iw h=>by simp at h⟩⟩;rw[run_callFunc_extern hf iC hb hn he];have hr:=Lib.run_indexByteString (P:=P) s c.toNat w;rw[show(#[Value.string s,iU c]:Array Value) = #[.string s,.int .u8 c.toNat] from rfl,hr];simp[fJ,qa,Result.andThen]
theorem EM (hf : P.funcs[f]? = Zw fn) (iC : (fn.name == "runtime.NumGoroutine") = Zu) (hb : fn.body.isNone = Zb) (hn : Extern.findNext fn = Yd) (he : Extern.find fn = Zw Extern.BytealgIndexByte.indexByte) {s : Spec} {rt : Nat} (qO : G.rts f = Zw [rt])
  (hs:∀ xs bl r,s xs bl=Zw r->∃ l c,xs=[.bs l,.u8 c]/\bl=[]/\r=(.int .i64 (Yv c l),[])):jG P G f s:=by
 intro call xs bl r bs rts h1 h2 w p dd bk Bu hG eQ ha tV;rw[qO] at h2;cases h2;obtain⟨l,c,rfl,rfl,hr⟩:=hs _ _ _ h1;cases hr;have qP:dd.size=2:=eQ;obtain⟨v0,v1,rfl⟩:∃ a b,dd = #[a,b]:=⟨dd[0],dd[1],by apply Array.ext<;>simp[qP];intro i h1 h2;rcases i with _ | _ | i<;>first | rfl | omega⟩;have r0:=ha 0 v0 _ rfl rfl;have r1:=ha 1 v1 _ rfl rfl;have e1:v1=iU c:=by
  rcases r1 with(h | ⟨_,_,_,h,_⟩) | ⟨_,_,_,h,_⟩ | ⟨_,_,_,_,_,_,h,_⟩
  ·cases h;rfl
  ·cases h
  ·cases h
  ·cases h
 subst e1;right;refine⟨.int .i64 (Yv c l),w,?_,p,Kept.refl Bu,.inl (.inl (.int (by simp))),⟨rfl,fun i j cs iw h=>by simp at h⟩⟩;rw[run_callFunc_extern hf iC hb hn he];have key:(Extern.BytealgIndexByte.indexByte #[v0,iU c]).run P w = .ok (.int .i64 (Yv c l)) w:=by
  rcases r0 with(h | ⟨_,_,_,h,_⟩) | ⟨_,_,_,h,_⟩ | ⟨_,_,_,_,_,_,h,_⟩
  ·cases h with
   | bs β off hl l7 yP hcell =>
    rename_i a len cap;have hb:(Extern.Bytes.bytesOf (.slice a len cap)).run P w = .ok ⟨l.toArray⟩ w:=by
     rcases yP with h0 | rfl
     ·have SS:l=[]:=Zm (by omega);subst SS;cases a with
      | none=>simp[Extern.Bytes.bytesOf];rfl
      | some a=>subst h0;simp[Extern.Bytes.bytesOf,Extern.Bytes.loadBytes];rfl
     ·have hx:=Lib.run_loadBytesX (P:=P) w (l.map fun b=>(b.toNat:Int)) ⟨β,off,Yd⟩ .empty (fun j x hj=>by
       rw[List.getElem?_map] at hj;cases hb:l[j]? with
       | none=>rw[hb] at hj;cases hj
       | some b =>
        rw[hb] at hj;simp at hj;subst hj;rw[dG];exact(hcell j b hb).2)
      have DU:Lib.bytesOf (l.map fun b=>(b.toNat:Int))=l:=by
       simp[Lib.bytesOf,Function.comp_def]
      simp only[List.length_map,hl,DU] at hx;simp only[Extern.Bytes.bytesOf];rw[hx];congr 1;apply ByteArray.ext;show(#[]:Array UInt8)++l.toArray=l.toArray;simp
    have hs:=Lib.run_indexByteString (P:=P) ⟨l.toArray⟩ c.toNat w;have e:(Extern.BytealgIndexByte.indexByte #[.slice a len cap,iU c]).run P w=(Extern.BytealgIndexByte.indexByte #[.string ⟨l.toArray⟩,.int .u8 c.toNat]).run P w:=by
     have hd:∀ (x y:Value),(Extern.BytealgIndexByte.indexByte #[x,y]).run P w=((Extern.Bytes.bytesOf x).run P w).andThen fun b w'=>(Extern.BytealgIndexByte.indexByte #[.string b,y]).run P w':=by
      intro x y;show Sem.run P (Extern.Bytes.bytesOf x >>= _) w=_;rw[Sem.run_bind];rfl
     rw[hd,hb];rfl
    rw[e,hs];simp[qa]
  ·cases h
  ·cases h
  ·cases h
 rw[key];simp[Result.andThen]
theorem G9{e t:Nat}{cap:World->Nat->Nat}{cells:World->Nat->Array Value}(jM:∀ vs (w:World),(callFunc f vs).run P w = .ok (.enter f vs) w){s:Spec}(qO:G.rts f=Zw [t]){i:TI}(x8:G.ty t=Zw i)(hk:i.kind = .slice e Zb)
  (h0:∀ a w,Calls P f #[.slice a 0 0,.int .i64 0] w fun x w'=>x = .returned (.slice a 0 0)/\w'=w)
  (h1:∀ a (n:Nat) w,0<n->n<=140737488355328->Calls P f #[.slice a 0 0,.int .i64 n] w fun x w'=>x = .returned (.slice (Zw ⟨w.heap.size,0,Yd⟩) 0 (cap w n))/\w'=w.drew.alloc (.cells (cells w n) e))
  (l7:∀ w n,0<n->n<=140737488355328->n<=cap w n/\cap w n<=maxLen/\(cells w n).size=cap w n)
  (hs:∀ xs bl r,s xs bl=Zw r->∃ n:Int,xs=[.cJ,.int .i64 n]/\0<=n/\n<=140737488355328/\bl=[]/\r=(.bE [],[])):jG P G f s:=by
 intro call xs bl r bs rts g1 g2 w p dd bk Bu hG eQ ha tV;rw[qO] at g2;cases g2;obtain⟨n,rfl,Rw,hn1,rfl,hr⟩:=hs _ _ _ g1;cases hr;have qP:dd.size=2:=eQ;obtain⟨v0,v1,rfl⟩:∃ a b,dd = #[a,b]:=⟨dd[0],dd[1],by apply Array.ext<;>simp[qP];intro i h1 h2;rcases i with _ | _ | i<;>first | rfl | omega⟩;have r0:=ha 0 v0 _ rfl rfl;have r1:=ha 1 v1 _ rfl rfl;have e0:∃ a,v0 = .slice a 0 0:=by
  rcases r0 with(h | ⟨_,_,_,h,_⟩) | ⟨_,_,_,h,_⟩ | ⟨_,_,_,_,_,_,h,_⟩
  ·cases h;exact⟨_,rfl⟩
  ·cases h
  ·cases h
  ·cases h
 have e1:v1 = .int .i64 n:=by
  rcases r1 with(h | ⟨_,_,_,h,_⟩) | ⟨_,_,_,h,_⟩ | ⟨_,_,_,_,_,_,h,_⟩
  ·cases h;rfl
  ·cases h
  ·cases h
  ·cases h
 obtain⟨a,rfl⟩:=e0;subst e1;left;refine⟨jM _ w,?_⟩;have yS:jR w w p bk [] [] []:=⟨rfl,fun i j cs iw h=>by simp at h⟩;obtain⟨m,rfl⟩:=Int.eq_ofNat_of_zero_le Rw;rcases Nat.eq_zero_or_pos m with hz | hz
 ·subst hz;refine(h0 a w).mono ?_;rintro x w' ⟨rfl,rfl⟩;exact⟨_,rfl,p,Kept.refl Bu,.inr (.inl ⟨i,e,[],x8,hk,rfl,⟨rfl,.inl ⟨rfl,_,rfl⟩⟩,fun β hβ=>by cases a<;>simp[bC] at hβ⟩),⟨rfl,fun i j cs iw h=>by simp at h⟩⟩
 ·refine(h1 a m w hz (by omega)).mono ?_;rintro x w' ⟨rfl,rfl⟩;obtain⟨c1,c2,c3⟩:=l7 w m hz (by omega);refine⟨_,rfl,p,⟨rfl,rfl,rfl,by simp,fun β hβ _=> ?_,fun _ _=>rfl,fun β hβ=>Bu β (by simp at hβ;omega)⟩,.inr (.inl ⟨i,e,[],x8,hk,rfl,⟨rfl,.inr ⟨w.heap.size,cap w m,cells w m,rfl,by omega,Zh _,?_,by simp,c2,by rw[c3];omega,by simp⟩⟩,fun β hβ=> ?_⟩),⟨rfl,fun i j cs iw h=>by simp at h⟩⟩
  ·exact dh w.drew _ hβ
  ·exact dW w.drew _
  ·simp only[bC] at hβ;split at hβ
   ·cases hβ
   ·cases hβ;exact Bu _ (Zh _)
theorem EK{e t:Nat}(jM:∀ vs (w:World),(callFunc f vs).run P w = .ok (.enter f vs) w){s:Spec}(qO:G.rts f=Zw [t])
  (h0:∀ (n c:Nat) w,Calls P f #[.slice Yd n c] w fun x w'=>x = .returned (.slice Yd 0 0)/\w'=w)
  (h1:∀ (a:Addr) (n c:Nat) (xs:List Int) (w:World),xs.length=n->n<=140737488355328->(∀ i,i<n->w.cell? (a.add i)=Zw (.int .u8 (xs.getD i 0))) ->
   Calls P f #[.slice (Zw a) n c] w fun x w'=>∃ v',x = .returned v'/\w'.ownsRow w.heap.size e 1 v' n (xs.map (Value.int .u8))/\Below w.heap.size w w')
  (hs:∀ xs bl r,s xs bl=Zw r->∃ b:List UInt8,xs=[.bs b]/\b.length<=140737488355328/\bl=[]/\r=(.bs b,[])):jG P G f s:=by
 intro call xs bl r bs rts g1 g2 w p dd bk Bu hG eQ ha tV;rw[qO] at g2;cases g2;obtain⟨b,rfl,vo,rfl,hr⟩:=hs _ _ _ g1;cases hr;have qP:dd.size=1:=eQ;obtain⟨v0,rfl⟩:∃ a,dd = #[a]:=⟨dd[0],by apply Array.ext<;>simp[qP];intro i hi;subst hi;rfl⟩;have r0:=ha 0 v0 _ rfl rfl;have hI:bG w p v0 (.bs b):=by
  rcases r0 with(h | ⟨_,_,_,h,_⟩) | ⟨_,_,_,h,_⟩ | ⟨_,_,_,_,_,_,h,_⟩
  ·exact h
  ·cases h
  ·cases h
  ·cases h
 left;refine⟨jM _ w,?_⟩;cases hI with
 | bs β off hl l7 yP hcell =>
  rename_i a len cap;cases a with
  | none =>
   have x4:b=[]:=by
    rcases yP with h | h
    ·exact Zm (by omega)
    ·cases h
   subst x4;refine(h0 len cap w).mono ?_;rintro x w' ⟨rfl,rfl⟩;exact⟨_,rfl,p,Kept.refl Bu,.inl (.inl (.bs 0 0 rfl (Zh _) (.inl rfl) fun i b hb=>by simp at hb)),⟨rfl,fun i j cs iw h=>by simp at h⟩⟩
  | some a =>
   refine(h1 a len cap (b.map fun c=>(c.toNat:Int)) w (by simp[hl]) (by omega) (fun i hi=> ?_)).mono ?_
   ·rcases yP with h | h
    ·omega
    ·cases h;have nP:b[i]? = Zw b[i]:=Zg (by omega);rw[dG];have:=(hcell i _ nP).2;rw[this];simp[iU,List.getD_eq_getElem?_getD,nP]
   ·rintro x w' ⟨v',rfl,qN,pf⟩;obtain⟨hlen,⟨rfl,hn⟩ | ⟨β',Jp,iV,rfl,hB,hh,sL,xq,hcs,fo⟩⟩:=qN
    ·have x4:b=[]:=Zm (by omega);subst x4;exact⟨_,rfl,p,⟨pf.os,pf.tape,pf.output,pf.size,fun β hβ _=>pf.block β hβ,fun _ _=>rfl,fun β hβ=>Bu β (Zd pf.size hβ)⟩,.inl (.inl (.bs 0 0 rfl (Zh _) (.inl rfl) fun i b hb=>by simp at hb)),⟨rfl,fun i j cs iw h=>by simp at h⟩⟩
    ·have eY:=jV hh;refine⟨_,rfl,raise p (Zw β') len,⟨pf.os,pf.tape,pf.output,pf.size,fun β hβ _=>pf.block β hβ,fun β hβ=>lF (by simp;omega),fun β hβ=> ?_⟩,.inl (.inl (.bs β' 0 hl sL (.inr rfl) fun i c hc=>⟨?_,?_⟩)),⟨rfl,fun i j cs iw h=>by simp at h⟩⟩
     ·rw[lF (by simp;omega)];exact Bu β (Zd pf.size hβ)
     ·rw[fy rfl];have:=(Yx.1 hc).1;omega
     ·have hi:i<len:=by have:=(Yx.1 hc).1;omega
      rw[Nat.zero_add,eC hh];have h2:(iV.toList.take (len*1))[i]? = Zw (iU c):=by
       rw[fo];simp[hc,iU]
      rw[List.getElem?_take,Qa1 (by omega)] at h2;simpa using h2
theorem vk{e t size:Nat}{i ei:TI}(jM:∀ vs (w:World),(callFunc f vs).run P w = .ok (.enter f vs) w){s:Spec}(qO:G.rts f=Zw [t])(x8:G.ty t=Zw i)(hk:i.kind = .slice e Zu)(Ug:G.ty e=Zw ei)(hes:ei.size=size)(je:0<size)
  (h0:∀ (n c:Nat) w,Calls P f #[.slice Yd n c] w fun x w'=>x = .returned (.slice Yd 0 0)/\w'=w)
  (h1:∀ (a:Addr) (n c:Nat) (xs:List Value) (w:World),xs.length=n*size->n<=1000000->(∀ j u,xs[j]? = Zw u->w.cell? (a.add j)=Zw u)->(∀ u∈xs,u.oneCell'=Zb) ->
   Calls P f #[.slice (Zw a) n c] w fun x w'=>∃ v',x = .returned v'/\w'.ownsRow w.heap.size e size v' n xs/\Below w.heap.size w w')
  (hs:∀ xs bl r,s xs bl=Zw r->∃ els:List AV,xs=[.sl size els]/\els.length<=1000000/\bl=[]/\r=(.aF els,[])):jG P G f s:=by
 intro call xs bl r bs rts g1 g2 w p dd bk Bu hG eQ ha tV;rw[qO] at g2;cases g2;obtain⟨els,rfl,vo,rfl,hr⟩:=hs _ _ _ g1;cases hr;have qP:dd.size=1:=eQ;obtain⟨v0,rfl⟩:∃ a,dd = #[a]:=⟨dd[0],by apply Array.ext<;>simp[qP];intro i hi;subst hi;rfl⟩;have r0:=ha 0 v0 _ rfl rfl;have hI:bG w p v0 (.sl size els):=by
  rcases r0 with(h | ⟨_,_,_,h,_⟩) | ⟨_,_,_,h,_⟩ | ⟨_,_,_,_,_,_,h,_⟩
  ·exact h
  ·cases h
  ·cases h
  ·cases h
 left;refine⟨jM _ w,?_⟩;subst hes;cases hI with
 | sl β off vs hl l7 TA yP hcell kZ =>
  rename_i a len cap;have Rn:=ic TA;cases a with
  | none =>
   have x4:els=[]:=by
    rcases yP with h | h
    ·exact Zm (by omega)
    ·cases h
   subst x4;refine(h0 len cap w).mono ?_;rintro x w' ⟨rfl,rfl⟩;exact⟨_,rfl,p,Kept.refl Bu,.inr (.inr (.inl ⟨i,e,ei,[],[],x8,hk,Ug,rfl,je,fun x hx=>(nomatch hx),⟨by simp,.inl ⟨rfl,_,rfl⟩⟩,aU.nil,fun β hβ=>by simp[bC] at hβ⟩)),⟨rfl,fun i j cs iw h=>by simp at h⟩⟩
  | some a =>
   have nP:∀ j u,((Zk (els.flatMap AV.cells).length).map vs)[j]? = Zw u->∃ c,(els.flatMap AV.cells)[j]? = Zw c/\u=vs j:=by
    intro j u hj;have hi:j<(els.flatMap AV.cells).length:=by have:=(Yx.1 hj).1;simpa using this
    refine⟨_,Zg hi,?_⟩;rw[List.getElem?_map,List.getElem?_range hi] at hj;cases hj;rfl
   refine(h1 a len cap ((Zk (els.flatMap AV.cells).length).map vs) w (by simp[Rn,hl]) (by omega) (fun j u hj=> ?_) (fun u hu=> ?_)).mono ?_
   ·obtain⟨c,hc,rfl⟩:=nP j u hj;have eY:=(Yx.1 hc).1;rcases yP with h | h
    ·rw[Rn,hl,h] at eY;simp at eY
    ·cases h;rw[dG];exact(hcell j c hc).2
   ·obtain⟨j,hj,rfl⟩:=List.mem_map.1 hu;exact(kZ j _ (Zg (Zf.1 hj))).re.2.1
   ·rintro x w' ⟨v',rfl,qN,pf⟩;have bz:jH w' w.heap.size e ei.size v' els.length ((Zk (els.flatMap AV.cells).length).map vs):=by
     obtain⟨hlen,⟨rfl,hn⟩ | ⟨β',Jp,iV,rfl,hB,hh,sL,xq,hcs,fo⟩⟩:=qN
     ·exact⟨by rw[hl];exact hlen,.inl ⟨by omega,_,rfl⟩⟩
     ·rw[hl];by_cases hz:Jp=0
      ·subst hz;have h9:len=0:=by omega
       subst h9;exact⟨hlen,.inl ⟨rfl,_,rfl⟩⟩
      ·exact⟨hlen,.inr ⟨β',Jp,iV,rfl,by omega,hB,hh,sL,xq,hcs,fo⟩⟩
    have YE:∀ β j,j<p β->β<w.heap.size:=fun β j hj=>by
     rcases Nat.lt_or_ge β w.heap.size with h | h
     ·exact h
     ·rw[Bu β h] at hj;omega
    refine⟨_,rfl,p,⟨pf.os,pf.tape,pf.output,pf.size,fun β hβ _=>pf.block β hβ,fun _ _=>rfl,fun β hβ=>Bu β (Zd pf.size hβ)⟩,
     .inr (.inr (.inl ⟨i,e,ei,els,_,x8,hk,Ug,rfl,je,TA,bz,⟨by simp,fun j v c hv hc=> ?_⟩,fun β hβ=> ?_⟩)),⟨rfl,fun i j cs iw h=>by simp at h⟩⟩
    ·obtain⟨c',GM,rfl⟩:=nP j v hv;exact(kZ j c hc).mono (fun _=>Zh _) fun β i hi=>by
      have:=pf.block β (YE β i hi);simp only[World.cell?,this]
    ·obtain⟨_,⟨_,a',rfl⟩ | ⟨β',Jp,iV,rfl,h9,hB,_⟩⟩:=bz
     ·cases a'<;>simp[bC] at hβ
     ·simp only[bC] at hβ;rw[Qa0 (by omega)] at hβ;cases hβ;exact Bu _ hB
end
end Go.Abs
/- slices.Grow of nil, for rows of structs and numbers. -/
namespace Go.Abs
open Go.RowKit Go.Lib
section
variable {P:Program} {G:nE} {f:Nat} {fn:Func}
theorem EL{e t:Nat}{cap:World->Nat->Nat}{cells:World->Nat->Array Value}(jM:∀ vs (w:World),(callFunc f vs).run P w = .ok (.enter f vs) w){s:Spec}(qO:G.rts f=Zw [t]){i ei:TI}(x8:G.ty t=Zw i)(hk:i.kind = .slice e Zu)(Ug:G.ty e=Zw ei)(je:0<ei.size)
  (h0:∀ a w,Calls P f #[.slice a 0 0,.int .i64 0] w fun x w'=>x = .returned (.slice a 0 0)/\w'=w)
  (h1:∀ a (n:Nat) w,0<n->n<=1000000000000->Calls P f #[.slice a 0 0,.int .i64 n] w fun x w'=>x = .returned (.slice (Zw ⟨w.heap.size,0,Yd⟩) 0 (cap w n))/\w'=w.drew.alloc (.cells (cells w n) e))
  (l7:∀ w n,0<n->n<=1000000000000->n<=cap w n/\cap w n<=maxLen/\(cells w n).size=cap w n*ei.size)
  (hs:∀ xs bl r,s xs bl=Zw r->∃ n:Int,xs=[.cJ,.int .i64 n]/\0<=n/\n<=1000000000000/\bl=[]/\r=(.aF [],[])):jG P G f s:=by
 intro call xs bl r bs rts g1 g2 w p dd bk Bu hG eQ ha tV;rw[qO] at g2;cases g2;obtain⟨n,rfl,Rw,hn1,rfl,hr⟩:=hs _ _ _ g1;cases hr;have qP:dd.size=2:=eQ;obtain⟨v0,v1,rfl⟩:∃ a b,dd = #[a,b]:=⟨dd[0],dd[1],by apply Array.ext<;>simp[qP];intro i h1 h2;rcases i with _ | _ | i<;>first | rfl | omega⟩;have r0:=ha 0 v0 _ rfl rfl;have r1:=ha 1 v1 _ rfl rfl;have e0:∃ a,v0 = .slice a 0 0:=by
  rcases r0 with(h | ⟨_,_,_,h,_⟩) | ⟨_,_,_,h,_⟩ | ⟨_,_,_,_,_,_,h,_⟩
  ·cases h;exact⟨_,rfl⟩
  ·cases h
  ·cases h
  ·cases h
 have e1:v1 = .int .i64 n:=by
  rcases r1 with(h | ⟨_,_,_,h,_⟩) | ⟨_,_,_,h,_⟩ | ⟨_,_,_,_,_,_,h,_⟩
  ·cases h;rfl
  ·cases h
  ·cases h
  ·cases h
 obtain⟨a,rfl⟩:=e0;subst e1;left;refine⟨jM _ w,?_⟩;have yS:jR w w p bk [] [] []:=⟨rfl,fun i j cs iw h=>by simp at h⟩;obtain⟨m,rfl⟩:=Int.eq_ofNat_of_zero_le Rw;rcases Nat.eq_zero_or_pos m with hz | hz
 ·subst hz;refine(h0 a w).mono ?_;rintro x w' ⟨rfl,rfl⟩;exact⟨_,rfl,p,Kept.refl Bu,.inr (.inr (.inl ⟨i,e,ei,[],[],x8,hk,Ug,rfl,je,fun x hx=>(nomatch hx),⟨by simp,.inl ⟨rfl,_,rfl⟩⟩,aU.nil,fun β hβ=>by cases a<;>simp[bC] at hβ⟩)),⟨rfl,fun i j cs iw h=>by simp at h⟩⟩
 ·refine(h1 a m w hz (by omega)).mono ?_;rintro x w' ⟨rfl,rfl⟩;obtain⟨c1,c2,c3⟩:=l7 w m hz (by omega);refine⟨_,rfl,p,⟨rfl,rfl,rfl,by simp,fun β hβ _=> ?_,fun _ _=>rfl,fun β hβ=>Bu β (by simp at hβ;omega)⟩,.inr (.inr (.inl ⟨i,e,ei,[],[],x8,hk,Ug,rfl,je,fun x hx=>(nomatch hx),⟨by simp,.inr ⟨w.heap.size,cap w m,cells w m,rfl,by omega,Zh _,?_,by simp,c2,c3,by simp⟩⟩,aU.nil,fun β hβ=> ?_⟩)),⟨rfl,fun i j cs iw h=>by simp at h⟩⟩
  ·exact dh w.drew _ hβ
  ·exact dW w.drew _
  ·simp only[bC] at hβ;split at hβ
   ·cases hβ
   ·cases hβ;exact Bu _ (Zh _)
end
end Go.Abs
