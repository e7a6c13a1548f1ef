/- Chapter 27: the program's closure, as its loops are. -/
import Derived.Test.YteafbgcimcpfiaaGreatKerb27c
import Derived.Lib.Walk
import Derived.Lib.SliceRun
import Derived.Lib.AppendZerosOnto
import Derived.Lib.Bytealg
import Derived.Lib.BytesEntry
import Derived.Laws.Externs
set_option linter.all false
open Option renaming bind→Zz,some→Zw,none→Yf
open Decidable renaming decide→Zy
open Int renaming toNat_natCast→Zx,toNat→Zv
open Bool renaming false→Zu,true→Zb,not_false→Zh,and_eq_true→Yu,not_true→Yq
open List renaming getElem?_eq_getElem→Zq,getD→Zk,range→Zp,mem_range→Zg,eq_nil_of_length_eq_zero→Zn,getElem?_eq_some_iff→Yz,length_append→Yy,take_length→Yw,all_eq_true→Yv,mem_cons_of_mem→Yj
open Go.Abs.AV renaming bool→Zj,eA→Yd
open Go.IntKind renaming wrap→Zd
open Nat renaming le_trans→Zf,le_refl→Zm,zero_le→Yk,beq→Yp
open Kerb renaming indexOf→Yx
namespace Kerb
open Go Go.Abs
section
variable {α:Type}
noncomputable def qO(l:List AV)(f:List AV->List AV->Option α):Option α:=ay l fun x r=>AV.aR x fun b=>f b r
noncomputable def kE(o:Option (List AV))(f:Bool->Option α):Option α:=Zz o fun l=>ay l fun x r=>aw r (AV.cU x f)
abbrev iv(n:Int):AV := .int .i64 n
abbrev up(n:Int):AV := .int .i64 (Zd .i64 (n+1))
abbrev St:=Option (List AV ⊕ (Ex×List AV))
noncomputable def wh(n:Int)(y:List AV)(f:Option α):Option α:=az (Zy (0<=n)&&Zy (n<(y.length:Int))&&Zb) f
noncomputable def AY(n:Int)(y:List AV)(f:Option α):Option α:=wh n y (az (Nat.blt (Zv n) y.length&&Zb) f)
noncomputable def Ul(y:List AV)(k:Int)(l:List AV):St:=ak .i64 l fun n r=>ak .i64 r fun i r=>aw r
 (aD (Zy (i<(y.length:Int))) (AY i y (AV.ax .u64 (y.getD (Zv i) .undef) fun q=>aD (k==q) (Zw (.inr (.ret,[iv i,iv i]))) (Zw (.inl [iv n,up i]))))
  (Zw (.inr (.exit 0,[iv n,iv i]))))
noncomputable def E6(r:Ex×List AV):Option (List AV):=ak .i64 r.2 fun n r1=>ak .i64 r1 fun _ r2=>aw r2 (jq r.1 (Zw [.bool (Zy (n>=0))]) fun j=>aD (Yp j 0) (Zw [.bool Zu]) Yf)
noncomputable def Mr(y:List AV)(k:Int):Option (List AV):=Zz (bw (Ul y k) [iv 0,iv 0]) E6
noncomputable def tr(y:List AV)(k:Int):Option (List AV):=kE (Mr y k) fun b=>Zw [.bool !b]
noncomputable def WS(y kl:List AV)(l:List AV):St:=ak .i64 l fun n r=>ak .i64 r fun i r=>aw r
 (aD (Zy (i<(kl.length:Int))) (wh i kl (AV.ax .u64 (kl.getD (Zv i) .undef) fun q=>kE (tr y q) fun b=>aD b (Zw (.inr (.ret,[iv i,iv i]))) (Zw (.inl [iv n,up i]))))
  (Zw (.inr (.exit 0,[iv n,iv i]))))
noncomputable def VI(y kl:List AV):Option (List AV):=Zz (bw (WS y kl) [iv 0,iv 0]) E6
noncomputable def Uo(y:List AV)(b:List UInt8)(l:List AV):St:=aE l fun c r=>ak .i64 r fun i r=>aw r
 (aD (Zy (i<(y.length:Int))) (AY i y (Yd (y.getD (Zv i) .undef) fun q=>aD (q==b) (Zw (.inr (.ret,[.bool Zu,iv i]))) (Zw (.inl [.bool c,up i]))))
  (Zw (.inr (.exit 0,[.bool c,iv i]))))
noncomputable def vu(y:List AV)(b:List UInt8):Option (List AV):=Zz (bw (Uo y b) [.bool Zu,iv 0]) fun r=>aE r.2 fun c r1=>ak .i64 r1 fun _ r2=>aw r2 (jq r.1 (Zw [.bool c]) fun j=>aD (Yp j 0) (Zw [.bool Zb]) Yf)
noncomputable def WR(y bl:List AV)(l:List AV):St:=ak .i64 l fun n r=>ak .i64 r fun i r=>aw r
 (aD (Zy (i<(bl.length:Int))) (wh i bl (Yd (bl.getD (Zv i) .undef) fun q=>kE (vu y q) fun b=>aD b (Zw (.inr (.ret,[iv i,iv i]))) (Zw (.inl [iv n,up i]))))
  (Zw (.inr (.exit 0,[iv n,iv i]))))
noncomputable def VH(y bl:List AV):Option (List AV):=Zz (bw (WR y bl) [iv 0,iv 0]) E6
noncomputable def O1(y:List AV)(q:Int)(f:List AV->Option α):Option α:=Zz (az (dB y&&Jj (AH y q)&&Zy ((y.length:Int)<=100000000)) (Zw (AV.aF (AH y q),([]:List (List AV))))) fun r=>aN r.2 (AV.aR r.1 f)
noncomputable def P7(kl:List AV)(l:List AV):St:=ak .i64 l fun n r=>qO r fun y r=>qO r fun y1 r=>qO r fun y2 r=>aw r
 (aD (Zy (n<(kl.length:Int))) (wh n kl (AV.ax .u64 (kl.getD (Zv n) .undef) fun q=>kE (tr y q) fun b =>
   aD b (O1 y q fun l=>Zw (.inl [up n,.aF l,.aF y1,.aF y2])) (Zw (.inl [up n,.aF y,.aF y1,.aF y2]))))
  (Zw (.inr (.exit 0,[iv n,.aF y,.aF y1,.aF y2]))))
noncomputable def K'(bl:List AV)(l:List AV):St:=ak .i64 l fun n r=>qO r fun y r=>qO r fun y1 r=>qO r fun y2 r=>aw r
 (aD (Zy (n<(bl.length:Int))) (wh n bl (Yd (bl.getD (Zv n) .undef) fun q=>kE (vu y1 q) fun b =>
   aD b (az (Go.Abs.room (y1.length+[AV.bs q].length) 24) (Zw (.inl [up n,.aF y,.aF (y1++[.bs q]),.aF y2]))) (Zw (.inl [up n,.aF y,.aF y1,.aF y2]))))
  (Zw (.inr (.exit 2,[iv n,.aF y,.aF y1,.aF y2]))))
noncomputable def Bp(b:Bool)(n:Int)(kl bl y y1 y2:List AV):St :=
 Zz (bw (P7 kl) [iv 0,.aF y,.aF y1,.aF y2]) fun r=>ak .i64 r.2 fun _ r1=>qO r1 fun y r2=>qO r2 fun y7 r3=>qO r3 fun y8 r4=>aw r4
  (jq r.1 (Zw (.inl [.bool b,up n,.aF y,.aF y7,.aF y8])) fun j=>aD (Yp j 0)
   (Zz (bw (K' bl) [iv 0,.aF y,.aF y7,.aF y8]) fun r=>ak .i64 r.2 fun _ r1=>qO r1 fun y r2=>qO r2 fun y9 r3=>qO r3 fun y10 r4=>aw r4
    (jq r.1 (Zw (.inl [.bool b,up n,.aF y,.aF y9,.aF y10])) fun j=>aD (Yp j 2) (Zw (.inr (.ret,[.bool Zb,iv n,.aF y,.aF y9,.aF y10]))) Yf))
   Yf)
noncomputable def BQ(b:Bool)(n:Int)(y y1 y2:List AV)(t:List UInt8):St :=
 Zz (az (Zy (t.length<=140737488355328)) (Zw (AV.aQ [.agg [.int .i64 (a_ t).box.kind,.int .u64 (a_ t).box.key,.bs (a_ t).box.body],.int .i64 (a_ t).n,.int .i64 (a_ t).err],([]:List (List AV))))) fun r=>aN r.2 (AV.fI r.1 fun vs=>ay vs fun x r=>AV.eu x fun cs=>ak .i64 cs fun kd r1=>ak .u64 r1 fun ky r1=>bq r1 fun bd r1=>aw r1 (ak .i64 r fun _ r=>ak .i64 r fun er r=>aw r
  (aD (!(er==0)) (Zw (.inl [.bool b,up n,.aF y,.aF y1,.aF y2])) (kE (tr y ky) fun b6=>aD b6 (Zw (.inl [.bool b,up n,.aF y,.aF y1,.aF y2]))
   (Zz (az (Zy (bd.length<=70368744170000)) (Zw (AV.aQ [.sl 1 (cV (k9 ⟨kd,ky,bd⟩).keys),.sl 1 (cF (k9 ⟨kd,ky,bd⟩).boxes)],([]:List (List AV))))) fun r=>aN r.2 (AV.fI r.1 fun vs=>bW 1 vs fun kl r=>bW 1 r fun bl r=>aw r
    (kE (VI y kl) fun b9=>aD (!b9) (kE (VH y1 bl) fun b10=>aD (!b10) (Zw (.inl [.bool b,up n,.aF y,.aF y1,.aF (nr (iv n) (.bool Zb) y2)])) (Bp b n kl bl y y1 (nr (iv n) (.bool Zb) y2))) (Bp b n kl bl y y1 (nr (iv n) (.bool Zb) y2)))))))))
noncomputable def IY(y3:List AV)(l:List AV):St:=aE l fun b r=>ak .i64 r fun n r=>qO r fun y r=>qO r fun y5 r=>qO r fun y6 r=>aw r
 (aD (Zy (n<(y3.length:Int))) (AV.cU (getM (iv n) y6 (.bool Zu)) fun b3=>aD (!b3) (AY n y5 (Yd (y5.getD (Zv n) .undef) fun t=>BQ b n y y5 y6 t)) (Zw (.inl [.bool b,up n,.aF y,.aF y5,.aF y6])))
  (Zw (.inr (.exit 0,[.bool b,iv n,.aF y,.aF y5,.aF y6]))))
noncomputable def Q3(l:List AV):St:=qO l fun y r=>qO r fun y3 r=>qO r fun y4 r=>aw r
 (Zz (bw (IY y3) [.bool Zu,iv 0,.aF y,.aF y3,.aF y4]) fun r=>aE r.2 fun b r1=>ak .i64 r1 fun _ r1=>qO r1 fun y r1=>qO r1 fun y5 r1=>qO r1 fun y6 r1=>aw r1
  (jq r.1 (aD b (Zw (.inl [.aF y,.aF y5,.aF y6])) (Zw (.inr (.exit 0,[.aF y,.aF y5,.aF y6])))) fun j=>aD (Yp j 0) (Zw (.inr (.exit 0,[.aF y,.aF y5,.aF y6]))) Yf))
noncomputable def Jx(y y1 y2:List AV):Option (AV×aC):=Zz (bw Q3 [.aF y,.aF y1,.aF y2]) fun r=>qO r.2 fun y r1=>qO r1 fun y3 r1=>qO r1 fun _ r1=>aw r1
 (jq r.1 (Zw (.agg [.sl 1 y,.sl 1 y3],[])) fun j=>aD (Yp j 0) (Zw (.agg [.sl 1 y,.sl 1 y3],[])) Yf)
noncomputable def Qu(l:List AV):St:=bW 1 l fun b r=>bW 1 r fun b1 r=>qO r fun y r=>qO r fun y1 r=>qO r fun y2 r=>bW 1 r fun b2 r=>ak .i64 r fun n r=>ak .i64 r fun i r=>aw r
 (aD (Zy (i<n)) (wh i b2 (Yd (b2.getD (Zv i) .undef) fun q=>kE (vu y1 q) fun c =>
   aD c (az (Go.Abs.room (y1.length+[AV.bs q].length) 24) (Zw (.inl [.sl 1 b,.sl 1 b1,.aF y,.aF (y1++[.bs q]),.aF y2,.sl 1 b2,iv n,up i]))) (Zw (.inl [.sl 1 b,.sl 1 b1,.aF y,.aF y1,.aF y2,.sl 1 b2,iv n,up i]))))
  (Zw (.inr (.exit 0,[.sl 1 b,.sl 1 b1,.aF y,.aF y1,.aF y2,.sl 1 b2,iv n,iv i]))))
noncomputable def O8(ks bs:List AV)(f:List AV->List AV->Option α):Option α:=Zz (az (dB ks&&Zy (ks.length<=1000000)) (Zw (AV.aF ks,([]:List (List AV))))) fun r=>aN r.2 (AV.aR r.1 fun l=>Zz (az (oY bs&&Zy (bs.length<=1000000)) (Zw (AV.aF bs,([]:List (List AV))))) fun r=>aN r.2 (AV.aR r.1 fun l1=>f l l1))
noncomputable def Hs(ks bs:List AV)(b:List UInt8):Option (AV×aC):=O8 ks bs fun l l1 =>
 Zz (az (Zy (b.length<=70368744170000)) (Zw (AV.sl 1 (cF (partsOf b)),([]:List (List AV))))) fun r=>aN r.2 (AV.g7 1 r.1 fun p =>
  Zz (bw Qu [.sl 1 [],.sl 1 [],.aF l,.aF l1,.aF [],.sl 1 p,iv p.length,iv 0]) fun r=>bW 1 r.2 fun b r1=>bW 1 r1 fun b1 r1=>qO r1 fun y r1=>qO r1 fun y1 r1=>qO r1 fun y2 r1=>bW 1 r1 fun _ r1=>ak .i64 r1 fun _ r1=>ak .i64 r1 fun _ r1=>aw r1
   (jq r.1 (Zw (.agg [.sl 1 b,.sl 1 b1],[])) fun j=>aD (Yp j 0) (Jx y y1 y2) Yf))
noncomputable def Mt(ks bs:List AV)(k:Int):Option (AV×aC):=O8 ks bs fun l l1 =>
 Zz (az (Zy (0<=k)&&Zy (k<18446744073709551616)) (Zw (Zj (bp k),([]:List (List AV))))) fun r=>aN r.2 (AV.cU r.1 fun v =>
  Zz (aD v (kE (tr l k) fun b=>aD b (O1 l k fun l=>Zw [.sl 1 [],.sl 1 [],.aF l,.aF l1,.aF []]) (Zw [.sl 1 [],.sl 1 [],.aF l,.aF l1,.aF []])) (Zw [.sl 1 [],.sl 1 [],.aF l,.aF l1,.aF []]))
   fun l=>bW 1 l fun _ r=>bW 1 r fun _ r=>qO r fun y r=>qO r fun y1 r=>qO r fun y2 r=>aw r (Jx y y1 y2))
end
theorem lF{β:Type}{step:List AV->St}{k:Ex×List AV->Option β}{A:β}(e:Nat->List AV)(N:Nat)(hs:∀ i,i<N->step (e i)=Zw (.inl (e (i+1))))(he:∃ r,step (e N)=Zw (.inr r)/\k r=Zw A){t:List AV}(ht:t=e 0):Zz (bw step t) k=Zw A:=by
 refine bZ (enc:=e) (I:=fun i=>i<=N) (μ:=fun i=>N-i) (R:=fun r=>k r=Zw A) 0 (Yk _) ht ?_ fun r h=>h;intro i hi;by_cases h:i<N
 ·exact⟨_,hs i h,i+1,rfl,h,show N-(i+1)<N-i by omega⟩
 ·obtain rfl:i=N:=by omega
  obtain⟨r,h1,h2⟩:=he;exact⟨_,h1,h2⟩
theorem mB{β:Type}{step:List AV->St}{k:Ex×List AV->Option β}{A B:β}(e:Nat->List AV)(N:Nat)(p:Nat->Bool)(hs:∀ i,i<N->p i=Zu->step (e i)=Zw (.inl (e (i+1))))(hr:∀ i,i<N->p i=Zb->∃ r,step (e i)=Zw (.inr r)/\k r=Zw A)
  (he:∃ r,step (e N)=Zw (.inr r)/\k r=Zw B) {t:List AV} (ht:t=e 0):Zz (bw step t) k=Zw (bif (Zp N).any p then A else B):=by
 refine bZ (enc:=e) (I:=fun i=>i<=N/\∀ j,j<i->p j=Zu) (μ:=fun i=>N-i) (R:=fun r=>k r=Zw (bif (Zp N).any p then A else B)) 0 ⟨Yk _,fun j h=>by omega⟩ ht ?_ fun r h=>h;rintro i ⟨hi,hj⟩;by_cases h:i<N
 ·cases hp:p i with
  | false=>exact⟨_,hs i h hp,i+1,rfl,⟨h,fun j GM=>by by_cases Qg:j=i;(· subst Qg;exact hp);exact hj j (by omega)⟩,show N-(i+1)<N-i by omega⟩
  | true =>
   obtain⟨r,h1,h2⟩:=hr i h hp;have:(Zp N).any p=Zb:=List.any_eq_true.2 ⟨i,Zg.2 h,hp⟩;exact⟨_,h1,by show k r=_;rw[h2,this];rfl⟩
 ·obtain rfl:i=N:=by omega
  obtain⟨r,h1,h2⟩:=he;have:(Zp i).any p=Zu:=by
   rw[List.any_eq_false];intro x hx;rw[hj x (Zg.1 hx)];exact Bool.false_ne_true
  exact⟨_,h1,by show k r=_;rw[h2,this];rfl⟩
theorem kh{α:Type}(l:List α)(d:α)(f:α->Bool):(Zp l.length).any (fun i=>f (l.getD i d))=l.any f:=by
 rw[Bool.eq_iff_iff,List.any_eq_true,List.any_eq_true];constructor
 ·rintro⟨i,hi,h⟩;have hi:=Zg.1 hi;exact⟨l[i],List.getElem_mem hi,by simpa [Zk,hi] using h⟩
 ·rintro⟨x,hx,h⟩;obtain⟨i,hi,rfl⟩:=List.mem_iff_getElem.1 hx;exact⟨i,Zg.2 hi,by simpa [Zk,hi] using h⟩
theorem qn(l:List Int)(k:Int):l.any (fun x=>k==x)=l.contains k:=by grind
theorem oZ(l:List Bytes)(k:Bytes):l.any (fun x=>x==k)=l.contains k:=by grind
theorem ur{i:Nat}(h:i<=1000000000):up (i:Int)=iv ((i+1:Nat):Int):=by
 unfold up iv;rw[wrap_i64 (by omega) (by omega)];rfl
theorem jE{α:Type}{i:Nat}{y:List AV}(h:i<y.length)(f:Option α):wh (i:Int) y f=f:=by
 unfold wh;exact ae (by simp;omega) f
theorem vl{α:Type}{i:Nat}{y:List AV}(h:i<y.length)(f:Option α):AY (i:Int) y f=f:=by
 unfold AY;rw[jE h];exact ae (by simp[Nat.blt_eq];omega) f
theorem pw{i:Nat}{y:List AV}(h:i<y.length):Zy ((i:Int)<(y.length:Int))=Zb:=by simp;omega
theorem HA{y:List AV}:Zy ((y.length:Int)<(y.length:Int))=Zu:=by simp
theorem Ms{K:List Int}(k:Int)(h:K.length<=100000000):Mr (cV K) k=Zw [.bool (K.contains k)]:=by
 have e:Mr (cV K) k=Zw (bif (Zp (cV K).length).any (fun i=>k==K.getD i 0) then[Zj Zb] else[Zj Zu]):=by
  refine mB (fun i=>[iv 0,iv i]) _ _ ?_ ?_ ?_ rfl
  ·intro i hi hp;have iU:i<K.length:=by rw[<-ef];exact hi
   show aD (Zy ((i:Int)<((cV K).length:Int))) (AY i (cV K) (AV.ax .u64 ((cV K).getD (Zv i) .undef) _)) _=_;rw[ag (pw hi),vl hi,Zx,jZ iU];show aD (k==K.getD i 0) _ _=_;rw[aj hp,ur (by omega)]
  ·intro i hi hp;have iU:i<K.length:=by rw[<-ef];exact hi
   refine⟨(.ret,[iv i,iv i]),?_,?_⟩
   ·show aD (Zy ((i:Int)<((cV K).length:Int))) (AY i (cV K) (AV.ax .u64 ((cV K).getD (Zv i) .undef) _)) _=_;rw[ag (pw hi),vl hi,Zx,jZ iU];show aD (k==K.getD i 0) _ _=_;rw[ag hp]
   ·show Zw [Zj (Zy ((i:Int)>=0))]=_;rw[show Zy ((i:Int)>=0)=Zb by simp]
  ·refine⟨(.exit 0,[iv 0,iv (cV K).length]),?_,rfl⟩;show aD (Zy (((cV K).length:Int)<((cV K).length:Int))) _ _=_;rw[aj HA]
 rw[e,ef,kh K 0 (fun x=>k==x),qn];cases K.contains k<;>rfl
theorem rJ{K:List Int}(k:Int)(h:K.length<=100000000):tr (cV K) k=Zw [.bool (!K.contains k)]:=by
 unfold tr;rw[Ms k h];rfl
theorem QV{K:List Int}(L:List Int)(h:K.length<=100000000)(hl:L.length<=100000000):VI (cV K) (cV L)=Zw [.bool (L.any fun k => !K.contains k)]:=by
 have e:VI (cV K) (cV L)=Zw (bif (Zp (cV L).length).any (fun i => !K.contains (L.getD i 0)) then[Zj Zb] else[Zj Zu]):=by
  refine mB (fun i=>[iv 0,iv i]) _ _ ?_ ?_ ?_ rfl
  ·intro i hi hp;have iU:i<L.length:=by rw[<-ef];exact hi
   show aD (Zy ((i:Int)<((cV L).length:Int))) (wh i (cV L) (AV.ax .u64 ((cV L).getD (Zv i) .undef) _)) _=_;rw[ag (pw hi),jE hi,Zx,jZ iU];show kE (tr (cV K) (L.getD i 0)) _=_;rw[rJ _ h];show aD (!K.contains (L.getD i 0)) _ _=_;rw[aj hp,ur (by omega)]
  ·intro i hi hp;have iU:i<L.length:=by rw[<-ef];exact hi
   refine⟨(.ret,[iv i,iv i]),?_,?_⟩
   ·show aD (Zy ((i:Int)<((cV L).length:Int))) (wh i (cV L) (AV.ax .u64 ((cV L).getD (Zv i) .undef) _)) _=_;rw[ag (pw hi),jE hi,Zx,jZ iU];show kE (tr (cV K) (L.getD i 0)) _=_;rw[rJ _ h];show aD (!K.contains (L.getD i 0)) _ _=_;rw[ag hp]
   ·show Zw [Zj (Zy ((i:Int)>=0))]=_;rw[show Zy ((i:Int)>=0)=Zb by simp]
  ·refine⟨(.exit 0,[iv 0,iv (cV L).length]),?_,rfl⟩;show aD (Zy (((cV L).length:Int)<((cV L).length:Int))) _ _=_;rw[aj HA]
 rw[e,ef,kh L 0 (fun x => !K.contains x)];cases L.any fun k => !K.contains k<;>rfl
theorem vv{B:List Bytes}(b:Bytes)(h:B.length<=100000000):vu (cF B) b=Zw [.bool (!B.contains b)]:=by
 have e:vu (cF B) b=Zw (bif (Zp (cF B).length).any (fun i=>B.getD i []==b) then[Zj Zu] else[Zj Zb]):=by
  refine mB (fun i=>[.bool Zu,iv i]) _ _ ?_ ?_ ?_ rfl
  ·intro i hi hp;have iU:i<B.length:=by rw[<-c4];exact hi
   show aD (Zy ((i:Int)<((cF B).length:Int))) (AY i (cF B) (Yd ((cF B).getD (Zv i) .undef) _)) _=_;rw[ag (pw hi),vl hi,Zx,jY iU];show aD (B.getD i []==b) _ _=_;rw[aj hp,ur (by omega)]
  ·intro i hi hp;have iU:i<B.length:=by rw[<-c4];exact hi
   refine⟨(.ret,[.bool Zu,iv i]),?_,rfl⟩;show aD (Zy ((i:Int)<((cF B).length:Int))) (AY i (cF B) (Yd ((cF B).getD (Zv i) .undef) _)) _=_;rw[ag (pw hi),vl hi,Zx,jY iU];show aD (B.getD i []==b) _ _=_;rw[ag hp]
  ·refine⟨(.exit 0,[.bool Zu,iv (cF B).length]),?_,rfl⟩;show aD (Zy (((cF B).length:Int)<((cF B).length:Int))) _ _=_;rw[aj HA]
 rw[e,c4,kh B [] (fun x=>x==b),oZ];cases B.contains b<;>rfl
theorem QU{B:List Bytes}(L:List Bytes)(h:B.length<=100000000)(hl:L.length<=100000000):VH (cF B) (cF L)=Zw [.bool (L.any fun k => !B.contains k)]:=by
 have e:VH (cF B) (cF L)=Zw (bif (Zp (cF L).length).any (fun i => !B.contains (L.getD i [])) then[Zj Zb] else[Zj Zu]):=by
  refine mB (fun i=>[iv 0,iv i]) _ _ ?_ ?_ ?_ rfl
  ·intro i hi hp;have iU:i<L.length:=by rw[<-c4];exact hi
   show aD (Zy ((i:Int)<((cF L).length:Int))) (wh i (cF L) (Yd ((cF L).getD (Zv i) .undef) _)) _=_;rw[ag (pw hi),jE hi,Zx,jY iU];show kE (vu (cF B) (L.getD i [])) _=_;rw[vv _ h];show aD (!B.contains (L.getD i [])) _ _=_;rw[aj hp,ur (by omega)]
  ·intro i hi hp;have iU:i<L.length:=by rw[<-c4];exact hi
   refine⟨(.ret,[iv i,iv i]),?_,?_⟩
   ·show aD (Zy ((i:Int)<((cF L).length:Int))) (wh i (cF L) (Yd ((cF L).getD (Zv i) .undef) _)) _=_;rw[ag (pw hi),jE hi,Zx,jY iU];show kE (vu (cF B) (L.getD i [])) _=_;rw[vv _ h];show aD (!B.contains (L.getD i [])) _ _=_;rw[ag hp]
   ·show Zw [Zj (Zy ((i:Int)>=0))]=_;rw[show Zy ((i:Int)>=0)=Zb by simp]
  ·refine⟨(.exit 0,[iv 0,iv (cF L).length]),?_,rfl⟩;show aD (Zy (((cF L).length:Int)<((cF L).length:Int))) _ _=_;rw[aj HA]
 rw[e,c4,kh L [] (fun x => !B.contains x)];cases L.any fun k => !B.contains k<;>rfl
theorem sS{α:Type}{l:List α}(d:α){i:Nat}(h:i<l.length):l.take (i+1)=l.take i++[l.getD i d]:=by
 rw[List.take_succ_eq_append_getElem h];simp[Zk,h]
theorem GU(K L:List Int){i:Nat}(h:i<L.length):gT K (L.take (i+1))=bif (gT K (L.take i)).contains (L.getD i 0) then gT K (L.take i) else mJ (gT K (L.take i)) (L.getD i 0):=by
 rw[sS 0 h];unfold gT;rw[List.foldl_append];rfl
theorem ym(K L:List Bytes){i:Nat}(h:i<L.length):eF K (L.take (i+1))=bif (eF K (L.take i)).contains (L.getD i []) then eF K (L.take i) else eF K (L.take i)++[L.getD i []]:=by
 rw[sS [] h];unfold eF;rw[List.foldl_append];rfl
theorem D3(l B:List Bytes):(eF B l).length<=B.length+l.length:=by
 obtain⟨N,h1,h2,_⟩:=h_ (l:=l) (B:=B);rw[h1,Yy];omega
theorem Ik{α:Type}{K:List Int}{q:Int}(h:sW K=Zb)(hq:K.contains q=Zu)(hl:K.length<=100000000)(f:List AV->Option α):O1 (cV K) q f=f (cV (mJ K q)):=by
 have SL:q ∉ K:=by simpa using hq
 unfold O1;rw[Lb h SL,Li (uH h),qm,ef];rw[show(Zb&&Zb&&Zy ((K.length:Int)<=100000000))=Zb by simp;omega];rfl
theorem La{β:Type}{K L:List Int}(ha:sW K=Zb)(h:K.length+L.length<=100000000)(y1 y2:List AV){k:Ex×List AV->Option β}{A:β}(hk:k (.exit 0,[iv L.length,.aF (cV (gT K L)),.aF y1,.aF y2])=Zw A):Zz (bw (P7 (cV L)) [iv 0,.aF (cV K),.aF y1,.aF y2]) k=Zw A:=by
 refine lF (fun i=>[iv i,.aF (cV (gT K (L.take i))),.aF y1,.aF y2]) L.length (fun i hi=> ?_) ⟨(.exit 0,[iv L.length,.aF (cV (gT K L)),.aF y1,.aF y2]),?_,hk⟩ rfl
 ·have mX:i<(cV L).length:=by rw[ef];exact hi
  have hm:(gT K (L.take i)).length<=100000000:=Zf uF (by rw[List.length_take];omega);show aD (Zy ((i:Int)<((cV L).length:Int))) (wh i (cV L) (AV.ax .u64 ((cV L).getD (Zv i) .undef) _)) _=_;rw[ag (pw mX),jE mX,Zx,jZ hi];show kE (tr (cV (gT K (L.take i))) (L.getD i 0)) _=_;rw[rJ _ hm];show aD (!(gT K (L.take i)).contains (L.getD i 0)) _ _=_;rw[GU K L hi];cases hc:(gT K (L.take i)).contains (L.getD i 0) with
  | true =>
   rw[Yq,aA,ur (by omega)];rfl
  | false =>
   rw[Zh,cc,Ik (lX ha) hc hm,ur (by omega)];rfl
 ·show aD (Zy ((L.length:Int)<((cV L).length:Int))) _ _=_;rw[aj (by rw[ef];simp),Yw]
theorem HQ{n:Nat}(h:n<=100000000):Go.Abs.room (n+1) 24=Zb:=by
 unfold Go.Abs.room;simp only[Yu,Nat.ble_eq];omega
theorem Ap(B:List Bytes)(q:Bytes):cF B++[.bs q]=cF (B++[q]):=by simp[cF]
theorem K_{β:Type}{K L:List Bytes}(h:K.length+L.length<=100000000)(y y2:List AV){k:Ex×List AV->Option β}{A:β}(hk:k (.exit 2,[iv L.length,.aF y,.aF (cF (eF K L)),.aF y2])=Zw A):Zz (bw (K' (cF L)) [iv 0,.aF y,.aF (cF K),.aF y2]) k=Zw A:=by
 refine lF (fun i=>[iv i,.aF y,.aF (cF (eF K (L.take i))),.aF y2]) L.length (fun i hi=> ?_) ⟨(.exit 2,[iv L.length,.aF y,.aF (cF (eF K L)),.aF y2]),?_,hk⟩ rfl
 ·have mX:i<(cF L).length:=by rw[c4];exact hi
  have hm:(eF K (L.take i)).length<=100000000:=Zf (D3 _ _) (by rw[List.length_take];omega);show aD (Zy ((i:Int)<((cF L).length:Int))) (wh i (cF L) (Yd ((cF L).getD (Zv i) .undef) _)) _=_;rw[ag (pw mX),jE mX,Zx,jY hi];show kE (vu (cF (eF K (L.take i))) (L.getD i [])) _=_;rw[vv _ hm];show aD (!(eF K (L.take i)).contains (L.getD i [])) (az (Go.Abs.room ((cF (eF K (L.take i))).length+1) 24) (Zw (Sum.inl [up i,.aF y,.aF (cF (eF K (L.take i))++[.bs (L.getD i [])]),.aF y2]))) _=_;rw[ym K L hi,c4,HQ hm,Ap];cases hc:(eF K (L.take i)).contains (L.getD i []) with
  | true =>
   rw[Yq,aA,ur (by omega)];rfl
  | false =>
   rw[Zh,cc,ur (by omega)];rfl
 ·show aD (Zy ((L.length:Int)<((cF L).length:Int))) _ _=_;rw[aj (by rw[c4];simp),Yw]
def pV(s:Kn)(M:List AV):List AV:=[.aF (cV s.keys),.aF (cF s.boxes),.aF M]
theorem LK{s:Kn}{x:DX}(hs:eL s)(hk:x.keys.length<=1)(hb:x.boxes.length<=1)(b:Bool)(n:Int)(M:List AV):Bp b n (cV x.keys) (cF x.boxes) (cV s.keys) (cF s.boxes) M=Zw (.inr (.ret,.bool Zb::iv n::pV (s.add x) M)):=by
 have h1:=hs.E7;have h2:=hs.wv;unfold Bp;refine La hs.sW (by omega) _ _ ?_;show Zz (bw (K' (cF x.boxes)) _) _=_;refine K_ (by omega) _ _ ?_;rfl
theorem Q'{s:Kn}{x:DX}:s.has x=(!(x.keys.any fun k => !s.keys.contains k) && !(x.boxes.any fun b => !s.boxes.contains b)):=by
 unfold Kn.has;rw[List.all_eq_not_any_not,List.all_eq_not_any_not]
theorem MU{s:Kn}(hs:eL s){t:Bytes}(ht:t.length<=70368744170000)(b:Bool)(n:Int)(M:List AV) :
  BQ b n (cV s.keys) (cF s.boxes) M t=Zw (if s.opens t=Zb then .inr (.ret,.bool Zb::iv n::pV (s.add (ci t)) (nr (iv n) (.bool Zb) M))
   else .inl (.bool b::up n::pV s (if (a_ t).err=0/\s.keys.contains (a_ t).box.key=Zb then nr (iv n) (.bool Zb) M else M))):=by
 have h1:=hs.E7;have h2:=hs.wv;unfold BQ;rw[ae (by simp;omega)];show aD (!((a_ t).err==0)) _ _=_;by_cases he:(a_ t).err=0;case neg =>
  rw[ag (by simpa using he),Qa0 (by rw[sJ];exact fun h=>he h.1),Qa0 (fun h=>he h.1)];rfl
 rw[aj (by simpa using he)];have ho:s.opens t=(s.keys.contains (a_ t).box.key && !s.has (ci t)):=by unfold Kn.opens;rw[he];rfl
 rw[ho,rJ _ (by omega)];show aD (!s.keys.contains (a_ t).box.key) _ _=_;cases hk:s.keys.contains (a_ t).box.key with
 | false =>
  rw[Zh,cc,Bool.false_and,Qa0 Bool.false_ne_true,Qa0 (fun h=>Bool.false_ne_true h.2)];rfl
 | true =>
  have jM:(a_ t).box.body.length<=70368744170000:=by
   rcases ns t with h | h
   ·omega
   ·rw[h];exact Yk _
  have hi:=yZ t;rw[Yq,aA,ae (by simp;omega),Bool.true_and,Qa1 (show(a_ t).err=0/\Zb=Zb from⟨he,rfl⟩)];show kE (VI (cV s.keys) (cV (ci t).keys)) _=_;have g:=LK hs hi.keys hi.boxes b n (nr (iv n) (.bool Zb) M);rw[QV _ (by omega) (by have:=hi.keys;omega)];show aD (!(ci t).keys.any fun k => !s.keys.contains k) (kE (VH (cF s.boxes) (cF (ci t).boxes)) _) (Bp b n (cV (ci t).keys) (cF (ci t).boxes) (cV s.keys) (cF s.boxes) (nr (iv n) (.bool Zb) M))=_;rw[QU _ (by omega) (by have:=hi.boxes;omega),g,Q'];show aD (!(ci t).keys.any fun k => !s.keys.contains k) (aD (!(ci t).boxes.any fun k => !s.boxes.contains k) _ (Bp b n (cV (ci t).keys) (cF (ci t).boxes) (cV s.keys) (cF s.boxes) (nr (iv n) (.bool Zb) M))) _=_;rw[g];cases (ci t).keys.any fun k => !s.keys.contains k<;>cases (ci t).boxes.any fun k => !s.boxes.contains k<;>rfl
def yl(M:List AV)(s:Kn):Prop:=∀ i,i<s.boxes.length->getM (iv i) M (.bool Zu) = .bool Zu\/(getM (iv i) M (.bool Zu) = .bool Zb/\s.done (s.boxes.getD i [])=Zb)
theorem ze(n m:Int):lh (iv n) (iv m)=(n==m):=by simp[lh,iv]
theorem yL(n m:Int)(d v:AV):∀ {M:List AV},getM (iv m) (nr (iv n) v M) d=if n=m then v else getM (iv m) M d
 | []=>by
  show(bif lh (iv n) (iv m) then Zw v else Yf).getD d=_;rw[ze];by_cases h:n=m
  ·rw[Qa1 h,show(n==m)=Zb by simpa using h];rfl
  ·rw[Qa0 h,show(n==m)=Zu by simpa using h];rfl
 | e::r=>by
  have ih:=yL n m d v (M:=r);unfold getM at ih ⊢;show(nP (iv m) (bif lh (fm e) (iv n) then AV.aQ [iv n,v]::r else e::nr (iv n) v r)).getD d=_;cases he:lh (fm e) (iv n) with
  | true =>
   have hk:fm e=iv n:=by
    cases SH:fm e<;>rw[SH] at he<;>simp only[lh,iv] at he<;>try cases he
    simp only[Yu,Qb0] at he;rw[he.1,he.2]
   show(bif lh (iv n) (iv m) then Zw v else nP (iv m) r).getD d=if n=m then v else(bif lh (fm e) (iv m) then Zw (ru e) else nP (iv m) r).getD d
   rw[hk,ze];by_cases h:n=m
   ·rw[Qa1 h,show(n==m)=Zb by simpa using h];rfl
   ·rw[Qa0 h,show(n==m)=Zu by simpa using h];rfl
  | false =>
   show(bif lh (fm e) (iv m) then Zw (ru e) else nP (iv m) (nr (iv n) v r)).getD d=if n=m then v else(bif lh (fm e) (iv m) then Zw (ru e) else nP (iv m) r).getD d
   cases hm:lh (fm e) (iv m) with
   | false=>exact ih
   | true =>
    have hk:fm e=iv m:=by
     cases SH:fm e<;>rw[SH] at hm<;>simp only[lh,iv] at hm<;>try cases hm
     simp only[Yu,Qb0] at hm;rw[hm.1,hm.2]
    rw[hk,ze] at he;rw[Qa0 (by intro h;subst h;simp at he)];rfl
theorem yl.put{M:List AV}{s:Kn}(h:yl M s){j:Nat}(hd:s.done (s.boxes.getD j [])=Zb):yl (nr (iv j) (.bool Zb) M) s:=by
 intro i hi;rw[yL];by_cases e:(j:Int)=i
 ·obtain rfl:j=i:=by omega
  rw[Qa1 e];exact .inr ⟨rfl,hd⟩
 ·rw[Qa0 e];exact h i hi
theorem yl.grow{M:List AV}{s:Kn}(h:yl M s)(x:DX)(hx:∀ i,s.boxes.length<=i->getM (iv i) M (.bool Zu) = .bool Zu):yl M (s.add x):=by
 intro i hi;by_cases e:i<s.boxes.length
 ·rcases h i e with h | ⟨h1,h2⟩
  ·exact .inl h
  ·refine .inr ⟨h1,?_⟩;obtain⟨N,e1,_⟩:=h_ (l:=x.boxes) (B:=s.boxes);have e2:(s.add x).boxes.getD i []=s.boxes.getD i []:=by
    show(eF s.boxes x.boxes).getD i []=_;rw[e1,Zk,Zk,List.getElem?_append_left e]
   rw[e2];exact(DK s x).done h2
 ·exact .inl (hx i (by omega))
def Cl(M:List AV)(N:Nat):Prop:=∀ i:Nat,N<=i->getM (iv i) M (.bool Zu) = .bool Zu
theorem Cl.put{M:List AV}{N j:Nat}(h:Cl M N)(hj:j<N):Cl (nr (iv j) (.bool Zb) M) N:=by
 intro i hi;rw[yL,Qa0 (by omega)];exact h i hi
structure oc (M:List AV) (s:Kn):Prop where
 ok:yl M s
 low:Cl M s.boxes.length
theorem Pb{s:Kn}{t:Bytes}(he:(a_ t).err=0)(hk:s.keys.contains (a_ t).box.key=Zb)(ho:s.opens t=Zu):s.done t=Zb:=by simp_all [Bool.true_and,Kn.done,Kn.opens]
theorem G6{s:Kn}{t:Bytes}(h:s.done t=Zb):s.opens t=Zu:=by
 unfold Kn.done at h;unfold Kn.opens;cases h0:(a_ t).err==0
 ·rfl
 ·rw[h0] at h;have h':s.has (ci t)=Zb:=h;rw[h'];simp
def Next(s:Kn)(r:Ex×List AV):Prop:=(s.next=Yf/\∃ M,oc M s/\r=(.exit 0,.bool Zu::iv s.boxes.length::pV s M))\/∃ b M n,s.next=Zw b/\oc M (s.add (ci b))/\r=(.ret,.bool Zb::iv n::pV (s.add (ci b)) M)
theorem MO{β:Type}{s:Kn}(hs:eL s){M:List AV}(hM:oc M s){k:Ex×List AV->Option β}{Q:β->Prop}(hk:∀ r,Next s r->∃ x,k r=Zw x/\Q x):∃ x,Zz (bw (IY (cF s.boxes)) (.bool Zu::iv 0::pV s M)) k=Zw x/\Q x:=by
 have h2:=hs.wv;refine C_ (enc:=fun(q:Nat×List AV) => .bool Zu::iv (q.1:Int)::pV s q.2) (I:=fun q=>q.1<=s.boxes.length/\oc q.2 s/\∀ j,j<q.1->s.opens (s.boxes.getD j [])=Zu) (μ:=fun q=>s.boxes.length-q.1) (R:=Next s) (0,M) ⟨Yk _,hM,fun j h=>by omega⟩ rfl ?_ hk;rintro⟨i,M⟩ ⟨hi,hM,hj⟩;dsimp only at hi hM hj;by_cases h:i<s.boxes.length;case neg =>
  obtain rfl:i=s.boxes.length:=by omega
  refine⟨.inr (.exit 0,.bool Zu::iv s.boxes.length::pV s M),?_,.inl ⟨?_,M,hM,rfl⟩⟩
  ·show aD (Zy ((s.boxes.length:Int)<((cF s.boxes).length:Int))) _ _=_;rw[aj (by rw[c4];simp)];rfl
  ·unfold Kn.next;rw[List.find?_eq_none];intro x hx;obtain⟨j,OR,rfl⟩:=List.mem_iff_getElem.1 hx;have:=hj j OR;simpa [Zk,OR] using this
 have mX:i<(cF s.boxes).length:=by rw[c4];exact h
 have pj:s.boxes.getD i []∈s.boxes:=by simp[Zk,h]
 have e0:IY (cF s.boxes) (.bool Zu::iv (i:Int)::pV s M)=AV.cU (getM (iv i) M (.bool Zu)) fun b3=>aD (!b3) (BQ Zu i (cV s.keys) (cF s.boxes) M (s.boxes.getD i [])) (Zw (.inl (.bool Zu::up i::pV s M))):=by
  show aD (Zy ((i:Int)<((cF s.boxes).length:Int))) (AV.cU (getM (iv i) M (.bool Zu)) fun b3=>aD (!b3) (AY i (cF s.boxes) (Yd ((cF s.boxes).getD (Zv i) .undef) fun t=>BQ Zu i (cV s.keys) (cF s.boxes) M t)) _) _=_;rw[ag (pw mX),vl mX,Zx,jY h];rfl
 have step:∀ M',oc M' s->s.opens (s.boxes.getD i [])=Zu->Bf (fun(q:Nat×List AV)=>Zj Zu::iv (q.1:Int)::pV s q.2) (fun q=>q.1<=s.boxes.length/\oc q.2 s/\∀ j,j<q.1->s.opens (s.boxes.getD j [])=Zu) (fun q=>s.boxes.length-q.1) (Next s) (i,M) (.inl (.bool Zu::up i::pV s M')):=fun M' VM ho =>
  ⟨(i+1,M'),by dsimp only;rw[ur (by omega)],⟨h,VM,fun j GM=>by
   by_cases e:j=i
   ·rw[e];exact ho
   ·exact hj j (by dsimp only at GM;omega)⟩,show s.boxes.length-(i+1)<s.boxes.length-i by omega⟩
 dsimp only;rw[e0];rcases hM.ok i h with hg | ⟨hg,hd⟩
 ·rw[hg];show ∃ y,BQ Zu i (cV s.keys) (cF s.boxes) M (s.boxes.getD i [])=Zw y/\_;rw[MU hs (hs.len _ pj)];by_cases ho:s.opens (s.boxes.getD i [])=Zb
  ·rw[Qa1 ho];have hd:(s.add (ci (s.boxes.getD i []))).done (s.boxes.getD i [])=Zb:=by unfold Kn.done;rw[Il];simp
   refine⟨_,rfl,.inr ⟨s.boxes.getD i [],nr (iv i) (.bool Zb) M,i,?_,?_,rfl⟩⟩
   ·unfold Kn.next;rw[List.find?_eq_some_iff_getElem];refine⟨ho,i,h,by simp[Zk,h],fun j OR=> ?_⟩;have:=hj j OR;simpa [Zk,Nat.lt_trans OR h] using this
   ·have hl:s.boxes.length<=(s.add (ci (s.boxes.getD i []))).boxes.length:=by
     obtain⟨N,e1,_⟩:=h_ (l:=(ci (s.boxes.getD i [])).boxes) (B:=s.boxes);show _<=(eF s.boxes _).length;rw[e1,Yy];omega
    have e2:(s.add (ci (s.boxes.getD i []))).boxes.getD i []=s.boxes.getD i []:=by
     obtain⟨N,e1,_⟩:=h_ (l:=(ci (s.boxes.getD i [])).boxes) (B:=s.boxes);show(eF s.boxes _).getD i []=_;rw[e1,Zk,Zk,List.getElem?_append_left h]
    exact⟨(hM.ok.grow _ hM.low).put (by rw[e2];exact hd),fun j OR=>(hM.low.put h) j (Zf hl OR)⟩
  ·have Hi:s.opens (s.boxes.getD i [])=Zu:=by simpa using ho
   rw[Qa0 ho];by_cases hq:(a_ (s.boxes.getD i [])).err=0/\s.keys.contains (a_ (s.boxes.getD i [])).box.key=Zb
   ·rw[Qa1 hq];exact⟨_,rfl,step _ ⟨hM.ok.put (Pb hq.1 hq.2 Hi),hM.low.put h⟩ Hi⟩
   ·rw[Qa0 hq];exact⟨_,rfl,step _ hM Hi⟩
 ·rw[hg];exact⟨_,rfl,step _ hM (G6 hd)⟩
theorem Iz{s:Kn}(hs:eL s):Jx (cV s.keys) (cF s.boxes) []=Zw (.agg [.sl 1 (cV (close s).keys),.sl 1 (cF (close s).boxes)],[]):=by
 unfold Jx;refine bZ (enc:=fun(q:Kn×List AV)=>pV q.1 q.2) (I:=fun q=>eL q.1/\oc q.2 q.1/\close q.1=close s) (μ:=fun q=>lS q.1) (R:=fun r=>∃ M,r=(.exit 0,pV (close s) M)) (s,[]) ⟨hs,⟨fun i hi => .inl rfl,fun i hi=>rfl⟩,rfl⟩ rfl ?_ ?_
 ·rintro⟨t,M⟩ ⟨ht,hM,hc⟩;dsimp only at ht hM hc;have key:∃ y,Q3 (pV t M)=Zw y/\Bf (fun(q:Kn×List AV)=>pV q.1 q.2) (fun q=>eL q.1/\oc q.2 q.1/\close q.1=close s) (fun q=>lS q.1) (fun r=>∃ M,r=(.exit 0,pV (close s) M)) (t,M) y:=by
   have e0:Q3 (pV t M)=Zz (bw (IY (cF t.boxes)) (.bool Zu::iv 0::pV t M)) fun r=>aE r.2 fun b r1=>ak .i64 r1 fun _ r1=>qO r1 fun y r1=>qO r1 fun y5 r1=>qO r1 fun y6 r1=>aw r1
     (jq r.1 (aD b (Zw (.inl [.aF y,.aF y5,.aF y6])) (Zw (.inr (.exit 0,[.aF y,.aF y5,.aF y6])))) fun j=>aD (Yp j 0) (Zw (.inr (.exit 0,[.aF y,.aF y5,.aF y6]))) Yf):=rfl
   rw[e0];refine MO ht hM ?_;rintro r (⟨hn,M',VM,rfl⟩ | ⟨b,M',n,hn,VM,rfl⟩)
   ·exact⟨_,rfl,M',by rw[<-hc,pU hn];rfl⟩
   ·obtain⟨g1,g2⟩:=pA hn;exact⟨_,rfl,(t.add (ci b),M'),rfl,⟨ht.open g1 g2,VM,by rw[<-yu hn];exact hc⟩,nZ g1 g2⟩
  exact key
 ·rintro r ⟨M,rfl⟩;rfl
theorem J1{ks bs:List AV}{b:Bytes}(h:tT ks bs=Zb)(hm:lS (kn ks bs)+2*b.length+2100<=1000000):Hs ks bs b=Zw (.agg [.sl 1 (cV (learn (kn ks bs) b).keys),.sl 1 (cF (learn (kn ks bs) b).boxes)],[]):=by
 obtain⟨s,rfl,rfl,hs⟩:=I2 h;rw[vr] at hm ⊢;have h2:=hs.wv;have h3:=hs.E7;have hp:=mS b;unfold Hs O8;rw[qm,ef,ae (by simp;omega)];show Zz (az (oY (cF s.boxes)&&Zy ((cF s.boxes).length<=1000000)) _) _=_;rw[yi,c4,ae (by simp;omega)];show Zz (az (Zy (b.length<=70368744170000)) _) _=_;rw[ae (by simp;omega)];show Zz (bw Qu [.sl 1 [],.sl 1 [],.aF (cV s.keys),.aF (cF s.boxes),.aF [],.sl 1 (cF (partsOf b)),iv (cF (partsOf b)).length,iv 0]) _=_;refine lF (fun i=>[.sl 1 [],.sl 1 [],.aF (cV s.keys),.aF (cF (eF s.boxes ((partsOf b).take i))),.aF [],.sl 1 (cF (partsOf b)),iv (cF (partsOf b)).length,iv i]) (partsOf b).length (fun i hi=> ?_)
  ⟨(.exit 0,[.sl 1 [],.sl 1 [],.aF (cV s.keys),.aF (cF (eF s.boxes (partsOf b))),.aF [],.sl 1 (cF (partsOf b)),iv (cF (partsOf b)).length,iv (partsOf b).length]),?_,?_⟩ rfl
 ·have mX:i<(cF (partsOf b)).length:=by rw[c4];exact hi
  have hl:(eF s.boxes ((partsOf b).take i)).length<=100000000:=Zf (D3 _ _) (by rw[List.length_take];omega);show aD (Zy ((i:Int)<((cF (partsOf b)).length:Int))) (wh i (cF (partsOf b)) (Yd ((cF (partsOf b)).getD (Zv i) .undef) _)) _=_;rw[ag (pw mX),jE mX,Zx,jY hi];show kE (vu (cF (eF s.boxes ((partsOf b).take i))) ((partsOf b).getD i [])) _=_;rw[vv _ hl];show aD (!(eF s.boxes ((partsOf b).take i)).contains ((partsOf b).getD i [])) (az (Go.Abs.room ((cF (eF s.boxes ((partsOf b).take i))).length+1) 24) (Zw (Sum.inl [.sl 1 [],.sl 1 [],.aF (cV s.keys),.aF (cF (eF s.boxes ((partsOf b).take i))++[.bs ((partsOf b).getD i [])]),.aF [],.sl 1 (cF (partsOf b)),iv (cF (partsOf b)).length,up i]))) _=_;rw[ym s.boxes (partsOf b) hi,c4 (eF _ _),HQ hl,Ap];cases hc:(eF s.boxes ((partsOf b).take i)).contains ((partsOf b).getD i []) with
  | true =>
   rw[Yq,aA,ur (by omega)];rfl
  | false =>
   rw[Zh,cc,ur (by omega)];rfl
 ·show aD (Zy (((partsOf b).length:Int)<((cF (partsOf b)).length:Int))) _ _=_;rw[aj (by rw[c4];simp),Yw]
 ·show Jx (cV s.keys) (cF (eF s.boxes (partsOf b))) []=_;exact Iz (s:=s.add ⟨[],partsOf b⟩) (hs.parts hm)
theorem Mu{ks bs:List AV}{k:Int}(h:tT ks bs=Zb)(hk:(Zy (0<=k)&&Zy (k<18446744073709551616))=Zb)(hm:lS (kn ks bs)+1<=1000000):Mt ks bs k=Zw (.agg [.sl 1 (cV (leak (kn ks bs) k).keys),.sl 1 (cF (leak (kn ks bs) k).boxes)],[]):=by
 obtain⟨s,rfl,rfl,hs⟩:=I2 h;rw[vr] at hm ⊢;have h2:=hs.E7;have h3:=hs.wv;unfold Mt O8;rw[qm,ef,ae (by simp;omega)];show Zz (az (oY (cF s.boxes)&&Zy ((cF s.boxes).length<=1000000)) _) _=_;rw[yi,c4,ae (by simp;omega)];show Zz (az (Zy (0<=k)&&Zy (k<18446744073709551616)) _) _=_;rw[ae hk];show Zz (aD (bp k) (kE (tr (cV s.keys) k) _) _) _=_;rw[rJ _ (by omega)];show Zz (aD (bp k) (aD (!s.keys.contains k) _ _) _) _=_;have fin:Jx (cV (gT s.keys (cq [k]))) (cF s.boxes) []=Zw (.agg [.sl 1 (cV (leak s k).keys),.sl 1 (cF (leak s k).boxes)],[]):=Iz (s:=s.add ⟨cq [k],[]⟩) (hs.Mw hm);cases hv:bp k with
 | false =>
  rw[show cq [k]=[] by simp[cq,hv]] at fin;exact fin
 | true =>
  rw[show cq [k]=[k] by simp[cq,hv]] at fin;have e:gT s.keys [k]=bif s.keys.contains k then s.keys else mJ s.keys k:=rfl
  rw[e] at fin;cases hc:s.keys.contains k with
  | true=>rw[hc] at fin;exact fin
  | false =>
   rw[hc] at fin;rw[cc,Zh,cc,Ik hs.sW hc (by omega)];exact fin
end Kerb
/- Chapter 27: small loops. -/
namespace Kerb
open Go Go.Abs
theorem Cs{l:List Bytes}{i:Nat}(h:i<l.length):gH (l.take (i+1))=bif ow (l.getD i []) then gH (l.take i)++[l.getD i []] else gH (l.take i):=by
 rw[sS [] h];unfold gH;rw[List.filter_append];generalize l.getD i []=b;cases hb:ow b<;>simp[List.filter_cons,hb]
theorem DO{l:List Int}{i:Nat}(h:i<l.length):cq (l.take (i+1))=bif bp (l.getD i 0) then cq (l.take i)++[l.getD i 0] else cq (l.take i):=by
 rw[sS 0 h];unfold cq;rw[List.filter_append];generalize l.getD i 0=b;cases hb:bp b<;>simp[List.filter_cons,hb]
theorem OC(B:List Int)(q:Int):cV B++[.int .u64 q]=cV (B++[q]):=by simp[cV]
theorem R4{n:Nat}(h:n<=1000000000):Go.Abs.room n 8=Zb:=by
 unfold Go.Abs.room;simp only[Yu,Nat.ble_eq];omega
theorem Lf{α:Type}[BEq α][LawfulBEq α]{K L:List α}(d:α)(h:K.length=L.length):((Zp K.length).any fun i => !(K.getD i d==L.getD i d)) = !(K==L):=by
 cases he:K==L with
 | true =>
  obtain rfl:=Qa9 he;rw[List.any_eq_false.2]
  ·rfl
  ·intro x _;simp
 | false =>
  have fY:K≠L:=by intro e;subst e;simp at he
  rw[Zh,List.any_eq_true];refine Classical.byContradiction fun hc=>fY (List.ext_getElem h fun i h1 h2=> ?_);refine Classical.byContradiction fun hi=>hc ⟨i,Zg.2 h1,?_⟩;simpa [Zk,h1,h2] using hi
theorem xK{i:Nat}(h:i<=1000000000):Zd .i64 ((i:Int)+1)=((i+1:Nat):Int):=by
 rw[wrap_i64 (by omega) (by omega)];rfl
theorem Pk(i:Nat):Zy ((0:Int)<=(i:Int))=Zb:=by simp
theorem Up{l:List Int}{i:Nat}(h:i<l.length):Zy ((i:Int)<((cV l).length:Int))=Zb:=by rw[ef];simp;omega
theorem Qp{l:List Bytes}{i:Nat}(h:i<l.length):Zy ((i:Int)<((cF l).length:Int))=Zb:=by rw[c4];simp;omega
theorem LJ{l:List Int}{i:Nat}(h:i<l.length):Zk (cV l) (Zv (i:Int)) .undef = .int .u64 (l.getD i 0):=by rw[Zx];exact jZ h
theorem G8{l:List Bytes}{i:Nat}(h:i<l.length):Zk (cF l) (Zv (i:Int)) .undef = .bs (l.getD i []):=by rw[Zx];exact jY h
theorem noK(l:List Int):Zy ((l.length:Int)<((cV l).length:Int))=Zu:=by rw[ef];simp
theorem V8(l:List Bytes):Zy ((l.length:Int)<((cF l).length:Int))=Zu:=by rw[c4];simp
theorem xY{α:Type}{l:List α}{i:Nat}(d:α)(h:i<l.length):l.getD i d∈l:=by simp[Zk,h]
noncomputable def RQ(y:List AV)(k:Int)(l:List AV):St:=ak .i64 l fun n r=>ak .i64 r fun i r=>aw r
 (aD (Zy (i<(y.length:Int))) (wh i y (AV.ax .u64 (y.getD (Zv i) .undef) fun q=>aD (k==q) (Zw (.inr (.ret,[iv i,iv i]))) (Zw (.inl [iv n,up i]))))
  (Zw (.inr (.exit 0,[iv n,iv i]))))
noncomputable def C4(y:List AV)(k:Int):Option (List AV):=Zz (bw (RQ y k) [iv 0,iv 0]) E6
noncomputable def tU(y:List AV)(k:Int):Option (List AV):=kE (C4 y k) fun b=>Zw [.bool !b]
noncomputable def SX(y kl:List AV)(l:List AV):St:=ak .i64 l fun n r=>ak .i64 r fun i r=>aw r
 (aD (Zy (i<(kl.length:Int))) (wh i kl (AV.ax .u64 (kl.getD (Zv i) .undef) fun q=>kE (tU y q) fun b=>aD b (Zw (.inr (.ret,[iv i,iv i]))) (Zw (.inl [iv n,up i]))))
  (Zw (.inr (.exit 0,[iv n,iv i]))))
noncomputable def O_(y kl:List AV):Option (List AV):=Zz (bw (SX y kl) [iv 0,iv 0]) E6
noncomputable def RR(y:List AV)(b:List UInt8)(l:List AV):St:=aE l fun c r=>ak .i64 r fun i r=>aw r
 (aD (Zy (i<(y.length:Int))) (wh i y (Yd (y.getD (Zv i) .undef) fun q=>aD (q==b) (Zw (.inr (.ret,[.bool Zu,iv i]))) (Zw (.inl [.bool c,up i]))))
  (Zw (.inr (.exit 0,[.bool c,iv i]))))
noncomputable def Hr(y:List AV)(b:List UInt8):Option (List AV):=Zz (bw (RR y b) [.bool Zu,iv 0]) fun r=>aE r.2 fun c r1=>ak .i64 r1 fun _ r2=>aw r2 (jq r.1 (Zw [.bool c]) fun j=>aD (Yp j 0) (Zw [.bool Zb]) Yf)
theorem BB{K:List Int}(k:Int)(h:K.length<=100000000):C4 (cV K) k=Zw [.bool (K.contains k)]:=by
 have e:C4 (cV K) k=Zw (bif (Zp (cV K).length).any (fun i=>k==K.getD i 0) then[Zj Zb] else[Zj Zu]):=by
  refine mB (fun i=>[iv 0,iv i]) _ _ ?_ ?_ ?_ rfl
  ·intro i hi hp;have iU:i<K.length:=by rw[<-ef];exact hi
   show aD (Zy ((i:Int)<((cV K).length:Int))) (wh i (cV K) (AV.ax .u64 ((cV K).getD (Zv i) .undef) _)) _=_;rw[ag (pw hi),jE hi,Zx,jZ iU];show aD (k==K.getD i 0) _ _=_;rw[aj hp,ur (by omega)]
  ·intro i hi hp;have iU:i<K.length:=by rw[<-ef];exact hi
   refine⟨(.ret,[iv i,iv i]),?_,?_⟩
   ·show aD (Zy ((i:Int)<((cV K).length:Int))) (wh i (cV K) (AV.ax .u64 ((cV K).getD (Zv i) .undef) _)) _=_;rw[ag (pw hi),jE hi,Zx,jZ iU];show aD (k==K.getD i 0) _ _=_;rw[ag hp]
   ·show Zw [Zj (Zy ((i:Int)>=0))]=_;rw[show Zy ((i:Int)>=0)=Zb by simp]
  ·refine⟨(.exit 0,[iv 0,iv (cV K).length]),?_,rfl⟩;show aD (Zy (((cV K).length:Int)<((cV K).length:Int))) _ _=_;rw[aj HA]
 rw[e,ef,kh K 0 (fun x=>k==x),qn];cases K.contains k<;>rfl
theorem wM{K:List Int}(k:Int)(h:K.length<=100000000):tU (cV K) k=Zw [.bool (!K.contains k)]:=by
 unfold tU;rw[BB k h];rfl
theorem O'{K:List Int}(L:List Int)(h:K.length<=100000000)(hl:L.length<=100000000):O_ (cV K) (cV L)=Zw [.bool (L.any fun k => !K.contains k)]:=by
 have e:O_ (cV K) (cV L)=Zw (bif (Zp (cV L).length).any (fun i => !K.contains (L.getD i 0)) then[Zj Zb] else[Zj Zu]):=by
  refine mB (fun i=>[iv 0,iv i]) _ _ ?_ ?_ ?_ rfl
  ·intro i hi hp;have iU:i<L.length:=by rw[<-ef];exact hi
   show aD (Zy ((i:Int)<((cV L).length:Int))) (wh i (cV L) (AV.ax .u64 ((cV L).getD (Zv i) .undef) _)) _=_;rw[ag (pw hi),jE hi,Zx,jZ iU];show kE (tU (cV K) (L.getD i 0)) _=_;rw[wM _ h];show aD (!K.contains (L.getD i 0)) _ _=_;rw[aj hp,ur (by omega)]
  ·intro i hi hp;have iU:i<L.length:=by rw[<-ef];exact hi
   refine⟨(.ret,[iv i,iv i]),?_,?_⟩
   ·show aD (Zy ((i:Int)<((cV L).length:Int))) (wh i (cV L) (AV.ax .u64 ((cV L).getD (Zv i) .undef) _)) _=_;rw[ag (pw hi),jE hi,Zx,jZ iU];show kE (tU (cV K) (L.getD i 0)) _=_;rw[wM _ h];show aD (!K.contains (L.getD i 0)) _ _=_;rw[ag hp]
   ·show Zw [Zj (Zy ((i:Int)>=0))]=_;rw[show Zy ((i:Int)>=0)=Zb by simp]
  ·refine⟨(.exit 0,[iv 0,iv (cV L).length]),?_,rfl⟩;show aD (Zy (((cV L).length:Int)<((cV L).length:Int))) _ _=_;rw[aj HA]
 rw[e,ef,kh L 0 (fun x => !K.contains x)];cases L.any fun k => !K.contains k<;>rfl
theorem JZ{B:List Bytes}(b:Bytes)(h:B.length<=100000000):Hr (cF B) b=Zw [.bool (!B.contains b)]:=by
 have e:Hr (cF B) b=Zw (bif (Zp (cF B).length).any (fun i=>B.getD i []==b) then[Zj Zu] else[Zj Zb]):=by
  refine mB (fun i=>[.bool Zu,iv i]) _ _ ?_ ?_ ?_ rfl
  ·intro i hi hp;have iU:i<B.length:=by rw[<-c4];exact hi
   show aD (Zy ((i:Int)<((cF B).length:Int))) (wh i (cF B) (Yd ((cF B).getD (Zv i) .undef) _)) _=_;rw[ag (pw hi),jE hi,Zx,jY iU];show aD (B.getD i []==b) _ _=_;rw[aj hp,ur (by omega)]
  ·intro i hi hp;have iU:i<B.length:=by rw[<-c4];exact hi
   refine⟨(.ret,[.bool Zu,iv i]),?_,rfl⟩;show aD (Zy ((i:Int)<((cF B).length:Int))) (wh i (cF B) (Yd ((cF B).getD (Zv i) .undef) _)) _=_;rw[ag (pw hi),jE hi,Zx,jY iU];show aD (B.getD i []==b) _ _=_;rw[ag hp]
  ·refine⟨(.exit 0,[.bool Zu,iv (cF B).length]),?_,rfl⟩;show aD (Zy (((cF B).length:Int)<((cF B).length:Int))) _ _=_;rw[aj HA]
 rw[e,c4,kh B [] (fun x=>x==b),oZ];cases B.contains b<;>rfl
abbrev JX(ks bs:List AV):aC:=[[.sl 1 ks,.sl 1 bs]]
noncomputable def Ur{α:Type}(c:Bool)(ks bs:List AV)(q:List UInt8)(f:List AV->List AV->Bool->Option α):Option α:=Zz (az c (Zw (Zj (!dQ (kn ks bs) q),JX ks bs))) fun r=>aL r.2 fun x r1=>bW 1 x fun k2 r2=>bW 1 r2 fun b3 r3=>aw r3 (aN r1 (AV.cU r.1 (f k2 b3)))
theorem MI{α:Type}{c:Bool}(hc:c=Zb)(s:Kn)(q:List UInt8)(f:List AV->List AV->Bool->Option α):Ur c (cV s.keys) (cF s.boxes) q f=f (cV s.keys) (cF s.boxes) (!dQ s q):=by
 unfold Ur;rw[vr,ae hc];rfl
noncomputable def YS(xN:Nat)(bl:List AV)(l:List AV):St:=ak .i64 l fun n r=>ak .i64 r fun i r=>bW 1 r fun ks r=>bW 1 r fun bs r=>aw r
 (aD (Zy (i<(bl.length:Int))) (wh i bl (Yd (bl.getD (Zv i) .undef) fun q=>Ur (tT ks bs&&Zy (q.length<=70368744170000)&&Zy ((q.length:Int)<(xN:Int))) ks bs q fun k2 b3 b4 =>
   aD b4 (Zw (.inr (.ret,[iv i,iv i,.sl 1 k2,.sl 1 b3]))) (Zw (.inl [iv n,up i,.sl 1 k2,.sl 1 b3]))))
  (Zw (.inr (.exit 0,[iv n,iv i,.sl 1 ks,.sl 1 bs]))))
noncomputable def MG(xN:Nat)(ks bs:List AV)(b:List UInt8):Option (AV×aC) :=
 kE (Hr bs b) fun b1=>aD (!b1) (Zw (.bool Zu,JX ks bs)) (Zz (az (Zy (b.length<=140737488355328)) (Zw (Zj (ow b),([]:aC)))) fun r=>aN r.2 (AV.cU r.1 fun b2=>aD (!b2) (Zw (.bool Zb,JX ks bs))
  (Zz (az (Zy (b.length<=140737488355328)) (Zw (AV.aQ [.agg [.int .i64 (a_ b).box.kind,.int .u64 (a_ b).box.key,.bs (a_ b).box.body],.int .i64 (a_ b).n,.int .i64 (a_ b).err],([]:aC)))) fun r=>aN r.2 (AV.fI r.1 fun vs=>ay vs fun x r=>AV.eu x fun cs=>ak .i64 cs fun kd r1=>ak .u64 r1 fun ky r1=>bq r1 fun bd r1=>aw r1 (ak .i64 r fun _ r=>ak .i64 r fun er r=>aw r
   (aD (!(er==0)) (Zw (.bool Zb,JX ks bs)) (kE (tU ks ky) fun b6=>aD b6 (Zw (.bool Zb,JX ks bs))
    (Zz (az (Zy (bd.length<=70368744170000)) (Zw (AV.aQ [.sl 1 (cV (k9 ⟨kd,ky,bd⟩).keys),.sl 1 (cF (k9 ⟨kd,ky,bd⟩).boxes)],([]:aC)))) fun r=>aN r.2 (AV.fI r.1 fun vs=>bW 1 vs fun kl r=>bW 1 r fun bl r=>aw r
     (kE (O_ ks kl) fun b9=>aD b9 (Zw (.bool Zb,JX ks bs)) (Zz (bw (YS xN bl) [iv 0,iv 0,.sl 1 ks,.sl 1 bs]) fun r=>ak .i64 r.2 fun n r1=>ak .i64 r1 fun _ r1=>bW 1 r1 fun k2 r1=>bW 1 r1 fun b3 r1=>aw r1
      (jq r.1 (Zw (.bool (Zy (n>=0)),JX k2 b3)) fun j=>aD (Yp j 0) (Zw (.bool Zu,JX k2 b3)) Yf))))))))))))
end Kerb
/- Chapter 27: what is known does not depend on the order; what can be made teaches nothing. -/
namespace Kerb
open Go Go.Abs
inductive Bd (B0:Bytes->Prop) (K0:Int->Prop):Int ⊕ Bytes->Prop
 | key {k:Int}:K0 k->Bd B0 K0 (.inl k)
 | box {b:Bytes}:B0 b->Bd B0 K0 (.inr b)
 | Ug {b:Bytes} {k:Int}:Bd B0 K0 (.inr b)->(a_ b).err=0->Bd B0 K0 (.inl (a_ b).box.key)->k∈(ci b).keys->Bd B0 K0 (.inl k)
 | Uf {b c:Bytes}:Bd B0 K0 (.inr b)->(a_ b).err=0->Bd B0 K0 (.inl (a_ b).box.key)->c∈(ci b).boxes->Bd B0 K0 (.inr c)
theorem Bd.mono{B0 B1:Bytes->Prop}{K0 K1:Int->Prop}(h1:∀ b,B0 b->B1 b)(h2:∀ k,K0 k->K1 k){x:Int ⊕ Bytes}(h:Bd B0 K0 x):Bd B1 K1 x:=by
 induction h with
 | key h=>exact .key (h2 _ h)
 | box h=>exact .box (h1 _ h)
 | Ug _ e _ m i1 i2=>exact .Ug i1 e i2 m
 | Uf _ e _ m i1 i2=>exact .Uf i1 e i2 m
structure Full (B0:Bytes->Prop) (K0:Int->Prop) (s:Kn):Prop where
 next:s.next=Yf
 sW:sW s.keys=Zb
 nodup:s.boxes.Nodup
 keys:∀ k,k∈s.keys↔Bd B0 K0 (.inl k)
 boxes:∀ b,b∈s.boxes↔Bd B0 K0 (.inr b)
theorem IZ{s:Kn}(h:s.next=Yf){b:Bytes}(hb:b∈s.boxes)(e:(a_ b).err=0)(hk:(a_ b).box.key∈s.keys):s.has (ci b)=Zb:=by
 have:=List.find?_eq_none.1 h b hb;cases hh:s.has (ci b) with
 | true=>rfl
 | false=>exact absurd (sJ.2 ⟨e,hk,hh⟩) this
theorem od:∀ {l B:List Bytes},B.Nodup->(eF B l).Nodup
 | [],B,h=>h
 | b::l,B,h=>by
  have e:eF B (b::l)=eF (bif B.contains b then B else B++[b]) l:=rfl;rw[e];cases hc:B.contains b with
  | true=>exact od h
  | false =>
   refine od (List.nodup_append.2 ⟨h,by simp,?_⟩);intro x hx y hy;have:b ∉ B:=by simpa using hc
   simp only[List.mem_singleton] at hy;rintro rfl;exact this (hy ▸ hx)
theorem Full.join{B0 B1:Bytes->Prop}{K0 K1:Int->Prop}{s:Kn}(h:Full B0 K0 s){x:DX}(hb:∀ b,B1 b↔B0 b\/b∈x.boxes)(hk:∀ k,K1 k↔K0 k\/k∈x.keys):Full B1 K1 (close (s.add x)):=by
 have m:∀ {y},Bd B0 K0 y->Bd B1 K1 y:=Bd.mono (fun b q=>(hb b).2 (.inl q)) fun k q=>(hk k).2 (.inl q);obtain⟨⟨p1,p2,p3,p4,p5,p6⟩,hn⟩:=wx (P:=fun s=>Kerb.sW s.keys=Zb/\s.boxes.Nodup/\(∀ k∈s.keys,Bd B1 K1 (.inl k))/\(∀ b∈s.boxes,Bd B1 K1 (.inr b))/\(∀ k,K1 k->k∈s.keys)/\∀ b,B1 b->b∈s.boxes) (fun s b ⟨q1,q2,q3,q4,q5,q6⟩ gb go=>by
  obtain⟨e,ek,_⟩:=sJ.1 go;refine⟨lX q1,od q2,fun k hk=> ?_,fun c hc=> ?_,fun k hk=>kg.2 (.inl (q5 k hk)),fun c hc=>iE.2 (.inl (q6 c hc))⟩
  ·rcases kg.1 hk with hk | hk
   ·exact q3 k hk
   ·exact .Ug (q4 b gb) e (q3 _ ek) hk
  ·rcases iE.1 hc with hc | hc
   ·exact q4 c hc
   ·exact .Uf (q4 b gb) e (q3 _ ek) hc) (s.add x)
  ⟨lX h.sW,od h.nodup,fun k q=>by
   rcases kg.1 q with q | q
   ·exact m ((h.keys k).1 q)
   ·exact .key ((hk k).2 (.inr q)),fun b q=>by
   rcases iE.1 q with q | q
   ·exact m ((h.boxes b).1 q)
   ·exact .box ((hb b).2 (.inr q)),fun k q=>by
   rcases (hk k).1 q with q | q
   ·exact kg.2 (.inl ((h.keys k).2 (.key q)))
   ·exact kg.2 (.inr q),fun b q=>by
   rcases (hb b).1 q with q | q
   ·exact iE.2 (.inl ((h.boxes b).2 (.box q)))
   ·exact iE.2 (.inr q)⟩
 have all:∀ y,Bd B1 K1 y->(match y with | .inl k=>k∈(close (s.add x)).keys | .inr b=>b∈(close (s.add x)).boxes):=by
  intro y hy;induction hy with
  | key q=>exact p5 _ q
  | box q=>exact p6 _ q
  | Ug _ e _ mm i1 i2=>exact(ot.1 (IZ hn i1 e i2)).1 _ mm
  | Uf _ e _ mm i1 i2=>exact(ot.1 (IZ hn i1 e i2)).2 _ mm
 exact⟨hn,p1,p2,fun k=>⟨p3 k,fun q=>all _ q⟩,fun b=>⟨p4 b,fun q=>all _ q⟩⟩
def zy:Kn:=⟨[],[]⟩
theorem Ep{x:Int ⊕ Bytes}(h:Bd (fun _=>False) (fun _=>False) x):False:=by
 induction h with
 | key h=>exact h
 | box h=>exact h
 | Ug _ _ _ _ i _=>exact i
 | Uf _ _ _ _ i _=>exact i
theorem Pj:Full (fun _=>False) (fun _=>False) zy :=
 ⟨rfl,rfl,List.nodup_nil,fun k=>⟨fun h=>(nomatch h),fun h=>(Ep h).elim⟩,fun k=>⟨fun h=>(nomatch h),fun h=>(Ep h).elim⟩⟩
theorem pd{B0 B1:Bytes->Prop}{K0 K1:Int->Prop}{s:Kn}(hb:∀ b,B0 b↔B1 b)(hk:∀ k,K0 k↔K1 k)(h:Full B0 K0 s):Full B1 K1 s:=by
 have:B0=B1:=funext fun b=>propext (hb b);have:K0=K1:=funext fun b=>propext (hk b);subst B1 K1;exact h
theorem xg{B0:Bytes->Prop}{K0:Int->Prop}:∀ {l:List Bytes} {s:Kn},Full B0 K0 s->Full (fun b=>B0 b\/∃ m∈l,b∈partsOf m) K0 (l.foldl learn s)
 | [],s,h=>pd (fun b=>by simp) (fun k=>Iff.rfl) h
 | m::l,s,h=>by
  have h1:Full (fun b=>B0 b\/b∈partsOf m) K0 (learn s m):=h.join (x:=⟨[],partsOf m⟩) (fun b=>Iff.rfl) (fun k=>by simp);exact pd (fun b=>by simp[or_assoc]) (fun k=>Iff.rfl) (xg (l:=l) h1)
theorem yK{B0:Bytes->Prop}{K0:Int->Prop}:∀ {l:List Int} {s:Kn},Full B0 K0 s->Full B0 (fun k=>K0 k\/k∈cq l) (l.foldl leak s)
 | [],s,h=>pd (fun b=>Iff.rfl) (fun k=>by simp[cq]) h
 | m::l,s,h=>by
  have h1:Full B0 (fun k=>K0 k\/k∈cq [m]) (leak s m):=h.join (x:=⟨cq [m],[]⟩) (fun b=>by simp) (fun k=>Iff.rfl);exact pd (fun b=>Iff.rfl) (fun k=>by
   have:cq (m::l)=cq [m]++cq l:=by simp[cq,List.filter_cons];split<;>simp
   rw[this,List.mem_append,or_assoc]) (yK (l:=l) h1)
def Ld(ms:List Bytes)(ks:List Int):Kn:=ks.foldl leak (ms.foldl learn zy)
theorem GW(ms:List Bytes)(ks:List Int):Full (fun b=>∃ m∈ms,b∈partsOf m) (fun k=>k∈cq ks) (Ld ms ks) :=
 pd (fun b=>by simp) (fun k=>by simp) (yK (l:=ks) (xg (l:=ms) Pj))
theorem Io:∀ {l m:List Int},sW l=Zb->sW m=Zb->(∀ k,k∈l↔k∈m)->l=m
 | [],[],_,_,_=>rfl
 | [],y::m,_,_,h=>absurd ((h y).2 (by simp)) (by simp)
 | x::l,[],_,_,h=>absurd ((h x).1 (by simp)) (by simp)
 | x::l,y::m,h1,h2,h=>by
  have V3:x=y:=by
   rcases List.mem_cons.1 ((h x).1 (by simp)) with q | q
   ·exact q
   ·rcases List.mem_cons.1 ((h y).2 (by simp)) with q' | q'
    ·exact q'.symm
    ·have a:=mH h2 x q;have b:=mH h1 y q';omega
  subst V3;rw[Io (uI h1) (uI h2) fun k=> ?_];constructor
  ·intro hk;rcases List.mem_cons.1 ((h k).1 (Yj _ hk)) with q | q
   ·subst q;have:=mH h1 _ hk;omega
   ·exact q
  ·intro hk;rcases List.mem_cons.1 ((h k).2 (Yj _ hk)) with q | q
   ·subst q;have:=mH h2 _ hk;omega
   ·exact q
theorem JA{B0:Bytes->Prop}{K0:Int->Prop}{s t:Kn}(hs:Full B0 K0 s)(ht:Full B0 K0 t):s.keys=t.keys/\s.boxes.length=t.boxes.length/\∀ b∈s.boxes,b∈t.boxes:=by
 refine⟨Io hs.sW ht.sW fun k=>(hs.keys k).trans (ht.keys k).symm,?_,fun b hb=>(ht.boxes b).2 ((hs.boxes b).1 hb)⟩;have p:s.boxes.Perm t.boxes:=(List.perm_ext_iff_of_nodup hs.nodup ht.nodup).2 fun b=>(hs.boxes b).trans (ht.boxes b).symm;exact p.length_eq
theorem Jh{s:Kn}{x:DX}(h:s.has x=Zb):s.add x=s:=by
 obtain⟨h1,h2⟩:=ot.1 h;have a1:∀ {l:List Int},(∀ k∈l,k∈s.keys)->gT s.keys l=s.keys:=by
  intro l;induction l with
  | nil=>intro _;rfl
  | cons k l ih =>
   intro q;have e:gT s.keys (k::l)=gT (bif s.keys.contains k then s.keys else mJ s.keys k) l:=rfl;have c:s.keys.contains k=Zb:=by simpa using q k (by simp)
   rw[e,c,Qa5];exact ih fun k' oT=>q k' (Yj _ oT)
 have a2:∀ {l:List Bytes},(∀ k∈l,k∈s.boxes)->eF s.boxes l=s.boxes:=by
  intro l;induction l with
  | nil=>intro _;rfl
  | cons k l ih =>
   intro q;have e:eF s.boxes (k::l)=eF (bif s.boxes.contains k then s.boxes else s.boxes++[k]) l:=rfl;have c:s.boxes.contains k=Zb:=by simpa using q k (by simp)
   rw[e,c,Qa5];exact ih fun k' oT=>q k' (Yj _ oT)
 unfold Kn.add;rw[a1 h1,a2 h2]
theorem E8{B0:Bytes->Prop}{K0:Int->Prop}{s:Kn}(h:Full B0 K0 s){m:Bytes}(hm:∀ b∈partsOf m,B0 b):learn s m=s:=by
 unfold learn;rw[Jh (ot.2 ⟨by simp,fun b hb=>(h.boxes b).2 (.box (hm b hb))⟩)];exact pU h.next
theorem qo{s:Kn}:∀ {n:Nat} {b:Bytes},b.length<n->jc n s b=dQ s b:=by
 have key:∀ (k:Nat) (b:Bytes),b.length<k->∀ n m,b.length<n->b.length<m->jc n s b=jc m s b:=by
  intro k;induction k with
  | zero=>intro b h;omega
  | succ k ih =>
   intro b hb n m hn hm;obtain⟨n,rfl⟩:∃ q,n=q+1:=⟨n-1,by omega⟩;obtain⟨m,rfl⟩:∃ q,m=q+1:=⟨m-1,by omega⟩;have:(ci b).boxes.all (fun b=>jc n s b)=(ci b).boxes.all fun b=>jc m s b:=by
    rw[Bool.eq_iff_iff,Yv,Yv];constructor
    ·intro h c hc;have:=pk hc;rw[<-ih c (by omega) n m (by omega) (by omega)];exact h c hc
    ·intro h c hc;have:=pk hc;rw[ih c (by omega) n m (by omega) (by omega)];exact h c hc
   simp only[jc,this]
 exact fun {n b} h=>key (b.length+1) b (by omega) n (b.length+1) h (by omega)
theorem AL(s:Kn)(b:Bytes):dQ s b=(s.boxes.contains b||(ow b&&s.keys.contains (a_ b).box.key&&(ci b).keys.all (fun k=>s.keys.contains k)&&(ci b).boxes.all fun b=>dQ s b)):=by
 have:(ci b).boxes.all (fun c=>jc b.length s c)=(ci b).boxes.all fun c=>dQ s c:=by
  rw[Bool.eq_iff_iff,Yv,Yv];constructor
  ·intro h c hc;have:=pk hc;rw[<-qo (n:=b.length) (by omega)];exact h c hc
  ·intro h c hc;have:=pk hc;rw[qo (by omega)];exact h c hc
 show jc (b.length+1) s b=_;simp only[jc,this]
end Kerb
/- Chapter 27: the reference's functions, as their loops are. -/
namespace Kerb
open Go Go.Abs
abbrev rb(v:AV):AV×aC:=(v,[])
theorem O9{t:Bytes}(h:t.length<=70368744170000):(a_ t).box.body.length<=70368744170000:=by
 rcases ns t with h1 | h1
 ·omega
 ·rw[h1];exact Yk _
noncomputable def Qt{α:Type}(b:List UInt8)(f:List AV->Option α):Option α:=Zz (az (Zy (b.length<=70368744170000)) (Zw (rb (.sl 1 (cF (partsOf b)))))) fun r=>aN r.2 (AV.g7 1 r.1 f)
theorem Im{α:Type}(l:List α)(p:α->Bool):l.all p = !(l.any fun x => !p x):=List.all_eq_not_any_not
theorem Ko{b x:Bytes}(hb:b.length<=70368744160000)(h:x∈partsOf b):x.length<=70368744170000:=by
 have:=(mS b).1 x h;omega
noncomputable def Uq(bl:List AV)(l:List AV):St:=ak .i64 l fun n r=>ak .i64 r fun i r=>bW 1 r fun ks r=>bW 1 r fun bs r=>aw r
 (aD (Zy (i<(bl.length:Int))) (wh i bl (Yd (bl.getD (Zv i) .undef) fun q=>Ur (tT ks bs&&Zy (q.length<=70368744170000)) ks bs q fun k2 b3 b4 =>
   aD b4 (Zw (.inr (.ret,[iv i,iv i,.sl 1 k2,.sl 1 b3]))) (Zw (.inl [iv n,up i,.sl 1 k2,.sl 1 b3]))))
  (Zw (.inr (.exit 0,[iv n,iv i,.sl 1 ks,.sl 1 bs]))))
noncomputable def MZ(ks bs:List AV)(b:List UInt8):Option (AV×aC):=Qt b fun l=>Zz (bw (Uq l) [iv 0,iv 0,.sl 1 ks,.sl 1 bs]) fun r=>ak .i64 r.2 fun n r1=>ak .i64 r1 fun _ r1=>bW 1 r1 fun _ r1=>bW 1 r1 fun _ r1=>aw r1
 (jq r.1 (Zw (rb (.bool (!Zy (n>=0))))) fun j=>aD (Yp j 0) (Zw (rb (.bool Zb))) Yf)
theorem IW{β:Type}{s:Kn}{L:List Bytes}(hl:L.length<=100000000){step:List AV->St}(rF:∀ i,i<L.length->step [iv 0,iv i,.sl 1 (cV s.keys),.sl 1 (cF s.boxes)]=aD (!dQ s (L.getD i [])) (Zw (.inr (.ret,[iv i,iv i,.sl 1 (cV s.keys),.sl 1 (cF s.boxes)]))) (Zw (.inl [iv 0,up i,.sl 1 (cV s.keys),.sl 1 (cF s.boxes)])))
  (XJ:step [iv 0,iv L.length,.sl 1 (cV s.keys),.sl 1 (cF s.boxes)]=Zw (.inr (.exit 0,[iv 0,iv L.length,.sl 1 (cV s.keys),.sl 1 (cF s.boxes)])))
  {k:Ex×List AV->Option β} {A B:β} (hA:∀ i:Nat,k (.ret,[iv i,iv i,.sl 1 (cV s.keys),.sl 1 (cF s.boxes)])=Zw A) (hB:k (.exit 0,[iv 0,iv L.length,.sl 1 (cV s.keys),.sl 1 (cF s.boxes)])=Zw B) :
  Zz (bw step [iv 0,iv 0,.sl 1 (cV s.keys),.sl 1 (cF s.boxes)]) k=Zw (bif L.all (dQ s) then B else A):=by
 refine Qb1 (mB (A:=A) (B:=B) (fun i=>[iv 0,iv i,.sl 1 (cV s.keys),.sl 1 (cF s.boxes)]) L.length (fun i => !dQ s (L.getD i [])) ?_ ?_ ⟨_,XJ,hB⟩ rfl) ?_
 ·intro i hi hq;rw[rF i hi,aj hq,ur (by omega)]
 ·intro i hi hq;exact⟨_,by rw[rF i hi,ag hq],hA i⟩
 ·rw[kh L [] (fun x => !dQ s x),Im];cases L.any fun x => !dQ s x<;>rfl
theorem M0{s:Kn}(hs:eL s){b:Bytes}(hb:b.length<=70368744160000):MZ (cV s.keys) (cF s.boxes) b=Zw (rb (.bool (Cu s b))):=by
 have hp:=(mS b).2;unfold MZ Qt;rw[ae (by simp;omega)];show Zz (bw (Uq (cF (partsOf b))) [iv 0,iv 0,.sl 1 (cV s.keys),.sl 1 (cF s.boxes)]) _=_;refine Qb1 (IW (A:=rb (.bool Zu)) (B:=rb (.bool Zb)) (L:=partsOf b) (by omega) (fun i hi=> ?_) ?_ (fun i=> ?_) rfl) ?_
 ·have mX:i<(cF (partsOf b)).length:=by rw[c4];exact hi
  show aD (Zy ((i:Int)<((cF (partsOf b)).length:Int))) (wh i (cF (partsOf b)) (Yd ((cF (partsOf b)).getD (Zv i) .undef) _)) _=_;rw[ag (pw mX),jE mX,Zx,jY hi,vG,IU.2 hs,MI (by have:=Ko hb (xY [] hi);simp;simpa using this)]
 ·show aD (Zy (((partsOf b).length:Int)<((cF (partsOf b)).length:Int))) _ _=_;rw[aj (V8 _)]
 ·show Zw (rb (.bool (!Zy ((i:Int)>=0))))=_;rw[show Zy ((i:Int)>=0)=Zb by simp];rfl
 ·unfold Cu;cases (partsOf b).all (dQ s)<;>rfl
theorem JV(b:Bytes):ow b=((a_ b).err==0&&(a_ b).n==(b.length:Int)):=rfl
theorem RV(xN:Nat)(bl ks bs:List AV)(n i:Int):YS xN bl [iv n,iv i,.sl 1 ks,.sl 1 bs]=aD (Zy (i<(bl.length:Int))) (wh i bl (Yd (bl.getD (Zv i) .undef) fun q=>Ur (tT ks bs&&Zy (q.length<=70368744170000)&&Zy ((q.length:Int)<(xN:Int))) ks bs q fun k2 b3 b4 =>
   aD b4 (Zw (.inr (.ret,[iv i,iv i,.sl 1 k2,.sl 1 b3]))) (Zw (.inl [iv n,up i,.sl 1 k2,.sl 1 b3]))))
  (Zw (.inr (.exit 0,[iv n,iv i,.sl 1 ks,.sl 1 bs]))):=rfl
theorem MH{s:Kn}(hs:eL s){b:Bytes}(hb:b.length<=70368744170000){xN:Nat}(hd:b.length<=xN):MG xN (cV s.keys) (cF s.boxes) b=Zw (.bool (!dQ s b),JX (cV s.keys) (cF s.boxes)):=by
 have n1:=hs.E7;have n2:=hs.wv;have vh:=yZ b;unfold MG;rw[JZ _ (by omega)];show aD (!!s.boxes.contains b) _ _=_;rw[AL,Bool.not_not];cases hc:s.boxes.contains b with
 | true=>rfl
 | false =>
  rw[aA,ae (by simp;omega),Bool.false_or];show aD (!ow b) _ _=_;cases XC:ow b with
  | false=>rfl
  | true =>
   have he:(a_ b).err=0:=by rw[JV] at XC;simp at XC;exact XC.1
   have hl:=zO he;rw[Yq,aA,ae (by simp;omega),Bool.true_and];show aD (!((a_ b).err==0)) _ (kE (tU (cV s.keys) (a_ b).box.key) _)=_;rw[he,aj (by rfl),wM _ (by omega)];show aD (!s.keys.contains (a_ b).box.key) _ _=_;cases hk:s.keys.contains (a_ b).box.key with
   | false=>rfl
   | true =>
    rw[Yq,aA,ae (by have:=O9 hb;simp;omega),Bool.true_and];show kE (O_ (cV s.keys) (cV (ci b).keys)) _=_;rw[O' _ (by omega) (by have:=vh.keys;omega)];show aD ((ci b).keys.any fun k => !s.keys.contains k) _ (Zz (bw (YS xN (cF (ci b).boxes)) [iv 0,iv 0,.sl 1 (cV s.keys),.sl 1 (cF s.boxes)]) _)=_;rw[Im (ci b).keys];cases (ci b).keys.any fun k => !s.keys.contains k with
    | true=>rfl
    | false =>
     rw[aA,Zh,Bool.true_and];refine Qb1 (IW (A:=(Zj Zb,JX (cV s.keys) (cF s.boxes))) (B:=(Zj Zu,JX (cV s.keys) (cF s.boxes))) (L:=(ci b).boxes) (by have:=vh.boxes;omega) (fun i hi=> ?_) ?_ (fun i=> ?_) rfl) ?_
     ·have mX:i<(cF (ci b).boxes).length:=by rw[c4];exact hi
      have hq:=vh.len _ (xY [] hi);rw[RV,ag (pw mX),jE mX,Zx,jY hi,vG,IU.2 hs,MI (by rw[Qa4 (show((ci b).boxes.getD i []).length<=70368744170000 by omega),Qa4 (show((((ci b).boxes.getD i []).length:Nat):Int)<(xN:Int) by omega)];rfl)]
     ·show aD (Zy (((ci b).boxes.length:Int)<((cF (ci b).boxes).length:Int))) _ _=_;rw[aj (V8 _)]
     ·show Zw (Zj (Zy ((i:Int)>=0)),JX (cV s.keys) (cF s.boxes))=_;rw[show Zy ((i:Int)>=0)=Zb by simp]
     ·cases (ci b).boxes.all (dQ s)<;>rfl
end Kerb
/- Chapter 27: the statements' messages. -/
namespace Kerb
open Go Go.Abs
abbrev ul(n:UInt8)(m:Int):Int:=Int.tmod (Zd .i64 (n.toNat:Int)) m
theorem I7(n:UInt8){m:Int}(h:0<m):0<=ul n m/\ul n m<m:=by
 unfold ul;have:n.toNat<256:=n.toNat_lt;rw[wrap_i64 (by omega) (by omega),Int.tmod_eq_emod_of_nonneg (by omega)];exact⟨Int.emod_nonneg _ (by omega),Int.emod_lt_of_pos _ h⟩
def ic(n:UInt8):Int:=bif Zy (((UInt8.ofNat (Zv (Int.tmod (n.toNat:Int) ((6:UInt8).toNat:Int)))).toNat:Int)<((2:UInt8).toNat:Int)) then qN (ul n 6) else aG (ul n 6)
def jl(n:UInt8):Int:=bif Zy (((UInt8.ofNat (Zv (Int.tmod (n.toNat:Int) ((6:UInt8).toNat:Int)))).toNat:Int)<((2:UInt8).toNat:Int)) then aG (Zd .i64 (2+ul n 4)) else aG (Zd .i64 (2+ul n 4))
theorem FN(n:UInt8):jl n=aG (Zd .i64 (2+ul n 4)):=by grind [jl]
def jC(x:UInt8):lK:=⟨user (next [x] 0 9),0,0,0⟩
def S9(n:UInt8):UInt8:=UInt8.ofNat (Zv (Zd .u8 (Int.tdiv (n.toNat:Int) ((8:UInt8).toNat:Int))))
def nb(gy de:UInt8):Bytes:=(fz { aM [gy,de] with aG:=jl de } (ic (S9 de))).val
theorem nT(n:UInt8):0<=ic n/\ic n<18446744073709551616:=by
 unfold ic;cases Zy (((UInt8.ofNat (Zv (Int.tmod (n.toNat:Int) ((6:UInt8).toNat:Int)))).toNat:Int)<((2:UInt8).toNat:Int))
 ·exact xF _
 ·exact PB _
theorem pG(n:UInt8):0<=jl n/\jl n<18446744073709551616:=by rw[FN];exact xF _
structure lO where
 kd:UInt8
 bx:UInt8
 se:UInt8
 gy:UInt8
 de:UInt8
 li:Bool
 hw:Int
def oM(bx:UInt8):Int:=Zd .i64 (1+ul bx 10)
def rV(n m:UInt8):UInt8:=UInt8.ofNat (Zv (Int.tmod (n.toNat:Int) (m.toNat:Int)))
def tF(t:lO):Bytes :=
 let s:=service (Zd .i64 (t.bx.toNat:Int))
 if oM t.bx=1 then(bR { aM [t.gy] with aG:=jl t.gy }).val
 else if oM t.bx=2 then(gL (jC t.gy) t.li).val
 else if oM t.bx=3 then(cW ⟨jl t.gy,s,0,0,nb t.gy t.de,0⟩ t.li).val
 else if oM t.bx=4 then(eI ⟨5,0,0⟩ t.li).val
 else if oM t.bx=5\/oM t.bx=6 then(dv ⟨[],0,0,7⟩ t.li).val
 else if oM t.bx=7 then(bif rV t.de 2==1 then(aW ⟨vt,4,0,0,0⟩).val else(aW ⟨gX,0,0,0,ic t.gy⟩).val)
 else if oM t.bx=8 then(bif rV t.de 8==1 then(bm ⟨pq,0,0,0,0,0,⟨[],[],[]⟩,[]⟩).val else(bm ⟨zk,0,jl t.gy,0,0,0,s,nb t.gy t.de⟩).val)
 else if oM t.bx=9 then(eN ⟨user (Zd .i64 (t.bx.toNat:Int)),s,jl t.gy,0,0,0⟩).val
 else(dU ⟨jl t.gy,s,0,0,nb t.gy t.de⟩).val
theorem MP(x:UInt8):c8 [x] 0 9=1:=rfl
theorem MQ(x:UInt8)(n:Int):c8 [x] 1 n=1:=rfl
theorem Us(x:UInt8)(n:Int):next [x] 1 n=0:=rfl
def s9(t:lO):Bytes:=(fN (oM t.bx) (ic t.se) (bif Int.tmod t.hw 16==15 then qG (tF t) (Zd .u16 (Int.tdiv t.hw 16)) else tF t)).val
theorem EB(r:D1):(eN r).val.length<=400:=by
 by_cases h:(eN r).err=0
 ·obtain⟨h1,h2,_,_,_,_,z,hz,hl⟩:=EA h;have l1:=ch h1;have l2:=ch h2;rw[hz];simp[af,ah];omega
 ·unfold eN at h ⊢;repeat' split
  all_goals first | simp | skip
  all_goals exfalso;simp_all
theorem CL(r:uC):(dU r).val.length<=600:=by
 by_cases h:(dU r).err=0
 ·obtain⟨_,h2,_,_,_,z,hz,hl⟩:=CK h;have l2:=ch h2;rw[hz];simp[af,ah];omega
 ·unfold dU at h ⊢;repeat' split
  all_goals first | simp | skip
  all_goals exfalso;simp_all
theorem Ez(r:DZ):(eM r).val.length<=2000:=by
 by_cases h:(eM r).err=0
 ·obtain⟨_,h2,h3,hz⟩:=Ey h;have l2:=ch h2;have hh:(header 10 Zu).length=2:=rfl;rw[hz];simp only[Yy,List.length_cons,List.length_nil,af,hh];omega
 ·unfold eM at h ⊢;repeat' split
  all_goals first | simp | skip
  all_goals exfalso;simp_all
theorem ox{c:Prop}[Decidable c]{a b:Bytes}(h1:a.length<=1000)(h2:b.length<=1000):(if c then a else b).length<=1000:=by
 split
 ·exact h1
 ·exact h2
theorem El{c:Bool}{a b:Bytes}(h1:a.length<=1000)(h2:b.length<=1000):(bif c then a else b).length<=1000:=by
 cases c
 ·exact h2
 ·exact h1
theorem oN{n m:Nat}(h:n<=m)(hm:m<=1000):n<=1000:=Zf h hm
theorem G2(t:lO):(tF t).length<=1000 :=
 ox (oN (AQ _) (by decide)) <| ox (oN yB (by decide)) <| ox (oN (yC _ _) (by decide)) <| ox (oN (wD _ _) (by decide)) <| ox (rq _ _) <|
  ox (El (oN (uW _) (by decide)) (oN (uW _) (by decide))) <| ox (El (oN (uT _) (by decide)) (oN (uT _) (by decide))) <| ox (oN (EB _) (by decide)) (oN (CL _) (by decide))
theorem Jq(t:lO):(s9 t).length<=1012:=zs _ _ _
theorem uO{n m:Int}(h0:0<=n)(h1:n<=65535)(hm:0<m):0<=Zd .u16 (Int.tdiv n m)/\Zd .u16 (Int.tdiv n m)<=65535:=by
 rw[Int.tdiv_eq_ediv_of_nonneg h0,wrap_u16];omega
def ov(t:lO):Bytes :=
 let u:=user (Zd .i64 (t.kd.toNat:Int))
 let k:=rV t.kd 10
 if k=0 then(dV ⟨t.li,u,0,0,0,s9 t⟩).val
 else if k=1 then(cI ⟨t.li,Zu,0,[82],nb t.gy t.de,s9 t⟩).val
 else if k=2 then(dN ⟨⟨t.li,Zu,0,[82],nb t.gy t.de,nb t.gy t.de⟩,0,0,[115],[]⟩).val
 else if k=3 then(dM (s9 t) t.li).val
 else if k=4 then(aV ⟨2,⟨[],[],[]⟩,0,[82],nb t.gy t.de,[115],[],s9 t⟩).val
 else if k=5 then(cg ⟨1,0,s9 t⟩).val
 else if k=6 then(eM ⟨Zd .i64 (1+Int.tmod (Zd .i64 (Int.tdiv (Zd .i64 (t.kd.toNat:Int)) 10)) 3),u,s9 t⟩).val
 else if k=7 then(py ⟨[],0,0,Zd .i64 (t.de.toNat:Int)⟩ t.li (ic t.se)).val
 else if k=8 then(px ⟨[],0,0,Zd .i64 (t.de.toNat:Int)⟩ t.li (ic t.se)).val
 else s9 t
def rL(t:lO):Bytes:=bif Int.tmod t.hw 32==13 then qG (ov t) (Zd .u16 (Int.tdiv t.hw 32)) else ov t
theorem la{c:Prop}[Decidable c]{a b:Bytes}(h1:a.length<=3000)(h2:b.length<=3000):(if c then a else b).length<=3000:=by
 split
 ·exact h1
 ·exact h2
theorem oO{n m:Nat}(h:n<=m)(hm:m<=3000):n<=3000:=Zf h hm
theorem Da(p:oW)(li:Bool)(k:Int):(py p li k).val.length<=2100:=by
 have h:=qk p li 6 k;have hh:(header 7 li).length<=2:=by cases li<;>decide
 unfold py;split
 ·exact Yk _
 ·simp only[zL,Yy,af];omega
theorem C'(p:oW)(li:Bool)(k:Int):(px p li k).val.length<=2100:=by
 have h:=qk p li 5 k;have hh:(header 6 li).length<=2:=by cases li<;>decide
 unfold px;split
 ·exact Yk _
 ·simp only[zL,Yy,af];omega
theorem xr(t:lO):(ov t).length<=3000 :=
 la (oO (xO _) (by decide)) <| la (oO (Lh _) (by decide)) <| la (oO (P1 _) (by decide)) <| la (oO (AR _ _) (by decide)) <| la (oO (CI _) (by decide)) <|
  la (oO (CH _) (by decide)) <| la (oO (Ez _) (by decide)) <| la (oO (Da _ _ _) (by decide)) <| la (oO (C' _ _ _) (by decide)) (oO (Jq t) (by decide))
theorem wR(t:lO):(rL t).length<=6001:=by
 have h:=xr t;unfold rL;cases Int.tmod t.hw 32==13
 ·exact Zf h (by decide)
 ·have:=KN (ov t) (Zd .u16 (Int.tdiv t.hw 32));exact Zf this (by omega)
def WH:Bytes:=(cI ⟨Zu,Zu,0,[82],(fz ⟨Zu,⟨(aM []).client.name,(aM []).client.inst,(aM []).client.aJ⟩,(aM []).address,(aM []).aG,(aM []).cj,(aM []).cD,(aM []).service,(aM []).inst⟩ (qN 1)).val,[]⟩).val
def SU:Kn:=leak (kn [] []) (qN 1)
def Ll:Kn:=learn (kn (cV SU.keys) (cF SU.boxes)) WH
theorem O6:Ll.keys.length<=100000000:=by decide +kernel
theorem O5:Ll.keys.contains (aG 0)=Zb:=by decide +kernel
noncomputable def QR:Option (AV×aC):=kE (C4 (cV Ll.keys) (aG 0)) fun b=>aD b (Zw (.bool Zb,[])) (Zw (.bool Zu,[]))
theorem O4:QR=some (.bool Zb,[]):=by
 unfold QR;rw[BB _ O6,O5];rfl
end Kerb
namespace Kerb
open Go Go.Abs
end Kerb
/- Chapter 27: sequences of messages and leaked keys. -/
namespace Kerb
open Go Go.Abs
def ni:AV->Bool
 | .agg [.u8 _,.u8 _,.u8 _,.u8 _,.u8 _,.bool _,.int .u16 hw]=>Zy (0<=hw)&&Zy (hw<=65535)
 | _=>Zu
def PC:lO:=⟨0,0,0,0,0,false,0⟩
def nv:AV->lO
 | .agg [.u8 kd,.u8 bx,.u8 se,.u8 gy,.u8 de,.bool li,.int .u16 hw]=>⟨kd,bx,se,gy,de,li,hw⟩
 | _=>PC
def gO(ls:List AV)(n:Nat):List Bytes:=(Zp ls.length).map fun i=>rL (nv (ls.getD ((i+n) % ls.length) .undef))
def gN(lk:Bytes)(n:Nat):List Int:=(Zp (min 6 lk.length)).map fun i=>ic (lk.getD ((i+n) % min 6 lk.length) 0)
def mG(ls:List AV)(lk:Bytes)(turn:Int):Kn:=Ld (gO ls turn.toNat) (gN lk turn.toNat)
end Kerb
/- Chapter 27: the statements about sequences of messages, in plain words. -/
namespace Kerb
open Go Go.Abs
theorem Bi(s:Kn):lS (close s)<=lS s :=
 (wx (P:=fun t=>lS t<=lS s) (fun t b h gb go=>Zf (Nat.le_of_lt (nZ gb go)) h) s (Zm _)).1
theorem J2(s:Kn)(b:Bytes):lS (learn s b)<=lS s+2*b.length+2026:=by
 have h1:=Bi (s.add ⟨[],partsOf b⟩);have hp:=mS b;have h2:=Co s ⟨[],partsOf b⟩ (m:=b.length+1012) hp.1;have h3:(partsOf b).length*(b.length+1012+1)<=2*(b.length+1012+1):=Nat.mul_le_mul_right _ hp.2;unfold learn;simp only[List.length_nil] at h2;omega
theorem Mv(s:Kn)(k:Int):lS (leak s k)<=lS s+1:=by
 have h1:=Bi (s.add ⟨cq [k],[]⟩);have hp:=oF k;have h2:=Co s ⟨cq [k],[]⟩ (m:=0) (by simp);unfold leak;simp only[List.length_nil] at h2;omega
structure Fit (s:Kn) (n:Nat):Prop where
 LG:eL s
 lS:lS s<=n
theorem Q4:Fit zy 0:=⟨⟨rfl,fun b h=>(nomatch h),by decide⟩,by decide⟩
theorem Fit.learn{s:Kn}{n:Nat}(h:Fit s n){b:Bytes}(hb:b.length<=6001)(hn:n<=900000):Fit (learn s b) (n+14028):=by
 have h1:=J2 s b;have h2:=h.lS;exact⟨(h.LG.parts (by omega)).close,by omega⟩
theorem Fit.leak{s:Kn}{n:Nat}(h:Fit s n){k:Int}(hn:n<=900000):Fit (leak s k) (n+1):=by
 have h1:=Mv s k;have h2:=h.lS;exact⟨(h.LG.Mw (by omega)).close,by omega⟩
theorem sD{α β:Type}(f:β->α->β)(s:β)(d:α):∀ {l:List α} {i:Nat},i<l.length->(l.take (i+1)).foldl f s=f ((l.take i).foldl f s) (l.getD i d):=by
 intro l i h;rw[List.take_add_one,List.foldl_append];simp[Zk,h]
theorem yH{l:List Bytes}(h:∀ b∈l,b.length<=6001)(hl:l.length<=12):∀ i,i<=l.length->Fit ((l.take i).foldl Kerb.learn zy) (i*14028)
 | 0,_=>by simpa using Q4
 | i+1,hi=>by
  rw[sD _ _ [] hi,Nat.succ_mul];refine(yH h hl i (by omega)).learn ?_ (by omega);have:l.getD i []=l[i]:=by simp only[Zk,Zq (show i<l.length from hi),Option.getD_some]
  rw[this];exact h _ (List.getElem_mem _)
theorem yG{s:Kn}{n:Nat}(h:Fit s n){l:List Int}(hl:l.length<=300)(hn:n<=500000):∀ i,i<=l.length->Fit ((l.take i).foldl Kerb.leak s) (n+i)
 | 0,_=>by simpa using h
 | i+1,hi=>by
  rw[sD _ _ 0 hi];exact(yG h hl hn i (by omega)).leak (by omega)
theorem ij(ls:List AV)(n:Nat):(gO ls n).length=ls.length:=by simp[gO]
theorem BK(ls:List AV)(n:Nat):∀ b∈gO ls n,b.length<=6001:=by
 intro b hb;simp only[gO,List.mem_map] at hb;obtain⟨i,_,rfl⟩:=hb;exact wR _
theorem J_{ls:List AV}{n i:Nat}(h:i<ls.length):(gO ls n).getD i []=rL (nv (ls.getD ((i+n) % ls.length) .undef)):=by
 simp[gO,Zk,h]
theorem l7(lk:Bytes)(n:Nat):(gN lk n).length=min 6 lk.length:=by simp[gN]
theorem JY{lk:Bytes}{n i:Nat}(h:i<min 6 lk.length):(gN lk n).getD i 0=ic (lk.getD ((i+n) % min 6 lk.length) 0):=by
 unfold gN;rw[Zk,List.getElem?_map,List.getElem?_range h];rfl
theorem Bh{ls:List AV}(lk:Bytes)(turn:Int)(h:ls.length<=12):Fit (mG ls lk turn) 200000:=by
 have h1:=yH (BK ls turn.toNat) (by rw[ij];exact h) _ (Zm _);rw[Yw,ij] at h1;have h2:=yG h1 (l:=gN lk turn.toNat) (by rw[l7];omega) (by omega) _ (Zm _);rw[Yw,l7] at h2;exact⟨h2.LG,Zf h2.lS (by omega)⟩
theorem turned{p:Nat->Prop}{N:Nat}(n:Nat):(∃ i,i<N/\p ((i+n) % N))↔∃ i,i<N/\p i:=by
 constructor
 ·rintro⟨i,hi,hp⟩;exact⟨(i+n) % N,Nat.mod_lt _ (by omega),hp⟩
 ·rintro⟨i,hi,hp⟩;refine⟨(i+(N-n % N)) % N,Nat.mod_lt _ (by omega),?_⟩;have eY:n % N<N:=Nat.mod_lt _ (by omega);have:((i+(N-n % N)) % N+n) % N=i:=by
   rw[Nat.add_mod,Nat.mod_mod,<-Nat.add_mod];have e:i+(N-n % N)+n=i+N*(n / N+1):=by
    have:=Nat.div_add_mod n N;rw[Nat.mul_add,Nat.mul_one];omega
   rw[e,Nat.add_mul_mod_self_left,Nat.mod_eq_of_lt hi]
  rw[this];exact hp
theorem HB(ls:List AV)(n:Nat)(b:Bytes):b∈gO ls n↔b∈gO ls 0:=by
 have h:=turned (p:=fun i=>rL (nv (ls.getD i .undef))=b) (N:=ls.length) n;have h0:=turned (p:=fun i=>rL (nv (ls.getD i .undef))=b) (N:=ls.length) 0;simp only[gO,List.mem_map,Zg];exact h.trans h0.symm
theorem Hp(lk:Bytes)(n:Nat)(k:Int):k∈gN lk n↔k∈gN lk 0:=by
 have h:=turned (p:=fun i=>ic (lk.getD i 0)=k) (N:=min 6 lk.length) n;have h0:=turned (p:=fun i=>ic (lk.getD i 0)=k) (N:=min 6 lk.length) 0;simp only[gN,List.mem_map,Zg];exact h.trans h0.symm
theorem tD(ls:List AV)(lk:Bytes)(turn:Int):Full (fun b=>∃ m∈gO ls 0,b∈partsOf m) (fun k=>k∈cq (gN lk 0)) (mG ls lk turn):=by
 refine pd (fun b=> ?_) (fun k=> ?_) (GW (gO ls turn.toNat) (gN lk turn.toNat))
 ·simp only[HB]
 ·simp only[cq,List.mem_filter,Hp]
theorem GV(ls:List AV)(lk:Bytes)(m n:Int):(mG ls lk m).keys=(mG ls lk n).keys/\(mG ls lk m).boxes.length=(mG ls lk n).boxes.length/\∀ b∈(mG ls lk m).boxes,b∈(mG ls lk n).boxes :=
 JA (tD ls lk m) (tD ls lk n)
theorem D4{ls:List AV}(lk:Bytes)(n:Int){i:Nat}(h:i<ls.length):∀ b∈partsOf (rL (nv (ls.getD i .undef))),∃ m∈gO ls 0,b∈partsOf m:=fun b hb =>
 ⟨_,by
  simp only[gO,List.mem_map,Zg];exact⟨i,h,by rw[Nat.add_zero,Nat.mod_eq_of_lt h]⟩,hb⟩
theorem D5{ls:List AV}(lk:Bytes)(n:Int){i:Nat}(h:i<ls.length):learn (mG ls lk n) (rL (nv (ls.getD i .undef)))=mG ls lk n :=
 E8 (tD ls lk n) (D4 lk n h)
def lO.av(t:lO):AV := .agg [.u8 t.kd,.u8 t.bx,.u8 t.se,.u8 t.gy,.u8 t.de,.bool t.li,.int .u16 t.hw]
theorem MT{a:AV}(h:ni a=Zb):∃ t:lO,a=t.av/\0<=t.hw/\t.hw<=65535/\nv a=t:=by
 unfold ni at h;split at h
 ·rename_i kd bx se gy de li hw;simp only[Yu,Qa2] at h;exact⟨⟨kd,bx,se,gy,de,li,hw⟩,rfl,h.1,h.2,rfl⟩
 ·cases h
theorem GF{ls:List AV}(h:ls.all ni=Zb){i:Nat}(hi:i<ls.length):∃ t:lO,ls.getD i .undef=t.av/\0<=t.hw/\t.hw<=65535/\nv (ls.getD i .undef)=t:=by
 have e:ls.getD i .undef=ls[i]:=by simp only[Zk,Zq hi,Option.getD_some]
 rw[e];exact MT (Yv.1 h _ (List.getElem_mem hi))
theorem Cd(t:lO):lO.mk t.kd t.bx t.se t.gy t.de t.li t.hw=t:=rfl
theorem Mx{n:Nat}(h:0<n):(((n:Nat):Int)==0)=Zu:=by rw[beq_eq_false_iff_ne];omega
theorem Ce{i n N:Nat}(h:i+n<=1000000):Int.tmod (Zd .i64 ((i:Int)+(n:Int))) (N:Int)=(((i+n) % N:Nat):Int):=by
 rw[wrap_i64 (by omega) (by omega),Int.tmod_eq_emod_of_nonneg (by omega)];rfl
theorem Ue(N:Nat):tP 6 (N:Int)=((min 6 N:Nat):Int):=by
 unfold tP;split<;>omega
theorem Fit.kn{s:Kn}{n:Nat}(h:Fit s n):tT (cV s.keys) (cF s.boxes)=Zb:=IU.2 h.LG
theorem Fit.pre{s:Kn}{n:Nat}(h:Fit s n)(hn:n<=900000){b:Bytes}(hb:b.length<=6001):Zy (Kerb.lS s+2*b.length+2100<=1000000)=Zb:=by
 exact Qa4 (by have:=h.lS;omega)
theorem Fit.PM{s:Kn}{n:Nat}(h:Fit s n)(hn:n<=900000):Zy (Kerb.lS s+1<=1000000)=Zb:=by
 exact Qa4 (by have:=h.lS;omega)
theorem Fit.kl{s:Kn}{n:Nat}(h:Fit s n)(hn:n<=900000):s.keys.length<=900000:=by have:=h.lS;unfold Kerb.lS at this;omega
theorem Fit.bl{s:Kn}{n:Nat}(h:Fit s n)(hn:n<=900000):s.boxes.length<=900000:=by have:=h.lS;unfold Kerb.lS at this;omega
end Kerb
namespace Kerb
theorem LP{l:List Bytes}{x:Bytes}{j:Nat}(h:j<l.length):(l.take (j+1)).contains x=((l.take j).contains x||x==l.getD j []):=by
 have e:l.take (j+1)=l.take j++[l.getD j []]:=by
  rw[List.take_add_one,Zq h];simp only[Zk,Zq h,Option.getD_some,Option.toList_some]
 rw[e,Bool.eq_iff_iff,List.contains_iff_mem,Bool.or_eq_true,List.contains_iff_mem,List.mem_append,List.mem_singleton,Qb0]
end Kerb
namespace Kerb
open Go Go.Abs
theorem Fit.lk{s:Kn}{n:Nat}(h:Fit s n)(hn:n<=900000):Zy ((cV s.keys).length<=1000000000)=Zb:=by rw[ef];exact Qa4 (by have:=h.kl hn;omega)
theorem Fit.lb{s:Kn}{n:Nat}(h:Fit s n)(hn:n<=900000):Zy ((cF s.boxes).length<=1000000000)=Zb:=by rw[c4];exact Qa4 (by have:=h.bl hn;omega)
end Kerb
/- Functions of the library that are taken as given: their contracts out of the kit's. -/
namespace Go.Abs
open Go.RowKit Go.Lib
theorem p9(c:UInt8):∀ l:List UInt8,Lib.indexByte l c=Yx c l
 | []=>rfl
 | b::l=>by
  have h1:=p9 c l;have h2:=Lib.indexByte_ge l c;simp only[Lib.indexByte,Yx,h1];rw[h1] at h2;by_cases hb:(b==c)=Zb
  ·simp[hb]
  ·simp only[hb,if_false,Bool.false_eq_true];by_cases h3:Yx c l = -1
   ·simp[h3]
   ·rw[Qa0 (by simpa using h3),Qa0 (by omega)]
section
variable {P:Program} {G:nG} {f:Nat} {fn:Func}
theorem Kept.refl{M:Nat->Prop}{w:World}{p:bj}(hn:GR w p):Kept M w p w p:=⟨rfl,rfl,rfl,Zm _,fun _ _ _=>rfl,fun _ _=>rfl,hn⟩
theorem u_ (hf : P.funcs[f]? = Zw fn) (iz : (fn.name == "runtime.NumGoroutine") = Zu) (hb : fn.body.isNone = Zb) (hn : Extern.findNext fn = Yf) (he : Extern.find fn = Zw Extern.BytealgIndexByte.indexByte) {s : Spec} {rt : Nat} (qL : G.rts f = Zw [rt])
  (hs:∀ xs bl r,s xs bl=Zw r->∃ l c,xs=[.str l,.u8 c]/\bl=[]/\r=(.int .i64 (Yx c l),[])):jJ P G f s:=by
 intro call xs bl r bs rts h1 h2 w p dc bk Bs hG eR ha tM;rw[qL] at h2;cases h2;obtain⟨l,c,rfl,rfl,hr⟩:=hs _ _ _ h1;cases hr;have qM:dc.size=2:=eR;obtain⟨v0,v1,rfl⟩:∃ a b,dc = #[a,b]:=⟨dc[0],dc[1],by apply Array.ext<;>simp[qM];intro i h1 h2;rcases i with _ | _ | i<;>first | rfl | omega⟩;have r0:=ha 0 v0 _ rfl rfl;have r1:=ha 1 v1 _ rfl rfl;have e0:∃ s:ByteArray,v0 = .string s/\s.data.toList=l:=by
  rcases r0 with(h | ⟨_,_,_,h,_⟩) | ⟨_,_,_,h,_⟩ | ⟨_,_,_,_,_,_,h,_⟩
  ·cases h with | str h=>exact⟨_,rfl,h⟩
  ·cases h
  ·cases h
  ·cases h
 have e1:v1=iW c:=by
  rcases r1 with(h | ⟨_,_,_,h,_⟩) | ⟨_,_,_,h,_⟩ | ⟨_,_,_,_,_,_,h,_⟩
  ·cases h;rfl
  ·cases h
  ·cases h
  ·cases h
 obtain⟨s,rfl,fJ⟩:=e0;subst e1;right;refine⟨.int .i64 (Yx c l),w,?_,p,Kept.refl Bs,.inl (.inl (.int (by simp))),⟨rfl,fun i j cs iq h=>by simp at h⟩⟩;rw[run_callFunc_extern hf iz hb hn he];have hr:=Lib.run_indexByteString (P:=P) s c.toNat w;rw[show(#[Value.string s,iW c]:Array Value) = #[.string s,.int .u8 c.toNat] from rfl,hr];simp[fJ,p9,Result.andThen]
theorem EI (hf : P.funcs[f]? = Zw fn) (iz : (fn.name == "runtime.NumGoroutine") = Zu) (hb : fn.body.isNone = Zb) (hn : Extern.findNext fn = Yf) (he : Extern.find fn = Zw Extern.BytealgIndexByte.indexByte) {s : Spec} {rt : Nat} (qL : G.rts f = Zw [rt])
  (hs:∀ xs bl r,s xs bl=Zw r->∃ l c,xs=[.bs l,.u8 c]/\bl=[]/\r=(.int .i64 (Yx c l),[])):jJ P G f s:=by
 intro call xs bl r bs rts h1 h2 w p dc bk Bs hG eR ha tM;rw[qL] at h2;cases h2;obtain⟨l,c,rfl,rfl,hr⟩:=hs _ _ _ h1;cases hr;have qM:dc.size=2:=eR;obtain⟨v0,v1,rfl⟩:∃ a b,dc = #[a,b]:=⟨dc[0],dc[1],by apply Array.ext<;>simp[qM];intro i h1 h2;rcases i with _ | _ | i<;>first | rfl | omega⟩;have r0:=ha 0 v0 _ rfl rfl;have r1:=ha 1 v1 _ rfl rfl;have e1:v1=iW c:=by
  rcases r1 with(h | ⟨_,_,_,h,_⟩) | ⟨_,_,_,h,_⟩ | ⟨_,_,_,_,_,_,h,_⟩
  ·cases h;rfl
  ·cases h
  ·cases h
  ·cases h
 subst e1;right;refine⟨.int .i64 (Yx c l),w,?_,p,Kept.refl Bs,.inl (.inl (.int (by simp))),⟨rfl,fun i j cs iq h=>by simp at h⟩⟩;rw[run_callFunc_extern hf iz hb hn he];have key:(Extern.BytealgIndexByte.indexByte #[v0,iW c]).run P w = .ok (.int .i64 (Yx c l)) w:=by
  rcases r0 with(h | ⟨_,_,_,h,_⟩) | ⟨_,_,_,h,_⟩ | ⟨_,_,_,_,_,_,h,_⟩
  ·cases h with
   | bs β off hl lZ yM hcell =>
    rename_i a len cap;have hb:(Extern.Bytes.bytesOf (.slice a len cap)).run P w = .ok ⟨l.toArray⟩ w:=by
     rcases yM with h0 | rfl
     ·have SI:l=[]:=Zn (by omega);subst SI;cases a with
      | none=>simp[Extern.Bytes.bytesOf];rfl
      | some a=>subst h0;simp[Extern.Bytes.bytesOf,Extern.Bytes.loadBytes];rfl
     ·have hx:=Lib.run_loadBytesX (P:=P) w (l.map fun b=>(b.toNat:Int)) ⟨β,off,Yf⟩ .empty (fun j x hj=>by
       rw[List.getElem?_map] at hj;cases hb:l[j]? with
       | none=>rw[hb] at hj;cases hj
       | some b =>
        rw[hb] at hj;simp at hj;subst hj;rw[dH];exact(hcell j b hb).2)
      have DR:Lib.bytesOf (l.map fun b=>(b.toNat:Int))=l:=by
       simp[Lib.bytesOf,Function.comp_def]
      simp only[List.length_map,hl,DR] at hx;simp only[Extern.Bytes.bytesOf];rw[hx];congr 1;apply ByteArray.ext;show(#[]:Array UInt8)++l.toArray=l.toArray;simp
    have hs:=Lib.run_indexByteString (P:=P) ⟨l.toArray⟩ c.toNat w;have e:(Extern.BytealgIndexByte.indexByte #[.slice a len cap,iW c]).run P w=(Extern.BytealgIndexByte.indexByte #[.string ⟨l.toArray⟩,.int .u8 c.toNat]).run P w:=by
     have hd:∀ (x y:Value),(Extern.BytealgIndexByte.indexByte #[x,y]).run P w=((Extern.Bytes.bytesOf x).run P w).andThen fun b w'=>(Extern.BytealgIndexByte.indexByte #[.string b,y]).run P w':=by
      intro x y;show Sem.run P (Extern.Bytes.bytesOf x >>= _) w=_;rw[Sem.run_bind];rfl
     rw[hd,hb];rfl
    rw[e,hs];simp[p9]
  ·cases h
  ·cases h
  ·cases h
 rw[key];simp[Result.andThen]
theorem G9{e t:Nat}{cap:World->Nat->Nat}{cells:World->Nat->Array Value}(jM:∀ vs (w:World),(callFunc f vs).run P w = .ok (.enter f vs) w){s:Spec}(qL:G.rts f=Zw [t]){i:TI}(x6:G.ty t=Zw i)(hk:i.kind = .slice e Zb)
  (h0:∀ a w,Calls P f #[.slice a 0 0,.int .i64 0] w fun x w'=>x = .returned (.slice a 0 0)/\w'=w)
  (h1:∀ a (n:Nat) w,0<n->n<=140737488355328->Calls P f #[.slice a 0 0,.int .i64 n] w fun x w'=>x = .returned (.slice (Zw ⟨w.heap.size,0,Yf⟩) 0 (cap w n))/\w'=w.drew.alloc (.cells (cells w n) e))
  (lZ:∀ w n,0<n->n<=140737488355328->n<=cap w n/\cap w n<=maxLen/\(cells w n).size=cap w n)
  (hs:∀ xs bl r,s xs bl=Zw r->∃ n:Int,xs=[.cK,.int .i64 n]/\0<=n/\n<=140737488355328/\bl=[]/\r=(.bE [],[])):jJ P G f s:=by
 intro call xs bl r bs rts g1 g2 w p dc bk Bs hG eR ha tM;rw[qL] at g2;cases g2;obtain⟨n,rfl,Rs,hn1,rfl,hr⟩:=hs _ _ _ g1;cases hr;have qM:dc.size=2:=eR;obtain⟨v0,v1,rfl⟩:∃ a b,dc = #[a,b]:=⟨dc[0],dc[1],by apply Array.ext<;>simp[qM];intro i h1 h2;rcases i with _ | _ | i<;>first | rfl | omega⟩;have r0:=ha 0 v0 _ rfl rfl;have r1:=ha 1 v1 _ rfl rfl;have e0:∃ a,v0 = .slice a 0 0:=by
  rcases r0 with(h | ⟨_,_,_,h,_⟩) | ⟨_,_,_,h,_⟩ | ⟨_,_,_,_,_,_,h,_⟩
  ·cases h;exact⟨_,rfl⟩
  ·cases h
  ·cases h
  ·cases h
 have e1:v1 = .int .i64 n:=by
  rcases r1 with(h | ⟨_,_,_,h,_⟩) | ⟨_,_,_,h,_⟩ | ⟨_,_,_,_,_,_,h,_⟩
  ·cases h;rfl
  ·cases h
  ·cases h
  ·cases h
 obtain⟨a,rfl⟩:=e0;subst e1;left;refine⟨jM _ w,?_⟩;have yP:jR w w p bk [] [] []:=⟨rfl,fun i j cs iq h=>by simp at h⟩;obtain⟨m,rfl⟩:=Int.eq_ofNat_of_zero_le Rs;rcases Nat.eq_zero_or_pos m with hz | hz
 ·subst hz;refine(h0 a w).mono ?_;rintro x w' ⟨rfl,rfl⟩;exact⟨_,rfl,p,Kept.refl Bs,.inr (.inl ⟨i,e,[],x6,hk,rfl,⟨rfl,.inl ⟨rfl,_,rfl⟩⟩,fun β hβ=>by cases a<;>simp[bC] at hβ⟩),⟨rfl,fun i j cs iq h=>by simp at h⟩⟩
 ·refine(h1 a m w hz (by omega)).mono ?_;rintro x w' ⟨rfl,rfl⟩;obtain⟨c1,c2,c3⟩:=lZ w m hz (by omega);refine⟨_,rfl,p,⟨rfl,rfl,rfl,by simp,fun β hβ _=> ?_,fun _ _=>rfl,fun β hβ=>Bs β (by simp at hβ;omega)⟩,.inr (.inl ⟨i,e,[],x6,hk,rfl,⟨rfl,.inr ⟨w.heap.size,cap w m,cells w m,rfl,by omega,Zm _,?_,by simp,c2,by rw[c3];omega,by simp⟩⟩,fun β hβ=> ?_⟩),⟨rfl,fun i j cs iq h=>by simp at h⟩⟩
  ·exact dg w.drew _ hβ
  ·exact dX w.drew _
  ·simp only[bC] at hβ;split at hβ
   ·cases hβ
   ·cases hβ;exact Bs _ (Zm _)
theorem EG{e t:Nat}(jM:∀ vs (w:World),(callFunc f vs).run P w = .ok (.enter f vs) w){s:Spec}(qL:G.rts f=Zw [t])
  (h0:∀ (n c:Nat) w,Calls P f #[.slice Yf n c] w fun x w'=>x = .returned (.slice Yf 0 0)/\w'=w)
  (h1:∀ (a:Addr) (n c:Nat) (xs:List Int) (w:World),xs.length=n->n<=140737488355328->(∀ i,i<n->w.cell? (a.add i)=Zw (.int .u8 (xs.getD i 0))) ->
   Calls P f #[.slice (Zw a) n c] w fun x w'=>∃ v',x = .returned v'/\w'.ownsRow w.heap.size e 1 v' n (xs.map (Value.int .u8))/\Below w.heap.size w w')
  (hs:∀ xs bl r,s xs bl=Zw r->∃ b:List UInt8,xs=[.bs b]/\b.length<=140737488355328/\bl=[]/\r=(.bs b,[])):jJ P G f s:=by
 intro call xs bl r bs rts g1 g2 w p dc bk Bs hG eR ha tM;rw[qL] at g2;cases g2;obtain⟨b,rfl,vf,rfl,hr⟩:=hs _ _ _ g1;cases hr;have qM:dc.size=1:=eR;obtain⟨v0,rfl⟩:∃ a,dc = #[a]:=⟨dc[0],by apply Array.ext<;>simp[qM];intro i hi;subst hi;rfl⟩;have r0:=ha 0 v0 _ rfl rfl;have hI:bG w p v0 (.bs b):=by
  rcases r0 with(h | ⟨_,_,_,h,_⟩) | ⟨_,_,_,h,_⟩ | ⟨_,_,_,_,_,_,h,_⟩
  ·exact h
  ·cases h
  ·cases h
  ·cases h
 left;refine⟨jM _ w,?_⟩;cases hI with
 | bs β off hl lZ yM hcell =>
  rename_i a len cap;cases a with
  | none =>
   have xZ:b=[]:=by
    rcases yM with h | h
    ·exact Zn (by omega)
    ·cases h
   subst xZ;refine(h0 len cap w).mono ?_;rintro x w' ⟨rfl,rfl⟩;exact⟨_,rfl,p,Kept.refl Bs,.inl (.inl (.bs 0 0 rfl (Zm _) (.inl rfl) fun i b hb=>by simp at hb)),⟨rfl,fun i j cs iq h=>by simp at h⟩⟩
  | some a =>
   refine(h1 a len cap (b.map fun c=>(c.toNat:Int)) w (by simp[hl]) (by omega) (fun i hi=> ?_)).mono ?_
   ·rcases yM with h | h
    ·omega
    ·cases h;have nR:b[i]? = Zw b[i]:=Zq (by omega);rw[dH];have:=(hcell i _ nR).2;rw[this];simp[iW,List.getD_eq_getElem?_getD,nR]
   ·rintro x w' ⟨v',rfl,qK,pg⟩;obtain⟨hlen,⟨rfl,hn⟩ | ⟨β',Jr,iX,rfl,hB,hh,sF,xn,hcs,fo⟩⟩:=qK
    ·have xZ:b=[]:=Zn (by omega);subst xZ;exact⟨_,rfl,p,⟨pg.os,pg.tape,pg.output,pg.size,fun β hβ _=>pg.block β hβ,fun _ _=>rfl,fun β hβ=>Bs β (Zf pg.size hβ)⟩,.inl (.inl (.bs 0 0 rfl (Zm _) (.inl rfl) fun i b hb=>by simp at hb)),⟨rfl,fun i j cs iq h=>by simp at h⟩⟩
    ·have eY:=jV hh;refine⟨_,rfl,raise p (Zw β') len,⟨pg.os,pg.tape,pg.output,pg.size,fun β hβ _=>pg.block β hβ,fun β hβ=>lD (by simp;omega),fun β hβ=> ?_⟩,.inl (.inl (.bs β' 0 hl sF (.inr rfl) fun i c hc=>⟨?_,?_⟩)),⟨rfl,fun i j cs iq h=>by simp at h⟩⟩
     ·rw[lD (by simp;omega)];exact Bs β (Zf pg.size hβ)
     ·rw[fy rfl];have:=(Yz.1 hc).1;omega
     ·have hi:i<len:=by have:=(Yz.1 hc).1;omega
      rw[Nat.zero_add,eD hh];have h2:(iX.toList.take (len*1))[i]? = Zw (iW c):=by
       rw[fo];simp[hc,iW]
      rw[List.getElem?_take,Qa1 (by omega)] at h2;simpa using h2
theorem u9{e t size:Nat}{i ei:TI}(jM:∀ vs (w:World),(callFunc f vs).run P w = .ok (.enter f vs) w){s:Spec}(qL:G.rts f=Zw [t])(x6:G.ty t=Zw i)(hk:i.kind = .slice e Zu)(T6:G.ty e=Zw ei)(hes:ei.size=size)(jh:0<size)
  (h0:∀ (n c:Nat) w,Calls P f #[.slice Yf n c] w fun x w'=>x = .returned (.slice Yf 0 0)/\w'=w)
  (h1:∀ (a:Addr) (n c:Nat) (xs:List Value) (w:World),xs.length=n*size->n<=1000000->(∀ j u,xs[j]? = Zw u->w.cell? (a.add j)=Zw u)->(∀ u∈xs,u.oneCell'=Zb) ->
   Calls P f #[.slice (Zw a) n c] w fun x w'=>∃ v',x = .returned v'/\w'.ownsRow w.heap.size e size v' n xs/\Below w.heap.size w w')
  (hs:∀ xs bl r,s xs bl=Zw r->∃ els:List AV,xs=[.sl size els]/\els.length<=1000000/\bl=[]/\r=(.aF els,[])):jJ P G f s:=by
 intro call xs bl r bs rts g1 g2 w p dc bk Bs hG eR ha tM;rw[qL] at g2;cases g2;obtain⟨els,rfl,vf,rfl,hr⟩:=hs _ _ _ g1;cases hr;have qM:dc.size=1:=eR;obtain⟨v0,rfl⟩:∃ a,dc = #[a]:=⟨dc[0],by apply Array.ext<;>simp[qM];intro i hi;subst hi;rfl⟩;have r0:=ha 0 v0 _ rfl rfl;have hI:bG w p v0 (.sl size els):=by
  rcases r0 with(h | ⟨_,_,_,h,_⟩) | ⟨_,_,_,h,_⟩ | ⟨_,_,_,_,_,_,h,_⟩
  ·exact h
  ·cases h
  ·cases h
  ·cases h
 left;refine⟨jM _ w,?_⟩;subst hes;cases hI with
 | sl β off vs hl lZ To yM hcell kY =>
  rename_i a len cap;have Rj:=ia To;cases a with
  | none =>
   have xZ:els=[]:=by
    rcases yM with h | h
    ·exact Zn (by omega)
    ·cases h
   subst xZ;refine(h0 len cap w).mono ?_;rintro x w' ⟨rfl,rfl⟩;exact⟨_,rfl,p,Kept.refl Bs,.inr (.inr (.inl ⟨i,e,ei,[],[],x6,hk,T6,rfl,jh,fun x hx=>(nomatch hx),⟨by simp,.inl ⟨rfl,_,rfl⟩⟩,aU.nil,fun β hβ=>by simp[bC] at hβ⟩)),⟨rfl,fun i j cs iq h=>by simp at h⟩⟩
  | some a =>
   have nR:∀ j u,((Zp (els.flatMap AV.cells).length).map vs)[j]? = Zw u->∃ c,(els.flatMap AV.cells)[j]? = Zw c/\u=vs j:=by
    intro j u hj;have hi:j<(els.flatMap AV.cells).length:=by have:=(Yz.1 hj).1;simpa using this
    refine⟨_,Zq hi,?_⟩;rw[List.getElem?_map,List.getElem?_range hi] at hj;cases hj;rfl
   refine(h1 a len cap ((Zp (els.flatMap AV.cells).length).map vs) w (by simp[Rj,hl]) (by omega) (fun j u hj=> ?_) (fun u hu=> ?_)).mono ?_
   ·obtain⟨c,hc,rfl⟩:=nR j u hj;have eY:=(Yz.1 hc).1;rcases yM with h | h
    ·rw[Rj,hl,h] at eY;simp at eY
    ·cases h;rw[dH];exact(hcell j c hc).2
   ·obtain⟨j,hj,rfl⟩:=List.mem_map.1 hu;exact(kY j _ (Zq (Zg.1 hj))).q_.2.1
   ·rintro x w' ⟨v',rfl,qK,pg⟩;have bz:jK w' w.heap.size e ei.size v' els.length ((Zp (els.flatMap AV.cells).length).map vs):=by
     obtain⟨hlen,⟨rfl,hn⟩ | ⟨β',Jr,iX,rfl,hB,hh,sF,xn,hcs,fo⟩⟩:=qK
     ·exact⟨by rw[hl];exact hlen,.inl ⟨by omega,_,rfl⟩⟩
     ·rw[hl];by_cases hz:Jr=0
      ·subst hz;have h9:len=0:=by omega
       subst h9;exact⟨hlen,.inl ⟨rfl,_,rfl⟩⟩
      ·exact⟨hlen,.inr ⟨β',Jr,iX,rfl,by omega,hB,hh,sF,xn,hcs,fo⟩⟩
    have X1:∀ β j,j<p β->β<w.heap.size:=fun β j hj=>by
     rcases Nat.lt_or_ge β w.heap.size with h | h
     ·exact h
     ·rw[Bs β h] at hj;omega
    refine⟨_,rfl,p,⟨pg.os,pg.tape,pg.output,pg.size,fun β hβ _=>pg.block β hβ,fun _ _=>rfl,fun β hβ=>Bs β (Zf pg.size hβ)⟩,
     .inr (.inr (.inl ⟨i,e,ei,els,_,x6,hk,T6,rfl,jh,To,bz,⟨by simp,fun j v c hv hc=> ?_⟩,fun β hβ=> ?_⟩)),⟨rfl,fun i j cs iq h=>by simp at h⟩⟩
    ·obtain⟨c',GK,rfl⟩:=nR j v hv;exact(kY j c hc).mono (fun _=>Zm _) fun β i hi=>by
      have:=pg.block β (X1 β i hi);simp only[World.cell?,this]
    ·obtain⟨_,⟨_,a',rfl⟩ | ⟨β',Jr,iX,rfl,h9,hB,_⟩⟩:=bz
     ·cases a'<;>simp[bC] at hβ
     ·simp only[bC] at hβ;rw[Qa0 (by omega)] at hβ;cases hβ;exact Bs _ hB
end
end Go.Abs
/- slices.Grow of nil, for rows of structs and numbers. -/
namespace Go.Abs
open Go.RowKit Go.Lib
section
variable {P:Program} {G:nG} {f:Nat} {fn:Func}
theorem EH{e t:Nat}{cap:World->Nat->Nat}{cells:World->Nat->Array Value}(jM:∀ vs (w:World),(callFunc f vs).run P w = .ok (.enter f vs) w){s:Spec}(qL:G.rts f=Zw [t]){i ei:TI}(x6:G.ty t=Zw i)(hk:i.kind = .slice e Zu)(T6:G.ty e=Zw ei)(jh:0<ei.size)
  (h0:∀ a w,Calls P f #[.slice a 0 0,.int .i64 0] w fun x w'=>x = .returned (.slice a 0 0)/\w'=w)
  (h1:∀ a (n:Nat) w,0<n->n<=1000000000000->Calls P f #[.slice a 0 0,.int .i64 n] w fun x w'=>x = .returned (.slice (Zw ⟨w.heap.size,0,Yf⟩) 0 (cap w n))/\w'=w.drew.alloc (.cells (cells w n) e))
  (lZ:∀ w n,0<n->n<=1000000000000->n<=cap w n/\cap w n<=maxLen/\(cells w n).size=cap w n*ei.size)
  (hs:∀ xs bl r,s xs bl=Zw r->∃ n:Int,xs=[.cK,.int .i64 n]/\0<=n/\n<=1000000000000/\bl=[]/\r=(.aF [],[])):jJ P G f s:=by
 intro call xs bl r bs rts g1 g2 w p dc bk Bs hG eR ha tM;rw[qL] at g2;cases g2;obtain⟨n,rfl,Rs,hn1,rfl,hr⟩:=hs _ _ _ g1;cases hr;have qM:dc.size=2:=eR;obtain⟨v0,v1,rfl⟩:∃ a b,dc = #[a,b]:=⟨dc[0],dc[1],by apply Array.ext<;>simp[qM];intro i h1 h2;rcases i with _ | _ | i<;>first | rfl | omega⟩;have r0:=ha 0 v0 _ rfl rfl;have r1:=ha 1 v1 _ rfl rfl;have e0:∃ a,v0 = .slice a 0 0:=by
  rcases r0 with(h | ⟨_,_,_,h,_⟩) | ⟨_,_,_,h,_⟩ | ⟨_,_,_,_,_,_,h,_⟩
  ·cases h;exact⟨_,rfl⟩
  ·cases h
  ·cases h
  ·cases h
 have e1:v1 = .int .i64 n:=by
  rcases r1 with(h | ⟨_,_,_,h,_⟩) | ⟨_,_,_,h,_⟩ | ⟨_,_,_,_,_,_,h,_⟩
  ·cases h;rfl
  ·cases h
  ·cases h
  ·cases h
 obtain⟨a,rfl⟩:=e0;subst e1;left;refine⟨jM _ w,?_⟩;have yP:jR w w p bk [] [] []:=⟨rfl,fun i j cs iq h=>by simp at h⟩;obtain⟨m,rfl⟩:=Int.eq_ofNat_of_zero_le Rs;rcases Nat.eq_zero_or_pos m with hz | hz
 ·subst hz;refine(h0 a w).mono ?_;rintro x w' ⟨rfl,rfl⟩;exact⟨_,rfl,p,Kept.refl Bs,.inr (.inr (.inl ⟨i,e,ei,[],[],x6,hk,T6,rfl,jh,fun x hx=>(nomatch hx),⟨by simp,.inl ⟨rfl,_,rfl⟩⟩,aU.nil,fun β hβ=>by cases a<;>simp[bC] at hβ⟩)),⟨rfl,fun i j cs iq h=>by simp at h⟩⟩
 ·refine(h1 a m w hz (by omega)).mono ?_;rintro x w' ⟨rfl,rfl⟩;obtain⟨c1,c2,c3⟩:=lZ w m hz (by omega);refine⟨_,rfl,p,⟨rfl,rfl,rfl,by simp,fun β hβ _=> ?_,fun _ _=>rfl,fun β hβ=>Bs β (by simp at hβ;omega)⟩,.inr (.inr (.inl ⟨i,e,ei,[],[],x6,hk,T6,rfl,jh,fun x hx=>(nomatch hx),⟨by simp,.inr ⟨w.heap.size,cap w m,cells w m,rfl,by omega,Zm _,?_,by simp,c2,c3,by simp⟩⟩,aU.nil,fun β hβ=> ?_⟩)),⟨rfl,fun i j cs iq h=>by simp at h⟩⟩
  ·exact dg w.drew _ hβ
  ·exact dX w.drew _
  ·simp only[bC] at hβ;split at hβ
   ·cases hβ
   ·cases hβ;exact Bs _ (Zm _)
end
end Go.Abs
