/- Chapter 27: the program's closure, as its loops are. -/
import Derived.Test.YteafbgcimcpfiaaGreatKerb27c
set_option linter.all false
open Bool renaming and_eq_true→Zz,false→Zy,true→Zf,not_false→Yk,not_true→Yd
open Option renaming bind→Zx,some→Zp
open Decidable renaming decide→Zw
open List renaming mem_cons_self→Zv,mem_cons_of_mem→Zq,all_eq_true→Zd,cons_append→Zg,range→Zm,getD→Zh,mem_range→Yz,any_eq_true→Yy,length_append→Yx,take_append_drop→Yw,nil_append→Yj,take_length→Yp,mem_append→Yg,mem_map→Yb
open Int renaming toNat_natCast→Zu,toNat→Zj,tmod_eq_emod_of_nonneg→Zn,tmod→Yu
open Go.IntKind renaming wrap→Zk
open Go.Abs.AV renaming bool→Zb,eX→Yn
open Nat renaming beq→Yv,le_trans→Yq,zero_le→Yf
open UInt8 renaming ofNat→Ym
namespace Kerb
open Go Go.Abs
section
variable {α:Type}
noncomputable def rO(l:List AV)(f:List AV->List AV->Option α):Option α:=ay l fun x r=>AV.aT x fun b=>f b r
noncomputable def lh(o:Option (List AV))(f:Bool->Option α):Option α:=Zx o fun l=>ay l fun x r=>aw r (AV.cW x f)
abbrev iv(n:Int):AV := .int .i64 n
abbrev up(n:Int):AV := .int .i64 (Zk .i64 (n+1))
abbrev St:=Option (List AV ⊕ (Ex×List AV))
noncomputable def xE(n:Int)(y:List AV)(f:Option α):Option α:=az (Zw (0<=n)&&Zw (n<(y.length:Int))&&Zf) f
noncomputable def Cl(n:Int)(y:List AV)(f:Option α):Option α:=xE n y (az (Nat.blt (Zj n) y.length&&Zf) f)
noncomputable def X8(y:List AV)(k:Int)(l:List AV):St:=ak .i64 l fun n r=>ak .i64 r fun i r=>aw r
 (aE (Zw (i<(y.length:Int))) (Cl i y (AV.ax .u64 (y.getD (Zj i) .undef) fun q=>aE (k==q) (Zp (.inr (.ret,[iv i,iv i]))) (Zp (.inl [iv n,up i]))))
  (Zp (.inr (.exit 0,[iv n,iv i]))))
noncomputable def GL(r:Ex×List AV):Option (List AV):=ak .i64 r.2 fun n r1=>ak .i64 r1 fun _ r2=>aw r2 (jO r.1 (Zp [.bool (Zw (n>=0))]) fun j=>aE (Yv j 0) (Zp [.bool Zy]) none)
noncomputable def OG(y:List AV)(k:Int):Option (List AV):=Zx (bF (X8 y k) [iv 0,iv 0]) GL
noncomputable def uF(y:List AV)(k:Int):Option (List AV):=lh (OG y k) fun b=>Zp [.bool !b]
noncomputable def aa1(y kl:List AV)(l:List AV):St:=ak .i64 l fun n r=>ak .i64 r fun i r=>aw r
 (aE (Zw (i<(kl.length:Int))) (xE i kl (AV.ax .u64 (kl.getD (Zj i) .undef) fun q=>lh (uF y q) fun b=>aE b (Zp (.inr (.ret,[iv i,iv i]))) (Zp (.inl [iv n,up i]))))
  (Zp (.inr (.exit 0,[iv n,iv i]))))
noncomputable def ZT(y kl:List AV):Option (List AV):=Zx (bF (aa1 y kl) [iv 0,iv 0]) GL
noncomputable def X'(y:List AV)(b:List UInt8)(l:List AV):St:=aG l fun c r=>ak .i64 r fun i r=>aw r
 (aE (Zw (i<(y.length:Int))) (Cl i y (Yn (y.getD (Zj i) .undef) fun q=>aE (q==b) (Zp (.inr (.ret,[.bool Zy,iv i]))) (Zp (.inl [.bool c,up i]))))
  (Zp (.inr (.exit 0,[.bool c,iv i]))))
noncomputable def wL(y:List AV)(b:List UInt8):Option (List AV):=Zx (bF (X' y b) [.bool Zy,iv 0]) fun r=>aG r.2 fun c r1=>ak .i64 r1 fun _ r2=>aw r2 (jO r.1 (Zp [.bool c]) fun j=>aE (Yv j 0) (Zp [.bool Zf]) none)
noncomputable def aa0(y bl:List AV)(l:List AV):St:=ak .i64 l fun n r=>ak .i64 r fun i r=>aw r
 (aE (Zw (i<(bl.length:Int))) (xE i bl (Yn (bl.getD (Zj i) .undef) fun q=>lh (wL y q) fun b=>aE b (Zp (.inr (.ret,[iv i,iv i]))) (Zp (.inl [iv n,up i]))))
  (Zp (.inr (.exit 0,[iv n,iv i]))))
noncomputable def ZS(y bl:List AV):Option (List AV):=Zx (bF (aa0 y bl) [iv 0,iv 0]) GL
noncomputable def Q'(y:List AV)(q:Int)(f:List AV->Option α):Option α:=Zx (az (ep y&&Ld (B9 y q)&&Zw ((y.length:Int)<=100000000)) (Zp (AV.aF (B9 y q),([]:List (List AV))))) fun r=>aO r.2 (AV.aT r.1 f)
noncomputable def Ss(kl:List AV)(l:List AV):St:=ak .i64 l fun n r=>rO r fun y r=>rO r fun y1 r=>rO r fun y2 r=>aw r
 (aE (Zw (n<(kl.length:Int))) (xE n kl (AV.ax .u64 (kl.getD (Zj n) .undef) fun q=>lh (uF y q) fun b =>
   aE b (Q' y q fun l=>Zp (.inl [up n,.aF l,.aF y1,.aF y2])) (Zp (.inl [up n,.aF y,.aF y1,.aF y2]))))
  (Zp (.inr (.exit 0,[iv n,.aF y,.aF y1,.aF y2]))))
noncomputable def Nj(bl:List AV)(l:List AV):St:=ak .i64 l fun n r=>rO r fun y r=>rO r fun y1 r=>rO r fun y2 r=>aw r
 (aE (Zw (n<(bl.length:Int))) (xE n bl (Yn (bl.getD (Zj n) .undef) fun q=>lh (wL y1 q) fun b =>
   aE b (az (Go.Abs.room (y1.length+[AV.bs q].length) 24) (Zp (.inl [up n,.aF y,.aF (y1++[.bs q]),.aF y2]))) (Zp (.inl [up n,.aF y,.aF y1,.aF y2]))))
  (Zp (.inr (.exit 2,[iv n,.aF y,.aF y1,.aF y2]))))
noncomputable def CN(b:Bool)(n:Int)(kl bl y y1 y2:List AV):St :=
 Zx (bF (Ss kl) [iv 0,.aF y,.aF y1,.aF y2]) fun r=>ak .i64 r.2 fun _ r1=>rO r1 fun y r2=>rO r2 fun y7 r3=>rO r3 fun y8 r4=>aw r4
  (jO r.1 (Zp (.inl [.bool b,up n,.aF y,.aF y7,.aF y8])) fun j=>aE (Yv j 0)
   (Zx (bF (Nj bl) [iv 0,.aF y,.aF y7,.aF y8]) fun r=>ak .i64 r.2 fun _ r1=>rO r1 fun y r2=>rO r2 fun y9 r3=>rO r3 fun y10 r4=>aw r4
    (jO r.1 (Zp (.inl [.bool b,up n,.aF y,.aF y9,.aF y10])) fun j=>aE (Yv j 2) (Zp (.inr (.ret,[.bool Zf,iv n,.aF y,.aF y9,.aF y10]))) none))
   none)
noncomputable def Df(b:Bool)(n:Int)(y y1 y2:List AV)(t:List UInt8):St :=
 Zx (az (Zw (t.length<=140737488355328)) (Zp (AV.aS [.agg [.int .i64 (aW t).box.kind,.int .u64 (aW t).box.key,.bs (aW t).box.body],.int .i64 (aW t).n,.int .i64 (aW t).err],([]:List (List AV))))) fun r=>aO r.2 (AV.f_ r.1 fun vs=>ay vs fun x r=>AV.eL x fun cs=>ak .i64 cs fun kd r1=>ak .u64 r1 fun ky r1=>bu r1 fun bd r1=>aw r1 (ak .i64 r fun _ r=>ak .i64 r fun er r=>aw r
  (aE (!(er==0)) (Zp (.inl [.bool b,up n,.aF y,.aF y1,.aF y2])) (lh (uF y ky) fun b6=>aE b6 (Zp (.inl [.bool b,up n,.aF y,.aF y1,.aF y2]))
   (Zx (az (Zw (bd.length<=70368744170000)) (Zp (AV.aS [.sl 1 (dy (iJ ⟨kd,ky,bd⟩).keys),.sl 1 (c8 (iJ ⟨kd,ky,bd⟩).boxes)],([]:List (List AV))))) fun r=>aO r.2 (AV.f_ r.1 fun vs=>cO 1 vs fun kl r=>cO 1 r fun bl r=>aw r
    (lh (ZT y kl) fun b9=>aE (!b9) (lh (ZS y1 bl) fun b10=>aE (!b10) (Zp (.inl [.bool b,up n,.aF y,.aF y1,.aF (nQ (iv n) (.bool Zf) y2)])) (CN b n kl bl y y1 (nQ (iv n) (.bool Zf) y2))) (CN b n kl bl y y1 (nQ (iv n) (.bool Zf) y2)))))))))
noncomputable def KN(y3:List AV)(l:List AV):St:=aG l fun b r=>ak .i64 r fun n r=>rO r fun y r=>rO r fun y5 r=>rO r fun y6 r=>aw r
 (aE (Zw (n<(y3.length:Int))) (AV.cW (getM (iv n) y6 (.bool Zy)) fun b3=>aE (!b3) (Cl n y5 (Yn (y5.getD (Zj n) .undef) fun t=>Df b n y y5 y6 t)) (Zp (.inl [.bool b,up n,.aF y,.aF y5,.aF y6])))
  (Zp (.inr (.exit 0,[.bool b,iv n,.aF y,.aF y5,.aF y6]))))
noncomputable def TO(l:List AV):St:=rO l fun y r=>rO r fun y3 r=>rO r fun y4 r=>aw r
 (Zx (bF (KN y3) [.bool Zy,iv 0,.aF y,.aF y3,.aF y4]) fun r=>aG r.2 fun b r1=>ak .i64 r1 fun _ r1=>rO r1 fun y r1=>rO r1 fun y5 r1=>rO r1 fun y6 r1=>aw r1
  (jO r.1 (aE b (Zp (.inl [.aF y,.aF y5,.aF y6])) (Zp (.inr (.exit 0,[.aF y,.aF y5,.aF y6])))) fun j=>aE (Yv j 0) (Zp (.inr (.exit 0,[.aF y,.aF y5,.aF y6]))) none))
noncomputable def Lv(y y1 y2:List AV):Option (AV×aD):=Zx (bF TO [.aF y,.aF y1,.aF y2]) fun r=>rO r.2 fun y r1=>rO r1 fun y3 r1=>rO r1 fun _ r1=>aw r1
 (jO r.1 (Zp (.agg [.sl 1 y,.sl 1 y3],[])) fun j=>aE (Yv j 0) (Zp (.agg [.sl 1 y,.sl 1 y3],[])) none)
noncomputable def SX(l:List AV):St:=cO 1 l fun b r=>cO 1 r fun b1 r=>rO r fun y r=>rO r fun y1 r=>rO r fun y2 r=>cO 1 r fun b2 r=>ak .i64 r fun n r=>ak .i64 r fun i r=>aw r
 (aE (Zw (i<n)) (xE i b2 (Yn (b2.getD (Zj i) .undef) fun q=>lh (wL y1 q) fun c =>
   aE c (az (Go.Abs.room (y1.length+[AV.bs q].length) 24) (Zp (.inl [.sl 1 b,.sl 1 b1,.aF y,.aF (y1++[.bs q]),.aF y2,.sl 1 b2,iv n,up i]))) (Zp (.inl [.sl 1 b,.sl 1 b1,.aF y,.aF y1,.aF y2,.sl 1 b2,iv n,up i]))))
  (Zp (.inr (.exit 0,[.sl 1 b,.sl 1 b1,.aF y,.aF y1,.aF y2,.sl 1 b2,iv n,iv i]))))
noncomputable def Rl(ks bs:List AV)(f:List AV->List AV->Option α):Option α:=Zx (az (ep ks&&Zw (ks.length<=1000000)) (Zp (AV.aF ks,([]:List (List AV))))) fun r=>aO r.2 (AV.aT r.1 fun l=>Zx (az (vK bs&&Zw (bs.length<=1000000)) (Zp (AV.aF bs,([]:List (List AV))))) fun r=>aO r.2 (AV.aT r.1 fun l1=>f l l1))
noncomputable def Je(ks bs:List AV)(b:List UInt8):Option (AV×aD):=Rl ks bs fun l l1 =>
 Zx (az (Zw (b.length<=70368744170000)) (Zp (AV.sl 1 (c8 (partsOf b)),([]:List (List AV))))) fun r=>aO r.2 (AV.ik 1 r.1 fun p =>
  Zx (bF SX [.sl 1 [],.sl 1 [],.aF l,.aF l1,.aF [],.sl 1 p,iv p.length,iv 0]) fun r=>cO 1 r.2 fun b r1=>cO 1 r1 fun b1 r1=>rO r1 fun y r1=>rO r1 fun y1 r1=>rO r1 fun y2 r1=>cO 1 r1 fun _ r1=>ak .i64 r1 fun _ r1=>ak .i64 r1 fun _ r1=>aw r1
   (jO r.1 (Zp (.agg [.sl 1 b,.sl 1 b1],[])) fun j=>aE (Yv j 0) (Lv y y1 y2) none))
noncomputable def OI(ks bs:List AV)(k:Int):Option (AV×aD):=Rl ks bs fun l l1 =>
 Zx (az (Zw (0<=k)&&Zw (k<18446744073709551616)) (Zp (Zb (bm k),([]:List (List AV))))) fun r=>aO r.2 (AV.cW r.1 fun v =>
  Zx (aE v (lh (uF l k) fun b=>aE b (Q' l k fun l=>Zp [.sl 1 [],.sl 1 [],.aF l,.aF l1,.aF []]) (Zp [.sl 1 [],.sl 1 [],.aF l,.aF l1,.aF []])) (Zp [.sl 1 [],.sl 1 [],.aF l,.aF l1,.aF []]))
   fun l=>cO 1 l fun _ r=>cO 1 r fun _ r=>rO r fun y r=>rO r fun y1 r=>rO r fun y2 r=>aw r (Lv y y1 y2))
end
theorem oF{β:Type}{step:List AV->St}{k:Ex×List AV->Option β}{A:β}(e:Nat->List AV)(N:Nat)(hs:∀ i,i<N->step (e i)=Zp (.inl (e (i+1))))(he:∃ r,step (e N)=Zp (.inr r)/\k r=Zp A){t:List AV}(ht:t=e 0):Zx (bF step t) k=Zp A:=by
 refine cm (enc:=e) (I:=fun i=>i<=N) (μ:=fun i=>N-i) (R:=fun r=>k r=Zp A) 0 (Yf _) ht ?_ fun r h=>h;intro i hi;by_cases h:i<N
 ·exact⟨_,hs i h,i+1,rfl,h,show N-(i+1)<N-i by omega⟩
 ·obtain rfl:i=N:=by omega
  obtain⟨r,h1,h2⟩:=he;exact⟨_,h1,h2⟩
theorem o8{β:Type}{step:List AV->St}{k:Ex×List AV->Option β}{A B:β}(e:Nat->List AV)(N:Nat)(p:Nat->Bool)(hs:∀ i,i<N->p i=Zy->step (e i)=Zp (.inl (e (i+1))))(hr:∀ i,i<N->p i=Zf->∃ r,step (e i)=Zp (.inr r)/\k r=Zp A)
  (he:∃ r,step (e N)=Zp (.inr r)/\k r=Zp B) {t:List AV} (ht:t=e 0):Zx (bF step t) k=Zp (bif (Zm N).any p then A else B):=by
 refine cm (enc:=e) (I:=fun i=>i<=N/\∀ j,j<i->p j=Zy) (μ:=fun i=>N-i) (R:=fun r=>k r=Zp (bif (Zm N).any p then A else B)) 0 ⟨Yf _,fun j h=>by omega⟩ ht ?_ fun r h=>h;rintro i ⟨hi,hj⟩;by_cases h:i<N
 ·cases hp:p i with
  | false=>exact⟨_,hs i h hp,i+1,rfl,⟨h,fun j Iw=>by by_cases SJ:j=i;(· subst SJ;exact hp);exact hj j (by omega)⟩,show N-(i+1)<N-i by omega⟩
  | true =>
   obtain⟨r,h1,h2⟩:=hr i h hp;have:(Zm N).any p=Zf:=Yy.2 ⟨i,Yz.2 h,hp⟩;exact⟨_,h1,by show k r=_;rw[h2,this];rfl⟩
 ·obtain rfl:i=N:=by omega
  obtain⟨r,h1,h2⟩:=he;have:(Zm i).any p=Zy:=by
   rw[List.any_eq_false];intro x hx;rw[hj x (Yz.1 hx)];exact Bool.false_ne_true
  exact⟨_,h1,by show k r=_;rw[h2,this];rfl⟩
theorem kU{α:Type}(l:List α)(d:α)(f:α->Bool):(Zm l.length).any (fun i=>f (l.getD i d))=l.any f:=by
 rw[Bool.eq_iff_iff,Yy,Yy];constructor
 ·rintro⟨i,hi,h⟩;have hi:=Yz.1 hi;exact⟨l[i],List.getElem_mem hi,by simpa [Zh,hi] using h⟩
 ·rintro⟨x,hx,h⟩;obtain⟨i,hi,rfl⟩:=List.mem_iff_getElem.1 hx;exact⟨i,Yz.2 hi,by simpa [Zh,hi] using h⟩
theorem rh(l:List Int)(k:Int):l.any (fun x=>k==x)=l.contains k:=by grind
theorem pH(l:List Bytes)(k:Bytes):l.any (fun x=>x==k)=l.contains k:=by grind
theorem vB{i:Nat}(h:i<=1000000000):up (i:Int)=iv ((i+1:Nat):Int):=by
 unfold up iv;rw[wrap_i64 (by omega) (by omega)];rfl
theorem jS{α:Type}{i:Nat}{y:List AV}(h:i<y.length)(f:Option α):xE (i:Int) y f=f:=by
 unfold xE;exact ae (by simp;omega) f
theorem wF{α:Type}{i:Nat}{y:List AV}(h:i<y.length)(f:Option α):Cl (i:Int) y f=f:=by
 unfold Cl;rw[jS h];exact ae (by simp[Nat.blt_eq];omega) f
theorem p9{i:Nat}{y:List AV}(h:i<y.length):Zw ((i:Int)<(y.length:Int))=Zf:=by simp;omega
theorem Jm{y:List AV}:Zw ((y.length:Int)<(y.length:Int))=Zy:=by simp
theorem OH{K:List Int}(k:Int)(h:K.length<=100000000):OG (dy K) k=Zp [.bool (K.contains k)]:=by
 have e:OG (dy K) k=Zp (bif (Zm (dy K).length).any (fun i=>k==K.getD i 0) then[Zb Zf] else[Zb Zy]):=by
  refine o8 (fun i=>[iv 0,iv i]) _ _ ?_ ?_ ?_ rfl
  ·intro i hi hp;have ji:i<K.length:=by rw[<-fv];exact hi
   show aE (Zw ((i:Int)<((dy K).length:Int))) (Cl i (dy K) (AV.ax .u64 ((dy K).getD (Zj i) .undef) _)) _=_;rw[ah (p9 hi),wF hi,Zu,kG ji];show aE (k==K.getD i 0) _ _=_;rw[aj hp,vB (by omega)]
  ·intro i hi hp;have ji:i<K.length:=by rw[<-fv];exact hi
   refine⟨(.ret,[iv i,iv i]),?_,?_⟩
   ·show aE (Zw ((i:Int)<((dy K).length:Int))) (Cl i (dy K) (AV.ax .u64 ((dy K).getD (Zj i) .undef) _)) _=_;rw[ah (p9 hi),wF hi,Zu,kG ji];show aE (k==K.getD i 0) _ _=_;rw[ah hp]
   ·show Zp [Zb (Zw ((i:Int)>=0))]=_;rw[show Zw ((i:Int)>=0)=Zf by simp]
  ·refine⟨(.exit 0,[iv 0,iv (dy K).length]),?_,rfl⟩;show aE (Zw (((dy K).length:Int)<((dy K).length:Int))) _ _=_;rw[aj Jm]
 rw[e,fv,kU K 0 (fun x=>k==x),rh];cases K.contains k<;>rfl
theorem sM{K:List Int}(k:Int)(h:K.length<=100000000):uF (dy K) k=Zp [.bool (!K.contains k)]:=by
 unfold uF;rw[OH k h];rfl
theorem Tw{K:List Int}(L:List Int)(h:K.length<=100000000)(hl:L.length<=100000000):ZT (dy K) (dy L)=Zp [.bool (L.any fun k => !K.contains k)]:=by
 have e:ZT (dy K) (dy L)=Zp (bif (Zm (dy L).length).any (fun i => !K.contains (L.getD i 0)) then[Zb Zf] else[Zb Zy]):=by
  refine o8 (fun i=>[iv 0,iv i]) _ _ ?_ ?_ ?_ rfl
  ·intro i hi hp;have ji:i<L.length:=by rw[<-fv];exact hi
   show aE (Zw ((i:Int)<((dy L).length:Int))) (xE i (dy L) (AV.ax .u64 ((dy L).getD (Zj i) .undef) _)) _=_;rw[ah (p9 hi),jS hi,Zu,kG ji];show lh (uF (dy K) (L.getD i 0)) _=_;rw[sM _ h];show aE (!K.contains (L.getD i 0)) _ _=_;rw[aj hp,vB (by omega)]
  ·intro i hi hp;have ji:i<L.length:=by rw[<-fv];exact hi
   refine⟨(.ret,[iv i,iv i]),?_,?_⟩
   ·show aE (Zw ((i:Int)<((dy L).length:Int))) (xE i (dy L) (AV.ax .u64 ((dy L).getD (Zj i) .undef) _)) _=_;rw[ah (p9 hi),jS hi,Zu,kG ji];show lh (uF (dy K) (L.getD i 0)) _=_;rw[sM _ h];show aE (!K.contains (L.getD i 0)) _ _=_;rw[ah hp]
   ·show Zp [Zb (Zw ((i:Int)>=0))]=_;rw[show Zw ((i:Int)>=0)=Zf by simp]
  ·refine⟨(.exit 0,[iv 0,iv (dy L).length]),?_,rfl⟩;show aE (Zw (((dy L).length:Int)<((dy L).length:Int))) _ _=_;rw[aj Jm]
 rw[e,fv,kU L 0 (fun x => !K.contains x)];cases L.any fun k => !K.contains k<;>rfl
theorem wM{B:List Bytes}(b:Bytes)(h:B.length<=100000000):wL (c8 B) b=Zp [.bool (!B.contains b)]:=by
 have e:wL (c8 B) b=Zp (bif (Zm (c8 B).length).any (fun i=>B.getD i []==b) then[Zb Zy] else[Zb Zf]):=by
  refine o8 (fun i=>[.bool Zy,iv i]) _ _ ?_ ?_ ?_ rfl
  ·intro i hi hp;have ji:i<B.length:=by rw[<-eM];exact hi
   show aE (Zw ((i:Int)<((c8 B).length:Int))) (Cl i (c8 B) (Yn ((c8 B).getD (Zj i) .undef) _)) _=_;rw[ah (p9 hi),wF hi,Zu,kF ji];show aE (B.getD i []==b) _ _=_;rw[aj hp,vB (by omega)]
  ·intro i hi hp;have ji:i<B.length:=by rw[<-eM];exact hi
   refine⟨(.ret,[.bool Zy,iv i]),?_,rfl⟩;show aE (Zw ((i:Int)<((c8 B).length:Int))) (Cl i (c8 B) (Yn ((c8 B).getD (Zj i) .undef) _)) _=_;rw[ah (p9 hi),wF hi,Zu,kF ji];show aE (B.getD i []==b) _ _=_;rw[ah hp]
  ·refine⟨(.exit 0,[.bool Zy,iv (c8 B).length]),?_,rfl⟩;show aE (Zw (((c8 B).length:Int)<((c8 B).length:Int))) _ _=_;rw[aj Jm]
 rw[e,eM,kU B [] (fun x=>x==b),pH];cases B.contains b<;>rfl
theorem Tv{B:List Bytes}(L:List Bytes)(h:B.length<=100000000)(hl:L.length<=100000000):ZS (c8 B) (c8 L)=Zp [.bool (L.any fun k => !B.contains k)]:=by
 have e:ZS (c8 B) (c8 L)=Zp (bif (Zm (c8 L).length).any (fun i => !B.contains (L.getD i [])) then[Zb Zf] else[Zb Zy]):=by
  refine o8 (fun i=>[iv 0,iv i]) _ _ ?_ ?_ ?_ rfl
  ·intro i hi hp;have ji:i<L.length:=by rw[<-eM];exact hi
   show aE (Zw ((i:Int)<((c8 L).length:Int))) (xE i (c8 L) (Yn ((c8 L).getD (Zj i) .undef) _)) _=_;rw[ah (p9 hi),jS hi,Zu,kF ji];show lh (wL (c8 B) (L.getD i [])) _=_;rw[wM _ h];show aE (!B.contains (L.getD i [])) _ _=_;rw[aj hp,vB (by omega)]
  ·intro i hi hp;have ji:i<L.length:=by rw[<-eM];exact hi
   refine⟨(.ret,[iv i,iv i]),?_,?_⟩
   ·show aE (Zw ((i:Int)<((c8 L).length:Int))) (xE i (c8 L) (Yn ((c8 L).getD (Zj i) .undef) _)) _=_;rw[ah (p9 hi),jS hi,Zu,kF ji];show lh (wL (c8 B) (L.getD i [])) _=_;rw[wM _ h];show aE (!B.contains (L.getD i [])) _ _=_;rw[ah hp]
   ·show Zp [Zb (Zw ((i:Int)>=0))]=_;rw[show Zw ((i:Int)>=0)=Zf by simp]
  ·refine⟨(.exit 0,[iv 0,iv (c8 L).length]),?_,rfl⟩;show aE (Zw (((c8 L).length:Int)<((c8 L).length:Int))) _ _=_;rw[aj Jm]
 rw[e,eM,kU L [] (fun x => !B.contains x)];cases L.any fun k => !B.contains k<;>rfl
theorem tZ{α:Type}{l:List α}(d:α){i:Nat}(h:i<l.length):l.take (i+1)=l.take i++[l.getD i d]:=by
 rw[List.take_succ_eq_append_getElem h];simp[Zh,h]
theorem ID(K L:List Int){i:Nat}(h:i<L.length):iQ K (L.take (i+1))=bif (iQ K (L.take i)).contains (L.getD i 0) then iQ K (L.take i) else nw (iQ K (L.take i)) (L.getD i 0):=by
 rw[tZ 0 h];unfold iQ;rw[List.foldl_append];rfl
theorem zP(K L:List Bytes){i:Nat}(h:i<L.length):fb K (L.take (i+1))=bif (fb K (L.take i)).contains (L.getD i []) then fb K (L.take i) else fb K (L.take i)++[L.getD i []]:=by
 rw[tZ [] h];unfold fb;rw[List.foldl_append];rfl
theorem FD(l B:List Bytes):(fb B l).length<=B.length+l.length:=by
 obtain⟨N,h1,h2,_⟩:=iC (l:=l) (B:=B);rw[h1,Yx];omega
theorem J_{α:Type}{K:List Int}{q:Int}(h:vM K=Zf)(hq:K.contains q=Zy)(hl:K.length<=100000000)(f:List AV->Option α):Q' (dy K) q f=f (dy (nw K q)):=by
 have VX:q ∉ K:=by simpa using hq
 unfold Q';rw[Nl h VX,Nt (vO h),xw,fv];rw[show(Zf&&Zf&&Zw ((K.length:Int)<=100000000))=Zf by simp;omega];rfl
theorem Nk{β:Type}{K L:List Int}(ha:vM K=Zf)(h:K.length+L.length<=100000000)(y1 y2:List AV){k:Ex×List AV->Option β}{A:β}(hk:k (.exit 0,[iv L.length,.aF (dy (iQ K L)),.aF y1,.aF y2])=Zp A):Zx (bF (Ss (dy L)) [iv 0,.aF (dy K),.aF y1,.aF y2]) k=Zp A:=by
 refine oF (fun i=>[iv i,.aF (dy (iQ K (L.take i))),.aF y1,.aF y2]) L.length (fun i hi=> ?_) ⟨(.exit 0,[iv L.length,.aF (dy (iQ K L)),.aF y1,.aF y2]),?_,hk⟩ rfl
 ·have rK:i<(dy L).length:=by rw[fv];exact hi
  have hm:(iQ K (L.take i)).length<=100000000:=Yq vJ (by rw[List.length_take];omega);show aE (Zw ((i:Int)<((dy L).length:Int))) (xE i (dy L) (AV.ax .u64 ((dy L).getD (Zj i) .undef) _)) _=_;rw[ah (p9 rK),jS rK,Zu,kG hi];show lh (uF (dy (iQ K (L.take i))) (L.getD i 0)) _=_;rw[sM _ hm];show aE (!(iQ K (L.take i)).contains (L.getD i 0)) _ _=_;rw[ID K L hi];cases hc:(iQ K (L.take i)).contains (L.getD i 0) with
  | true =>
   rw[Yd,aA,vB (by omega)];rfl
  | false =>
   rw[Yk,cr,J_ (mr ha) hc hm,vB (by omega)];rfl
 ·show aE (Zw ((L.length:Int)<((dy L).length:Int))) _ _=_;rw[aj (by rw[fv];simp),Yp]
theorem JD{n:Nat}(h:n<=100000000):Go.Abs.room (n+1) 24=Zf:=by
 unfold Go.Abs.room;simp only[Zz,Nat.ble_eq];omega
theorem BO(B:List Bytes)(q:Bytes):c8 B++[.bs q]=c8 (B++[q]):=by simp[c8]
theorem Ni{β:Type}{K L:List Bytes}(h:K.length+L.length<=100000000)(y y2:List AV){k:Ex×List AV->Option β}{A:β}(hk:k (.exit 2,[iv L.length,.aF y,.aF (c8 (fb K L)),.aF y2])=Zp A):Zx (bF (Nj (c8 L)) [iv 0,.aF y,.aF (c8 K),.aF y2]) k=Zp A:=by
 refine oF (fun i=>[iv i,.aF y,.aF (c8 (fb K (L.take i))),.aF y2]) L.length (fun i hi=> ?_) ⟨(.exit 2,[iv L.length,.aF y,.aF (c8 (fb K L)),.aF y2]),?_,hk⟩ rfl
 ·have rK:i<(c8 L).length:=by rw[eM];exact hi
  have hm:(fb K (L.take i)).length<=100000000:=Yq (FD _ _) (by rw[List.length_take];omega);show aE (Zw ((i:Int)<((c8 L).length:Int))) (xE i (c8 L) (Yn ((c8 L).getD (Zj i) .undef) _)) _=_;rw[ah (p9 rK),jS rK,Zu,kF hi];show lh (wL (c8 (fb K (L.take i))) (L.getD i [])) _=_;rw[wM _ hm];show aE (!(fb K (L.take i)).contains (L.getD i [])) (az (Go.Abs.room ((c8 (fb K (L.take i))).length+1) 24) (Zp (Sum.inl [up i,.aF y,.aF (c8 (fb K (L.take i))++[.bs (L.getD i [])]),.aF y2]))) _=_;rw[zP K L hi,eM,JD hm,BO];cases hc:(fb K (L.take i)).contains (L.getD i []) with
  | true =>
   rw[Yd,aA,vB (by omega)];rfl
  | false =>
   rw[Yk,cr,vB (by omega)];rfl
 ·show aE (Zw ((L.length:Int)<((c8 L).length:Int))) _ _=_;rw[aj (by rw[eM];simp),Yp]
def qA(s:Kn)(M:List AV):List AV:=[.aF (dy s.keys),.aF (c8 s.boxes),.aF M]
theorem NX{s:Kn}{x:Is}(hs:eV s)(hk:x.keys.length<=1)(hb:x.boxes.length<=1)(b:Bool)(n:Int)(M:List AV):CN b n (dy x.keys) (c8 x.boxes) (dy s.keys) (c8 s.boxes) M=Zp (.inr (.ret,.bool Zf::iv n::qA (s.add x) M)):=by
 have h1:=hs.GN;have h2:=hs.xO;unfold CN;refine Nk hs.vM (by omega) _ _ ?_;show Zx (bF (Nj (c8 x.boxes)) _) _=_;refine Ni (by omega) _ _ ?_;rfl
theorem TX{s:Kn}{x:Is}:s.has x=(!(x.keys.any fun k => !s.keys.contains k) && !(x.boxes.any fun b => !s.boxes.contains b)):=by
 unfold Kn.has;rw[List.all_eq_not_any_not,List.all_eq_not_any_not]
theorem O9{s:Kn}(hs:eV s){t:Bytes}(ht:t.length<=70368744170000)(b:Bool)(n:Int)(M:List AV) :
  Df b n (dy s.keys) (c8 s.boxes) M t=Zp (if s.opens t=Zf then .inr (.ret,.bool Zf::iv n::qA (s.add (cj t)) (nQ (iv n) (.bool Zf) M))
   else .inl (.bool b::up n::qA s (if (aW t).err=0/\s.keys.contains (aW t).box.key=Zf then nQ (iv n) (.bool Zf) M else M))):=by
 have h1:=hs.GN;have h2:=hs.xO;unfold Df;rw[ae (by simp;omega)];show aE (!((aW t).err==0)) _ _=_;by_cases he:(aW t).err=0;case neg =>
  rw[ah (by simpa using he),Qa0 (by rw[tR];exact fun h=>he h.1),Qa0 (fun h=>he h.1)];rfl
 rw[aj (by simpa using he)];have ho:s.opens t=(s.keys.contains (aW t).box.key && !s.has (cj t)):=by unfold Kn.opens;rw[he];rfl
 rw[ho,sM _ (by omega)];show aE (!s.keys.contains (aW t).box.key) _ _=_;cases hk:s.keys.contains (aW t).box.key with
 | false =>
  rw[Yk,cr,Bool.false_and,Qa0 Bool.false_ne_true,Qa0 (fun h=>Bool.false_ne_true h.2)];rfl
 | true =>
  have j8:(aW t).box.body.length<=70368744170000:=by
   rcases nR t with h | h
   ·omega
   ·rw[h];exact Yf _
  have hi:=Az t;rw[Yd,aA,ae (by simp;omega),Bool.true_and,Qa1 (show(aW t).err=0/\Zf=Zf from⟨he,rfl⟩)];show lh (ZT (dy s.keys) (dy (cj t).keys)) _=_;have g:=NX hs hi.keys hi.boxes b n (nQ (iv n) (.bool Zf) M);rw[Tw _ (by omega) (by have:=hi.keys;omega)];show aE (!(cj t).keys.any fun k => !s.keys.contains k) (lh (ZS (c8 s.boxes) (c8 (cj t).boxes)) _) (CN b n (dy (cj t).keys) (c8 (cj t).boxes) (dy s.keys) (c8 s.boxes) (nQ (iv n) (.bool Zf) M))=_;rw[Tv _ (by omega) (by have:=hi.boxes;omega),g,TX];show aE (!(cj t).keys.any fun k => !s.keys.contains k) (aE (!(cj t).boxes.any fun k => !s.boxes.contains k) _ (CN b n (dy (cj t).keys) (c8 (cj t).boxes) (dy s.keys) (c8 s.boxes) (nQ (iv n) (.bool Zf) M))) _=_;rw[g];cases (cj t).keys.any fun k => !s.keys.contains k<;>cases (cj t).boxes.any fun k => !s.boxes.contains k<;>rfl
def zM(M:List AV)(s:Kn):Prop:=∀ i,i<s.boxes.length->getM (iv i) M (.bool Zy) = .bool Zy\/(getM (iv i) M (.bool Zy) = .bool Zf/\s.done (s.boxes.getD i [])=Zf)
theorem AG(n m:Int):lO (iv n) (iv m)=(n==m):=by simp[lO,iv]
theorem Ak(n m:Int)(d v:AV):∀ {M:List AV},getM (iv m) (nQ (iv n) v M) d=if n=m then v else getM (iv m) M d
 | []=>by
  show(bif lO (iv n) (iv m) then Zp v else none).getD d=_;rw[AG];by_cases h:n=m
  ·rw[Qa1 h,show(n==m)=Zf by simpa using h];rfl
  ·rw[Qa0 h,show(n==m)=Zy by simpa using h];rfl
 | e::r=>by
  have ih:=Ak n m d v (M:=r);unfold getM at ih ⊢;show(oe (iv m) (bif lO (fJ e) (iv n) then AV.aS [iv n,v]::r else e::nQ (iv n) v r)).getD d=_;cases he:lO (fJ e) (iv n) with
  | true =>
   have hk:fJ e=iv n:=by
    cases VT:fJ e<;>rw[VT] at he<;>simp only[lO,iv] at he<;>try cases he
    simp only[Zz,Qb0] at he;rw[he.1,he.2]
   show(bif lO (iv n) (iv m) then Zp v else oe (iv m) r).getD d=if n=m then v else(bif lO (fJ e) (iv m) then Zp (sq e) else oe (iv m) r).getD d
   rw[hk,AG];by_cases h:n=m
   ·rw[Qa1 h,show(n==m)=Zf by simpa using h];rfl
   ·rw[Qa0 h,show(n==m)=Zy by simpa using h];rfl
  | false =>
   show(bif lO (fJ e) (iv m) then Zp (sq e) else oe (iv m) (nQ (iv n) v r)).getD d=if n=m then v else(bif lO (fJ e) (iv m) then Zp (sq e) else oe (iv m) r).getD d
   cases hm:lO (fJ e) (iv m) with
   | false=>exact ih
   | true =>
    have hk:fJ e=iv m:=by
     cases VT:fJ e<;>rw[VT] at hm<;>simp only[lO,iv] at hm<;>try cases hm
     simp only[Zz,Qb0] at hm;rw[hm.1,hm.2]
    rw[hk,AG] at he;rw[Qa0 (by intro h;subst h;simp at he)];rfl
theorem zM.put{M:List AV}{s:Kn}(h:zM M s){j:Nat}(hd:s.done (s.boxes.getD j [])=Zf):zM (nQ (iv j) (.bool Zf) M) s:=by
 intro i hi;rw[Ak];by_cases e:(j:Int)=i
 ·obtain rfl:j=i:=by omega
  rw[Qa1 e];exact .inr ⟨rfl,hd⟩
 ·rw[Qa0 e];exact h i hi
theorem zM.grow{M:List AV}{s:Kn}(h:zM M s)(x:Is)(hx:∀ i,s.boxes.length<=i->getM (iv i) M (.bool Zy) = .bool Zy):zM M (s.add x):=by
 intro i hi;by_cases e:i<s.boxes.length
 ·rcases h i e with h | ⟨h1,h2⟩
  ·exact .inl h
  ·refine .inr ⟨h1,?_⟩;obtain⟨N,e1,_⟩:=iC (l:=x.boxes) (B:=s.boxes);have e2:(s.add x).boxes.getD i []=s.boxes.getD i []:=by
    show(fb s.boxes x.boxes).getD i []=_;rw[e1,Zh,Zh,List.getElem?_append_left e]
   rw[e2];exact(Fg s x).done h2
 ·exact .inl (hx i (by omega))
def DO(M:List AV)(N:Nat):Prop:=∀ i:Nat,N<=i->getM (iv i) M (.bool Zy) = .bool Zy
theorem DO.put{M:List AV}{N j:Nat}(h:DO M N)(hj:j<N):DO (nQ (iv j) (.bool Zf) M) N:=by
 intro i hi;rw[Ak,Qa0 (by omega)];exact h i hi
structure oP (M:List AV) (s:Kn):Prop where
 ok:zM M s
 low:DO M s.boxes.length
theorem Rr{s:Kn}{t:Bytes}(he:(aW t).err=0)(hk:s.keys.contains (aW t).box.key=Zf)(ho:s.opens t=Zy):s.done t=Zf:=by simp_all [Bool.true_and,Kn.done,Kn.opens]
theorem IU{s:Kn}{t:Bytes}(h:s.done t=Zf):s.opens t=Zy:=by
 unfold Kn.done at h;unfold Kn.opens;cases h0:(aW t).err==0
 ·rfl
 ·rw[h0] at h;have h':s.has (cj t)=Zf:=h;rw[h'];simp
def Next(s:Kn)(r:Ex×List AV):Prop:=(s.next=none/\∃ M,oP M s/\r=(.exit 0,.bool Zy::iv s.boxes.length::qA s M))\/∃ b M n,s.next=Zp b/\oP M (s.add (cj b))/\r=(.ret,.bool Zf::iv n::qA (s.add (cj b)) M)
theorem O2{β:Type}{s:Kn}(hs:eV s){M:List AV}(hM:oP M s){k:Ex×List AV->Option β}{Q:β->Prop}(hk:∀ r,Next s r->∃ x,k r=Zp x/\Q x):∃ x,Zx (bF (KN (c8 s.boxes)) (.bool Zy::iv 0::qA s M)) k=Zp x/\Q x:=by
 have h2:=hs.xO;refine ED (enc:=fun(q:Nat×List AV) => .bool Zy::iv (q.1:Int)::qA s q.2) (I:=fun q=>q.1<=s.boxes.length/\oP q.2 s/\∀ j,j<q.1->s.opens (s.boxes.getD j [])=Zy) (μ:=fun q=>s.boxes.length-q.1) (R:=Next s) (0,M) ⟨Yf _,hM,fun j h=>by omega⟩ rfl ?_ hk;rintro⟨i,M⟩ ⟨hi,hM,hj⟩;dsimp only at hi hM hj;by_cases h:i<s.boxes.length;case neg =>
  obtain rfl:i=s.boxes.length:=by omega
  refine⟨.inr (.exit 0,.bool Zy::iv s.boxes.length::qA s M),?_,.inl ⟨?_,M,hM,rfl⟩⟩
  ·show aE (Zw ((s.boxes.length:Int)<((c8 s.boxes).length:Int))) _ _=_;rw[aj (by rw[eM];simp)];rfl
  ·unfold Kn.next;rw[List.find?_eq_none];intro x hx;obtain⟨j,Q2,rfl⟩:=List.mem_iff_getElem.1 hx;have:=hj j Q2;simpa [Zh,Q2] using this
 have rK:i<(c8 s.boxes).length:=by rw[eM];exact h
 have pW:s.boxes.getD i []∈s.boxes:=by simp[Zh,h]
 have e0:KN (c8 s.boxes) (.bool Zy::iv (i:Int)::qA s M)=AV.cW (getM (iv i) M (.bool Zy)) fun b3=>aE (!b3) (Df Zy i (dy s.keys) (c8 s.boxes) M (s.boxes.getD i [])) (Zp (.inl (.bool Zy::up i::qA s M))):=by
  show aE (Zw ((i:Int)<((c8 s.boxes).length:Int))) (AV.cW (getM (iv i) M (.bool Zy)) fun b3=>aE (!b3) (Cl i (c8 s.boxes) (Yn ((c8 s.boxes).getD (Zj i) .undef) fun t=>Df Zy i (dy s.keys) (c8 s.boxes) M t)) _) _=_;rw[ah (p9 rK),wF rK,Zu,kF h];rfl
 have step:∀ M',oP M' s->s.opens (s.boxes.getD i [])=Zy->CC (fun(q:Nat×List AV)=>Zb Zy::iv (q.1:Int)::qA s q.2) (fun q=>q.1<=s.boxes.length/\oP q.2 s/\∀ j,j<q.1->s.opens (s.boxes.getD j [])=Zy) (fun q=>s.boxes.length-q.1) (Next s) (i,M) (.inl (.bool Zy::up i::qA s M')):=fun M' ZY ho =>
  ⟨(i+1,M'),by dsimp only;rw[vB (by omega)],⟨h,ZY,fun j Iw=>by
   by_cases e:j=i
   ·rw[e];exact ho
   ·exact hj j (by dsimp only at Iw;omega)⟩,show s.boxes.length-(i+1)<s.boxes.length-i by omega⟩
 dsimp only;rw[e0];rcases hM.ok i h with hg | ⟨hg,hd⟩
 ·rw[hg];show ∃ y,Df Zy i (dy s.keys) (c8 s.boxes) M (s.boxes.getD i [])=Zp y/\_;rw[O9 hs (hs.len _ pW)];by_cases ho:s.opens (s.boxes.getD i [])=Zf
  ·rw[Qa1 ho];have hd:(s.add (cj (s.boxes.getD i []))).done (s.boxes.getD i [])=Zf:=by unfold Kn.done;rw[J'];simp
   refine⟨_,rfl,.inr ⟨s.boxes.getD i [],nQ (iv i) (.bool Zf) M,i,?_,?_,rfl⟩⟩
   ·unfold Kn.next;rw[List.find?_eq_some_iff_getElem];refine⟨ho,i,h,by simp[Zh,h],fun j Q2=> ?_⟩;have:=hj j Q2;simpa [Zh,Nat.lt_trans Q2 h] using this
   ·have hl:s.boxes.length<=(s.add (cj (s.boxes.getD i []))).boxes.length:=by
     obtain⟨N,e1,_⟩:=iC (l:=(cj (s.boxes.getD i [])).boxes) (B:=s.boxes);show _<=(fb s.boxes _).length;rw[e1,Yx];omega
    have e2:(s.add (cj (s.boxes.getD i []))).boxes.getD i []=s.boxes.getD i []:=by
     obtain⟨N,e1,_⟩:=iC (l:=(cj (s.boxes.getD i [])).boxes) (B:=s.boxes);show(fb s.boxes _).getD i []=_;rw[e1,Zh,Zh,List.getElem?_append_left h]
    exact⟨(hM.ok.grow _ hM.low).put (by rw[e2];exact hd),fun j Q2=>(hM.low.put h) j (Yq hl Q2)⟩
  ·have I5:s.opens (s.boxes.getD i [])=Zy:=by simpa using ho
   rw[Qa0 ho];by_cases hq:(aW (s.boxes.getD i [])).err=0/\s.keys.contains (aW (s.boxes.getD i [])).box.key=Zf
   ·rw[Qa1 hq];exact⟨_,rfl,step _ ⟨hM.ok.put (Rr hq.1 hq.2 I5),hM.low.put h⟩ I5⟩
   ·rw[Qa0 hq];exact⟨_,rfl,step _ hM I5⟩
 ·rw[hg];exact⟨_,rfl,step _ hM (IU hd)⟩
theorem Ko{s:Kn}(hs:eV s):Lv (dy s.keys) (c8 s.boxes) []=Zp (.agg [.sl 1 (dy (close s).keys),.sl 1 (c8 (close s).boxes)],[]):=by
 unfold Lv;refine cm (enc:=fun(q:Kn×List AV)=>qA q.1 q.2) (I:=fun q=>eV q.1/\oP q.2 q.1/\close q.1=close s) (μ:=fun q=>ml q.1) (R:=fun r=>∃ M,r=(.exit 0,qA (close s) M)) (s,[]) ⟨hs,⟨fun i hi => .inl rfl,fun i hi=>rfl⟩,rfl⟩ rfl ?_ ?_
 ·rintro⟨t,M⟩ ⟨ht,hM,hc⟩;dsimp only at ht hM hc;have key:∃ y,TO (qA t M)=Zp y/\CC (fun(q:Kn×List AV)=>qA q.1 q.2) (fun q=>eV q.1/\oP q.2 q.1/\close q.1=close s) (fun q=>ml q.1) (fun r=>∃ M,r=(.exit 0,qA (close s) M)) (t,M) y:=by
   have e0:TO (qA t M)=Zx (bF (KN (c8 t.boxes)) (.bool Zy::iv 0::qA t M)) fun r=>aG r.2 fun b r1=>ak .i64 r1 fun _ r1=>rO r1 fun y r1=>rO r1 fun y5 r1=>rO r1 fun y6 r1=>aw r1
     (jO r.1 (aE b (Zp (.inl [.aF y,.aF y5,.aF y6])) (Zp (.inr (.exit 0,[.aF y,.aF y5,.aF y6])))) fun j=>aE (Yv j 0) (Zp (.inr (.exit 0,[.aF y,.aF y5,.aF y6]))) none):=rfl
   rw[e0];refine O2 ht hM ?_;rintro r (⟨hn,M',ZY,rfl⟩ | ⟨b,M',n,hn,ZY,rfl⟩)
   ·exact⟨_,rfl,M',by rw[<-hc,uR hn];rfl⟩
   ·obtain⟨g1,g2⟩:=qa hn;exact⟨_,rfl,(t.add (cj b),M'),rfl,⟨ht.open g1 g2,ZY,by rw[<-zX hn];exact hc⟩,oC g1 g2⟩
  exact key
 ·rintro r ⟨M,rfl⟩;rfl
theorem L6{ks bs:List AV}{b:Bytes}(h:vd ks bs=Zf)(hm:ml (kn ks bs)+2*b.length+2100<=1000000):Je ks bs b=Zp (.agg [.sl 1 (dy (learn (kn ks bs) b).keys),.sl 1 (c8 (learn (kn ks bs) b).boxes)],[]):=by
 obtain⟨s,rfl,rfl,hs⟩:=KQ h;rw[uE] at hm ⊢;have h2:=hs.xO;have h3:=hs.GN;have hp:=nl b;unfold Je Rl;rw[xw,fv,ae (by simp;omega)];show Zx (az (vK (c8 s.boxes)&&Zw ((c8 s.boxes).length<=1000000)) _) _=_;rw[Fk,eM,ae (by simp;omega)];show Zx (az (Zw (b.length<=70368744170000)) _) _=_;rw[ae (by simp;omega)];show Zx (bF SX [.sl 1 [],.sl 1 [],.aF (dy s.keys),.aF (c8 s.boxes),.aF [],.sl 1 (c8 (partsOf b)),iv (c8 (partsOf b)).length,iv 0]) _=_;refine oF (fun i=>[.sl 1 [],.sl 1 [],.aF (dy s.keys),.aF (c8 (fb s.boxes ((partsOf b).take i))),.aF [],.sl 1 (c8 (partsOf b)),iv (c8 (partsOf b)).length,iv i]) (partsOf b).length (fun i hi=> ?_)
  ⟨(.exit 0,[.sl 1 [],.sl 1 [],.aF (dy s.keys),.aF (c8 (fb s.boxes (partsOf b))),.aF [],.sl 1 (c8 (partsOf b)),iv (c8 (partsOf b)).length,iv (partsOf b).length]),?_,?_⟩ rfl
 ·have rK:i<(c8 (partsOf b)).length:=by rw[eM];exact hi
  have hl:(fb s.boxes ((partsOf b).take i)).length<=100000000:=Yq (FD _ _) (by rw[List.length_take];omega);show aE (Zw ((i:Int)<((c8 (partsOf b)).length:Int))) (xE i (c8 (partsOf b)) (Yn ((c8 (partsOf b)).getD (Zj i) .undef) _)) _=_;rw[ah (p9 rK),jS rK,Zu,kF hi];show lh (wL (c8 (fb s.boxes ((partsOf b).take i))) ((partsOf b).getD i [])) _=_;rw[wM _ hl];show aE (!(fb s.boxes ((partsOf b).take i)).contains ((partsOf b).getD i [])) (az (Go.Abs.room ((c8 (fb s.boxes ((partsOf b).take i))).length+1) 24) (Zp (Sum.inl [.sl 1 [],.sl 1 [],.aF (dy s.keys),.aF (c8 (fb s.boxes ((partsOf b).take i))++[.bs ((partsOf b).getD i [])]),.aF [],.sl 1 (c8 (partsOf b)),iv (c8 (partsOf b)).length,up i]))) _=_;rw[zP s.boxes (partsOf b) hi,eM (fb _ _),JD hl,BO];cases hc:(fb s.boxes ((partsOf b).take i)).contains ((partsOf b).getD i []) with
  | true =>
   rw[Yd,aA,vB (by omega)];rfl
  | false =>
   rw[Yk,cr,vB (by omega)];rfl
 ·show aE (Zw (((partsOf b).length:Int)<((c8 (partsOf b)).length:Int))) _ _=_;rw[aj (by rw[eM];simp),Yp]
 ·show Lv (dy s.keys) (c8 (fb s.boxes (partsOf b))) []=_;exact Ko (s:=s.add ⟨[],partsOf b⟩) (hs.parts hm)
theorem OJ{ks bs:List AV}{k:Int}(h:vd ks bs=Zf)(hk:(Zw (0<=k)&&Zw (k<18446744073709551616))=Zf)(hm:ml (kn ks bs)+1<=1000000):OI ks bs k=Zp (.agg [.sl 1 (dy (leak (kn ks bs) k).keys),.sl 1 (c8 (leak (kn ks bs) k).boxes)],[]):=by
 obtain⟨s,rfl,rfl,hs⟩:=KQ h;rw[uE] at hm ⊢;have h2:=hs.GN;have h3:=hs.xO;unfold OI Rl;rw[xw,fv,ae (by simp;omega)];show Zx (az (vK (c8 s.boxes)&&Zw ((c8 s.boxes).length<=1000000)) _) _=_;rw[Fk,eM,ae (by simp;omega)];show Zx (az (Zw (0<=k)&&Zw (k<18446744073709551616)) _) _=_;rw[ae hk];show Zx (aE (bm k) (lh (uF (dy s.keys) k) _) _) _=_;rw[sM _ (by omega)];show Zx (aE (bm k) (aE (!s.keys.contains k) _ _) _) _=_;have fin:Lv (dy (iQ s.keys (bQ [k]))) (c8 s.boxes) []=Zp (.agg [.sl 1 (dy (leak s k).keys),.sl 1 (c8 (leak s k).boxes)],[]):=Ko (s:=s.add ⟨bQ [k],[]⟩) (hs.OL hm);cases hv:bm k with
 | false =>
  rw[show bQ [k]=[] by simp[bQ,hv]] at fin;exact fin
 | true =>
  rw[show bQ [k]=[k] by simp[bQ,hv]] at fin;have e:iQ s.keys [k]=bif s.keys.contains k then s.keys else nw s.keys k:=rfl
  rw[e] at fin;cases hc:s.keys.contains k with
  | true=>rw[hc] at fin;exact fin
  | false =>
   rw[hc] at fin;rw[cr,Yk,cr,J_ hs.vM hc (by omega)];exact fin
end Kerb
/- Chapter 27: small loops. -/
namespace Kerb
open Go Go.Abs
theorem DW{l:List Bytes}{i:Nat}(h:i<l.length):gZ (l.take (i+1))=bif o0 (l.getD i []) then gZ (l.take i)++[l.getD i []] else gZ (l.take i):=by
 rw[tZ [] h];unfold gZ;rw[List.filter_append];generalize l.getD i []=b;cases hb:o0 b<;>simp[List.filter_cons,hb]
theorem Fm{l:List Int}{i:Nat}(h:i<l.length):bQ (l.take (i+1))=bif bm (l.getD i 0) then bQ (l.take i)++[l.getD i 0] else bQ (l.take i):=by
 rw[tZ 0 h];unfold bQ;rw[List.filter_append];generalize l.getD i 0=b;cases hb:bm b<;>simp[List.filter_cons,hb]
theorem QP(B:List Int)(q:Int):dy B++[.int .u64 q]=dy (B++[q]):=by simp[dy]
theorem UT{n:Nat}(h:n<=1000000000):Go.Abs.room n 8=Zf:=by
 unfold Go.Abs.room;simp only[Zz,Nat.ble_eq];omega
theorem K6{i:Nat}(h:i<=1000000000):Zk .i64 ((i:Int)+1)=((i+1:Nat):Int):=by
 rw[wrap_i64 (by omega) (by omega)];rfl
theorem ZV(i:Nat):Zw ((0:Int)<=(i:Int))=Zf:=by simp
theorem ltK{l:List Int}{i:Nat}(h:i<l.length):Zw ((i:Int)<((dy l).length:Int))=Zf:=by rw[fv];simp;omega
theorem ltB{l:List Bytes}{i:Nat}(h:i<l.length):Zw ((i:Int)<((c8 l).length:Int))=Zf:=by rw[eM];simp;omega
theorem abg{l:List Int}{i:Nat}(h:i<l.length):Zh (dy l) (Zj (i:Int)) .undef = .int .u64 (l.getD i 0):=by rw[Zu];exact kG h
theorem abf{l:List Bytes}{i:Nat}(h:i<l.length):Zh (c8 l) (Zj (i:Int)) .undef = .bs (l.getD i []):=by rw[Zu];exact kF h
theorem noK(l:List Int):Zw ((l.length:Int)<((dy l).length:Int))=Zy:=by rw[fv];simp
theorem noB(l:List Bytes):Zw ((l.length:Int)<((c8 l).length:Int))=Zy:=by rw[eM];simp
theorem zn{α:Type}{l:List α}{i:Nat}(d:α)(h:i<l.length):l.getD i d∈l:=by simp[Zh,h]
noncomputable def UE(y:List AV)(k:Int)(l:List AV):St:=ak .i64 l fun n r=>ak .i64 r fun i r=>aw r
 (aE (Zw (i<(y.length:Int))) (xE i y (AV.ax .u64 (y.getD (Zj i) .undef) fun q=>aE (k==q) (Zp (.inr (.ret,[iv i,iv i]))) (Zp (.inl [iv n,up i]))))
  (Zp (.inr (.exit 0,[iv n,iv i]))))
noncomputable def Ew(y:List AV)(k:Int):Option (List AV):=Zx (bF (UE y k) [iv 0,iv 0]) GL
noncomputable def vg(y:List AV)(k:Int):Option (List AV):=lh (Ew y k) fun b=>Zp [.bool !b]
noncomputable def Wl(y kl:List AV)(l:List AV):St:=ak .i64 l fun n r=>ak .i64 r fun i r=>aw r
 (aE (Zw (i<(kl.length:Int))) (xE i kl (AV.ax .u64 (kl.getD (Zj i) .undef) fun q=>lh (vg y q) fun b=>aE b (Zp (.inr (.ret,[iv i,iv i]))) (Zp (.inl [iv n,up i]))))
  (Zp (.inr (.exit 0,[iv n,iv i]))))
noncomputable def Ro(y kl:List AV):Option (List AV):=Zx (bF (Wl y kl) [iv 0,iv 0]) GL
noncomputable def UF(y:List AV)(b:List UInt8)(l:List AV):St:=aG l fun c r=>ak .i64 r fun i r=>aw r
 (aE (Zw (i<(y.length:Int))) (xE i y (Yn (y.getD (Zj i) .undef) fun q=>aE (q==b) (Zp (.inr (.ret,[.bool Zy,iv i]))) (Zp (.inl [.bool c,up i]))))
  (Zp (.inr (.exit 0,[.bool c,iv i]))))
noncomputable def Jd(y:List AV)(b:List UInt8):Option (List AV):=Zx (bF (UF y b) [.bool Zy,iv 0]) fun r=>aG r.2 fun c r1=>ak .i64 r1 fun _ r2=>aw r2 (jO r.1 (Zp [.bool c]) fun j=>aE (Yv j 0) (Zp [.bool Zf]) none)
theorem tM{K:List Int}(k:Int)(h:K.length<=100000000):Ew (dy K) k=Zp [.bool (K.contains k)]:=by
 have e:Ew (dy K) k=Zp (bif (Zm (dy K).length).any (fun i=>k==K.getD i 0) then[Zb Zf] else[Zb Zy]):=by
  refine o8 (fun i=>[iv 0,iv i]) _ _ ?_ ?_ ?_ rfl
  ·intro i hi hp;have ji:i<K.length:=by rw[<-fv];exact hi
   show aE (Zw ((i:Int)<((dy K).length:Int))) (xE i (dy K) (AV.ax .u64 ((dy K).getD (Zj i) .undef) _)) _=_;rw[ah (p9 hi),jS hi,Zu,kG ji];show aE (k==K.getD i 0) _ _=_;rw[aj hp,vB (by omega)]
  ·intro i hi hp;have ji:i<K.length:=by rw[<-fv];exact hi
   refine⟨(.ret,[iv i,iv i]),?_,?_⟩
   ·show aE (Zw ((i:Int)<((dy K).length:Int))) (xE i (dy K) (AV.ax .u64 ((dy K).getD (Zj i) .undef) _)) _=_;rw[ah (p9 hi),jS hi,Zu,kG ji];show aE (k==K.getD i 0) _ _=_;rw[ah hp]
   ·show Zp [Zb (Zw ((i:Int)>=0))]=_;rw[show Zw ((i:Int)>=0)=Zf by simp]
  ·refine⟨(.exit 0,[iv 0,iv (dy K).length]),?_,rfl⟩;show aE (Zw (((dy K).length:Int)<((dy K).length:Int))) _ _=_;rw[aj Jm]
 rw[e,fv,kU K 0 (fun x=>k==x),rh];cases K.contains k<;>rfl
theorem yb{K:List Int}(k:Int)(h:K.length<=100000000):vg (dy K) k=Zp [.bool (!K.contains k)]:=by
 unfold vg;rw[tM k h];rfl
theorem Rp{K:List Int}(L:List Int)(h:K.length<=100000000)(hl:L.length<=100000000):Ro (dy K) (dy L)=Zp [.bool (L.any fun k => !K.contains k)]:=by
 have e:Ro (dy K) (dy L)=Zp (bif (Zm (dy L).length).any (fun i => !K.contains (L.getD i 0)) then[Zb Zf] else[Zb Zy]):=by
  refine o8 (fun i=>[iv 0,iv i]) _ _ ?_ ?_ ?_ rfl
  ·intro i hi hp;have ji:i<L.length:=by rw[<-fv];exact hi
   show aE (Zw ((i:Int)<((dy L).length:Int))) (xE i (dy L) (AV.ax .u64 ((dy L).getD (Zj i) .undef) _)) _=_;rw[ah (p9 hi),jS hi,Zu,kG ji];show lh (vg (dy K) (L.getD i 0)) _=_;rw[yb _ h];show aE (!K.contains (L.getD i 0)) _ _=_;rw[aj hp,vB (by omega)]
  ·intro i hi hp;have ji:i<L.length:=by rw[<-fv];exact hi
   refine⟨(.ret,[iv i,iv i]),?_,?_⟩
   ·show aE (Zw ((i:Int)<((dy L).length:Int))) (xE i (dy L) (AV.ax .u64 ((dy L).getD (Zj i) .undef) _)) _=_;rw[ah (p9 hi),jS hi,Zu,kG ji];show lh (vg (dy K) (L.getD i 0)) _=_;rw[yb _ h];show aE (!K.contains (L.getD i 0)) _ _=_;rw[ah hp]
   ·show Zp [Zb (Zw ((i:Int)>=0))]=_;rw[show Zw ((i:Int)>=0)=Zf by simp]
  ·refine⟨(.exit 0,[iv 0,iv (dy L).length]),?_,rfl⟩;show aE (Zw (((dy L).length:Int)<((dy L).length:Int))) _ _=_;rw[aj Jm]
 rw[e,fv,kU L 0 (fun x => !K.contains x)];cases L.any fun k => !K.contains k<;>rfl
theorem L4{B:List Bytes}(b:Bytes)(h:B.length<=100000000):Jd (c8 B) b=Zp [.bool (!B.contains b)]:=by
 have e:Jd (c8 B) b=Zp (bif (Zm (c8 B).length).any (fun i=>B.getD i []==b) then[Zb Zy] else[Zb Zf]):=by
  refine o8 (fun i=>[.bool Zy,iv i]) _ _ ?_ ?_ ?_ rfl
  ·intro i hi hp;have ji:i<B.length:=by rw[<-eM];exact hi
   show aE (Zw ((i:Int)<((c8 B).length:Int))) (xE i (c8 B) (Yn ((c8 B).getD (Zj i) .undef) _)) _=_;rw[ah (p9 hi),jS hi,Zu,kF ji];show aE (B.getD i []==b) _ _=_;rw[aj hp,vB (by omega)]
  ·intro i hi hp;have ji:i<B.length:=by rw[<-eM];exact hi
   refine⟨(.ret,[.bool Zy,iv i]),?_,rfl⟩;show aE (Zw ((i:Int)<((c8 B).length:Int))) (xE i (c8 B) (Yn ((c8 B).getD (Zj i) .undef) _)) _=_;rw[ah (p9 hi),jS hi,Zu,kF ji];show aE (B.getD i []==b) _ _=_;rw[ah hp]
  ·refine⟨(.exit 0,[.bool Zy,iv (c8 B).length]),?_,rfl⟩;show aE (Zw (((c8 B).length:Int)<((c8 B).length:Int))) _ _=_;rw[aj Jm]
 rw[e,eM,kU B [] (fun x=>x==b),pH];cases B.contains b<;>rfl
abbrev LY(ks bs:List AV):aD:=[[.sl 1 ks,.sl 1 bs]]
noncomputable def Yc{α:Type}(c:Bool)(ks bs:List AV)(q:List UInt8)(f:List AV->List AV->Bool->Option α):Option α:=Zx (az c (Zp (Zb (!d_ (kn ks bs) q),LY ks bs))) fun r=>aM r.2 fun x r1=>cO 1 x fun k2 r2=>cO 1 r2 fun b3 r3=>aw r3 (aO r1 (AV.cW r.1 (f k2 b3)))
theorem OX{α:Type}{c:Bool}(hc:c=Zf)(s:Kn)(q:List UInt8)(f:List AV->List AV->Bool->Option α):Yc c (dy s.keys) (c8 s.boxes) q f=f (dy s.keys) (c8 s.boxes) (!d_ s q):=by
 unfold Yc;rw[uE,ae hc];rfl
noncomputable def mkS(za:Nat)(bl:List AV)(l:List AV):St:=ak .i64 l fun n r=>ak .i64 r fun i r=>cO 1 r fun ks r=>cO 1 r fun bs r=>aw r
 (aE (Zw (i<(bl.length:Int))) (xE i bl (Yn (bl.getD (Zj i) .undef) fun q=>Yc (vd ks bs&&Zw (q.length<=70368744170000)&&Zw ((q.length:Int)<(za:Int))) ks bs q fun k2 b3 b4 =>
   aE b4 (Zp (.inr (.ret,[iv i,iv i,.sl 1 k2,.sl 1 b3]))) (Zp (.inl [iv n,up i,.sl 1 k2,.sl 1 b3]))))
  (Zp (.inr (.exit 0,[iv n,iv i,.sl 1 ks,.sl 1 bs]))))
noncomputable def OV(za:Nat)(ks bs:List AV)(b:List UInt8):Option (AV×aD) :=
 lh (Jd bs b) fun b1=>aE (!b1) (Zp (.bool Zy,LY ks bs)) (Zx (az (Zw (b.length<=140737488355328)) (Zp (Zb (o0 b),([]:aD)))) fun r=>aO r.2 (AV.cW r.1 fun b2=>aE (!b2) (Zp (.bool Zf,LY ks bs))
  (Zx (az (Zw (b.length<=140737488355328)) (Zp (AV.aS [.agg [.int .i64 (aW b).box.kind,.int .u64 (aW b).box.key,.bs (aW b).box.body],.int .i64 (aW b).n,.int .i64 (aW b).err],([]:aD)))) fun r=>aO r.2 (AV.f_ r.1 fun vs=>ay vs fun x r=>AV.eL x fun cs=>ak .i64 cs fun kd r1=>ak .u64 r1 fun ky r1=>bu r1 fun bd r1=>aw r1 (ak .i64 r fun _ r=>ak .i64 r fun er r=>aw r
   (aE (!(er==0)) (Zp (.bool Zf,LY ks bs)) (lh (vg ks ky) fun b6=>aE b6 (Zp (.bool Zf,LY ks bs))
    (Zx (az (Zw (bd.length<=70368744170000)) (Zp (AV.aS [.sl 1 (dy (iJ ⟨kd,ky,bd⟩).keys),.sl 1 (c8 (iJ ⟨kd,ky,bd⟩).boxes)],([]:aD)))) fun r=>aO r.2 (AV.f_ r.1 fun vs=>cO 1 vs fun kl r=>cO 1 r fun bl r=>aw r
     (lh (Ro ks kl) fun b9=>aE b9 (Zp (.bool Zf,LY ks bs)) (Zx (bF (mkS za bl) [iv 0,iv 0,.sl 1 ks,.sl 1 bs]) fun r=>ak .i64 r.2 fun n r1=>ak .i64 r1 fun _ r1=>cO 1 r1 fun k2 r1=>cO 1 r1 fun b3 r1=>aw r1
      (jO r.1 (Zp (.bool (Zw (n>=0)),LY k2 b3)) fun j=>aE (Yv j 0) (Zp (.bool Zy,LY k2 b3)) none))))))))))))
end Kerb
/- Chapter 27: what is known does not depend on the order; what can be made teaches nothing. -/
namespace Kerb
open Go Go.Abs
inductive zL (B0:Bytes->Prop) (K0:Int->Prop):Int ⊕ Bytes->Prop
 | key {k:Int}:K0 k->zL B0 K0 (.inl k)
 | box {b:Bytes}:B0 b->zL B0 K0 (.inr b)
 | Uz {b:Bytes} {k:Int}:zL B0 K0 (.inr b)->(aW b).err=0->zL B0 K0 (.inl (aW b).box.key)->k∈(cj b).keys->zL B0 K0 (.inl k)
 | VY {b c:Bytes}:zL B0 K0 (.inr b)->(aW b).err=0->zL B0 K0 (.inl (aW b).box.key)->c∈(cj b).boxes->zL B0 K0 (.inr c)
theorem zL.mono{B0 B1:Bytes->Prop}{K0 K1:Int->Prop}(h1:∀ b,B0 b->B1 b)(h2:∀ k,K0 k->K1 k){x:Int ⊕ Bytes}(h:zL B0 K0 x):zL B1 K1 x:=by
 induction h with
 | key h=>exact .key (h2 _ h)
 | box h=>exact .box (h1 _ h)
 | Uz _ e _ m i1 i2=>exact .Uz i1 e i2 m
 | VY _ e _ m i1 i2=>exact .VY i1 e i2 m
structure Full (B0:Bytes->Prop) (K0:Int->Prop) (s:Kn):Prop where
 next:s.next=none
 vM:vM s.keys=Zf
 nodup:s.boxes.Nodup
 keys:∀ k,k∈s.keys↔zL B0 K0 (.inl k)
 boxes:∀ b,b∈s.boxes↔zL B0 K0 (.inr b)
theorem KO{s:Kn}(h:s.next=none){b:Bytes}(hb:b∈s.boxes)(e:(aW b).err=0)(hk:(aW b).box.key∈s.keys):s.has (cj b)=Zf:=by
 have:=List.find?_eq_none.1 h b hb;cases hh:s.has (cj b) with
 | true=>rfl
 | false=>exact absurd (tR.2 ⟨e,hk,hh⟩) this
theorem oQ:∀ {l B:List Bytes},B.Nodup->(fb B l).Nodup
 | [],B,h=>h
 | b::l,B,h=>by
  have e:fb B (b::l)=fb (bif B.contains b then B else B++[b]) l:=rfl;rw[e];cases hc:B.contains b with
  | true=>exact oQ h
  | false =>
   refine oQ (List.nodup_append.2 ⟨h,by simp,?_⟩);intro x hx y hy;have:b ∉ B:=by simpa using hc
   simp only[List.mem_singleton] at hy;rintro rfl;exact this (hy ▸ hx)
theorem Full.join{B0 B1:Bytes->Prop}{K0 K1:Int->Prop}{s:Kn}(h:Full B0 K0 s){x:Is}(hb:∀ b,B1 b↔B0 b\/b∈x.boxes)(hk:∀ k,K1 k↔K0 k\/k∈x.keys):Full B1 K1 (close (s.add x)):=by
 have m:∀ {y},zL B0 K0 y->zL B1 K1 y:=zL.mono (fun b q=>(hb b).2 (.inl q)) fun k q=>(hk k).2 (.inl q);obtain⟨⟨p1,p2,p3,p4,p5,p6⟩,hn⟩:=xQ (P:=fun s=>Kerb.vM s.keys=Zf/\s.boxes.Nodup/\(∀ k∈s.keys,zL B1 K1 (.inl k))/\(∀ b∈s.boxes,zL B1 K1 (.inr b))/\(∀ k,K1 k->k∈s.keys)/\∀ b,B1 b->b∈s.boxes) (fun s b ⟨q1,q2,q3,q4,q5,q6⟩ gb go=>by
  obtain⟨e,ek,_⟩:=tR.1 go;refine⟨mr q1,oQ q2,fun k hk=> ?_,fun c hc=> ?_,fun k hk=>kR.2 (.inl (q5 k hk)),fun c hc=>iX.2 (.inl (q6 c hc))⟩
  ·rcases kR.1 hk with hk | hk
   ·exact q3 k hk
   ·exact .Uz (q4 b gb) e (q3 _ ek) hk
  ·rcases iX.1 hc with hc | hc
   ·exact q4 c hc
   ·exact .VY (q4 b gb) e (q3 _ ek) hc) (s.add x)
  ⟨mr h.vM,oQ h.nodup,fun k q=>by
   rcases kR.1 q with q | q
   ·exact m ((h.keys k).1 q)
   ·exact .key ((hk k).2 (.inr q)),fun b q=>by
   rcases iX.1 q with q | q
   ·exact m ((h.boxes b).1 q)
   ·exact .box ((hb b).2 (.inr q)),fun k q=>by
   rcases (hk k).1 q with q | q
   ·exact kR.2 (.inl ((h.keys k).2 (.key q)))
   ·exact kR.2 (.inr q),fun b q=>by
   rcases (hb b).1 q with q | q
   ·exact iX.2 (.inl ((h.boxes b).2 (.box q)))
   ·exact iX.2 (.inr q)⟩
 have all:∀ y,zL B1 K1 y->(match y with | .inl k=>k∈(close (s.add x)).keys | .inr b=>b∈(close (s.add x)).boxes):=by
  intro y hy;induction hy with
  | key q=>exact p5 _ q
  | box q=>exact p6 _ q
  | Uz _ e _ mm i1 i2=>exact(tK.1 (KO hn i1 e i2)).1 _ mm
  | VY _ e _ mm i1 i2=>exact(tK.1 (KO hn i1 e i2)).2 _ mm
 exact⟨hn,p1,p2,fun k=>⟨p3 k,fun q=>all _ q⟩,fun b=>⟨p4 b,fun q=>all _ q⟩⟩
def A2:Kn:=⟨[],[]⟩
theorem F3{x:Int ⊕ Bytes}(h:zL (fun _=>False) (fun _=>False) x):False:=by
 induction h with
 | key h=>exact h
 | box h=>exact h
 | Uz _ _ _ _ i _=>exact i
 | VY _ _ _ _ i _=>exact i
theorem Rz:Full (fun _=>False) (fun _=>False) A2 :=
 ⟨rfl,rfl,List.nodup_nil,fun k=>⟨fun h=>(nomatch h),fun h=>(F3 h).elim⟩,fun k=>⟨fun h=>(nomatch h),fun h=>(F3 h).elim⟩⟩
theorem pR{B0 B1:Bytes->Prop}{K0 K1:Int->Prop}{s:Kn}(hb:∀ b,B0 b↔B1 b)(hk:∀ k,K0 k↔K1 k)(h:Full B0 K0 s):Full B1 K1 s:=by
 have:B0=B1:=funext fun b=>propext (hb b);have:K0=K1:=funext fun b=>propext (hk b);subst B1 K1;exact h
theorem yC{B0:Bytes->Prop}{K0:Int->Prop}:∀ {l:List Bytes} {s:Kn},Full B0 K0 s->Full (fun b=>B0 b\/∃ m∈l,b∈partsOf m) K0 (l.foldl learn s)
 | [],s,h=>pR (fun b=>by simp) (fun k=>Iff.rfl) h
 | m::l,s,h=>by
  have h1:Full (fun b=>B0 b\/b∈partsOf m) K0 (learn s m):=h.join (x:=⟨[],partsOf m⟩) (fun b=>Iff.rfl) (fun k=>by simp);exact pR (fun b=>by simp[or_assoc]) (fun k=>Iff.rfl) (yC (l:=l) h1)
theorem Aj{B0:Bytes->Prop}{K0:Int->Prop}:∀ {l:List Int} {s:Kn},Full B0 K0 s->Full B0 (fun k=>K0 k\/k∈bQ l) (l.foldl leak s)
 | [],s,h=>pR (fun b=>Iff.rfl) (fun k=>by simp[bQ]) h
 | m::l,s,h=>by
  have h1:Full B0 (fun k=>K0 k\/k∈bQ [m]) (leak s m):=h.join (x:=⟨bQ [m],[]⟩) (fun b=>by simp) (fun k=>Iff.rfl);exact pR (fun b=>Iff.rfl) (fun k=>by
   have:bQ (m::l)=bQ [m]++bQ l:=by simp[bQ,List.filter_cons];split<;>simp
   rw[this,Yg,or_assoc]) (Aj (l:=l) h1)
def Nn(ms:List Bytes)(ks:List Int):Kn:=ks.foldl leak (ms.foldl learn A2)
theorem IF(ms:List Bytes)(ks:List Int):Full (fun b=>∃ m∈ms,b∈partsOf m) (fun k=>k∈bQ ks) (Nn ms ks) :=
 pR (fun b=>by simp) (fun k=>by simp) (Aj (l:=ks) (yC (l:=ms) Rz))
theorem ri{s:Kn}:∀ {n:Nat} {b:Bytes},b.length<n->jr n s b=d_ s b:=by
 have key:∀ (k:Nat) (b:Bytes),b.length<k->∀ n m,b.length<n->b.length<m->jr n s b=jr m s b:=by
  intro k;induction k with
  | zero=>intro b h;omega
  | succ k ih =>
   intro b hb n m hn hm;obtain⟨n,rfl⟩:∃ q,n=q+1:=⟨n-1,by omega⟩;obtain⟨m,rfl⟩:∃ q,m=q+1:=⟨m-1,by omega⟩;have:(cj b).boxes.all (fun b=>jr n s b)=(cj b).boxes.all fun b=>jr m s b:=by
    rw[Bool.eq_iff_iff,Zd,Zd];constructor
    ·intro h c hc;have:=pX hc;rw[<-ih c (by omega) n m (by omega) (by omega)];exact h c hc
    ·intro h c hc;have:=pX hc;rw[ih c (by omega) n m (by omega) (by omega)];exact h c hc
   simp only[jr,this]
 exact fun {n b} h=>key (b.length+1) b (by omega) n (b.length+1) h (by omega)
theorem Cb(s:Kn)(b:Bytes):d_ s b=(s.boxes.contains b||(o0 b&&s.keys.contains (aW b).box.key&&(cj b).keys.all (fun k=>s.keys.contains k)&&(cj b).boxes.all fun b=>d_ s b)):=by
 have:(cj b).boxes.all (fun c=>jr b.length s c)=(cj b).boxes.all fun c=>d_ s c:=by
  rw[Bool.eq_iff_iff,Zd,Zd];constructor
  ·intro h c hc;have:=pX hc;rw[<-ri (n:=b.length) (by omega)];exact h c hc
  ·intro h c hc;have:=pX hc;rw[ri (by omega)];exact h c hc
 show jr (b.length+1) s b=_;simp only[jr,this]
end Kerb
/- Chapter 27: the reference's functions, as their loops are. -/
namespace Kerb
open Go Go.Abs
abbrev rb(v:AV):AV×aD:=(v,[])
theorem Rm{t:Bytes}(h:t.length<=70368744170000):(aW t).box.body.length<=70368744170000:=by
 rcases nR t with h1 | h1
 ·omega
 ·rw[h1];exact Yf _
noncomputable def SW{α:Type}(b:List UInt8)(f:List AV->Option α):Option α:=Zx (az (Zw (b.length<=70368744170000)) (Zp (rb (.sl 1 (c8 (partsOf b)))))) fun r=>aO r.2 (AV.ik 1 r.1 f)
theorem Ka{α:Type}(l:List α)(p:α->Bool):l.all p = !(l.any fun x => !p x):=List.all_eq_not_any_not
theorem Mu{b x:Bytes}(hb:b.length<=70368744160000)(h:x∈partsOf b):x.length<=70368744170000:=by
 have:=(nl b).1 x h;omega
noncomputable def Ya(bl:List AV)(l:List AV):St:=ak .i64 l fun n r=>ak .i64 r fun i r=>cO 1 r fun ks r=>cO 1 r fun bs r=>aw r
 (aE (Zw (i<(bl.length:Int))) (xE i bl (Yn (bl.getD (Zj i) .undef) fun q=>Yc (vd ks bs&&Zw (q.length<=70368744170000)) ks bs q fun k2 b3 b4 =>
   aE b4 (Zp (.inr (.ret,[iv i,iv i,.sl 1 k2,.sl 1 b3]))) (Zp (.inl [iv n,up i,.sl 1 k2,.sl 1 b3]))))
  (Zp (.inr (.exit 0,[iv n,iv i,.sl 1 ks,.sl 1 bs]))))
noncomputable def Pd(ks bs:List AV)(b:List UInt8):Option (AV×aD):=SW b fun l=>Zx (bF (Ya l) [iv 0,iv 0,.sl 1 ks,.sl 1 bs]) fun r=>ak .i64 r.2 fun n r1=>ak .i64 r1 fun _ r1=>cO 1 r1 fun _ r1=>cO 1 r1 fun _ r1=>aw r1
 (jO r.1 (Zp (rb (.bool (!Zw (n>=0))))) fun j=>aE (Yv j 0) (Zp (rb (.bool Zf))) none)
theorem KK{β:Type}{s:Kn}{L:List Bytes}(hl:L.length<=100000000){step:List AV->St}(sG:∀ i,i<L.length->step [iv 0,iv i,.sl 1 (dy s.keys),.sl 1 (c8 s.boxes)]=aE (!d_ s (L.getD i [])) (Zp (.inr (.ret,[iv i,iv i,.sl 1 (dy s.keys),.sl 1 (c8 s.boxes)]))) (Zp (.inl [iv 0,up i,.sl 1 (dy s.keys),.sl 1 (c8 s.boxes)])))
  (abF:step [iv 0,iv L.length,.sl 1 (dy s.keys),.sl 1 (c8 s.boxes)]=Zp (.inr (.exit 0,[iv 0,iv L.length,.sl 1 (dy s.keys),.sl 1 (c8 s.boxes)])))
  {k:Ex×List AV->Option β} {A B:β} (hA:∀ i:Nat,k (.ret,[iv i,iv i,.sl 1 (dy s.keys),.sl 1 (c8 s.boxes)])=Zp A) (hB:k (.exit 0,[iv 0,iv L.length,.sl 1 (dy s.keys),.sl 1 (c8 s.boxes)])=Zp B) :
  Zx (bF step [iv 0,iv 0,.sl 1 (dy s.keys),.sl 1 (c8 s.boxes)]) k=Zp (bif L.all (d_ s) then B else A):=by
 refine Qb1 (o8 (A:=A) (B:=B) (fun i=>[iv 0,iv i,.sl 1 (dy s.keys),.sl 1 (c8 s.boxes)]) L.length (fun i => !d_ s (L.getD i [])) ?_ ?_ ⟨_,abF,hB⟩ rfl) ?_
 ·intro i hi hq;rw[sG i hi,aj hq,vB (by omega)]
 ·intro i hi hq;exact⟨_,by rw[sG i hi,ah hq],hA i⟩
 ·rw[kU L [] (fun x => !d_ s x),Ka];cases L.any fun x => !d_ s x<;>rfl
theorem Pf{s:Kn}(hs:eV s){b:Bytes}(hb:b.length<=70368744160000):Pd (dy s.keys) (c8 s.boxes) b=Zp (rb (.bool (DY s b))):=by
 have hp:=(nl b).2;unfold Pd SW;rw[ae (by simp;omega)];show Zx (bF (Ya (c8 (partsOf b))) [iv 0,iv 0,.sl 1 (dy s.keys),.sl 1 (c8 s.boxes)]) _=_;refine Qb1 (KK (A:=rb (.bool Zy)) (B:=rb (.bool Zf)) (L:=partsOf b) (by omega) (fun i hi=> ?_) ?_ (fun i=> ?_) rfl) ?_
 ·have rK:i<(c8 (partsOf b)).length:=by rw[eM];exact hi
  show aE (Zw ((i:Int)<((c8 (partsOf b)).length:Int))) (xE i (c8 (partsOf b)) (Yn ((c8 (partsOf b)).getD (Zj i) .undef) _)) _=_;rw[ah (p9 rK),jS rK,Zu,kF hi,wY,KG.2 hs,OX (by have:=Mu hb (zn [] hi);simp;simpa using this)]
 ·show aE (Zw (((partsOf b).length:Int)<((c8 (partsOf b)).length:Int))) _ _=_;rw[aj (noB _)]
 ·show Zp (rb (.bool (!Zw ((i:Int)>=0))))=_;rw[show Zw ((i:Int)>=0)=Zf by simp];rfl
 ·unfold DY;cases (partsOf b).all (d_ s)<;>rfl
theorem LW(b:Bytes):o0 b=((aW b).err==0&&(aW b).n==(b.length:Int)):=rfl
theorem UI(za:Nat)(bl ks bs:List AV)(n i:Int):mkS za bl [iv n,iv i,.sl 1 ks,.sl 1 bs]=aE (Zw (i<(bl.length:Int))) (xE i bl (Yn (bl.getD (Zj i) .undef) fun q=>Yc (vd ks bs&&Zw (q.length<=70368744170000)&&Zw ((q.length:Int)<(za:Int))) ks bs q fun k2 b3 b4 =>
   aE b4 (Zp (.inr (.ret,[iv i,iv i,.sl 1 k2,.sl 1 b3]))) (Zp (.inl [iv n,up i,.sl 1 k2,.sl 1 b3]))))
  (Zp (.inr (.exit 0,[iv n,iv i,.sl 1 ks,.sl 1 bs]))):=rfl
theorem OW{s:Kn}(hs:eV s){b:Bytes}(hb:b.length<=70368744170000){za:Nat}(hd:b.length<=za):OV za (dy s.keys) (c8 s.boxes) b=Zp (.bool (!d_ s b),LY (dy s.keys) (c8 s.boxes)):=by
 have n1:=hs.GN;have n2:=hs.xO;have wA:=Az b;unfold OV;rw[L4 _ (by omega)];show aE (!!s.boxes.contains b) _ _=_;rw[Cb,Bool.not_not];cases hc:s.boxes.contains b with
 | true=>rfl
 | false =>
  rw[aA,ae (by simp;omega),Bool.false_or];show aE (!o0 b) _ _=_;cases hbx:o0 b with
  | false=>rfl
  | true =>
   have he:(aW b).err=0:=by rw[LW] at hbx;simp at hbx;exact hbx.1
   have hl:=Be he;rw[Yd,aA,ae (by simp;omega),Bool.true_and];show aE (!((aW b).err==0)) _ (lh (vg (dy s.keys) (aW b).box.key) _)=_;rw[he,aj (by rfl),yb _ (by omega)];show aE (!s.keys.contains (aW b).box.key) _ _=_;cases hk:s.keys.contains (aW b).box.key with
   | false=>rfl
   | true =>
    rw[Yd,aA,ae (by have:=Rm hb;simp;omega),Bool.true_and];show lh (Ro (dy s.keys) (dy (cj b).keys)) _=_;rw[Rp _ (by omega) (by have:=wA.keys;omega)];show aE ((cj b).keys.any fun k => !s.keys.contains k) _ (Zx (bF (mkS za (c8 (cj b).boxes)) [iv 0,iv 0,.sl 1 (dy s.keys),.sl 1 (c8 s.boxes)]) _)=_;rw[Ka (cj b).keys];cases (cj b).keys.any fun k => !s.keys.contains k with
    | true=>rfl
    | false =>
     rw[aA,Yk,Bool.true_and];refine Qb1 (KK (A:=(Zb Zf,LY (dy s.keys) (c8 s.boxes))) (B:=(Zb Zy,LY (dy s.keys) (c8 s.boxes))) (L:=(cj b).boxes) (by have:=wA.boxes;omega) (fun i hi=> ?_) ?_ (fun i=> ?_) rfl) ?_
     ·have rK:i<(c8 (cj b).boxes).length:=by rw[eM];exact hi
      have hq:=wA.len _ (zn [] hi);rw[UI,ah (p9 rK),jS rK,Zu,kF hi,wY,KG.2 hs,OX (by rw[Qa4 (show((cj b).boxes.getD i []).length<=70368744170000 by omega),Qa4 (show((((cj b).boxes.getD i []).length:Nat):Int)<(za:Int) by omega)];rfl)]
     ·show aE (Zw (((cj b).boxes.length:Int)<((c8 (cj b).boxes).length:Int))) _ _=_;rw[aj (noB _)]
     ·show Zp (Zb (Zw ((i:Int)>=0)),LY (dy s.keys) (c8 s.boxes))=_;rw[show Zw ((i:Int)>=0)=Zf by simp]
     ·cases (cj b).boxes.all (d_ s)<;>rfl
end Kerb
/- Chapter 27: the statements' messages. -/
namespace Kerb
open Go Go.Abs
abbrev s8(n:UInt8)(m:Int):Int:=Yu (Zk .i64 (n.toNat:Int)) m
theorem zE(n:UInt8){m:Int}(h:0<m):0<=s8 n m/\s8 n m<m:=by
 unfold s8;have:n.toNat<256:=n.toNat_lt;rw[wrap_i64 (by omega) (by omega),Zn (by omega)];exact⟨Int.emod_nonneg _ (by omega),Int.emod_lt_of_pos _ h⟩
def fZ(n:UInt8):Int:=bif Zw (((Ym (Zj (Yu (n.toNat:Int) ((6:UInt8).toNat:Int)))).toNat:Int)<((2:UInt8).toNat:Int)) then ou (s8 n 6) else aB (s8 n 6)
def gw(n:UInt8):Int:=bif Zw (((Ym (Zj (Yu (n.toNat:Int) ((6:UInt8).toNat:Int)))).toNat:Int)<((2:UInt8).toNat:Int)) then aB (Zk .i64 (2+s8 n 4)) else aB (Zk .i64 (2+s8 n 4))
theorem Bi(n:UInt8):gw n=aB (Zk .i64 (2+s8 n 4)):=by grind [gw]
def iH(x:UInt8):ma:=⟨user (next [x] 0 9),0,0,0⟩
def TL(n:UInt8):UInt8:=Ym (Zj (Zk .u8 (Int.tdiv (n.toNat:Int) ((8:UInt8).toNat:Int))))
def fc(fN de:UInt8):Bytes:=(eI { aI [fN,de] with aB:=gw de } (fZ (TL de))).val
theorem oq(n:UInt8):0<=fZ n/\fZ n<18446744073709551616:=by
 unfold fZ;cases Zw (((Ym (Zj (Yu (n.toNat:Int) ((6:UInt8).toNat:Int)))).toNat:Int)<((2:UInt8).toNat:Int))
 ·exact tf _
 ·exact KH _
theorem qh(n:UInt8):0<=gw n/\gw n<18446744073709551616:=by rw[Bi];exact tf _
structure iB where
 kd:UInt8
 bx:UInt8
 se:UInt8
 fN:UInt8
 de:UInt8
 li:Bool
 hw:Int
def nK(bx:UInt8):Int:=Zk .i64 (1+s8 bx 10)
def qX(n m:UInt8):UInt8:=Ym (Zj (Yu (n.toNat:Int) (m.toNat:Int)))
def lv(t:iB):Bytes :=
 let s:=service (Zk .i64 (t.bx.toNat:Int))
 if nK t.bx=1 then(bB { aI [t.fN] with aB:=gw t.fN }).val
 else if nK t.bx=2 then(fM (iH t.fN) t.li).val
 else if nK t.bx=3 then(bR ⟨gw t.fN,s,0,0,fc t.fN t.de,0⟩ t.li).val
 else if nK t.bx=4 then(dG ⟨5,0,0⟩ t.li).val
 else if nK t.bx=5\/nK t.bx=6 then(ca ⟨[],0,0,7⟩ t.li).val
 else if nK t.bx=7 then(bif qX t.de 2==1 then(aR ⟨ve,4,0,0,0⟩).val else(aR ⟨fX,0,0,0,fZ t.fN⟩).val)
 else if nK t.bx=8 then(bif qX t.de 8==1 then(aZ ⟨o_,0,0,0,0,0,⟨[],[],[]⟩,[]⟩).val else(aZ ⟨vf,0,gw t.fN,0,0,0,s,fc t.fN t.de⟩).val)
 else if nK t.bx=9 then(dH ⟨user (Zk .i64 (t.bx.toNat:Int)),s,gw t.fN,0,0,0⟩).val
 else(cN ⟨gw t.fN,s,0,0,fc t.fN t.de⟩).val
theorem O3(x:UInt8):dl [x] 0 9=1:=rfl
theorem O4(x:UInt8)(n:Int):dl [x] 1 n=1:=rfl
theorem Ye(x:UInt8)(n:Int):next [x] 1 n=0:=rfl
def oS(t:iB):Bytes:=(fo (nK t.bx) (fZ t.se) (bif Yu t.hw 16==15 then oJ (lv t) (Zk .u16 (Int.tdiv t.hw 16)) else lv t)).val
theorem Ga(r:FA):(dH r).val.length<=400:=by
 by_cases h:(dH r).err=0
 ·obtain⟨h1,h2,_,_,_,_,z,hz,hl⟩:=yB h;have l1:=cq h1;have l2:=cq h2;rw[hz];simp[af,ag];omega
 ·unfold dH at h ⊢;repeat' split
  all_goals first | simp | skip
  all_goals exfalso;simp_all
theorem Ec(r:uj):(cN r).val.length<=600:=by
 by_cases h:(cN r).err=0
 ·obtain⟨_,h2,_,_,_,z,hz,hl⟩:=wc h;have l2:=cq h2;rw[hz];simp[af,ag];omega
 ·unfold cN at h ⊢;repeat' split
  all_goals first | simp | skip
  all_goals exfalso;simp_all
theorem F'(r:DP):(eH r).val.length<=2000:=by
 by_cases h:(eH r).err=0
 ·obtain⟨_,h2,h3,hz⟩:=F_ h;have l2:=cq h2;have hh:(header 10 Zy).length=2:=rfl;rw[hz];simp only[Yx,List.length_cons,List.length_nil,af,hh];omega
 ·unfold eH at h ⊢;repeat' split
  all_goals first | simp | skip
  all_goals exfalso;simp_all
theorem o7{c:Prop}[Decidable c]{a b:Bytes}(h1:a.length<=1000)(h2:b.length<=1000):(if c then a else b).length<=1000:=by
 split
 ·exact h1
 ·exact h2
theorem FW{c:Bool}{a b:Bytes}(h1:a.length<=1000)(h2:b.length<=1000):(bif c then a else b).length<=1000:=by
 cases c
 ·exact h2
 ·exact h1
theorem pw{n m:Nat}(h:n<=m)(hm:m<=1000):n<=1000:=Yq h hm
theorem IL(t:iB):(lv t).length<=1000 :=
 o7 (pw (Cg _) (by decide)) <| o7 (pw z7 (by decide)) <| o7 (pw (z8 _ _) (by decide)) <| o7 (pw (xW _ _) (by decide)) <| o7 (so _ _) <|
  o7 (FW (pw (wb _) (by decide)) (pw (wb _) (by decide))) <| o7 (FW (pw (v_ _) (by decide)) (pw (v_ _) (by decide))) <| o7 (pw (Ga _) (by decide)) (pw (Ec _) (by decide))
theorem Lm(t:iB):(oS t).length<=1012:=AU _ _ _
theorem pK{n m:Int}(h0:0<=n)(h1:n<=65535)(hm:0<m):0<=Zk .u16 (Int.tdiv n m)/\Zk .u16 (Int.tdiv n m)<=65535:=by
 rw[Int.tdiv_eq_ediv_of_nonneg h0,wrap_u16];omega
def lL(t:iB):Bytes :=
 let u:=user (Zk .i64 (t.kd.toNat:Int))
 let k:=qX t.kd 10
 if k=0 then(dQ ⟨t.li,u,0,0,0,oS t⟩).val
 else if k=1 then(bZ ⟨t.li,Zy,0,[82],fc t.fN t.de,oS t⟩).val
 else if k=2 then(dO ⟨⟨t.li,Zy,0,[82],fc t.fN t.de,fc t.fN t.de⟩,0,0,[115],[]⟩).val
 else if k=3 then(dN (oS t) t.li).val
 else if k=4 then(aX ⟨2,⟨[],[],[]⟩,0,[82],fc t.fN t.de,[115],[],oS t⟩).val
 else if k=5 then(cf ⟨1,0,oS t⟩).val
 else if k=6 then(eH ⟨Zk .i64 (1+Yu (Zk .i64 (Int.tdiv (Zk .i64 (t.kd.toNat:Int)) 10)) 3),u,oS t⟩).val
 else if k=7 then(oy ⟨[],0,0,Zk .i64 (t.de.toNat:Int)⟩ t.li (fZ t.se)).val
 else if k=8 then(ox ⟨[],0,0,Zk .i64 (t.de.toNat:Int)⟩ t.li (fZ t.se)).val
 else oS t
def oz(t:iB):Bytes:=bif Yu t.hw 32==13 then oJ (lL t) (Zk .u16 (Int.tdiv t.hw 32)) else lL t
theorem lM{c:Prop}[Decidable c]{a b:Bytes}(h1:a.length<=3000)(h2:b.length<=3000):(if c then a else b).length<=3000:=by
 split
 ·exact h1
 ·exact h2
theorem px{n m:Nat}(h:n<=m)(hm:m<=3000):n<=3000:=Yq h hm
theorem EF(p:pF)(li:Bool)(k:Int):(oy p li k).val.length<=2100:=by
 have h:=qZ p li 6 k;have hh:(header 7 li).length<=2:=by cases li<;>decide
 unfold oy;split
 ·exact Yf _
 ·simp only[w7,Yx,af];omega
theorem EE(p:pF)(li:Bool)(k:Int):(ox p li k).val.length<=2100:=by
 have h:=qZ p li 5 k;have hh:(header 6 li).length<=2:=by cases li<;>decide
 unfold ox;split
 ·exact Yf _
 ·simp only[w7,Yx,af];omega
theorem yJ(t:iB):(lL t).length<=3000 :=
 lM (px (zb _) (by decide)) <| lM (px (Ns _) (by decide)) <| lM (px (Sj _) (by decide)) <| lM (px (Ch _ _) (by decide)) <| lM (px (Ea _) (by decide)) <|
  lM (px (D' _) (by decide)) <| lM (px (F' _) (by decide)) <| lM (px (EF _ _ _) (by decide)) <| lM (px (EE _ _ _) (by decide)) (px (Lm t) (by decide))
theorem C8(t:iB):(oz t).length<=6001:=by
 have h:=yJ t;unfold oz;cases Yu t.hw 32==13
 ·exact Yq h (by decide)
 ·have:=MX (lL t) (Zk .u16 (Int.tdiv t.hw 32));exact Yq this (by omega)
def aaK:Bytes:=(bZ ⟨Zy,Zy,0,[82],(eI ⟨Zy,⟨(aI []).client.name,(aI []).client.inst,(aI []).client.aJ⟩,(aI []).address,(aI []).aB,(aI []).cl,(aI []).cE,(aI []).service,(aI []).inst⟩ (ou 1)).val,[]⟩).val
def V6:Kn:=leak (kn [] []) (ou 1)
def Nw:Kn:=learn (kn (dy V6.keys) (c8 V6.boxes)) aaK
theorem Rg:Nw.keys.length<=100000000:=by decide +kernel
theorem Rf:Nw.keys.contains (aB 0)=Zf:=by decide +kernel
noncomputable def To:Option (AV×aD):=lh (Ew (dy Nw.keys) (aB 0)) fun b=>aE b (Zp (.bool Zf,[])) (Zp (.bool Zy,[]))
theorem Re:To=some (.bool Zf,[]):=by
 unfold To;rw[tM _ Rg,Rf];rfl
end Kerb
namespace Kerb
open Go Go.Abs
end Kerb
/- Chapter 27: sequences of messages and leaked keys. -/
namespace Kerb
open Go Go.Abs
def mY:AV->Bool
 | .agg [.u8 _,.u8 _,.u8 _,.u8 _,.u8 _,.bool _,.int .u16 hw]=>Zw (0<=hw)&&Zw (hw<=65535)
 | _=>Zy
def RP:iB:=⟨0,0,0,0,0,false,0⟩
def t_:AV->iB
 | .agg [.u8 kd,.u8 bx,.u8 se,.u8 fN,.u8 de,.bool li,.int .u16 hw]=>⟨kd,bx,se,fN,de,li,hw⟩
 | _=>RP
def gW(ls:List AV)(n:Nat):List Bytes:=(Zm ls.length).map fun i=>oz (t_ (ls.getD ((i+n) % ls.length) .undef))
def gB(lk:Bytes)(n:Nat):List Int:=(Zm (min 6 lk.length)).map fun i=>fZ (lk.getD ((i+n) % min 6 lk.length) 0)
def zR(ls:List AV)(lk:Bytes)(turn:Int):Kn:=Nn (gW ls turn.toNat) (gB lk turn.toNat)
end Kerb
/- Chapter 27: the statements about sequences of messages, in plain words. -/
namespace Kerb
open Go Go.Abs
theorem CG(s:Kn):ml (close s)<=ml s :=
 (xQ (P:=fun t=>ml t<=ml s) (fun t b h gb go=>Yq (Nat.le_of_lt (oC gb go)) h) s (Nat.le_refl _)).1
theorem L7(s:Kn)(b:Bytes):ml (learn s b)<=ml s+2*b.length+2026:=by
 have h1:=CG (s.add ⟨[],partsOf b⟩);have hp:=nl b;have h2:=DS s ⟨[],partsOf b⟩ (m:=b.length+1012) hp.1;have h3:(partsOf b).length*(b.length+1012+1)<=2*(b.length+1012+1):=Nat.mul_le_mul_right _ hp.2;unfold learn;simp only[List.length_nil] at h2;omega
theorem OK(s:Kn)(k:Int):ml (leak s k)<=ml s+1:=by
 have h1:=CG (s.add ⟨bQ [k],[]⟩);have hp:=pj k;have h2:=DS s ⟨bQ [k],[]⟩ (m:=0) (by simp);unfold leak;simp only[List.length_nil] at h2;omega
structure Fit (s:Kn) (n:Nat):Prop where
 NT:eV s
 ml:ml s<=n
theorem TP:Fit A2 0:=⟨⟨rfl,fun b h=>(nomatch h),by decide⟩,by decide⟩
theorem Fit.learn{s:Kn}{n:Nat}(h:Fit s n){b:Bytes}(hb:b.length<=6001)(hn:n<=900000):Fit (learn s b) (n+14028):=by
 have h1:=L7 s b;have h2:=h.ml;exact⟨(h.NT.parts (by omega)).close,by omega⟩
theorem Fit.leak{s:Kn}{n:Nat}(h:Fit s n){k:Int}(hn:n<=900000):Fit (leak s k) (n+1):=by
 have h1:=OK s k;have h2:=h.ml;exact⟨(h.NT.OL (by omega)).close,by omega⟩
theorem tJ{α β:Type}(f:β->α->β)(s:β)(d:α):∀ {l:List α} {i:Nat},i<l.length->(l.take (i+1)).foldl f s=f ((l.take i).foldl f s) (l.getD i d):=by
 intro l i h;rw[List.take_add_one,List.foldl_append];simp[Zh,h]
theorem Ae{l:List Bytes}(h:∀ b∈l,b.length<=6001)(hl:l.length<=12):∀ i,i<=l.length->Fit ((l.take i).foldl Kerb.learn A2) (i*14028)
 | 0,_=>by simpa using TP
 | i+1,hi=>by
  rw[tJ _ _ [] hi,Nat.succ_mul];refine(Ae h hl i (by omega)).learn ?_ (by omega);have:l.getD i []=l[i]:=by simp only[Zh,List.getElem?_eq_getElem (show i<l.length from hi),Option.getD_some]
  rw[this];exact h _ (List.getElem_mem _)
theorem Ad{s:Kn}{n:Nat}(h:Fit s n){l:List Int}(hl:l.length<=300)(hn:n<=500000):∀ i,i<=l.length->Fit ((l.take i).foldl Kerb.leak s) (n+i)
 | 0,_=>by simpa using h
 | i+1,hi=>by
  rw[tJ _ _ 0 hi];exact(Ad h hl hn i (by omega)).leak (by omega)
theorem iK(ls:List AV)(n:Nat):(gW ls n).length=ls.length:=by simp[gW]
theorem C9(ls:List AV)(n:Nat):∀ b∈gW ls n,b.length<=6001:=by
 intro b hb;simp only[gW,Yb] at hb;obtain⟨i,_,rfl⟩:=hb;exact C8 _
theorem Me{ls:List AV}{n i:Nat}(h:i<ls.length):(gW ls n).getD i []=oz (t_ (ls.getD ((i+n) % ls.length) .undef)):=by
 simp[gW,Zh,h]
theorem mz(lk:Bytes)(n:Nat):(gB lk n).length=min 6 lk.length:=by simp[gB]
theorem LZ{lk:Bytes}{n i:Nat}(h:i<min 6 lk.length):(gB lk n).getD i 0=fZ (lk.getD ((i+n) % min 6 lk.length) 0):=by
 unfold gB;rw[Zh,List.getElem?_map,List.getElem?_range h];rfl
theorem CF{ls:List AV}(lk:Bytes)(turn:Int)(h:ls.length<=12):Fit (zR ls lk turn) 200000:=by
 have h1:=Ae (C9 ls turn.toNat) (by rw[iK];exact h) _ (Nat.le_refl _);rw[Yp,iK] at h1;have h2:=Ad h1 (l:=gB lk turn.toNat) (by rw[mz];omega) (by omega) _ (Nat.le_refl _);rw[Yp,mz] at h2;exact⟨h2.NT,Yq h2.ml (by omega)⟩
theorem turned{p:Nat->Prop}{N:Nat}(n:Nat):(∃ i,i<N/\p ((i+n) % N))↔∃ i,i<N/\p i:=by
 constructor
 ·rintro⟨i,hi,hp⟩;exact⟨(i+n) % N,Nat.mod_lt _ (by omega),hp⟩
 ·rintro⟨i,hi,hp⟩;refine⟨(i+(N-n % N)) % N,Nat.mod_lt _ (by omega),?_⟩;have fz:n % N<N:=Nat.mod_lt _ (by omega);have:((i+(N-n % N)) % N+n) % N=i:=by
   rw[Nat.add_mod,Nat.mod_mod,<-Nat.add_mod];have e:i+(N-n % N)+n=i+N*(n / N+1):=by
    have:=Nat.div_add_mod n N;rw[Nat.mul_add,Nat.mul_one];omega
   rw[e,Nat.add_mul_mod_self_left,Nat.mod_eq_of_lt hi]
  rw[this];exact hp
theorem Jo(ls:List AV)(n:Nat)(b:Bytes):b∈gW ls n↔b∈gW ls 0:=by
 have h:=turned (p:=fun i=>oz (t_ (ls.getD i .undef))=b) (N:=ls.length) n;have h0:=turned (p:=fun i=>oz (t_ (ls.getD i .undef))=b) (N:=ls.length) 0;simp only[gW,Yb,Yz];exact h.trans h0.symm
theorem Jb(lk:Bytes)(n:Nat)(k:Int):k∈gB lk n↔k∈gB lk 0:=by
 have h:=turned (p:=fun i=>fZ (lk.getD i 0)=k) (N:=min 6 lk.length) n;have h0:=turned (p:=fun i=>fZ (lk.getD i 0)=k) (N:=min 6 lk.length) 0;simp only[gB,Yb,Yz];exact h.trans h0.symm
theorem IE(ls:List AV)(lk:Bytes)(turn:Int):Full (fun b=>∃ m∈gW ls 0,b∈partsOf m) (fun k=>k∈bQ (gB lk 0)) (zR ls lk turn):=by
 refine pR (fun b=> ?_) (fun k=> ?_) (IF (gW ls turn.toNat) (gB lk turn.toNat))
 ·simp only[Jo]
 ·simp only[bQ,List.mem_filter,Jb]
def iB.av(t:iB):AV := .agg [.u8 t.kd,.u8 t.bx,.u8 t.se,.u8 t.fN,.u8 t.de,.bool t.li,.int .u16 t.hw]
theorem O6{a:AV}(h:mY a=Zf):∃ t:iB,a=t.av/\0<=t.hw/\t.hw<=65535/\t_ a=t:=by
 unfold mY at h;split at h
 ·rename_i kd bx se fN de li hw;simp only[Zz,Qa2] at h;exact⟨⟨kd,bx,se,fN,de,li,hw⟩,rfl,h.1,h.2,rfl⟩
 ·cases h
theorem Im{ls:List AV}(h:ls.all mY=Zf){i:Nat}(hi:i<ls.length):∃ t:iB,ls.getD i .undef=t.av/\0<=t.hw/\t.hw<=65535/\t_ (ls.getD i .undef)=t:=by
 have e:ls.getD i .undef=ls[i]:=by simp only[Zh,List.getElem?_eq_getElem hi,Option.getD_some]
 rw[e];exact O6 (Zd.1 h _ (List.getElem_mem hi))
theorem M0(t:iB):iB.mk t.kd t.bx t.se t.fN t.de t.li t.hw=t:=rfl
theorem OM{n:Nat}(h:0<n):(((n:Nat):Int)==0)=Zy:=by rw[beq_eq_false_iff_ne];omega
theorem DH{i n N:Nat}(h:i+n<=1000000):Yu (Zk .i64 ((i:Int)+(n:Int))) (N:Int)=(((i+n) % N:Nat):Int):=by
 rw[wrap_i64 (by omega) (by omega),Zn (by omega)];rfl
theorem X3(N:Nat):u5 6 (N:Int)=((min 6 N:Nat):Int):=by
 unfold u5;split<;>omega
theorem Fit.kn{s:Kn}{n:Nat}(h:Fit s n):vd (dy s.keys) (c8 s.boxes)=Zf:=KG.2 h.NT
theorem Fit.pre{s:Kn}{n:Nat}(h:Fit s n)(hn:n<=900000){b:Bytes}(hb:b.length<=6001):Zw (Kerb.ml s+2*b.length+2100<=1000000)=Zf:=by
 exact Qa4 (by have:=h.ml;omega)
theorem Fit.Pc{s:Kn}{n:Nat}(h:Fit s n)(hn:n<=900000):Zw (Kerb.ml s+1<=1000000)=Zf:=by
 exact Qa4 (by have:=h.ml;omega)
theorem Fit.kl{s:Kn}{n:Nat}(h:Fit s n)(hn:n<=900000):s.keys.length<=900000:=by have:=h.ml;unfold Kerb.ml at this;omega
theorem Fit.bl{s:Kn}{n:Nat}(h:Fit s n)(hn:n<=900000):s.boxes.length<=900000:=by have:=h.ml;unfold Kerb.ml at this;omega
end Kerb
namespace Kerb
end Kerb
namespace Kerb
open Go Go.Abs
theorem Fit.lk{s:Kn}{n:Nat}(h:Fit s n)(hn:n<=900000):Zw ((dy s.keys).length<=1000000000)=Zf:=by rw[fv];exact Qa4 (by have:=h.kl hn;omega)
theorem Fit.lb{s:Kn}{n:Nat}(h:Fit s n)(hn:n<=900000):Zw ((c8 s.boxes).length<=1000000000)=Zf:=by rw[eM];exact Qa4 (by have:=h.bl hn;omega)
end Kerb
/- Chapter 27: texts by their shape; a pattern that no spoilt text of a shape holds. -/
namespace Kerb
open Go Go.Abs
inductive Sy where
 | any
 | one (b:UInt8)
 | of (l:List UInt8)
def Sy.has:Sy->UInt8->Bool
 | .any,_=>Zf
 | .one b,c=>c==b
 | .of l,c=>l.contains c
def iO:List Sy->Bytes->Bool
 | [],[]=>Zf
 | s::ss,c::cs=>s.has c&&iO ss cs
 | _,_=>Zy
theorem aY:∀ {s1:List Sy} {b1:Bytes} {s2:List Sy} {b2:Bytes},iO s1 b1=Zf->iO s2 b2=Zf->iO (s1++s2) (b1++b2)=Zf
 | [],[],_,_,_,h=>h
 | [],_::_,_,_,h,_=>by cases h
 | _::_,[],_,_,h,_=>by cases h
 | s::ss,c::cs,_,_,h,h2=>by
  simp only[iO,Zz] at h;simp only[Zg,iO,Zz];exact⟨h.1,aY h.2 h2⟩
theorem ra:∀ {s:List Sy} {b:Bytes},iO s b=Zf->b.length=s.length
 | [],[],_=>rfl
 | [],_::_,h=>by cases h
 | _::_,[],h=>by cases h
 | s::ss,c::cs,h=>by
  simp only[iO,Zz] at h;simp[ra h.2]
theorem KY:∀ (b:Bytes),iO (List.replicate b.length .any) b=Zf
 | []=>rfl
 | c::cs=>by simp[List.replicate,iO,Sy.has,KY cs]
def nZ(l:List (List Sy))(b:Bytes):Prop:=∃ s∈l,iO s b=Zf
def uI(l1 l2:List (List Sy)):List (List Sy):=l1.flatMap fun a=>l2.map (a ++ ·)
theorem eT{l1 l2:List (List Sy)}{b1 b2:Bytes}(h1:nZ l1 b1)(h2:nZ l2 b2):nZ (uI l1 l2) (b1++b2):=by
 obtain⟨s1,m1,h1⟩:=h1;obtain⟨s2,m2,h2⟩:=h2;exact⟨s1++s2,List.mem_flatMap.2 ⟨s1,m1,Yb.2 ⟨s2,m2,rfl⟩⟩,aY h1 h2⟩
theorem dZ{s:List Sy}{b:Bytes}(h:iO s b=Zf):nZ [s] b:=⟨s,by simp,h⟩
theorem kj{l1 l2:List (List Sy)}{b:Bytes}(h:nZ l1 b):nZ (l1++l2) b:=by
 obtain⟨s,m,h⟩:=h;exact⟨s,Yg.2 (.inl m),h⟩
theorem bD{l1 l2:List (List Sy)}{b:Bytes}(h:nZ l2 b):nZ (l1++l2) b:=by
 obtain⟨s,m,h⟩:=h;exact⟨s,Yg.2 (.inr m),h⟩
def oH(n:Nat):List Sy:=List.replicate n (.one 0)
theorem Du:∀ n,iO (oH n) (List.replicate n 0)=Zf
 | 0=>rfl
 | n+1=>by
  show(Sy.has (.one 0) 0&&iO (oH n) (List.replicate n 0))=Zf;rw[Du n];rfl
def yh(s:List Sy):List Sy:=s++oH ((8-s.length % 8) % 8)
theorem mZ{l:List (List Sy)}{b:Bytes}(h:nZ l b):nZ (l.map yh) (pad b):=by
 obtain⟨s,m,h⟩:=h;refine⟨yh s,Yb.2 ⟨s,m,rfl⟩,?_⟩;unfold yh pad;rw[<-ra h];exact aY h (Du _)
def TQ(j:Nat)(c:UInt8):UInt8:=Ym (Zj (Zk .u8 ((BitVec.ofInt (IntKind.bits .u8) (c.toNat:Int) ^^^ BitVec.ofInt (IntKind.bits .u8) ((Ym (Zj (Zk .u8 (((1:UInt8).toNat:Int)*(2:Int) ^ min j 8)))).toNat:Int)).toNat:Int)))
inductive Fl:Bytes->Bytes->Prop
 | here {c:UInt8} {y:Bytes} {j:Nat}:j<7->Fl (c::y) (TQ j c::y)
 | there {c:UInt8} {b b':Bytes}:Fl b b'->Fl (c::b) (c::b')
inductive De:Bytes->Bytes->Prop
 | here {c:UInt8} {y:Bytes}:De (c::y) y
 | there {c:UInt8} {b b':Bytes}:De b b'->De (c::b) (c::b')
def Ed(b b':Bytes):Prop:=b'=b\/(∃ c:UInt8,c.toNat % 4=2/\b'=b++[c])\/Fl b b'\/De b b'
theorem Fl.pre{b b':Bytes}(h:Fl b b'):∀ a:Bytes,Fl (a++b) (a++b')
 | []=>h
 | c::a => .there (Fl.pre h a)
theorem De.pre{b b':Bytes}(h:De b b'):∀ a:Bytes,De (a++b) (a++b')
 | []=>h
 | c::a => .there (De.pre h a)
theorem Ed.pre{b b':Bytes}(h:Ed b b')(a:Bytes):Ed (a++b) (a++b'):=by
 rcases h with rfl | ⟨c,hc,rfl⟩ | h | h
 ·exact .inl rfl
 ·exact .inr (.inl ⟨c,hc,by simp⟩)
 ·exact .inr (.inr (.inl (h.pre a)))
 ·exact .inr (.inr (.inr (h.pre a)))
theorem NU:∀ {b:Bytes} {i j:Nat},i<b.length->j<7->Fl b (b.set i (TQ j (b.getD i 0)))
 | [],i,j,h,_=>by simp at h
 | c::b,0,j,_,hj=>Fl.here hj
 | c::b,i+1,j,h,hj=>Fl.there (NU (by simpa using h) hj)
theorem Sx:∀ {b:Bytes} {i:Nat},i<b.length->De b (b.take i++b.drop (i+1))
 | [],i,h=>by simp at h
 | c::b,0,_=>De.here
 | c::b,i+1,h=>De.there (Sx (by simpa using h))
theorem Ih(b:Bytes){how:Int}(h0:0<=how)(h1:how<=65535):Ed b (oJ b how):=by
 unfold oJ;split
 ·rename_i h;exact .inl h.symm
 rename_i hb;have hl:0<b.length:=List.length_pos_iff.2 hb;have e1:Zk .u16 (Int.tdiv how 8)=how / 8:=by rw[Int.tdiv_eq_ediv_of_nonneg h0,wrap_u16];omega
 have e2:Zk .i64 (how / 8)=how / 8:=wrap_i64 (by omega) (by omega);have Gl:l9 b how=(how / 8) % (b.length:Int):=by
  unfold l9;rw[e1,e2,Zn (by omega)]
 have a0:0<=(how / 8) % (b.length:Int):=Int.emod_nonneg _ (by omega);have a1:(how / 8) % (b.length:Int)<b.length:=Int.emod_lt_of_pos _ (by omega);have a2:(how / 8) % (b.length:Int)<=8191:=by
  by_cases h:how / 8<b.length
  ·rw[Int.emod_eq_of_lt (by omega) h];omega
  ·omega
 rw[Gl];generalize (how / 8) % (b.length:Int)=q at a0 a1 a2;split
 ·have hj:Zj (Zk .u64 (Yu how 7))<7:=by
   rw[Zn h0,wrap_u64];omega
  exact .inr (.inr (.inl (NU (b:=b) (i:=q.toNat) (by omega) hj)))
 split
 ·refine .inr (.inr (.inr ?_));have e3:Zj (Zk .i64 (q+1))=q.toNat+1:=by
   rw[wrap_i64 (by omega) (by omega)];omega
  rw[e3];exact Sx (by omega)
 split
 ·rename_i g;refine .inr (.inl ⟨_,?_,rfl⟩);rw[Zn h0] at g;rw[wrap_u8,UInt8.toNat_ofNat'];omega
 ·exact .inl rfl
inductive Pe where
 | any
 | pr
 | is (b:UInt8)
 | le (b:UInt8)
def Pe.ok:Pe->UInt8->Bool
 | .any,_=>Zf
 | .pr,c=>Zw (33<=c.toNat)&&Zw (c.toNat<=126)
 | .is b,c=>c==b
 | .le b,c=>Zw (1<=c.toNat)&&Zw (c.toNat<=b.toNat)
def Pe.may:Pe->Sy->Bool
 | _,.any=>Zf
 | p,.one b=>p.ok b
 | p,.of l=>l.any p.ok
def Pe.flip:Pe->Sy->Bool
 | _,.any=>Zf
 | p,.one b=>(Zm 7).any fun j=>p.ok (TQ j b)
 | p,.of l=>l.any fun b=>(Zm 7).any fun j=>p.ok (TQ j b)
def gL:List Pe->Bytes->Bool
 | [],_=>Zf
 | p::ps,c::cs=>p.ok c&&gL ps cs
 | _::_,[]=>Zy
def og:List Pe->List Sy->Bool
 | [],_=>Zf
 | p::ps,s::ss=>p.may s&&og ps ss
 | _::_,[]=>Zy
def pQ:List Pe->List Sy->Bool
 | [],_=>Zf
 | p::ps,s::ss=>(p.may s&&pQ ps ss)||(og ps ss&&p.flip s)
 | _::_,[]=>Zy
def uv:List Pe->List Sy->Bool
 | [],_=>Zf
 | p::ps,s::ss=>(p.may s&&uv ps ss)||og (p::ps) ss
 | _::_,[]=>Zy
def xN(ps:List Pe):List Sy->Bool
 | []=>Zy
 | s::ss=>pQ ps (s::ss)||uv ps (s::ss)||xN ps ss
theorem Jn{p:Pe}{s:Sy}{c:UInt8}(h:s.has c=Zf)(hp:p.ok c=Zf):p.may s=Zf:=by
 cases s with
 | any=>cases p<;>rfl
 | one b =>
  have:c=b:=by simpa [Sy.has] using h
  subst this;cases p<;>exact hp
 | of l =>
  have hm:c∈l:=by simpa [Sy.has] using h
  have:l.any p.ok=Zf:=Yy.2 ⟨c,hm,hp⟩;cases p<;>exact this
theorem Ry{p:Pe}{s:Sy}{c:UInt8}{j:Nat}(h:s.has c=Zf)(hj:j<7)(hp:p.ok (TQ j c)=Zf):p.flip s=Zf:=by
 cases s with
 | any=>cases p<;>rfl
 | one b =>
  have:c=b:=by simpa [Sy.has] using h
  subst this;have:((Zm 7).any fun j=>p.ok (TQ j c))=Zf:=Yy.2 ⟨j,Yz.2 hj,hp⟩;cases p<;>exact this
 | of l =>
  have hm:c∈l:=by simpa [Sy.has] using h
  have:(l.any fun b=>(Zm 7).any fun j=>p.ok (TQ j b))=Zf:=Yy.2 ⟨c,hm,Yy.2 ⟨j,Yz.2 hj,hp⟩⟩;cases p<;>exact this
theorem oh:∀ {ps:List Pe} {s ex:List Sy} {b:Bytes},iO s b=Zf->gL ps b=Zf->og ps (s++ex)=Zf
 | [],_,_,_,_,_=>by unfold og;rfl
 | p::ps,[],_,[],_,h=>by cases h
 | p::ps,[],_,_::_,h,_=>by cases h
 | p::ps,s::ss,_,[],h,_=>by cases h
 | p::ps,s::ss,ex,c::cs,h,hf=>by
  simp only[iO,Zz] at h;simp only[gL,Zz] at hf;show(p.may s&&og ps (ss++ex))=Zf;rw[Jn h.1 hf.1,oh h.2 hf.2];rfl
theorem x3:∀ {ps:List Pe} {s:List Sy},og ps s=Zf->pQ ps s=Zf
 | [],_,_=>by unfold pQ;rfl
 | p::ps,[],h=>by cases h
 | p::ps,s::ss,h=>by
  simp only[og,Zz] at h;simp only[pQ,h.1,x3 h.2,Bool.and_self,Bool.true_or]
theorem Ag{b b':Bytes}(hf:Fl b b'):∀ {ps:List Pe} {s ex:List Sy},iO s b=Zf->gL ps b'=Zf->pQ ps (s++ex)=Zf:=by
 induction hf with
 | @here c y j hj =>
  intro ps s ex hs hp;cases ps with
  | nil=>unfold pQ;rfl
  | cons p ps =>
   cases s with
   | nil=>cases hs
   | cons s ss =>
    simp only[iO,Zz] at hs;simp only[gL,Zz] at hp;show((p.may s&&pQ ps (ss++ex))||(og ps (ss++ex)&&p.flip s))=Zf;rw[oh hs.2 hp.2,Ry hs.1 hj hp.1];simp
 | @there c b b' _ ih =>
  intro ps s ex hs hp;cases ps with
  | nil=>unfold pQ;rfl
  | cons p ps =>
   cases s with
   | nil=>cases hs
   | cons s ss =>
    simp only[iO,Zz] at hs;simp only[gL,Zz] at hp;show((p.may s&&pQ ps (ss++ex))||(og ps (ss++ex)&&p.flip s))=Zf;rw[Jn hs.1 hp.1,ih hs.2 hp.2];rfl
theorem Gf{b b':Bytes}(hf:De b b'):∀ {ps:List Pe} {s ex:List Sy},iO s b=Zf->gL ps b'=Zf->uv ps (s++ex)=Zf:=by
 induction hf with
 | @here c y =>
  intro ps s ex hs hp;cases ps with
  | nil=>unfold uv;rfl
  | cons p ps =>
   cases s with
   | nil=>cases hs
   | cons s ss =>
    simp only[iO,Zz] at hs;show((p.may s&&uv ps (ss++ex))||og (p::ps) (ss++ex))=Zf;rw[oh hs.2 hp];simp
 | @there c b b' _ ih =>
  intro ps s ex hs hp;cases ps with
  | nil=>unfold uv;rfl
  | cons p ps =>
   cases s with
   | nil=>cases hs
   | cons s ss =>
    simp only[iO,Zz] at hs;simp only[gL,Zz] at hp;show((p.may s&&uv ps (ss++ex))||og (p::ps) (ss++ex))=Zf;rw[Jn hs.1 hp.1,ih hs.2 hp.2];rfl
def ND(ps:List Pe):List Sy->Bool
 | []=>Zy
 | s::ss=>og ps (s::ss)||ND ps ss
theorem vQ{ps:List Pe}{s:List Sy}(hn:ps≠[])(h:pQ ps s=Zf\/uv ps s=Zf):xN ps s=Zf:=by
 cases s with
 | nil =>
  cases ps with
  | nil=>exact absurd rfl hn
  | cons p ps=>rcases h with h | h<;>cases h
 | cons s ss =>
  unfold xN;rcases h with h | h<;>rw[h]<;>simp
theorem nT{ps:List Pe}{s:Sy}{ss:List Sy}(h:xN ps ss=Zf):xN ps (s::ss)=Zf:=by
 unfold xN;rw[h];simp
theorem tH{ps:List Pe}(hn:ps≠[]):∀ {x y:Bytes} {s:List Sy},iO s (x++y)=Zf->gL ps y=Zf->xN ps s=Zf
 | [],y,s,hs,hf=>vQ hn (.inl (x3 (by simpa using oh (ex:=[]) hs hf)))
 | c::x,y,[],hs,_=>by cases hs
 | c::x,y,s::ss,hs,hf=>by
  simp only[Zg,iO,Zz] at hs;exact nT (tH hn hs.2 hf)
theorem Kd{ps:List Pe}(hn:ps≠[]):∀ {x y:Bytes} {s:List Sy},iO s (x++y)=Zf->gL ps y=Zf->ND ps s=Zf
 | [],y,s,hs,hf=>by
  have h:=oh (ex:=[]) hs hf;rw[List.append_nil] at h;cases s with
  | nil =>
   cases ps with
   | nil=>exact absurd rfl hn
   | cons p ps=>cases h
  | cons s ss =>
   unfold ND;rw[h];rfl
 | c::x,y,[],hs,_=>by cases hs
 | c::x,y,s::ss,hs,hf=>by
  simp only[Zg,iO,Zz] at hs;unfold ND;rw[Kd hn hs.2 hf];simp
theorem Ts{ps:List Pe}(hn:ps≠[]){b b':Bytes}(hf:Fl b b'):∀ {x y:Bytes} {s:List Sy},b'=x++y->iO s b=Zf->gL ps y=Zf->xN ps s=Zf:=by
 induction hf with
 | @here c z j hj =>
  intro x y s he hs hp;cases x with
  | nil =>
   rw[Yj] at he;subst he;exact vQ hn (.inl (by simpa using Ag (ex:=[]) (Fl.here hj) hs hp))
  | cons d x =>
   simp only[Zg,List.cons.injEq] at he;cases s with
   | nil=>cases hs
   | cons s ss =>
    simp only[iO,Zz] at hs;rw[he.2] at hs;exact nT (tH hn hs.2 hp)
 | @there c b b' h ih =>
  intro x y s he hs hp;cases x with
  | nil =>
   rw[Yj] at he;subst he;exact vQ hn (.inl (by simpa using Ag (ex:=[]) (Fl.there h) hs hp))
  | cons d x =>
   simp only[Zg,List.cons.injEq] at he;cases s with
   | nil=>cases hs
   | cons s ss =>
    simp only[iO,Zz] at hs;exact nT (ih he.2 hs.2 hp)
theorem Tr{ps:List Pe}(hn:ps≠[]){b b':Bytes}(hf:De b b'):∀ {x y:Bytes} {s:List Sy},b'=x++y->iO s b=Zf->gL ps y=Zf->xN ps s=Zf:=by
 induction hf with
 | @here c z =>
  intro x y s he hs hp;cases s with
  | nil=>cases hs
  | cons s ss =>
   simp only[iO,Zz] at hs;rw[he] at hs;exact nT (tH hn hs.2 hp)
 | @there c b b' h ih =>
  intro x y s he hs hp;cases x with
  | nil =>
   rw[Yj] at he;subst he;exact vQ hn (.inr (by simpa using Gf (ex:=[]) (De.there h) hs hp))
  | cons d x =>
   simp only[Zg,List.cons.injEq] at he;cases s with
   | nil=>cases hs
   | cons s ss =>
    simp only[iO,Zz] at hs;exact nT (ih he.2 hs.2 hp)
def sAp:Sy := .of ((Zm 64).map fun i=>Ym (4*i+2))
theorem R7:∀ n:Fin 256,n.val % 4=2->sAp.has (Ym n.val)=Zf:=by decide +kernel
theorem R8{c:UInt8}(h:c.toNat % 4=2):sAp.has c=Zf:=by
 have:=R7 ⟨c.toNat,c.toNat_lt⟩ h;simpa using this
end Kerb
/- Chapter 27: the shapes of the statements' messages. -/
namespace Kerb
open Go Go.Abs
set_option maxRecDepth 100000
def sL(l:Bytes):List Sy:=l.map .one
theorem jW:∀ l:Bytes,iO (sL l) l=Zf
 | []=>rfl
 | c::l=>by
  show(Sy.has (.one c) c&&iO (sL l) l)=Zf;rw[jW l];simp[Sy.has]
def sK:List Sy := .of [1,2]::(oH 6++[.of [1,2,3,4,5,6]])
def sU:List Sy:=[.of [97,98,99],.of [110,111,97],.of [110,98,116],.one 0,.one 0,.of [65,66,67],.of [84,79,65],.of [72,83,77],.one 0]
def sR:List Sy:=[.of [65,66,67],.of [84,79,65],.of [72,83,77],.one 0]
def sV:List (List Sy):=[sL [109,97,105,108,0,0]++sR,sL [110,102,115,0,104,111,109,101,0]++sR,sL [107,114,98,116,103,116,0,65,84,72,0]++sR]
def sB:List Sy:=[.of [0,1]]
def S0(p:bf):Bytes:=p.name++[0]++(p.inst++[0]++(p.aJ++[0]))
theorem hY(b:Bytes)(p:bf):cC b p=b++S0 p:=by simp[cC,a_,S0]
theorem Jx(b s:Bytes):a_ b s=b++(s++[0]):=by simp[a_]
theorem GM:∀ r:Fin 6,iO sK (keyBytes (ou r.val))=Zf/\iO sK (keyBytes (aB r.val))=Zf:=by decide +kernel
theorem E5(n:UInt8):iO sK (keyBytes (fZ n))=Zf:=by
 have h:=zE n (m:=6) (by decide);unfold fZ;generalize s8 n 6=r at h;obtain⟨k,rfl⟩:∃ k:Nat,r=k:=⟨r.toNat,by omega⟩;have:=GM ⟨k,by omega⟩;cases Zw (((Ym (Zj (Yu (n.toNat:Int) ((6:UInt8).toNat:Int)))).toNat:Int)<((2:UInt8).toNat:Int))
 ·exact this.2
 ·exact this.1
theorem yt(n:UInt8):iO sK (keyBytes (gw n))=Zf:=by
 have h:=zE n (m:=4) (by decide);rw[Bi,wrap_i64 (by omega) (by omega)];generalize s8 n 4=r at h;obtain⟨k,rfl⟩:∃ k:Nat,r=k:=⟨r.toNat,by omega⟩;exact(GM ⟨k+2,by omega⟩).2 |> fun q=>by
  have e:(2:Int)+(k:Int)=((k+2:Nat):Int):=by omega
  rw[e];exact q
theorem Hu(n:Int):iO sR (aJ n++[0])=Zf:=by
 unfold aJ;split
 ·rfl
 split<;>rfl
theorem xc(n:Int):iO sU (S0 (user n))=Zf:=by
 unfold S0 user;have h:=Hu (n / 3);dsimp only;refine aY (s1:=[.of [97,98,99],.of [110,111,97],.of [110,98,116],.one 0]) ?_ (aY (s1:=[.one 0]) rfl h);split
 ·rfl
 split<;>rfl
theorem zF(n:Int):nZ sV (S0 (service n)):=by
 unfold S0 service;have h:=Hu (n / 3);split
 ·exact⟨_,Zv ..,aY (b1:=[109,97,105,108,0,0]) (by decide) h⟩
 split
 ·exact⟨_,Zq _ (Zv ..),aY (b1:=[110,102,115,0,104,111,109,101,0]) (by decide) h⟩
 ·exact⟨_,Zq _ (Zq _ (Zv ..)),aY (b1:=[107,114,98,116,103,116,0,65,84,72,0]) (by decide) h⟩
def sN(n:Nat):List Sy:=List.replicate n .any
theorem pC(n:Int)(k:Nat)(li:Bool):iO (sN k) (aN n k li)=Zf:=by
 have:=KY (aN n k li);rw[af] at this;exact this
theorem Dm(li:Bool):iO sB (aN (cond li 1 0) 1 Zy)=Zf:=by cases li<;>rfl
theorem Dn(li:Bool):iO (oH 4) (aN 0 4 li)=Zf:=by cases li<;>rfl
theorem MC:iO (oH 1) (aN 0 1 Zy)=Zf:=rfl
def sQ(n:UInt8):List Sy:=[.of [0,n],.one 0,.one 0,.of [0,n]]
theorem sQ5(li:Bool):iO (sQ 5) (aN 5 4 li)=Zf:=by cases li<;>rfl
theorem sQ7(li:Bool):iO (sQ 7) (aN 7 4 li)=Zf:=by cases li<;>rfl
def sTm:List (List Sy):=[oH 3++[.any],.any::oH 3]
theorem R_(n:UInt8)(li:Bool):nZ sTm (aN (Zk .i64 (n.toNat:Int)) 4 li):=by
 have h:n.toNat<256:=n.toNat_lt;rw[wrap_i64 (by omega) (by omega)];have e1:c9 (n.toNat:Int) 1=0:=by unfold c9;rw[show(n.toNat:Int) / 2 ^ (8*1)=0 by omega];rfl
 have e2:c9 (n.toNat:Int) 2=0:=by unfold c9;rw[show(n.toNat:Int) / 2 ^ (8*2)=0 by omega];rfl
 have e3:c9 (n.toNat:Int) 3=0:=by unfold c9;rw[show(n.toNat:Int) / 2 ^ (8*3)=0 by omega];rfl
 cases li
 ·refine⟨_,Zv ..,?_⟩;have:aN (n.toNat:Int) 4 Zy=[c9 n.toNat 3,c9 n.toNat 2,c9 n.toNat 1,c9 n.toNat 0]:=rfl;rw[this,e1,e2,e3];rfl
 ·refine⟨_,Zq _ (Zv ..),?_⟩;have:aN (n.toNat:Int) 4 Zf=[c9 n.toNat 0,c9 n.toNat 1,c9 n.toNat 2,c9 n.toNat 3]:=rfl;rw[this,e1,e2,e3];rfl
theorem tk1(i:UInt8):∃ li,aI [i]=⟨li,user 0,0,aB 0,0,0,[109,97,105,108],[]⟩:=⟨next [i] 0 2==1,by kernel_rfl⟩
theorem tk2(i d:UInt8):∃ li,aI [i,d]=⟨li,user (next [i,d] 1 9),0,aB 0,0,0,[109,97,105,108],[]⟩:=⟨next [i,d] 0 2==1,by kernel_rfl⟩
def YW:List Sy:=yh (sB++(sU++(oH 4++(sK++(oH 1++(oH 4++(sL [109,97,105,108,0]++[.one 0])))))))
def aTk:List (List Sy):=[[],YW]
theorem J9(li:Bool)(n:Int){k:Int}(hk:iO sK (keyBytes k)=Zf):nZ aTk (bB ⟨li,user n,0,k,0,0,[109,97,105,108],[]⟩).val:=by
 unfold bB;split
 ·exact⟨_,Zv ..,rfl⟩
 ·refine⟨_,Zq _ (Zv ..),?_⟩;obtain⟨s,hs,h⟩:=mZ (dZ (s:=sB++(sU++(oH 4++(sK++(oH 1++(oH 4++(sL [109,97,105,108,0]++[.one 0])))))))
   (aY (Dm li) (aY (xc n) (aY (Dn li) (aY hk (aY MC (aY (Dn li) (aY (jW _) (by rfl:iO [.one 0] [0]=Zf)))))))))
  obtain rfl:s=YW:=by simpa [YW] using hs
  simpa [Jx,hY] using h
def YU:List Sy:=[.one 0,.any]
theorem KW{n:Nat}(h:n<256):iO YU (aN (n:Int) 2 Zy)=Zf:=by
 have e1:c9 (n:Int) 1=0:=by unfold c9;rw[show(n:Int) / 2 ^ (8*1)=0 by omega];rfl
 have:aN (n:Int) 2 Zy=[c9 n 1,c9 n 0]:=rfl;rw[this,e1];rfl
theorem KX{l:List (List Sy)}{b:Bytes}(h:nZ l b)(hl:(l.all fun s=>Nat.ble s.length 240)=Zf):b.length<=240:=by
 obtain⟨s,m,h⟩:=h;rw[ra h];exact Nat.le_of_ble_eq_true (Zd.1 hl s m)
def sTb:List Sy:=sL [66,1]++(sK++(YU++YW))
def Sr:List (List Sy):=[[],sL [66,1]++(sK++(YU++[])),sTb]
theorem qu(i d:UInt8):nZ Sr (fc i d):=by
 unfold fc;obtain⟨li,e⟩:=tk2 i d;rw[e];have ht:=J9 li (next [i,d] 1 9) (yt d);unfold eI;split
 ·exact⟨_,Zv ..,rfl⟩
 unfold fo;split
 ·exact⟨_,Zv ..,rfl⟩
 split
 ·exact⟨_,Zv ..,rfl⟩
 split
 ·exact⟨_,Zv ..,rfl⟩
 ·have hlen:=KX ht (by decide +kernel);obtain⟨s,hs,h⟩:=ht;have q:=aY (jW [66,1]) (aY (E5 (TL d)) (aY (KW (n:=(bB ⟨li,user (next [i,d] 1 9),0,gw d,0,0,[109,97,105,108],[]⟩).val.length) (by omega)) h));refine⟨_,?_,by simpa using q⟩;rcases List.mem_cons.1 hs with rfl | hs
  ·exact Zq _ (Zv ..)
  ·obtain rfl:s=YW:=by simpa using hs
   exact Zq _ (Zq _ (Zv ..))
def YX:Sy := .of [0,12,52]
theorem Io(i d:UInt8):(fc i d).length=0\/(fc i d).length=12\/(fc i d).length=52:=by
 obtain⟨s,m,h⟩:=qu i d;rw[ra h];have:(Sr.all fun s=>Yv s.length 0||Yv s.length 12||Yv s.length 52)=Zf:=by decide +kernel
 have:=Zd.1 this s m;simpa [or_assoc] using this
theorem YY(i d:UInt8):iO [YX] (aN ((fc i d).length:Int) 1 Zy)=Zf:=by
 rcases Io i d with h | h | h<;>rw[h]<;>rfl
theorem acL(i d:UInt8):iO [.one 0,YX] (aN ((fc i d).length:Int) 2 Zy)=Zf:=by
 rcases Io i d with h | h | h<;>rw[h]<;>rfl
end Kerb
/- Chapter 27: the shapes of boxes and messages. -/
namespace Kerb
open Go Go.Abs
set_option maxRecDepth 100000
def a2:List (List Sy):=[yh (sB++(sU++(oH 4++(oH 1++oH 4))))]
def a3:List (List Sy):=(uI [sB++sK] (uI sV (uI [oH 1++(oH 1++[YX])] (uI Sr [oH 4])))).map yh
def a4:List (List Sy):=[yh (sB++(sQ 5++(oH 1++oH 4)))]
def a5:List (List Sy):=[yh (sB++(oH 2++(oH 1++(oH 4++sQ 7))))]
def a7:List (List Sy):=[sL (aR ⟨ve,4,0,0,0⟩).val,yh (sL fX++(oH 4++sK))]
def a8:List (List Sy):=sL (aZ ⟨o_,0,0,0,0,0,⟨[],[],[]⟩,[]⟩).val::(uI [sL vf++(oH 4++(sK++(oH 4++(oH 4++oH 1))))] (uI sV (uI [[YX]] Sr))).map yh
def a9:List (List Sy):=(uI [sU] (uI sV [sK++(oH 4++(oH 4++oH 4))])).map yh
def La:List (List Sy):=(uI [sK] (uI sV (uI [oH 4++(oH 4++[.one 0,YX])] Sr))).map yh
def FC:List (List Sy):=aTk++(a2++(a3++(a4++(a5++(a7++(a8++(a9++La)))))))
theorem E8{l:List (List Sy)}(h:[]∈l):nZ l []:=⟨[],h,rfl⟩
theorem NF:nZ FC []:=kj (E8 (Zv ..))
theorem V7(x:UInt8)(li:Bool):(fM (iH x) li).val=[]\/nZ a2 (fM (iH x) li).val:=by
 unfold fM;split
 ·exact .inl rfl
 ·right;have h:=mZ (dZ (aY (Dm li) (aY (xc (next [x] 0 9)) (aY (Dn li) (aY MC (Dn li))))));simpa [hY,iH,a2] using h
theorem V8(i d:UInt8)(n:Int)(li:Bool):(bR ⟨gw i,service n,0,0,fc i d,0⟩ li).val=[]\/nZ a3 (bR ⟨gw i,service n,0,0,fc i d,0⟩ li).val:=by
 unfold bR;split
 ·exact .inl rfl
 split
 ·exact .inl rfl
 split
 ·exact .inl rfl
 split
 ·exact .inl rfl
 ·right;have h:=mZ (eT (dZ (aY (Dm li) (yt i))) (eT (zF n) (eT (dZ (aY MC (aY MC (YY i d)))) (eT (qu i d) (dZ (Dn li))))));simpa [hY,a3] using h
theorem V9(li:Bool):(dG ⟨5,0,0⟩ li).val=[]\/nZ a4 (dG ⟨5,0,0⟩ li).val:=by
 unfold dG;split
 ·exact .inl rfl
 ·right;have h:=mZ (dZ (aY (Dm li) (aY (sQ5 li) (aY MC (Dn li)))));simpa [a4] using h
theorem sZ2(li:Bool):iO (oH 2) (aN 0 2 li)=Zf:=by cases li<;>rfl
theorem V_(li:Bool):(ca ⟨[],0,0,7⟩ li).val=[]\/nZ a5 (ca ⟨[],0,0,7⟩ li).val:=by
 unfold ca;split
 ·exact .inl rfl
 split
 ·exact .inl rfl
 ·right;have h:=mZ (dZ (aY (Dm li) (aY (sZ2 li) (aY MC (aY (Dn li) (sQ7 li))))));simpa [a5] using h
theorem V'(n:UInt8):(aR ⟨fX,0,0,0,fZ n⟩).val=[]\/nZ a7 (aR ⟨fX,0,0,0,fZ n⟩).val:=by
 unfold aR;dsimp only;rw[Qa0 (by decide),Qa0 (by decide),Qa0 (by decide)];split
 ·exact .inl rfl
 split
 ·exact .inl rfl
 ·right;obtain⟨s,hs,h⟩:=mZ (dZ (aY (jW fX) (aY (Dn Zy) (E5 n))));refine⟨s,?_,by simpa using h⟩;unfold a7;exact Zq _ (by simpa using hs)
theorem Wa(i d:UInt8)(n:Int):(aZ ⟨vf,0,gw i,0,0,0,service n,fc i d⟩).val=[]\/nZ a8 (aZ ⟨vf,0,gw i,0,0,0,service n,fc i d⟩).val:=by
 unfold aZ;dsimp only;rw[Qa0 (by decide),Qa0 (by decide),Qa1 (by decide)];split
 ·exact .inl rfl
 split
 ·exact .inl rfl
 split
 ·exact .inl rfl
 split
 ·exact .inl rfl
 ·right;obtain⟨s,hs,h⟩:=mZ (eT (dZ (aY (jW vf) (aY (Dn Zy) (aY (yt i) (aY (Dn Zy) (aY (Dn Zy) MC)))))) (eT (zF n) (eT (dZ (YY i d)) (qu i d))));refine⟨s,?_,by simpa [hY,g_] using h⟩;unfold a8;exact Zq _ hs
theorem Wc(u n:Int)(i:UInt8):(dH ⟨user u,service n,gw i,0,0,0⟩).val=[]\/nZ a9 (dH ⟨user u,service n,gw i,0,0,0⟩).val:=by
 unfold dH;split
 ·exact .inl rfl
 split
 ·exact .inl rfl
 split
 ·exact .inl rfl
 ·right;have h:=mZ (eT (dZ (xc u)) (eT (zF n) (dZ (aY (yt i) (aY (Dn Zy) (aY (Dn Zy) (Dn Zy)))))));simpa [hY,a9] using h
theorem Tp(n:Int)(i d:UInt8):(cN ⟨gw i,service n,0,0,fc i d⟩).val=[]\/nZ La (cN ⟨gw i,service n,0,0,fc i d⟩).val:=by
 unfold cN;split
 ·exact .inl rfl
 split
 ·exact .inl rfl
 split
 ·exact .inl rfl
 split
 ·exact .inl rfl
 ·right;have h:=mZ (eT (dZ (yt i)) (eT (zF n) (eT (dZ (aY (Dn Zy) (aY (Dn Zy) (acL i d)))) (qu i d))));simpa [hY,cH,La] using h
theorem sP{l:List (List Sy)}{b:Bytes}(h:b=[]\/nZ l b)(hl:nZ l b->nZ FC b):nZ FC b:=by
 rcases h with rfl | h
 ·exact NF
 ·exact hl h
theorem Rn(t:iB):nZ FC (lv t):=by
 unfold lv;dsimp only;split
 ·obtain⟨li,e⟩:=tk1 t.fN;rw[e];exact kj (J9 li 0 (yt t.fN))
 split
 ·exact sP (V7 _ _) fun h=>bD (kj h)
 split
 ·exact sP (V8 _ _ _ _) fun h=>bD (bD (kj h))
 split
 ·exact sP (V9 _) fun h=>bD (bD (bD (kj h)))
 split
 ·exact sP (V_ _) fun h=>bD (bD (bD (bD (kj h))))
 split
 ·cases qX t.de 2==1
  ·exact sP (V' _) fun h=>bD (bD (bD (bD (bD (kj h)))))
  ·exact bD (bD (bD (bD (bD (kj ⟨_,Zv ..,jW _⟩)))))
 split
 ·cases qX t.de 8==1
  ·exact sP (Wa _ _ _) fun h=>bD (bD (bD (bD (bD (bD (kj h))))))
  ·exact bD (bD (bD (bD (bD (bD (kj ⟨_,Zv ..,jW _⟩))))))
 split
 ·exact sP (Wc _ _ _) fun h=>bD (bD (bD (bD (bD (bD (bD (kj h)))))))
 ·exact sP (Tp _ _ _) fun h=>bD (bD (bD (bD (bD (bD (bD (bD h)))))))
def zN:List (List Sy):=[]::uI [sL [66]++(.any::(sK++YU))] FC
theorem Fl.len{b b':Bytes}(h:Fl b b'):b'.length=b.length:=by
 induction h with
 | here _=>rfl
 | there _ ih=>simp[ih]
theorem De.len{b b':Bytes}(h:De b b'):b'.length<=b.length:=by
 induction h with
 | here=>simp
 | there _ ih=>simpa using ih
theorem Ed.len{b b':Bytes}(h:Ed b b'):b'.length<=b.length+1:=by
 rcases h with rfl | ⟨c,_,rfl⟩ | h | h
 ·omega
 ·simp
 ·rw[h.len];omega
 ·have:=h.len;omega
theorem Tu(t:iB)(h0:0<=t.hw)(h1:t.hw<=65535):∃ u,nZ zN u/\Ed u (oS t)/\(Yu t.hw 16≠15->u=oS t):=by
 unfold oS;generalize hb:(bif Yu t.hw 16==15 then oJ (lv t) (Zk .u16 (Int.tdiv t.hw 16)) else lv t)=b;have hs:=Rn t;have he:Ed (lv t) b/\(Yu t.hw 16≠15->lv t=b):=by
  cases hc:Yu t.hw 16==15 with
  | true =>
   rw[hc,Qa5] at hb;subst hb;have d:=pK h0 h1 (m:=16) (by decide);exact⟨Ih _ d.1 d.2,fun hn=>absurd (by simpa using hc) hn⟩
  | false =>
   rw[hc,Qa6] at hb;subst hb;exact⟨.inl rfl,fun _=>rfl⟩
 clear hb;generalize lv t=c at hs he;have no:∀ e:Int,∃ u,nZ zN u/\Ed u (⟨[],e⟩:ll).val/\(Yu t.hw 16≠15->u=(⟨[],e⟩:ll).val):=fun e=>⟨[],E8 (Zv ..),.inl rfl,fun _=>rfl⟩;unfold fo;split
 ·exact no _
 split
 ·exact no _
 split
 ·exact no _
 ·refine⟨[66,Ym (nK t.bx).toNat]++keyBytes (fZ t.se)++aN b.length 2 Zy++c,?_,he.1.pre _,fun hn=>by rw[he.2 hn]⟩;have hlen:=KX hs (by decide +kernel);have af0:=he.1.len;have q:=eT (dZ (s:=sL [66]++(.any::(sK++YU))) (b:=[66,Ym (nK t.bx).toNat]++keyBytes (fZ t.se)++aN b.length 2 Zy) (by
   have:=aY (jW [66]) (aY (s1:=[.any]) (b1:=[Ym (nK t.bx).toNat]) rfl (aY (E5 t.se) (KW (n:=b.length) (by omega))));simpa using this)) hs
  obtain⟨s,m,q⟩:=q;exact⟨s,Zq _ m,q⟩
def hd(k:UInt8):List Sy:=[.one 4,.of [2*k,2*k+1]]
theorem LB(li:Bool):iO (hd 2) (header 2 li)=Zf:=by cases li<;>rfl
theorem hd3(li:Bool):iO (hd 3) (header 3 li)=Zf:=by cases li<;>rfl
theorem hd8(li:Bool):iO (hd 8) (header 8 li)=Zf:=by cases li<;>rfl
theorem hd6(li:Bool):iO (hd 6) (header 6 li)=Zf:=by cases li<;>rfl
theorem hd7(li:Bool):iO (hd 7) (header 7 li)=Zf:=by cases li<;>rfl
def aAp:List (List Sy):=uI [hd 3++(oH 1++(sL [82,0]++(sN 1++sN 1)))] Sr
def zO:List (List Sy):=(uI [sB++(oH 2++(oH 1++oH 4))] sTm).map yh
def VJ:List (List Sy):=uI [sL [66]++(.any::(sK++sL [0,16]))] zO
def s2(n:UInt8):List Sy:=[.of [0,n],.of [0,n]]
theorem YR(li:Bool):iO (s2 16) (aN 16 2 li)=Zf:=by cases li<;>rfl
theorem S4(li:Bool):iO (s2 28) (aN 28 2 li)=Zf:=by cases li<;>rfl
theorem CE{b:Bytes}(h:nZ zO b):b.length=16:=by
 obtain⟨s,m,h⟩:=h;rw[ra h];have:(zO.all fun s=>Yv s.length 16)=Zf:=by decide +kernel
 exact Nat.eq_of_beq_eq_true (Zd.1 this s m)
theorem J8{b:Bytes}(h:nZ VJ b):b.length=28:=by
 obtain⟨s,m,h⟩:=h;rw[ra h];have:(VJ.all fun s=>Yv s.length 28)=Zf:=by decide +kernel
 exact Nat.eq_of_beq_eq_true (Zd.1 this s m)
def mq0:List (List Sy):=uI [hd 2++(sU++(oH 4++(sL [1]++(oH 4++(oH 1++sN 2)))))] zN
def mq1:List (List Sy):=uI aAp zN
def mq2:List (List Sy):=uI (uI aAp Sr) [oH 4++(oH 1++sL [115,0,0])]
def mq3:List (List Sy):=uI [hd 8++sN 2] zN
def mq4:List (List Sy):=uI (uI [sL [4,18,2]++(oH 1++(sL [82,0]++sN 1))] Sr) (uI [sL [115,0,0]++sN 2] zN)
def mq5:List (List Sy):=uI [sL [4,18]++(sN 1++(oH 1++sN 2))] zN
def mq6:List (List Sy):=uI [sL [4,20]++(sN 1++(sU++sN 2))] zN
def mq7:List (List Sy):=uI (uI [hd 7++s2 16] zO) (uI [s2 28] VJ)
def mq8:List (List Sy):=uI [hd 6++s2 28] VJ
def IC:List (List Sy):=zN++(mq0++(mq1++(mq2++(mq3++(mq4++(mq5++(mq6++(mq7++mq8))))))))
theorem tN{l:List (List Sy)}{p u b:Bytes}{c:Prop}(hp:nZ l p)(hu:nZ zN u)(he:Ed u b)(hn:c->u=b):∃ v,nZ (uI l zN) v/\Ed v (p++b)/\(c->v=p++b) :=
 ⟨p++u,eT hp hu,he.pre p,fun h=>by rw[hn h]⟩
theorem AZ{l l2:List (List Sy)}{b:Bytes}{c:Prop}(h:∃ v,nZ l v/\Ed v b/\(c->v=b))(hl:∀ v,nZ l v->nZ l2 v):∃ v,nZ l2 v/\Ed v b/\(c->v=b):=by
 obtain⟨v,h1,h2,h3⟩:=h;exact⟨v,hl v h1,h2,h3⟩
theorem fq{b:Bytes}{c:Prop}(h:b=[]):∃ v,nZ IC v/\Ed v b/\(c->v=b):=by
 subst h;exact⟨[],kj (E8 (Zv ..)),.inl rfl,fun _=>rfl⟩
theorem Su(li:Bool)(i d:UInt8)(x:Bytes):(bZ ⟨li,Zy,0,[82],fc i d,x⟩).val=[]\/∃ p,nZ aAp p/\(bZ ⟨li,Zy,0,[82],fc i d,x⟩).val=p++x:=by
 unfold bZ;split
 ·exact .inl rfl
 split
 ·exact .inl rfl
 split
 ·exact .inl rfl
 ·right;refine⟨header 3 li++(aN 0 1 Zy++([82,0]++(aN ((fc i d).length:Int) 1 Zy++aN (x.length:Int) 1 Zy)))++fc i d,?_,by simp[a_]⟩;exact eT (dZ (aY (hd3 li) (aY MC (aY (jW [82,0]) (aY (pC ((fc i d).length:Int) 1 Zy) (pC (x.length:Int) 1 Zy)))))) (qu i d)
theorem R5(d:UInt8)(li:Bool):(ca ⟨[],0,0,Zk .i64 (d.toNat:Int)⟩ li).val=[]\/nZ zO (ca ⟨[],0,0,Zk .i64 (d.toNat:Int)⟩ li).val:=by
 unfold ca;split
 ·exact .inl rfl
 split
 ·exact .inl rfl
 ·right;have h:=mZ (eT (dZ (aY (Dm li) (aY (sZ2 li) (aY MC (Dn li))))) (R_ d li));simpa [zO] using h
theorem SY(d n:UInt8)(kd:Int)(li:Bool):(io ⟨[],0,0,Zk .i64 (d.toNat:Int)⟩ li kd (fZ n)).err≠0\/(nZ zO (io ⟨[],0,0,Zk .i64 (d.toNat:Int)⟩ li kd (fZ n)).text/\nZ VJ (io ⟨[],0,0,Zk .i64 (d.toNat:Int)⟩ li kd (fZ n)).box):=by
 have hp:=R5 d li;unfold io;split
 ·rename_i h;exact .inl h
 rename_i g1;split
 ·rename_i h;exact .inl h
 rename_i g2;right;have gA:(ca ⟨[],0,0,Zk .i64 (d.toNat:Int)⟩ li).val≠[]:=by
  intro h0;unfold ca at h0 g1;split at g1
  ·exact g1 (by decide)
  rename_i q1;rw[Qa0 q1] at h0;split at g1
  ·exact g1 (by decide)
  rename_i q2;rw[Qa0 q2] at h0;have:=Qb3 List.length h0;simp[pad,af] at this
 rcases hp with hp | hp
 ·exact absurd hp gA
 refine⟨hp,?_⟩;dsimp only;unfold fo at g2 ⊢;split at g2
 ·exact absurd (show((104:Int))≠0 by decide) g2
 rename_i q1;rw[Qa0 q1];split at g2
 ·exact absurd (show((10:Int))≠0 by decide) g2
 rename_i q2;rw[Qa0 q2];split at g2
 ·exact absurd (show((105:Int))≠0 by decide) g2
 rename_i q3;rw[Qa0 q3];generalize (ca ⟨[],0,0,Zk .i64 (d.toNat:Int)⟩ li).val=b at hp ⊢;have hlen:=CE hp;rw[hlen];have:=eT (dZ (aY (jW [66]) (aY (s1:=[.any]) (b1:=[Ym kd.toNat]) rfl (aY (E5 n) (show iO (sL [0,16]) (aN ((16:Nat):Int) 2 Zy)=Zf from rfl))))) hp;simpa [VJ] using this
theorem Ow(t:iB)(h0:0<=t.hw)(h1:t.hw<=65535):∃ u,nZ IC u/\Ed u (lL t)/\(Yu t.hw 16≠15->u=lL t):=by
 obtain⟨u,hu,he,hn⟩:=Tu t h0 h1;unfold lL;dsimp only;generalize oS t=b at he hn;split
 ·unfold dQ;split
  ·exact fq rfl
  split
  ·exact fq rfl
  split
  ·exact fq rfl
  ·have hp:=dZ (aY (LB t.li) (aY (xc (Zk .i64 (t.kd.toNat:Int))) (aY (Dn t.li) (aY (show iO (sL [1]) (aN 1 1 Zy)=Zf from rfl) (aY (Dn t.li) (aY MC (pC (b.length:Int) 2 t.li)))))));have:=AZ (tN hp hu he hn) (l2:=IC) fun v h=>bD (kj h);simpa [hY] using this
 split
 ·rcases Su t.li t.fN t.de b with h | ⟨p,hp,h⟩
  ·exact fq h
  ·rw[h];exact AZ (tN hp hu he hn) fun v h=>bD (bD (kj h))
 split
 ·unfold dO;split
  ·exact fq rfl
  split
  ·exact fq rfl
  split
  ·exact fq rfl
  split
  ·exact fq rfl
  ·rename_i g1 _ _;rcases Su t.li t.fN t.de (fc t.fN t.de) with h | ⟨p,hp,h⟩
   ·exfalso;have g2:(bZ ⟨t.li,Zy,0,[82],fc t.fN t.de,fc t.fN t.de⟩).err=0:=Classical.not_not.1 g1;unfold bZ at h g2;split at g2
    ·cases g2
    rename_i q1;rw[Qa0 q1] at h;split at g2
    ·cases g2
    rename_i q2;rw[Qa0 q2] at h;split at g2
    ·cases g2
    rename_i q3;rw[Qa0 q3] at h;have:=Qb3 List.length h;simp[a_] at this
   ·refine⟨_,bD (bD (bD (kj (eT (eT hp (qu t.fN t.de)) (dZ (aY (Dn t.li) (aY MC (jW [115,0,0])))))))),.inl ?_,fun _=> ?_⟩
    ·rw[h];simp[a_]
    ·rw[h];simp[a_]
 split
 ·unfold dN;split
  ·exact fq rfl
  ·have hp:=dZ (aY (hd8 t.li) (pC (b.length:Int) 2 t.li));exact AZ (tN hp hu he hn) fun v h=>bD (bD (bD (bD (kj h))))
 split
 ·unfold aX;split
  ·exact fq rfl
  dsimp only;rw[Qa1 (by decide)];split
  ·exact fq rfl
  split
  ·exact fq rfl
  split
  ·exact fq rfl
  split
  ·exact fq rfl
  ·have hp:=eT (dZ (aY (jW [4,18,2]) (aY MC (aY (jW [82,0]) (pC ((fc t.fN t.de).length:Int) 1 Zy))))) (qu t.fN t.de);obtain⟨v,q1,q2,q3⟩:=tN (dZ (aY (jW [115,0,0]) (pC (b.length:Int) 2 Zy))) hu he hn;have e4:pq 2=[4,18,2]:=rfl;refine⟨_,bD (bD (bD (bD (bD (kj (eT hp q1)))))),?_,fun hc=> ?_⟩
   ·have:=q2.pre ([4,18,2]++(aN 0 1 Zy++([82,0]++aN ((fc t.fN t.de).length:Int) 1 Zy))++fc t.fN t.de);simpa [cH,a_,g_,e4] using this
   ·rw[q3 hc];simp[cH,a_,g_,e4]
 split
 ·unfold cf;split
  ·exact fq rfl
  split
  ·exact fq rfl
  split
  ·exact fq rfl
  split
  ·exact fq rfl
  ·have hp:=dZ (aY (jW [4,18]) (aY (pC 129 1 Zy) (aY MC (pC (b.length:Int) 2 Zy))));have:=AZ (tN hp hu he hn) (l2:=IC) fun v h=>bD (bD (bD (bD (bD (bD (kj h))))));have e4:pq 129=[4,18]++aN 129 1 Zy:=rfl;simpa [cH,e4] using this
 split
 ·generalize Zk .i64 (1+Yu (Zk .i64 (Int.tdiv (Zk .i64 (t.kd.toNat:Int)) 10)) 3)=op;unfold eH;split
  ·exact fq rfl
  split
  ·exact fq rfl
  split
  ·exact fq rfl
  ·have hp:=dZ (aY (jW [4,20]) (aY (pC op 1 Zy) (aY (xc (Zk .i64 (t.kd.toNat:Int))) (pC (b.length:Int) 2 Zy))));have:=AZ (tN hp hu he hn) (l2:=IC) fun v h=>bD (bD (bD (bD (bD (bD (bD (kj h)))))));have e4:header 10 Zy=[4,20]:=rfl;simpa [cH,hY,e4] using this
 split
 ·unfold oy;split
  ·exact fq rfl
  ·rename_i g;rcases SY t.de t.se 6 t.li with h | ⟨h,h2⟩
   ·exact absurd h g
   ·refine⟨_,bD (bD (bD (bD (bD (bD (bD (bD (kj (eT (eT (dZ (aY (hd7 t.li) (YR t.li))) h) (eT (dZ (S4 t.li)) h2)))))))))),.inl ?_,fun _=> ?_⟩<;>simp[w7,CE h,J8 h2]
 split
 ·unfold ox;split
  ·exact fq rfl
  ·rename_i g;rcases SY t.de t.se 5 t.li with h | ⟨h,h2⟩
   ·exact absurd h g
   ·refine⟨_,bD (bD (bD (bD (bD (bD (bD (bD (bD (eT (dZ (aY (hd6 t.li) (S4 t.li))) h2))))))))),.inl ?_,fun _=> ?_⟩<;>simp[w7,J8 h2]
 ·exact⟨u,kj hu,he,hn⟩
theorem UJ(t:iB)(h0:0<=t.hw)(h1:t.hw<=65535):∃ u,nZ IC u/\Ed u (oz t):=by
 obtain⟨u,hu,he,hn⟩:=Ow t h0 h1;unfold oz;cases hc:Yu t.hw 32==13 with
 | false=>exact⟨u,hu,he⟩
 | true =>
  have Fs:Yu t.hw 32=13:=by simpa using hc
  have d:=pK h0 h1 (m:=32) (by decide);rw[hn (by rw[Zn h0] at Fs ⊢;omega)] at hu;exact⟨_,hu,Ih _ d.1 d.2⟩
end Kerb
/- Chapter 27: no message of the statements holds the secret key or the key that seals it where it could be read. -/
namespace Kerb
open Go Go.Abs
set_option maxRecDepth 100000
def y0(h p:List Pe):List Sy->Bool
 | []=>Zy
 | s::ss=>((pQ h (s::ss)||uv h (s::ss))&&xN p ((s::ss).drop 12))||y0 h p ss
def Lj(h p:List Pe):List Sy->Bool
 | []=>Zy
 | s::ss=>(og h (s::ss)&&ND p ((s::ss).drop 12))||Lj h p ss
def UM(h p:List Pe)(b:Bytes):Prop:=∃ x z w,b=x++(z++w)/\gL h (z++w)=Zf/\12<=z.length/\gL p w=Zf
theorem qi:∀ {s:List Sy} {b:Bytes} (n:Nat),iO s b=Zf->iO (s.drop n) (b.drop n)=Zf
 | s,b,0,h=>h
 | [],[],n+1,_=>rfl
 | [],_::_,n+1,h=>by cases h
 | _::_,[],n+1,h=>by cases h
 | s::ss,c::cs,n+1,h=>by
  simp only[iO,Zz] at h;exact qi n h.2
theorem n_{h p:List Pe}{s:Sy}{ss:List Sy}(g:y0 h p ss=Zf):y0 h p (s::ss)=Zf:=by
 unfold y0;rw[g];simp
theorem xM{h p:List Pe}{s:List Sy}(hn:s≠[])(g:pQ h s=Zf\/uv h s=Zf)(g2:xN p (s.drop 12)=Zf):y0 h p s=Zf:=by
 cases s with
 | nil=>exact absurd rfl hn
 | cons s ss =>
  unfold y0;rw[g2];rcases g with g | g<;>rw[g]<;>simp
theorem xV{z w:Bytes}(h:12<=z.length):(z++w).drop 12=z.drop 12++w:=by rw[List.drop_append_of_le_length h]
theorem KM{s:List Sy}{b:Bytes}{z w:Bytes}(hs:iO s b=Zf)(hz:12<=z.length)(hl:(z++w).length<=b.length+1):s≠[]:=by
 rintro rfl;have:=ra hs;simp only[Yx,List.length_nil] at this hl;omega
theorem Kc{h p:List Pe}(hp:p≠[]):∀ {x z w:Bytes} {s:List Sy},iO s (x++(z++w))=Zf->gL h (z++w)=Zf->12<=z.length->gL p w=Zf->y0 h p s=Zf
 | [],z,w,s,hs,hf,hz,hw=>by
  refine xM (KM (w:=w) hs hz (by simp)) (.inl (x3 (by simpa using oh (ex:=[]) hs hf))) ?_;have:=qi 12 hs;rw[Yj,xV hz] at this;exact tH hp this hw
 | c::x,z,w,[],hs,_,_,_=>by cases hs
 | c::x,z,w,s::ss,hs,hf,hz,hw=>by
  simp only[Zg,iO,Zz] at hs;exact n_ (Kc hp hs.2 hf hz hw)
theorem Sv{h p:List Pe}(hp:p≠[]):∀ {x z w:Bytes} {s:List Sy},iO s (x++(z++w))=Zf->gL h (z++w)=Zf->12<=z.length->gL p w=Zf->Lj h p s=Zf
 | [],z,w,s,hs,hf,hz,hw=>by
  have hn:=KM (w:=w) hs hz (by simp);have h1:og h s=Zf:=by simpa using oh (ex:=[]) hs hf
  have h2:=qi 12 hs;rw[Yj,xV hz] at h2;have h3:=Kd hp h2 hw;cases s with
  | nil=>exact absurd rfl hn
  | cons s ss=>unfold Lj;rw[h1,h3];rfl
 | c::x,z,w,[],hs,_,_,_=>by cases hs
 | c::x,z,w,s::ss,hs,hf,hz,hw=>by
  simp only[Zg,iO,Zz] at hs;unfold Lj;rw[Sv hp hs.2 hf hz hw];simp
theorem Fl.drop{b b':Bytes}(h:Fl b b'):∀ n,Fl (b.drop n) (b'.drop n)\/b.drop n=b'.drop n:=by
 induction h with
 | here hj =>
  intro n;cases n with
  | zero=>exact .inl (Fl.here hj)
  | succ n=>exact .inr rfl
 | there h ih =>
  intro n;cases n with
  | zero=>exact .inl (Fl.there h)
  | succ n=>exact ih n
theorem De.drop{b b':Bytes}(h:De b b'):∀ n,De (b.drop n) (b'.drop n)\/b.drop (n+1)=b'.drop n:=by
 induction h with
 | here=>intro n;exact .inr rfl
 | there h ih =>
  intro n;cases n with
  | zero=>exact .inl (De.there h)
  | succ n=>exact ih n
theorem Lk{p:List Pe}{s:List Sy}{n:Nat}(h:xN p (s.drop (n+1))=Zf):xN p (s.drop n)=Zf:=by
 cases e:s.drop n with
 | nil =>
  have:s.drop (n+1)=[]:=by rw[<-List.drop_drop,e];rfl
  rw[this] at h;cases h
 | cons a r =>
  have:s.drop (n+1)=r:=by rw[<-List.drop_drop,e];rfl
  rw[this] at h;exact nT h
theorem Rj{h p:List Pe}(hp:p≠[]){b b':Bytes}(hf:Fl b b'):∀ {x z w:Bytes} {s:List Sy},b'=x++(z++w)->iO s b=Zf->gL h (z++w)=Zf->12<=z.length->gL p w=Zf->y0 h p s=Zf:=by
 have nil:∀ {b b':Bytes},Fl b b'->∀ {z w:Bytes} {s:List Sy},b'=z++w->iO s b=Zf->gL h (z++w)=Zf->12<=z.length->gL p w=Zf->y0 h p s=Zf:=by
  intro b b' hf z w s e hs hh hz hw;subst e;refine xM (KM (w:=w) hs hz (by rw[<-hf.len];omega)) (.inl (by simpa using Ag (ex:=[]) hf hs hh)) ?_;have NY:=qi 12 hs;rcases hf.drop 12 with g | g
  ·exact Ts hp g (xV hz) NY hw
  ·rw[g,xV hz] at NY;exact tH hp NY hw
 induction hf with
 | @here c y j hj =>
  intro x z w s e hs hh hz hw;cases x with
  | nil=>exact nil (Fl.here hj) (by simpa using e) hs hh hz hw
  | cons d x =>
   simp only[Zg,List.cons.injEq] at e;cases s with
   | nil=>cases hs
   | cons s ss =>
    simp only[iO,Zz] at hs;rw[e.2] at hs;exact n_ (Kc hp hs.2 hh hz hw)
 | @there c b b' g ih =>
  intro x z w s e hs hh hz hw;cases x with
  | nil=>exact nil (Fl.there g) (by simpa using e) hs hh hz hw
  | cons d x =>
   simp only[Zg,List.cons.injEq] at e;cases s with
   | nil=>cases hs
   | cons s ss =>
    simp only[iO,Zz] at hs;exact n_ (ih e.2 hs.2 hh hz hw)
theorem Rh{h p:List Pe}(hp:p≠[]){b b':Bytes}(hf:De b b'):∀ {x z w:Bytes} {s:List Sy},b'=x++(z++w)->iO s b=Zf->gL h (z++w)=Zf->12<=z.length->gL p w=Zf->y0 h p s=Zf:=by
 induction hf with
 | @here c y =>
  intro x z w s e hs hh hz hw;cases s with
  | nil=>cases hs
  | cons s ss =>
   simp only[iO,Zz] at hs;rw[e] at hs;exact n_ (Kc hp hs.2 hh hz hw)
 | @there c b b' g ih =>
  intro x z w s e hs hh hz hw;cases x with
  | nil =>
   rw[Yj] at e;have hl:=(De.there (c:=c) g).len;rw[e] at hl;refine xM (KM (w:=w) hs hz (by omega)) (.inr (by
    have:=Gf (ex:=[]) (De.there (c:=c) g) hs (by rw[e];exact hh);simpa using this)) ?_
   have NY:=qi 12 hs;rcases (De.there (c:=c) g).drop 12 with q | q
   ·exact Tr hp q (by rw[e,xV hz]) NY hw
   ·refine Lk ?_;have WR:=qi 13 hs;rw[show List.drop 13 (c::b)=List.drop (12+1) (c::b) from rfl,q,e,xV hz] at WR;exact tH hp WR hw
  | cons d x =>
   simp only[Zg,List.cons.injEq] at e;cases s with
   | nil=>cases hs
   | cons s ss =>
    simp only[iO,Zz] at hs;exact n_ (ih e.2 hs.2 hh hz hw)
theorem Ri{h p:List Pe}{b b':Bytes}{s:List Sy}(hp:p≠[])(he:Ed b b')(hs:iO s b=Zf)(ho:UM h p b'):y0 h p s=Zf\/Lj h p (s++[sAp])=Zf:=by
 obtain⟨x,z,w,e,hh,hz,hw⟩:=ho;rcases he with rfl | ⟨c,hc,rfl⟩ | g | g
 ·rw[e] at hs;exact .inl (Kc hp hs hh hz hw)
 ·refine .inr (Sv (x:=x) hp ?_ hh hz hw);rw[<-e];exact aY hs (by simp[iO,R8 hc])
 ·exact .inl (Rj hp g e hs hh hz hw)
 ·exact .inl (Rh hp g e hs hh hz hw)
def h6:List Pe:=[.is 66,.le 10,.le 2,.is 0,.is 0,.is 0]
def kp(k:Int):List Pe:=(keyBytes k).map .is
def sJ(k:Int):List (List Pe):=[kp k++[.pr],kp k++[.any,.any,.any,.any,.any,.pr],.pr :: .any :: .any :: .any :: .any::kp k,.pr :: .is 0::kp k]
def qg:Int:=aB 200
def jQ:Int:=ou 100
def kpL(k:List Pe):List (List Pe):=[k++[.pr],k++[.any,.any,.any,.any,.any,.pr],.pr :: .any :: .any :: .any :: .any::k,.pr :: .is 0::k]
def k8(c v:UInt8):List Pe:=[.is c,.is 0,.is 0,.is 0,.is 0,.is 0,.is 0,.is v]
theorem ME:keyBytes qg=[2,0,0,0,0,0,0,201]:=by decide +kernel
theorem JH:keyBytes jQ=[1,0,0,0,0,0,0,101]:=by decide +kernel
theorem KU:sJ qg++sJ jQ=kpL (k8 2 201)++kpL (k8 1 101):=by
 unfold sJ kp;rw[ME,JH];rfl
theorem UL:(IC.all fun s=>(kpL (k8 2 201)++kpL (k8 1 101)).all fun p => !y0 h6 p s && !Lj h6 p (s++[sAp]))=Zf:=by decide +kernel
theorem RZ{p:List Pe}(h:p∈sJ qg++sJ jQ):p≠[]:=by
 have:((sJ qg++sJ jQ).all fun p => !p.isEmpty)=Zf:=by rw[KU];decide +kernel
 have:=Zd.1 this p h;rintro rfl;cases this
theorem G2(t:iB)(h0:0<=t.hw)(h1:t.hw<=65535){p:List Pe}(hp:p∈sJ qg++sJ jQ):¬ UM h6 p (oz t):=by
 intro ho;obtain⟨u,⟨s,m,hs⟩,he⟩:=UJ t h0 h1;have h:=Zd.1 (Zd.1 UL s m) p (by rw[<-KU];exact hp);simp only[Zz,Bool.not_eq_true'] at h;rcases Ri (RZ hp) he hs ho with g | g
 ·rw[h.1] at g;cases g
 ·rw[h.2] at g;cases g
end Kerb
/- Chapter 27: what can be read of a message stands in it. -/
namespace Kerb
open Go Go.Abs
def inf(c b:Bytes):Prop:=∃ x y,b=x++(c++y)
theorem c4(b:Bytes):inf [] b:=⟨[],b,rfl⟩
theorem CV{a b c:Bytes}(h1:inf a b)(h2:inf b c):inf a c:=by
 obtain⟨x,y,rfl⟩:=h1;obtain⟨x2,y2,rfl⟩:=h2;exact⟨x2++x,y++y2,by simp⟩
theorem Ki(b:Bytes)(p n:Int):inf (cut b p n) b:=by
 unfold cut;refine⟨b.take p.toNat,(b.drop p.toNat).drop n.toNat,?_⟩;rw[Yw,Yw]
theorem jF(b:Bytes)(p n:Int):inf (bytes b p n).val b:=by
 unfold bytes;split
 ·exact Ki _ _ _
 ·exact c4 _
theorem oD(b:Bytes)(n p:Int)(bad:Bool):inf (dj b n p bad).val b:=by
 unfold dj;cases (bad || !((bytes b p n).err==0))
 ·exact jF _ _ _
 ·exact c4 _
theorem vw(b:Bytes):inf (jV b).val.aI b/\inf (jV b).val.fg b:=⟨jF _ _ _,jF _ _ _⟩
theorem kW{α:Type}{no:α}{enc:α->ll}{rd:Bytes->α×Bool}{b:Bytes}(P:α->Prop)(h1:P no)(h2:P (rd b).1):P (fU no enc rd b).val:=by
 unfold fU;split
 ·exact h1
 ·exact h2
theorem JJ(b:Bytes):∀ x∈l7 b,inf x b:=by
  have h1:inf (bJ b).val.ia b:=by
    unfold bJ;split
    · exact c4 _
    split
    · exact c4 _
    · exact jF _ _ _
  have h2:inf (fl b).val.aI b/\inf (fl b).val.fg b:=by
    unfold fl;split
    · exact⟨c4 _,c4 _⟩
    first
      | exact kW (fun a:cP=>inf a.aI b/\inf a.fg b) ⟨c4 _,c4 _⟩ (vw b)
      | (split
         · exact⟨c4 _,c4 _⟩
         · exact vw b)
  have h3:inf (c6 b).val.ap.aI b/\inf (c6 b).val.ap.fg b:=by
    unfold c6;split
    · exact⟨c4 _,c4 _⟩
    · exact kW (fun a:ff=>inf a.ap.aI b/\inf a.ap.fg b) ⟨c4 _,c4 _⟩ (vw b)
  have h4:inf (ig b).val b:=by
    unfold ig;split
    · exact c4 _
    split
    · exact kW (fun a:Bytes=>inf a b) (c4 _) (jF _ _ _)
    · exact c4 _
  have h5:inf (g9 b).ia b:=by
    have np:∀ p m li,inf (fu b p m li).val b:=by
      intro p m li;unfold fu;split
      · exact c4 _
      · exact jF _ _ _
    unfold g9;split
    · exact c4 _
    split
    · exact np _ _ _
    · exact c4 _
  have h6:inf (bn b).val.aI b/\inf (bn b).val.box b:=by
    unfold bn;split
    · exact⟨c4 _,c4 _⟩
    · refine kW (fun a:dX=>inf a.aI b/\inf a.box b) ⟨c4 _,c4 _⟩ ?_
      unfold mG Hj;dsimp only;cases ((fQ b 1 2 Zy).val==2)
      · exact⟨c4 _,oD _ _ _ _⟩
      · exact⟨oD _ _ _ _,oD _ _ _ _⟩
  have h7:inf (dd b).val.box b:=by
    unfold dd;split
    · exact c4 _
    · exact kW (fun a:jE=>inf a.box b) (c4 _) (oD _ _ _ _)
  have h8:inf (eW b).val.box b:=by
    unfold eW;split
    · exact c4 _
    · exact kW (fun a:DP=>inf a.box b) (c4 _) (jF _ _ _)
  unfold l7;repeat' split
  all_goals
    simp only[List.mem_cons,List.not_mem_nil,or_false];intro x hx;first
      | (rcases hx with rfl | rfl
         · first | exact h2.1 | exact h3.1 | exact h6.1
         · first | exact h2.2 | exact h3.2 | exact h6.2)
      | (subst hx;first | exact h1 | exact h4 | exact h5 | exact h7 | exact h8)
      | exact absurd hx (by simp)
theorem Mt{m c:Bytes}(h:c∈partsOf m):inf c m:=JJ m c (oT h).1
theorem NE(c:Bytes):inf (aW c).box.body c:=by
 unfold aW;split
 ·exact c4 _
 split
 ·exact c4 _
 split
 ·exact c4 _
 ·exact Ki c 12 _
theorem GF(x:VG){c:Bytes}(h:c∈(iJ x).boxes):inf c x.body:=by
 have part:∀ li,inf (bA x.body li).val.aI x.body:=by
  intro li;unfold bA;split
  ·exact c4 _
  ·exact jF _ _ _
 have ans:inf (br x.body).val.aI x.body:=by
  refine kW (fun a:gq=>inf a.aI x.body) (c4 _) ?_;unfold k9 Hi;dsimp only;cases dD (dj x.body 4 0 Zy).val
  ·exact c4 _
  ·exact oD _ _ _ _
 have YA:inf (cF x.body).val.record x.body:=kW (fun a:uj=>inf a.record x.body) (c4 _) (jF _ _ _);unfold iJ x8 at h;repeat' split at h
 all_goals first
  | (cases h;done)
  | (rw[yz h];first | exact part _ | exact ans | exact YA)
theorem LS{b c:Bytes}(h:c∈(cj b).boxes):inf c b:=CV (GF _ h) (NE b)
theorem xZ:∀ {p:List Pe} {a:Bytes} (r:Bytes),gL p a=Zf->gL p (a++r)=Zf
 | [],_,_,_=>by unfold gL;rfl
 | p::ps,[],_,h=>by cases h
 | p::ps,c::a,r,h=>by
  simp only[gL,Zz] at h;simp only[Zg,gL,Zz];exact⟨h.1,xZ r h.2⟩
theorem wm:∀ (l:Bytes) (p:List Pe) (r:Bytes),gL p r=Zf->gL (l.map .is++p) (l++r)=Zf
 | [],p,r,h=>h
 | c::l,p,r,h=>by
  show((Pe.is c).ok c&&gL (l.map .is++p) (l++r))=Zf;rw[wm l p r h];simp[Pe.ok]
theorem Ac:∀ (a:Bytes) (p:List Pe) (r:Bytes),gL p r=Zf->gL (List.replicate a.length .any++p) (a++r)=Zf
 | [],p,r,h=>h
 | c::a,p,r,h=>by
  show((Pe.any).ok c&&gL (List.replicate a.length .any++p) (a++r))=Zf;rw[Ac a p r h];rfl
theorem zm{c:UInt8}{p:List Pe}{r:Bytes}(hc:Pe.pr.ok c=Zf)(h:gL p r=Zf):gL (.pr::p) (c::r)=Zf:=by
 simp only[gL,hc,h,Bool.and_self]
theorem O8{bad:Bytes}{c:UInt8}(h:okB bad c=Zf):Pe.pr.ok c=Zf:=by
 unfold okB at h;unfold Pe.ok;simp only[Zz,Bool.not_eq_true',decide_eq_false_iff_not,Qa2] at h ⊢;omega
theorem EI{s:Bytes}(h:validName s=Zf):∃ c r,s=c::r/\Pe.pr.ok c=Zf:=by
 unfold validName at h;simp only[Zz] at h;cases s with
 | nil=>simp at h
 | cons c r =>
  refine⟨c,r,rfl,?_⟩;have:=h.2;unfold dE at this;simp only[List.all_cons,Zz] at this;exact O8 this.1
theorem Pl{s:Bytes}(h:cJ s=Zf):∃ r c,s=r++[c]/\Pe.pr.ok c=Zf:=by
 unfold cJ bS at h;simp only[Zz] at h;have gA:s≠[]:=by rintro rfl;simp at h
 refine⟨s.dropLast,s.getLast gA,(List.dropLast_concat_getLast gA).symm,?_⟩;have:=h.2.2;unfold dE at this;exact O8 (Zd.1 this _ (List.getLast_mem gA))
theorem yj{p:bf}(h:p.valid=Zf):validName p.name=Zf/\cJ p.aJ=Zf:=by
 unfold bf.valid at h;simp only[Zz] at h;exact⟨h.1.1,h.2⟩
def seen(k:Int)(b:Bytes):Prop:=∃ u w p,b=u++w/\p∈sJ k/\gL p w=Zf
theorem S6{k:Int}{u r:Bytes}{c:UInt8}(hc:Pe.pr.ok c=Zf):seen k (u++(keyBytes k++(c::r))) :=
 ⟨u,_,_,rfl,Zv ..,wm (keyBytes k) [.pr] (c::r) (zm hc (by unfold gL;rfl))⟩
theorem Y1{k:Int}{u a r:Bytes}{c:UInt8}(ha:a.length=5)(hc:Pe.pr.ok c=Zf):seen k (u++(keyBytes k++(a++(c::r)))):=by
 refine⟨u,_,kp k++[.any,.any,.any,.any,.any,.pr],rfl,Zq _ (Zv ..),wm (keyBytes k) _ _ ?_⟩;have:=Ac a [.pr] (c::r) (zm hc (by unfold gL;rfl));rw[ha] at this;exact this
theorem S7{k:Int}{u a r:Bytes}{c:UInt8}(ha:a.length=4)(hc:Pe.pr.ok c=Zf):seen k (u++(c::(a++(keyBytes k++r)))):=by
 refine⟨u,_,.pr :: .any :: .any :: .any :: .any::kp k,rfl,Zq _ (Zq _ (Zv ..)),zm hc ?_⟩;have h:=wm (keyBytes k) [] r (by unfold gL;rfl);have:=Ac a _ _ h;rw[ha,List.append_nil] at this;exact this
theorem Y2{k:Int}{u r:Bytes}{c:UInt8}(hc:Pe.pr.ok c=Zf):seen k (u++(c::0::(keyBytes k++r))):=by
 refine⟨u,_,.pr :: .is 0::kp k,rfl,Zq _ (Zq _ (Zq _ (Zv ..))),zm hc ?_⟩;have h:=wm (keyBytes k) [] r (by unfold gL;rfl);rw[List.append_nil] at h;show((Pe.is 0).ok 0&&gL (kp k) (keyBytes k++r))=Zf;rw[show gL (kp k) (keyBytes k++r)=Zf from h];rfl
theorem mO{k q:Int}(h:k∈bQ [q]):k=q/\bm q=Zf:=by
 unfold bQ at h;simp only[List.mem_filter,List.mem_singleton] at h;obtain⟨rfl,h⟩:=h;exact⟨rfl,h⟩
theorem sb{α:Type}{no:α}{enc:α->ll}{rd:Bytes->α×Bool}{b:Bytes}(h:(fU no enc rd b).err=0):(enc (fU no enc rd b).val).err=0/\(enc (fU no enc rd b).val).val=b:=by
 unfold fU at h ⊢;split
 ·rename_i g;rw[Qa1 g] at h;cases h
 ·rename_i g;have g':¬ ((rd b).2=Zf)/\¬ ((enc (rd b).1).err≠0)/\¬ ((enc (rd b).1).val≠b):=⟨fun q=>g (.inl q),fun q=>g (.inr (.inl q)),fun q=>g (.inr (.inr q))⟩;exact⟨Classical.not_not.1 g'.2.1,Classical.not_not.1 g'.2.2⟩
theorem zC(b:Bytes):∃ z,pad b=b++z:=⟨_,rfl⟩
theorem Sl{b:Bytes}(h:(bY b).err=0):seen (bY b).val.aB b:=by
 unfold bY at h ⊢;split at h
 ·cases h
 rename_i g;rw[Qa0 g];obtain⟨h1,h2⟩:=sb h;generalize (fU jy bB (fun b=>(vx b,Zy)) b).val=t at h1 h2 ⊢;obtain⟨_,hs,_,_,_,_,_,hv⟩:=mS h1;obtain⟨c,r,e,hc⟩:=EI hs;obtain⟨z,hz⟩:=zC (aN (cond t.aq 1 0) 1 Zy++(t.client.name++0::(t.client.inst++0::(t.client.aJ++0::(aN t.address 4 t.aq++(keyBytes t.aB++(aN t.cl 1 Zy++(aN t.cE 4 t.aq++(t.service++0::(t.inst++[0]))))))))));rw[hv,hz,e] at h2;rw[<-h2];have:=Y1 (k:=t.aB) (u:=aN (cond t.aq 1 0) 1 Zy++(t.client.name++0::(t.client.inst++0::(t.client.aJ++0::aN t.address 4 t.aq)))) (a:=aN t.cl 1 Zy++aN t.cE 4 t.aq) (r:=r++0::(t.inst++[0])++z) (by simp[af]) hc;simpa using this
theorem Dh{b:Bytes}{li:Bool}(h:(bA b li).err=0):seen (bA b li).val.aB b:=by
 unfold bA at h ⊢;split at h
 ·cases h
 rename_i g;rw[Qa0 g];have g':¬ ((bR (nr b li) li).err≠0)/\¬ ((bR (nr b li) li).val≠b):=⟨fun q=>g (.inl q),fun q=>g (.inr q)⟩;have h1:=Classical.not_not.1 g'.1;have h2:=Classical.not_not.1 g'.2;dsimp only;generalize nr b li=t at h1 h2 ⊢;obtain⟨_,hs,_,_,_,_,hv⟩:=z9 h1;obtain⟨c,r,e,hc⟩:=EI (yj hs).1;rw[hv] at h2;obtain⟨z,hz⟩:=zC (cC (aN (cond li 1 0) 1 Zy++keyBytes t.aB) t.service++aN t.cl 1 Zy++aN t.bO 1 Zy++aN t.aI.length 1 Zy++t.aI++aN t.time 4 li);rw[hz] at h2;rw[<-h2,hY];unfold S0;rw[e];have:=S6 (k:=t.aB) (u:=aN (cond li 1 0) 1 Zy) (r:=r++[0]++(t.service.inst++[0]++(t.service.aJ++[0]))++aN t.cl 1 Zy++aN t.bO 1 Zy++aN t.aI.length 1 Zy++t.aI++aN t.time 4 li++z) hc;simpa using this
theorem Pu{b:Bytes}{k:Int}(h:(cR b).err=0)(hk:k∈bQ [(cR b).val.new]):seen k b:=by
 obtain⟨rfl,hv⟩:=mO hk;unfold cR at h hv ⊢;obtain⟨h1,h2⟩:=sb h;generalize (fU qQ aR mH b).val=t at h1 h2 hv ⊢;rcases (qC h1).2 with⟨_,_,_,_,h0,_⟩ | ⟨hl,_,_,_,z,hz,_⟩
 ·rw[h0] at hv;cases hv
 ·rw[hz,hl] at h2;rw[<-h2];have:=S7 (k:=t.new) (u:=[67,80,87]) (c:=108) (a:=aN t.time 4 Zy) (r:=z) (by simp[af]) (by decide);simpa [fX] using this
theorem Nq{b:Bytes}{k:Int}(h:(br b).err=0)(hk:k∈bQ [(br b).val.aB]):seen k b:=by
 obtain⟨rfl,hv⟩:=mO hk;unfold br at h hv ⊢;obtain⟨h1,h2⟩:=sb h;generalize (fU qP aZ k9 b).val=t at h1 h2 hv ⊢;rcases (qB h1).2 with⟨hl,_,_,_,_,_,_,_,hz⟩ | ⟨_,h0,_⟩
 ·obtain⟨u,c,e,hc⟩:∃ u c,t.label=u++[c]/\Pe.pr.ok c=Zf:=by
   unfold dD at hl;simp only[Bool.or_eq_true,Qb0] at hl;rcases hl with hl | hl
   ·exact⟨[116,103,115],84,hl,by decide⟩
   ·exact⟨[116,107,116],71,hl,by decide⟩
  obtain⟨z,Kz⟩:=zC (t.label++(aN t.time 4 Zy++(keyBytes t.aB++(aN t.start 4 Zy++(aN t.stop 4 Zy++(aN t.bO 1 Zy++(t.service.name++0::(t.service.inst++0::(t.service.aJ++0::(aN t.aI.length 1 Zy++t.aI))))))))));rw[hz,Kz,e] at h2;rw[<-h2];have:=S7 (k:=t.aB) (u:=u) (c:=c) (a:=aN t.time 4 Zy) (r:=aN t.start 4 Zy++(aN t.stop 4 Zy++(aN t.bO 1 Zy++(t.service.name++0::(t.service.inst++0::(t.service.aJ++0::(aN t.aI.length 1 Zy++t.aI))))))++z) (by simp[af]) hc;simpa using this
 ·rw[h0] at hv;cases hv
theorem Pm{b:Bytes}(h:(df b).err=0):seen (df b).val.aB b:=by
 unfold df at h ⊢;obtain⟨h1,h2⟩:=sb h;generalize (fU Jq dH Bf b).val=t at h1 h2 ⊢;obtain⟨_,hs,_,_,_,_,z,hz,_⟩:=yB h1;obtain⟨r,c,e,hc⟩:=Pl (yj hs).2;rw[hz,e] at h2;rw[<-h2];have:=Y2 (k:=t.aB) (u:=t.client.name++0::(t.client.inst++0::(t.client.aJ++0::(t.service.name++0::(t.service.inst++0::r))))) (r:=aN t.start 4 Zy++(aN t.stop 4 Zy++(aN t.addr 4 Zy++z))) hc;simpa using this
theorem Ju{b:Bytes}(h:(cF b).err=0):seen (cF b).val.aB b:=by
 unfold cF at h ⊢;obtain⟨h1,h2⟩:=sb h;generalize (fU EM cN yq b).val=t at h1 h2 ⊢;have hs:=(wc h1).2.1;obtain⟨c,r,e,hc⟩:=EI (yj hs).1;have hv:(cN t).val=pad (cH (cC (keyBytes t.aB) t.service++aN t.start 4 Zy++aN t.stop 4 Zy) t.record):=by
  unfold cN at h1 ⊢;repeat' split at h1
  all_goals first | (cases h1;done) | skip
  rename_i g1 g2 g3 g4;rw[Qa0 g1,Qa0 g2,Qa0 g3,Qa0 g4]
 obtain⟨z,hz⟩:=zC (cH (cC (keyBytes t.aB) t.service++aN t.start 4 Zy++aN t.stop 4 Zy) t.record);rw[hv,hz,hY] at h2;unfold S0 at h2;rw[e] at h2;rw[<-h2];have:=S6 (k:=t.aB) (u:=[]) (r:=r++[0]++(t.service.inst++[0]++(t.service.aJ++[0]))++aN t.start 4 Zy++aN t.stop 4 Zy++aN t.record.length 2 Zy++t.record++z) hc;simpa [cH] using this
theorem Ja{x:VG}{k:Int}(h:k∈(iJ x).keys):seen k x.body:=by
 unfold iJ at h;by_cases e:x.kind=1
 ·rw[Qa1 e] at h;by_cases g:(bY x.body).err=0
  ·rw[Qa1 g] at h;rw[(mO h).1];exact Sl g
  ·rw[Qa0 g] at h;cases h
 rw[Qa0 e] at h;clear e;by_cases e:x.kind=3
 ·rw[Qa1 e] at h;by_cases g:(bA x.body Zy).err=0
  ·rw[Qa1 g] at h;rw[(mO h).1];exact Dh g
  rw[Qa0 g] at h;clear g;by_cases g:(bA x.body Zf).err=0
  ·rw[Qa1 g] at h;rw[(mO h).1];exact Dh g
  ·rw[Qa0 g] at h;cases h
 rw[Qa0 e] at h;clear e;by_cases e:x.kind=7
 ·rw[Qa1 e] at h;by_cases g:(cR x.body).err=0
  ·rw[Qa1 g] at h;exact Pu g h
  ·rw[Qa0 g] at h;cases h
 rw[Qa0 e] at h;clear e;by_cases e:x.kind=8
 ·rw[Qa1 e] at h;by_cases g:(br x.body).err=0
  ·rw[Qa1 g] at h;exact Nq g h
  ·rw[Qa0 g] at h;cases h
 rw[Qa0 e] at h;clear e;by_cases e:x.kind=9
 ·rw[Qa1 e] at h;by_cases g:(df x.body).err=0
  ·rw[Qa1 g] at h;rw[(mO h).1];exact Pm g
  ·rw[Qa0 g] at h;cases h
 rw[Qa0 e] at h;clear e;by_cases e:x.kind=10
 ·rw[Qa1 e] at h;by_cases g:(cF x.body).err=0
  ·rw[Qa1 g] at h;rw[(mO h).1];exact Ju g
  ·rw[Qa0 g] at h;cases h
 ·rw[Qa0 e] at h;cases h
theorem Ob{c:Bytes}(h:(aW c).err=0):∃ z w,c=z++w/\z.length=12/\gL h6 (z++w)=Zf/\∃ y,w=(aW c).box.body++y:=by
 have hc:=h;unfold aW at h;split at h
 ·cases h
 rename_i g0;split at h
 ·cases h
 rename_i g1;split at h
 ·cases h
 rename_i g2;have g1':c.getD 0 0=66/\isKind ((c.getD 1 0).toNat:Int)=Zf/\(eQ (cut c 2 8)).2=Zf:=by
  refine⟨?_,?_,?_⟩
  ·exact Classical.byContradiction fun q=>g1 (.inl q)
  ·cases hk:isKind ((c.getD 1 0).toNat:Int) with
   | true=>rfl
   | false=>exact absurd (.inr (.inl hk)) g1
  ·cases hk:(eQ (cut c 2 8)).2 with
   | true=>rfl
   | false=>exact absurd (.inr (.inr (.inl hk))) g1
 obtain⟨q1,q2,q3⟩:=g1';have hb:(aW c).box.body=cut c 12 (kr c):=by
  unfold aW;rw[Qa0 g0,Qa0 g1,Qa0 g2]
 refine⟨c.take 12,c.drop 12,(Yw 12 c).symm,by simp;omega,?_,(c.drop 12).drop (kr c),?_⟩
 ·rw[Yw]
  match c,g0,q1,q2,q3 with
  | c0::c1::a::b::c::d::e::f::g::i::r,g0,q1,q2,q3 =>
   have e8:cut (c0::c1::a::b::c::d::e::f::g::i::r) 2 8=[a,b,c,d,e,f,g,i]:=rfl;rw[e8] at q3;have hv:bm (km [a,b,c,d,e,f,g,i])=Zf:=by
    unfold eQ at q3;split at q3
    ·rename_i hq;exact hq.2
    ·cases q3
   have ha:=a.toNat_lt;have hb:=b.toNat_lt;have BX:=c.toNat_lt;have hd:=d.toNat_lt;have he:=e.toNat_lt;have hf:=f.toNat_lt;have hg:=g.toNat_lt;have hi:=i.toNat_lt;have ev:km [a,b,c,d,e,f,g,i]=(a.toNat:Int)*72057594037927936+((b.toNat:Int)*281474976710656+(c.toNat:Int)*1099511627776+(d.toNat:Int)*4294967296+(e.toNat:Int)*16777216+(f.toNat:Int)*65536+(g.toNat:Int)*256+(i.toNat:Int)):=by
    simp only[km,List.foldl];omega
   unfold bm mX ke kf jI at hv;rw[ev] at hv;simp only[Zz,Bool.or_eq_true,Qb0,Qa2] at hv;have hs:(b.toNat=0/\c.toNat=0/\d.toNat=0)/\1<=a.toNat/\a.toNat<=2:=by
    obtain⟨v1,v2,v3⟩:=hv;refine⟨⟨?_,?_,?_⟩,?_,?_⟩<;>omega
   obtain⟨⟨wx,I1,hd0⟩,SD,N0⟩:=hs;have z:∀ {x:UInt8},x.toNat=0->x=0:=fun {x} hx=>UInt8.toNat_inj.1 (by simpa using hx);have q1':c0=66:=q1;have q2':isKind (c1.toNat:Int)=Zf:=q2;unfold isKind at q2';simp only[Zz,Qa2] at q2';rw[z wx,z I1,z hd0,q1'];show((Pe.is 66).ok 66&&((Pe.le 10).ok c1&&((Pe.le 2).ok a&&((Pe.is 0).ok 0&&((Pe.is 0).ok 0&&((Pe.is 0).ok 0&&gL [] (e::f::g::i::r)))))))=Zf;have o1:(Pe.le 10).ok c1=Zf:=by
    unfold Pe.ok;simp only[Zz,Qa2];have:(10:UInt8).toNat=10:=rfl;omega
   have o2:(Pe.le 2).ok a=Zf:=by
    unfold Pe.ok;simp only[Zz,Qa2];have:(2:UInt8).toNat=2:=rfl;omega
   rw[o1,o2];rfl
  | [],g0,_,_,_=>simp at g0
  | [_],g0,_,_,_=>simp at g0
  | [_,_],g0,_,_,_=>simp at g0
  | [_,_,_],g0,_,_,_=>simp at g0
  | [_,_,_,_],g0,_,_,_=>simp at g0
  | [_,_,_,_,_],g0,_,_,_=>simp at g0
  | [_,_,_,_,_,_],g0,_,_,_=>simp at g0
  | [_,_,_,_,_,_,_],g0,_,_,_=>simp at g0
  | [_,_,_,_,_,_,_,_],g0,_,_,_=>simp at g0
  | [_,_,_,_,_,_,_,_,_],g0,_,_,_=>simp at g0
 ·rw[hb];show c.drop 12=(c.drop 12).take (Zj ((kr c:Nat):Int))++(c.drop 12).drop (kr c);rw[Zu,Yw]
theorem Pv{m c:Bytes}{k:Int}(hm:inf c m)(he:(aW c).err=0)(hk:k∈(cj c).keys):∃ p∈sJ k,UM h6 p m:=by
 obtain⟨x,y,rfl⟩:=hm;obtain⟨z,w,ec,hz,hf,y2,ew⟩:=Ob he;obtain⟨u,v,p,eb,hp,hv⟩:=Ja hk;refine⟨p,hp,x,z++u,v++(y2++y),?_,?_,by simp;omega,xZ _ hv⟩
 ·rw[ec,ew,eb];simp
 ·have:=xZ (y) hf;rw[ew,eb] at this;simpa using this
end Kerb
/- Chapter 27: the secret stays, until the key is known that seals it. -/
namespace Kerb
open Go Go.Abs
set_option maxRecDepth 100000
def Y0(li:Bool):dF:=⟨li,user 0,0,qg,0,0,[109,97,105,108],[]⟩
def oG(li:Bool):Bytes:=(eI (Y0 li) jQ).val
def q_(li:Bool):Bytes:=(bZ ⟨Zy,Zy,0,[82],oG li,[]⟩).val
theorem Dt:∀ li:Bool,partsOf (q_ li)=[oG li]:=by decide +kernel
theorem zG:∀ li:Bool,(aW (oG li)).err=0/\(aW (oG li)).box.key=jQ/\(cj (oG li)).keys=[qg]/\(cj (oG li)).boxes=[]:=by decide +kernel
def MQ:Bytes:=[0,1,2,3,4,5]
theorem PF:∀ k∈bQ (gB MQ 0),k≠qg/\k≠jQ:=by decide +kernel
theorem JI:bQ [jQ]=[jQ]:=by decide +kernel
def Clean(ls:List AV)(b0:Bytes):Int ⊕ Bytes->Prop
 | .inl k=>k≠qg/\k≠jQ
 | .inr c=>c=b0\/∃ t:iB,0<=t.hw/\t.hw<=65535/\inf c (oz t)
theorem Lo{t:iB}(h0:0<=t.hw)(h1:t.hw<=65535){c:Bytes}{k:Int}(hm:inf c (oz t))(he:(aW c).err=0)(hk:k∈(cj c).keys):k≠qg/\k≠jQ:=by
 obtain⟨p,hp,ho⟩:=Pv hm he hk;refine⟨?_,?_⟩
 ·rintro rfl;exact G2 t h0 h1 (Yg.2 (.inl hp)) ho
 ·rintro rfl;exact G2 t h0 h1 (Yg.2 (.inr hp)) ho
theorem Lq{ls:List AV}{b0:Bytes}(wx:(aW b0).box.key=jQ){B0:Bytes->Prop}{K0:Int->Prop}(hB:∀ b,B0 b->Clean ls b0 (.inr b))(hK:∀ k,K0 k->k≠qg/\k≠jQ){x:Int ⊕ Bytes}(h:zL B0 K0 x):Clean ls b0 x:=by
 induction h with
 | key h=>exact hK _ h
 | box h=>exact hB _ h
 | @Uz b k _ he _ hm i1 i2 =>
  have X2:(aW b).box.key≠qg/\(aW b).box.key≠jQ:=i2;rcases (show b=b0\/∃ t:iB,0<=t.hw/\t.hw<=65535/\inf b (oz t) from i1) with e | ⟨t,h0,h1,hi⟩
  ·rw[e] at X2;exact absurd wx X2.2
  ·exact Lo h0 h1 hi he hm
 | @VY b c _ he _ hm i1 i2 =>
  have X2:(aW b).box.key≠qg/\(aW b).box.key≠jQ:=i2;rcases (show b=b0\/∃ t:iB,0<=t.hw/\t.hw<=65535/\inf b (oz t) from i1) with e | ⟨t,h0,h1,hi⟩
  ·rw[e] at X2;exact absurd wx X2.2
  ·exact .inr ⟨t,h0,h1,CV (LS hm) hi⟩
def Hw(ls:List AV)(li:Bool):Kn:=learn (zR ls MQ 0) (q_ li)
theorem Eh{B0:Bytes->Prop}{K0:Int->Prop}{s:Kn}(h:Full B0 K0 s)(m:Bytes):Full (fun b=>B0 b\/b∈partsOf m) K0 (learn s m):=h.join (x:=⟨[],partsOf m⟩) (fun b=>Iff.rfl) (fun k=>by simp)
theorem Gg{B0:Bytes->Prop}{K0:Int->Prop}{s:Kn}(h:Full B0 K0 s)(q:Int):Full B0 (fun k=>K0 k\/k∈bQ [q]) (leak s q):=h.join (x:=⟨bQ [q],[]⟩) (fun b=>by simp) (fun k=>Iff.rfl)
theorem Ds(ls:List AV)(li:Bool):Full (fun b=>(∃ m∈gW ls 0,b∈partsOf m)\/b∈partsOf (q_ li)) (fun k=>k∈bQ (gB MQ 0)) (Hw ls li):=Eh (IE ls MQ 0) (q_ li)
theorem Pt{ls:List AV}(fW:ls.all mY=Zf)(li:Bool):(Hw ls li).keys.contains qg=Zy:=by
 cases hc:(Hw ls li).keys.contains qg with
 | false=>rfl
 | true =>
  have hm:qg∈(Hw ls li).keys:=by simpa using hc
  have hd:=((Ds ls li).keys qg).1 hm;have:=Lq (ls:=ls) (b0:=oG li) (zG li).2.1 (fun b hb=> ?_) (fun k hk=>PF k hk) hd
  ·exact absurd rfl this.1
  ·rcases hb with⟨m,hm,hb⟩ | hb
   ·simp only[gW,Yb,Yz] at hm;obtain⟨i,hi,rfl⟩:=hm;obtain⟨t,_,h0,h1,e⟩:=Im fW (show(i+0) % ls.length<ls.length from Nat.mod_lt _ (by omega));rw[e] at hb;exact .inr ⟨t,h0,h1,Mt hb⟩
   ·rw[Dt] at hb;exact .inl (by simpa using hb)
theorem MD(ls:List AV)(li:Bool):(leak (Hw ls li) jQ).keys.contains qg=Zf:=by
 have hF:=Gg (Ds ls li) jQ;have hb:oG li∈partsOf (q_ li):=by rw[Dt];simp
 have hd:zL (fun b=>(∃ m∈gW ls 0,b∈partsOf m)\/b∈partsOf (q_ li)) (fun k=>k∈bQ (gB MQ 0)\/k∈bQ [jQ]) (.inl qg) :=
  zL.Uz (b:=oG li) (.box (.inr hb)) (zG li).1 (by
   rw[(zG li).2.1];exact .key (.inr (by rw[JI];simp))) (by rw[(zG li).2.2.1];simp)
 rw[List.contains_iff_mem];exact(hF.keys qg).2 hd
theorem E7:∀ li:Bool,(q_ li).length<=6001:=by decide +kernel
theorem Ps{ls:List AV}(h:ls.length<=12)(li:Bool):Fit (Hw ls li) 214028:=(CF MQ 0 h).learn (E7 li) (by decide)
end Kerb
