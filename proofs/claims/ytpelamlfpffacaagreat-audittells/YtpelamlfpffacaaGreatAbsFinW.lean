/- Chapter 30: what an audit says, of events as lists of cells. -/
import Derived.Test.YtpelamlfpffacaaGreatAbsFin
set_option linter.all false
open Go.IntKind renaming i64->AI,u64->AT
open List renaming getD_eq_getElem?_getD->Zz,getElem?_eq_getElem->Zy
open Bool renaming and_eq_true->Zx
open Option renaming getD_some->Zw
open Decidable renaming decide->Zv
namespace Kerb
open Go Go.Abs
variable {p:AV->Bool}{l:List AV}{n:Int}{k:Nat}{N:Nat}{F:List AV}{m:List AV}{i:Int}{P:AV->AV->Bool}{b:Bool}{cx:List AV}{cy:List AV}{L:List AV}{j:Nat}{s:Kn}{c:List AV}{t:Kn}{ms:List AV}{ks:List AV}{a:Int}{r:Bool}{w0:List AV}{w1:List AV}{kd:IntKind}{v0:List AV}{g:Int}{nx:Int}{es:List AV}
def cI(x:AV)(j:Nat):Int:=match x.cells.getD j .undef with
 | .int _ n=>n
 | _=>0
def cS(x:AV)(j:Nat):Bytes:=match x.cells.getD j .undef with
 | .str s=>s
 | .bs s=>s
 | _=>[]
def upG(p:AV->Bool)(l:List AV):Nat->Nat->Int
 | 0,_ => -1
 | m+1,k=>bif p (l.getD k .undef) then k else upG p l m (k+1)
def uJ(p:AV->Bool)(l:List AV)(n k:Nat):Int:=upG p l (n-k) k
def uL(p:AV->Bool)(l:List AV):Nat->Int
 | 0 => -1
 | k+1=>bif p (l.getD k .undef) then k else uL p l k
theorem B7{n:Nat}(h:n<=k):uJ p l n k = -1:=by
 unfold uJ;rw[Nat.sub_eq_zero_of_le h];rfl
theorem Ib{n:Nat}(h:k<n)(hp:p (l.getD k .undef)=true):uJ p l n k=k:=by
 unfold uJ;obtain⟨m,hm⟩:∃ m,n-k=m+1:=⟨n-k-1,by omega⟩;rw[hm];simp only[upG,hp,Qa6]
theorem Ia{n:Nat}(h:k<n)(hp:p (l.getD k .undef)=false):uJ p l n k=uJ p l n (k+1):=by
 unfold uJ;obtain⟨m,hm⟩:∃ m,n-k=m+1:=⟨n-k-1,by omega⟩;rw[hm,show n-(k+1)=m by omega];simp only[upG,hp,Qa7]
theorem GM(hp:p (l.getD k .undef)=true):uL p l (k+1)=k:=by simp only[uL,hp,Qa6]
theorem RQ(hp:p (l.getD k .undef)=false):uL p l (k+1)=uL p l k:=by simp only[uL,hp,Qa7]
theorem aaU(p:AV->Bool)(l:List AV):∀ k,-1<=uL p l k:=by
 intro k;induction k with
 | zero=>simp[uL]
 | succ k ih=>simp only[uL];cases p (l.getD k .undef)<;>simp<;>omega
theorem LP(p:AV->Bool)(l:List AV):∀ k:Nat,uL p l k<k:=by
 intro k;induction k with
 | zero=>simp[uL]
 | succ k ih=>simp only[uL];cases p (l.getD k .undef)<;>simp<;>omega
def Dv(x y:AV):Bool:=Zv (cI x 1=6)&&(Zv (cS x 2=cS y 38)&&Zv (cS x 3=cS y 39)&&Zv (cS x 4=cS y 40))&&Zv (cI x 26=cI y 41)&&zL (cS x 30) (cS y 48)&&Zv (cI x 34=cI y 43)&&Zv (cI x 36=cI y 44)&&Zv (cI x 35=cI y 45)
def Cq(x y:AV):Bool:=Zv (cI x 1=7)&&(Zv (cS x 2=cS y 38)&&Zv (cS x 3=cS y 39)&&Zv (cS x 4=cS y 40))&&(Zv (cS x 38=cS y 2)&&Zv (cS x 39=cS y 3)&&Zv (cS x 40=cS y 4))&&Zv (cI x 41=cI y 41)&&Zv (cI x 43=cI y 43)&&Zv (cI x 44=cI y 44)&&Zv (cI x 45=cI y 45)
def As(t:Bytes)(x:AV):Bool:=Zv (cI x 1=4)&&Zv (cS x 20=t)
def zg(k:Int)(x:AV):Bool:=Zv (cI x 1=4)&&Zv (cI x 17=k)
def wK(l:List AV)(i k:Int):Bool:=Zv (0<=i)&&Zv (i<l.length)&&Zv (cI (l.getD i.toNat .undef) 1=k)
def NH(k:Int)(P:AV->AV->Bool)(l:List AV)(i:Int):Int:=bif wK l i k then uJ (λx=>P x (l.getD i.toNat .undef)) l i.toNat 0 else -1
abbrev vF(l:List AV)(i:Int):Int:=NH 7 Dv l i
abbrev xD(l:List AV)(i:Int):Int:=NH 8 Cq l i
theorem ox{v:Int}(h0:0<=v)(h1:v<1000000):IntKind.wrap AI (v+1)=v+1:=wrap_i64 (by omega) (by omega)
theorem AX{v:Int}(h0 : -1<=v)(h1:v<1000000):IntKind.wrap AI (v-1)=v-1:=wrap_i64 (by omega) (by omega)
theorem ac7{F v:Int}(h0:0<=v)(h1:v<1000000)(h2:v<N)(hi:uJ p l N v.toNat=F)(hp:p (l.getD v.toNat .undef)=false):uJ p l N (IntKind.wrap AI (v+1)).toNat=F:=by
 rw[ox h0 h1,show(v+1).toNat=v.toNat+1 by omega,<-Ia (by omega) hp,hi]
theorem XT{v:Int}(h0:0<=v)(h1:v<1000000)(h2:v<N)(hp:p (l.getD v.toNat .undef)=true):v=uJ p l N (IntKind.wrap AI (v-1)+1).toNat:=by
 rw[AX (by omega) h1,show(v-1+1).toNat=v.toNat by omega,Ib (by omega) hp];omega
theorem XS{v w:Int}(h0:0<=v)(h1:v<1000000)(h2:v<N)(hi:w=uJ p l N (v+1).toNat)(hp:p (l.getD v.toNat .undef)=false):w=uJ p l N (IntKind.wrap AI (v-1)+1).toNat:=by
 rw[AX (by omega) h1,show(v-1+1).toNat=v.toNat by omega,Ia (by omega) hp,hi,show(v+1).toNat=v.toNat+1 by omega]
theorem XR{m:Nat}(h:N<=m)(hm:m<1000000): -1=uJ p l N (IntKind.wrap AI ((m:Int)-1)+1).toNat:=by
 rw[AX (by omega) (by omega),show((m:Int)-1+1).toNat=m by omega,B7 h]
theorem Hb{k:Int}(h0:0<=i)(h1:i<l.length)(hk:cI (l.getD i.toNat .undef) 1=k):wK l i k=true:=by
 simp only[wK,Qa4 h0,Qa4 h1,Qa4 hk,Bool.and_true]
theorem aec{k:Int}(h:¬ (0<=i/\i<l.length)): -1=NH k P l i:=by
 unfold NH;rw[show wK l i k=false by
  cases h':wK l i k
  .rfl
  .simp only[wK,Zx,Qa2] at h';exact absurd h'.1 h]
 rfl
theorem aeb{k:Int}{x:AV}(hx:l.getD i.toNat .undef=x)(h:¬ cI x 1=k): -1=NH k P l i:=by
 unfold NH;rw[show wK l i k=false by
  cases h':wK l i k
  .rfl
  .simp only[wK,Zx,Qa2] at h';rw[hx] at h';exact absurd h'.2 h]
 rfl
theorem VY{k v:Int}{x:AV}(h0:0<=i)(h1:i<l.length)(hx:l.getD i.toNat .undef=x)(hk:cI x 1=k)(hi:uJ (λx=>P x (l.getD i.toNat .undef)) l i.toNat v.toNat=uJ (λx=>P x (l.getD i.toNat .undef)) l i.toNat 0)(hv:i<=v): -1=NH k P l i:=by
 unfold NH;rw[Hb h0 h1 (by rw[hx];exact hk),Qa6,<-hi,B7 (by omega)]
theorem VZ{k v:Int}{x:AV}(h0:0<=i)(h1:i<l.length)(hv0:0<=v)(hv:v<i)(hi:uJ (λx=>P x (l.getD i.toNat .undef)) l i.toNat v.toNat=uJ (λx=>P x (l.getD i.toNat .undef)) l i.toNat 0)(hx:l.getD i.toNat .undef=x)(hk:cI x 1=k)(hp:P (l.getD v.toNat .undef) (l.getD i.toNat .undef)=true):v=NH k P l i:=by
 unfold NH;rw[Hb h0 h1 (by rw[hx];exact hk),Qa6,<-hi,Ib (p:=λx=>P x (l.getD i.toNat .undef)) (by omega) hp];omega
theorem aaW{k v w:Int}{x:AV}(h0:0<=i)(h1:i<l.length)(hi:w=uJ (λx=>P x (l.getD i.toNat .undef)) l i.toNat (v+1).toNat)(hv:v<0)(hx:l.getD i.toNat .undef=x)(hk:cI x 1=k):w=NH k P l i:=by
 unfold NH;rw[Hb h0 h1 (by rw[hx];exact hk),Qa6,hi,show(v+1).toNat=0 by omega]
theorem akM{x y:AV}(hx:x = .agg cx)(hy:y = .agg cy)(h:P (.agg cx) (.agg cy)=b):P x y=b:=by subst hx hy;exact h
theorem GX(h:k<N):(List.drop (((0:Nat):Int).toNat) (l.take N)).getD k .undef=l.getD k .undef:=by
 grind
theorem akN{y:AV}(hx:(List.drop (((0:Nat):Int).toNat) (l.take N)).getD k .undef = .agg cx)(hk:k<N)(hy:y = .agg cy)(h:P (.agg cx) (.agg cy)=b):P (l.getD k .undef) y=b:=by rw[<-GX hk,hx,hy];exact h
def kN(l:List AV)(i:Int):Int:=bif cI (l.getD i.toNat .undef) 19==0 then -1 else uL (zg (cI (l.getD i.toNat .undef) 19)) l i.toNat
def lv(l:List AV):Nat->Int->List AV
 | 0,_=>[]
 | n+1,i=>bif Zv (0<=i) then lv l n (kN l i)++[.int AI i] else[]
def fQ(l:List AV)(i:Int):List AV:=lv l (i+1).toNat i
def oq(l:List AV)(i:Int):Int:=uL (As (cS (l.getD i.toNat .undef) 48)) l i.toNat
def gU(l:List AV)(i:Int):List AV:=bif wK l i 7 then fQ l (oq l i) else[]
theorem zu(h:0<=i):kN l i<i:=by
 unfold kN;have:=LP (zg (cI (l.getD i.toNat .undef) 19)) l i.toNat
 grind
theorem tp(h:i<0):fQ l i=[]:=by
 unfold fQ;rcases hm:(i+1).toNat with _ | m
 .rfl
 all_goals grind
theorem GA:∀ {n:Nat} {i:Int},(i+1).toNat<=n->lv l n i=fQ l i:=by
 intro n;induction n with
 | zero=>intro i h;rw[tp (by omega)];rfl
 | succ n ih =>
  intro i h;by_cases h0:0<=i
  .have h1:=zu (l:=l) h0;obtain⟨m,hm⟩:∃ m,(i+1).toNat=m+1:=⟨i.toNat,by omega⟩;have e:fQ l i=lv l m (kN l i)++[.int AI i]:=by
    unfold fQ;rw[hm];simp only[lv,Qa4 h0,Qa6]
   rw[e];simp only[lv,Qa4 h0,Qa6];rw[ih (i:=kN l i) (by omega)];congr 1;unfold fQ;rcases Nat.lt_or_ge m (kN l i+1).toNat with h2 | h2
   .omega
   .-- enough fuel on both sides
    have key:∀ a b:Nat,∀ j:Int,(j+1).toNat<=a->(j+1).toNat<=b->lv l a j=lv l b j:=by
     intro a;induction a with
     | zero =>
      intro b j ha hb;have:j<0:=by omega
      cases b with
      | zero=>rfl
      | succ b=>simp only[lv,Qa5 (show ¬ 0<=j by omega),Qa7]
     | succ a JB =>
      intro b j ha hb;cases b with
      | zero =>
       grind
      | succ b =>
       simp only[lv];by_cases hj:0<=j
       .have:=zu (l:=l) hj
        grind
       all_goals grind
    grind
  .rw[tp (by omega)];simp only[lv,Qa5 h0,Qa7]
theorem u7(h:0<=i):fQ l i=fQ l (kN l i)++[.int AI i]:=by
 have h1:=zu (l:=l) h;obtain⟨m,hm⟩:∃ m,(i+1).toNat=m+1:=⟨i.toNat,by omega⟩;have e:fQ l i=lv l m (kN l i)++[.int AI i]:=by
  unfold fQ;rw[hm];simp only[lv,Qa4 h,Qa6]
 rw[e,GA (by omega)]
theorem LC{N:Int}:∀ n:Nat,∀ i:Int,(i+1).toNat<=n->i<N->Al (.i AI 0 (N-1)) (fQ l i)/\(fQ l i).length<=n:=by
 intro n;induction n with
 | zero=>intro i h _;rw[tp (by omega)];exact⟨mQ,Nat.le_refl _⟩
 | succ n ih =>
  intro i h hN;by_cases h0:0<=i
  .have h1:=zu (l:=l) h0;obtain⟨g1,g2⟩:=ih (kN l i) (by omega) (by omega);rw[u7 h0];refine⟨Gq g1 (pw (λD hD=>hD i h0 (by omega)) mQ),?_⟩
   grind
  all_goals grind
theorem xB{n:Nat}(hn:l.length<=n):Al (.i AI 0 (l.length-1)) (gU l i)/\(gU l i).length<=n:=by
 unfold gU;cases h:wK l i 7
 .grind
 .simp only[wK,Zx,Qa2] at h;have:=LP (As (cS (l.getD i.toNat .undef) 48)) l i.toNat;exact LC n _ (by unfold oq;omega) (by unfold oq;omega)
def Bz(L:List AV)(k:Nat)(m:List AV):Prop:=m.length=L.length/\∀ j,j<L.length->m.getD j .undef=bif Zv (j<k)||decide (L.length-k<=j) then L.getD (L.length-1-j) .undef else L.getD j .undef
theorem acm(L:List AV):Bz L 0 L:=⟨rfl,λj hj=>by
 rw[show Zv (j<0)=false from Qa5 (by omega),show Zv (L.length-0<=j)=false from Qa5 (by omega)];rfl⟩
theorem Qt{x y:AV}(h:Bz L k m)(hk:k<j)(hj:k+j=L.length-1)(Px:j<L.length)(hx:m.getD j .undef=x)(hy:m.getD k .undef=y):Bz L (k+1) ((m.set k x).set j y):=by
 obtain⟨h1,h2⟩:=h;refine⟨by simp[h1],λi hi=> ?_⟩
 grind
theorem Km(h:Bz L k m)(hk:L.length<=2*k+1):m=L.reverse:=by
 obtain⟨h1,h2⟩:=h;refine List.ext_getElem (by rw[List.length_reverse,h1]) λj hj Px=> ?_
 grind
def iD(s:Kn)(x:AV)(xf:List AV):Kn :=
 bif (Zv (cI x 1=1)||decide (cI x 1=2))&&Zv (0<=cI x 6)&&Zv (cI x 6<xf.length) then learn s (cS (xf.getD (cI x 6).toNat .undef) 2)
 else bif Zv (cI x 1=9) then leak s (cI x 50) else s
def xd(l xf:List AV):Nat->Kn
 | 0=>⟨[],[]⟩
 | k+1=>iD (xd l xf k) (l.getD k .undef) xf
def iI:AV->Int
 | .int _ n=>n
 | _=>0
def JG(s:Kn)(l:List AV)(j:AV):Bool:=s.keys.contains (cI (l.getD (iI j).toNat .undef) 17)||s.keys.contains (cI (l.getD (iI j).toNat .undef) 18)
def jt(s:Kn)(l:List AV)(y:Int)(c:List AV):Nat->Bool
 | 0=>s.keys.contains y
 | k+1=>jt s l y c k||JG s l (c.getD k .undef)
theorem xR{y:Int}{n:Nat}(h:k<=n)(ht:jt s l y c k=true):jt s l y c n=true:=by
 induction h with
 | refl=>exact ht
 | step _ ih=>simp only[jt,ih,Bool.true_or]
def kM(s:Kn)(l:List AV)(y:Int)(c:List AV):Bool:=jt s l y c c.length
def XY(l xf:List AV)(i:Nat):AV := .agg [.int AI i,.int AI (vF l i),.sl 1 (gU l i),.bool (kM (xd l xf i) l (cI (l.getD i .undef) 41) (gU l i))]
def kZ(l xf:List AV):Nat->List AV
 | 0=>[]
 | k+1=>kZ l xf k++bif Zv (cI (l.getD k .undef) 1=7) then[XY l xf k] else[]
def rwS(s:List AV)(p:Nat)(F:List AV->Prop):Prop:=match s.getD p .undef with
 | .ay l=>F l
 | _=>F []
theorem Em(h:k<l.length):jk (l.take (k+1))=jk (l.take k)+Cz (l.getD k .undef):=by
 rw[List.take_add_one,GG,Zz,Zy h];simp only[Option.toList,r_,GH,Zw];omega
theorem IW(l:List AV)(k:Nat):jk (l.take k)<=jk l:=by
 have:=GG (l.take k) (l.drop k)
 simp_all
theorem aaY(x:AV):Cz x<=1:=by
 unfold Cz
 grind
theorem VO:∀ (l:List AV) (k:Nat) (x:AV),jk (l.set k x)<=jk l+1:=by
 intro l;induction l with
 | nil=>intro k x;exact Nat.zero_le _
 | cons y l ih =>
  intro k x;cases k with
  | zero=>have:=aaY x;simp only[List.set_cons_zero,r_];omega
  | succ k=>have:=ih k x;simp only[List.set_cons_succ,r_];omega
theorem adI{x:AV}{w:List AV}(hw:w=bM t.keys)(h:iD s x ms=t):w=bM (iD s x ms).keys:=by rw[h];exact hw
theorem adH{x:AV}{w:List AV}(hw:w=bD t.boxes)(h:iD s x ms=t):w=bD (iD s x ms).boxes:=by rw[h];exact hw
theorem N5{bs:List AV}(h:cK ks bs=true):ks=bM (kn ks bs).keys/\bs=bD (kn ks bs).boxes:=by
 obtain⟨s,rfl,rfl,hf⟩:=xg h;rw[gS];exact⟨rfl,rfl⟩
theorem aao{bs:List AV}{x:AV}(h:cK ks bs=true)(h2:iD (kn ks bs) x ms=kn ks bs):ks=bM (iD (kn ks bs) x ms).keys:=by rw[h2];exact(N5 h).1
theorem aan{bs:List AV}{x:AV}(h:cK ks bs=true)(h2:iD (kn ks bs) x ms=kn ks bs):bs=bD (iD (kn ks bs) x ms).boxes:=by rw[h2];exact(N5 h).2
theorem Rj{x:AV}{b:Bytes}{k m:Int}{y:AV}(e1:cI x 1=k)(e6:cI x 6=m)(h1:k=1\/k=2)(h2:0<=m)(h3:m<ms.length)(hy:ms.getD m.toNat .undef=y)(hb:cS y 2=b):iD s x ms=learn s b:=by
 subst e1 e6 hy hb;unfold iD
 grind
theorem Ri{x:AV}{k y:Int}(e1:cI x 1=k)(e50:cI x 50=y)(h:k=9):iD s x ms=leak s y:=by
 subst e1 e50;unfold iD;rw[h];rfl
theorem Rh{x:AV}{k m:Int}(e1:cI x 1=k)(e6:cI x 6=m)(h:¬ ((k=1\/k=2)/\0<=m/\m<ms.length))(h2:¬ k=9):iD s x ms=s:=by
 subst e1 e6;unfold iD
 grind
theorem adJ{s:Nat}{x:AV}{n:Nat}(h:n<=s+6026)(hx:Cz x=1):n<=s+6026*Cz x:=by rw[hx];omega
theorem aap{s:Nat}{x:AV}:s<=s+6026*Cz x:=by omega
theorem aaX{a:AV}{k:IntKind}{r:List AV}(h:n=1\/n=2\/n=9):Cz (.agg (a :: .int k n::r))=1:=by rcases h with rfl | rfl | rfl<;>rfl
theorem afz{w:List AV}{v:Int}{x:AV}(h0:0<=v)(h1:v<1000000)(hx:l.getD v.toNat .undef=x)(hw:w=bM (iD (kn w0 w1) x ms).keys)(g0:w0=bM (xd l ms v.toNat).keys)(g1:w1=bD (xd l ms v.toNat).boxes):w=bM (xd l ms (IntKind.wrap AI (v+1)).toNat).keys:=by
 rw[ox h0 h1,show(v+1).toNat=v.toNat+1 by omega,hw,g0,g1,gS,<-hx];rfl
theorem afy{w:List AV}{v:Int}{x:AV}(h0:0<=v)(h1:v<1000000)(hx:l.getD v.toNat .undef=x)(hw:w=bD (iD (kn w0 w1) x ms).boxes)(g0:w0=bM (xd l ms v.toNat).keys)(g1:w1=bD (xd l ms v.toNat).boxes):w=bD (xd l ms (IntKind.wrap AI (v+1)).toNat).boxes:=by
 rw[ox h0 h1,show(v+1).toNat=v.toNat+1 by omega,hw,g0,g1,gS,<-hx];rfl
theorem afA{v:Int}{x:AV}{n m:Nat}(h0:0<=v)(h1:v<1000000)(h2:v<l.length)(hx:l.getD v.toNat .undef=x)(hn:n<=m+6026*Cz x)(hm:m<=6026*jk (l.take v.toNat)):n<=6026*jk (l.take (IntKind.wrap AI (v+1)).toNat):=by
 rw[ox h0 h1,show(v+1).toNat=v.toNat+1 by omega,Em (by omega),hx,Nat.mul_add];omega
theorem YC(h:jk l<=75):6026*jk (l.take k)<=900000:=by have:=IW l k;omega
theorem abW{w:List AV}{v:Int}(hw:w=bM (xd l ms v.toNat).keys)(h0:0<=v)(h1:v<=l.length)(h2:v<=n\/v=0)(h3:n<=v\/l.length<=v):w=bM (xd l ms (min n.toNat l.length)).keys:=by
 grind
theorem abV{w:List AV}{v:Int}(hw:w=bD (xd l ms v.toNat).boxes)(h0:0<=v)(h1:v<=l.length)(h2:v<=n\/v=0)(h3:n<=v\/l.length<=v):w=bD (xd l ms (min n.toNat l.length)).boxes:=by
 grind
theorem abT:[]=bM (xd l ms (0:Int).toNat).keys:=rfl
theorem abS:[]=bD (xd l ms (0:Int).toNat).boxes:=rfl
theorem abU{n:Nat}:dz (kn [] [])<=n:=by rw[(N4 (ks:=[]) (bs:=[]) rfl rfl).2];exact Nat.zero_le _
theorem abX:cK [] []=true:=(N4 (ks:=[]) (bs:=[]) rfl rfl).1
theorem akL{x:AV}{k:Int}(hx:x = .int kd n)(h:Zv (n=k)=b):Zv (iI x=k)=b:=by subst hx;exact h
theorem ac8:∀ (m k:Nat),N-k<=m->0<=uJ p l N k->∃ j,k<=j/\j<N/\p (l.getD j .undef)=true:=by
 intro m;induction m with
 | zero=>intro k hm h;rw[B7 (by omega)] at h;omega
 | succ m ih =>
  intro k hm h;by_cases hk:k<N
  .cases hp:p (l.getD k .undef)
   .rw[Ia hk hp] at h
    grind
   all_goals grind
  all_goals grind
theorem U5:∀ (m k j:Nat),N-k<=m->k<=j->j<N->p (l.getD j .undef)=true->0<=uJ p l N k:=by
 intro m;induction m with
 | zero=>intro k j hm hk hj _;omega
 | succ m ih =>
  intro k j hm hk hj hp;cases hq:p (l.getD k .undef)
  .rw[Ia (by omega) hq]
   grind
  .rw[Ib (by omega) hq];omega
theorem Fe{l:List Int}(h:ks=bM l)(hj:j<l.length):iI (ks.getD j .undef)=l.getD j 0:=by
 subst h;simp only[bM,Zz,List.getElem?_map,Zy hj,Option.map_some,Zw];rfl
theorem NL{k:Int}(h:Al (.i AT 0 18446744073709551615) ks):(cu ks).contains k=Zv (0<=uJ (λx=>Zv (iI x=k)) ks ks.length 0):=by
 have ha:cM ks=true:=by
  unfold cM;rw[List.all_eq_true];intro x hx;exact h x hx (λx=>(match x with | .int AT _=>true | _=>false)=true) λn _ _=>rfl
 obtain⟨l,rfl⟩:=xW ha;rw[jE];cases hd:Zv (0<=uJ (λx=>Zv (iI x=k)) (bM l) (bM l).length 0)
 .rw[List.contains_eq_mem,decide_eq_false_iff_not];intro hm;obtain⟨j,hj,e⟩:=List.mem_iff_getElem.1 hm;refine absurd (U5 _ 0 j (Nat.le_refl _) (Nat.zero_le _) (by rw[dp];exact hj) ?_) (Qb5 hd);rw[Fe rfl hj,Zz,Zy hj,Zw,e];simp
 .obtain⟨j,_,h2,h3⟩:=ac8 _ 0 (Nat.le_refl _) (Qa3 hd);rw[dp] at h2;rw[Fe rfl h2,Zz,Zy h2,Zw,Qa2] at h3
  grind
theorem Sc{k v:Int}(h:Al (.i AT 0 18446744073709551615) ks)(h0:0<=v)(h1:v<ks.length)(hx:ks.getD v.toNat .undef = .int kd n)(e:n=k):true=(cu ks).contains k:=by
 rw[NL h,Qa4];refine U5 _ 0 v.toNat (Nat.le_refl _) (Nat.zero_le _) (by omega) ?_;rw[hx];exact Qa4 e
theorem Sa{k v:Int}(h:Al (.i AT 0 18446744073709551615) ks)(hi:uJ (λx=>Zv (iI x=k)) ks ks.length v.toNat=uJ (λx=>Zv (iI x=k)) ks ks.length 0)(h1:(ks.length:Int)<=v):false=(cu ks).contains k:=by
 rw[NL h,<-hi,B7 (by omega)];rfl
theorem WJ{bs:List AV}{y v b:Int}{r1 r2:Bool}{x:AV}(h0:0<=v)(h1:v<1000000)(hx:c.getD v.toNat .undef = .int AI n)(hl:l.getD n.toNat .undef=x)(hk:jt (kn ks bs) l y c v.toNat=false)(ea:cI x 17=a)(eb:cI x 18=b)(ra:r1=(cu ks).contains a)(rb:r2=(cu ks).contains b)(e1:r1=false)(e2:r2=false):jt (kn ks bs) l y c (IntKind.wrap AI (v+1)).toNat=false:=by
 subst ea eb e1 e2;rw[ox h0 h1,show(v+1).toNat=v.toNat+1 by omega];simp only[jt,hk,hx,JG,iI,hl,Bool.false_or];show((cu ks).contains _||(cu ks).contains _)=false;rw[<-ra,<-rb];rfl
theorem S3{bs:List AV}{y v b:Int}{x:AV}(h0:0<=v)(h1:v<c.length)(hx:c.getD v.toNat .undef = .int AI n)(hl:l.getD n.toNat .undef=x)(ea:cI x 17=a)(eb:cI x 18=b)(e:(cu ks).contains a=true\/(cu ks).contains b=true):true=kM (kn ks bs) l y c:=by
 subst ea eb;refine(xR (k:=v.toNat+1) (by omega) ?_).symm;simp only[jt,hx,JG,iI,hl];show(_||((cu ks).contains _||(cu ks).contains _))=true
 grind
theorem PL{bs:List AV}{y:Int}(e:(cu ks).contains y=true):true=kM (kn ks bs) l y c:=(xR (k:=0) (Nat.zero_le _) (show jt (kn ks bs) l y c 0=true from e)).symm
theorem abZ{bs:List AV}{y:Int}(e:(cu ks).contains y=false):jt (kn ks bs) l y c (0:Int).toNat=false:=e
theorem S0{bs:List AV}{y v:Int}(h0:(c.length:Int)<=v)(h1:v<=c.length)(hk:jt (kn ks bs) l y c v.toNat=false):false=kM (kn ks bs) l y c:=by
 unfold kM
 grind
theorem adO{v:Int}{p:Int}{x:AV}(h0:0<=v)(h1:v<1000000)(hx:l.getD v.toNat .undef=x)(hk:cI x 1=7)(hv:v0=kZ l ms v.toNat)(en:n=v)(ep:p=vF l v)(ec:c=gU l v)(er:r=kM (xd l ms v.toNat) l (cI x 41) c):v0++[.agg [.int AI n,.int AI p,.sl 1 c,.bool r]]=kZ l ms (IntKind.wrap AI (v+1)).toNat:=by
 subst hx en ep ec er;rw[ox h0 h1,show(n+1).toNat=n.toNat+1 by omega];simp only[kZ,hk,Qb3,Qa6,XY,hv]
 grind
theorem adN{v:Int}{x:AV}(h0:0<=v)(h1:v<1000000)(hx:l.getD v.toNat .undef=x)(hk:¬ cI x 1=7)(hv:v0=kZ l ms v.toNat):v0=kZ l ms (IntKind.wrap AI (v+1)).toNat:=by
 subst hx;rw[ox h0 h1,show(v+1).toNat=v.toNat+1 by omega];simp only[kZ,Qa5 hk,Qa7,List.append_nil,hv]
theorem adM{v:Int}(hv:v0=kZ l ms v.toNat)(h0:(l.length:Int)<=v)(h1:v<=l.length):v0=kZ l ms l.length:=by rw[hv,show v.toNat=l.length by omega]
theorem adL:[]=kZ l ms (0:Int).toNat:=rfl
theorem ad7: -1=uL p l (0:Int).toNat:=rfl
theorem VT{v:Int}(h0:0<=v)(h1:v<1000000)(hp:p (l.getD v.toNat .undef)=true):v=uL p l (IntKind.wrap AI (v+1)).toNat:=by
 rw[ox h0 h1,show(v+1).toNat=v.toNat+1 by omega,GM hp];omega
theorem VS{v w:Int}(h0:0<=v)(h1:v<1000000)(hw:w=uL p l v.toNat)(hp:p (l.getD v.toNat .undef)=false):w=uL p l (IntKind.wrap AI (v+1)).toNat:=by
 rw[ox h0 h1,show(v+1).toNat=v.toNat+1 by omega,RQ hp,hw]
theorem RP{v F:Int}(h0:0<=v)(h1:v<1000000)(hi:uL p l (v+1).toNat=F)(hp:p (l.getD v.toNat .undef)=false):uL p l (IntKind.wrap AI (v-1)+1).toNat=F:=by
 rw[AX (by omega) h1,show(v-1+1).toNat=v.toNat by omega,<-RQ hp,show v.toNat+1=(v+1).toNat by omega,hi]
theorem aaS{v:Int}(h:v=uL p l k): -1<=v:=by rw[h];exact aaU ..
theorem aaT{v w:Int}(h:v=uL p l w.toNat)(h0:0<=w)(h1:w<=i):v<i:=by have:=LP p l w.toNat;omega
theorem Yt{x y:AV}(hx:x = .agg cx)(hy:y = .agg cy)(h:(Zv (cI (.agg cx) 1=4)&&Zv (cS (.agg cx) 20=cS (.agg cy) 48))=b):As (cS y 48) x=b:=by subst hx hy;exact h
theorem afv{x:AV}{k:Int}(hx:x = .agg cx)(h:(Zv (cI (.agg cx) 1=4)&&Zv (cI (.agg cx) 17=k))=b):zg k x=b:=by subst hx;exact h
theorem Ys{x y:AV}(hx:x = .agg cx)(hy:y = .agg cy)(h:(Zv (cI (.agg cx) 1=4)&&Zv (cI (.agg cx) 17=cI (.agg cy) 19))=b):zg (cI y 19) x=b:=by subst hx hy;exact h
theorem afx{y:AV}(hx:(List.drop (((0:Nat):Int).toNat) (l.take N)).getD k .undef = .agg cx)(hk:k<N)(hy:y = .agg cy)(h:(Zv (cI (.agg cx) 1=4)&&Zv (cS (.agg cx) 20=cS (.agg cy) 48))=b):As (cS y 48) (l.getD k .undef)=b:=Yt ((GX hk).symm.trans hx) hy h
theorem afw{y:AV}(hx:(List.drop (((0:Nat):Int).toNat) (l.take N)).getD k .undef = .agg cx)(hk:k<N)(hy:y = .agg cy)(h:(Zv (cI (.agg cx) 1=4)&&Zv (cI (.agg cx) 17=cI (.agg cy) 19))=b):zg (cI y 19) (l.getD k .undef)=b:=Ys ((GX hk).symm.trans hx) hy h
theorem RB(h:¬ (0<=i/\i<l.length)):[]=gU l i:=by
 unfold gU;cases h':wK l i 7
 .rfl
 .simp only[wK,Zx,Qa2] at h';exact absurd h'.1 h
theorem RA{x:AV}(hx:l.getD i.toNat .undef=x)(h:¬ cI x 1=7):[]=gU l i:=by
 unfold gU;cases h':wK l i 7
 .rfl
 .simp only[wK,Zx,Qa2] at h';rw[hx] at h';exact absurd h'.2 h
theorem II{v:Int}{x:AV}(h0:0<=i)(h1:i<l.length)(hx:l.getD i.toNat .undef=x)(hk:cI x 1=7)(hv:v=oq l i):fQ l v++[]=gU l i:=by
 unfold gU;rw[Hb h0 h1 (by rw[hx];exact hk),Qa6,List.append_nil,hv]
theorem RE{v w:Int}{x:AV}(h0:0<=i)(h1:i<l.length)(hx:l.getD i.toNat .undef=x)(hk:cI x 1=7)(hv:v=uL (As (cS (l.getD i.toNat .undef) 48)) l w.toNat)(hw:w=i):fQ l v++[]=gU l i:=II h0 h1 hx hk (by rw[hv,hw];rfl)
theorem XH{v:Int}(h0:0<=v)(hi:uL (As (cS (l.getD i.toNat .undef) 48)) l (v+1).toNat=oq l i)(hp:As (cS (l.getD i.toNat .undef) 48) (l.getD v.toNat .undef)=true):v=oq l i:=by
 rw[<-hi,show(v+1).toNat=v.toNat+1 by omega,GM hp];omega
theorem XG{v:Int}(h0:v<0)(hi:uL (As (cS (l.getD i.toNat .undef) 48)) l (v+1).toNat=oq l i): -1=oq l i:=by
 rw[<-hi,show(v+1).toNat=0 by omega];rfl
theorem XF{m:Nat}(h:m=i.toNat)(hm:m<1000000):uL (As (cS (l.getD i.toNat .undef) 48)) l (IntKind.wrap AI ((m:Int)-1)+1).toNat=oq l i:=by
 rw[AX (by omega) (by omega),show((m:Int)-1+1).toNat=m by omega,h];rfl
theorem ab6{v:Int}(h0:0<=v)(hi:uL (zg (cI (l.getD a.toNat .undef) 19)) l (v+1).toNat=kN l a)(hp:zg (cI (l.getD a.toNat .undef) 19) (l.getD v.toNat .undef)=true):v=kN l a:=by
 rw[<-hi,show(v+1).toNat=v.toNat+1 by omega,GM hp];omega
theorem ab5{v:Int}(h0:v<0)(hi:uL (zg (cI (l.getD a.toNat .undef) 19)) l (v+1).toNat=kN l a): -1=kN l a:=by
 rw[<-hi,show(v+1).toNat=0 by omega];rfl
theorem ab3{m:Nat}{x:AV}(hx:l.getD a.toNat .undef=x)(hg:cI x 19=g)(hn:¬ g=0)(h:m=a.toNat)(hm:m<1000000):uL (zg (cI (l.getD a.toNat .undef) 19)) l (IntKind.wrap AI ((m:Int)-1)+1).toNat=kN l a:=by
 rw[AX (by omega) (by omega),show((m:Int)-1+1).toNat=m by omega,h];unfold kN
 grind
theorem Th{x:AV}(hx:l.getD a.toNat .undef=x)(hg:cI x 19=g)(hn:g=0): -1=kN l a:=by
 unfold kN;rw[hx,hg,hn];rfl
theorem ab4{v:Int}{x:AV}(hx:l.getD a.toNat .undef=x)(hg:cI x 19=g)(hv:nx=uL (zg g) l v.toNat)(h0:0<=v)(h1:v<=a)(h2:g=0->v=0)(h3:a<=v\/g=0):nx=kN l a:=by
 unfold kN;rw[hx,hg];by_cases h:g=0
 .rw[h,hv,h2 h];rfl
 all_goals grind
theorem IK{out:List AV}(h0:0<=a)(hI:fQ l a++out=F)(hn:nx=kN l a):fQ l nx++([AV.int AI a]++out)=F:=by
 rw[<-hI,u7 h0,List.append_assoc,hn]
theorem IJ{out:List AV}(h0:0<=a)(hI:fQ l a++out.reverse=F)(hn:nx=kN l a):fQ l nx++(out++[AV.int AI a]).reverse=F:=by
 rw[List.reverse_append];exact IK h0 hI hn
theorem Ab{out:List AV}(hI:fQ l a++out=F)(h:a<0):out=F:=by rw[<-hI,tp h,List.nil_append]
theorem Cp{out:List AV}{n:Nat}(h0:0<=a)(hI:fQ l a++out=gU l i)(hl:l.length<=n):out.length+1<=n:=by
 have h1:=(xB (i:=i) hl).2;rw[<-hI,u7 h0] at h1
 grind
theorem GC{out:List AV}(h0:0<=a)(hI:fQ l a++out=gU l i)(hl:l.length<=400):([AV.int AI a]++out).length<=400:=by
 have:=Cp h0 hI hl
 grind
theorem GB{out:List AV}(h0:0<=a)(hI:fQ l a++out.reverse=gU l i)(hl:l.length<=400):(out++[AV.int AI a]).length<=400:=by
 have:=Cp h0 hI hl
 grind
theorem acn{v k:Int}(h0:0<=v)(h1:v<1000000)(hk:v<k)(hs:v+k=L.length-1){x y:AV}(h:Bz L v.toNat m)(hx:m.getD k.toNat .undef=x)(hy:m.getD v.toNat .undef=y):Bz L (IntKind.wrap AI (v+1)).toNat ((m.set v.toNat x).set k.toNat y):=by
 rw[ox h0 h1,show(v+1).toNat=v.toNat+1 by omega];exact Qt h (by omega) (by omega) (by omega) hx hy
theorem W_{v k:Int}(h:Bz L v.toNat m)(h0:0<=v)(hs:v+k=L.length-1)(hk:k<=v)(hI:fQ l a++L.reverse=F)(ha:a<0):m=F:=by
 rw[Km h (by omega),<-Ab hI ha]
theorem TA{out:List AV}{v k:Int}{x:AV}(h:Bz (out++[AV.int AI a]) v.toNat m)(h0:0<=v)(hs:v+k=(out++[AV.int AI a]).length-1)(hk:k<=v)(hI:fQ l a++out.reverse=F)(ha:0<=a)(hx:l.getD a.toNat .undef=x)(hg:cI x 19=g)(hn:g=0):m=F:=by
 rw[Km h (by omega)];exact Ab (IJ ha hI (Th hx hg hn)) (by omega)
theorem RC(h:c=gU l i):Al (.i AI 0 (l.length-1)) c:=by rw[h];exact(xB (Nat.le_refl _)).1
theorem WN{id:Nat}{J:List AV->(List AV->Prop)->Prop}{μ:List AV->Nat}:eP id J μ:=⟨⟩
theorem W8:Bz L (0:Int).toNat L:=acm L
theorem O8{v:Int}{x:AV}(h0:0<=i)(h1:i<l.length)(hx:l.getD i.toNat .undef=x)(hk:cI x 1=7)(hv:v=oq l i):fQ l v++List.reverse []=gU l i:=II h0 h1 hx hk hv
theorem RD(h:c=gU l i)(hl:l.length<=400):c.length<=400:=by rw[h];exact(xB hl).2
theorem ajg{y:Int}(h:r=kM (kn w0 w1) l y c)(g0:w0=bM (xd l ms k).keys)(g1:w1=bD (xd l ms k).boxes):r=kM (xd l ms k) l y c:=by rw[h,g0,g1,gS]
theorem ad'{y v:Int}(h:r=jt (kn w0 w1) l y c v.toNat)(h0:(c.length:Int)<=v)(h1:v<=c.length)(g0:w0=bM (xd l ms k).keys)(g1:w1=bD (xd l ms k).boxes):r=kM (xd l ms k) l y c:=by
 unfold kM;rw[h,g0,g1,gS,show v.toNat=c.length by omega]
theorem aa6{k v:Int}(h:Al (.i AT 0 18446744073709551615) ks)(h0:0<=v)(h1:v<ks.length)(hx:ks.getD v.toNat .undef = .int kd n)(e:n=k):Zv (v>=0)=(cu ks).contains k:=(Qa4 h0).trans (Sc h h0 h1 hx e)
theorem aa5{k v:Int}(h:Al (.i AT 0 18446744073709551615) ks)(hi:uJ (λx=>Zv (iI x=k)) ks ks.length v.toNat=uJ (λx=>Zv (iI x=k)) ks ks.length 0)(h1:(ks.length:Int)<=v):Zv ((-1:Int)>=0)=(cu ks).contains k:=Sa h hi h1
theorem S1{bs:List AV}{y v b:Int}{x:AV}(h0:0<=v)(h1:v<1000000)(hx:c.getD v.toNat .undef = .int AI n)(hl:l.getD n.toNat .undef=x)(hk:jt (kn ks bs) l y c v.toNat=false)(ea:cI x 17=a)(eb:cI x 18=b)(e1:(cu ks).contains a=false)(e2:(cu ks).contains b=false):jt (kn ks bs) l y c (IntKind.wrap AI (v+1)).toNat=false :=
 WJ h0 h1 hx hl hk ea eb rfl rfl e1 e2
def slS(s:List AV)(p:Nat)(F:List AV->Prop):Prop:=match s.getD p .undef with
 | .sl _ l=>F l
 | _=>F []
theorem N6{bs:List AV}{x:AV}(hx:l.getD i.toNat .undef=x)(e:cI x 41=n):(cu ks).contains n=jt (kn ks bs) l (cI (l.getD i.toNat .undef) 41) c (0:Int).toNat:=by rw[hx,e];rfl
theorem WK{y v:Int}(h0:0<=v)(h1:v<1000000)(h:r=jt s l y c v.toNat)(e:r=true):true=jt s l y c (IntKind.wrap AI (v+1)).toNat:=by
 rw[ox h0 h1];exact(xR (by omega) (h.symm.trans e)).symm
theorem WL{bs:List AV}{y v:Int}{x:AV}(h0:0<=v)(h1:v<1000000)(hx:c.getD v.toNat .undef = .int AI n)(hl:l.getD n.toNat .undef=x)(ea:cI x 17=a)(e:(cu ks).contains a=true):true=jt (kn ks bs) l y c (IntKind.wrap AI (v+1)).toNat:=by
 rw[ox h0 h1,show(v+1).toNat=v.toNat+1 by omega];simp only[jt,hx,JG,iI,hl,ea];show true=(_||((cu ks).contains a||_));rw[e];simp
theorem WM{bs:List AV}{y v b:Int}{x:AV}(h0:0<=v)(h1:v<1000000)(h:r=jt (kn ks bs) l y c v.toNat)(hx:c.getD v.toNat .undef = .int AI n)(hl:l.getD n.toNat .undef=x)(ea:cI x 17=a)(eb:cI x 18=b)(er:r=false)(e:(cu ks).contains a=false):(cu ks).contains b=jt (kn ks bs) l y c (IntKind.wrap AI (v+1)).toNat:=by
 rw[ox h0 h1,show(v+1).toNat=v.toNat+1 by omega];simp only[jt,hx,JG,iI,hl,ea,eb,<-h,er];show _=(false||((cu ks).contains a||(cu ks).contains b));rw[e];rfl
theorem ajh{v:Int}{k':Nat}{x:AV}(hx:l.getD i.toNat .undef=x)(h:r=jt (kn w0 w1) l (cI (l.getD i.toNat .undef) 41) c v.toNat)(h0:(c.length:Int)<=v)(h1:v<=c.length)(g0:w0=bM (xd l ms k').keys)(g1:w1=bD (xd l ms k').boxes)(hk:k'=k):r=kM (xd l ms k) l (cI x 41) c:=by
 subst hx hk;exact ad' h h0 h1 g0 g1
theorem RI{x:AV}(h:l=[]++es):jk (l.set k x)<=jk es+1:=by rw[h];exact VO es k x
theorem RH(h:l=[]++es):jk l<=jk es+1:=by rw[h];exact Nat.le_succ _
theorem XU(n:Int):(user n).name.length<=1000:=by
 unfold user
 grind
theorem XV(n:Int):(user n).aA.length<=1000:=by
 show(aA (n / 3)).length<=1000;rw[AO];omega
end Kerb
/- Truth values. -/
namespace Go.Abs
instance {a b:Int}:Bt (!(a==b)) (a≠b) (a=b):=⟨λh=>by simpa using h,λh=>by simpa using h,λh=>by simpa using h⟩
instance {a:Bool}:Bt (!(a==a)) False True:=⟨λh=>h.elim,λh=>by simp at h,λ_=>trivial⟩
instance {a:List Int}:Bt (!(a==a)) False True:=⟨λh=>h.elim,λh=>by simp at h,λ_=>trivial⟩
end Go.Abs
/- The same, with the rules of the law. -/
namespace Go.Abs
variable {p:Prop}
theorem aat(h:p:=by first | exact Nat.le_of_ble_eq_true rfl | omega (splitDisjunctions:=false) | with_reducible rfl | with_reducible assumption | with_reducible exact(zY _).1 | with_reducible exact(zY _).2 | ((simp(disch:=omega) only[rE,List.length_append,List.length_cons,List.length_nil,List.length_take,List.length_drop,List.length_set,and_self,true_or,or_true,Qa9,Qa8]);first | done | omega (splitDisjunctions:=false) | omega) | exact TB _ _ (by omega) (by omega) | exact Rq):p:=h
theorem O1(h:p:=by((repeat clear gR);(repeat clear z0 wJ);(try dsimp only);(try refine Bt.t ?_);(repeat' (refine And.intro ?_ ?_));(all_goals (first | exact aat | ((with_reducible refine Or.inl ?_);(repeat' (refine And.intro ?_ ?_));(all_goals exact aat)) | ((with_reducible refine Or.inr ?_);(repeat' (refine And.intro ?_ ?_));(all_goals exact aat)))))):p:=h
theorem LB(h:p:=by((try (conv=>lhs;whnf));first | assumption | omega (splitDisjunctions:=false))):p:=h
theorem W4(h:p:=by( (try dsimp only);(first | (refine Kerb.akM (by with_reducible assumption) (by with_reducible assumption) ?_) | (refine Kerb.akN (by with_reducible assumption) (by omega) (by with_reducible assumption) ?_));(simp only[Kerb.Dv,Kerb.Cq,Kerb.cI,Kerb.cS,AV.cells,List.getD_cons_zero,List.getD_cons_succ]);(first | ((refine Bool.eq_false_iff.2 λSx=> ?_);(simp only[Bool.and_eq_true,Qa2] at Sx);(exact absurd (by simp[Sx]) Jw)) | ((refine Bool.eq_false_iff.2 λSx=> ?_);(simp only[Bool.and_eq_true,Qa2] at Sx);(simp[Sx] at Jw;done)) | (simp_all only[Bool.and_eq_true,Qa2,Qb0,and_self,Bool.and_self,Qb3];done) | grind))):p:=h
theorem nzS(h:p:=by((try (conv=>arg 1;lhs;whnf));first | assumption | omega (splitDisjunctions:=false) | (simpa using Jw))):p:=h
theorem SN(h:p:=by( (try dsimp only);(first | (refine Kerb.Yt (by with_reducible assumption) (by with_reducible assumption) ?_) | (refine Kerb.afx (by with_reducible assumption) (by omega) (by with_reducible assumption) ?_) | (refine Kerb.afw (by with_reducible assumption) (by omega) (by with_reducible assumption) ?_) | (refine Kerb.Ys (by with_reducible assumption) (by with_reducible assumption) ?_) | (refine Kerb.afv (by with_reducible assumption) ?_));(simp only[Kerb.cI,Kerb.cS,AV.cells,List.getD_cons_zero,List.getD_cons_succ]);(first | ((refine Bool.eq_false_iff.2 λSx=> ?_);(simp only[Bool.and_eq_true,Qa2] at Sx);(exact absurd (by simp[Sx]) Jw)) | ((refine Bool.eq_false_iff.2 λSx=> ?_);(simp only[Bool.and_eq_true,Qa2] at Sx);(simp[Sx] at Jw;done)) | (simp_all only[Bool.and_eq_true,Qa2,Qb0,and_self,Bool.and_self,Qb3];done) | grind))):p:=h
theorem afI(h:p:=by first | ((refine Kerb.ab4 (by with_reducible assumption) rfl (by assumption) ?_ ?_ (by assumption) ?_);(focus omega);(focus omega);first | (exact Or.inl (by omega)) | (exact Or.inr (by assumption))) | ((refine Kerb.Th (by with_reducible assumption) rfl ?_);first | assumption | (simpa using Jw)) | ((refine Kerb.ab5 ?_ (by with_reducible assumption));omega) | ((refine Kerb.ab6 ?_ (by with_reducible assumption) ?_);(focus omega);exact SN)):p:=h
theorem VF(h:p:=by first | ((refine Kerb.Rj rfl rfl ?_ ?_ ?_ (by assumption) rfl);(focus first | exact Or.inl (by assumption) | exact Or.inr (by assumption) | exact Or.inl (by simpa using ‹_›));all_goals first | assumption | omega) | (refine Kerb.Ri rfl rfl ?_;first | assumption | omega) | ((refine Kerb.Rh rfl rfl ?_ ?_);all_goals ((simp only[Kerb.cI,AV.cells,List.getD_cons_succ,List.getD_cons_zero]);first | omega | simp_all | grind))):p:=h
theorem abq(h:p:=by exact(Kerb.Sa (by assumption) (by assumption) (by omega)).symm):p:=h
theorem abG(h:p:=by((refine(Kerb.Sc (by assumption) ?_ ?_ (by with_reducible assumption) ?_).symm);(focus omega);(focus omega);first | assumption | exact Eq.symm (by assumption) | omega)):p:=h
theorem hkS{p:Prop}(h:p:=by(repeat clear gR);(repeat clear z0 wJ);first | (with_reducible exact Kerb.aec (by omega)) | (with_reducible exact Kerb.abX) | (with_reducible exact Kerb.XU _) | (with_reducible exact Kerb.XV _) | (with_reducible exact Kerb.RI rfl) | (with_reducible exact Kerb.RH rfl) | (with_reducible assumption) | ((with_reducible refine VG (by with_reducible assumption) ?_);(intro D hD);((repeat (first | intro _ | ((with_reducible refine bP ?_);(conv=>whnf)))));((apply hD)<;>omega)) | (with_reducible exact Kerb.WN) | (with_reducible exact Kerb.ad7) | (with_reducible exact Kerb.adL) | (with_reducible exact Kerb.W8) | (with_reducible exact Kerb.RB (by omega)) | ((with_reducible refine Kerb.RA (by with_reducible assumption) ?_);exact nzS) | ((with_reducible refine Kerb.VS ?_ ?_ (by with_reducible assumption) ?_);(focus omega);(focus omega);exact SN;done) | ((with_reducible refine Kerb.VT ?_ ?_ ?_);(focus omega);(focus omega);exact SN;done) | ((with_reducible refine Kerb.RP ?_ ?_ (by with_reducible assumption) ?_);(focus omega);(focus omega);exact SN;done) | (with_reducible exact Kerb.aaS (by with_reducible assumption)) | ((with_reducible refine Kerb.aaT (by with_reducible assumption) ?_ ?_);all_goals omega) | ((with_reducible refine Kerb.RE ?_ ?_ (by with_reducible assumption) ?_ (by with_reducible assumption) ?_);(focus omega);(focus omega);(focus exact LB);(focus omega)) | ((with_reducible refine Kerb.O8 ?_ ?_ (by with_reducible assumption) ?_ ?_);(focus omega);(focus omega);(focus exact LB);first | ((refine Kerb.XG ?_ (by with_reducible assumption));omega) | ((refine Kerb.XH ?_ (by with_reducible assumption) ?_);(focus omega);exact SN)) | ((with_reducible refine Kerb.XF ?_ ?_);all_goals ((simp only[List.length_drop,List.length_take]);omega)) | ((with_reducible refine Kerb.ab3 (by with_reducible assumption) rfl ?_ ?_ ?_);(focus exact nzS);all_goals ((simp only[List.length_drop,List.length_take]);omega)) | ((with_reducible refine Kerb.IK ?_ (by with_reducible assumption) ?_);(focus omega);exact afI) | ((with_reducible refine Kerb.IJ ?_ (by with_reducible assumption) ?_);(focus omega);exact afI) | ((with_reducible refine Kerb.GC ?_ (by with_reducible assumption) ?_);all_goals omega) | ((with_reducible refine Kerb.GB ?_ (by with_reducible assumption) ?_);all_goals omega) | ((with_reducible refine Kerb.acn ?_ ?_ ?_ ?_ (by with_reducible assumption) (by with_reducible assumption) (by with_reducible assumption));all_goals omega) | ((with_reducible refine Kerb.W_ (by with_reducible assumption) ?_ (by with_reducible assumption) ?_ (by with_reducible assumption) ?_);all_goals omega) | ((with_reducible refine Kerb.TA (by with_reducible assumption) ?_ (by with_reducible assumption) ?_ (by with_reducible assumption) ?_ (by with_reducible assumption) rfl ?_);(focus omega);(focus omega);(focus omega);first | assumption | (simpa using Jw)) | ((with_reducible refine Kerb.Ab (by with_reducible assumption) ?_);omega) | ((with_reducible refine Kerb.RC (i:=i) ?_);exact hkS) | ((with_reducible refine Kerb.RD (i:=i) ?_ ?_);(focus exact hkS);(focus omega)) | ((with_reducible refine Kerb.aa6 (by with_reducible assumption) ?_ ?_ (by with_reducible assumption) ?_);all_goals omega) | ((with_reducible refine Kerb.aa5 (by with_reducible assumption) (by with_reducible assumption) ?_);omega) | ((with_reducible refine Kerb.Sc (by with_reducible assumption) ?_ ?_ (by with_reducible assumption) ?_);all_goals omega) | ((with_reducible refine Kerb.Sa (by with_reducible assumption) (by with_reducible assumption) ?_);omega) | ((with_reducible refine Kerb.S1 ?_ ?_ (by with_reducible assumption) (by with_reducible assumption) (by with_reducible assumption) rfl rfl ?_ ?_);(focus omega);(focus omega);(focus exact abq);(focus exact abq)) | ((with_reducible refine Kerb.S3 ?_ ?_ (by with_reducible assumption) (by with_reducible assumption) rfl rfl ?_);(focus omega);(focus omega);first | ((refine Or.inl ?_);exact abG) | ((refine Or.inr ?_);exact abG)) | ((with_reducible refine Kerb.PL ?_);exact abG) | ((with_reducible refine Kerb.abZ ?_);exact abq) | ((with_reducible refine Kerb.N6 (by with_reducible assumption) ?_);exact LB) | (exact Kerb.N6 (by with_reducible assumption) rfl) | ((with_reducible refine Kerb.WK ?_ ?_ (by with_reducible assumption) (by with_reducible assumption));all_goals omega) | ((with_reducible refine Kerb.WL ?_ ?_ (by with_reducible assumption) (by with_reducible assumption) rfl ?_);(focus omega);(focus omega);assumption) | ((refine Kerb.WM ?_ ?_ (by with_reducible assumption) (by with_reducible assumption) (by with_reducible assumption) rfl rfl ?_ ?_);(focus omega);(focus omega);all_goals assumption) | ((with_reducible refine Kerb.S0 ?_ ?_ (by with_reducible assumption));all_goals omega) | ((with_reducible refine Kerb.adO ?_ ?_ (by with_reducible assumption) ?_ (by with_reducible assumption) rfl (by with_reducible assumption) (by with_reducible assumption) ?_);(focus omega);(focus omega);(focus exact LB);first | ((refine Kerb.ajh (by with_reducible assumption) (by with_reducible assumption) ?_ ?_ (by with_reducible assumption) (by with_reducible assumption) ?_);all_goals omega) | (refine Kerb.ajg (by assumption) (by with_reducible assumption) (by with_reducible assumption)) | ((refine Kerb.ad' (by assumption) ?_ ?_ (by with_reducible assumption) (by with_reducible assumption));all_goals omega)) | ((with_reducible refine Kerb.adN ?_ ?_ (by with_reducible assumption) ?_ (by with_reducible assumption));(focus omega);(focus omega);exact nzS) | ((with_reducible refine Kerb.adM (by with_reducible assumption) ?_ ?_);all_goals omega) | (with_reducible exact Kerb.abT) | (with_reducible exact Kerb.abS) | (with_reducible exact Kerb.abU) | (with_reducible exact Kerb.YC (by assumption)) | (with_reducible exact Kerb.YC (by omega)) | ((with_reducible refine Kerb.afz ?_ ?_ (by with_reducible assumption) (by with_reducible assumption) (by with_reducible assumption) (by with_reducible assumption));all_goals omega) | ((with_reducible refine Kerb.afy ?_ ?_ (by with_reducible assumption) (by with_reducible assumption) (by with_reducible assumption) (by with_reducible assumption));all_goals omega) | ((with_reducible refine Kerb.afA ?_ ?_ ?_ (by with_reducible assumption) (by with_reducible assumption) (by with_reducible assumption));all_goals omega) | ((with_reducible refine Kerb.abW (by with_reducible assumption) ?_ ?_ ?_ ?_);all_goals omega) | ((with_reducible refine Kerb.abV (by with_reducible assumption) ?_ ?_ ?_ ?_);all_goals omega) | ((with_reducible refine Kerb.adI (by with_reducible assumption) ?_);exact VF) | ((with_reducible refine Kerb.adH (by with_reducible assumption) ?_);exact VF) | ((with_reducible refine Kerb.aao ?_ ?_);(focus first | assumption | exact hp.1);exact VF) | ((with_reducible refine Kerb.aan ?_ ?_);(focus first | assumption | exact hp.1);exact VF) | (with_reducible exact Kerb.aap) | ((with_reducible refine Kerb.adJ (by with_reducible assumption) ?_);refine Kerb.aaX ?_;omega) | ((with_reducible refine Kerb.aeb (by with_reducible assumption) ?_);(conv=>arg 1;lhs;whnf);first | assumption | omega (splitDisjunctions:=false) | (simpa using Jw)) | ((with_reducible refine Kerb.ac7 ?_ ?_ ?_ (by with_reducible assumption) ?_);(focus omega);(focus omega);(focus omega);first | ((try dsimp only);(refine Kerb.akL (by with_reducible assumption) ?_);exact Qa5 (by omega)) | exact W4) | ((with_reducible refine Kerb.XR ?_ ?_);(all_goals (first | omega | (simp only[List.length_take,List.length_drop];omega)))) | ((with_reducible refine Kerb.XS ?_ ?_ ?_ (by with_reducible assumption) ?_);(focus omega);(focus omega);(focus omega);exact W4;done) | ((with_reducible refine Kerb.XT ?_ ?_ ?_ ?_);(focus omega);(focus omega);(focus omega);exact W4;done) | ((with_reducible refine Kerb.VY ?_ ?_ (by with_reducible assumption) ?_ (by with_reducible assumption) ?_);(focus omega);(focus omega);(focus exact LB);(focus omega)) | ((with_reducible refine Kerb.aaW ?_ ?_ (by with_reducible assumption) ?_ (by with_reducible assumption) ?_);(focus omega);(focus omega);(focus omega);(focus exact LB)) | ((with_reducible refine Kerb.VZ ?_ ?_ ?_ ?_ (by with_reducible assumption) (by with_reducible assumption) ?_ ?_);(focus omega);(focus omega);(focus omega);(focus omega);(focus exact LB);exact W4)):p:=h
theorem uC{p:Prop}(h:p:=by(iterate 8 (first | done | any_goals (first | ((with_reducible refine Ty ?_);(conv=>arg 5;whnf);first | (with_reducible refine MH ?_ ?_) | (with_reducible refine MI ?_)) | ((with_reducible refine Nc ?_);intro _ gR) | ((with_reducible refine Nb ?_);intro _ gR) | (with_reducible refine M2 ?_) | ((with_reducible refine M4 ?_);intro _ _ z0 wJ) | (with_reducible refine H4 (by with_unfolding_all rfl) ?_) | ((with_reducible refine D8 ?_);intro _ gR) | ((with_reducible apply AS);(focus ((conv=>lhs;whnf);try rfl));(with_reducible refine AU (by with_unfolding_all rfl) (by with_unfolding_all rfl) ?_);intro _ gR) | (with_reducible refine M3 ?_) | ((with_reducible refine M5 (by with_unfolding_all rfl) ?_);intro _ _ z0 wJ) | (with_reducible refine acX ?_) | (with_reducible refine acY ?_) | (with_reducible refine acW ?_) | (first | ((with_reducible refine gR _ _ ?_);clear gR) | ((with_reducible refine gR _ _ _ ?_);clear gR) | ((with_reducible refine z0 ?_);clear z0 wJ) | ((with_reducible refine wJ ?_);clear z0 wJ) | ((with_reducible refine gR _ ?_);clear gR)) | ((((with_reducible refine K7 ?_);(try (conv=>arg 1;whnf))));first | (first | ((with_reducible refine gR _ _ ?_);clear gR) | ((with_reducible refine gR _ _ _ ?_);clear gR) | ((with_reducible refine z0 ?_);clear z0 wJ) | ((with_reducible refine wJ ?_);clear z0 wJ) | ((with_reducible refine gR _ ?_);clear gR)) | ((with_reducible apply AS);(focus ((conv=>lhs;whnf);try rfl));(with_reducible refine AU (by with_unfolding_all rfl) (by with_unfolding_all rfl) ?_);intro _ gR) | (with_reducible refine Nd ?_) | (with_reducible refine Na (by with_unfolding_all first | assumption | omega (splitDisjunctions:=false) | (have hR:=ac' hYR (by assumption) (by assumption) (by with_unfolding_all decide);exact hR)) ?_) | (with_reducible refine M_ (by with_unfolding_all first | assumption | omega (splitDisjunctions:=false) | (have hR:=P5 V5 (by assumption) (by assumption) (by with_unfolding_all decide);exact hR) | (have hR:=P5 hN1 (by assumption) (by assumption) (by with_unfolding_all decide);exact hR)) ?_) | ((with_reducible refine M8 (λJw=> ?_) (λJw=> ?_));(all_goals (try ((simp(disch:=omega (splitDisjunctions:=false)) only[rE] at Jw);(try (exfalso;omega (splitDisjunctions:=false))))))) | ((with_reducible refine wx (AW ?_) ?_);(focus kernel_rfl)) | ((with_reducible refine wx ?_ ?_);(focus exact O1)) | ((with_reducible refine H2 ?_);first | (refine H5 (by assumption) ?_ ?_;rotate_left;(((try (conv=>whnf));intros;(try (conv=>whnf));(try intros);rename_i gR))) | (refine H9 (by assumption) ?_ ?_;rotate_left;(((try (conv=>whnf));intros;(try (conv=>whnf));(try intros);rename_i gR))) | (refine H8 (iK _) ?_ ?_;rotate_left;(((try (conv=>whnf));intros;(try (conv=>whnf));(try intros);rename_i gR))) | ((apply H0);(focus ((conv=>lhs;whnf);try rfl));first | (refine acT ?_ ?_) | (refine acV ?_ ?_) | (refine acU ?_) | ((refine HZ ?_ ?_);(focus exact O1))) | (refine yi ?_)) | ((with_reducible refine D2 ?_);first | ((with_reducible refine D3 ?_ ?_);(focus exact O1)) | (refine D1 (by assumption) ?_) | ((refine pW (by assumption) ?_ ?_);(focus exact O1);((repeat (first | intro _ | ((with_reducible refine bP ?_);(conv=>whnf)))))) | ((refine pW (vX (vY (by assumption))) ?_ ?_);(focus exact O1);((repeat (first | intro _ | ((with_reducible refine bP ?_);(conv=>whnf)))))) | (refine HY (by first | exact U3 _ | omega) ?_ ?_) | ((refine pW (e := .ag [.s 1000,.s 1000,.s 1000]) ?_ ?_ ?_);rotate_left;(focus exact O1);((repeat (first | intro _ | ((with_reducible refine bP ?_);(conv=>whnf))))))) | ((with_reducible refine D5 ?_);first | (refine D4 (by assumption) ?_) | ((refine pX (by assumption) ?_ ?_);(focus exact O1);((repeat (first | intro _ | ((with_reducible refine bP ?_);(conv=>whnf)))))) | ((refine H3 ?_ ?_ ?_ ?_);(focus first | omega | exact QM yk | exact QM (by omega) | exact tm3 (by omega) (by first | omega | exact yk))) | ((refine pX (e := .i IntKind.i64 0 1) (by(repeat (first | exact mQ | refine pw (λD h=>h _ (by decide) (by decide)) ?_));done) ?_ ?_);(focus exact O1);((repeat (first | intro _ | ((with_reducible refine bP ?_);(conv=>whnf)))))) | ((refine pX (by(repeat (first | exact mQ | refine Gr ?_));done) ?_ ?_);(focus exact O1);((repeat (first | intro _ | ((with_reducible refine bP ?_);(conv=>whnf))))))) | ((with_reducible refine D7 ?_);first | (refine D6 (by assumption) ?_) | ((refine wy (by assumption) ?_ ?_);(focus exact O1);((repeat (first | intro _ | ((with_reducible refine bP ?_);(conv=>whnf)))))) | ((refine wy (e := .s 1000) (by(repeat (first | exact mQ | refine Gs (Nat.le_of_ble_eq_true rfl) ?_));done) ?_ ?_);(focus exact O1);((repeat (first | intro _ | ((with_reducible refine bP ?_);(conv=>whnf))))))) | ((with_reducible refine H7 ?_);first | (refine H6 (by assumption) ?_) | ((refine M7 (by assumption) ?_ ?_);(focus exact O1);((repeat (first | intro _ | ((with_reducible refine bP ?_);(conv=>whnf))))))) | (exfalso;exact absurd Jw (by with_unfolding_all decide))) | ((fail_if_success (with_reducible refine K7 ?_));first | exact hkS | with_reducible assumption | ((with_reducible refine RO ?_);intro D hD;apply hD) | ((with_reducible refine TL ?_);((repeat (first | intro _ | ((with_reducible refine bP ?_);(conv=>whnf)))))) | ((with_reducible refine PX.of ?_);(try (conv=>whnf));((repeat (first | intro _ | ((with_reducible refine bP ?_);(conv=>whnf)))))) | (with_reducible refine And.intro ?_ ?_) | (apply hQ) | (with_reducible refine Kerb.Tv ?_) | (with_reducible (first | refine Ta rfl rfl ?_ ?_ | refine S' rfl rfl ?_ ?_)) | assumption | exact mQ | (refine Gq ?_ ?_) | (refine Lr ?_ ?_) | (refine vY ?_) | (refine vX ?_) | (refine pw ?_ ?_) | (intro _) | exact O1))));(all_goals (as_aux_lemma=>exact uC))):p:=h
theorem csS(h:p:=by(first | refine Cs.of ?_ | refine Cx.of ?_);((repeat (first | intro _ | ((with_reducible refine bP ?_);(conv=>whnf)))));rename_i Q hQ;(with_unfolding_all (refine dD eK rfl rfl ?_));intro _ gR;exact uC):p:=h
theorem VP(h:p:=by(first | refine Cs.of ?_ | refine Cx.of ?_);((repeat (first | intro _ | ((with_reducible refine bP ?_);(conv=>whnf)))));rename_i Q hQ;obtain⟨hp,hQ⟩:=hQ;(with_unfolding_all (refine dD eK rfl rfl ?_));intro _ gR;exact uC):p:=h
end Go.Abs
/- Walks by the engine. -/
namespace Go.Abs
def EqR{α:Type}(r x:α):Prop:=x=r
theorem EqR.of{α:Type}{r x:α}(h:x=r):EqR r x:=h
structure Hd (p:Prop):Prop where
 out:p
theorem hC{p q:Prop}(a:p)(b:Hd q):Hd (p/\q):=⟨⟨a,b.out⟩⟩
theorem hE:Hd True:=⟨trivial⟩
theorem afK{α:Type}{e:Option α}{r:α}(h:Tt e (EqR r)):e=some r:=by
 obtain⟨x,h1,h2⟩:=h;rw[h1,show x=r from h2]
theorem Le{G:iT}{k f:Nat}{fn:Func}{c:Code}{xs:List AV}{bl:List (Nat×List AV)}{hand:List Nat}{Q:AV×aO->Prop}(hc:fn.body=some c)(ha:(Nat.ble xs.length fn.ntmps&&U' 0 xs)=true)(hb:bl.map (·.1)=hand)
  (h:∀ kk:Ex->Fr->Option (AV×aO),KH kk Q (λe fr=>Tt (e.Ph (rU (G.env f k) fr.aL fn.results.toList fn.resultTypes.toList fr.st [] (G.own f) λvs st L=>oI (G.env f k) xs bl fn.params.toList st L λbs =>
   match vs with
   | [v]=>some (v,bs)
   | vs=>some (.bp vs,bs)) none) Q)->Tt (exec { G.env f k with hand:=hand } G.rts fn.ntmps c (AV×aO) (entry 0 xs bl) kk) Q):Tt (sX (G.env f k) G.rts (G.own f) fn xs bl) Q:=by
 unfold sX;rw[hb];unfold rV;rw[hc];exact US ha (h _ λ_ _ g=>g)
end Go.Abs
namespace Kerb
section
variable (b:Bytes) (n p:Int) (c:Bool)
theorem ew1:(oN b p c).val.name.length<=40:=(gK b p).1
theorem ew2:(oN b p c).val.inst.length<=40:=(gK b p).2.1
theorem ew3:(oN b p c).val.aA.length<=40:=(gK b p).2.2
theorem ew5:(gi b p c).val.length<=40:=ez b p
theorem ew6:(cq b n p c).val.length<=b.length:=iu b p n
theorem ew4:(mj b n p c).val.length<=b.length:=iu b p n
end
section
theorem akG{c:Bool}{e:Int}{v w:Bytes}(h:c=false)(h1:e=0)(h2:(v==w)=true):¬ (c=true\/e≠0\/v≠w):=by simp[h,h1,eq_of_beq h2]
end
theorem ahi{b:Bytes}{c:Bool}{p m:Int}{q:Bool}(hm:0<=m/\m<=1000):Go.IntKind.wrap AI ((bV b 1 c p q).val-m)=(bV b 1 c p q).val-m:=by
 have h:=GY b p 1 c (by omega);have h2:(bV b 1 c p q).val=(get b p 1 c).val:=rfl;exact Go.Abs.rE _ (by omega) (by omega)
theorem aoj{b:Bytes}{p m:Int}{q:Bool}(hm:0<=m/\m<=1000):Go.IntKind.wrap AI ((fV b 1 p q).val-m)=(fV b 1 p q).val-m:=by
 have h:=W1 b 1 p q (by omega);exact Go.Abs.rE _ (by omega) (by omega)
end Kerb
namespace Go.Abs
instance {l:List UInt8}:Bt (Zv ((l.length:Int)>0)) ((l.length:Int)>0) (l=[]):=⟨Qa4,Qa3,λh=>List.eq_nil_of_length_eq_zero (by have:=Qb5 h;omega)⟩
instance {l:List UInt8}:Bt (l==[]) (l=[]) ((l==[])=false):=⟨λh=>by simp[h],λh=>by simpa using h,id⟩
instance {n:Int}:Bt (Kerb.tJ n) (Kerb.tJ n=true/\1<=n/\n<=3) (Kerb.tJ n=false):=⟨And.left,λh=>⟨h,by simp[Kerb.tJ] at h;omega⟩,id⟩
instance {l:List UInt8}:Bt (Kerb.lQ l) (Kerb.lQ l=true/\l.length=4) (Kerb.lQ l=false):=⟨And.left,λh=>⟨h,by simp[Kerb.lQ] at h;rcases h with h | h<;>rw[h]<;>rfl⟩,id⟩
instance {l:List UInt8}:Bt (Kerb.fh l) (Kerb.fh l=true/\l.length=4) (Kerb.fh l=false):=⟨And.left,λh=>⟨h,by simp[Kerb.fh] at h;rcases h with h | h<;>rw[h]<;>rfl⟩,id⟩
instance {t:Kerb.dZ}:Bt (t.err==0) (t.err=0/\t.BY.name.length<=39/\t.BY.inst.length<=39/\t.BY.aA.length<=39/\t.service.length<=39/\t.inst.length<=39) (t.err≠0):=⟨λh=>by simp[h.1],λh=>by
 have h:=eq_of_beq h;have hv:t.BY.valid=true/\Kerb.validName t.service=true/\Kerb.cO t.inst=true:=by
  unfold Kerb.dZ.err at h;split at h
  .cases h
  .simp_all
 have l1:=Kerb.fZ hv.1;exact⟨h,l1.1,l1.2.1,l1.2.2,Kerb.jr hv.2.1,Kerb.il hv.2.2⟩,λh e=>by rw[e] at h;simp at h⟩
instance {s:List UInt8}:Bt (Kerb.dG s) (Kerb.dG s=true/\s.length<=39) (Kerb.dG s=false):=⟨And.left,λh=>⟨h,Kerb.iM h⟩,id⟩
end Go.Abs
/- Walks by the engine: tactics as theorems. -/
namespace Go.Abs
variable {p:Prop}
theorem aau(h:p:=by first | with_reducible assumption | exact Nat.le_of_ble_eq_true rfl | rfl | omega (splitDisjunctions:=false) | ((simp(disch:=omega (splitDisjunctions:=false)) only[tj,Kerb.gL,Kerb.jg,Kerb.rz,List.length_append,List.length_cons,List.length_nil,List.append_nil,Kerb.vr,Kerb.gN,Kerb.gM,Kerb.aP,Kerb.bu,rE]);first | done | omega (splitDisjunctions:=false)) | with_reducible exact Nat.le_trans (Kerb.gK _ _).1 (Nat.le_of_ble_eq_true rfl) | with_reducible exact Nat.le_trans (Kerb.gK _ _).2.1 (Nat.le_of_ble_eq_true rfl) | with_reducible exact Nat.le_trans (Kerb.gK _ _).2.2 (Nat.le_of_ble_eq_true rfl) | with_reducible exact Nat.le_trans (Kerb.jW _ _ _).1 (Nat.le_of_ble_eq_true rfl) | with_reducible exact Nat.le_trans (Kerb.jW _ _ _).2.1 (Nat.le_of_ble_eq_true rfl) | with_reducible exact Nat.le_trans (Kerb.jW _ _ _).2.2 (Nat.le_of_ble_eq_true rfl) | with_reducible exact Nat.le_trans (Kerb.qc _ _ _).1 (Nat.le_of_ble_eq_true rfl) | with_reducible exact Nat.le_trans (Kerb.qc _ _ _).2.1 (Nat.le_of_ble_eq_true rfl) | with_reducible exact Nat.le_trans (Kerb.qc _ _ _).2.2 (Nat.le_of_ble_eq_true rfl) | with_reducible exact Nat.le_trans (Kerb.ew1 _ _ _) (Nat.le_of_ble_eq_true rfl) | with_reducible exact Nat.le_trans (Kerb.ew2 _ _ _) (Nat.le_of_ble_eq_true rfl) | with_reducible exact Nat.le_trans (Kerb.ew3 _ _ _) (Nat.le_of_ble_eq_true rfl) | with_reducible exact Nat.le_trans (Kerb.ez _ _) (Nat.le_of_ble_eq_true rfl) | with_reducible exact Nat.le_trans (Kerb.AD _ _ _) (Nat.le_of_ble_eq_true rfl) | with_reducible exact Nat.le_trans (Kerb.iu _ _ _) (by omega) | with_reducible exact Nat.le_trans (Kerb.od _ _ _ _) (by omega) | with_reducible exact Nat.le_trans (Kerb.ew5 _ _ _) (Nat.le_of_ble_eq_true rfl) | with_reducible exact Nat.le_trans (Kerb.ew6 _ _ _ _) (by omega) | with_reducible exact Nat.le_trans (Kerb.ew4 _ _ _ _) (by omega) | with_reducible exact(Kerb.dN _).1 | with_reducible exact(Kerb.dN _).2 | with_reducible exact(Kerb.wa _ _ _).1 | with_reducible exact(Kerb.wa _ _ _).2 | with_reducible exact(Kerb.tT _ _ _).1 | with_reducible exact(Kerb.tT _ _ _).2 | with_reducible exact(zY _).1 | with_reducible exact(zY _).2 | exact EY (by assumption) | (simp(disch:=omega) only[gf,oz,rE,List.length_cons,List.length_nil];done) | grind [rE,Kerb.lg] | exact Rq):p:=h
theorem O2(h:p:=by((repeat clear gR);(repeat clear z0 wJ);(try dsimp only);(try refine Bt.t ?_);(repeat' (refine And.intro ?_ ?_));(all_goals (first | exact aau | ((with_reducible refine Or.inl ?_);(repeat' (refine And.intro ?_ ?_));(all_goals exact aau)) | ((with_reducible refine Or.inr ?_);(repeat' (refine And.intro ?_ ?_));(all_goals exact aau)))))):p:=h
theorem dlW(h:p:=by((try unfold Kerb.dU);first | (rw[Qa1];(focus rfl);first | exact Or.inl (by assumption) | exact Or.inr (Or.inl (ne_of_beq_false (by assumption))) | exact Or.inr (Or.inr (ne_of_beq_false (by assumption))) | (((try have hF:=ef.out);grind))) | (rw[Qa0];(focus rfl);first | exact Kerb.akG (by assumption) (by assumption) (by assumption) | (((try have hF:=ef.out);grind))))):p:=h
theorem lfW(h:p:=by((repeat clear gR);(repeat clear z0 wJ);(try clear h);first | rfl | ((try simp only[gf] at *);(try dsimp only);first | rfl | ((split;(focus first | rfl | (exfalso;first | (apply ‹¬ _›;assumption) | (simp_all [gf];done)));(focus first | exact dlW | (exfalso;simp_all [gf];done)))) | exact dlW | (((try have hF:=ef.out);grind))) | ((try simp(disch:=omega) only[gf,Int.toNat_zero,tj,Kerb.ahi,Kerb.aoj,rE] at *);(try dsimp only);first | rfl | ((split;(focus first | rfl | (exfalso;first | (apply ‹¬ _›;assumption) | (simp_all [gf];done)));(focus first | exact dlW | (exfalso;simp_all [gf];done)))) | exact dlW | (((try have hF:=ef.out);grind)) | ((repeat' split)<;>first | rfl | (exfalso;omega) | (simp_all;done))) | with_unfolding_all rfl)):p:=h
theorem hkW(h:p:=by(with_reducible refine EqR.of ?_);exact lfW):p:=h
theorem I'(h:p:=by(repeat' (first | ((with_reducible refine Ty ?_);(conv=>arg 5;whnf);first | (with_reducible refine MH ?_ ?_) | (with_reducible refine MI ?_)) | ((with_reducible refine Nc ?_);intro _ gR) | ((with_reducible refine Nb ?_);intro _ gR) | (with_reducible refine M2 ?_) | ((with_reducible refine M4 ?_);intro _ _ z0 wJ) | (with_reducible refine H4 (by with_unfolding_all rfl) ?_) | ((with_reducible refine D8 ?_);intro _ gR) | ((with_reducible apply AS);(focus ((conv=>lhs;whnf);try rfl));(with_reducible refine AU (by with_unfolding_all rfl) (by with_unfolding_all rfl) ?_);intro _ gR) | (with_reducible refine M3 ?_) | ((with_reducible refine M5 (by with_unfolding_all rfl) ?_);intro _ _ z0 wJ) | (with_reducible refine acX ?_) | (with_reducible refine acY ?_) | (with_reducible refine acW ?_) | (first | ((with_reducible refine gR _ _ ?_);clear gR) | ((with_reducible refine gR _ _ _ ?_);clear gR) | ((with_reducible refine z0 ?_);clear z0 wJ) | ((with_reducible refine wJ ?_);clear z0 wJ) | ((with_reducible refine gR _ ?_);clear gR)) | ((((with_reducible refine K7 ?_);(try (conv=>arg 1;whnf))));first | (first | ((with_reducible refine gR _ _ ?_);clear gR) | ((with_reducible refine gR _ _ _ ?_);clear gR) | ((with_reducible refine z0 ?_);clear z0 wJ) | ((with_reducible refine wJ ?_);clear z0 wJ) | ((with_reducible refine gR _ ?_);clear gR)) | ((with_reducible apply AS);(focus ((conv=>lhs;whnf);try rfl));(with_reducible refine AU (by with_unfolding_all rfl) (by with_unfolding_all rfl) ?_);intro _ gR) | (with_reducible refine Nd ?_) | (with_reducible refine Na (by with_unfolding_all first | assumption | omega (splitDisjunctions:=false) | (have hR:=ac' hYR (by assumption) (by assumption) (by with_unfolding_all decide);exact hR)) ?_) | (with_reducible refine M_ (by with_unfolding_all first | assumption | omega (splitDisjunctions:=false) | (have hR:=P5 V5 (by assumption) (by assumption) (by with_unfolding_all decide);exact hR) | (have hR:=P5 hN1 (by assumption) (by assumption) (by with_unfolding_all decide);exact hR)) ?_) | ((with_reducible refine M8 (λJw=> ?_) (λJw=> ?_));(all_goals (try ((simp(disch:=omega (splitDisjunctions:=false)) only[rE] at Jw);(try (exfalso;omega (splitDisjunctions:=false))))))) | ((with_reducible refine wx (AW ?_) ?_);(focus kernel_rfl)) | ((with_reducible refine wx ?_ ?_);(focus exact O2)) | ((with_reducible refine H2 ?_);first | (refine H5 (by assumption) ?_ ?_;rotate_left;(((try (conv=>whnf));intros;(try (conv=>whnf));(try intros);rename_i gR))) | (refine H9 (by assumption) ?_ ?_;rotate_left;(((try (conv=>whnf));intros;(try (conv=>whnf));(try intros);rename_i gR))) | (refine H8 (iK _) ?_ ?_;rotate_left;(((try (conv=>whnf));intros;(try (conv=>whnf));(try intros);rename_i gR))) | ((apply H0);(focus ((conv=>lhs;whnf);try rfl));first | (refine acT ?_ ?_) | (refine acV ?_ ?_) | (refine acU ?_) | ((refine HZ ?_ ?_);(focus exact O2))) | (refine yi ?_)) | ((with_reducible refine D2 ?_);first | ((with_reducible refine D3 ?_ ?_);(focus exact O2)) | (refine D1 (by assumption) ?_) | ((refine pW (by assumption) ?_ ?_);(focus exact O2);((repeat (first | intro _ | ((with_reducible refine bP ?_);(conv=>whnf)))))) | ((refine pW (vX (vY (by assumption))) ?_ ?_);(focus exact O2);((repeat (first | intro _ | ((with_reducible refine bP ?_);(conv=>whnf)))))) | (refine HY (by first | exact U3 _ | omega) ?_ ?_) | ((refine pW (e := .ag [.s 1000,.s 1000,.s 1000]) ?_ ?_ ?_);rotate_left;(focus exact O2);((repeat (first | intro _ | ((with_reducible refine bP ?_);(conv=>whnf))))))) | ((with_reducible refine D5 ?_);first | (refine D4 (by assumption) ?_) | ((refine pX (by assumption) ?_ ?_);(focus exact O2);((repeat (first | intro _ | ((with_reducible refine bP ?_);(conv=>whnf)))))) | ((refine H3 ?_ ?_ ?_ ?_);(focus first | omega | exact QM yk | exact QM (by omega) | exact tm3 (by omega) (by first | omega | exact yk))) | ((refine pX (e := .i IntKind.i64 0 1) (by(repeat (first | exact mQ | refine pw (λD h=>h _ (by decide) (by decide)) ?_));done) ?_ ?_);(focus exact O2);((repeat (first | intro _ | ((with_reducible refine bP ?_);(conv=>whnf)))))) | ((refine pX (by(repeat (first | exact mQ | refine Gr ?_));done) ?_ ?_);(focus exact O2);((repeat (first | intro _ | ((with_reducible refine bP ?_);(conv=>whnf))))))) | ((with_reducible refine D7 ?_);first | (refine D6 (by assumption) ?_) | ((refine wy (by assumption) ?_ ?_);(focus exact O2);((repeat (first | intro _ | ((with_reducible refine bP ?_);(conv=>whnf)))))) | ((refine wy (e := .s 1000) (by(repeat (first | exact mQ | refine Gs (Nat.le_of_ble_eq_true rfl) ?_));done) ?_ ?_);(focus exact O2);((repeat (first | intro _ | ((with_reducible refine bP ?_);(conv=>whnf))))))) | ((with_reducible refine H7 ?_);first | (refine H6 (by assumption) ?_) | ((refine M7 (by assumption) ?_ ?_);(focus exact O2);((repeat (first | intro _ | ((with_reducible refine bP ?_);(conv=>whnf)))))))) | ((fail_if_success (with_reducible refine K7 ?_));first | exact hkW | with_reducible assumption | ((with_reducible refine RO ?_);intro D hD;apply hD) | ((with_reducible refine TL ?_);((repeat (first | intro _ | ((with_reducible refine bP ?_);(conv=>whnf)))))) | ((with_reducible refine PX.of ?_);(try (conv=>whnf));((repeat (first | intro _ | ((with_reducible refine bP ?_);(conv=>whnf)))))) | (with_reducible refine And.intro ?_ ?_) | (apply hQ) | (with_reducible refine Kerb.Tv ?_) | (with_reducible (first | refine Ta rfl rfl ?_ ?_ | refine S' rfl rfl ?_ ?_)) | assumption | exact mQ | (refine Gq ?_ ?_) | (refine Lr ?_ ?_) | (refine vY ?_) | (refine vX ?_) | (refine pw ?_ ?_) | (intro _) | exact O2)))):p:=h
end Go.Abs
