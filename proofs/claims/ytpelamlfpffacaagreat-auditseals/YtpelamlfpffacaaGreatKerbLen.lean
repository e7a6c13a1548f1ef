/- Chapter 27: the statements' messages. -/
import Derived.Test.YtpelamlfpffacaaGreatAbsTot
set_option linter.all false
open Bool renaming false→Zz,true→Zx
open Decidable renaming decide→Zy
namespace Kerb
open Go Go.Abs
structure Uj where
 kd:UInt8
 bx:UInt8
 se:UInt8
 inn:UInt8
 de:UInt8
 li:Bool
 hw:Int
theorem ri(r:Ae):(fz r).val.length<=400:=by
 by_cases h:(fz r).err=0
 ·obtain⟨h1,h2,_,_,_,_,z,hz,hl⟩:=zI h;have l1:=dN h1;have l2:=dN h2;rw[hz];simp[aw,ay];omega
 ·unfold fz at h ⊢;repeat' split
  all_goals first | simp | skip
  all_goals exfalso;simp_all
theorem pJ(r:rM):(eK r).val.length<=600:=by
 by_cases h:(eK r).err=0
 ·obtain⟨_,h2,_,_,_,z,hz,hl⟩:=xH h;have l2:=dN h2;rw[hz];simp[aw,ay];omega
 ·unfold eK at h ⊢;repeat' split
  all_goals first | simp | skip
  all_goals exfalso;simp_all
theorem rh(r:Ad):(eY r).val.length<=2000:=by
 by_cases h:(eY r).err=0
 ·obtain⟨_,h2,h3,hz⟩:=zH h;have l2:=dN h2;have hh:(header 10 Zz).length=2:=rfl;rw[hz];simp only[List.length_append,List.length_cons,List.length_nil,aw,hh];omega
 ·unfold eY at h ⊢;repeat' split
  all_goals first | simp | skip
  all_goals exfalso;simp_all
end Kerb
namespace Kerb
open Go Go.Abs
end Kerb
/- Chapter 27: sequences of messages and leaked keys. -/
namespace Kerb
open Go Go.Abs
end Kerb
/- Chapter 27: the statements about sequences of messages, in plain words. -/
namespace Kerb
open Go Go.Abs
theorem DO(s:Kn):fb (close s)<=fb s :=
 (vK (P:=fun t=>fb t<=fb s) (fun t b h gb go=>Nat.le_trans (Nat.le_of_lt (qK gb go)) h) s (Nat.le_refl _)).1
theorem D7(s:Kn)(b:Bytes):fb (learn s b)<=fb s+2*b.length+2026:=by
 have h1:=DO (s.add ⟨[],partsOf b⟩);have hp:=mE b;have h2:=E1 s ⟨[],partsOf b⟩ (m:=b.length+1012) hp.1;have h3:(partsOf b).length*(b.length+1012+1)<=2*(b.length+1012+1):=Nat.mul_le_mul_right _ hp.2;unfold learn;simp only[List.length_nil] at h2;omega
theorem QF(s:Kn)(k:Int):fb (leak s k)<=fb s+1:=by
 have h1:=DO (s.add ⟨jj [k],[]⟩);have hp:=pd k;have h2:=E1 s ⟨jj [k],[]⟩ (m:=0) (by simp);unfold leak;simp only[List.length_nil] at h2;omega
structure Fit (s:Kn) (n:Nat):Prop where
 Bs:fU s
 fb:fb s<=n
theorem Fit.learn{s:Kn}{n:Nat}(h:Fit s n){b:Bytes}(hb:b.length<=6001)(hn:n<=900000):Fit (learn s b) (n+14028):=by
 have h1:=D7 s b;have h2:=h.fb;exact⟨(h.Bs.parts (by omega)).close,by omega⟩
theorem Fit.leak{s:Kn}{n:Nat}(h:Fit s n){k:Int}(hn:n<=900000):Fit (leak s k) (n+1):=by
 have h1:=QF s k;have h2:=h.fb;exact⟨(h.Bs.QG (by omega)).close,by omega⟩
theorem turned{p:Nat->Prop}{N:Nat}(n:Nat):(∃ i,i<N/\p ((i+n) % N))↔∃ i,i<N/\p i:=by
 constructor
 ·rintro⟨i,hi,hp⟩;exact⟨(i+n) % N,Nat.mod_lt _ (by omega),hp⟩
 ·rintro⟨i,hi,hp⟩;refine⟨(i+(N-n % N)) % N,Nat.mod_lt _ (by omega),?_⟩;have gO:n % N<N:=Nat.mod_lt _ (by omega);have:((i+(N-n % N)) % N+n) % N=i:=by
   rw[Nat.add_mod,Nat.mod_mod,<-Nat.add_mod];have e:i+(N-n % N)+n=i+N*(n / N+1):=by
    have:=Nat.div_add_mod n N;rw[Nat.mul_add,Nat.mul_one];omega
   rw[e,Nat.add_mul_mod_self_left,Nat.mod_eq_of_lt hi]
  rw[this];exact hp
def Uj.av(t:Uj):AV := .agg [.u8 t.kd,.u8 t.bx,.u8 t.se,.u8 t.inn,.u8 t.de,.bool t.li,.int .u16 t.hw]
theorem Fit.kn{s:Kn}{n:Nat}(h:Fit s n):eo (dl s.keys) (dG s.boxes)=Zx:=x4.2 h.Bs
theorem Fit.pre{s:Kn}{n:Nat}(h:Fit s n)(hn:n<=900000){b:Bytes}(hb:b.length<=6001):Zy (Kerb.fb s+2*b.length+2100<=1000000)=Zx:=by
 exact Qa4 (by have:=h.fb;omega)
theorem Fit.XX{s:Kn}{n:Nat}(h:Fit s n)(hn:n<=900000):Zy (Kerb.fb s+1<=1000000)=Zx:=by
 exact Qa4 (by have:=h.fb;omega)
theorem Fit.kl{s:Kn}{n:Nat}(h:Fit s n)(hn:n<=900000):s.keys.length<=900000:=by have:=h.fb;unfold Kerb.fb at this;omega
theorem Fit.bl{s:Kn}{n:Nat}(h:Fit s n)(hn:n<=900000):s.boxes.length<=900000:=by have:=h.fb;unfold Kerb.fb at this;omega
end Kerb
namespace Kerb
end Kerb
namespace Kerb
open Go Go.Abs
theorem Fit.lb{s:Kn}{n:Nat}(h:Fit s n)(hn:n<=900000):Zy ((dG s.boxes).length<=1000000000)=Zx:=by rw[gq];exact Qa4 (by have:=h.bl hn;omega)
end Kerb
/- What becomes known stays in bounds (for worlds). -/
namespace Kerb
open Go Go.Abs
theorem CY{k:Int}(h:bW k=Zx):0<=k/\k<=18446744073709551615:=by
 simp only[bW,ku,lT,jc,lu,Bool.and_eq_true,Bool.or_eq_true,Qa2,Qb1] at h;omega
theorem Dl(x:Y3):∀ k∈(jv x).keys,bW k=Zx:=by
 intro k hk;have hv:∀ l:List Int,k∈jj l->bW k=Zx:=fun l h=>(List.mem_filter.1 h).2;unfold jv y0 at hk
 grind
def Pp(s:Kn):Prop:=(∀ k∈s.keys,0<=k/\k<=18446744073709551615)/\∀ b∈s.boxes,b.length<=1000000
theorem JK{s:Kn}{x:Ax}(h:Pp s)(h1:∀ k∈x.keys,0<=k/\k<=18446744073709551615)(h2:∀ b∈x.boxes,b.length<=1000000):Pp (s.add x) :=
 ⟨fun k hk=>(jy.1 hk).elim (h.1 k) (h1 k),fun b hb=>(iq.1 hb).elim (h.2 b) (h2 b)⟩
theorem GL{s:Kn}(h:Pp s):Pp (close s) :=
 (vK (P:=Pp) (fun _ _ g gb _=>JK g (fun k hk=>CY (Dl _ k hk)) (fun _ hb=>Nat.le_trans (Nat.le_trans (Nat.le_add_right _ 12) (qc hb)) (g.2 _ gb))) s h).1
theorem Pq{s:Kn}{b:Bytes}(h:Pp s)(hb:b.length<=2000):Pp (learn s b) :=
 GL (JK h (fun _ hk=>nomatch hk) fun x hx=>by have:=(mE b).1 x hx;omega)
theorem S1{s:Kn}{k:Int}(h:Pp s):Pp (leak s k) :=
 GL (JK h (fun y hy=>CY (List.mem_filter.1 hy).2) fun _ hx=>nomatch hx)
theorem Pb{l:List Int}(h:∀ k∈l,0<=k/\k<=18446744073709551615):Al (.i .u64 0 18446744073709551615) (dl l):=fun x hx D hD=>by
 obtain⟨k,hk,rfl⟩:=List.mem_map.1 hx;exact hD k (h k hk).1 (h k hk).2
theorem VR{l:List Bytes}(h:∀ b∈l,b.length<=1000000):Al (.y 1000000) (dG l):=fun x hx D hD=>by
 obtain⟨b,hb,rfl⟩:=List.mem_map.1 hx;exact hD b (h b hb)
theorem Sv{l:List Int}(h:Al (.i .u64 0 18446744073709551615) (dl l)):∀ k∈l,0<=k/\k<=18446744073709551615:=fun k hk =>
 h (.int .u64 k) (List.mem_map.2 ⟨k,hk,rfl⟩) (fun x=>∀ n,x = .int .u64 n->0<=n/\n<=18446744073709551615) (fun n h1 h2 m e=>by injection e with _ e;subst e;exact⟨h1,h2⟩) k rfl
theorem YZ{l:List Bytes}(h:Al (.y 1000000) (dG l)):∀ b∈l,b.length<=1000000:=fun b hb =>
 h (.bs b) (List.mem_map.2 ⟨b,hb,rfl⟩) (fun x=>∀ n,x = .bs n->n.length<=1000000) (fun n h1 m e=>by injection e with e;subst e;exact h1) b rfl
def Wk(N:Nat)(ks bs:List AV):Prop:=eo ks bs=Zx/\fb (kn ks bs)<=N
theorem VG{s:Kn}{N:Nat}(h:Fit s N)(hN:N<=1000000)(g:Pp s):Wk N (dl s.keys) (dG s.boxes)/\((dl s.keys).length<=1000000/\Al (.i .u64 0 18446744073709551615) (dl s.keys))/\(dG s.boxes).length<=1000000/\Al (.y 1000000) (dG s.boxes) :=
 ⟨⟨x4.2 h.Bs,by rw[nk];exact h.fb⟩,⟨by rw[fR];exact h.Bs.L7,Pb g.1⟩,by rw[gq];exact h.Bs.E8,VR g.2⟩
theorem VF{N:Nat}{ks bs:List AV}(h:Wk N ks bs)(h1:Al (.i .u64 0 18446744073709551615) ks)(h2:Al (.y 1000000) bs):∃ s:Kn,ks=dl s.keys/\bs=dG s.boxes/\Fit s N/\Pp s:=by
 obtain⟨s,rfl,rfl,hf⟩:=B8 h.1;refine⟨s,rfl,rfl,⟨hf,?_⟩,Sv h1,YZ h2⟩;have:=h.2
 rwa [nk] at this
theorem M9{s:Kn}{n:Nat}(h:Fit s n){b:Bytes}(hb:b.length<=2000)(hn:n<=900000):Fit (learn s b) (n+6026):=by
 have h1:=D7 s b;have h2:=h.fb;exact⟨(h.Bs.parts (by omega)).close,by omega⟩
theorem L9{ks bs:List AV}(h:ks.length=0)(k:bs.length=0):eo ks bs=Zx/\fb (kn ks bs)=0:=by
 cases ks with
 | cons _ _=>simp at h
 | nil=>cases bs with
  | cons _ _=>simp at k
  | nil=>exact⟨rfl,rfl⟩
end Kerb
namespace Kerb
open Go Go.Abs
theorem Ty(k:Int):∀ l:List Int,(jO l k).length<=l.length+1:=by
 intro l;induction l with
 | nil=>simp[jO]
 | cons x l ih=>grind [jO]
theorem Uk{ks:List AV}{k:Int}(h:Al (.i .u64 0 18446744073709551615) ks)(h0:0<=k)(h1:k<=18446744073709551615)(hl:ks.length<=1000000) :
  (da ks&&Zy (ks.length<=1000000000))=Zx/\(dl (jO (cO ks) k)).length<=ks.length+1/\Al (.i .u64 0 18446744073709551615) (dl (jO (cO ks) k)):=by
 have ha:da ks=Zx:=by
  unfold da;rw[List.all_eq_true];intro x hx;exact h x hx (fun x=>(match x with | .int .u64 _=>Zx | _=>Zz)=Zx) fun n _ _=>rfl
 obtain⟨l,rfl⟩:=vj ha;rw[f_];refine⟨by rw[ha,Qa4 (by omega)];rfl,?_,Pb fun y hy=> ?_⟩
 ·rw[fR,fR];exact Ty k l
 ·rcases u9.1 hy with rfl | hy
  ·exact⟨h0,h1⟩
  ·exact Sv h y hy
end Kerb
namespace Kerb
open Go Go.Abs
def LI:AV->Nat
 | .agg (_ :: .int _ k::_)=>bif k==1||k==2||k==9 then 1 else 0
 | _=>0
def lS:List AV->Nat
 | []=>0
 | x::l=>LI x+lS l
theorem Fb:lS []=0:=rfl
theorem rS(x:AV)(l:List AV):lS (x::l)=LI x+lS l:=rfl
theorem Ly(l m:List AV):lS (l++m)=lS l+lS m:=by
 induction l with
 | nil=>rw[List.nil_append,Fb];omega
 | cons x l ih=>rw[List.cons_append,rS,rS,ih];omega
theorem Py{l:List AV}{n:Nat}(h:lS l<=n):lS l<=n:=h
theorem Um{l:List AV}(h:l.length=0):((lS l:Nat):Int)<=0:=by
 cases l with
 | nil=>exact Int.le_refl 0
 | cons _ _=>simp at h
section
variable (a:AV) (k:IntKind) (r:List AV)
theorem Uq:LI (.agg (a :: .int k 1::r))=1:=rfl
theorem Ur:LI (.agg (a :: .int k 2::r))=1:=rfl
theorem Us:LI (.agg (a :: .int k 3::r))=0:=rfl
theorem Ut:LI (.agg (a :: .int k 4::r))=0:=rfl
theorem Uu:LI (.agg (a :: .int k 5::r))=0:=rfl
theorem Uv:LI (.agg (a :: .int k 6::r))=0:=rfl
theorem Uw:LI (.agg (a :: .int k 7::r))=0:=rfl
theorem Ux:LI (.agg (a :: .int k 8::r))=0:=rfl
theorem Uy:LI (.agg (a :: .int k 9::r))=1:=rfl
end
end Kerb
namespace Kerb
def r64(b k:Int):Prop:=k=5 -> -9223372036854775808<=b/\b<=9223372036854775807
theorem jn{b k:Int}(h:r64 b k)(e:k=5) : -9223372036854775808<=b/\b<=9223372036854775807:=h e
theorem U7{b k:Int}(h:k=5 -> -9223372036854775808<=b/\b<=9223372036854775807):r64 b k:=h
end Kerb
/- Chapter 30: what an audit says, of events as lists of cells. -/
namespace Kerb
open Go Go.Abs
def cI(x:AV)(j:Nat):Int:=match x.cells.getD j .undef with
 | .int _ n=>n
 | _=>0
def cS(x:AV)(j:Nat):Bytes:=match x.cells.getD j .undef with
 | .str s=>s
 | .bs s=>s
 | _=>[]
def upG(p:AV->Bool)(l:List AV):Nat->Nat->Int
 | 0,_ => -1
 | m+1,k=>bif p (l.getD k .undef) then k else upG p l m (k+1)
def yE(p:AV->Bool)(l:List AV)(n k:Nat):Int:=upG p l (n-k) k
def dnF(p:AV->Bool)(l:List AV):Nat->Int
 | 0 => -1
 | k+1=>bif p (l.getD k .undef) then k else dnF p l k
theorem MK{p:AV->Bool}{l:List AV}{n k:Nat}(h:n<=k):yE p l n k = -1:=by
 unfold yE;rw[Nat.sub_eq_zero_of_le h];rfl
theorem ML{p:AV->Bool}{l:List AV}{n k:Nat}(h:k<n)(hp:p (l.getD k .undef)=Zx):yE p l n k=k:=by
 unfold yE;obtain⟨m,hm⟩:∃ m,n-k=m+1:=⟨n-k-1,by omega⟩;rw[hm];simp only[upG,hp,Qa6]
theorem Ld{p:AV->Bool}{l:List AV}{n k:Nat}(h:k<n)(hp:p (l.getD k .undef)=Zz):yE p l n k=yE p l n (k+1):=by
 unfold yE;obtain⟨m,hm⟩:∃ m,n-k=m+1:=⟨n-k-1,by omega⟩;rw[hm,show n-(k+1)=m by omega];simp only[upG,hp,Qa7]
theorem getD_take{l:List AV}{n k:Nat}(h:k<n):(l.take n).getD k .undef=l.getD k .undef:=by
 simp only[List.getD_eq_getElem?_getD,List.getElem?_take_of_lt h]
def QZ(x y:AV):Bool:=Zy (cI x 1=6)&&(Zy (cS x 2=cS y 38)&&Zy (cS x 3=cS y 39)&&Zy (cS x 4=cS y 40))&&Zy (cI x 26=cI y 41)&&Gd (cS x 30) (cS y 48)&&Zy (cI x 34=cI y 43)&&Zy (cI x 36=cI y 44)&&Zy (cI x 35=cI y 45)
def Un(x y:AV):Bool:=Zy (cI x 1=7)&&(Zy (cS x 2=cS y 38)&&Zy (cS x 3=cS y 39)&&Zy (cS x 4=cS y 40))&&(Zy (cS x 38=cS y 2)&&Zy (cS x 39=cS y 3)&&Zy (cS x 40=cS y 4))&&Zy (cI x 41=cI y 41)&&Zy (cI x 43=cI y 43)&&Zy (cI x 44=cI y 44)&&Zy (cI x 45=cI y 45)
def abR(t:Bytes)(x:AV):Bool:=Zy (cI x 1=4)&&Zy (cS x 20=t)
def abQ(k:Int)(x:AV):Bool:=Zy (cI x 1=4)&&Zy (cI x 17=k)
def abN(l:List AV)(i k:Int):Bool:=Zy (0<=i)&&Zy (i<l.length)&&Zy (cI (l.getD i.toNat .undef) 1=k)
def evF(k:Int)(P:AV->AV->Bool)(l:List AV)(i:Int):Int:=bif abN l i k then yE (fun x=>P x (l.getD i.toNat .undef)) l i.toNat 0 else -1
abbrev Q0(l:List AV)(i:Int):Int:=evF 7 QZ l i
theorem Y2{v:Int}(h0:0<=v)(h1:v<1000000):IntKind.wrap .i64 (v+1)=v+1:=wrap_i64 (by omega) (by omega)
theorem Lf{v:Int}(h0 : -1<=v)(h1:v<1000000):IntKind.wrap .i64 (v-1)=v-1:=wrap_i64 (by omega) (by omega)
theorem SC{p:AV->Bool}{l:List AV}{N:Nat}{F v:Int}(h0:0<=v)(h1:v<1000000)(h2:v<N)(hi:yE p l N v.toNat=F)(hp:p (l.getD v.toNat .undef)=Zz):yE p l N (IntKind.wrap .i64 (v+1)).toNat=F:=by
 rw[Y2 h0 h1,show(v+1).toNat=v.toNat+1 by omega,<-Ld (by omega) hp,hi]
theorem MJ{p:AV->Bool}{l:List AV}{N:Nat}{v:Int}(h0:0<=v)(h1:v<1000000)(h2:v<N)(hp:p (l.getD v.toNat .undef)=Zx):v=yE p l N (IntKind.wrap .i64 (v-1)+1).toNat:=by
 rw[Lf (by omega) h1,show(v-1+1).toNat=v.toNat by omega,ML (by omega) hp];omega
theorem MI{p:AV->Bool}{l:List AV}{N:Nat}{v w:Int}(h0:0<=v)(h1:v<1000000)(h2:v<N)(hi:w=yE p l N (v+1).toNat)(hp:p (l.getD v.toNat .undef)=Zz):w=yE p l N (IntKind.wrap .i64 (v-1)+1).toNat:=by
 rw[Lf (by omega) h1,show(v-1+1).toNat=v.toNat by omega,Ld (by omega) hp,hi,show(v+1).toNat=v.toNat+1 by omega]
theorem MH{p:AV->Bool}{l:List AV}{N m:Nat}(h:N<=m)(hm:m<1000000) : -1=yE p l N (IntKind.wrap .i64 ((m:Int)-1)+1).toNat:=by
 rw[Lf (by omega) (by omega),show((m:Int)-1+1).toNat=m by omega,MK h]
theorem agA{P:AV->AV->Bool}{b:Bool}{x y:AV}{cx cy:List AV}(hx:x = .agg cx)(hy:y = .agg cy)(h:P (.agg cx) (.agg cy)=b):P x y=b:=by subst hx hy;exact h
theorem LK{l:List AV}{N k:Nat}(h:k<N):(List.drop (((0:Nat):Int).toNat) (l.take N)).getD k .undef=l.getD k .undef:=by
 rw[show(((0:Nat):Int).toNat)=0 from rfl,List.drop_zero];exact getD_take h
theorem agB{P:AV->AV->Bool}{b:Bool}{l:List AV}{N k:Nat}{y:AV}{cx cy:List AV}(hx:(List.drop (((0:Nat):Int).toNat) (l.take N)).getD k .undef = .agg cx)(hk:k<N)(hy:y = .agg cy)(h:P (.agg cx) (.agg cy)=b):P (l.getD k .undef) y=b:=by rw[<-LK hk,hx,hy];exact h
def UY(l:List AV)(i:Int):Int:=bif cI (l.getD i.toNat .undef) 19==0 then -1 else dnF (abQ (cI (l.getD i.toNat .undef) 19)) l i.toNat
def Lv(l:List AV):Nat->Int->List AV
 | 0,_=>[]
 | n+1,i=>bif Zy (0<=i) then Lv l n (UY l i)++[.int .i64 i] else[]
def Pv(l:List AV)(i:Int):List AV:=Lv l (i+1).toNat i
def R3(l:List AV)(i:Int):Int:=dnF (abR (cS (l.getD i.toNat .undef) 48)) l i.toNat
def JN(l:List AV)(i:Int):List AV:=bif abN l i 7 then Pv l (R3 l i) else[]
def aeB(L:List AV)(k:Nat)(m:List AV):Prop:=m.length=L.length/\∀ j,j<L.length->m.getD j .undef=bif Zy (j<k)||decide (L.length-k<=j) then L.getD (L.length-1-j) .undef else L.getD j .undef
def O_(s:Kn)(x:AV)(wz:List AV):Kn :=
 bif (Zy (cI x 1=1)||decide (cI x 1=2))&&Zy (0<=cI x 6)&&Zy (cI x 6<wz.length) then learn s (cS (wz.getD (cI x 6).toNat .undef) 2)
 else bif Zy (cI x 1=9) then leak s (cI x 50) else s
def knN(l wz:List AV):Nat->Kn
 | 0=>⟨[],[]⟩
 | k+1=>O_ (knN l wz k) (l.getD k .undef) wz
def iI:AV->Int
 | .int _ n=>n
 | _=>0
def abY(s:Kn)(l:List AV)(j:AV):Bool:=s.keys.contains (cI (l.getD (iI j).toNat .undef) 17)||s.keys.contains (cI (l.getD (iI j).toNat .undef) 18)
def QE(s:Kn)(l:List AV)(y:Int)(c:List AV):Nat->Bool
 | 0=>s.keys.contains y
 | k+1=>QE s l y c k||abY s l (c.getD k .undef)
def L_(s:Kn)(l:List AV)(y:Int)(c:List AV):Bool:=QE s l y c c.length
def adI(l wz:List AV)(i:Nat):AV := .agg [.int .i64 i,.int .i64 (Q0 l i),.sl 1 (JN l i),.bool (L_ (knN l wz i) l (cI (l.getD i .undef) 41) (JN l i))]
def Pj(l wz:List AV):Nat->List AV
 | 0=>[]
 | k+1=>Pj l wz k++bif Zy (cI (l.getD k .undef) 1=7) then[adI l wz k] else[]
theorem Wt(x:AV):LI x<=1:=by
 unfold LI;split
 ·rename_i k _;cases (k==1||k==2||k==9)<;>simp
 ·omega
theorem S4:∀ (l:List AV) (k:Nat) (x:AV),lS (l.set k x)<=lS l+1:=by
 intro l;induction l with
 | nil=>intro k x;exact Nat.zero_le _
 | cons y l ih =>
  intro k x;cases k with
  | zero=>have:=Wt x;simp only[List.set_cons_zero,rS];omega
  | succ k=>have:=ih k x;simp only[List.set_cons_succ,rS];omega
theorem agz{x:AV}{k n:Int}{kd:IntKind}{b:Bool}(hx:x = .int kd n)(h:Zy (n=k)=b):Zy (iI x=k)=b:=by subst hx;exact h
theorem Y0{p:AV->Bool}{l:List AV}{N:Nat}:∀ (m k j:Nat),N-k<=m->k<=j->j<N->p (l.getD j .undef)=Zx->0<=yE p l N k:=by
 intro m;induction m with
 | zero=>intro k j hm hk hj _;omega
 | succ m ih =>
  intro k j hm hk hj hp;cases hq:p (l.getD k .undef)
  ·rw[Ld (by omega) hq];have:k≠j:=fun e=>by subst e;rw[hq] at hp;cases hp
   exact ih (k+1) j (by omega) (by omega) hj hp
  ·rw[ML (by omega) hq];omega
theorem TC{id:Nat}{J:List AV->(List AV->Prop)->Prop}{μ:List AV->Nat}:fX id J μ:=⟨⟩
theorem PA{l es:List AV}{k:Nat}{x:AV}(h:l=[]++es):lS (l.set k x)<=lS es+1:=by rw[h];exact S4 es k x
theorem Pz{l es:List AV}(h:l=[]++es):lS l<=lS es+1:=by rw[h];exact Nat.le_succ _
theorem Ud(n:Int):(user n).name.length<=1000:=by
 unfold user;simp only;split
 ·simp
 ·split<;>simp
theorem Ue(n:Int):(user n).aC.length<=1000:=by
 show(aC (n / 3)).length<=1000;rw[sD];omega
end Kerb
/- Keys with which a key was sealed; what leaked. -/
namespace Kerb
open Go Go.Abs Go.Lib
theorem JQ(s:List Int)(hs:∀ i j,i<j->j<s.length->s.toArray[i]! <= s.toArray[j]!):∀ m,m<=s.length->uq (compactUpTo s.toArray m)=Zx/\(∀ x,x∈compactUpTo s.toArray m↔∃ j,j<m/\s.toArray[j]! = x):=by
 have app:∀ (l:List Int) (y:Int),uq l=Zx->(∀ x∈l,x<y)->uq (l++[y])=Zx:=by
  intro l y;induction l with
  | nil=>intros;rfl
  | cons a l ih =>
   intro h hx;refine Be (ih (xw h) fun x hm=>hx x (List.mem_cons_of_mem _ hm)) fun z hz=> ?_;rcases List.mem_append.1 hz with hz | hz
   ·exact oJ h z hz
   ·rw[List.mem_singleton.1 hz];exact hx a (List.mem_cons_self ..)
 intro m;induction m with
 | zero=>exact fun _=>⟨rfl,fun x=>⟨fun h=>by simp[compactUpTo] at h,fun⟨j,h,_⟩=>by omega⟩⟩
 | succ m ih =>
  intro hm;obtain⟨h1,h2⟩:=ih (by omega);rw[compactUpTo_succ];cases hk:keeps s.toArray m with
  | true =>
   rw[Qa1 rfl];refine⟨app _ _ h1 fun x hx=> ?_,fun x=> ?_⟩
   ·obtain⟨j,hj,rfl⟩:=(h2 x).1 hx;simp only[keeps,Qa2] at hk;have g1:=hs (m-1) m (by omega) (by omega);have g2:s.toArray[j]! <= s.toArray[m-1]! := by
     by_cases e:j=m-1
     ·rw[e];exact Int.le_refl _
     ·exact hs j (m-1) (by omega) (by omega)
    have g3:s.toArray[m]! ≠ s.toArray[m-1]! := hk.elim (fun e=>by omega) id;omega
   ·rw[List.mem_append,h2,List.mem_singleton];exact⟨fun h=>h.elim (fun⟨j,a,b⟩=>⟨j,by omega,b⟩) fun e=>⟨m,by omega,e.symm⟩,fun⟨j,a,b⟩=>by
     by_cases e:j=m
     ·exact .inr (by rw[<-b,e])
     ·exact .inl ⟨j,by omega,b⟩⟩
  | false =>
   rw[Qa0 Bool.false_ne_true,List.append_nil];refine⟨h1,fun x=> ?_⟩;rw[h2];simp only[keeps,decide_eq_false_iff_not,not_or,Decidable.not_not] at hk;exact⟨fun⟨j,a,b⟩=>⟨j,by omega,b⟩,fun⟨j,a,b⟩=>by
    by_cases e:j=m
    ·exact⟨m-1,by omega,by rw[<-hk.2,<-e];exact b⟩
    ·exact⟨j,by omega,b⟩⟩
theorem Lr:∀ {a b:List Int},uq a=Zx->uq b=Zx->(∀ x,x∈a↔x∈b)->a=b
 | [],[],_,_,_=>rfl
 | [],y::b,_,_,h=>absurd ((h y).2 (by simp)) (by simp)
 | x::a,[],_,_,h=>absurd ((h x).1 (by simp)) (by simp)
 | x::a,y::b,ha,hb,h=>by
  have e:x=y:=by
   rcases List.mem_cons.1 ((h x).1 (by simp)) with e | hx
   ·exact e
   rcases List.mem_cons.1 ((h y).2 (by simp)) with e | hy
   ·exact e.symm
   have:=oJ hb x hx;have:=oJ ha y hy;omega
  subst e;rw[Lr (xw ha) (xw hb) fun z=> ?_];have hz:=h z;simp only[List.mem_cons] at hz;exact⟨fun q=>(hz.1 (.inr q)).elim (fun e=>by have:=oJ ha z q;omega) id,fun q=>(hz.2 (.inr q)).elim (fun e=>by have:=oJ hb z q;omega) id⟩
theorem SS{l:List Int}{k:Int}(h:uq l=Zx):PB (vB (dl l++[.int .u64 k]))=dl (jO l k):=by
 have e0:dp (dl l++[.int .u64 k])=(l++[k]).toArray:=by simp[dp,dl,cO,Function.comp_def]
 unfold PB vB back;rw[e0,Go.Sort.sortInt (l++[k])];have e1:∀ s:List Int,cO (s.map (AV.int .u64))=s:=fun s=>by simp[cO,Function.comp_def]
 rw[e1];unfold dl;congr 1;generalize hs:((l++[k]).mergeSort fun x y=>Zy (x<=y))=s;have hp:s.Perm (l++[k]):=by rw[<-hs];exact List.mergeSort_perm ..
 have hw:s.Pairwise (fun x y=>x<=y):=by
  have:=List.pairwise_mergeSort (le:=fun x y:Int=>Zy (x<=y)) (fun a b c h1 h2=>by simp at *;omega) (fun a b=>by simp;omega) (l++[k]);rw[hs] at this;exact this.imp fun h=>Qa3 h
 have g:=JQ s (fun i j Tm hj=>by
  have:=List.pairwise_iff_getElem.1 hw i j (by omega) hj Tm;simpa [getElem!_pos,show i<s.length by omega,hj] using this) s.length (Nat.le_refl _)
 refine Lr g.1 (uF h) fun x=> ?_;show x∈compactUpTo s.toArray s.length↔_;rw[g.2,u9];have hm:(∃ j,j<s.length/\s.toArray[j]! = x)↔x∈s:=by
  rw[List.mem_iff_getElem];exact⟨fun⟨j,a,b⟩=>⟨j,a,by simpa [a] using b⟩,fun⟨j,a,b⟩=>⟨j,a,by simpa [a] using b⟩⟩
 rw[hm,hp.mem_iff,List.mem_append,List.mem_singleton];exact or_comm
def Gx(k:Int)(x:AV):Bool:=Zy (cI x 1=9)&&Zy (cI x 50=k)
def wy(l:List AV)(k n:Int):Bool:=Zy (0<=yE (Gx k) l (min n.toNat l.length) 0)
theorem UT{k:Int}{x:AV}(a:cI x 1=9)(b:cI x 50=k):Gx k x=Zx:=by unfold Gx;rw[Qa4 a,Qa4 b];rfl
theorem US{k:Int}{x:AV}(h:¬ cI x 1=9\/¬ cI x 50=k):Gx k x=Zz:=by
 unfold Gx;rcases h with h | h
 ·rw[Qa5 h];rfl
 ·rw[Qa5 h,Bool.and_false]
theorem XJ{l:List AV}{k n v:Int}{x:AV}(h0:0<=v)(h1:v<n)(h2:v<l.length)(hx:l.getD v.toNat .undef=x)(a:cI x 1=9)(b:cI x 50=k):Zx=wy l k n:=by
 subst hx;have:=Y0 (p:=Gx k) (l:=l) (N:=min n.toNat l.length) _ 0 v.toNat (Nat.le_refl _) (Nat.zero_le _) (by omega) (UT a b);unfold wy;rw[Qa4 this]
theorem ab1{l:List AV}{k n v F:Int}{x:AV}(h0:0<=v)(h1:v<1000000)(h2:v<n)(h3:v<l.length)(hi:yE (Gx k) l (min n.toNat l.length) v.toNat=F)(hx:l.getD v.toNat .undef=x)(h:¬ cI x 1=9\/¬ cI x 50=k):yE (Gx k) l (min n.toNat l.length) (IntKind.wrap .i64 (v+1)).toNat=F:=by
 subst hx;exact SC h0 h1 (by omega) hi (US h)
theorem ab2{l:List AV}{k n v:Int}(hi:yE (Gx k) l (min n.toNat l.length) v.toNat=yE (Gx k) l (min n.toNat l.length) 0)(h0:0<=v)(h:n<=v\/l.length<=v):Zz=wy l k n:=by
 rw[MK (by omega)] at hi;unfold wy;rw[<-hi];rfl
theorem U4(l:List AV)(n:Int):(imax 0 (pP n l.length)).toNat=min n.toNat l.length:=by
 unfold imax pP;split<;>split<;>omega
theorem F2{l:List AV}{n v:Int}{x:AV}(hx:(List.drop (((0:Nat):Int).toNat) (l.take (imax 0 (pP n l.length)).toNat)).getD v.toNat .undef=x)(h0:0<=v)(h:v<min n.toNat l.length):l.getD v.toNat .undef=x:=by
 rw[U4,LK (by omega)] at hx;exact hx
theorem F3(l:List AV)(n:Int):(List.drop (((0:Nat):Int).toNat) (l.take (imax 0 (pP n l.length)).toNat)).length=min n.toNat l.length:=by
 rw[U4];simp
theorem ab3{l:List AV}{k n:Int}(h:l.length<=400) : -1=yE (Gx k) l (min n.toNat l.length) (IntKind.wrap .i64 (((List.drop (((0:Nat):Int).toNat) (l.take (imax 0 (pP n l.length)).toNat)).length:Int)-1)+1).toNat:=by
 rw[F3];exact MH (Nat.le_refl _) (by omega)
theorem ab0{l:List AV}{k n v:Int}{x:AV}(h0:0<=v)(h1:v<1000000)(h2:v<min n.toNat l.length)(hx:(List.drop (((0:Nat):Int).toNat) (l.take (imax 0 (pP n l.length)).toNat)).getD v.toNat .undef=x)(a:cI x 1=9)(b:cI x 50=k):v=yE (Gx k) l (min n.toNat l.length) (IntKind.wrap .i64 (v-1)+1).toNat :=
 MJ h0 h1 (by omega) (by rw[F2 hx h0 h2];exact UT a b)
theorem abZ{l:List AV}{k n v w:Int}{x:AV}(h0:0<=v)(h1:v<1000000)(h2:v<min n.toNat l.length)(hi:w=yE (Gx k) l (min n.toNat l.length) (v+1).toNat)(hx:(List.drop (((0:Nat):Int).toNat) (l.take (imax 0 (pP n l.length)).toNat)).getD v.toNat .undef=x)(h:¬ cI x 1=9\/¬ cI x 50=k):w=yE (Gx k) l (min n.toNat l.length) (IntKind.wrap .i64 (v-1)+1).toNat :=
 MI h0 h1 (by omega) hi (by rw[F2 hx h0 h2];exact US h)
theorem XI{l:List AV}{k n v w:Int}(hi:w=yE (Gx k) l (min n.toNat l.length) (v+1).toNat)(h0 : -1<=v)(h1:v<0):Zy (w>=0)=wy l k n:=by
 rw[show(v+1).toNat=0 by omega] at hi;rw[hi];rfl
def rB(k:Int)(x:AV)(K:List Int):List Int :=
 bif Zy (cI x 1=4)&&Zy (cI x 17=k) then
  (bif k8 (cS x 20) then jO (bif Zy (cI x 18=k) then K else jO K (cI x 18)) (bj (cS x 20)).box.key else(bif Zy (cI x 18=k) then K else jO K (cI x 18)))
 else K
def o8(l:List AV)(k:Int):Nat->List Int
 | 0=>[]
 | n+1=>rB k (l.getD n .undef) (o8 l k n)
theorem Nz{b:Bytes}(h:k8 b=Zx):(bj b).err=0:=by
 unfold k8 at h;rw[Bool.and_eq_true] at h;exact Qb0 h.1
theorem Q8(b:Bytes):0<=(bj b).box.key/\(bj b).box.key<=18446744073709551615:=by
 have g:∀ c:Bytes,(cR c).2=Zx->0<=(cR c).1/\(cR c).1<=18446744073709551615:=fun c h=>by
  unfold cR at h ⊢;split at h
  ·rename_i hc;rw[Qa1 hc];exact CY hc.2
  ·cases h
 unfold bj;split
 ·simp[vh]
 ·split
  ·simp[vh]
  ·rename_i h;split
   ·simp[vh]
   ·exact g _ (by cases hk:(cR (cut b 2 8)).2 with
     | true=>rfl
     | false=>exact absurd (.inr (.inr (.inl hk))) h)
theorem Vr{l:List AV}{k v:Int}{v0 r:List AV}{x:AV}(h0:0<=v)(h1:v<1000000)(hv:v0=dl (o8 l k v.toNat))(hx:l.getD v.toNat .undef=x)(h:r=dl (rB k x (cO v0))):r=dl (o8 l k (IntKind.wrap .i64 (v+1)).toNat):=by
 rw[wrap_i64 (by omega) (by omega),show(v+1).toNat=v.toNat+1 by omega];subst hv hx;rw[h,f_];rfl
theorem agQ{l:List AV}{k v:Int}{v0:List AV}{x:AV}(hv:v0=dl (o8 l k v.toNat))(h:¬ cI x 1=4\/¬ cI x 17=k):v0=dl (rB k x (cO v0)):=by
 have e:(Zy (cI x 1=4)&&Zy (cI x 17=k))=Zz:=by
  rcases h with h | h
  ·rw[Qa5 h];rfl
  ·rw[Qa5 h,Bool.and_false]
 unfold rB;rw[e,hv,f_];rfl
theorem agR{l:List AV}{k v:Int}{v0:List AV}{x:AV}(hv:v0=dl (o8 l k v.toNat))(a:cI x 1=4)(b:cI x 17=k)(c:cI x 18=k)(d:k8 (cS x 20)=Zz):v0=dl (rB k x (cO v0)):=by
 unfold rB;rw[Qa4 a,Qa4 b,Qa4 c,d,hv,f_];rfl
theorem agS{k s:Int}{v0 r:List AV}{x:AV}(hr:r=dl (jO (cO v0) s))(a:cI x 1=4)(b:cI x 17=k)(c:¬ cI x 18=k)(d:k8 (cS x 20)=Zz)(e:cI x 18=s):r=dl (rB k x (cO v0)):=by
 unfold rB;rw[Qa4 a,Qa4 b,Qa5 c,d,hr,e];rfl
theorem agT{k y:Int}{v0 r:List AV}{x:AV}(hr:r=dl (jO (cO v0) y))(a:cI x 1=4)(b:cI x 17=k)(c:cI x 18=k)(d:k8 (cS x 20)=Zx)(e:(bj (cS x 20)).box.key=y):r=dl (rB k x (cO v0)):=by
 unfold rB;rw[Qa4 a,Qa4 b,Qa4 c,d,hr,e];rfl
theorem agU{k s y:Int}{v0 r1 r:List AV}{x:AV}(hr:r=dl (jO (cO r1) y))(qX:r1=dl (jO (cO v0) s))(a:cI x 1=4)(b:cI x 17=k)(c:¬ cI x 18=k)(d:k8 (cS x 20)=Zx)(e:cI x 18=s)(f:(bj (cS x 20)).box.key=y):r=dl (rB k x (cO v0)):=by
 unfold rB;rw[Qa4 a,Qa4 b,Qa5 c,d,hr,qX,e,f,f_];rfl
theorem Yi{l:List AV}{k v:Int}{v0:List AV}{N:Nat}(hv:v0=dl (o8 l k v.toNat))(h:v.toNat=N):v0=dl (o8 l k N):=h ▸ hv
theorem SY:uq (cO [])=Zx:=rfl
theorem Yo{l:List AV}{k:Int}:[]=dl (o8 l k (0:Int).toNat):=rfl
theorem QW{l:List AV}{n v:Int}(h:v<((List.drop (((0:Nat):Int).toNat) (l.take (imax 0 (pP n l.length)).toNat)).length:Int)):v<min n.toNat l.length:=by
 rw[F3] at h;omega
theorem U5{l:List AV}{n v:Int}(h0:0<=v)(hl:l.length<=400)(h:v<((List.drop (((0:Nat):Int).toNat) (l.take (imax 0 (pP n l.length)).toNat)).length:Int)):IntKind.wrap .i64 (v+1)<=l.length/\IntKind.wrap .i64 (v+1)<=min n.toNat l.length:=by
 have:=QW h;rw[wrap_i64 (by omega) (by omega)];omega
theorem Yl{l:List AV}{k v n:Int}{v0 r:List AV}{x:AV}(h0:0<=v)(h1:v<1000000)(h2:v<((List.drop (((0:Nat):Int).toNat) (l.take (imax 0 (pP n l.length)).toNat)).length:Int))(hv:v0=dl (o8 l k v.toNat))(hx:(List.drop (((0:Nat):Int).toNat) (l.take (imax 0 (pP n l.length)).toNat)).getD v.toNat .undef=x)(h:r=dl (rB k x (cO v0))):r=dl (o8 l k (IntKind.wrap .i64 (v+1)).toNat):=Vr h0 h1 hv (F2 hx h0 (QW h2)) h
theorem TZ{l:List AV}{k v n:Int}{v0:List AV}(hv:v0=dl (o8 l k v.toNat))(h:¬ v<((List.drop (((0:Nat):Int).toNat) (l.take (imax 0 (pP n l.length)).toNat)).length:Int))(h0:0<=v)(h1:v<=min n.toNat l.length):v0=dl (o8 l k (min n.toNat l.length)):=by
 rw[F3] at h;rw[hv,show v.toNat=min n.toNat l.length by omega]
end Kerb
/- Chapter 27: texts by their shape; a pattern that no spoilt text of a shape holds. -/
namespace Kerb
open Go Go.Abs
inductive Sy where
 | any
 | one (b:UInt8)
 | of (l:List UInt8)
def Sy.has:Sy->UInt8->Bool
 | .any,_=>Zx
 | .one b,c=>c==b
 | .of l,c=>l.contains c
def shM:List Sy->Bytes->Bool
 | [],[]=>Zx
 | s::ss,c::cs=>s.has c&&shM ss cs
 | _,_=>Zz
def OW(l1 l2:List (List Sy)):List (List Sy):=l1.flatMap fun a=>l2.map (a ++ ·)
def Aa(n:Nat):List Sy:=List.replicate n (.one 0)
def F0(s:List Sy):List Sy:=s++Aa ((8-s.length % 8) % 8)
def fxB(j:Nat)(c:UInt8):UInt8:=UInt8.ofNat (Int.toNat (IntKind.wrap .u8 ((BitVec.ofInt (IntKind.bits .u8) (c.toNat:Int) ^^^ BitVec.ofInt (IntKind.bits .u8) ((UInt8.ofNat (Int.toNat (IntKind.wrap .u8 (((1:UInt8).toNat:Int)*(2:Int) ^ min j 8)))).toNat:Int)).toNat:Int)))
inductive Fl:Bytes->Bytes->Prop
 | here {c:UInt8} {y:Bytes} {j:Nat}:j<7->Fl (c::y) (fxB j c::y)
 | there {c:UInt8} {b b':Bytes}:Fl b b'->Fl (c::b) (c::b')
inductive De:Bytes->Bytes->Prop
 | here {c:UInt8} {y:Bytes}:De (c::y) y
 | there {c:UInt8} {b b':Bytes}:De b b'->De (c::b) (c::b')
def Ed(b b':Bytes):Prop:=b'=b\/(∃ c:UInt8,c.toNat % 4=2/\b'=b++[c])\/Fl b b'\/De b b'
theorem Fl.pre{b b':Bytes}(h:Fl b b'):∀ a:Bytes,Fl (a++b) (a++b')
 | []=>h
 | c::a => .there (Fl.pre h a)
theorem De.pre{b b':Bytes}(h:De b b'):∀ a:Bytes,De (a++b) (a++b')
 | []=>h
 | c::a => .there (De.pre h a)
theorem Ed.pre{b b':Bytes}(h:Ed b b')(a:Bytes):Ed (a++b) (a++b'):=by
 rcases h with rfl | ⟨c,hc,rfl⟩ | h | h
 ·exact .inl rfl
 ·exact .inr (.inl ⟨c,hc,by simp⟩)
 ·exact .inr (.inr (.inl (h.pre a)))
 ·exact .inr (.inr (.inr (h.pre a)))
inductive Pe where
 | any
 | pr
 | is (b:UInt8)
 | le (b:UInt8)
def Pe.ok:Pe->UInt8->Bool
 | .any,_=>Zx
 | .pr,c=>Zy (33<=c.toNat)&&Zy (c.toNat<=126)
 | .is b,c=>c==b
 | .le b,c=>Zy (1<=c.toNat)&&Zy (c.toNat<=b.toNat)
def aaL:List Pe->Bytes->Bool
 | [],_=>Zx
 | p::ps,c::cs=>p.ok c&&aaL ps cs
 | _::_,[]=>Zz
end Kerb
/- Chapter 27: the shapes of the statements' messages. -/
namespace Kerb
open Go Go.Abs
set_option maxRecDepth 100000
def sL(l:Bytes):List Sy:=l.map .one
def sK:List Sy := .of [1,2]::(Aa 6++[.of [1,2,3,4,5,6]])
def sU:List Sy:=[.of [97,98,99],.of [110,111,97],.of [110,98,116],.one 0,.one 0,.of [65,66,67],.of [84,79,65],.of [72,83,77],.one 0]
def sR:List Sy:=[.of [65,66,67],.of [84,79,65],.of [72,83,77],.one 0]
def sV:List (List Sy):=[sL [109,97,105,108,0,0]++sR,sL [110,102,115,0,104,111,109,101,0]++sR,sL [107,114,98,116,103,116,0,65,84,72,0]++sR]
def sB:List Sy:=[.of [0,1]]
def sQ(n:UInt8):List Sy:=[.of [0,n],.one 0,.one 0,.of [0,n]]
def sTk:List Sy:=F0 (sB++(sU++(Aa 4++(sK++(Aa 1++(Aa 4++(sL [109,97,105,108,0]++[.one 0])))))))
def sLn:List Sy:=[.one 0,.any]
def sTb:List Sy:=sL [66,1]++(sK++(sLn++sTk))
def aTb:List (List Sy):=[[],sL [66,1]++(sK++(sLn++[])),sTb]
def sTl:Sy := .of [0,12,52]
end Kerb
/- Chapter 27: the shapes of boxes and messages. -/
namespace Kerb
open Go Go.Abs
set_option maxRecDepth 100000
def a2:List (List Sy):=[F0 (sB++(sU++(Aa 4++(Aa 1++Aa 4))))]
def a3:List (List Sy):=(OW [sB++sK] (OW sV (OW [Aa 1++(Aa 1++[sTl])] (OW aTb [Aa 4])))).map F0
def a4:List (List Sy):=[F0 (sB++(sQ 5++(Aa 1++Aa 4)))]
def a5:List (List Sy):=[F0 (sB++(Aa 2++(Aa 1++(Aa 4++sQ 7))))]
def a7:List (List Sy):=[sL (bR ⟨Aq,4,0,0,0⟩).val,F0 (sL gD++(Aa 4++sK))]
def a8:List (List Sy):=sL (cg ⟨nl,0,0,0,0,0,⟨[],[],[]⟩,[]⟩).val::(OW [sL FJ++(Aa 4++(sK++(Aa 4++(Aa 4++Aa 1))))] (OW sV (OW [[sTl]] aTb))).map F0
def a9:List (List Sy):=(OW [sU] (OW sV [sK++(Aa 4++(Aa 4++Aa 4))])).map F0
def ON:List (List Sy):=(OW [sK] (OW sV (OW [Aa 4++(Aa 4++[.one 0,sTl])] aTb))).map F0
theorem Fl.len{b b':Bytes}(h:Fl b b'):b'.length=b.length:=by
 induction h with
 | here _=>rfl
 | there _ ih=>simp[ih]
theorem De.len{b b':Bytes}(h:De b b'):b'.length<=b.length:=by
 induction h with
 | here=>simp
 | there _ ih=>simpa using ih
theorem Ed.len{b b':Bytes}(h:Ed b b'):b'.length<=b.length+1:=by
 rcases h with rfl | ⟨c,_,rfl⟩ | h | h
 ·omega
 ·simp
 ·rw[h.len];omega
 ·have:=h.len;omega
def hd(k:UInt8):List Sy:=[.one 4,.of [2*k,2*k+1]]
theorem OQ(li:Bool):shM (hd 2) (header 2 li)=Zx:=by cases li<;>rfl
def s2(n:UInt8):List Sy:=[.of [0,n],.of [0,n]]
end Kerb
/- Chapter 27: no message of the statements holds the secret key or the key that seals it where it could be read. -/
namespace Kerb
open Go Go.Abs
set_option maxRecDepth 100000
theorem Fl.drop{b b':Bytes}(h:Fl b b'):∀ n,Fl (b.drop n) (b'.drop n)\/b.drop n=b'.drop n:=by
 induction h with
 | here hj =>
  intro n;cases n with
  | zero=>exact .inl (Fl.here hj)
  | succ n=>exact .inr rfl
 | there h ih =>
  intro n;cases n with
  | zero=>exact .inl (Fl.there h)
  | succ n=>exact ih n
theorem De.drop{b b':Bytes}(h:De b b'):∀ n,De (b.drop n) (b'.drop n)\/b.drop (n+1)=b'.drop n:=by
 induction h with
 | here=>intro n;exact .inr rfl
 | there h ih =>
  intro n;cases n with
  | zero=>exact .inl (De.there h)
  | succ n=>exact ih n
def h6:List Pe:=[.is 66,.le 10,.le 2,.is 0,.is 0,.is 0]
def kp(k:Int):List Pe:=(keyBytes k).map .is
def abV(k:Int):List (List Pe):=[kp k++[.pr],kp k++[.any,.any,.any,.any,.any,.pr],.pr :: .any :: .any :: .any :: .any::kp k,.pr :: .is 0::kp k]
end Kerb
/- Chapter 27: what can be read of a message stands in it. -/
namespace Kerb
open Go Go.Abs
def inf(c b:Bytes):Prop:=∃ x y,b=x++(c++y)
def seen(k:Int)(b:Bytes):Prop:=∃ u w p,b=u++w/\p∈abV k/\aaL p w=Zx
end Kerb
/- Chapter 27: the secret stays, until the key is known that seals it. -/
namespace Kerb
open Go Go.Abs
set_option maxRecDepth 100000
end Kerb
/- Chapter 19: the plain laws. -/
namespace Kerb
open Go Go.Abs
structure adO (d:Db) (dv:List lG) (s:Server) (now ad:Int) (li:Bool) (se:Int) (msg:Bytes) (O:O5) (r:fy) (t:eU) (a:qk) (L:Int):Prop where
 agw:within now 4294967295=Zx
 X3:cZ msg=⟨r,0⟩
 taken:Ui (OI d dv s r) r.ap ad now t a
 aC:t.client.aC=r.ap.aC
 home:¬ (r.service=qF/\t.client.aC≠d.aC)
 bZ:Ua now r.bZ (yz d dv r.service r.inst now).bZ (yz d dv r.service r.inst now).cD t.cH t.bZ=(L,Zx)
 V1:jK se=2
 gr:(rm d.aC t.client ⟨r.service,r.inst,d.aC⟩ t.address li now L se t.af (yz d dv r.service r.inst now).key (yz d dv r.service r.inst now).bI).err=0
 sl:(oe ⟨li,t.client,r.time,0,0,[]⟩ (rm d.aC t.client ⟨r.service,r.inst,d.aC⟩ t.address li now L se t.af (yz d dv r.service r.inst now).key (yz d dv r.service r.inst now).bI).part t.af).err=0
 is:O.out=⟨(oe ⟨li,t.client,r.time,0,0,[]⟩ (rm d.aC t.client ⟨r.service,r.inst,d.aC⟩ t.address li now L se t.af (yz d dv r.service r.inst now).key (yz d dv r.service r.inst now).bI).part t.af).val,
  { (rm d.aC t.client ⟨r.service,r.inst,d.aC⟩ t.address li now L se t.af (yz d dv r.service r.inst now).key (yz d dv r.service r.inst now).bI).hX with kind:=2,pN:=t.af },Zx⟩
 s_:O.s={ s with replay:=(mS s.replay (vg a) now s.fJ).val }
structure adM (d:Db) (z:yK) (se:Int) (O:O5) (Y:jX) (body:Bytes) (P:fY) (T:eU):Prop where
 U9:bJ O.out.answer=⟨Y,0⟩
 box:jS Y.cQ 3 z.iB.ZB=(body,Zx)
 part:bU body Y.little=⟨P,0⟩
 s1:P.af=se
 s2:O.out.hX.pN=z.iB.ZB
 s3:O.out.hX.nF=z.iB.ZB
 s4:O.out.hX.af=se
 stop:O.out.hX.stop<=1000+oo z.iB.cH*8+300*(oo z.iB.bZ / 4+1)
 client:O.out.hX.client=z.iB.who
 yc:Y.client=z.iB.who
 service:O.out.hX.service=P.service
 home:P.service.name=qF->z.iB.who.aC=d.aC
 r1:(bj P.aE).err=0
 tk:bV (bj P.aE).box.body=⟨T,0⟩
 t1:T.address=oo z.iB.address % 3
 t2:T.client=z.iB.who
 t3:T.af=se
 t4:T.cH+300*(T.bZ+1)=O.out.hX.stop
 t5:(0<=T.cH/\T.cH<=4294967295)/\0<=T.bZ/\T.bZ<=255
 lens:Y.cQ.length<=140737488355328/\body.length<=140737488355328/\P.aE.length<=140737488355328/\(bj P.aE).box.body.length<=140737488355328
end Kerb
/- Chapter 24: lengths and bounds. -/
namespace Kerb
open Go Go.Abs
def fW.ok(a:fW):Prop:=a.service.valid=Zx\/a.service=cX
def fW.Bs(a:fW):Prop:=(0<=a.time/\a.time<=4294967295)/\(0<=a.start/\a.start<=4294967295)/\(0<=a.stop/\a.stop<=4294967295)/\a.aE.length<=255/\(0<=a.af/\a.af<18446744073709551616) /\
 (a.service.name.length<=39/\a.service.inst.length<=39/\a.service.aC.length<=39)
end Kerb
/- Chapter 20: what a client sends is decoded as what it was made of. -/
namespace Kerb
open Go Go.Abs
theorem J0{l:List h_}{s:ck}(h:(m7 l s).2=Zx):(m7 l s).1.service=s:=by
 unfold m7 at h ⊢;split at h
 ·rename_i gO;rw[Qa1 gO];dsimp only;have:=List.findIdx_getElem (p:=fun d:h_=>d.service.s6 s) (xs:=l) (w:=gO);simp only[List.getD_eq_getElem?_getD];unfold JR at gO ⊢;rw[List.getElem?_eq_getElem gO];exact ck.pL.1 this
 ·cases h
theorem TD{l:List h_}{s:ck}{now:Int}(h:(oV l s now).err=0):(oV l s now).val.service=s:=by
 unfold oV at h ⊢;split at h
 ·cases h
 rename_i h1;rw[Qa0 h1];split at h
 ·cases h
 rename_i h2;rw[Qa0 h2];exact J0 (by simpa using h1)
theorem DC{a:qk}{l:Bool}{k:Int}(hk:0<=k/\k<18446744073709551616)(h:(jD a l k).err=0):oZ (jD a l k).val l k=⟨a,0⟩:=by
 unfold jD at h ⊢;by_cases he:(eM a l).err=0;case neg=>rw[Qa1 he] at h;exact absurd h he
 rw[Qa0 (by simpa using he)] at h ⊢;unfold oZ;rw[FZ hk.1 hk.2 h,Aj he,Qa0 (by simp),Qa0 (by simp)]
structure Made (c:Client) (s:ck) (m:Bool) (sum now tick:Int) (O:VP) (R:df):Prop where
 dec:eP O.msg=⟨R,0⟩
 opens:oZ R.eS R.little O.MZ.af=⟨⟨c.me,sum,tick,now⟩,0⟩
 XL:R.dx=m
 aC:R.aC=s.aC
 bI:R.bI=O.MZ.bI
 ZC:R.aE=O.MZ.aE
 eS:R.eS=O.eS
 service:O.MZ.service=s
 len:O.msg.length<=140737488355328/\R.eS.length<=140737488355328
theorem makes{c:Client}{s:ck}{m:Bool}{sum now tick:Int}(hc:c.mN)(h:(AW c s m sum now tick).err=0):∃ R,Made c s m sum now tick (AW c s m sum now tick) R:=by
 obtain⟨O,hO⟩:∃ O,AW c s m sum now tick=O:=⟨_,rfl⟩;rw[hO] at h ⊢;unfold AW at hO;by_cases h1:c.err=0;case neg=>rw[Qa1 h1] at hO;rw[<-hO] at h;cases h
 rw[Qa0 (by simpa using h1)] at hO;by_cases h2:s.valid=Zx;case neg=>rw[Qa1 (by simpa using h2)] at hO;rw[<-hO] at h;cases h
 rw[Qa0 (by simp[h2])] at hO;by_cases h3:(within now 4294967295&&within tick 199&&within sum 4294967295)=Zx;case neg=>rw[Qa1 (by rw[Bool.not_eq_true] at h3;rw[h3];rfl)] at hO;rw[<-hO] at h;cases h
 rw[Qa0 (by rw[h3];simp)] at hO;dsimp only at hO;by_cases h4:(oV c.cache.qx s now).err=0;case neg=>rw[Qa1 h4] at hO;rw[<-hO] at h;exact absurd h h4
 rw[Qa0 (by simpa using h4)] at hO;obtain⟨x,hx⟩:∃ x,(oV c.cache.qx s now).val=x:=⟨_,rfl⟩;have hs:=TD h4;have pO:=TE hc.2.2.1 s now;rw[hx] at hO hs pO;by_cases h5:(jD ⟨c.me,sum,tick,now⟩ c.little x.af).err=0;case neg =>
  have:Pf c x m ⟨c.me,sum,tick,now⟩=⟨tn,(jD ⟨c.me,sum,tick,now⟩ c.little x.af).err⟩:=by unfold Pf;rw[Qa1 h5]
  rw[this,Qa1 h5] at hO;rw[<-hO] at h;exact absurd h h5
 have ha:Pf c x m ⟨c.me,sum,tick,now⟩=⟨⟨c.little,m,x.bI,x.service.aC,x.aE,(jD ⟨c.me,sum,tick,now⟩ c.little x.af).val⟩,0⟩:=by unfold Pf;rw[Qa0 (by simpa using h5)]
 rw[ha,Qa0 (by simp)] at hO;dsimp only at hO;obtain⟨R,hR⟩:∃ R,df.mk c.little m x.bI x.service.aC x.aE (jD ⟨c.me,sum,tick,now⟩ c.little x.af).val=R:=⟨_,rfl⟩;have kq:=Ge ⟨c.me,sum,tick,now⟩ c.little x.af;have He:=DC ⟨pO.2.2.2.1,pO.2.2.2.2.1⟩ h5;rw[hR] at hO;by_cases h6:(bD R).err=0;case neg=>rw[Qa1 h6] at hO;rw[<-hO] at h;exact absurd h h6
 rw[Qa0 (by simpa using h6)] at hO;have WE:=Ph R;refine⟨R,?_⟩;rw[<-hO];constructor
 ·exact C_ h6
 ·rw[<-hR];exact He
 ·rw[<-hR]
 ·rw[<-hR,<-hs]
 ·rw[<-hR]
 ·rw[<-hR]
 ·rw[<-hR]
 ·exact hs
 ·have e:R.eS.length<=162:=by rw[<-hR];exact kq
  dsimp only;omega
end Kerb
/- Bounds of what is decoded. -/
namespace Kerb
theorem nY{α:Type}{no:α}{enc:α->rK}{rd:Bytes->α×Bool}{b:Bytes}(P:α->Prop)(h0:P no)(h1:P (rd b).1):P (eJ no enc rd b).val:=by
 unfold eJ;split
 ·exact h0
 ·exact h1
abbrev fB(p:ck):Prop:=p.name.length<=40/\p.inst.length<=40/\p.aC.length<=40
theorem aQ(b:Bytes):fB (bV b).val.client/\(bV b).val.service.length<=40/\(bV b).val.inst.length<=40:=by
 unfold bV;split
 ·simp[fB,jg,cX]
 ·exact nY (fun t:eU=>fB t.client/\t.service.length<=40/\t.inst.length<=40) (by simp[fB,jg,cX]) ⟨o7 _ _,bE _ _,bE _ _⟩
theorem bq(b:Bytes):(eP b).val.aC.length<=40:=by
 unfold eP;split
 ·simp[tn]
 ·exact nY (fun t:df=>t.aC.length<=40) (by simp[tn]) (bE _ _)
theorem br(b:Bytes):(bj b).box.body.length<=1000:=by grind [cut,bj,vh]
theorem aS(b:Bytes):fB (cU b).val.service/\0<=(cU b).val.af/\(cU b).val.af<18446744073709551616:=by
 unfold cU;exact nY (fun t:rM=>fB t.service/\0<=t.af/\t.af<18446744073709551616) (by simp[fB,AP,cX]) ⟨o7 _ _,dW _⟩
theorem aY(b:Bytes):(fB (cW b).val.client/\fB (cW b).val.service)/\0<=(cW b).val.af/\(cW b).val.af<18446744073709551616:=by
 unfold cW;exact nY (fun t:Ae=>(fB t.client/\fB t.service)/\0<=t.af/\t.af<18446744073709551616) (by simp[fB,FU,cX]) ⟨⟨o7 _ _,o7 _ _⟩,dW _⟩
theorem aX(b:Bytes):fB (ez b).val.name:=by
 unfold ez;split
 ·simp[fB,wZ,cX]
 ·exact nY (fun t:Ad=>fB t.name) (by simp[fB,wZ,cX]) (o7 _ _)
theorem aF(b:Bytes):fB (bm b).val.user/\(bm b).val.aC.length<=40/\(bm b).val.service.length<=40/\(bm b).val.inst.length<=40:=by
 unfold bm;split
 ·simp[fB,pR,cX]
 ·refine nY (fun t:eG=>fB t.user/\t.aC.length<=40/\t.service.length<=40/\t.inst.length<=40) (by simp[fB,pR,cX]) ?_;simp only[qh,H9];cases h:((su b 1 2 Zz).val==2)
  ·simp[fB,cX,N5]
  ·simp[fB,cX,N7]
theorem bg(b:Bytes):(cZ b).val.ap.aC.length<=40/\(cZ b).val.service.length<=40/\(cZ b).val.inst.length<=40:=by
 unfold cZ;split
 ·simp[tX,tn]
 ·exact nY (fun t:fy=>t.ap.aC.length<=40/\t.service.length<=40/\t.inst.length<=40) (by simp[tX,tn]) ⟨bE _ _,bE _ _,bE _ _⟩
end Kerb
