/- What the functions compute, in plain words: no program here. -/
import Derived.Test.YteafbgcimcpfiaaGreatAbsStep
import Derived.Sort.AssemblyPlain
set_option linter.all false
open Go.IntKind renaming i64→Zz,wrap→Zy,u64→Zu,bits→Yz,signed→Yj
open Int renaming toNat→Zx,toNat_natCast→Zj,eq_ofNat_of_zero_le→Yu,tmod_eq_emod_of_nonneg→Yp,fdiv_eq_ediv_of_nonneg→Xz
open Go.Abs.AV renaming int→Zw,ax→Zf,undef→Zm,aF→Yy,bool→Yd
open List renaming length→Zv,getD→Zk,getD_eq_getElem?_getD→Yk,set→Yf
open Decidable renaming decide→Zq
open Bool renaming false→Zp,true→Zd,and_eq_true→Zg,not_eq_false→Zn,not_eq_true'→Zh
open Nat renaming blt→Zb,mod_eq_of_lt→Yv,pow_le_pow_right→Yb,two_pow_add_eq_or_of_lt→Yh
open Sum renaming inr→Yx,inl→Ym
open Go.Abs.Ex renaming exit→Yw
open Option renaming some→Yq
open UInt8 renaming ofNat→Yg
open Array renaming setIfInBounds→Yn,size_setIfInBounds→Xy
namespace Kerb
open Go.Abs in
abbrev Bytes:=List UInt8
def okB(bad:Bytes)(c:UInt8):Bool := !Zq (c.toNat<33) && !Zq (126<c.toNat) && !bad.contains c
def dE(s bad:Bytes):Bool:=s.all (okB bad)
def bS(s:Bytes):Bool:=Zq (s.length<=39)&&dE s [64]
def validName(s:Bytes):Bool := !s.isEmpty&&Zq (s.length<=39)&&dE s [46,64]
def cJ(s:Bytes):Bool := !s.isEmpty&&bS s
structure bf where
 name:Bytes
 inst:Bytes
 aJ:Bytes
def bf.valid(p:bf):Bool:=validName p.name&&bS p.inst&&cJ p.aJ
def within(n m:Int):Bool:=Zq (0<=n)&&Zq (n<=m)
def indexOf(c:UInt8):Bytes->Int
 | [] => -1
 | x::r=>if x==c then 0 else if indexOf c r<0 then -1 else indexOf c r+1
def c9(n:Int)(i:Nat):UInt8:=Yg ((n / 2 ^ (8*i)) % 256).toNat
def aN(n:Int)(k:Nat)(aq:Bool):Bytes:=cond aq ((List.range k).map (c9 n)) ((List.range k).map fun i=>c9 n (k-1-i))
def a_(b s:Bytes):Bytes:=b++s++[0]
def cC(b:Bytes)(p:bf):Bytes:=a_ (a_ (a_ b p.name) p.inst) p.aJ
def room(b:Bytes)(pos n:Int):Int :=
 if pos<0\/(b.length:Int)<pos\/n<0 then 104 else if (b.length:Int)-pos<n then 101 else 0
def km(l:Bytes):Int:=l.foldl (fun n c=>n*256+c.toNat) 0
def cut(b:Bytes)(pos n:Int):Bytes:=(b.drop pos.toNat).take n.toNat
structure Got where
 val:Int
 next:Int
 err:Int
def get(b:Bytes)(pos k:Int)(aq:Bool):Got :=
 if room b pos k=0 then⟨km (cond aq (cut b pos k).reverse (cut b pos k)),pos+k,0⟩ else⟨0,0,room b pos k⟩
structure Nc where
 val:Bytes
 next:Int
 err:Int
def bytes(b:Bytes)(pos n:Int):Nc :=
 if room b pos n=0 then⟨cut b pos n,pos+n,0⟩ else⟨[],0,room b pos n⟩
def text(b:Bytes)(pos:Int):Nc :=
 if room b pos 0=0 then
  if 0<=indexOf 0 ((b.drop pos.toNat).take 40) then⟨((b.drop pos.toNat).take 40).take (indexOf 0 ((b.drop pos.toNat).take 40)).toNat,pos+indexOf 0 ((b.drop pos.toNat).take 40)+1,0⟩
  else if ((b.drop pos.toNat).take 40).length=40 then⟨[],0,105⟩ else⟨[],0,101⟩
 else⟨[],0,104⟩
structure aat where
 val:bf
 next:Int
 err:Int
def dg:bf:=⟨[],[],[]⟩
def iA(b:Bytes)(pos:Int):aat :=
 if (text b pos).err≠0 then⟨dg,0,(text b pos).err⟩
 else if (text b (text b pos).next).err≠0 then⟨dg,0,(text b (text b pos).next).err⟩
 else if (text b (text b (text b pos).next).next).err≠0 then⟨dg,0,(text b (text b (text b pos).next).next).err⟩
 else if bf.valid ⟨(text b pos).val,(text b (text b pos).next).val,(text b (text b (text b pos).next).next).val⟩ then
  ⟨⟨(text b pos).val,(text b (text b pos).next).val,(text b (text b (text b pos).next).next).val⟩,(text b (text b (text b pos).next).next).next,0⟩
 else⟨dg,0,103⟩
def isKind(k:Int):Bool:=Zq (1<=k)&&Zq (k<=10)
def header(k:Int)(aq:Bool):Bytes:=cond (isKind k) [4,Yg (2*k.toNat+cond aq 1 0)] []
structure Head where
 kind:Int
 aq:Bool
 err:Int
def dL(b:Bytes):Head :=
 if b.length<2 then⟨0,Zp,101⟩ else if b.getD 0 0≠4 then⟨0,Zp,39⟩
 else if isKind ((b.getD 1 0).toNat / 2:Nat) then⟨((b.getD 1 0).toNat / 2:Nat),Zq ((b.getD 1 0).toNat % 2=1),0⟩ else⟨0,Zp,40⟩
structure jn where
 aq:Bool
 client:bf
 time:Int
 cl:Int
 service:Bytes
 inst:Bytes
structure ll where
 val:Bytes
 err:Int
def po(r:jn):ll :=
 if !(r.client.valid&&validName r.service&&bS r.inst) then⟨[],103⟩
 else if !(within r.time 4294967295&&within r.cl 255) then⟨[],104⟩
 else⟨a_ (a_ (cC (header 1 r.aq) r.client++aN r.time 4 r.aq++aN r.cl 1 Zp) r.service) r.inst,0⟩
def bh(b:Bytes)(kinds:List Int):Bool×Int :=
 if (dL b).err≠0 then(Zp,(dL b).err) else if kinds.contains (dL b).kind then((dL b).aq,0) else(Zp,40)
structure Te where
 val:jn
 err:Int
def SU:jn:=⟨false,dg,0,0,[],[]⟩
def s7(b:Bytes):jn :=
 let li:=(bh b [1]).1
 let p:=iA b 2
 let t:=get b p.next 4 li
 let l:=get b t.next 1 Zp
 let s:=text b l.next
 ⟨li,p.val,t.val,l.val,s.val,(text b s.next).val⟩
def fV(b:Bytes):Te :=
 if (bh b [1]).2≠0 then⟨SU,(bh b [1]).2⟩
 else if (po (s7 b)).err≠0\/(po (s7 b)).val≠b then⟨SU,100⟩
 else⟨s7 b,0⟩
def aJ(n:Int):Bytes:=if n % 3=0 then[65,84,72] else if n % 3=1 then[66,79,83] else[67,65,77]
def user(n:Int):bf:=⟨if n % 3=0 then[97,110,110] else if n % 3=1 then[98,111,98] else[99,97,116],[],aJ (n / 3)⟩
def service(n:Int):bf:=if n % 3=0 then⟨[109,97,105,108],[],aJ (n / 3)⟩ else if n % 3=1 then⟨[110,102,115],[104,111,109,101],aJ (n / 3)⟩ else⟨[107,114,98,116,103,116],[65,84,72],aJ (n / 3)⟩
def aB(n:Int):Int:=Go.IntKind.wrap .u64 ((BitVec.ofInt (Go.IntKind.bits .u64) 144115188075855872 ||| BitVec.ofInt (Go.IntKind.bits .u64) (Go.IntKind.wrap .u64 (Go.IntKind.wrap .i64 (1+n)))).toNat:Int)
def next(l:Bytes)(pos n:Int):Int:=if (l.length:Int)<=pos\/n<=0 then 0 else((l.getD pos.toNat 0).toNat:Int) % n
def dl(l:Bytes)(pos n:Int):Int:=((if (l.length:Int)<=pos\/n<=0 then pos else pos+1).toNat:Int)
structure dF where
 aq:Bool
 client:bf
 address:Int
 aB:Int
 cl:Int
 cE:Int
 service:Bytes
 inst:Bytes
def fm(n:Int):bf:=⟨List.replicate (if n=0 then 39 else 38) 110,List.replicate (if n=0 then 39 else 38) 110,List.replicate (if n=0 then 39 else 38) 110⟩
def tp1(l:Bytes):Int:=dl l 0 2
def tp2(l:Bytes):Int:=dl l (tp1 l) 9
def tp3(l:Bytes):Int:=dl l (tp2 l) 9
def tp4(l:Bytes):Int:=dl l (tp3 l) 256
def tp5(l:Bytes):Int:=dl l (tp4 l) 200
def tp6(l:Bytes):Int:=dl l (tp5 l) 256
def tp7(l:Bytes):Int:=dl l (tp6 l) 256
def S'(l:Bytes):Int:=dl l (tp7 l) 9
def ZJ(l:Bytes):Int:=dl l (S' l) 7
def ZI(l:Bytes):Int:=dl l (ZJ l) 3
def VE(l:Bytes):Int:=dl l (ZI l) 3
def tq(l:Bytes):Int:=cond (next l (S' l) 7==6) (VE l) (ZJ l)
def aI(l:Bytes):dF :=
  { aq:=next l 0 2==1
    client:=cond (next l (tq l) 9==8) (fm (next l (dl l (tq l) 9) 2)) (user (next l (tp1 l) 9))
    address:=cond (next l (S' l) 7==6) (Go.IntKind.wrap .i64 (4294967295-next l (ZJ l) 3)) (next l (tp4 l) 200)
    aB:=aB (next l (tp2 l) 9)
    cl:=next l (tp3 l) 256
    cE:=cond (next l (S' l) 7==6) (Go.IntKind.wrap .i64 (4294967295-next l (ZI l) 3)) (Go.IntKind.wrap .i64 (Go.IntKind.wrap .i64 (next l (tp5 l) 256*150)+next l (tp6 l) 256))
    service:=cond (next l (tq l) 9==8) (fm 0).name (Kerb.service (next l (tp7 l) 9)).name
    inst:=cond (next l (tq l) 9==8) (fm 0).inst (Kerb.service (next l (tp7 l) 9)).inst }
def kf(k:Int):Int:=k / 72057594037927936
def jI(k:Int):Int:=k % 72057594037927936
def mX(c:Int):Bool:=c==1||c==2
def ke(n:Int):Bool:=Zq (1<=n)&&Zq (n<=4294967295)
def bm(k:Int):Bool:=mX (kf k)&&ke (jI k)
def keyBytes(k:Int):Bytes:=(List.range 8).map fun i=>c9 k (7-i)
def eQ(b:Bytes):Int×Bool:=if b.length=8/\bm (km b)=Zd then(km b,Zd) else(0,Zp)
def pad(b:Bytes):Bytes:=b++List.replicate ((8-b.length % 8) % 8) 0
structure m7 where
 aq:Bool
 client:bf
 time:Int
 eu:Int
 bO:Int
 ia:Bytes
def dQ(r:m7):ll :=
 if !r.client.valid then⟨[],103⟩
 else if !(within r.time 4294967295&&within r.eu 4294967295&&within r.bO 255) then⟨[],104⟩
 else if 1012<r.ia.length then⟨[],105⟩
 else⟨cC (header 2 r.aq) r.client++aN r.time 4 r.aq++aN 1 1 Zp++aN r.eu 4 r.aq++aN r.bO 1 Zp++aN r.ia.length 2 r.aq++r.ia,0⟩
structure Nb where
 val:m7
 err:Int
def KP:m7:=⟨false,dg,0,0,0,[]⟩
def qe(b:Bytes):m7 :=
 let li:=(bh b [2]).1
 let p:=iA b 2
 let t:=get b p.next 4 li
 let o:=get b t.next 1 Zp
 let e:=get b o.next 4 li
 let k:=get b e.next 1 Zp
 let n:=get b k.next 2 li
 ⟨li,p.val,t.val,e.val,k.val,(bytes b n.next n.val).val⟩
def bJ(b:Bytes):Nb :=
 if (bh b [2]).2≠0 then⟨KP,(bh b [2]).2⟩
 else if (dQ (qe b)).err≠0\/(dQ (qe b)).val≠b then⟨KP,100⟩
 else⟨qe b,0⟩
structure gF where
 aB:Int
 service:bf
 cl:Int
 bO:Int
 aI:Bytes
 time:Int
def bR(p:gF)(aq:Bool):ll :=
 if !bm p.aB then⟨[],10⟩
 else if !p.service.valid then⟨[],103⟩
 else if !(within p.cl 255&&within p.bO 255&&within p.time 4294967295) then⟨[],104⟩
 else if 255<p.aI.length then⟨[],105⟩
 else⟨pad (cC (aN (cond aq 1 0) 1 Zp++keyBytes p.aB) p.service++aN p.cl 1 Zp++aN p.bO 1 Zp++aN p.aI.length 1 Zp++p.aI++aN p.time 4 aq),0⟩
structure J5 where
 val:gF
 err:Int
def sT:gF:=⟨0,dg,0,0,[],0⟩
def nr(b:Bytes)(aq:Bool):gF :=
 let raw:=bytes b 1 8
 let p:=iA b raw.next
 let l:=get b p.next 1 Zp
 let k:=get b l.next 1 Zp
 let n:=get b k.next 1 Zp
 let t:=bytes b n.next n.val
 ⟨(eQ raw.val).1,p.val,l.val,k.val,t.val,(get b t.next 4 aq).val⟩
def bA(b:Bytes)(aq:Bool):J5 :=
 if (bR (nr b aq) aq).err≠0\/(bR (nr b aq) aq).val≠b then⟨sT,100⟩
 else⟨nr b aq,0⟩
structure qp where
 aq:Bool
 client:bf
 time:Int
 code:Int
 text:Bytes
def oX(r:qp):ll :=
 if !r.client.valid then⟨[],103⟩
 else if !(within r.time 4294967295&&Zq (1<=r.code)&&Zq (r.code<=99)) then⟨[],104⟩
 else if 39<r.text.length then⟨[],105⟩
 else if 0∈r.text then⟨[],100⟩
 else⟨a_ (cC (header 5 r.aq) r.client++aN r.time 4 r.aq++aN r.code 4 r.aq) r.text,0⟩
structure Td where
 val:qp
 err:Int
def SS:qp:=⟨false,dg,0,0,[]⟩
def yo(b:Bytes):qp :=
 let li:=(bh b [5]).1
 let p:=iA b 2
 let t:=get b p.next 4 li
 let c:=get b t.next 4 li
 ⟨li,p.val,t.val,c.val,(text b c.next).val⟩
def sc(b:Bytes):Td :=
 if (bh b [5]).2≠0 then⟨SS,(bh b [5]).2⟩
 else if (oX (yo b)).err≠0\/(oX (yo b)).val≠b then⟨SS,100⟩
 else⟨yo b,0⟩
structure RdP where
 p:bf
 pos:Int
 bad:Bool
def l9(b:Bytes)(how:Int):Int:=Int.tmod (Go.IntKind.wrap .i64 (Go.IntKind.wrap .u16 (Int.tdiv how 8))) (b.length:Int)
def oJ(b:Bytes)(how:Int):Bytes :=
 if b=[] then[] else
 if Int.tmod how 4=0 then b.set (l9 b how).toNat (Yg (Zx (Go.IntKind.wrap .u8 ((BitVec.ofInt (Go.IntKind.bits .u8) ((b.getD (l9 b how).toNat 0).toNat:Int) ^^^ BitVec.ofInt (Go.IntKind.bits .u8) ((Yg (Zx (Go.IntKind.wrap .u8 (((1:UInt8).toNat:Int)*(2:Int) ^ min (Zx (Go.IntKind.wrap .u64 (Int.tmod how 7))) 8)))).toNat:Int)).toNat:Int))))
 else if Int.tmod how 4=1 then b.take (l9 b how).toNat++b.drop (Zx (Go.IntKind.wrap .i64 (l9 b how+1)))
 else if Int.tmod how 4=2 then b++[Yg (Zx (Go.IntKind.wrap .u8 how))]
 else b
def texts:List Bytes:=[[99,108,105,101,110,116,32,101,120,112,105,114,101,100],[115,101,114,118,105,99,101,32,101,120,112,105,114,101,100],[110,111,32,108,105,102,101,116,105,109,101,32,108,101,102,116],[112,114,111,116,111,99,111,108,32,118,101,114,115,105,111,110],[110,111,116,32,97,32,99,108,105,101,110,116],[110,111,116,32,97,32,115,101,114,118,105,99,101],[98,121,116,101,32,111,114,100,101,114],[112,114,105,110,99,105,112,97,108,32,117,110,107,110,111,119,110],[112,114,105,110,99,105,112,97,108,32,110,111,116,32,117,110,105,113,117,101],[110,111,32,107,101,121]]
def refused:Bytes:=[114,101,113,117,101,115,116,32,114,101,102,117,115,101,100]
def message(code:Int):Bytes:=if code<1\/10<code then refused else texts.getD (code-1).toNat []
structure Rd (α:Type) where
 val:α
 pos:Int
 bad:Bool
end Kerb
/- Plain facts on what the functions compute. -/
namespace Kerb
open Go Go.Abs
theorem ch{n:Nat}(h:n<=140737488355328):Go.Abs.room n 1=Zd:=by
 simp[Go.Abs.room];omega
theorem pn{s:Bytes}{i:Nat}(h:i<s.length):s.drop i=s.getD i 0::s.drop (i+1):=by
 rw[List.drop_eq_getElem_cons h];simp[h]
theorem sI(c:UInt8):∀ l:Bytes,(0<=indexOf c l)↔c∈l
 | []=>by simp[indexOf]
 | x::r=>by
  have ih:=sI c r;unfold indexOf;by_cases h:x=c
  ·subst h;simp
  ·have h1:(x==c)=Zp:=by simpa using h
   rw[h1,List.mem_cons,<-ih];have h3:¬ c=x:=fun e=>h e.symm;simp only[Bool.false_eq_true,if_false,h3,false_or];split<;>omega
theorem DL(l:Bytes)(c:UInt8):km (l++[c])=km l*256+c.toNat:=by simp[km]
theorem DM{l:Bytes}{i:Nat}(h:i<l.length):km (l.take (i+1))=km (l.take i)*256+(l.getD i 0).toNat:=by
 rw[List.take_succ_eq_append_getElem h,DL];simp[h]
theorem BS(l:Bytes):∃ m:Nat,km l=m/\m<256 ^ l.length:=by
 have key:∀ (n:Nat) (l:Bytes),l.length=n->∃ m:Nat,km l=m/\m<256 ^ n:=by
  intro n;induction n with
  | zero=>intro l h;have:=List.eq_nil_of_length_eq_zero h;subst this;exact⟨0,rfl,by simp⟩
  | succ n ih =>
   intro l h;have gA:l≠[]:=fun e=>by subst e;simp at h
   obtain⟨m,h1,h2⟩:=ih l.dropLast (by simp[h]);refine⟨m*256+(l.getLast gA).toNat,?_,?_⟩
   ·have e:=List.dropLast_concat_getLast gA;rw[<-Qb3 km e,DL,h1];omega
   ·have:=(l.getLast gA).toNat_lt;rw[Nat.pow_succ];omega
 exact key _ l rfl
theorem K8{l:Bytes}(h:l.length<=4):0<=km l/\km l<4294967296:=by
 obtain⟨m,h1,h2⟩:=BS l;have:256 ^ l.length<=256 ^ 4:=Yb (by omega) h;rw[h1];omega
theorem KZ{n:Int}(c:UInt8)(h0:0<=n)(h1:n<1099511627776):Zy .i64 ((BitVec.ofInt (Yz .i64) (Zy .i64 (n*2 ^ min (Zx 8) (Yz .i64))) ||| BitVec.ofInt (Yz .i64) (Zy .i64 (c.toNat:Int))).toNat:Int)=n*256+c.toNat:=by
 obtain⟨m,rfl⟩:=Yu h0;have hc:=c.toNat_lt;have e1:((m:Int)*2 ^ min (Zx 8) (Yz .i64))=((2 ^ 8*m:Nat):Int):=by
  have:min (Zx 8) (Yz .i64)=8:=by decide
  rw[this];omega
 rw[e1,wrap_i64 (n:=((2 ^ 8*m:Nat):Int)) (by omega) (by omega),wrap_i64 (n:=(c.toNat:Int)) (by omega) (by omega)];have hb:Yz .i64=64:=rfl;rw[hb];have e2:(BitVec.ofInt 64 ((2 ^ 8*m:Nat):Int) ||| BitVec.ofInt 64 ((c.toNat:Nat):Int)).toNat=2 ^ 8*m+c.toNat:=by
  rw[BitVec.ofInt_natCast,BitVec.ofInt_natCast,BitVec.toNat_or,BitVec.toNat_ofNat,BitVec.toNat_ofNat,Yv (by omega),Yv (by omega)];exact(Yh hc m).symm
 rw[e2,wrap_i64 (by omega) (by omega)];omega
theorem mI{b:Bytes}{pos n:Int}:room b pos n=0↔0<=pos/\pos<=b.length/\0<=n/\n<=b.length-pos:=by
 unfold room;split
 ·omega
 ·split<;>omega
theorem kJ{b:Bytes}{pos n:Int}(h:room b pos n=0):(cut b pos n).length=n.toNat:=by
 obtain⟨h1,h2,h3,h4⟩:=mI.1 h;simp[cut];omega
theorem Ei{l:Bytes}{i:Nat}(h:i<l.length):l.reverse.getD i 0=l.getD (l.length-1-i) 0:=by
 simp[Yk,List.getElem?_reverse h]
theorem FY{b:Bytes}{pos n:Int}{i:Nat}(h:i<n.toNat):(cut b pos n).getD i 0=b.getD (pos.toNat+i) 0:=by
 simp[cut,Yk,h]
def ul(n:Int)(m:Nat):UInt8:=Yg (Zx (Zy .u8 (Int.fdiv n (2 ^ m))))
theorem wrap_u8(x:Int):Zy .u8 x=x % 256:=by
 simp[Zy,Yj,Yz]
theorem wrap_u64(x:Int):Zy .u64 x=x % 18446744073709551616:=by
 simp[Zy,Yj,Yz]
theorem rV(n:Int)(m:Nat):ul n m=Yg ((n / 2 ^ m) % 256).toNat:=by grind [wrap_u8,ul]
theorem Tb(n:Int){i:Nat}(h:i<4):Yg (Zx (Zy .u8 (Int.fdiv (Zy .u64 n) (2 ^ (8*i)))))=c9 n i:=by
 unfold c9;rw[wrap_u8,wrap_u64,Xz _ (Int.le_of_lt (Int.pow_pos (by omega)))];have h4:i=0\/i=1\/i=2\/i=3:=by omega
 have e:n % 18446744073709551616 / 2 ^ (8*i) % 256=n / 2 ^ (8*i) % 256:=by
  rcases h4 with rfl | rfl | rfl | rfl<;>simp<;>omega
 rw[e]
theorem af(n:Int)(k:Nat)(l:Bool):(aN n k l).length=k:=by cases l<;>simp[aN]
theorem Mx(n:Int)(k:Nat)(l:Bool){i:Nat}(h:i<k):(aN n k l).getD i 0=c9 n (cond l i (k-1-i)):=by
 cases l<;>simp[aN,Yk,h]
theorem BM{l:Bytes}{i:Nat}(h:i<l.length):l.take (i+1)=l.take i++[l.getD i 0]:=by
 rw[List.take_succ_eq_append_getElem h];simp[h]
theorem zV:∀ {els:List AV} {i:Nat},Ra els=Zd->i<els.length->∃ l,els.getD i .undef = .bs l/\rX (els.take (i+1))=rX (els.take i)++l/\(rX (els.take i)).length+l.length<=(rX els).length
 | [],i,_,h=>by simp at h
 | x::r,i,ha,h=>by
  cases x<;>simp only[Ra] at ha<;>try (cases ha;done)
  rename_i l;cases i with
  | zero=>exact⟨l,by simp,by simp[rX],by simp[rX]⟩
  | succ i =>
   obtain⟨l',h1,h2,h3⟩:=zV (i:=i) ha (by simpa using h);refine⟨l',by simpa using h1,?_,?_⟩
   ·simp only[List.take_succ_cons,rX] at h2 ⊢;rw[h2,List.append_assoc]
   ·simp only[List.take_succ_cons,rX,List.length_append];omega
theorem vL{x:AV}{r:List AV}(h:oR (x::r)=Zd):∃ n,x = .int .i64 n/\oR r=Zd:=by
 unfold oR at h;split at h
 ·rename_i he;cases he
 ·rename_i he;cases he;exact⟨_,rfl,h⟩
 ·cases h
theorem GI:∀ {els:List AV} {i:Nat},oR els=Zd->i<els.length->∃ n,els.getD i .undef = .int .i64 n/\(jT els).drop i=n::(jT els).drop (i+1)
 | [],i,_,h=>by simp at h
 | x::r,i,ha,h=>by
  obtain⟨n,rfl,N0⟩:=vL ha;cases i with
  | zero=>exact⟨n,by simp,by simp[jT]⟩
  | succ i =>
   obtain⟨m,h1,h2⟩:=GI (i:=i) N0 (by simpa using h);exact⟨m,by simpa using h1,by simpa [jT] using h2⟩
theorem GJ:∀ {els:List AV},oR els=Zd->(jT els).length=els.length
 | [],_=>rfl
 | x::r,ha=>by
  obtain⟨n,rfl,N0⟩:=vL ha;simp[jT,GJ N0]
theorem AA(c:UInt8):∀ l:Bytes,-1<=indexOf c l/\(0<=indexOf c l->indexOf c l<l.length)/\indexOf c l<=l.length
 | []=>by simp[indexOf]
 | x::r=>by
  have ih:=AA c r;unfold indexOf;simp only[List.length_cons];split
  ·omega
  ·split<;>omega
theorem ib{s:Bytes}(h:bS s=Zd):s.length<=39:=by
 simp only[bS,Zg,Qa2] at h;exact h.1
theorem ja{s:Bytes}(h:validName s=Zd):s.length<=39:=by
 simp only[validName,Zg,Qa2] at h;exact h.1.2
theorem gQ{s:Bytes}(h:cJ s=Zd):s.length<=39:=by
 simp only[cJ,Zg] at h;exact ib h.2
theorem cq{p:bf}(h:p.valid=Zd):p.name.length<=39/\p.inst.length<=39/\p.aJ.length<=39:=by
 simp only[bf.valid,Zg] at h;exact⟨ja h.1.1,ib h.1.2,gQ h.2⟩
theorem jv(k:Int)(l:Bool):(header k l).length<=2:=by
 unfold header;cases isKind k<;>simp
theorem bN(b s:Bytes):(a_ b s).length=b.length+s.length+1:=by simp[a_];omega
theorem ai(b:Bytes)(p:bf):(cC b p).length=b.length+p.name.length+p.inst.length+p.aJ.length+3:=by
 simp[cC,bN];omega
theorem jC(b:Bytes)(pos:Int):(text b pos).val.length<=40:=by
 unfold text;split
 ·split
  ·simp;omega
  ·split<;>simp
 ·simp
theorem oE(b:Bytes)(pos:Int):(iA b pos).val.name.length<=40/\(iA b pos).val.inst.length<=40/\(iA b pos).val.aJ.length<=40:=by
 unfold iA;split
 ·simp[dg]
 split
 ·simp[dg]
 split
 ·simp[dg]
 split
 ·exact⟨jC _ _,jC _ _,jC _ _⟩
 ·simp[dg]
theorem zx(l:Bytes)(p n:Int):0<=next l p n/\next l p n<=255/\(0<n->next l p n<n):=by
 unfold next
 have hb:=(l.getD p.toNat 0).toNat_lt;split
 ·omega
 ·have h0:0<n:=by omega
  have h1:=Int.emod_nonneg ((l.getD p.toNat 0).toNat:Int) (by omega:n≠0);have h2:=Int.emod_lt_of_pos ((l.getD p.toNat 0).toNat:Int) h0;have h3:((l.getD p.toNat 0).toNat:Int) % n<=((l.getD p.toNat 0).toNat:Int):=by
   rcases Int.lt_or_le ((l.getD p.toNat 0).toNat:Int) n with h | h
   ·rw[Int.emod_eq_of_lt (by omega) h];omega
   ·omega
  omega
theorem G5(l:Bytes)(p n:Int):Zq ((0:Int)<=dl l p n)=Zd:=Qa4 (Int.natCast_nonneg _)
theorem G6(l:Bytes)(p n:Int):Zq ((0:Int)<=next l p n)=Zd:=by simpa using (zx l p n).1
theorem A1(l:Bytes)(p n:Int):Zq (next l p n<=4611686018427387904)=Zd:=by have:=(zx l p n).2.1;simp;omega
theorem EJ(l:Bytes)(p n:Int):Zq (next l p n<=1000)=Zd:=by have:=(zx l p n).2.1;simp;omega
theorem Mf(l:Bytes)(p:Int):Zq (next l p 2<=1)=Zd:=by have:=(zx l p 2).2.2 (by omega);simp;omega
theorem yL(n:Int):(fm n).name.length<=39/\(fm n).inst.length<=39/\(fm n).aJ.length<=39:=by
 unfold fm;by_cases h:n=0<;>simp[h]
theorem yr(n:Int):(aJ n).length=3:=by
 unfold aJ;split
 ·rfl
 ·split<;>rfl
theorem tE(n:Int):(user n).name.length<=39/\(user n).inst.length<=39/\(user n).aJ.length<=39:=by grind [user,yr]
theorem yU(n:Int):(service n).name.length<=39/\(service n).inst.length<=39/\(service n).aJ.length<=39:=by
 unfold service;split
 ·simp[yr]
 ·split<;>simp[yr]
theorem BN(l:Bytes):(aI l).client.name.length<=39/\(aI l).client.inst.length<=39/\(aI l).client.aJ.length<=39/\(aI l).service.length<=39/\(aI l).inst.length<=39:=by
 simp only[aI];cases next l (tq l) 9==8<;>simp only[Qa5,Qa6]
 ·have h1:=tE (next l (tp1 l) 9);have h2:=yU (next l (tp7 l) 9);omega
 ·have h1:=yL (next l (dl l (tq l) 9) 2);have h2:=yL 0;omega
theorem sH{c:UInt8}:∀ {s q:Bytes},c ∉ s->indexOf c (s++c::q)=s.length
 | [],q,_=>by simp[indexOf]
 | x::s,q,h=>by
  have hx:(x==c)=Zp:=by
   have:x≠c:=fun e=>h (by simp[e]);simpa using this
  have ih:=sH (q:=q) (c:=c) (s:=s) fun hm=>h (by simp[hm]);simp only[List.cons_append,indexOf,hx,Bool.false_eq_true,if_false,ih,List.length_cons];rw[Qa0 (by omega)];omega
theorem zI{b pre s post:Bytes}{pos:Int}(hb:b=pre++(s++0::post))(hp:pos=pre.length)(hs:s.length<=39)(h0:(0:UInt8) ∉ s):text b pos=⟨s,pos+s.length+1,0⟩:=by
 have hr:room b pos 0=0:=mI.2 (by subst hb;simp;omega);have hd:b.drop pos.toNat=s++0::post:=by subst hb;subst hp;simp
 have ht:(s++0::post).take 40=s++0::post.take (39-s.length):=by
  rw[List.take_append,List.take_of_length_le (by omega),show 40-s.length=(39-s.length)+1 by omega,List.take_succ_cons]
 unfold text;rw[Qa1 hr,hd,ht,sH h0,Qa1 (by omega)];simp
theorem zy{s bad:Bytes}(h:dE s bad=Zd):(0:UInt8) ∉ s:=by
 intro hm;have:=List.all_eq_true.1 h 0 hm;simp[okB] at this
theorem tF{s:Bytes}(h:bS s=Zd):(0:UInt8) ∉ s:=by
 simp only[bS,Zg] at h;exact zy h.2
theorem BT{s:Bytes}(h:validName s=Zd):(0:UInt8) ∉ s:=by
 simp only[validName,Zg] at h;exact zy h.2
theorem zj{s:Bytes}(h:cJ s=Zd):(0:UInt8) ∉ s:=by
 simp only[cJ,Zg] at h;exact tF h.2
theorem R4{b pre post:Bytes}{p:bf}{pos:Int}(hb:b=pre++(p.name++0::(p.inst++0::(p.aJ++0::post))))(hp:pos=pre.length)(hv:p.valid=Zd) :
  iA b pos=⟨p,pos+p.name.length+p.inst.length+p.aJ.length+3,0⟩:=by
 have hl:=cq hv;have Ax:=hv;simp only[bf.valid,Zg] at Ax;have h1:=zI hb hp hl.1 (BT Ax.1.1);have h2:=zI (b:=b) (pre:=pre++(p.name++[0])) (s:=p.inst) (post:=p.aJ++0::post) (pos:=pos+p.name.length+1) (by rw[hb];simp) (by rw[hp];simp;omega) hl.2.1 (tF Ax.1.2);have h3:=zI (b:=b) (pre:=pre++(p.name++[0])++(p.inst++[0])) (s:=p.aJ) (post:=post) (pos:=pos+p.name.length+1+p.inst.length+1) (by rw[hb];simp) (by rw[hp];simp;omega) hl.2.2 (zj Ax.2);unfold iA;simp only[h1,h2,h3];have e:bf.mk p.name p.inst p.aJ=p:=rfl;simp only[e,hv,ne_eq,not_true_eq_false,if_false,if_true];congr 1;omega
theorem qx(n:Int)(i:Nat):((c9 n i).toNat:Int)=n / 2 ^ (8*i) % 256:=by
 unfold c9;have h1:=Int.emod_nonneg (n / 2 ^ (8*i)) (by omega:(256:Int)≠0);have h2:=Int.emod_lt_of_pos (n / 2 ^ (8*i)) (by omega:(0:Int)<256);rw[UInt8.toNat_ofNat_of_lt' (by show _<256;omega)];omega
theorem Sm{n:Int}{k:Nat}{aq:Bool}(hk:k=1\/k=2\/k=4)(h0:0<=n)(h1:n<256 ^ k):km (cond aq (aN n k aq).reverse (aN n k aq))=n:=by
 have e0:=qx n 0;have e1:=qx n 1;have e2:=qx n 2;have e3:=qx n 3;simp only[Nat.mul_zero,Nat.mul_one,Int.pow_zero,Int.ediv_one] at e0 e1 e2 e3;rcases hk with rfl | rfl | rfl
 ·have hv:km (cond aq (aN n 1 aq).reverse (aN n 1 aq))=((c9 n 0).toNat:Int):=by cases aq<;>simp[aN,km,List.range_succ]
  rw[hv,e0];simp at h1;omega
 ·have hv:km (cond aq (aN n 2 aq).reverse (aN n 2 aq))=((c9 n 1).toNat:Int)*256+((c9 n 0).toNat:Int):=by cases aq<;>simp[aN,km,List.range_succ]
  rw[hv,e0,e1];simp at h1 ⊢;omega
 ·have hv:km (cond aq (aN n 4 aq).reverse (aN n 4 aq))=((((c9 n 3).toNat:Int)*256+((c9 n 2).toNat:Int))*256+((c9 n 1).toNat:Int))*256+((c9 n 0).toNat:Int):=by cases aq<;>simp[aN,km,List.range_succ]
  rw[hv,e0,e1,e2,e3];simp at h1 ⊢;omega
theorem get_at{b pre post:Bytes}{pos n:Int}{k:Nat}{aq:Bool}(hb:b=pre++(aN n k aq++post))(hp:pos=pre.length)(hk:k=1\/k=2\/k=4)(h0:0<=n)(h1:n<256 ^ k) :
  get b pos k aq=⟨n,pos+k,0⟩:=by
 have hl:=af n k aq;have hr:room b pos k=0:=mI.2 (by subst hb;simp[hl];omega);have hc:cut b pos k=aN n k aq:=by
  subst hb;subst hp;simp only[cut,Zj,List.drop_left];rw[List.take_append_of_le_length (by omega),List.take_of_length_le (by omega)]
 unfold get;rw[Qa1 hr,hc,Sm hk h0 h1]
theorem NH{b pre s post:Bytes}{pos n:Int}(hb:b=pre++(s++post))(hp:pos=pre.length)(hn:n=s.length):bytes b pos n=⟨s,pos+n,0⟩:=by
 have hr:room b pos n=0:=mI.2 (by subst hb;simp;omega);have hc:cut b pos n=s:=by
  subst hb;subst hp;subst hn;simp[cut]
 unfold bytes;rw[Qa1 hr,hc]
theorem zb(r:m7):(dQ r).val.length<=2000:=by
 unfold dQ;split
 ·simp
 split
 ·simp
 split
 ·simp
 rename_i g1 g2 g3;simp only[Zh,Zn] at g1;have h1:=cq g1;have h4:=jv 2 r.aq;simp only[ai,af,List.length_append];omega
theorem OA{k:Int}(h0:0<=k)(h1:k<18446744073709551616):Zy .i64 (Int.fdiv k ((2:Int) ^ min (Zx (56:Int)) (Yz .u64)))=kf k:=by
 have e:min (Zx (56:Int)) (Yz .u64)=56:=by decide
 rw[e,Xz _ (Int.le_of_lt (Int.pow_pos (by omega)))];unfold kf;have e2:(2:Int) ^ 56=72057594037927936:=by decide
 rw[e2,wrap_i64 (by omega) (by omega)]
theorem OB{k:Int}(h0:0<=k)(h1:k<18446744073709551616):Zy .i64 (Zy .u64 (((BitVec.ofInt (Yz .u64) k &&& BitVec.ofInt (Yz .u64) (72057594037927935:Int)).toNat:Nat):Int))=jI k:=by
 obtain⟨m,rfl⟩:=Yu h0;have hb:Yz .u64=64:=rfl;have e2:(BitVec.ofInt 64 ((m:Nat):Int) &&& BitVec.ofInt 64 (72057594037927935:Int)).toNat=m % 72057594037927936:=by
  have e3:BitVec.ofInt 64 (72057594037927935:Int)=BitVec.ofNat 64 (2 ^ 56-1):=by decide
  rw[BitVec.ofInt_natCast,e3,BitVec.toNat_and,BitVec.toNat_ofNat,BitVec.toNat_ofNat,Yv (by omega),Yv (by decide),Nat.and_two_pow_sub_one_eq_mod]
 rw[hb,e2,wrap_u64];unfold jI;rw[wrap_i64 (by omega) (by omega)];omega
theorem OC{c n:Int}(hc:c=1\/c=2)(h0:1<=n)(h1:n<=4294967295):Zy .u64 (((BitVec.ofInt (Yz .u64) (Zy .u64 (Zy .u64 c*(2:Int) ^ min (Zx (56:Int)) (Yz .u64))) ||| BitVec.ofInt (Yz .u64) (Zy .u64 n)).toNat:Nat):Int)=c*72057594037927936+n:=by
 have e:min (Zx (56:Int)) (Yz .u64)=56:=by decide
 have hb:Yz .u64=64:=rfl;obtain⟨m,rfl⟩:=Yu (by omega:0<=n);obtain⟨d,rfl⟩:=Yu (by omega:0<=c);have e2:(2:Int) ^ 56=72057594037927936:=by decide
 rw[e,e2,wrap_u64,wrap_u64,wrap_u64,wrap_u64,hb];have q1:((d:Int) % 18446744073709551616*72057594037927936) % 18446744073709551616=((2 ^ 56*d:Nat):Int):=by omega
 have q2:((m:Int) % 18446744073709551616)=((m:Nat):Int):=by omega
 rw[q1,q2];have e3:(BitVec.ofInt 64 ((2 ^ 56*d:Nat):Int) ||| BitVec.ofInt 64 ((m:Nat):Int)).toNat=2 ^ 56*d+m:=by
  rw[BitVec.ofInt_natCast,BitVec.ofInt_natCast,BitVec.toNat_or,BitVec.toNat_ofNat,BitVec.toNat_ofNat,Yv (by omega),Yv (by omega)];exact(Yh (by omega) d).symm
 rw[e3];omega
theorem Py{n:Int}(c:UInt8)(h0:0<=n)(h1:n<72057594037927936):Zy .u64 ((BitVec.ofInt (Yz .u64) (Zy .u64 (n*2 ^ min (Zx 8) (Yz .u64))) ||| BitVec.ofInt (Yz .u64) (Zy .u64 (c.toNat:Int))).toNat:Int)=n*256+c.toNat:=by
 obtain⟨m,rfl⟩:=Yu h0;have hc:=c.toNat_lt;have e:min (Zx 8) (Yz .u64)=8:=by decide
 have hb:Yz .u64=64:=rfl;rw[e,wrap_u64,wrap_u64,wrap_u64,hb];have q1:((m:Int)*2 ^ 8) % 18446744073709551616=((2 ^ 8*m:Nat):Int):=by omega
 have q2:((c.toNat:Int) % 18446744073709551616)=((c.toNat:Nat):Int):=by omega
 rw[q1,q2];have e2:(BitVec.ofInt 64 ((2 ^ 8*m:Nat):Int) ||| BitVec.ofInt 64 ((c.toNat:Nat):Int)).toNat=2 ^ 8*m+c.toNat:=by
  rw[BitVec.ofInt_natCast,BitVec.ofInt_natCast,BitVec.toNat_or,BitVec.toNat_ofNat,BitVec.toNat_ofNat,Yv (by omega),Yv (by omega)];exact(Yh hc m).symm
 rw[e2];omega
theorem RM(k:Int):kf k*72057594037927936+jI k=k:=by
 unfold kf jI;omega
theorem Ip{l:Bytes}(h:l.length<=8):0<=km l/\km l<18446744073709551616:=by
 obtain⟨m,h1,h2⟩:=BS l;have:256 ^ l.length<=256 ^ 8:=Yb (by omega) h;rw[h1];omega
theorem QU{l:Bytes}(h:l.length<=7):0<=km l/\km l<72057594037927936:=by
 obtain⟨m,h1,h2⟩:=BS l;have:256 ^ l.length<=256 ^ 7:=Yb (by omega) h;rw[h1];omega
theorem ag(k:Int):(keyBytes k).length=8:=by simp[keyBytes]
theorem my(b:Bytes):0<=(eQ b).1/\(eQ b).1<18446744073709551616:=by
 unfold eQ;split
 ·rename_i h;exact Ip (by omega)
 ·simp
theorem jG(b:Bytes)(pos n:Int):(bytes b pos n).val.length<=b.length:=by
 unfold bytes;split
 ·simp[cut];omega
 ·simp
theorem qT(b:Bytes):(pad b).length=b.length+(8-b.length % 8) % 8:=by simp[pad]
theorem UP{n:Nat}(h:n<=70368744177664):Int.tmod (Zy .i64 ((8:Int)-Int.tmod (n:Int) 8)) 8=(((8-n % 8) % 8:Nat):Int):=by
 rw[Yp (a:=(n:Int)) (by omega),wrap_i64 (by omega) (by omega),Yp (by omega)];omega
theorem z8(r:gF)(aq:Bool):(bR r aq).val.length<=392:=by
 unfold bR;split
 ·simp
 split
 ·simp
 split
 ·simp
 split
 ·simp
 rename_i g0 g1 g2 g3;simp only[Zh,Zn] at g1;have h1:=cq g1;simp only[qT,ai,af,ag,List.length_append];omega
theorem z9{r:gF}{aq:Bool}(h:(bR r aq).err=0) :
  bm r.aB=Zd/\r.service.valid=Zd/\(0<=r.cl/\r.cl<=255)/\(0<=r.bO/\r.bO<=255)/\(0<=r.time/\r.time<=4294967295)/\r.aI.length<=255 /\
  (bR r aq).val=pad (cC (aN (cond aq 1 0) 1 Zp++keyBytes r.aB) r.service++aN r.cl 1 Zp++aN r.bO 1 Zp++aN r.aI.length 1 Zp++r.aI++aN r.time 4 aq):=by
 unfold bR at h;split at h
 ·cases h
 split at h
 ·cases h
 split at h
 ·cases h
 split at h
 ·cases h
 rename_i g0 g1 g2 g3;have hval:(bR r aq).val=pad (cC (aN (cond aq 1 0) 1 Zp++keyBytes r.aB) r.service++aN r.cl 1 Zp++aN r.bO 1 Zp++aN r.aI.length 1 Zp++r.aI++aN r.time 4 aq):=by
  unfold bR;rw[Qa0 g0,Qa0 g1,Qa0 g2,Qa0 g3]
 simp only[Zh,Zn,Zg] at g0 g1 g2;obtain⟨⟨w1,w2⟩,w3⟩:=g2;simp only[within,Zg,Qa2] at w1 w2 w3;exact⟨g0,g1,w1,w2,w3,by omega,hval⟩
theorem wrap_u16(x:Int):Zy .u16 x=x % 65536:=by
 rw[Zy];rfl
theorem JX{b:Bytes}{how:Int}(h0:0<=how)(h1:how<=65535)(hb:0<b.length):0<=l9 b how/\l9 b how<b.length:=by
 unfold l9;rw[Int.tdiv_eq_ediv_of_nonneg h0,wrap_u16,wrap_i64 (by omega) (by omega),Yp (by omega)];exact⟨Int.emod_nonneg _ (by omega),Int.emod_lt_of_pos _ (by omega)⟩
theorem MX(b:Bytes)(how:Int):(oJ b how).length<=2*b.length+1:=by grind [oJ]
end Kerb
/- Reading what was written: a place in a text, and what is behind it. -/
namespace Kerb
open Go Go.Abs
def At(b:Bytes)(pos:Int)(rest:Bytes):Prop:=∃ pre:Bytes,b=pre++rest/\pos=pre.length
theorem At.start(b:Bytes):At b 0 b:=⟨[],rfl,rfl⟩
theorem At.skip{b s rest:Bytes}{pos:Int}(h:At b pos (s++rest)):At b (pos+s.length) rest:=by
 obtain⟨pre,rfl,rfl⟩:=h;exact⟨pre++s,by simp,by simp⟩
theorem At.to{b rest:Bytes}{pos q:Int}(h:At b pos rest)(e:pos=q):At b q rest:=e ▸ h
theorem At.as{b rest S2:Bytes}{pos:Int}(h:At b pos rest)(e:rest=S2):At b pos S2:=e ▸ h
theorem At.get{b rest:Bytes}{pos n:Int}{k:Nat}{li:Bool}(h:At b pos (aN n k li++rest))(hk:k=1\/k=2\/k=4)(h0:0<=n)(h1:n<256 ^ k) :
  Kerb.get b pos k li=⟨n,pos+k,0⟩/\At b (pos+k) rest:=by
 have hs:=h.skip;rw[af] at hs;obtain⟨pre,hb,hp⟩:=h;exact⟨get_at hb hp hk h0 h1,hs⟩
theorem At.bytes{b s rest:Bytes}{pos n:Int}(h:At b pos (s++rest))(hn:n=s.length):Kerb.bytes b pos n=⟨s,pos+n,0⟩/\At b (pos+n) rest:=by
 have hs:=h.skip;obtain⟨pre,hb,hp⟩:=h;exact⟨NH hb hp hn,hn ▸ hs⟩
theorem At.text{b s rest:Bytes}{pos:Int}(h:At b pos (s++0::rest))(hs:s.length<=39)(h0:(0:UInt8) ∉ s):Kerb.text b pos=⟨s,pos+s.length+1,0⟩/\At b (pos+s.length+1) rest:=by
 have h2:At b (pos+s.length) ([0]++rest):=h.skip;have h3:=h2.skip;obtain⟨pre,hb,hp⟩:=h;exact⟨zI hb hp hs h0,h3⟩
theorem At.iA{b rest:Bytes}{p:bf}{pos:Int}(h:At b pos (p.name++0::(p.inst++0::(p.aJ++0::rest))))(hv:p.valid=Zd) :
  ∃ q,Kerb.iA b pos=⟨p,q,0⟩/\At b q rest:=by
 obtain⟨pre,hb,hp⟩:=h;have:=R4 hb hp hv;refine⟨_,this,pre++(p.name++0::(p.inst++0::(p.aJ++[0]))),by rw[hb];simp,?_⟩;rw[hp];simp;omega
end Kerb
/- Chapter 22: messages of kaservers, in plain words. -/
namespace Kerb
open Go Go.Abs
structure dX where
 op:Int
 user:bf
 bO:Int
 aJ:Bytes
 aI:Bytes
 service:Bytes
 inst:Bytes
 box:Bytes
def bf.zd(p:bf):Bool:=p.name==[]&&(p.inst==[]&&p.aJ==[])
def lN(n:Int):Bool:=n==1||(n==2||n==3)
def pq(op:Int):Bytes:=header 9 Zp++aN op 1 Zp
def cH(b:Bytes)(t:Bytes):Bytes:=b++aN t.length 2 Zp++t
def g_(b:Bytes)(t:Bytes):Bytes:=b++aN t.length 1 Zp++t
def aX(r:dX):ll :=
 if !lN r.op then⟨[],40⟩
 else if r.op==2 then
  if !(cJ r.aJ&&validName r.service&&bS r.inst) then⟨[],103⟩
  else if !within r.bO 255 then⟨[],104⟩
  else if 255<r.aI.length\/1012<r.box.length then⟨[],105⟩
  else if !r.user.zd then⟨[],108⟩
  else⟨cH (a_ (a_ (g_ (a_ (pq r.op++aN r.bO 1 Zp) r.aJ) r.aI) r.service) r.inst) r.box,0⟩
 else
  if !r.user.valid then⟨[],103⟩
  else if 1012<r.box.length then⟨[],105⟩
  else if r.bO≠0\/r.aJ≠[]\/r.aI≠[]\/r.service≠[]\/r.inst≠[] then⟨[],108⟩
  else⟨cH (cC (pq r.op) r.user) r.box,0⟩
def wU:dX:=⟨0,dg,0,[],[],[],[],[]⟩
structure Fv (α:Type) where
 val:α
 err:Int
def fU{α:Type}(no:α)(enc:α->ll)(rd:Bytes->α×Bool)(b:Bytes):Fv α :=
 if (rd b).2=Zd\/(enc (rd b).1).err≠0\/(enc (rd b).1).val≠b then⟨no,100⟩ else⟨(rd b).1,0⟩
def fQ(b:Bytes)(k:Int)(pos:Int)(bad:Bool):Rd Int :=
 cond (bad || !((get b pos k Zp).err==0)) ⟨0,pos,Zd⟩ ⟨(get b pos k Zp).val,(get b pos k Zp).next,Zp⟩
def mo(b:Bytes)(pos:Int)(bad:Bool):Rd Bytes :=
 cond (bad || !((text b pos).err==0)) ⟨[],pos,Zd⟩ ⟨(text b pos).val,(text b pos).next,Zp⟩
def dj(b:Bytes)(n:Int)(pos:Int)(bad:Bool):Rd Bytes :=
 cond (bad || !((bytes b pos n).err==0)) ⟨[],pos,Zd⟩ ⟨(bytes b pos n).val,(bytes b pos n).next,Zp⟩
def nk(b:Bytes)(pos:Int)(bad:Bool):Rd bf :=
 cond (bad || !((iA b pos).err==0)) ⟨dg,pos,Zd⟩ ⟨(iA b pos).val,(iA b pos).next,Zp⟩
def A8(b:Bytes)(pos:Int)(bad:Bool):Rd Int :=
 ⟨cond (eQ (dj b 8 pos bad).val).2 (eQ (dj b 8 pos bad).val).1 0,(dj b 8 pos bad).pos,(dj b 8 pos bad).bad || !(eQ (dj b 8 pos bad).val).2⟩
def Hj(b:Bytes):Rd dX :=
  let o:=fQ b 1 2 Zp
  cond (o.val==2)
    (let k:=fQ b 1 o.pos o.bad
     let r:=mo b k.pos k.bad
     let n:=fQ b 1 r.pos r.bad
     let t:=dj b n.val n.pos n.bad
     let s:=mo b t.pos t.bad
     let i:=mo b s.pos s.bad
     let m:=fQ b 2 i.pos i.bad
     let x:=dj b m.val m.pos m.bad
     ⟨⟨o.val,dg,k.val,r.val,t.val,s.val,i.val,x.val⟩,x.pos,x.bad⟩)
    (let u:=nk b o.pos o.bad
     let m:=fQ b 2 u.pos u.bad
     let x:=dj b m.val m.pos m.bad
     ⟨⟨o.val,u.val,0,[],[],[],[],x.val⟩,x.pos,x.bad⟩)
def mG(b:Bytes):dX×Bool:=((Hj b).val,(Hj b).bad)
def bn(b:Bytes):Fv dX :=
 if (bh b [9]).2≠0 then⟨wU,(bh b [9]).2⟩ else fU wU aX mG b
structure jE where
 op:Int
 code:Int
 box:Bytes
def cf(r:jE):ll :=
 if !lN r.op then⟨[],40⟩
 else if !within r.code 99 then⟨[],104⟩
 else if 1012<r.box.length then⟨[],105⟩
 else if r.code≠0/\r.box≠[] then⟨[],108⟩
 else⟨cH (pq (r.op+128)++aN r.code 1 Zp) r.box,0⟩
def tO:jE:=⟨0,0,[]⟩
def Yt(b:Bytes):Rd jE :=
 let o:=fQ b 1 2 Zp
 let c:=fQ b 1 o.pos o.bad
 let m:=fQ b 2 c.pos c.bad
 let x:=dj b m.val m.pos m.bad
 ⟨⟨o.val-128,c.val,x.val⟩,x.pos,x.bad⟩
def yp(b:Bytes):jE×Bool:=((Yt b).val,(Yt b).bad)
def dd(b:Bytes):Fv jE :=
 if (bh b [9]).2≠0 then⟨tO,(bh b [9]).2⟩ else fU tO cf yp b
def ve:Bytes:=[103,84,71,83]
def vf:Bytes:=[116,103,115,84]
def lQ:Bytes:=[103,84,75,84]
def qL:Bytes:=[116,107,116,71]
def fX:Bytes:=[67,80,87,108]
def o_:Bytes:=[67,80,87,100]
structure fe where
 label:Bytes
 time:Int
 start:Int
 stop:Int
 new:Int
def jf(l:Bytes):Bool:=l==ve||l==lQ
def aR(s:fe):ll :=
 if !jf s.label && !(s.label==fX) then⟨[],80⟩
 else if !within s.time 4294967295 then⟨[],104⟩
 else if jf s.label then
  if !(within s.start 4294967295&&within s.stop 4294967295) then⟨[],104⟩
  else if s.new≠0 then⟨[],108⟩
  else⟨pad (s.label++aN s.time 4 Zp++aN s.start 4 Zp++aN s.stop 4 Zp),0⟩
 else
  if !bm s.new then⟨[],10⟩
  else if s.start≠0\/s.stop≠0 then⟨[],108⟩
  else⟨pad (s.label++aN s.time 4 Zp++keyBytes s.new),0⟩
def qQ:fe:=⟨[],0,0,0,0⟩
def O_(b:Bytes):Rd fe :=
  let l:=dj b 4 0 Zp
  let t:=fQ b 4 l.pos l.bad
  cond (jf l.val)
    (let s:=fQ b 4 t.pos t.bad
     let e:=fQ b 4 s.pos s.bad
     ⟨⟨l.val,t.val,s.val,e.val,0⟩,e.pos,e.bad⟩)
    (let k:=A8 b t.pos t.bad
     ⟨⟨l.val,t.val,0,0,k.val⟩,k.pos,k.bad⟩)
def mH(b:Bytes):fe×Bool:=((O_ b).val,(O_ b).bad)
def cR(b:Bytes):Fv fe:=fU qQ aR mH b
structure gq where
 label:Bytes
 time:Int
 aB:Int
 start:Int
 stop:Int
 bO:Int
 service:bf
 aI:Bytes
def dD(l:Bytes):Bool:=l==vf||l==qL
def aZ(a:gq):ll :=
 if !dD a.label && !(a.label==o_) then⟨[],80⟩
 else if !within a.time 4294967295 then⟨[],104⟩
 else if dD a.label then
  if !bm a.aB then⟨[],10⟩
  else if !(within a.start 4294967295&&within a.stop 4294967295&&within a.bO 255) then⟨[],104⟩
  else if !a.service.valid then⟨[],103⟩
  else if 255<a.aI.length then⟨[],105⟩
  else⟨pad (g_ (cC (a.label++aN a.time 4 Zp++keyBytes a.aB++aN a.start 4 Zp++aN a.stop 4 Zp++aN a.bO 1 Zp) a.service) a.aI),0⟩
 else if a.aB≠0\/a.start≠0\/a.stop≠0\/a.bO≠0\/a.service.zd=Zp\/a.aI≠[] then⟨[],108⟩
 else⟨pad (a.label++aN a.time 4 Zp),0⟩
def qP:gq:=⟨[],0,0,0,0,0,dg,[]⟩
def Hi(b:Bytes):Rd gq :=
  let l:=dj b 4 0 Zp
  let t:=fQ b 4 l.pos l.bad
  cond (dD l.val)
    (let k:=A8 b t.pos t.bad
     let s:=fQ b 4 k.pos k.bad
     let e:=fQ b 4 s.pos s.bad
     let v:=fQ b 1 e.pos e.bad
     let p:=nk b v.pos v.bad
     let n:=fQ b 1 p.pos p.bad
     let x:=dj b n.val n.pos n.bad
     ⟨⟨l.val,t.val,k.val,s.val,e.val,v.val,p.val,x.val⟩,x.pos,x.bad⟩)
    ⟨⟨l.val,t.val,0,0,0,0,dg,[]⟩,t.pos,t.bad⟩
def k9(b:Bytes):gq×Bool:=((Hi b).val,(Hi b).bad)
def br(b:Bytes):Fv gq:=fU qP aZ k9 b
end Kerb
namespace Kerb
structure Ask where
 op:UInt8
 user:UInt8
 bO:UInt8
 service:UInt8
 label:UInt8
 time:Int
 start:Int
 stop:Int
 key:UInt8
 aI:Bytes
 box:Bytes
 extra:UInt8
def nt(x:UInt8):Int:=(x.toNat:Int)
def Ask.S1(a:Ask):Int:=1+nt a.op % 3
def Ask.ex(a:Ask):Nat:=a.extra.toNat % 16
def Ask.base(a:Ask):dX :=
 if a.S1=2 then⟨2,dg,nt a.bO,(Kerb.service (nt a.service)).aJ,a.aI,(Kerb.service (nt a.service)).name,(Kerb.service (nt a.service)).inst,a.box.take 900⟩
 else⟨a.S1,Kerb.user (nt a.user),0,[],[],[],[],a.box.take 900⟩
def ou(n:Int):Int:=Go.IntKind.wrap .u64 ((BitVec.ofInt (Go.IntKind.bits .u64) 72057594037927936 ||| BitVec.ofInt (Go.IntKind.bits .u64) (Go.IntKind.wrap .u64 (Go.IntKind.wrap .i64 (1+n)))).toNat:Int)
def Ask.lab(l0 l1 l2 l3:Bytes)(a:Ask):Bytes:=if a.label.toNat % 4=0 then l0 else if a.label.toNat % 4=1 then l1 else if a.label.toNat % 4=2 then l2 else l3
def Ask.JK(a:Ask):fe :=
 let l:=a.lab ve lQ fX o_
 let new:=if l=fX\/a.ex=10 then ou (nt a.key) else 0
 if l≠fX\/a.ex=9 then⟨l,a.time,a.start,a.stop,new⟩ else⟨l,a.time,0,0,new⟩
def Ask.answer(a:Ask):gq :=
 let l:=a.lab vf qL o_ ve
 if l=o_/\a.ex≠8 then⟨l,a.time,0,0,0,0,dg,[]⟩
 else⟨l,a.time,aB (nt a.key),a.start,a.stop,nt a.bO,Kerb.service (nt a.service),a.aI⟩
end Kerb
/- Chapter 22: what is written is read as it was. -/
namespace Kerb
open Go Go.Abs
theorem within_iff{n m:Int}:within n m=Zd↔0<=n/\n<=m:=by simp[within]
theorem GK{p:bf}:p.zd=Zd↔p=dg:=by
 obtain⟨a,b,c⟩:=p;simp[bf.zd,dg]
theorem wH{n:Int}:lN n=Zd↔n=1\/n=2\/n=3:=by simp[lN]
theorem N':header 9 Zp=[4,18]:=by decide
theorem wa{r:dX}(h:(aX r).err=0) :
  (r.op=2/\cJ r.aJ=Zd/\validName r.service=Zd/\bS r.inst=Zd/\(0<=r.bO/\r.bO<=255)/\r.aI.length<=255/\r.box.length<=1012/\r.user=dg /\
   (aX r).val=header 9 Zp++(aN r.op 1 Zp++(aN r.bO 1 Zp++(r.aJ++0::(aN r.aI.length 1 Zp++(r.aI++(r.service++0::(r.inst++0::(aN r.box.length 2 Zp++(r.box++[])))))))))) \/
  ((r.op=1\/r.op=3)/\r.user.valid=Zd/\r.box.length<=1012/\r.bO=0/\r.aJ=[]/\r.aI=[]/\r.service=[]/\r.inst=[] /\
   (aX r).val=header 9 Zp++(aN r.op 1 Zp++(r.user.name++0::(r.user.inst++0::(r.user.aJ++0::(aN r.box.length 2 Zp++(r.box++[]))))))):=by
 unfold aX at h ⊢;split at h
 ·cases h
 rename_i g0;rw[Qa0 g0];simp only[Zh,Zn,wH] at g0;split at h
 ·rename_i g1;rw[Qa1 g1];split at h
  ·cases h
  rename_i g2;rw[Qa0 g2];split at h
  ·cases h
  rename_i g3;rw[Qa0 g3];split at h
  ·cases h
  rename_i g4;rw[Qa0 g4];split at h
  ·cases h
  rename_i g5;rw[Qa0 g5];simp only[Zh,Zn,Zg,within_iff,GK] at g2 g3 g5;refine .inl ⟨by simpa using g1,g2.1.1,g2.1.2,g2.2,g3,by omega,by omega,g5,?_⟩;simp[cH,a_,g_,pq]
 ·rename_i g1;rw[Qa0 g1];split at h
  ·cases h
  rename_i g2;rw[Qa0 g2];split at h
  ·cases h
  rename_i g3;rw[Qa0 g3];split at h
  ·cases h
  rename_i g4;rw[Qa0 g4];simp only[Zh,Zn,Zg] at g2;simp only[ne_eq,not_or,Decidable.not_not] at g4;have g1':¬ r.op=2:=by simpa using g1
  refine .inr ⟨by omega,g2,by omega,g4.1,g4.2.1,g4.2.2.1,g4.2.2.2.1,g4.2.2.2.2,?_⟩;simp[cH,a_,cC,pq]
theorem Ea(r:dX):(aX r).val.length<=2000:=by
 by_cases h:(aX r).err=0
 ·rcases wa h with⟨ho,v1,v2,v3,hk,ht,hb,hu,hv⟩ | ⟨ho,v1,hb,hk,hr,ht,hs,hn,hv⟩
  ·have l1:=gQ v1;have l2:=ja v2;have l3:=ib v3;rw[hv,N'];simp[af];omega
  ·have l1:=cq v1;rw[hv,N'];simp[af];omega
 ·unfold aX at h ⊢;repeat' split
  all_goals first | simp | skip
  all_goals exfalso;simp_all
theorem D_{r:jE}(h:(cf r).err=0):(1<=r.op/\r.op<=3)/\(0<=r.code/\r.code<=99)/\r.box.length<=1012/\(cf r).val=header 9 Zp++(aN (r.op+128) 1 Zp++(aN r.code 1 Zp++(aN r.box.length 2 Zp++(r.box++[])))):=by
 unfold cf at h ⊢;split at h
 ·cases h
 rename_i g0;rw[Qa0 g0];simp only[Zh,Zn,wH] at g0;split at h
 ·cases h
 rename_i g1;rw[Qa0 g1];simp only[Zh,Zn,within_iff] at g1;split at h
 ·cases h
 rename_i g2;rw[Qa0 g2];split at h
 ·cases h
 rename_i g3;rw[Qa0 g3];exact⟨by omega,g1,by omega,by simp[cH,pq]⟩
theorem D'(r:jE):(cf r).val.length<=2000:=by
 by_cases h:(cf r).err=0
 ·obtain⟨ho,hc,hb,hv⟩:=D_ h;rw[hv,N'];simp[af];omega
 ·unfold cf at h ⊢;repeat' split
  all_goals first | simp | skip
  all_goals exfalso;simp_all
theorem A9(b:Bytes):∃ z,pad b=b++z/\z.length<=7:=⟨_,rfl,by simp;omega⟩
theorem M1{l:Bytes}:jf l=Zd↔l=ve\/l=lQ:=by simp[jf]
theorem Fj{l:Bytes}:dD l=Zd↔l=vf\/l=qL:=by simp[dD]
theorem qC{s:fe}(h:(aR s).err=0):(0<=s.time/\s.time<=4294967295) /\
    ((jf s.label=Zd/\s.label.length=4/\(0<=s.start/\s.start<=4294967295)/\(0<=s.stop/\s.stop<=4294967295)/\s.new=0/\∃ z,(aR s).val=s.label++(aN s.time 4 Zp++(aN s.start 4 Zp++(aN s.stop 4 Zp++z)))/\z.length<=7) \/
     (s.label=fX/\bm s.new=Zd/\s.start=0/\s.stop=0/\∃ z,(aR s).val=s.label++(aN s.time 4 Zp++(keyBytes s.new++z))/\z.length<=7)):=by
  unfold aR at h ⊢;split at h
  · cases h
  rename_i g0;rw[Qa0 g0];split at h
  · cases h
  rename_i g1;rw[Qa0 g1];simp only[Zh,Zn,within_iff] at g1;refine⟨g1,?_⟩;split at h
  · rename_i g2
    rw[Qa1 g2];split at h
    · cases h
    rename_i g3;rw[Qa0 g3];split at h
    · cases h
    rename_i g4;rw[Qa0 g4];simp only[Zh,Zn,Zg,within_iff] at g3;obtain⟨z,hz,hl⟩:=A9 (s.label++aN s.time 4 Zp++aN s.start 4 Zp++aN s.stop 4 Zp);refine .inl ⟨g2,?_,g3.1,g3.2,Decidable.byContradiction g4,z,?_,hl⟩
    · rcases M1.1 g2 with e | e<;>rw[e]<;>rfl
    · show pad _=_
      rw[hz];simp
  · rename_i g2
    rw[Qa0 g2];split at h
    · cases h
    rename_i g3;rw[Qa0 g3];split at h
    · cases h
    rename_i g4;rw[Qa0 g4];obtain⟨z,hz,hl⟩:=A9 (s.label++aN s.time 4 Zp++keyBytes s.new);have g2':jf s.label=Zp:=by simpa using g2
    refine .inr ⟨by simpa [g2'] using g0,by simpa using g3,by omega,by omega,z,?_,hl⟩;show pad _=_;rw[hz];simp
theorem wb(s:fe):(aR s).val.length<=100:=by
 by_cases h:(aR s).err=0
 ·obtain⟨ht,⟨hl,Z4,hs,he,hn,z,hv,_⟩ | ⟨hl,hk,hs,he,z,hv,_⟩⟩:=qC h
  ·rw[hv];simp[af];omega
  ·rw[hv,hl];simp[af,ag,fX];omega
 ·unfold aR at h ⊢;repeat' split
  all_goals first | simp | skip
  all_goals exfalso;simp_all
theorem qB{a:gq}(h:(aZ a).err=0):(0<=a.time/\a.time<=4294967295) /\
    ((dD a.label=Zd/\a.label.length=4/\bm a.aB=Zd/\(0<=a.start/\a.start<=4294967295)/\(0<=a.stop/\a.stop<=4294967295)/\(0<=a.bO/\a.bO<=255)/\a.service.valid=Zd/\a.aI.length<=255 /\
        (aZ a).val=pad (a.label++(aN a.time 4 Zp++(keyBytes a.aB++(aN a.start 4 Zp++(aN a.stop 4 Zp++(aN a.bO 1 Zp++(a.service.name++0::(a.service.inst++0::(a.service.aJ++0::(aN a.aI.length 1 Zp++a.aI))))))))))) \/
     (a.label=o_/\a.aB=0/\a.start=0/\a.stop=0/\a.bO=0/\a.service=dg/\a.aI=[]/\(aZ a).val=pad (a.label++aN a.time 4 Zp))):=by
  unfold aZ at h ⊢;split at h
  · cases h
  rename_i g0;rw[Qa0 g0];split at h
  · cases h
  rename_i g1;rw[Qa0 g1];simp only[Zh,Zn,within_iff] at g1;refine⟨g1,?_⟩;split at h
  · rename_i g2
    rw[Qa1 g2];split at h
    · cases h
    rename_i g3;rw[Qa0 g3];split at h
    · cases h
    rename_i g4;rw[Qa0 g4];split at h
    · cases h
    rename_i g5;rw[Qa0 g5];split at h
    · cases h
    rename_i g6;rw[Qa0 g6];simp only[Zh,Zn,Zg,within_iff] at g3 g4 g5;refine .inl ⟨g2,?_,g3,g4.1.1,g4.1.2,g4.2,g5,by omega,?_⟩
    · rcases Fj.1 g2 with e | e<;>rw[e]<;>rfl
    · show pad _=pad _
      congr 1;simp[g_,cC,a_]
  · rename_i g2
    rw[Qa0 g2];split at h
    · cases h
    rename_i g3;rw[Qa0 g3];have g2':dD a.label=Zp:=by simpa using g2
    simp only[ne_eq,not_or,Decidable.not_not,Zn,GK] at g3;exact .inr ⟨by simpa [g2'] using g0,g3.1,g3.2.1,g3.2.2.1,g3.2.2.2.1,g3.2.2.2.2.1,g3.2.2.2.2.2,rfl⟩
theorem v_(a:gq):(aZ a).val.length<=408:=by
 by_cases h:(aZ a).err=0
 ·obtain⟨ht,⟨hl,Z4,hk,hs,he,hv,hp,hx,hb⟩ | ⟨hl,hk,hs,he,hv,hp,hx,hb⟩⟩:=qB h
  ·have l1:=cq hp;rw[hb,qT];simp[af,ag];omega
  ·rw[hb,qT,hl];simp[af,o_]
 ·unfold aZ at h ⊢;repeat' split
  all_goals first | simp | skip
  all_goals exfalso;simp_all
theorem mE(b:Bytes)(n pos:Int)(bad:Bool):(dj b n pos bad).val.length<=b.length:=by
 unfold dj;cases bad || !((bytes b pos n).err==0)
 ·exact jG b pos n
 ·exact Nat.zero_le _
theorem F8{r:dX}(h:(aX r).err≠0):(aX r).val=[]:=by grind [aX]
theorem gh{α:Type}{no:α}{enc:α->ll}{rd:Bytes->α×Bool}{b:Bytes}(R:α)(bad:Bool)(h:rd b=(R,bad)){β:Type}(f:α->Int->β) :
  aE bad (Yq (f no 100)) (aE (!((enc R).err==0)) (Yq (f no 100)) (aE (!((enc R).val==b)) (Yq (f no 100)) (Yq (f R 0))))=Yq (f (fU no enc rd b).val (fU no enc rd b).err):=by
 unfold fU;rw[h];cases bad;case true=>rw[Qa1 (.inl rfl)];rfl
 rw[aA];by_cases h1:(enc R).err=0
 ·rw[aj (by simp[h1])];by_cases h2:(enc R).val=b
  ·rw[aj (by simp[h2]),Qa0 (by simp[h1,h2])]
  ·rw[ah (by simpa using h2),Qa1 (.inr (.inr h2))]
 ·rw[ah (by simpa using h1),Qa1 (.inr (.inl h1))]
theorem TR(b:Bytes)(pos k:Int)(li:Bool)(hk:k<=4):0<=(get b pos k li).val/\(get b pos k li).val<4294967296:=by
 unfold get;split
 ·rename_i h;have:=kJ h;exact K8 (by cases li<;>simp[this]<;>omega)
 ·simp
theorem RX(b:Bytes)(k pos:Int)(bad:Bool)(hk:k<=4):0<=(fQ b k pos bad).val/\(fQ b k pos bad).val<4294967296:=by
 unfold fQ;cases bad || !((get b pos k Zp).err==0)
 ·exact TR b pos k Zp hk
 ·simp
theorem Ms(b:Bytes)(pos:Int)(bad:Bool):(mo b pos bad).val.length<=40:=by
 unfold mo;cases bad || !((text b pos).err==0)
 ·exact jC b pos
 ·exact Nat.zero_le _
theorem Dg(b:Bytes)(pos:Int)(bad:Bool):(nk b pos bad).val.name.length<=40/\(nk b pos bad).val.inst.length<=40/\(nk b pos bad).val.aJ.length<=40:=by
 unfold nk;cases bad || !((iA b pos).err==0)
 ·exact oE b pos
 ·exact⟨Nat.zero_le _,Nat.zero_le _,Nat.zero_le _⟩
theorem zB(b:Bytes)(pos:Int)(bad:Bool):0<=(A8 b pos bad).val/\(A8 b pos bad).val<18446744073709551616:=by
 unfold A8;simp only;cases (eQ (dj b 8 pos bad).val).2
 ·simp
 ·exact my _
theorem K5(x:UInt8)(k:Nat)(hk:0<k):Zx (Int.tmod (x.toNat:Int) (k:Int))=x.toNat % k:=by
 rw[Yp (by omega)];omega
theorem KH(n:Int):0<=ou n/\ou n<18446744073709551616:=by
 unfold ou;rw[wrap_u64];omega
theorem tf(n:Int):0<=aB n/\aB n<18446744073709551616:=by
 unfold aB;rw[wrap_u64];omega
theorem F9{r:fe}(h:(aR r).err≠0):(aR r).val=[]:=by grind [aR]
theorem Eb{s:fe}(h:(aR s).err=0) :
  (jf s.label=Zd/\(aR s).val=pad (s.label++aN s.time 4 Zp++aN s.start 4 Zp++aN s.stop 4 Zp))\/(jf s.label=Zp/\(aR s).val=pad (s.label++aN s.time 4 Zp++keyBytes s.new)):=by grind [aR]
theorem F7{r:gq}(h:(aZ r).err≠0):(aZ r).val=[]:=by grind [aZ]
end Kerb
/- Sorting a row of keys: the words. -/
namespace Kerb
open Go Go.Abs
def ny(els:List AV):List Int:=els.map fun | .int _ n=>n | _=>0
def ep(els:List AV):Bool:=els.all fun | .int .u64 _=>Zd | _=>Zp
def cM(els:List AV):Array Int:=(ny els).toArray
def back(d:Array Int):List AV:=d.toList.map (Zw .u64)
def Gq(h:Go.Sort.Hint):Int:=match h with | .unknown=>0 | .increasing=>1 | .decreasing=>2
def J3(x:Int):Int:=((Go.Sort.xorNext (UInt64.ofNat x.toNat)).toNat:Int)
noncomputable def ok(_:Int):Bool := @decide True (Classical.propDecidable True)
theorem EP(x:Int):ok x=Zd:=by
 unfold ok;exact @Qa4 True (Classical.propDecidable True) trivial
def nn(a:Int):Bool:=Zq (0<=a)
def order2(els:List AV)(a b s:Int):Nat×Nat×Nat:=Go.Sort.order2 Go.Sort.ltInt (cM els) a.toNat b.toNat s.toNat
def median(els:List AV)(a b c s:Int):Nat×Nat:=Go.Sort.median Go.Sort.ltInt (cM els) a.toNat b.toNat c.toNat s.toNat
def EG(els:List AV)(a s:Int):Nat×Nat:=Go.Sort.medianAdjacent Go.Sort.ltInt (cM els) a.toNat s.toNat
def Hm(els:List AV)(a b:Int):Nat×Go.Sort.Hint:=Go.Sort.choosePivot Go.Sort.ltInt (cM els) a.toNat b.toNat
def zs(els:List AV)(a b:Int):List AV:=back (Go.Sort.insertionSort Go.Sort.ltInt (cM els) a.toNat b.toNat)
def Ks(els:List AV)(a b:Int):List AV:=back (Go.Sort.heapSort Go.Sort.ltInt (cM els) a.toNat b.toNat)
def R6(els:List AV)(a b:Int):List AV:=back (Go.Sort.reverseRange (cM els) a.toNat b.toNat)
def DX(els:List AV)(a b:Int):List AV:=back (Go.Sort.breakPatterns (cM els) a.toNat b.toNat)
def wZ(els:List AV)(a b:Int):List AV×Bool:=(back (Go.Sort.partialInsertionSort Go.Sort.ltInt (cM els) a.toNat b.toNat).1,(Go.Sort.partialInsertionSort Go.Sort.ltInt (cM els) a.toNat b.toNat).2)
def part(els:List AV)(a b p:Int):Nat×Bool×List AV:=((Go.Sort.partition Go.Sort.ltInt (cM els) a.toNat b.toNat p.toNat).1,(Go.Sort.partition Go.Sort.ltInt (cM els) a.toNat b.toNat p.toNat).2.1,back (Go.Sort.partition Go.Sort.ltInt (cM els) a.toNat b.toNat p.toNat).2.2)
def ER(els:List AV)(a b p:Int):Nat×List AV:=((Go.Sort.partitionEqual Go.Sort.ltInt (cM els) a.toNat b.toNat p.toNat).1,back (Go.Sort.partitionEqual Go.Sort.ltInt (cM els) a.toNat b.toNat p.toNat).2)
def sift(els:List AV)(lo hi first:Int):List AV:=back (Go.Sort.siftDown Go.Sort.ltInt hi.toNat first.toNat lo.toNat (cM els))
def O'(els:List AV)(a b l:Int):List AV:=back (Go.Sort.pdq Go.Sort.ltInt (cM els) a.toNat b.toNat l.toNat Zd Zd)
def yV(els:List AV):List AV:=back (Go.Sort.sort Go.Sort.ltInt (cM els))
def RN(x:Int):Int:=(Go.Sort.bitsLen x.toNat:Int)
def Pa(n:Int):Int:=((1 <<< Go.Sort.bitsLen n.toNat:Nat):Int)
theorem aU(d:Array Int):(back d).length=d.size:=by simp[back]
theorem n9{d:Array Int}{i:Nat}(h:i<d.size):(back d).getD i .undef = .int .u64 d[i]! := by
 simp[back,Zk,h]
theorem NC(d:Array Int)(i:Nat)(v:Int):(back d).set i (.int .u64 v)=back (d.setIfInBounds i v):=by
 simp[back,List.map_set]
theorem eD(d:Array Int):cM (back d)=d:=by
 apply Array.ext';simp[cM,back,ny,Function.comp_def]
theorem FJ{els:List AV}(h:ep els=Zd):back (cM els)=els:=by
 simp only[back,cM,ny,List.map_map];rw[show(els.map (Zw .u64∘fun | .int _ n=>n | _=>0))=els.map id from List.map_congr_left fun a ha=> ?_,List.map_id];simp only[ep,List.all_eq_true] at h;have:=h a ha;split at this
 ·rfl
 ·cases this
theorem lW{els:List AV}(h:ep els=Zd):∃ d,els=back d/\cM els=d:=⟨cM els,(FJ h).symm,rfl⟩
theorem swp_size(d:Array Int)(i j:Nat):(Go.Sort.swp d i j).size=d.size:=by simp[Go.Sort.swp]
theorem gE{n:Int}(h1 : -9223372036854775808<=n)(h2:n<9223372036854775808):Zy .i64 n=n:=by
 unfold Zy;simp[Yz,Yj];omega
theorem rd{α:Type}{d:Array Int}{n:Nat}(hn:n<d.size)(f:Int->Option α):az (Zq ((0:Int)<=(n:Int))&&Zq ((n:Int)<((back d).length:Int))&&Zd) (az (Zb (Zx (n:Int)) (back d).length&&Zd) (Zf .u64 (Zk (back d) (Zx (n:Int)) .undef) f))=f d[n]! := by
 rw[ae (by simp[aU];omega),ae (by simp[aU];omega),Zj,n9 hn,cT]
theorem wr{α:Type}{d:Array Int}{n:Nat}(hn:n<d.size){c:Bool}(hc:c=Zd)(X:Option α):az (Zq ((0:Int)<=(n:Int))&&Zq ((n:Int)<((back d).length:Int))&&Zd) (az (Zb (Zx (n:Int)) (back d).length&&Zd) (Zf .u64 (Zk (back d) (Zx (n:Int)) .undef) fun _=>az c X))=X:=by
 rw[rd hn,ae hc]
theorem cU(d:Array Int)(n:Nat)(v:Int):(back d).set (Zx (n:Int)) (.int .u64 v)=back (d.setIfInBounds n v):=by rw[Zj,NC]
theorem sw{α:Type}{d:Array Int}{p q:Nat}(hp:p<d.size)(hq:q<d.size)(X:List AV->Option α) :
  az (Zq ((0:Int)<=(q:Int))&&Zq ((q:Int)<((back d).length:Int))&&Zd) (az (Zb (Zx (q:Int)) (back d).length&&Zd) (Zf .u64 (Zk (back d) (Zx (q:Int)) .undef) fun x=>az (Zq ((0:Int)<=(p:Int))&&Zq ((p:Int)<((back d).length:Int))&&Zd) (az (Zb (Zx (p:Int)) (back d).length&&Zd) (Zf .u64 (Zk (back d) (Zx (p:Int)) .undef) fun y=>az (Zq ((0:Int)<=(p:Int))&&Zq ((p:Int)<((back d).length:Int))&&Zd) (az (Zb (Zx (p:Int)) (back d).length&&Zd) (Zf .u64 (Zk (back d) (Zx (p:Int)) .undef) fun _=>az (Zv [Zw .u64 x]==nat_lit 1&&Zd&&Zd&&Zd&&Zb (Zx (p:Int)) (Zv (back d))) (az (Zq ((0:Int)<=(q:Int))&&Zq ((q:Int)<(((back d).set (Zx (p:Int)) (.int .u64 x)).length:Int))&&Zd) (az (Zb (Zx (q:Int)) ((back d).set (Zx (p:Int)) (.int .u64 x)).length&&Zd) (Zf .u64 (Zk ((back d).set (Zx (p:Int)) (.int .u64 x)) (Zx (q:Int)) .undef) fun _=>az (Zv [Zw .u64 y]==nat_lit 1&&Zd&&Zd&&Zd&&Zb (Zx (q:Int)) (Zv ((back d).set (Zx (p:Int)) (.int .u64 x)))) (X (((back d).set (Zx (p:Int)) (.int .u64 x)).set (Zx (q:Int)) (.int .u64 y))))))))))))=X (back (Go.Sort.swp d p q)):=by
 rw[rd hq,rd hp,wr hp (by simp[aU];exact hp),cU,wr (by rw[Xy];exact hq) (by simp[aU];exact hq),cU];rfl
theorem dA(d:Array Int):ep (back d)=Zd:=by simp[ep,back]
theorem MG{lt:Int->Int->Bool}{hi f:Nat}:∀ (n root:Nat) (d:Array Int),hi-root<=n->(Go.Sort.siftDown lt hi f root d).size=d.size:=by
 intro n;induction n with
 | zero =>
  intro root d h;unfold Go.Sort.siftDown;rw[dif_pos (by omega)]
 | succ n ih =>
  intro root d h;unfold Go.Sort.siftDown;split
  ·rfl
  ·split
   ·split
    ·rfl
    ·split
     ·rw[ih _ _ (by omega),swp_size]
     ·rfl
   ·split
    ·rfl
    ·rw[ih _ _ (by omega),swp_size]
theorem uJ{lt:Int->Int->Bool}{hi f root:Nat}{d:Array Int}:(Go.Sort.siftDown lt hi f root d).size=d.size:=MG _ root d (Nat.le_refl _)
theorem qb{lt:Int->Int->Bool}{d:Array Int}{a b s n:Nat}(ha:a<n)(hb:b<n):(Go.Sort.order2 lt d a b s).1<n/\(Go.Sort.order2 lt d a b s).2.1<n/\(Go.Sort.order2 lt d a b s).2.2<=s+1:=by
 unfold Go.Sort.order2;split<;>simp only<;>omega
theorem Mc{lt:Int->Int->Bool}{d:Array Int}{a b c s n:Nat}(ha:a<n)(hb:b<n)(hc:c<n):(Go.Sort.median lt d a b c s).1<n/\(Go.Sort.median lt d a b c s).2<=s+3:=by
 unfold Go.Sort.median;have h1:=qb (lt:=lt) (d:=d) (s:=s) ha hb;have h2:=qb (lt:=lt) (d:=d) (s:=(Go.Sort.order2 lt d a b s).2.2) h1.2.1 hc;have h3:=qb (lt:=lt) (d:=d) (s:=(Go.Sort.order2 lt d (Go.Sort.order2 lt d a b s).2.1 c (Go.Sort.order2 lt d a b s).2.2).2.2) h1.1 h2.1;exact⟨h3.2.1,by dsimp only;omega⟩
end Kerb
/- The scans of the partitions. -/
namespace Kerb
open Go Go.Abs
abbrev lg(d:Array Int)(a i j:Nat):List AV:=[Yy (back d),Zw .i64 (a:Int),Zw .i64 (i:Int),Zw .i64 (j:Int)]
theorem ZL{step:List AV->Option (List AV ⊕ (Ex×List AV))}{p:Int->Bool}{d:Array Int}{a j e:Nat}
  (h:∀ i,i<=j->step (lg d a i j)=if p d[i]! = Zd then Yq (.inl (lg d a (i+1) j)) else Yq (.inr (.exit e,lg d a i j)))
  (h2:∀ i,j<i->step (lg d a i j)=Yq (.inr (.exit e,lg d a i j))):∀ (m i:Nat),j+1-i=m->∃ n,dW step n (lg d a i j)=Yq (.exit e,lg d a (Go.Sort.scanUp p d j i) j):=by
 intro m;induction m with
 | zero =>
  intro i hi;refine⟨1,?_⟩;unfold dW;rw[h2 i (by omega)];unfold Go.Sort.scanUp;rw[Qa0 (by simp;omega)]
 | succ m ih =>
  intro i hi;by_cases hp:p d[i]! = Zd
  ·obtain⟨n,hn⟩:=ih (i+1) (by omega);refine⟨n+1,?_⟩;unfold dW;rw[h i (by omega),Qa1 hp];unfold Go.Sort.scanUp;rw[Qa1 (by simp[hp];omega)];exact hn
  ·refine⟨1,?_⟩;unfold dW;rw[h i (by omega),Qa0 hp];unfold Go.Sort.scanUp;rw[Qa0 (by simp[hp])]
theorem NM{step:List AV->Option (List AV ⊕ (Ex×List AV))}{p:Int->Bool}{d:Array Int}{a i e:Nat}
  (h:∀ j,i<=j+1->j+1<d.size->step (lg d a i (j+1))=if p d[j+1]! = Zd then Yq (.inl (lg d a i j)) else Yq (.inr (.exit e,lg d a i (j+1))))
  (h2:∀ j,j<i->step (lg d a i j)=Yq (.inr (.exit e,lg d a i j))) (hi:1<=i):∀ (j:Nat),j<d.size->∃ n,dW step n (lg d a i j)=Yq (.exit e,lg d a i (Go.Sort.scanDown p d i j)):=by
 intro j;induction j with
 | zero =>
  intro hj;refine⟨1,?_⟩;unfold dW;rw[h2 0 (by omega)];rfl
 | succ j ih =>
  intro hj;by_cases hc:i<=j+1
  ·by_cases hp:p d[j+1]! = Zd
   ·obtain⟨n,hn⟩:=ih (by omega);refine⟨n+1,?_⟩;unfold dW;rw[h j hc hj,Qa1 hp];unfold Go.Sort.scanDown;rw[Qa1 (by simp[hp];omega)];exact hn
   ·refine⟨1,?_⟩;unfold dW;rw[h j hc hj,Qa0 hp];unfold Go.Sort.scanDown;rw[Qa0 (by simp[hp])]
  ·refine⟨1,?_⟩;unfold dW;rw[h2 _ (by omega)];unfold Go.Sort.scanDown;rw[Qa0 (by simp;omega)]
theorem K7{β:Type}{d:Array Int}{a i j e:Nat}{K:Ex×List AV->Option β}(ha:a<d.size)(hj:j<d.size)(hi:1<=i)(hs:d.size<=1152921504606846976):Option.bind (bF (fun(st:List AV)=>ay st fun(x:AV) (r:List AV)=>AV.aT x fun(y:List AV)=>ay r fun(x:AV) (r:List AV)=>Zf Zz x fun(n:Int)=>ay r fun(x:AV) (r:List AV)=>Zf Zz x fun(bV:Int)=>ay r fun(x:AV) (r:List AV)=>Zf Zz x fun(bL:Int)=>aw r (aE (Zq (bV<=bL)) (az (Zq ((0:Int)<=bV)&&Zq (bV<(↑(Zv y):Int))&&Zd) (az (Zb (Zx bV) (Zv y)&&Zd) (Zf Zu (Zk y (Zx bV) Zm) fun(fD:Int)=>(az (Zq ((0:Int)<=n)&&Zq (n<(↑(Zv y):Int))&&Zd) (az (Zb (Zx n) (Zv y)&&Zd) (Zf Zu (Zk y (Zx n) Zm) fun(fy:Int)=>aE (Zq (fD<fy)) (Yq (Ym [Yy y,Zw Zz n,Zw Zz (Zy Zz (bV+(1:Int))),Zw Zz bL])) (Yq (Yx (Yw e,[Yy y,Zw Zz n,Zw Zz bV,Zw Zz bL]))))))))) (Yq (Yx (Yw e,[Yy y,Zw Zz n,Zw Zz bV,Zw Zz bL]))))) [Yy (back d),Zw .i64 (a:Int),Zw .i64 (i:Int),Zw .i64 (j:Int)]) K=K (.exit e,[Yy (back d),Zw .i64 (a:Int),Zw .i64 (Go.Sort.scanUp (fun x=>Go.Sort.ltInt x d[a]!) d j i:Int),Zw .i64 (j:Int)]):=by
 suffices h:∃ n,dW (fun(st:List AV)=>ay st fun(x:AV) (r:List AV)=>AV.aT x fun(y:List AV)=>ay r fun(x:AV) (r:List AV)=>Zf Zz x fun(n:Int)=>ay r fun(x:AV) (r:List AV)=>Zf Zz x fun(bV:Int)=>ay r fun(x:AV) (r:List AV)=>Zf Zz x fun(bL:Int)=>aw r (aE (Zq (bV<=bL)) (az (Zq ((0:Int)<=bV)&&Zq (bV<(↑(Zv y):Int))&&Zd) (az (Zb (Zx bV) (Zv y)&&Zd) (Zf Zu (Zk y (Zx bV) Zm) fun(fD:Int)=>(az (Zq ((0:Int)<=n)&&Zq (n<(↑(Zv y):Int))&&Zd) (az (Zb (Zx n) (Zv y)&&Zd) (Zf Zu (Zk y (Zx n) Zm) fun(fy:Int)=>aE (Zq (fD<fy)) (Yq (Ym [Yy y,Zw Zz n,Zw Zz (Zy Zz (bV+(1:Int))),Zw Zz bL])) (Yq (Yx (Yw e,[Yy y,Zw Zz n,Zw Zz bV,Zw Zz bL]))))))))) (Yq (Yx (Yw e,[Yy y,Zw Zz n,Zw Zz bV,Zw Zz bL]))))) n (lg d a i j)=Yq (.exit e,lg d a (Go.Sort.scanUp (fun x=>Go.Sort.ltInt x d[a]!) d j i) j) by
  obtain⟨n,hn⟩:=h;exact Qb3 (Option.bind · K) (lR hn)
 refine ZL (e:=e) (p:=(fun x=>Go.Sort.ltInt x d[a]!)) (d:=d) (a:=a) (j:=j) (step:=fun(st:List AV)=>ay st fun(x:AV) (r:List AV)=>AV.aT x fun(y:List AV)=>ay r fun(x:AV) (r:List AV)=>Zf Zz x fun(n:Int)=>ay r fun(x:AV) (r:List AV)=>Zf Zz x fun(bV:Int)=>ay r fun(x:AV) (r:List AV)=>Zf Zz x fun(bL:Int)=>aw r (aE (Zq (bV<=bL)) (az (Zq ((0:Int)<=bV)&&Zq (bV<(↑(Zv y):Int))&&Zd) (az (Zb (Zx bV) (Zv y)&&Zd) (Zf Zu (Zk y (Zx bV) Zm) fun(fD:Int)=>(az (Zq ((0:Int)<=n)&&Zq (n<(↑(Zv y):Int))&&Zd) (az (Zb (Zx n) (Zv y)&&Zd) (Zf Zu (Zk y (Zx n) Zm) fun(fy:Int)=>aE (Zq (fD<fy)) (Yq (Ym [Yy y,Zw Zz n,Zw Zz (Zy Zz (bV+(1:Int))),Zw Zz bL])) (Yq (Yx (Yw e,[Yy y,Zw Zz n,Zw Zz bV,Zw Zz bL]))))))))) (Yq (Yx (Yw e,[Yy y,Zw Zz n,Zw Zz bV,Zw Zz bL]))))) ?_ ?_ _ i rfl
 ·intro i hc;have h1:i<d.size:=by omega
  dsimp only[lg];simp only[↓bI,↓b_,↓cT,↓cZ];rw[ah (by simp;omega),Kerb.rd h1,Kerb.rd ha];by_cases h:d[i]! < d[a]!
  ·rw[ah (by simp[h]),Qa1 (by simp[Go.Sort.ltInt,h]),show Zy .i64 ((i:Int)+1)=((i+1:Nat):Int) from Kerb.gE (by omega) (by omega)]
  ·rw[aj (by simp[h]),Qa0 (by simp[Go.Sort.ltInt,h])]
 ·intro i hc;dsimp only[lg];simp only[↓bI,↓b_,↓cT,↓cZ];rw[aj (by simp;omega)]
theorem ZK{β:Type}{d:Array Int}{a i j e:Nat}{K:Ex×List AV->Option β}(ha:a<d.size)(hj:j<d.size)(hi:1<=i)(hs:d.size<=1152921504606846976):Option.bind (bF (fun(st:List AV)=>ay st fun(x:AV) (r:List AV)=>AV.aT x fun(y:List AV)=>ay r fun(x:AV) (r:List AV)=>Zf Zz x fun(n:Int)=>ay r fun(x:AV) (r:List AV)=>Zf Zz x fun(bV:Int)=>ay r fun(x:AV) (r:List AV)=>Zf Zz x fun(bL:Int)=>aw r (aE (Zq (bV<=bL)) (az (Zq ((0:Int)<=n)&&Zq (n<(↑(Zv y):Int))&&Zd) (az (Zb (Zx n) (Zv y)&&Zd) (Zf Zu (Zk y (Zx n) Zm) fun(fD:Int)=>(az (Zq ((0:Int)<=bV)&&Zq (bV<(↑(Zv y):Int))&&Zd) (az (Zb (Zx bV) (Zv y)&&Zd) (Zf Zu (Zk y (Zx bV) Zm) fun(fy:Int)=>aE (!Zq (fD<fy)) (Yq (Ym [Yy y,Zw Zz n,Zw Zz (Zy Zz (bV+(1:Int))),Zw Zz bL])) (Yq (Yx (Yw e,[Yy y,Zw Zz n,Zw Zz bV,Zw Zz bL]))))))))) (Yq (Yx (Yw e,[Yy y,Zw Zz n,Zw Zz bV,Zw Zz bL]))))) [Yy (back d),Zw .i64 (a:Int),Zw .i64 (i:Int),Zw .i64 (j:Int)]) K=K (.exit e,[Yy (back d),Zw .i64 (a:Int),Zw .i64 (Go.Sort.scanUp (fun x => !Go.Sort.ltInt d[a]! x) d j i:Int),Zw .i64 (j:Int)]):=by
 suffices h:∃ n,dW (fun(st:List AV)=>ay st fun(x:AV) (r:List AV)=>AV.aT x fun(y:List AV)=>ay r fun(x:AV) (r:List AV)=>Zf Zz x fun(n:Int)=>ay r fun(x:AV) (r:List AV)=>Zf Zz x fun(bV:Int)=>ay r fun(x:AV) (r:List AV)=>Zf Zz x fun(bL:Int)=>aw r (aE (Zq (bV<=bL)) (az (Zq ((0:Int)<=n)&&Zq (n<(↑(Zv y):Int))&&Zd) (az (Zb (Zx n) (Zv y)&&Zd) (Zf Zu (Zk y (Zx n) Zm) fun(fD:Int)=>(az (Zq ((0:Int)<=bV)&&Zq (bV<(↑(Zv y):Int))&&Zd) (az (Zb (Zx bV) (Zv y)&&Zd) (Zf Zu (Zk y (Zx bV) Zm) fun(fy:Int)=>aE (!Zq (fD<fy)) (Yq (Ym [Yy y,Zw Zz n,Zw Zz (Zy Zz (bV+(1:Int))),Zw Zz bL])) (Yq (Yx (Yw e,[Yy y,Zw Zz n,Zw Zz bV,Zw Zz bL]))))))))) (Yq (Yx (Yw e,[Yy y,Zw Zz n,Zw Zz bV,Zw Zz bL]))))) n (lg d a i j)=Yq (.exit e,lg d a (Go.Sort.scanUp (fun x => !Go.Sort.ltInt d[a]! x) d j i) j) by
  obtain⟨n,hn⟩:=h;exact Qb3 (Option.bind · K) (lR hn)
 refine ZL (e:=e) (p:=(fun x => !Go.Sort.ltInt d[a]! x)) (d:=d) (a:=a) (j:=j) (step:=fun(st:List AV)=>ay st fun(x:AV) (r:List AV)=>AV.aT x fun(y:List AV)=>ay r fun(x:AV) (r:List AV)=>Zf Zz x fun(n:Int)=>ay r fun(x:AV) (r:List AV)=>Zf Zz x fun(bV:Int)=>ay r fun(x:AV) (r:List AV)=>Zf Zz x fun(bL:Int)=>aw r (aE (Zq (bV<=bL)) (az (Zq ((0:Int)<=n)&&Zq (n<(↑(Zv y):Int))&&Zd) (az (Zb (Zx n) (Zv y)&&Zd) (Zf Zu (Zk y (Zx n) Zm) fun(fD:Int)=>(az (Zq ((0:Int)<=bV)&&Zq (bV<(↑(Zv y):Int))&&Zd) (az (Zb (Zx bV) (Zv y)&&Zd) (Zf Zu (Zk y (Zx bV) Zm) fun(fy:Int)=>aE (!Zq (fD<fy)) (Yq (Ym [Yy y,Zw Zz n,Zw Zz (Zy Zz (bV+(1:Int))),Zw Zz bL])) (Yq (Yx (Yw e,[Yy y,Zw Zz n,Zw Zz bV,Zw Zz bL]))))))))) (Yq (Yx (Yw e,[Yy y,Zw Zz n,Zw Zz bV,Zw Zz bL]))))) ?_ ?_ _ i rfl
 ·intro i hc;have h1:i<d.size:=by omega
  dsimp only[lg];simp only[↓bI,↓b_,↓cT,↓cZ];rw[ah (by simp;omega),Kerb.rd ha,Kerb.rd h1];by_cases h:d[a]! < d[i]!
  ·rw[aj (by simp[h]),Qa0 (by simp[Go.Sort.ltInt,h])]
  ·rw[ah (by simp[h]),Qa1 (by simp[Go.Sort.ltInt,h]),show Zy .i64 ((i:Int)+1)=((i+1:Nat):Int) from Kerb.gE (by omega) (by omega)]
 ·intro i hc;dsimp only[lg];simp only[↓bI,↓b_,↓cT,↓cZ];rw[aj (by simp;omega)]
theorem CJ{β:Type}{d:Array Int}{a i j e:Nat}{K:Ex×List AV->Option β}(ha:a<d.size)(hj:j<d.size)(hi:1<=i)(hs:d.size<=1152921504606846976):Option.bind (bF (fun(st:List AV)=>ay st fun(x:AV) (r:List AV)=>AV.aT x fun(y:List AV)=>ay r fun(x:AV) (r:List AV)=>Zf Zz x fun(n:Int)=>ay r fun(x:AV) (r:List AV)=>Zf Zz x fun(bV:Int)=>ay r fun(x:AV) (r:List AV)=>Zf Zz x fun(bL:Int)=>aw r (aE (Zq (bV<=bL)) (az (Zq ((0:Int)<=bL)&&Zq (bL<(↑(Zv y):Int))&&Zd) (az (Zb (Zx bL) (Zv y)&&Zd) (Zf Zu (Zk y (Zx bL) Zm) fun(fD:Int)=>(az (Zq ((0:Int)<=n)&&Zq (n<(↑(Zv y):Int))&&Zd) (az (Zb (Zx n) (Zv y)&&Zd) (Zf Zu (Zk y (Zx n) Zm) fun(fy:Int)=>aE (!Zq (fD<fy)) (Yq (Ym [Yy y,Zw Zz n,Zw Zz bV,Zw Zz (Zy Zz (bL-(1:Int)))])) (Yq (Yx (Yw e,[Yy y,Zw Zz n,Zw Zz bV,Zw Zz bL]))))))))) (Yq (Yx (Yw e,[Yy y,Zw Zz n,Zw Zz bV,Zw Zz bL]))))) [Yy (back d),Zw .i64 (a:Int),Zw .i64 (i:Int),Zw .i64 (j:Int)]) K=K (.exit e,[Yy (back d),Zw .i64 (a:Int),Zw .i64 (i:Int),Zw .i64 (Go.Sort.scanDown (fun x => !Go.Sort.ltInt x d[a]!) d i j:Int)]):=by
 suffices h:∃ n,dW (fun(st:List AV)=>ay st fun(x:AV) (r:List AV)=>AV.aT x fun(y:List AV)=>ay r fun(x:AV) (r:List AV)=>Zf Zz x fun(n:Int)=>ay r fun(x:AV) (r:List AV)=>Zf Zz x fun(bV:Int)=>ay r fun(x:AV) (r:List AV)=>Zf Zz x fun(bL:Int)=>aw r (aE (Zq (bV<=bL)) (az (Zq ((0:Int)<=bL)&&Zq (bL<(↑(Zv y):Int))&&Zd) (az (Zb (Zx bL) (Zv y)&&Zd) (Zf Zu (Zk y (Zx bL) Zm) fun(fD:Int)=>(az (Zq ((0:Int)<=n)&&Zq (n<(↑(Zv y):Int))&&Zd) (az (Zb (Zx n) (Zv y)&&Zd) (Zf Zu (Zk y (Zx n) Zm) fun(fy:Int)=>aE (!Zq (fD<fy)) (Yq (Ym [Yy y,Zw Zz n,Zw Zz bV,Zw Zz (Zy Zz (bL-(1:Int)))])) (Yq (Yx (Yw e,[Yy y,Zw Zz n,Zw Zz bV,Zw Zz bL]))))))))) (Yq (Yx (Yw e,[Yy y,Zw Zz n,Zw Zz bV,Zw Zz bL]))))) n (lg d a i j)=Yq (.exit e,lg d a i (Go.Sort.scanDown (fun x => !Go.Sort.ltInt x d[a]!) d i j)) by
  obtain⟨n,hn⟩:=h;exact Qb3 (Option.bind · K) (lR hn)
 refine NM (e:=e) (p:=(fun x => !Go.Sort.ltInt x d[a]!)) (d:=d) (a:=a) (i:=i) (step:=fun(st:List AV)=>ay st fun(x:AV) (r:List AV)=>AV.aT x fun(y:List AV)=>ay r fun(x:AV) (r:List AV)=>Zf Zz x fun(n:Int)=>ay r fun(x:AV) (r:List AV)=>Zf Zz x fun(bV:Int)=>ay r fun(x:AV) (r:List AV)=>Zf Zz x fun(bL:Int)=>aw r (aE (Zq (bV<=bL)) (az (Zq ((0:Int)<=bL)&&Zq (bL<(↑(Zv y):Int))&&Zd) (az (Zb (Zx bL) (Zv y)&&Zd) (Zf Zu (Zk y (Zx bL) Zm) fun(fD:Int)=>(az (Zq ((0:Int)<=n)&&Zq (n<(↑(Zv y):Int))&&Zd) (az (Zb (Zx n) (Zv y)&&Zd) (Zf Zu (Zk y (Zx n) Zm) fun(fy:Int)=>aE (!Zq (fD<fy)) (Yq (Ym [Yy y,Zw Zz n,Zw Zz bV,Zw Zz (Zy Zz (bL-(1:Int)))])) (Yq (Yx (Yw e,[Yy y,Zw Zz n,Zw Zz bV,Zw Zz bL]))))))))) (Yq (Yx (Yw e,[Yy y,Zw Zz n,Zw Zz bV,Zw Zz bL]))))) ?_ ?_ hi j hj
 ·intro j hc uB;have h1:(j+1)<d.size:=by omega
  dsimp only[lg];simp only[↓bI,↓b_,↓cT,↓cZ];rw[ah (by simp;omega),Kerb.rd h1,Kerb.rd ha];by_cases h:d[j+1]! < d[a]!
  ·rw[aj (by simp[h]),Qa0 (by simp[Go.Sort.ltInt,h])]
  ·rw[ah (by simp[h]),Qa1 (by simp[Go.Sort.ltInt,h]),show Zy .i64 (((j+1:Nat):Int)-1)=(j:Int) from(Kerb.gE (by omega) (by omega)).trans (by omega)]
 ·intro j hc;dsimp only[lg];simp only[↓bI,↓b_,↓cT,↓cZ];rw[aj (by simp;omega)]
theorem Rs{β:Type}{d:Array Int}{a i j e:Nat}{K:Ex×List AV->Option β}(ha:a<d.size)(hj:j<d.size)(hi:1<=i)(hs:d.size<=1152921504606846976):Option.bind (bF (fun(st:List AV)=>ay st fun(x:AV) (r:List AV)=>AV.aT x fun(y:List AV)=>ay r fun(x:AV) (r:List AV)=>Zf Zz x fun(n:Int)=>ay r fun(x:AV) (r:List AV)=>Zf Zz x fun(bV:Int)=>ay r fun(x:AV) (r:List AV)=>Zf Zz x fun(bL:Int)=>aw r (aE (Zq (bV<=bL)) (az (Zq ((0:Int)<=n)&&Zq (n<(↑(Zv y):Int))&&Zd) (az (Zb (Zx n) (Zv y)&&Zd) (Zf Zu (Zk y (Zx n) Zm) fun(fD:Int)=>(az (Zq ((0:Int)<=bL)&&Zq (bL<(↑(Zv y):Int))&&Zd) (az (Zb (Zx bL) (Zv y)&&Zd) (Zf Zu (Zk y (Zx bL) Zm) fun(fy:Int)=>aE (Zq (fD<fy)) (Yq (Ym [Yy y,Zw Zz n,Zw Zz bV,Zw Zz (Zy Zz (bL-(1:Int)))])) (Yq (Yx (Yw e,[Yy y,Zw Zz n,Zw Zz bV,Zw Zz bL]))))))))) (Yq (Yx (Yw e,[Yy y,Zw Zz n,Zw Zz bV,Zw Zz bL]))))) [Yy (back d),Zw .i64 (a:Int),Zw .i64 (i:Int),Zw .i64 (j:Int)]) K=K (.exit e,[Yy (back d),Zw .i64 (a:Int),Zw .i64 (i:Int),Zw .i64 (Go.Sort.scanDown (fun x=>Go.Sort.ltInt d[a]! x) d i j:Int)]):=by
 suffices h:∃ n,dW (fun(st:List AV)=>ay st fun(x:AV) (r:List AV)=>AV.aT x fun(y:List AV)=>ay r fun(x:AV) (r:List AV)=>Zf Zz x fun(n:Int)=>ay r fun(x:AV) (r:List AV)=>Zf Zz x fun(bV:Int)=>ay r fun(x:AV) (r:List AV)=>Zf Zz x fun(bL:Int)=>aw r (aE (Zq (bV<=bL)) (az (Zq ((0:Int)<=n)&&Zq (n<(↑(Zv y):Int))&&Zd) (az (Zb (Zx n) (Zv y)&&Zd) (Zf Zu (Zk y (Zx n) Zm) fun(fD:Int)=>(az (Zq ((0:Int)<=bL)&&Zq (bL<(↑(Zv y):Int))&&Zd) (az (Zb (Zx bL) (Zv y)&&Zd) (Zf Zu (Zk y (Zx bL) Zm) fun(fy:Int)=>aE (Zq (fD<fy)) (Yq (Ym [Yy y,Zw Zz n,Zw Zz bV,Zw Zz (Zy Zz (bL-(1:Int)))])) (Yq (Yx (Yw e,[Yy y,Zw Zz n,Zw Zz bV,Zw Zz bL]))))))))) (Yq (Yx (Yw e,[Yy y,Zw Zz n,Zw Zz bV,Zw Zz bL]))))) n (lg d a i j)=Yq (.exit e,lg d a i (Go.Sort.scanDown (fun x=>Go.Sort.ltInt d[a]! x) d i j)) by
  obtain⟨n,hn⟩:=h;exact Qb3 (Option.bind · K) (lR hn)
 refine NM (e:=e) (p:=(fun x=>Go.Sort.ltInt d[a]! x)) (d:=d) (a:=a) (i:=i) (step:=fun(st:List AV)=>ay st fun(x:AV) (r:List AV)=>AV.aT x fun(y:List AV)=>ay r fun(x:AV) (r:List AV)=>Zf Zz x fun(n:Int)=>ay r fun(x:AV) (r:List AV)=>Zf Zz x fun(bV:Int)=>ay r fun(x:AV) (r:List AV)=>Zf Zz x fun(bL:Int)=>aw r (aE (Zq (bV<=bL)) (az (Zq ((0:Int)<=n)&&Zq (n<(↑(Zv y):Int))&&Zd) (az (Zb (Zx n) (Zv y)&&Zd) (Zf Zu (Zk y (Zx n) Zm) fun(fD:Int)=>(az (Zq ((0:Int)<=bL)&&Zq (bL<(↑(Zv y):Int))&&Zd) (az (Zb (Zx bL) (Zv y)&&Zd) (Zf Zu (Zk y (Zx bL) Zm) fun(fy:Int)=>aE (Zq (fD<fy)) (Yq (Ym [Yy y,Zw Zz n,Zw Zz bV,Zw Zz (Zy Zz (bL-(1:Int)))])) (Yq (Yx (Yw e,[Yy y,Zw Zz n,Zw Zz bV,Zw Zz bL]))))))))) (Yq (Yx (Yw e,[Yy y,Zw Zz n,Zw Zz bV,Zw Zz bL]))))) ?_ ?_ hi j hj
 ·intro j hc uB;have h1:(j+1)<d.size:=by omega
  dsimp only[lg];simp only[↓bI,↓b_,↓cT,↓cZ];rw[ah (by simp;omega),Kerb.rd ha,Kerb.rd h1];by_cases h:d[a]! < d[j+1]!
  ·rw[ah (by simp[h]),Qa1 (by simp[Go.Sort.ltInt,h]),show Zy .i64 (((j+1:Nat):Int)-1)=(j:Int) from(Kerb.gE (by omega) (by omega)).trans (by omega)]
  ·rw[aj (by simp[h]),Qa0 (by simp[Go.Sort.ltInt,h])]
 ·intro j hc;dsimp only[lg];simp only[↓bI,↓b_,↓cT,↓cZ];rw[aj (by simp;omega)]
theorem A_(d:Array Int)(a b p:Nat):part (back d) (a:Int) (b:Int) (p:Int)=((Go.Sort.partition Go.Sort.ltInt d a b p).1,(Go.Sort.partition Go.Sort.ltInt d a b p).2.1,back (Go.Sort.partition Go.Sort.ltInt d a b p).2.2):=by
 simp only[part,eD,Zj]
theorem vo(d:Array Int)(a b p:Nat):ER (back d) (a:Int) (b:Int) (p:Int)=((Go.Sort.partitionEqual Go.Sort.ltInt d a b p).1,back (Go.Sort.partitionEqual Go.Sort.ltInt d a b p).2):=by
 simp only[ER,eD,Zj]
theorem ye{lt:Int->Int->Bool}{d:Array Int}{a s n:Nat}(ha:a+1<n):(Go.Sort.medianAdjacent lt d a s).1<n/\(Go.Sort.medianAdjacent lt d a s).2<=s+3:=by
 unfold Go.Sort.medianAdjacent;exact Mc (by omega) (by omega) ha
theorem Gr{β:Type}(f:Int->Option β)(n:Nat):aE ((n:Int)==(0:Int)) (f 1) (aE ((n:Int)==(12:Int)) (f 2) (f 0))=f (Gq (if n=0 then Go.Sort.Hint.increasing else if n=12 then Go.Sort.Hint.decreasing else Go.Sort.Hint.unknown)):=by
 by_cases h:n=0
 ·subst h;rfl
 ·rw[aj (by simpa using h),Qa0 h];by_cases h2:n=12
  ·subst h2;rfl
  ·rw[aj (by simp;omega),Qa0 h2];rfl
end Kerb
/- The loops of the sort that stops early (printed by mksort3.py). -/
namespace Kerb
open Go Go.Abs
theorem Fb{d:Array Int}{A s:Int}{bb:Bool}{b e:Nat}(hb:b<=d.size)(hs:d.size<=1152921504606846976):∀ (m i:Nat),b-i=m->1<=i->i<=b->bF (fun(st:List AV)=>ay st fun(x:AV) (r:List AV)=>AV.aT x fun(y:List AV)=>ay r fun(x:AV) (r:List AV)=>Zf Zz x fun(n:Int)=>ay r fun(x:AV) (r:List AV)=>Zf Zz x fun(bV:Int)=>ay r fun(x:AV) (r:List AV)=>Zf Zz x fun(bL:Int)=>ay r fun(x:AV) (r:List AV)=>Zf Zz x fun(fD:Int)=>ay r fun(x:AV) (r:List AV)=>AV.cW x fun(b:Bool)=>aw r (aE (Zq (bL<bV)) (az (Zq ((0:Int)<=bL)&&Zq (bL<(↑(Zv y):Int))&&Zd) (az (Zb (Zx bL) (Zv y)&&Zd) (Zf Zu (Zk y (Zx bL) Zm) fun(fy:Int)=>az (Zq ((0:Int)<=Zy Zz (bL-(1:Int)))&&Zq (Zy Zz (bL-(1:Int))<(↑(Zv y):Int))&&Zd) (az (Zb (Zx (Zy Zz (bL-(1:Int)))) (Zv y)&&Zd) (Zf Zu (Zk y (Zx (Zy Zz (bL-(1:Int)))) Zm) fun(hJ:Int)=>aE (!Zq (fy<hJ)) (Yq (Ym [Yy y,Zw Zz n,Zw Zz bV,Zw Zz (Zy Zz (bL+(1:Int))),Zw Zz fD,Yd b])) (Yq (Yx (Yw e,[Yy y,Zw Zz n,Zw Zz bV,Zw Zz bL,Zw Zz fD,Yd b])))))))) (Yq (Yx (Yw e,[Yy y,Zw Zz n,Zw Zz bV,Zw Zz bL,Zw Zz fD,Yd b]))))) [Yy (back d),Zw .i64 A,Zw .i64 (b:Int),Zw .i64 (i:Int),Zw .i64 s,Yd bb]=Yq (.exit e,[Yy (back d),Zw .i64 A,Zw .i64 (b:Int),Zw .i64 (Go.Sort.scanSorted Go.Sort.ltInt d b i:Int),Zw .i64 s,Yd bb]):=by
 suffices h:∀ (m i:Nat),b-i=m->1<=i->i<=b->∃ n,dW (fun(st:List AV)=>ay st fun(x:AV) (r:List AV)=>AV.aT x fun(y:List AV)=>ay r fun(x:AV) (r:List AV)=>Zf Zz x fun(n:Int)=>ay r fun(x:AV) (r:List AV)=>Zf Zz x fun(bV:Int)=>ay r fun(x:AV) (r:List AV)=>Zf Zz x fun(bL:Int)=>ay r fun(x:AV) (r:List AV)=>Zf Zz x fun(fD:Int)=>ay r fun(x:AV) (r:List AV)=>AV.cW x fun(b:Bool)=>aw r (aE (Zq (bL<bV)) (az (Zq ((0:Int)<=bL)&&Zq (bL<(↑(Zv y):Int))&&Zd) (az (Zb (Zx bL) (Zv y)&&Zd) (Zf Zu (Zk y (Zx bL) Zm) fun(fy:Int)=>az (Zq ((0:Int)<=Zy Zz (bL-(1:Int)))&&Zq (Zy Zz (bL-(1:Int))<(↑(Zv y):Int))&&Zd) (az (Zb (Zx (Zy Zz (bL-(1:Int)))) (Zv y)&&Zd) (Zf Zu (Zk y (Zx (Zy Zz (bL-(1:Int)))) Zm) fun(hJ:Int)=>aE (!Zq (fy<hJ)) (Yq (Ym [Yy y,Zw Zz n,Zw Zz bV,Zw Zz (Zy Zz (bL+(1:Int))),Zw Zz fD,Yd b])) (Yq (Yx (Yw e,[Yy y,Zw Zz n,Zw Zz bV,Zw Zz bL,Zw Zz fD,Yd b])))))))) (Yq (Yx (Yw e,[Yy y,Zw Zz n,Zw Zz bV,Zw Zz bL,Zw Zz fD,Yd b]))))) n [Yy (back d),Zw .i64 A,Zw .i64 (b:Int),Zw .i64 (i:Int),Zw .i64 s,Yd bb]=Yq (.exit e,[Yy (back d),Zw .i64 A,Zw .i64 (b:Int),Zw .i64 (Go.Sort.scanSorted Go.Sort.ltInt d b i:Int),Zw .i64 s,Yd bb]) by
  intro m i h1 h2 h3;obtain⟨n,hn⟩:=h m i h1 h2 h3;exact lR hn
 intro m;induction m with
 | zero =>
  intro i hi h1 h2;refine⟨1,?_⟩;unfold dW;simp only[↓bI,↓b_,↓cT,↓dk,↓cZ];rw[aj (by simp;omega)];unfold Go.Sort.scanSorted;rw[Qa0 (by simp;omega)]
 | succ m ih =>
  intro i hi h1 h2;obtain⟨k,rfl⟩:∃ k,i=k+1:=⟨i-1,by omega⟩;have g1:k+1<d.size:=by omega
  have g2:k<d.size:=by omega
  by_cases h:d[k+1]! < d[k]!
  ·refine⟨1,?_⟩;unfold dW;simp only[↓bI,↓b_,↓cT,↓dk,↓cZ];rw[ah (by simp;omega),Kerb.rd g1,show Zy .i64 (((k+1:Nat):Int)-1)=((k:Nat):Int) from(Kerb.gE (by omega) (by omega)).trans (by omega),Kerb.rd g2,aj (by simp[h])];unfold Go.Sort.scanSorted;rw[Qa0 (by simp[Go.Sort.ltInt,h])]
  ·obtain⟨n,hn⟩:=ih (k+1+1) (by omega) (by omega) (by omega);refine⟨n+1,?_⟩;unfold dW;simp only[↓bI,↓b_,↓cT,↓dk,↓cZ];rw[ah (by simp;omega),Kerb.rd g1,show Zy .i64 (((k+1:Nat):Int)-1)=((k:Nat):Int) from(Kerb.gE (by omega) (by omega)).trans (by omega),Kerb.rd g2,ah (by simp[h])];unfold Go.Sort.scanSorted;rw[Qa1 (by simp[Go.Sort.ltInt,h];omega),show Zy .i64 (((k+1:Nat):Int)+1)=((k+1+1:Nat):Int) from(Kerb.gE (by omega) (by omega)).trans (by omega)];exact hn
theorem Hx{A B I s:Int}{bb:Bool}{e:Nat}:∀ (j:Nat) (d:Array Int),j<d.size->d.size<=1152921504606846976->∃ m,bF (fun(st:List AV)=>ay st fun(x:AV) (r:List AV)=>AV.aT x fun(y:List AV)=>ay r fun(x:AV) (r:List AV)=>Zf Zz x fun(n:Int)=>ay r fun(x:AV) (r:List AV)=>Zf Zz x fun(gM:Int)=>ay r fun(x:AV) (r:List AV)=>Zf Zz x fun(jc:Int)=>ay r fun(x:AV) (r:List AV)=>Zf Zz x fun(gf:Int)=>ay r fun(x:AV) (r:List AV)=>Zf Zz x fun(bp:Int)=>ay r fun(x:AV) (r:List AV)=>AV.cW x fun(b:Bool)=>aw r (aE (Zq (bp>=(1:Int))) (az (Zq ((0:Int)<=bp)&&Zq (bp<(↑(Zv y):Int))&&Zd) (az (Zb (Zx bp) (Zv y)&&Zd) (Zf Zu (Zk y (Zx bp) Zm) fun(hX:Int)=>az (Zq ((0:Int)<=Zy Zz (bp-(1:Int)))&&Zq (Zy Zz (bp-(1:Int))<(↑(Zv y):Int))&&Zd) (az (Zb (Zx (Zy Zz (bp-(1:Int)))) (Zv y)&&Zd) (Zf Zu (Zk y (Zx (Zy Zz (bp-(1:Int)))) Zm) fun(ft:Int)=>aE (!Zq (hX<ft)) (Yq (Yx (Yw e,[Yy y,Zw Zz n,Zw Zz gM,Zw Zz jc,Zw Zz gf,Zw Zz bp,Yd b]))) (az (Zq ((0:Int)<=Zy Zz (bp-(1:Int)))&&Zq (Zy Zz (bp-(1:Int))<(↑(Zv y):Int))&&Zd) (az (Zb (Zx (Zy Zz (bp-(1:Int)))) (Zv y)&&Zd) (Zf Zu (Zk y (Zx (Zy Zz (bp-(1:Int)))) Zm) fun(dp:Int)=>az (Zq ((0:Int)<=bp)&&Zq (bp<(↑(Zv y):Int))&&Zd) (az (Zb (Zx bp) (Zv y)&&Zd) (Zf Zu (Zk y (Zx bp) Zm) fun(bG:Int)=>az (Zq ((0:Int)<=bp)&&Zq (bp<(↑(Zv y):Int))&&Zd) (az (Zb (Zx bp) (Zv y)&&Zd) (Zf Zu (Zk y (Zx bp) Zm) fun(py:Int)=>az (Zv [Zw Zu dp]==nat_lit 1&&Zd&&Zd&&Zd&&Zb (Zx bp) (Zv y)) (az (Zq ((0:Int)<=Zy Zz (bp-(1:Int)))&&Zq (Zy Zz (bp-(1:Int))<(↑(Zv (Yf y (Zx bp) (Zw Zu dp))):Int))&&Zd) (az (Zb (Zx (Zy Zz (bp-(1:Int)))) (Zv (Yf y (Zx bp) (Zw Zu dp)))&&Zd) (Zf Zu (Zk (Yf y (Zx bp) (Zw Zu dp)) (Zx (Zy Zz (bp-(1:Int)))) Zm) fun(pz:Int)=>az (Zv [Zw Zu bG]==nat_lit 1&&Zd&&Zd&&Zd&&Zb (Zx (Zy Zz (bp-(1:Int)))) (Zv (Yf y (Zx bp) (Zw Zu dp)))) (Yq (Ym [Yy (Yf (Yf y (Zx bp) (Zw Zu dp)) (Zx (Zy Zz (bp-(1:Int)))) (Zw Zu bG)),Zw Zz n,Zw Zz gM,Zw Zz jc,Zw Zz gf,Zw Zz (Zy Zz (bp-(1:Int))),Yd b]))))))))))))))))) (Yq (Yx (Yw e,[Yy y,Zw Zz n,Zw Zz gM,Zw Zz jc,Zw Zz gf,Zw Zz bp,Yd b]))))) [Yy (back d),Zw .i64 A,Zw .i64 B,Zw .i64 I,Zw .i64 s,Zw .i64 (j:Int),Yd bb]=Yq (.exit e,[Yy (back (Go.Sort.shiftDown Go.Sort.ltInt j d)),Zw .i64 A,Zw .i64 B,Zw .i64 I,Zw .i64 s,Zw .i64 m,Yd bb]):=by
 suffices h:∀ (j:Nat) (d:Array Int),j<d.size->d.size<=1152921504606846976->∃ m n,dW (fun(st:List AV)=>ay st fun(x:AV) (r:List AV)=>AV.aT x fun(y:List AV)=>ay r fun(x:AV) (r:List AV)=>Zf Zz x fun(n:Int)=>ay r fun(x:AV) (r:List AV)=>Zf Zz x fun(gM:Int)=>ay r fun(x:AV) (r:List AV)=>Zf Zz x fun(jc:Int)=>ay r fun(x:AV) (r:List AV)=>Zf Zz x fun(gf:Int)=>ay r fun(x:AV) (r:List AV)=>Zf Zz x fun(bp:Int)=>ay r fun(x:AV) (r:List AV)=>AV.cW x fun(b:Bool)=>aw r (aE (Zq (bp>=(1:Int))) (az (Zq ((0:Int)<=bp)&&Zq (bp<(↑(Zv y):Int))&&Zd) (az (Zb (Zx bp) (Zv y)&&Zd) (Zf Zu (Zk y (Zx bp) Zm) fun(hX:Int)=>az (Zq ((0:Int)<=Zy Zz (bp-(1:Int)))&&Zq (Zy Zz (bp-(1:Int))<(↑(Zv y):Int))&&Zd) (az (Zb (Zx (Zy Zz (bp-(1:Int)))) (Zv y)&&Zd) (Zf Zu (Zk y (Zx (Zy Zz (bp-(1:Int)))) Zm) fun(ft:Int)=>aE (!Zq (hX<ft)) (Yq (Yx (Yw e,[Yy y,Zw Zz n,Zw Zz gM,Zw Zz jc,Zw Zz gf,Zw Zz bp,Yd b]))) (az (Zq ((0:Int)<=Zy Zz (bp-(1:Int)))&&Zq (Zy Zz (bp-(1:Int))<(↑(Zv y):Int))&&Zd) (az (Zb (Zx (Zy Zz (bp-(1:Int)))) (Zv y)&&Zd) (Zf Zu (Zk y (Zx (Zy Zz (bp-(1:Int)))) Zm) fun(dp:Int)=>az (Zq ((0:Int)<=bp)&&Zq (bp<(↑(Zv y):Int))&&Zd) (az (Zb (Zx bp) (Zv y)&&Zd) (Zf Zu (Zk y (Zx bp) Zm) fun(bG:Int)=>az (Zq ((0:Int)<=bp)&&Zq (bp<(↑(Zv y):Int))&&Zd) (az (Zb (Zx bp) (Zv y)&&Zd) (Zf Zu (Zk y (Zx bp) Zm) fun(py:Int)=>az (Zv [Zw Zu dp]==nat_lit 1&&Zd&&Zd&&Zd&&Zb (Zx bp) (Zv y)) (az (Zq ((0:Int)<=Zy Zz (bp-(1:Int)))&&Zq (Zy Zz (bp-(1:Int))<(↑(Zv (Yf y (Zx bp) (Zw Zu dp))):Int))&&Zd) (az (Zb (Zx (Zy Zz (bp-(1:Int)))) (Zv (Yf y (Zx bp) (Zw Zu dp)))&&Zd) (Zf Zu (Zk (Yf y (Zx bp) (Zw Zu dp)) (Zx (Zy Zz (bp-(1:Int)))) Zm) fun(pz:Int)=>az (Zv [Zw Zu bG]==nat_lit 1&&Zd&&Zd&&Zd&&Zb (Zx (Zy Zz (bp-(1:Int)))) (Zv (Yf y (Zx bp) (Zw Zu dp)))) (Yq (Ym [Yy (Yf (Yf y (Zx bp) (Zw Zu dp)) (Zx (Zy Zz (bp-(1:Int)))) (Zw Zu bG)),Zw Zz n,Zw Zz gM,Zw Zz jc,Zw Zz gf,Zw Zz (Zy Zz (bp-(1:Int))),Yd b]))))))))))))))))) (Yq (Yx (Yw e,[Yy y,Zw Zz n,Zw Zz gM,Zw Zz jc,Zw Zz gf,Zw Zz bp,Yd b]))))) n [Yy (back d),Zw .i64 A,Zw .i64 B,Zw .i64 I,Zw .i64 s,Zw .i64 (j:Int),Yd bb]=Yq (.exit e,[Yy (back (Go.Sort.shiftDown Go.Sort.ltInt j d)),Zw .i64 A,Zw .i64 B,Zw .i64 I,Zw .i64 s,Zw .i64 m,Yd bb]) by
  intro j d h1 h2;obtain⟨m,n,hn⟩:=h j d h1 h2;exact⟨m,lR hn⟩
 intro j;induction j with
 | zero =>
  intro d h1 h2;refine⟨((0:Nat):Int),1,?_⟩;unfold dW;simp only[↓bI,↓b_,↓cT,↓dk,↓cZ];rw[aj (by simp)];rfl
 | succ k ih =>
  intro d h1 h2;have g2:k<d.size:=by omega
  by_cases h:d[k+1]! < d[k]!
  ·obtain⟨m,n,hn⟩:=ih (Go.Sort.swp d (k+1) k) (by rw[swp_size];omega) (by rw[swp_size];exact h2);refine⟨m,n+1,?_⟩;unfold dW;simp only[↓bI,↓b_,↓cT,↓dk,↓cZ];rw[ah (by simp;omega),Kerb.rd h1];simp only[show Zy .i64 (((k+1:Nat):Int)-1)=((k:Nat):Int) from(Kerb.gE (by omega) (by omega)).trans (by omega)];rw[Kerb.rd g2,aj (by simp[h])];rw[Kerb.rd g2,Kerb.rd h1,Kerb.wr h1 (by simp[Kerb.aU];omega),Kerb.cU,Kerb.wr (by rw[Xy];exact g2) (by simp[Kerb.aU];omega),Kerb.cU,show(Yn (Yn d (k+1) d[k]!) k d[k+1]!)=Go.Sort.swp d (k+1) k from rfl];unfold Go.Sort.shiftDown;rw[Qa0 (by simp[Go.Sort.ltInt,h])];exact hn
  ·refine⟨((k+1:Nat):Int),1,?_⟩;unfold dW;simp only[↓bI,↓b_,↓cT,↓dk,↓cZ];rw[ah (by simp;omega),Kerb.rd h1];simp only[show Zy .i64 (((k+1:Nat):Int)-1)=((k:Nat):Int) from(Kerb.gE (by omega) (by omega)).trans (by omega)];rw[Kerb.rd g2,ah (by simp[h])];unfold Go.Sort.shiftDown;rw[Qa1 (by simp[Go.Sort.ltInt,h])]
theorem Dv{A I s:Int}{bb:Bool}{b e:Nat}:∀ (m:Nat) (j:Nat) (d:Array Int),b-j=m->1<=j->j<=b->b<=d.size->d.size<=1152921504606846976->∃ m,bF (fun(st:List AV)=>ay st fun(x:AV) (r:List AV)=>AV.aT x fun(y:List AV)=>ay r fun(x:AV) (r:List AV)=>Zf Zz x fun(n:Int)=>ay r fun(x:AV) (r:List AV)=>Zf Zz x fun(hX:Int)=>ay r fun(x:AV) (r:List AV)=>Zf Zz x fun(ft:Int)=>ay r fun(x:AV) (r:List AV)=>Zf Zz x fun(dp:Int)=>ay r fun(x:AV) (r:List AV)=>Zf Zz x fun(bG:Int)=>ay r fun(x:AV) (r:List AV)=>AV.cW x fun(b:Bool)=>aw r (aE (Zq (bG<hX)) (az (Zq ((0:Int)<=bG)&&Zq (bG<(↑(Zv y):Int))&&Zd) (az (Zb (Zx bG) (Zv y)&&Zd) (Zf Zu (Zk y (Zx bG) Zm) fun(py:Int)=>az (Zq ((0:Int)<=Zy Zz (bG-(1:Int)))&&Zq (Zy Zz (bG-(1:Int))<(↑(Zv y):Int))&&Zd) (az (Zb (Zx (Zy Zz (bG-(1:Int)))) (Zv y)&&Zd) (Zf Zu (Zk y (Zx (Zy Zz (bG-(1:Int)))) Zm) fun(pz:Int)=>aE (!Zq (py<pz)) (Yq (Yx (Yw e,[Yy y,Zw Zz n,Zw Zz hX,Zw Zz ft,Zw Zz dp,Zw Zz bG,Yd b]))) (az (Zq ((0:Int)<=Zy Zz (bG-(1:Int)))&&Zq (Zy Zz (bG-(1:Int))<(↑(Zv y):Int))&&Zd) (az (Zb (Zx (Zy Zz (bG-(1:Int)))) (Zv y)&&Zd) (Zf Zu (Zk y (Zx (Zy Zz (bG-(1:Int)))) Zm) fun(iL:Int)=>az (Zq ((0:Int)<=bG)&&Zq (bG<(↑(Zv y):Int))&&Zd) (az (Zb (Zx bG) (Zv y)&&Zd) (Zf Zu (Zk y (Zx bG) Zm) fun(uh:Int)=>az (Zq ((0:Int)<=bG)&&Zq (bG<(↑(Zv y):Int))&&Zd) (az (Zb (Zx bG) (Zv y)&&Zd) (Zf Zu (Zk y (Zx bG) Zm) fun(O0:Int)=>az (Zv [Zw Zu iL]==nat_lit 1&&Zd&&Zd&&Zd&&Zb (Zx bG) (Zv y)) (az (Zq ((0:Int)<=Zy Zz (bG-(1:Int)))&&Zq (Zy Zz (bG-(1:Int))<(↑(Zv (Yf y (Zx bG) (Zw Zu iL))):Int))&&Zd) (az (Zb (Zx (Zy Zz (bG-(1:Int)))) (Zv (Yf y (Zx bG) (Zw Zu iL)))&&Zd) (Zf Zu (Zk (Yf y (Zx bG) (Zw Zu iL)) (Zx (Zy Zz (bG-(1:Int)))) Zm) fun(O1:Int)=>az (Zv [Zw Zu uh]==nat_lit 1&&Zd&&Zd&&Zd&&Zb (Zx (Zy Zz (bG-(1:Int)))) (Zv (Yf y (Zx bG) (Zw Zu iL)))) (Yq (Ym [Yy (Yf (Yf y (Zx bG) (Zw Zu iL)) (Zx (Zy Zz (bG-(1:Int)))) (Zw Zu uh)),Zw Zz n,Zw Zz hX,Zw Zz ft,Zw Zz dp,Zw Zz (Zy Zz (bG+(1:Int))),Yd b]))))))))))))))))) (Yq (Yx (Yw e,[Yy y,Zw Zz n,Zw Zz hX,Zw Zz ft,Zw Zz dp,Zw Zz bG,Yd b]))))) [Yy (back d),Zw .i64 A,Zw .i64 (b:Int),Zw .i64 I,Zw .i64 s,Zw .i64 (j:Int),Yd bb]=Yq (.exit e,[Yy (back (Go.Sort.shiftUp Go.Sort.ltInt b j d)),Zw .i64 A,Zw .i64 (b:Int),Zw .i64 I,Zw .i64 s,Zw .i64 m,Yd bb]):=by
 suffices h:∀ (m:Nat) (j:Nat) (d:Array Int),b-j=m->1<=j->j<=b->b<=d.size->d.size<=1152921504606846976->∃ m n,dW (fun(st:List AV)=>ay st fun(x:AV) (r:List AV)=>AV.aT x fun(y:List AV)=>ay r fun(x:AV) (r:List AV)=>Zf Zz x fun(n:Int)=>ay r fun(x:AV) (r:List AV)=>Zf Zz x fun(hX:Int)=>ay r fun(x:AV) (r:List AV)=>Zf Zz x fun(ft:Int)=>ay r fun(x:AV) (r:List AV)=>Zf Zz x fun(dp:Int)=>ay r fun(x:AV) (r:List AV)=>Zf Zz x fun(bG:Int)=>ay r fun(x:AV) (r:List AV)=>AV.cW x fun(b:Bool)=>aw r (aE (Zq (bG<hX)) (az (Zq ((0:Int)<=bG)&&Zq (bG<(↑(Zv y):Int))&&Zd) (az (Zb (Zx bG) (Zv y)&&Zd) (Zf Zu (Zk y (Zx bG) Zm) fun(py:Int)=>az (Zq ((0:Int)<=Zy Zz (bG-(1:Int)))&&Zq (Zy Zz (bG-(1:Int))<(↑(Zv y):Int))&&Zd) (az (Zb (Zx (Zy Zz (bG-(1:Int)))) (Zv y)&&Zd) (Zf Zu (Zk y (Zx (Zy Zz (bG-(1:Int)))) Zm) fun(pz:Int)=>aE (!Zq (py<pz)) (Yq (Yx (Yw e,[Yy y,Zw Zz n,Zw Zz hX,Zw Zz ft,Zw Zz dp,Zw Zz bG,Yd b]))) (az (Zq ((0:Int)<=Zy Zz (bG-(1:Int)))&&Zq (Zy Zz (bG-(1:Int))<(↑(Zv y):Int))&&Zd) (az (Zb (Zx (Zy Zz (bG-(1:Int)))) (Zv y)&&Zd) (Zf Zu (Zk y (Zx (Zy Zz (bG-(1:Int)))) Zm) fun(iL:Int)=>az (Zq ((0:Int)<=bG)&&Zq (bG<(↑(Zv y):Int))&&Zd) (az (Zb (Zx bG) (Zv y)&&Zd) (Zf Zu (Zk y (Zx bG) Zm) fun(uh:Int)=>az (Zq ((0:Int)<=bG)&&Zq (bG<(↑(Zv y):Int))&&Zd) (az (Zb (Zx bG) (Zv y)&&Zd) (Zf Zu (Zk y (Zx bG) Zm) fun(O0:Int)=>az (Zv [Zw Zu iL]==nat_lit 1&&Zd&&Zd&&Zd&&Zb (Zx bG) (Zv y)) (az (Zq ((0:Int)<=Zy Zz (bG-(1:Int)))&&Zq (Zy Zz (bG-(1:Int))<(↑(Zv (Yf y (Zx bG) (Zw Zu iL))):Int))&&Zd) (az (Zb (Zx (Zy Zz (bG-(1:Int)))) (Zv (Yf y (Zx bG) (Zw Zu iL)))&&Zd) (Zf Zu (Zk (Yf y (Zx bG) (Zw Zu iL)) (Zx (Zy Zz (bG-(1:Int)))) Zm) fun(O1:Int)=>az (Zv [Zw Zu uh]==nat_lit 1&&Zd&&Zd&&Zd&&Zb (Zx (Zy Zz (bG-(1:Int)))) (Zv (Yf y (Zx bG) (Zw Zu iL)))) (Yq (Ym [Yy (Yf (Yf y (Zx bG) (Zw Zu iL)) (Zx (Zy Zz (bG-(1:Int)))) (Zw Zu uh)),Zw Zz n,Zw Zz hX,Zw Zz ft,Zw Zz dp,Zw Zz (Zy Zz (bG+(1:Int))),Yd b]))))))))))))))))) (Yq (Yx (Yw e,[Yy y,Zw Zz n,Zw Zz hX,Zw Zz ft,Zw Zz dp,Zw Zz bG,Yd b]))))) n [Yy (back d),Zw .i64 A,Zw .i64 (b:Int),Zw .i64 I,Zw .i64 s,Zw .i64 (j:Int),Yd bb]=Yq (.exit e,[Yy (back (Go.Sort.shiftUp Go.Sort.ltInt b j d)),Zw .i64 A,Zw .i64 (b:Int),Zw .i64 I,Zw .i64 s,Zw .i64 m,Yd bb]) by
  intro m j d h1 h2 h3 h4 h5;obtain⟨m,n,hn⟩:=h m j d h1 h2 h3 h4 h5;exact⟨m,lR hn⟩
 intro m;induction m with
 | zero =>
  intro j d h1 h2 h3 h4 h5;refine⟨(j:Int),1,?_⟩;unfold dW;simp only[↓bI,↓b_,↓cT,↓dk,↓cZ];rw[aj (by simp;omega)];unfold Go.Sort.shiftUp;rw[Qa0 (by omega)]
 | succ m ih =>
  intro j d h1 h2 h3 h4 h5;obtain⟨k,rfl⟩:∃ k,j=k+1:=⟨j-1,by omega⟩;have g1:k+1<d.size:=by omega
  have g2:k<d.size:=by omega
  by_cases h:d[k+1]! < d[k]!
  ·obtain⟨m,n,hn⟩:=ih (k+1+1) (Go.Sort.swp d (k+1) k) (by omega) (by omega) (by omega) (by rw[swp_size];omega) (by rw[swp_size];exact h5);refine⟨m,n+1,?_⟩;unfold dW;simp only[↓bI,↓b_,↓cT,↓dk,↓cZ];rw[ah (by simp;omega),Kerb.rd g1];simp only[show Zy .i64 (((k+1:Nat):Int)-1)=((k:Nat):Int) from(Kerb.gE (by omega) (by omega)).trans (by omega)];rw[Kerb.rd g2,aj (by simp[h])];rw[Kerb.rd g2,Kerb.rd g1,Kerb.wr g1 (by simp[Kerb.aU];omega),Kerb.cU,Kerb.wr (by rw[Xy];exact g2) (by simp[Kerb.aU];omega),Kerb.cU,show(Yn (Yn d (k+1) d[k]!) k d[k+1]!)=Go.Sort.swp d (k+1) k from rfl];unfold Go.Sort.shiftUp;rw[Qa1 (by omega),Nat.add_sub_cancel,Qa0 (by simp[Go.Sort.ltInt,h]),show Zy .i64 (((k+1:Nat):Int)+1)=((k+1+1:Nat):Int) from(Kerb.gE (by omega) (by omega)).trans (by omega)];exact hn
  ·refine⟨((k+1:Nat):Int),1,?_⟩;unfold dW;simp only[↓bI,↓b_,↓cT,↓dk,↓cZ];rw[ah (by simp;omega),Kerb.rd g1];simp only[show Zy .i64 (((k+1:Nat):Int)-1)=((k:Nat):Int) from(Kerb.gE (by omega) (by omega)).trans (by omega)];rw[Kerb.rd g2,ah (by simp[h])];unfold Go.Sort.shiftUp;rw[Qa1 (by omega),Nat.add_sub_cancel,Qa1 (by simp[Go.Sort.ltInt,h])]
theorem tg{lt:Int->Int->Bool}:∀ (j:Nat) (d:Array Int),(Go.Sort.shiftDown lt j d).size=d.size:=by
 intro j;induction j with
 | zero=>intro d;rfl
 | succ k ih =>
  intro d;unfold Go.Sort.shiftDown;split
  ·rfl
  ·rw[ih,swp_size]
theorem xe{lt:Int->Int->Bool}{b:Nat}:∀ (m j:Nat) (d:Array Int),b-j=m->(Go.Sort.shiftUp lt b j d).size=d.size:=by
 intro m;induction m with
 | zero =>
  intro j d h;unfold Go.Sort.shiftUp;rw[Qa0 (by omega)]
 | succ m ih =>
  intro j d h;unfold Go.Sort.shiftUp;rw[Qa1 (by omega)];split
  ·rfl
  ·rw[ih _ _ (by omega),swp_size]
theorem Cu{lt:Int->Int->Bool}{d:Array Int}{b:Nat}:∀ (m i:Nat),b-i=m->i<=b->i<=Go.Sort.scanSorted lt d b i/\Go.Sort.scanSorted lt d b i<=b:=by
 intro m;induction m with
 | zero =>
  intro i h1 h2;unfold Go.Sort.scanSorted;rw[Qa0 (by simp;omega)];omega
 | succ m ih =>
  intro i h1 h2;unfold Go.Sort.scanSorted;split
  ·have:=ih (i+1) (by omega) (by omega);omega
  ·omega
end Kerb
/- The sort's pseudo-random number; lengths in bits. -/
namespace Kerb
open Go Go.Abs
theorem VF(v:BitVec 64):Zy .u64 (v.toNat:Int)=(v.toNat:Int):=by
 unfold Zy;simp[Yz,Yj];have:=v.isLt;omega
theorem Yo(v:BitVec 64):BitVec.ofInt 64 (v.toNat:Int)=v:=by
 apply BitVec.eq_of_toNat_eq;simp[BitVec.toNat_ofInt]
theorem shl(v:BitVec 64)(k:Nat)(p:Int)(hp:p=((2 ^ k:Nat):Int)):BitVec.ofInt 64 (Zy .u64 ((v.toNat:Int)*p))=v <<< k:=by
 subst hp;apply BitVec.eq_of_toNat_eq;rw[show Zy .u64 ((v.toNat:Int)*((2 ^ k:Nat):Int))=((v.toNat*2 ^ k % 2 ^ 64:Nat):Int) from by
  unfold Zy;rw[Qa0 (by simp[Yj])];rfl]
 rw[BitVec.toNat_ofInt,BitVec.toNat_shiftLeft,Nat.shiftLeft_eq];generalize v.toNat*2 ^ k=m;omega
theorem shr(v:BitVec 64)(k:Nat)(p:Int)(hp:p=((2 ^ k:Nat):Int)):BitVec.ofInt 64 (Int.fdiv (v.toNat:Int) p)=v >>> k:=by
 subst hp;apply BitVec.eq_of_toNat_eq;rw[show Int.fdiv (v.toNat:Int) ((2 ^ k:Nat):Int)=((v.toNat / 2 ^ k:Nat):Int) from by rw[Xz _ (Int.natCast_nonneg _)];rfl];rw[BitVec.toNat_ofInt,BitVec.toNat_ushiftRight,Nat.shiftRight_eq_div_pow];have:=v.isLt;have h2:v.toNat / 2 ^ k<=v.toNat:=Nat.div_le_self _ _;generalize v.toNat / 2 ^ k=m at h2 ⊢;omega
theorem Sn(v:BitVec 64):J3 (v.toNat:Int)=((((v ^^^ v <<< 13) ^^^ (v ^^^ v <<< 13) >>> 7) ^^^ ((v ^^^ v <<< 13) ^^^ (v ^^^ v <<< 13) >>> 7) <<< 17).toNat:Int):=by
 unfold J3;rw[Zj,show UInt64.ofNat v.toNat=UInt64.ofBitVec v from by apply UInt64.eq_of_toBitVec_eq;simp];rfl
theorem OR{n k:Nat}(h:2 ^ k<=n):Nat.log2 n=k+Nat.log2 (n / 2 ^ k):=by
 have hk:0<2 ^ k:=Nat.two_pow_pos k;have hq:n / 2 ^ k≠0:=by
  have:=Nat.div_pos h hk;omega
 have hn:n≠0:=by omega
 have h1:2 ^ (Nat.log2 (n / 2 ^ k))<=n / 2 ^ k:=(Nat.le_log2 hq).mp (Nat.le_refl _);have h2:n / 2 ^ k<2 ^ (Nat.log2 (n / 2 ^ k)+1):=(Nat.log2_lt hq).mp (Nat.lt_succ_self _);generalize Nat.log2 (n / 2 ^ k)=a at h1 h2 ⊢;have h3:k+a<=Nat.log2 n:=(Nat.le_log2 hn).mpr (by
  rw[Nat.pow_add,Nat.mul_comm];exact(Nat.le_div_iff_mul_le hk).mp h1)
 have h4:Nat.log2 n<k+a+1:=(Nat.log2_lt hn).mpr (by
  rw[show k+a+1=(a+1)+k by omega,Nat.pow_add];exact(Nat.div_lt_iff_lt_mul hk).mp h2)
 omega
theorem jq(k:Nat){n:Nat}(h:2 ^ k<=n):Go.Sort.bitsLen n=k+Go.Sort.bitsLen (n / 2 ^ k):=by
 have hk:0<2 ^ k:=Nat.two_pow_pos k;have hq:n / 2 ^ k≠0:=by
  have:=Nat.div_pos h hk;omega
 unfold Go.Sort.bitsLen;rw[Qa0 (by omega),Qa0 hq,OR h];omega
theorem qw(k:Nat){n:Nat}(h:n<2 ^ k):Go.Sort.bitsLen n<=k:=by
 unfold Go.Sort.bitsLen;split
 ·omega
 ·rename_i h0;exact(Nat.log2_lt h0).mpr h
def Ez:List UInt8:=(List.range 256).map fun i=>Yg (Go.Sort.bitsLen i)
theorem Jf{m:Nat}(h:m<256):(Ez.getD m 0).toNat=Go.Sort.bitsLen m:=by
 unfold Ez;rw[Yk,List.getElem?_map,List.getElem?_range h];simp only[Option.map_some,Option.getD_some];have:=qw 8 (n:=m) (by omega);simp only[UInt8.toNat_ofNat'];omega
theorem nf{T:List UInt8}{m:Nat}{N:Int}(hT:T=Ez)(hm:m<256)(h1:0<=N)(h2:N<=64) :
  az (Zq ((0:Int)<=((Yg (Zx (Zy .u8 (m:Int)))).toNat:Int))&&Zq (((Yg (Zx (Zy .u8 (m:Int)))).toNat:Int)<(T.length:Int))) (Yq (Zw .i64 (Zy .i64 (N+Zy .i64 ((Zk T (Zx ((Yg (Zx (Zy .u8 (m:Int)))).toNat:Int)) (0:UInt8)).toNat:Int))),([]:aD)))=Yq (Zw .i64 (N+(Go.Sort.bitsLen m:Int)),[]):=by
 subst hT;have hw:Zy .u8 (m:Int)=(m:Int):=by
  unfold Zy;simp[Yz,Yj];omega
 have hu:(Yg m).toNat=m:=by simp;omega
 rw[hw,Zj,hu,Zj,Jf hm];have:=qw 8 (n:=m) (by omega);rw[ae (by simp[Ez];omega),gE (n:=(Go.Sort.bitsLen m:Int)) (by omega) (by omega),gE (by omega) (by omega)]
theorem f32(n:Nat):Int.fdiv (n:Int) ((2:Int) ^ min (Zx (32:Int)) (Yz .u64))=((n / 2 ^ 32:Nat):Int):=Xz (n:Int) (b:=((2 ^ 32:Nat):Int)) (Int.natCast_nonneg _)
theorem f16(n:Nat):Int.fdiv (n:Int) ((2:Int) ^ min (Zx (16:Int)) (Yz .u64))=((n / 2 ^ 16:Nat):Int):=Xz (n:Int) (b:=((2 ^ 16:Nat):Int)) (Int.natCast_nonneg _)
theorem f8(n:Nat):Int.fdiv (n:Int) ((2:Int) ^ min (Zx (8:Int)) (Yz .u64))=((n / 2 ^ 8:Nat):Int):=Xz (n:Int) (b:=((2 ^ 8:Nat):Int)) (Int.natCast_nonneg _)
theorem AM(n:Nat):RN (n:Int)=(Go.Sort.bitsLen n:Int):=by unfold RN;rw[Zj]
theorem QW(v:BitVec 64) :
  Zy .u64 ((BitVec.toNat (BitVec.ofInt 64 (Zy .u64 ((BitVec.toNat (BitVec.ofInt 64 (Zy .u64 ((BitVec.toNat (BitVec.ofInt 64 (v.toNat:Int) ^^^ BitVec.ofInt 64 (Zy .u64 ((v.toNat:Int)*(2:Int) ^ min (Zx (13:Int)) 64)))):Int)) ^^^ BitVec.ofInt 64 (Int.fdiv (Zy .u64 ((BitVec.toNat (BitVec.ofInt 64 (v.toNat:Int) ^^^ BitVec.ofInt 64 (Zy .u64 ((v.toNat:Int)*(2:Int) ^ min (Zx (13:Int)) 64)))):Int)) ((2:Int) ^ min (Zx (7:Int)) 64)))):Int)) ^^^ BitVec.ofInt 64 (Zy .u64 (Zy .u64 ((BitVec.toNat (BitVec.ofInt 64 (Zy .u64 ((BitVec.toNat (BitVec.ofInt 64 (v.toNat:Int) ^^^ BitVec.ofInt 64 (Zy .u64 ((v.toNat:Int)*(2:Int) ^ min (Zx (13:Int)) 64)))):Int)) ^^^ BitVec.ofInt 64 (Int.fdiv (Zy .u64 ((BitVec.toNat (BitVec.ofInt 64 (v.toNat:Int) ^^^ BitVec.ofInt 64 (Zy .u64 ((v.toNat:Int)*(2:Int) ^ min (Zx (13:Int)) 64)))):Int)) ((2:Int) ^ min (Zx (7:Int)) 64)))):Int)*(2:Int) ^ min (Zx (17:Int)) 64)))):Int)=J3 (v.toNat:Int):=by
 rw[Yo v,shl v 13 ((2:Int) ^ min (Zx (13:Int)) 64) rfl];simp only[VF,Yo];rw[shr _ 7 ((2:Int) ^ min (Zx (7:Int)) 64) rfl];rw[shl _ 17 ((2:Int) ^ min (Zx (17:Int)) 64) rfl,Sn]
theorem QV(r:UInt64):J3 (r.toNat:Int)=((Go.Sort.xorNext r).toNat:Int):=by
 unfold J3;rw[Zj,UInt64.ofNat_toNat]
theorem M5{n:Int}(h1:0<=n)(h2:n<18446744073709551616):Zy .u64 n=n:=by
 unfold Zy;simp[Yz,Yj];omega
theorem Rc(r:UInt64){m:Nat}(h1:1<=m)(h2:m<=4611686018427387904):Zy .i64 (Zy .u64 ((BitVec.toNat (BitVec.ofInt 64 (r.toNat:Int) &&& BitVec.ofInt 64 (Zy .u64 ((m:Int)-(1:Int)))):Int)))=((r.toNat &&& (m-1):Nat):Int):=by
 have hr:=r.toNat_lt;rw[M5 (n:=(m:Int)-1) (by omega) (by omega),BitVec.toNat_and,BitVec.toNat_ofInt,BitVec.toNat_ofInt];rw[show((r.toNat:Int) % ((2 ^ 64:Nat):Int)).toNat=r.toNat by omega,show(((m:Int)-1) % ((2 ^ 64:Nat):Int)).toNat=m-1 by omega];have:r.toNat &&& (m-1)<=m-1:=Nat.and_le_right;rw[M5 (by omega) (by omega),gE (by omega) (by omega)]
theorem R2{n:Nat}(h:n≠0):1<=1 <<< Go.Sort.bitsLen n/\1 <<< Go.Sort.bitsLen n<=2*n:=by
 rw[Nat.one_shiftLeft];have:=Nat.two_pow_pos (Go.Sort.bitsLen n);refine⟨this,?_⟩;unfold Go.Sort.bitsLen;rw[Qa0 h,Nat.pow_succ];have:=(Nat.le_log2 h).mp (Nat.le_refl _);omega
theorem Mg{n:Nat}(h:n<=4611686018427387904):Zy .u64 ((1:Int)*(2:Int) ^ min (Zx ((Go.Sort.bitsLen n:Nat):Int)) 64)=Pa (n:Int):=by
 unfold Pa;have:=qw 63 (n:=n) (by omega);rw[Zj,Zj,Nat.one_shiftLeft,show min (Go.Sort.bitsLen n) 64=Go.Sort.bitsLen n by omega,Int.one_mul];have h2:2 ^ Go.Sort.bitsLen n<=2 ^ 63:=Yb (by omega) this;rw[show((2:Int) ^ Go.Sort.bitsLen n)=((2 ^ Go.Sort.bitsLen n:Nat):Int) from by simp];generalize 2 ^ Go.Sort.bitsLen n=q at h2 ⊢;exact M5 (by omega) (by omega)
theorem Pb(n:Nat):Pa (n:Int)=((1 <<< Go.Sort.bitsLen n:Nat):Int):=by
 unfold Pa;rw[Zj]
def M6(a l m idx:Nat)(d:Array Int):Nat->UInt64×Array Int
 | 0=>(UInt64.ofNat l,d)
 | k+1=>Go.Sort.breakStep a l m (M6 a l m idx d k) (idx+k)
theorem FL(a l m idx:Nat)(d:Array Int):∀ k,(M6 a l m idx d k).2.size=d.size
 | 0=>rfl
 | k+1=>by
  unfold M6 Go.Sort.breakStep;dsimp only;rw[swp_size,FL a l m idx d k]
end Kerb
/- The sort: one round of the outermost loop. -/
namespace Kerb
open Go Go.Abs Go.Sort
theorem wk{α β:Type}{X:Option α}{v:α}{K:α->Option β}{Q:β->Prop}(h:X=Yq v)(hk:∃ y,K v=Yq y/\Q y):∃ y,Option.bind X K=Yq y/\Q y:=by
 rw[h];exact hk
theorem rA{a b:Nat}:∀ (s i:Nat) (d:Array Int),(partialIns ltInt a b s i d).1.size=d.size:=by
 intro s;induction s with
 | zero=>intro i d;rfl
 | succ s ih =>
  intro i d;rw[partialIns_succ];split
  ·rfl
  ·split
   ·rfl
   ·rw[ih];unfold fixUp fixDown;have h1:∀ (c:Prop) [Decidable c] (x:Array Int) (j:Nat),(if c then shiftDown ltInt j x else x).size=x.size:=fun c _ x j=>by
     split
     ·rw[tg]
     ·rfl
    have h2:∀ (c:Prop) [Decidable c] (x:Array Int) (j:Nat),(if c then shiftUp ltInt b j x else x).size=x.size:=fun c _ x j=>by
     split
     ·rw[xe _ _ _ rfl]
     ·rfl
    rw[h2,h1,Kerb.swp_size]
theorem qU{d:Array Int}{a b p:Nat}(h1:a<=p)(h2:p<b)(h3:b<=d.size):a<=(partition ltInt d a b p).1/\(partition ltInt d a b p).1<b/\(partition ltInt d a b p).2.2.size=d.size:=by
 obtain⟨q1,q2,q3,_⟩:=partition_holds ltInt swo_ltInt d a b p h1 h2 h3;exact⟨q1,q2,q3.1⟩
theorem nP{d:Array Int}{a b p:Nat}(h1:a<=p)(h2:p<b)(h3:b<=d.size):a<(partitionEqual ltInt d a b p).1/\(partitionEqual ltInt d a b p).1<=b/\(partitionEqual ltInt d a b p).2.size=d.size:=by
 have hs:=Kerb.swp_size d a p;obtain⟨q1,q2,q3,_⟩:=partEqLoop_spec (lt:=ltInt) a b _ (a+1) (b-1) (swp d a p) (Nat.le_refl _) (by omega) (by omega) (by omega) (by omega) (fun t h4 h5=>by omega) (fun t h4 h5=>by omega);exact⟨q1,q2,q3.1.trans hs⟩
theorem GH{d:Array Int}{a b:Nat}(h1:a<=b)(h2:b<=d.size):(insertionSort ltInt d a b).size=d.size:=(insertionSort_holds swo_ltInt d a b h1 h2).1.1
theorem LG{d:Array Int}{a b:Nat}(h1:a<=b)(h2:b<=d.size):(heapSort ltInt d a b).size=d.size:=(heapSort_holds swo_ltInt d a b h1 h2).1.1
theorem zT{d:Array Int}{a b:Nat}(h1:a<=b)(h2:b<=d.size):(breakPatterns d a b).size=d.size:=(breakPatterns_holds d a b h1 h2).1
theorem Hq{d:Array Int}{a b:Nat}(h1:a<=b)(h2:b<=d.size):(reverseRange d a b).size=d.size:=(reverseRange_holds d a b h1 h2).1
def QN(d3:Array Int)(a b l pv:Nat)(wB wP:Bool):Array Int :=
 if a>0 && !ltInt d3[a-1]! d3[pv]! then
  match partitionEqual ltInt d3 a b pv with
  | (mid,d4)=>if _h:a<mid/\mid<=b then pdq ltInt d4 mid b l wB wP else d4
 else
  match partition ltInt d3 a b pv with
  | (mid,ap,d4) =>
   if _h:a<=mid/\mid<b then
    if mid-a<b-mid then
     pdq ltInt (pdq ltInt d4 a mid l Zd Zd) (mid+1) b l (Zq (mid-a>=(b-a) / 8)) ap
    else
     pdq ltInt (pdq ltInt d4 (mid+1) b l Zd Zd) a mid l (Zq (b-mid>=(b-a) / 8)) ap
   else d4
def UH(d2:Array Int)(a b l pv:Nat)(hint:Hint)(wB wP:Bool):Array Int :=
 if (if wB&&wP&&hint = .increasing then partialInsertionSort ltInt d2 a b else(d2,Zp)).2 then(if wB&&wP&&hint = .increasing then partialInsertionSort ltInt d2 a b else(d2,Zp)).1
 else QN (if wB&&wP&&hint = .increasing then partialInsertionSort ltInt d2 a b else(d2,Zp)).1 a b l pv wB wP
def Oa(d1:Array Int)(a b l:Nat)(wB wP:Bool):Array Int :=
 UH (if (choosePivot ltInt d1 a b).2 = .decreasing then reverseRange d1 a b else d1) a b l (if (choosePivot ltInt d1 a b).2 = .decreasing then(b-1)-((choosePivot ltInt d1 a b).1-a) else(choosePivot ltInt d1 a b).1) (if (choosePivot ltInt d1 a b).2 = .decreasing then Hint.increasing else(choosePivot ltInt d1 a b).2) wB wP
theorem yi(d:Array Int)(a b l:Nat)(wB wP:Bool):pdq ltInt d a b l wB wP =
  if b-a<=12 then insertionSort ltInt d a b else
  if l=0 then heapSort ltInt d a b else
  Oa (if !wB then breakPatterns d a b else d) a b (if !wB then l-1 else l) wB wP:=by
 rw[pdq];rfl
theorem BL{d3:Array Int}{a b l pv:Nat}{wB wP:Bool}(h1:a<=pv)(h2:pv<b)(h3:b<=d3.size):QN d3 a b l pv wB wP =
  if (Zq (a>0) && !ltInt d3[a-1]! d3[pv]!)=Zd then pdq ltInt (partitionEqual ltInt d3 a b pv).2 (partitionEqual ltInt d3 a b pv).1 b l wB wP
  else if (partition ltInt d3 a b pv).1-a<b-(partition ltInt d3 a b pv).1 then
   pdq ltInt (pdq ltInt (partition ltInt d3 a b pv).2.2 a (partition ltInt d3 a b pv).1 l Zd Zd) ((partition ltInt d3 a b pv).1+1) b l (Zq ((partition ltInt d3 a b pv).1-a>=(b-a) / 8)) (partition ltInt d3 a b pv).2.1
  else pdq ltInt (pdq ltInt (partition ltInt d3 a b pv).2.2 ((partition ltInt d3 a b pv).1+1) b l Zd Zd) a (partition ltInt d3 a b pv).1 l (Zq (b-(partition ltInt d3 a b pv).1>=(b-a) / 8)) (partition ltInt d3 a b pv).2.1:=by
 unfold QN;have e:=nP h1 h2 h3;have p:=qU h1 h2 h3;generalize partitionEqual ltInt d3 a b pv=x at e ⊢;generalize partition ltInt d3 a b pv=y at p ⊢;obtain⟨mid,d4⟩:=x;obtain⟨m,ap,d5⟩:=y;dsimp only at e p ⊢;rw[dif_pos (show a<mid/\mid<=b from⟨e.1,e.2.1⟩),dif_pos (show a<=m/\m<b from⟨p.1,p.2.1⟩)]
theorem s6:∀ (n:Nat) (d:Array Int) (a b l:Nat) (wB wP:Bool),b-a<=n->a<=b->b<=d.size->(pdq ltInt d a b l wB wP).size=d.size:=by
 intro n;induction n with
 | zero =>
  intro d a b l wB wP h1 h2 h3;rw[yi,Qa1 (by omega),GH h2 h3]
 | succ n ih =>
  intro d a b l wB wP h1 h2 h3;rw[yi];by_cases NY:b-a<=12
  ·rw[Qa1 NY,GH h2 h3]
  rw[Qa0 NY];by_cases hl:l=0
  ·rw[Qa1 hl,LG h2 h3]
  rw[Qa0 hl];have s1:(if (!wB)=Zd then breakPatterns d a b else d).size=d.size:=by
   split
   ·exact zT h2 h3
   ·rfl
  generalize (if (!wB)=Zd then breakPatterns d a b else d)=d1 at s1 ⊢;generalize (if (!wB)=Zd then l-1 else l)=l1;unfold Oa;have hc:=choosePivot_holds ltInt d1 a b (by omega);generalize choosePivot ltInt d1 a b=c at hc ⊢;have s2:(if c.2 = .decreasing then reverseRange d1 a b else d1).size=d.size:=by
   split
   ·rw[Hq h2 (by omega),s1]
   ·exact s1
  generalize (if c.2 = .decreasing then reverseRange d1 a b else d1)=d2 at s2 ⊢;have hp:a<=(if c.2 = .decreasing then(b-1)-(c.1-a) else c.1)/\(if c.2 = .decreasing then(b-1)-(c.1-a) else c.1)<b:=by
   split<;>omega
  generalize (if c.2 = .decreasing then(b-1)-(c.1-a) else c.1)=pv at hp ⊢;generalize (if c.2 = .decreasing then Hint.increasing else c.2)=hint;unfold UH;have s3:(if (wB&&wP&&Zq (hint = .increasing))=Zd then partialInsertionSort ltInt d2 a b else(d2,Zp)).1.size=d.size:=by
   split
   ·unfold partialInsertionSort;rw[rA,s2]
   ·exact s2
  generalize (if (wB&&wP&&Zq (hint = .increasing))=Zd then partialInsertionSort ltInt d2 a b else(d2,Zp))=pi at s3 ⊢;by_cases hpi:pi.2=Zd
  ·rw[Qa1 hpi];exact s3
  rw[Qa0 hpi,BL hp.1 hp.2 (by omega)];have e:=nP hp.1 hp.2 (show b<=pi.1.size by omega);have p:=qU hp.1 hp.2 (show b<=pi.1.size by omega);generalize partitionEqual ltInt pi.1 a b pv=x at e ⊢;generalize partition ltInt pi.1 a b pv=y at p ⊢;split
  ·rw[ih _ _ _ _ _ _ (by omega) (by omega) (by omega)];omega
  ·have hL:=ih y.2.2 a y.1 l1 Zd Zd (by omega) (by omega) (by omega);have hR:=ih y.2.2 (y.1+1) b l1 Zd Zd (by omega) (by omega) (by omega);split
   ·rw[ih _ _ _ _ _ _ (by omega) (by omega) (by omega)];omega
   ·rw[ih _ _ _ _ _ _ (by omega) (by omega) (by omega)];omega
theorem qc(d:Array Int)(a b l:Nat):O' (back d) (a:Int) (b:Int) (l:Int)=back (pdq ltInt d a b l Zd Zd):=by
 simp only[O',eD,Zj]
theorem Ox(d:Array Int)(a b:Nat):zs (back d) (a:Int) (b:Int)=back (insertionSort ltInt d a b):=by
 simp only[zs,eD,Zj]
theorem LF(d:Array Int)(a b:Nat):Ks (back d) (a:Int) (b:Int)=back (heapSort ltInt d a b):=by
 simp only[Ks,eD,Zj]
theorem IM(d:Array Int)(a b:Nat):DX (back d) (a:Int) (b:Int)=back (breakPatterns d a b):=by
 simp only[DX,eD,Zj]
theorem Pn(d:Array Int)(a b:Nat):R6 (back d) (a:Int) (b:Int)=back (reverseRange d a b):=by
 simp only[R6,eD,Zj]
theorem Mw(d:Array Int)(a b:Nat):Hm (back d) (a:Int) (b:Int)=choosePivot ltInt d a b:=by
 simp only[Hm,eD,Zj]
theorem Hk(d:Array Int)(a b:Nat):wZ (back d) (a:Int) (b:Int)=(back (partialInsertionSort ltInt d a b).1,(partialInsertionSort ltInt d a b).2):=by
 simp only[wZ,eD,Zj]
theorem LI(h:Hint):(Gq h==(2:Int))=Zq (h = .decreasing):=by cases h<;>rfl
theorem LJ(h:Hint):(Gq h==(1:Int))=Zq (h = .increasing):=by cases h<;>rfl
def B9(l:List AV)(k:Int):List AV:=yV (l++[.int .u64 k])
def num(l:List AV)(i:Nat):Int:=match l.getD i .undef with | .int _ n=>n | _=>0
def Ld(l:List AV):Bool:=(List.range (l.length-1)).all fun i=>Zq (num l i<num l (i+1))
theorem Nu{d:Array Int}(h:Ld (back d)=Zd){i:Nat}(hi:i+1<d.size):d[i]! < d[i+1]! := by
 simp only[Ld,List.all_eq_true,List.mem_range,aU,Qa2] at h;have:=h i (by omega);simp only[num,n9 hi,n9 (show i<d.size by omega)] at this;exact this
theorem S3{n:Nat}(h:n<=1000000000000):Go.Abs.room n 8=Zd:=by
 simp[Go.Abs.room];omega
theorem all_join{l:List AV}{k:Int}(h:ep l=Zd):ep (l++[.int .u64 k])=Zd:=by
 simp only[ep,List.all_append,Zg] at h ⊢;exact⟨h,rfl⟩
theorem Lb(l:List AV)(k:Int):∃ d,B9 l k=back d:=⟨_,rfl⟩
theorem Nm{l:List AV}{k:Int}(h:ep l=Zd):(B9 l k).length=l.length+1:=by
 unfold B9 yV Go.Sort.sort;rw[aU,s6 _ _ _ _ _ _ _ (Nat.le_refl _) (by omega) (Nat.le_refl _)];simp[cM,ny]
theorem JR(d:Array Int):yV (back d)=back (pdq ltInt d 0 d.size (Go.Sort.bitsLen d.size) Zd Zd):=by
 unfold yV Go.Sort.sort;rw[eD]
theorem MS(d:Array Int):O' (back d) (0:Int) (d.size:Int) (Go.Sort.bitsLen d.size:Int)=yV (back d):=by
 rw[JR];exact qc d 0 d.size (Go.Sort.bitsLen d.size)
theorem UG{d:Array Int}(h:(d.size:Int)<=1152921504606846976):Go.Sort.bitsLen d.size<=64:=qw 64 (Nat.lt_of_le_of_lt (m:=1152921504606846976) (by omega) (by decide))
end Kerb
/- Chapter 22: what the reader of the reference reads. -/
namespace Kerb
open Go Go.Abs
end Kerb
