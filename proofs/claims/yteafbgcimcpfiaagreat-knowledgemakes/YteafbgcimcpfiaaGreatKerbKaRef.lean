/- What the functions compute, in plain words: no program here. -/
import Derived.Test.YteafbgcimcpfiaaGreatAbsStep
import Derived.Sort.AssemblyPlain
set_option linter.all false
open Go.IntKind renaming i64→Zz,wrap→Zy,u64→Zu,bits→Yz,signed→Yj
open Int renaming toNat→Zx,toNat_natCast→Zj,eq_ofNat_of_zero_le→Yu,tmod_eq_emod_of_nonneg→Yp,fdiv_eq_ediv_of_nonneg→Xz
open Go.Abs.AV renaming int→Zw,ax→Zf,undef→Zb,aF→Yy,bool→Yd
open List renaming length→Zv,getD→Zk,getD_eq_getElem?_getD→Yk,set→Yf
open Decidable renaming decide→Zq
open Bool renaming true→Zp,false→Zd,and_eq_true→Zn,not_eq_false→Zm,not_eq_true'→Zh
open Nat renaming blt→Zg,mod_eq_of_lt→Yv,pow_le_pow_right→Yb,two_pow_add_eq_or_of_lt→Yh
open Sum renaming inr→Yx,inl→Ym
open Go.Abs.Ex renaming exit→Yw
open Option renaming some→Yq
open UInt8 renaming ofNat→Yg
open Array renaming setIfInBounds→Yn,size_setIfInBounds→Xy
namespace Kerb
open Go.Abs in
abbrev Bytes:=List UInt8
def okB(bad:Bytes)(c:UInt8):Bool := !Zq (c.toNat<33) && !Zq (126<c.toNat) && !bad.contains c
def dO(s bad:Bytes):Bool:=s.all (okB bad)
def bO(s:Bytes):Bool:=Zq (s.length<=39)&&dO s [64]
def validName(s:Bytes):Bool := !s.isEmpty&&Zq (s.length<=39)&&dO s [46,64]
def c4(s:Bytes):Bool := !s.isEmpty&&bO s
structure aZ where
 name:Bytes
 inst:Bytes
 aJ:Bytes
def aZ.valid(p:aZ):Bool:=validName p.name&&bO p.inst&&c4 p.aJ
def within(n m:Int):Bool:=Zq (0<=n)&&Zq (n<=m)
def indexOf(c:UInt8):Bytes->Int
 | [] => -1
 | x::r=>if x==c then 0 else if indexOf c r<0 then -1 else indexOf c r+1
def fG(n:Int)(i:Nat):UInt8:=Yg ((n / 2 ^ (8*i)) % 256).toNat
def aS(n:Int)(k:Nat)(aq:Bool):Bytes:=cond aq ((List.range k).map (fG n)) ((List.range k).map fun i=>fG n (k-1-i))
def bg(b s:Bytes):Bytes:=b++s++[0]
def c5(b:Bytes)(p:aZ):Bytes:=bg (bg (bg b p.name) p.inst) p.aJ
def room(b:Bytes)(pos n:Int):Int :=
 if pos<0\/(b.length:Int)<pos\/n<0 then 104 else if (b.length:Int)-pos<n then 101 else 0
def lJ(l:Bytes):Int:=l.foldl (fun n c=>n*256+c.toNat) 0
def cut(b:Bytes)(pos n:Int):Bytes:=(b.drop pos.toNat).take n.toNat
structure Got where
 val:Int
 next:Int
 err:Int
def get(b:Bytes)(pos k:Int)(aq:Bool):Got :=
 if room b pos k=0 then⟨lJ (cond aq (cut b pos k).reverse (cut b pos k)),pos+k,0⟩ else⟨0,0,room b pos k⟩
structure K4 where
 val:Bytes
 next:Int
 err:Int
def bytes(b:Bytes)(pos n:Int):K4 :=
 if room b pos n=0 then⟨cut b pos n,pos+n,0⟩ else⟨[],0,room b pos n⟩
def text(b:Bytes)(pos:Int):K4 :=
 if room b pos 0=0 then
  if 0<=indexOf 0 ((b.drop pos.toNat).take 40) then⟨((b.drop pos.toNat).take 40).take (indexOf 0 ((b.drop pos.toNat).take 40)).toNat,pos+indexOf 0 ((b.drop pos.toNat).take 40)+1,0⟩
  else if ((b.drop pos.toNat).take 40).length=40 then⟨[],0,105⟩ else⟨[],0,101⟩
 else⟨[],0,104⟩
structure WI where
 val:aZ
 next:Int
 err:Int
def cY:aZ:=⟨[],[],[]⟩
def ia(b:Bytes)(pos:Int):WI :=
 if (text b pos).err≠0 then⟨cY,0,(text b pos).err⟩
 else if (text b (text b pos).next).err≠0 then⟨cY,0,(text b (text b pos).next).err⟩
 else if (text b (text b (text b pos).next).next).err≠0 then⟨cY,0,(text b (text b (text b pos).next).next).err⟩
 else if aZ.valid ⟨(text b pos).val,(text b (text b pos).next).val,(text b (text b (text b pos).next).next).val⟩ then
  ⟨⟨(text b pos).val,(text b (text b pos).next).val,(text b (text b (text b pos).next).next).val⟩,(text b (text b (text b pos).next).next).next,0⟩
 else⟨cY,0,103⟩
def isKind(k:Int):Bool:=Zq (1<=k)&&Zq (k<=10)
def header(k:Int)(aq:Bool):Bytes:=cond (isKind k) [4,Yg (2*k.toNat+cond aq 1 0)] []
structure Head where
 kind:Int
 aq:Bool
 err:Int
def dB(b:Bytes):Head :=
 if b.length<2 then⟨0,Zd,101⟩ else if b.getD 0 0≠4 then⟨0,Zd,39⟩
 else if isKind ((b.getD 1 0).toNat / 2:Nat) then⟨((b.getD 1 0).toNat / 2:Nat),Zq ((b.getD 1 0).toNat % 2=1),0⟩ else⟨0,Zd,40⟩
structure iX where
 aq:Bool
 client:aZ
 time:Int
 cj:Int
 service:Bytes
 inst:Bytes
structure lX where
 val:Bytes
 err:Int
def oK(r:iX):lX :=
 if !(r.client.valid&&validName r.service&&bO r.inst) then⟨[],103⟩
 else if !(within r.time 4294967295&&within r.cj 255) then⟨[],104⟩
 else⟨bg (bg (c5 (header 1 r.aq) r.client++aS r.time 4 r.aq++aS r.cj 1 Zd) r.service) r.inst,0⟩
def bc(b:Bytes)(kinds:List Int):Bool×Int :=
 if (dB b).err≠0 then(Zd,(dB b).err) else if kinds.contains (dB b).kind then((dB b).aq,0) else(Zd,40)
structure QD where
 val:iX
 err:Int
def Ql:iX:=⟨false,cY,0,0,[],[]⟩
def rZ(b:Bytes):iX :=
 let li:=(bc b [1]).1
 let p:=ia b 2
 let t:=get b p.next 4 li
 let l:=get b t.next 1 Zd
 let s:=text b l.next
 ⟨li,p.val,t.val,l.val,s.val,(text b s.next).val⟩
def fB(b:Bytes):QD :=
 if (bc b [1]).2≠0 then⟨Ql,(bc b [1]).2⟩
 else if (oK (rZ b)).err≠0\/(oK (rZ b)).val≠b then⟨Ql,100⟩
 else⟨rZ b,0⟩
def aJ(n:Int):Bytes:=if n % 3=0 then[65,84,72] else if n % 3=1 then[66,79,83] else[67,65,77]
def user(n:Int):aZ:=⟨if n % 3=0 then[97,110,110] else if n % 3=1 then[98,111,98] else[99,97,116],[],aJ (n / 3)⟩
def service(n:Int):aZ:=if n % 3=0 then⟨[109,97,105,108],[],aJ (n / 3)⟩ else if n % 3=1 then⟨[110,102,115],[104,111,109,101],aJ (n / 3)⟩ else⟨[107,114,98,116,103,116],[65,84,72],aJ (n / 3)⟩
def aG(n:Int):Int:=Go.IntKind.wrap .u64 ((BitVec.ofInt (Go.IntKind.bits .u64) 144115188075855872 ||| BitVec.ofInt (Go.IntKind.bits .u64) (Go.IntKind.wrap .u64 (Go.IntKind.wrap .i64 (1+n)))).toNat:Int)
def next(l:Bytes)(pos n:Int):Int:=if (l.length:Int)<=pos\/n<=0 then 0 else((l.getD pos.toNat 0).toNat:Int) % n
def c9(l:Bytes)(pos n:Int):Int:=((if (l.length:Int)<=pos\/n<=0 then pos else pos+1).toNat:Int)
structure dz where
 aq:Bool
 client:aZ
 address:Int
 aG:Int
 cj:Int
 cE:Int
 service:Bytes
 inst:Bytes
def eT(n:Int):aZ:=⟨List.replicate (if n=0 then 39 else 38) 110,List.replicate (if n=0 then 39 else 38) 110,List.replicate (if n=0 then 39 else 38) 110⟩
def ZN(l:Bytes):Int:=c9 l 0 2
def tp2(l:Bytes):Int:=c9 l (ZN l) 9
def tp3(l:Bytes):Int:=c9 l (tp2 l) 9
def tp4(l:Bytes):Int:=c9 l (tp3 l) 256
def tp5(l:Bytes):Int:=c9 l (tp4 l) 200
def tp6(l:Bytes):Int:=c9 l (tp5 l) 256
def WE(l:Bytes):Int:=c9 l (tp6 l) 256
def Qy(l:Bytes):Int:=c9 l (WE l) 9
def VL(l:Bytes):Int:=c9 l (Qy l) 7
def VK(l:Bytes):Int:=c9 l (VL l) 3
def SF(l:Bytes):Int:=c9 l (VK l) 3
def tq(l:Bytes):Int:=cond (next l (Qy l) 7==6) (SF l) (VL l)
def aN(l:Bytes):dz :=
  { aq:=next l 0 2==1
    client:=cond (next l (tq l) 9==8) (eT (next l (c9 l (tq l) 9) 2)) (user (next l (ZN l) 9))
    address:=cond (next l (Qy l) 7==6) (Go.IntKind.wrap .i64 (4294967295-next l (VL l) 3)) (next l (tp4 l) 200)
    aG:=aG (next l (tp2 l) 9)
    cj:=next l (tp3 l) 256
    cE:=cond (next l (Qy l) 7==6) (Go.IntKind.wrap .i64 (4294967295-next l (VK l) 3)) (Go.IntKind.wrap .i64 (Go.IntKind.wrap .i64 (next l (tp5 l) 256*150)+next l (tp6 l) 256))
    service:=cond (next l (tq l) 9==8) (eT 0).name (Kerb.service (next l (WE l) 9)).name
    inst:=cond (next l (tq l) 9==8) (eT 0).inst (Kerb.service (next l (WE l) 9)).inst }
def lj(k:Int):Int:=k / 72057594037927936
def kr(k:Int):Int:=k % 72057594037927936
def nc(c:Int):Bool:=c==1||c==2
def ld(n:Int):Bool:=Zq (1<=n)&&Zq (n<=4294967295)
def bp(k:Int):Bool:=nc (lj k)&&ld (kr k)
def keyBytes(k:Int):Bytes:=(List.range 8).map fun i=>fG k (7-i)
def fh(b:Bytes):Int×Bool:=if b.length=8/\bp (lJ b)=Zp then(lJ b,Zp) else(0,Zd)
def pad(b:Bytes):Bytes:=b++List.replicate ((8-b.length % 8) % 8) 0
structure mE where
 aq:Bool
 client:aZ
 time:Int
 dZ:Int
 bP:Int
 iu:Bytes
def dU(r:mE):lX :=
 if !r.client.valid then⟨[],103⟩
 else if !(within r.time 4294967295&&within r.dZ 4294967295&&within r.bP 255) then⟨[],104⟩
 else if 1012<r.iu.length then⟨[],105⟩
 else⟨c5 (header 2 r.aq) r.client++aS r.time 4 r.aq++aS 1 1 Zd++aS r.dZ 4 r.aq++aS r.bP 1 Zd++aS r.iu.length 2 r.aq++r.iu,0⟩
structure K3 where
 val:mE
 err:Int
def IY:mE:=⟨false,cY,0,0,0,[]⟩
def pF(b:Bytes):mE :=
 let li:=(bc b [2]).1
 let p:=ia b 2
 let t:=get b p.next 4 li
 let o:=get b t.next 1 Zd
 let e:=get b o.next 4 li
 let k:=get b e.next 1 Zd
 let n:=get b k.next 2 li
 ⟨li,p.val,t.val,e.val,k.val,(bytes b n.next n.val).val⟩
def bK(b:Bytes):K3 :=
 if (bc b [2]).2≠0 then⟨IY,(bc b [2]).2⟩
 else if (dU (pF b)).err≠0\/(dU (pF b)).val≠b then⟨IY,100⟩
 else⟨pF b,0⟩
structure gG where
 aG:Int
 service:aZ
 cj:Int
 bP:Int
 aN:Bytes
 time:Int
def cX(p:gG)(aq:Bool):lX :=
 if !bp p.aG then⟨[],10⟩
 else if !p.service.valid then⟨[],103⟩
 else if !(within p.cj 255&&within p.bP 255&&within p.time 4294967295) then⟨[],104⟩
 else if 255<p.aN.length then⟨[],105⟩
 else⟨pad (c5 (aS (cond aq 1 0) 1 Zd++keyBytes p.aG) p.service++aS p.cj 1 Zd++aS p.bP 1 Zd++aS p.aN.length 1 Zd++p.aN++aS p.time 4 aq),0⟩
structure Ie where
 val:gG
 err:Int
def rO:gG:=⟨0,cY,0,0,[],0⟩
def rY(b:Bytes)(aq:Bool):gG :=
 let raw:=bytes b 1 8
 let p:=ia b raw.next
 let l:=get b p.next 1 Zd
 let k:=get b l.next 1 Zd
 let n:=get b k.next 1 Zd
 let t:=bytes b n.next n.val
 ⟨(fh raw.val).1,p.val,l.val,k.val,t.val,(get b t.next 4 aq).val⟩
def ca(b:Bytes)(aq:Bool):Ie :=
 if (cX (rY b aq) aq).err≠0\/(cX (rY b aq) aq).val≠b then⟨rO,100⟩
 else⟨rY b aq,0⟩
structure pP where
 aq:Bool
 client:aZ
 time:Int
 code:Int
 text:Bytes
def ot(r:pP):lX :=
 if !r.client.valid then⟨[],103⟩
 else if !(within r.time 4294967295&&Zq (1<=r.code)&&Zq (r.code<=99)) then⟨[],104⟩
 else if 39<r.text.length then⟨[],105⟩
 else if 0∈r.text then⟨[],100⟩
 else⟨bg (c5 (header 5 r.aq) r.client++aS r.time 4 r.aq++aS r.code 4 r.aq) r.text,0⟩
structure QC where
 val:pP
 err:Int
def Qk:pP:=⟨false,cY,0,0,[]⟩
def w5(b:Bytes):pP :=
 let li:=(bc b [5]).1
 let p:=ia b 2
 let t:=get b p.next 4 li
 let c:=get b t.next 4 li
 ⟨li,p.val,t.val,c.val,(text b c.next).val⟩
def rj(b:Bytes):QC :=
 if (bc b [5]).2≠0 then⟨Qk,(bc b [5]).2⟩
 else if (ot (w5 b)).err≠0\/(ot (w5 b)).val≠b then⟨Qk,100⟩
 else⟨w5 b,0⟩
structure RdP where
 p:aZ
 pos:Int
 bad:Bool
def ns(b:Bytes)(how:Int):Int:=Int.tmod (Go.IntKind.wrap .i64 (Go.IntKind.wrap .u16 (Int.tdiv how 8))) (b.length:Int)
def qJ(b:Bytes)(how:Int):Bytes :=
 if b=[] then[] else
 if Int.tmod how 4=0 then b.set (ns b how).toNat (Yg (Zx (Go.IntKind.wrap .u8 ((BitVec.ofInt (Go.IntKind.bits .u8) ((b.getD (ns b how).toNat 0).toNat:Int) ^^^ BitVec.ofInt (Go.IntKind.bits .u8) ((Yg (Zx (Go.IntKind.wrap .u8 (((1:UInt8).toNat:Int)*(2:Int) ^ min (Zx (Go.IntKind.wrap .u64 (Int.tmod how 7))) 8)))).toNat:Int)).toNat:Int))))
 else if Int.tmod how 4=1 then b.take (ns b how).toNat++b.drop (Zx (Go.IntKind.wrap .i64 (ns b how+1)))
 else if Int.tmod how 4=2 then b++[Yg (Zx (Go.IntKind.wrap .u8 how))]
 else b
def texts:List Bytes:=[[99,108,105,101,110,116,32,101,120,112,105,114,101,100],[115,101,114,118,105,99,101,32,101,120,112,105,114,101,100],[110,111,32,108,105,102,101,116,105,109,101,32,108,101,102,116],[112,114,111,116,111,99,111,108,32,118,101,114,115,105,111,110],[110,111,116,32,97,32,99,108,105,101,110,116],[110,111,116,32,97,32,115,101,114,118,105,99,101],[98,121,116,101,32,111,114,100,101,114],[112,114,105,110,99,105,112,97,108,32,117,110,107,110,111,119,110],[112,114,105,110,99,105,112,97,108,32,110,111,116,32,117,110,105,113,117,101],[110,111,32,107,101,121]]
def refused:Bytes:=[114,101,113,117,101,115,116,32,114,101,102,117,115,101,100]
def message(code:Int):Bytes:=if code<1\/10<code then refused else texts.getD (code-1).toNat []
structure Rd (α:Type) where
 val:α
 pos:Int
 bad:Bool
end Kerb
/- Plain facts on what the functions compute. -/
namespace Kerb
open Go Go.Abs
theorem bW{n:Nat}(h:n<=140737488355328):Go.Abs.room n 1=Zp:=by
 simp[Go.Abs.room];omega
theorem oI{s:Bytes}{i:Nat}(h:i<s.length):s.drop i=s.getD i 0::s.drop (i+1):=by
 rw[List.drop_eq_getElem_cons h];simp[h]
theorem rJ(c:UInt8):∀ l:Bytes,(0<=indexOf c l)↔c∈l
 | []=>by simp[indexOf]
 | x::r=>by
  have ih:=rJ c r;unfold indexOf;by_cases h:x=c
  ·subst h;simp
  ·have h1:(x==c)=Zd:=by simpa using h
   rw[h1,List.mem_cons,<-ih];have h3:¬ c=x:=fun e=>h e.symm;simp only[Bool.false_eq_true,if_false,h3,false_or];split<;>omega
theorem Cl(l:Bytes)(c:UInt8):lJ (l++[c])=lJ l*256+c.toNat:=by simp[lJ]
theorem Cm{l:Bytes}{i:Nat}(h:i<l.length):lJ (l.take (i+1))=lJ (l.take i)*256+(l.getD i 0).toNat:=by
 rw[List.take_succ_eq_append_getElem h,Cl];simp[h]
theorem Ay(l:Bytes):∃ m:Nat,lJ l=m/\m<256 ^ l.length:=by
 have key:∀ (n:Nat) (l:Bytes),l.length=n->∃ m:Nat,lJ l=m/\m<256 ^ n:=by
  intro n;induction n with
  | zero=>intro l h;have:=List.eq_nil_of_length_eq_zero h;subst this;exact⟨0,rfl,by simp⟩
  | succ n ih =>
   intro l h;have gj:l≠[]:=fun e=>by subst e;simp at h
   obtain⟨m,h1,h2⟩:=ih l.dropLast (by simp[h]);refine⟨m*256+(l.getLast gj).toNat,?_,?_⟩
   ·have e:=List.dropLast_concat_getLast gj;rw[<-Qb3 lJ e,Cl,h1];omega
   ·have:=(l.getLast gj).toNat_lt;rw[Nat.pow_succ];omega
 exact key _ l rfl
theorem I_{l:Bytes}(h:l.length<=4):0<=lJ l/\lJ l<4294967296:=by
 obtain⟨m,h1,h2⟩:=Ay l;have:256 ^ l.length<=256 ^ 4:=Yb (by omega) h;rw[h1];omega
theorem I5{n:Int}(c:UInt8)(h0:0<=n)(h1:n<1099511627776):Zy .i64 ((BitVec.ofInt (Yz .i64) (Zy .i64 (n*2 ^ min (Zx 8) (Yz .i64))) ||| BitVec.ofInt (Yz .i64) (Zy .i64 (c.toNat:Int))).toNat:Int)=n*256+c.toNat:=by
 obtain⟨m,rfl⟩:=Yu h0;have hc:=c.toNat_lt;have e1:((m:Int)*2 ^ min (Zx 8) (Yz .i64))=((2 ^ 8*m:Nat):Int):=by
  have:min (Zx 8) (Yz .i64)=8:=by decide
  rw[this];omega
 rw[e1,wrap_i64 (n:=((2 ^ 8*m:Nat):Int)) (by omega) (by omega),wrap_i64 (n:=(c.toNat:Int)) (by omega) (by omega)];have hb:Yz .i64=64:=rfl;rw[hb];have e2:(BitVec.ofInt 64 ((2 ^ 8*m:Nat):Int) ||| BitVec.ofInt 64 ((c.toNat:Nat):Int)).toNat=2 ^ 8*m+c.toNat:=by
  rw[BitVec.ofInt_natCast,BitVec.ofInt_natCast,BitVec.toNat_or,BitVec.toNat_ofNat,BitVec.toNat_ofNat,Yv (by omega),Yv (by omega)];exact(Yh hc m).symm
 rw[e2,wrap_i64 (by omega) (by omega)];omega
theorem mh{b:Bytes}{pos n:Int}:room b pos n=0↔0<=pos/\pos<=b.length/\0<=n/\n<=b.length-pos:=by
 unfold room;split
 ·omega
 ·split<;>omega
theorem j6{b:Bytes}{pos n:Int}(h:room b pos n=0):(cut b pos n).length=n.toNat:=by
 obtain⟨h1,h2,h3,h4⟩:=mh.1 h;simp[cut];omega
theorem CS{l:Bytes}{i:Nat}(h:i<l.length):l.reverse.getD i 0=l.getD (l.length-1-i) 0:=by
 simp[Yk,List.getElem?_reverse h]
theorem Es{b:Bytes}{pos n:Int}{i:Nat}(h:i<n.toNat):(cut b pos n).getD i 0=b.getD (pos.toNat+i) 0:=by
 simp[cut,Yk,h]
def tg(n:Int)(m:Nat):UInt8:=Yg (Zx (Zy .u8 (Int.fdiv n (2 ^ m))))
theorem wrap_u8(x:Int):Zy .u8 x=x % 256:=by
 simp[Zy,Yj,Yz]
theorem wrap_u64(x:Int):Zy .u64 x=x % 18446744073709551616:=by
 simp[Zy,Yj,Yz]
theorem qY(n:Int)(m:Nat):tg n m=Yg ((n / 2 ^ m) % 256).toNat:=by grind [wrap_u8,tg]
theorem QA(n:Int){i:Nat}(h:i<4):Yg (Zx (Zy .u8 (Int.fdiv (Zy .u64 n) (2 ^ (8*i)))))=fG n i:=by
 unfold fG;rw[wrap_u8,wrap_u64,Xz _ (Int.le_of_lt (Int.pow_pos (by omega)))];have h4:i=0\/i=1\/i=2\/i=3:=by omega
 have e:n % 18446744073709551616 / 2 ^ (8*i) % 256=n / 2 ^ (8*i) % 256:=by
  rcases h4 with rfl | rfl | rfl | rfl<;>simp<;>omega
 rw[e]
theorem af(n:Int)(k:Nat)(l:Bool):(aS n k l).length=k:=by cases l<;>simp[aS]
theorem Kp(n:Int)(k:Nat)(l:Bool){i:Nat}(h:i<k):(aS n k l).getD i 0=fG n (cond l i (k-1-i)):=by
 cases l<;>simp[aS,Yk,h]
theorem Aq{l:Bytes}{i:Nat}(h:i<l.length):l.take (i+1)=l.take i++[l.getD i 0]:=by
 rw[List.take_succ_eq_append_getElem h];simp[h]
theorem yv:∀ {els:List AV} {i:Nat},OX els=Zp->i<els.length->∃ l,els.getD i .undef = .bs l/\ra (els.take (i+1))=ra (els.take i)++l/\(ra (els.take i)).length+l.length<=(ra els).length
 | [],i,_,h=>by simp at h
 | x::r,i,ha,h=>by
  cases x<;>simp only[OX] at ha<;>try (cases ha;done)
  rename_i l;cases i with
  | zero=>exact⟨l,by simp,by simp[ra],by simp[ra]⟩
  | succ i =>
   obtain⟨l',h1,h2,h3⟩:=yv (i:=i) ha (by simpa using h);refine⟨l',by simpa using h1,?_,?_⟩
   ·simp only[List.take_succ_cons,ra] at h2 ⊢;rw[h2,List.append_assoc]
   ·simp only[List.take_succ_cons,ra,List.length_append];omega
theorem uO{x:AV}{r:List AV}(h:og (x::r)=Zp):∃ n,x = .int .i64 n/\og r=Zp:=by
 unfold og at h;split at h
 ·rename_i he;cases he
 ·rename_i he;cases he;exact⟨_,rfl,h⟩
 ·cases h
theorem E7:∀ {els:List AV} {i:Nat},og els=Zp->i<els.length->∃ n,els.getD i .undef = .int .i64 n/\(jB els).drop i=n::(jB els).drop (i+1)
 | [],i,_,h=>by simp at h
 | x::r,i,ha,h=>by
  obtain⟨n,rfl,OI⟩:=uO ha;cases i with
  | zero=>exact⟨n,by simp,by simp[jB]⟩
  | succ i =>
   obtain⟨m,h1,h2⟩:=E7 (i:=i) OI (by simpa using h);exact⟨m,by simpa using h1,by simpa [jB] using h2⟩
theorem E8:∀ {els:List AV},og els=Zp->(jB els).length=els.length
 | [],_=>rfl
 | x::r,ha=>by
  obtain⟨n,rfl,OI⟩:=uO ha;simp[jB,E8 OI]
theorem zb(c:UInt8):∀ l:Bytes,-1<=indexOf c l/\(0<=indexOf c l->indexOf c l<l.length)/\indexOf c l<=l.length
 | []=>by simp[indexOf]
 | x::r=>by
  have ih:=zb c r;unfold indexOf;simp only[List.length_cons];split
  ·omega
  ·split<;>omega
theorem gW{s:Bytes}(h:bO s=Zp):s.length<=39:=by
 simp only[bO,Zn,Qa2] at h;exact h.1
theorem iK{s:Bytes}(h:validName s=Zp):s.length<=39:=by
 simp only[validName,Zn,Qa2] at h;exact h.1.2
theorem gx{s:Bytes}(h:c4 s=Zp):s.length<=39:=by
 simp only[c4,Zn] at h;exact gW h.2
theorem ch{p:aZ}(h:p.valid=Zp):p.name.length<=39/\p.inst.length<=39/\p.aJ.length<=39:=by
 simp only[aZ.valid,Zn] at h;exact⟨iK h.1.1,gW h.1.2,gx h.2⟩
theorem jd(k:Int)(l:Bool):(header k l).length<=2:=by
 unfold header;cases isKind k<;>simp
theorem bH(b s:Bytes):(bg b s).length=b.length+s.length+1:=by simp[bg];omega
theorem ai(b:Bytes)(p:aZ):(c5 b p).length=b.length+p.name.length+p.inst.length+p.aJ.length+3:=by
 simp[c5,bH];omega
theorem jk(b:Bytes)(pos:Int):(text b pos).val.length<=40:=by
 unfold text;split
 ·split
  ·simp;omega
  ·split<;>simp
 ·simp
theorem nY(b:Bytes)(pos:Int):(ia b pos).val.name.length<=40/\(ia b pos).val.inst.length<=40/\(ia b pos).val.aJ.length<=40:=by
 unfold ia;split
 ·simp[cY]
 split
 ·simp[cY]
 split
 ·simp[cY]
 split
 ·exact⟨jk _ _,jk _ _,jk _ _⟩
 ·simp[cY]
theorem yd(l:Bytes)(p n:Int):0<=next l p n/\next l p n<=255/\(0<n->next l p n<n):=by
 unfold next
 have hb:=(l.getD p.toNat 0).toNat_lt;split
 ·omega
 ·have h0:0<n:=by omega
  have h1:=Int.emod_nonneg ((l.getD p.toNat 0).toNat:Int) (by omega:n≠0);have h2:=Int.emod_lt_of_pos ((l.getD p.toNat 0).toNat:Int) h0;have h3:((l.getD p.toNat 0).toNat:Int) % n<=((l.getD p.toNat 0).toNat:Int):=by
   rcases Int.lt_or_le ((l.getD p.toNat 0).toNat:Int) n with h | h
   ·rw[Int.emod_eq_of_lt (by omega) h];omega
   ·omega
  omega
theorem Fq(l:Bytes)(p n:Int):Zq ((0:Int)<=c9 l p n)=Zp:=Qa4 (Int.natCast_nonneg _)
theorem Fs(l:Bytes)(p n:Int):Zq ((0:Int)<=next l p n)=Zp:=by simpa using (yd l p n).1
theorem zB(l:Bytes)(p n:Int):Zq (next l p n<=4611686018427387904)=Zp:=by have:=(yd l p n).2.1;simp;omega
theorem Dg(l:Bytes)(p n:Int):Zq (next l p n<=1000)=Zp:=by have:=(yd l p n).2.1;simp;omega
theorem J9(l:Bytes)(p:Int):Zq (next l p 2<=1)=Zp:=by have:=(yd l p 2).2.2 (by omega);simp;omega
theorem xx(n:Int):(eT n).name.length<=39/\(eT n).inst.length<=39/\(eT n).aJ.length<=39:=by
 unfold eT;by_cases h:n=0<;>simp[h]
theorem w_(n:Int):(aJ n).length=3:=by
 unfold aJ;split
 ·rfl
 ·split<;>rfl
theorem wl(n:Int):(user n).name.length<=39/\(user n).inst.length<=39/\(user n).aJ.length<=39:=by grind [user,w_]
theorem xH(n:Int):(service n).name.length<=39/\(service n).inst.length<=39/\(service n).aJ.length<=39:=by
 unfold service;split
 ·simp[w_]
 ·split<;>simp[w_]
theorem Ar(l:Bytes):(aN l).client.name.length<=39/\(aN l).client.inst.length<=39/\(aN l).client.aJ.length<=39/\(aN l).service.length<=39/\(aN l).inst.length<=39:=by
 simp only[aN];cases next l (tq l) 9==8<;>simp only[Qa5,Qa6]
 ·have h1:=wl (next l (ZN l) 9);have h2:=xH (next l (WE l) 9);omega
 ·have h1:=xx (next l (c9 l (tq l) 9) 2);have h2:=xx 0;omega
theorem rI{c:UInt8}:∀ {s q:Bytes},c ∉ s->indexOf c (s++c::q)=s.length
 | [],q,_=>by simp[indexOf]
 | x::s,q,h=>by
  have hx:(x==c)=Zd:=by
   have:x≠c:=fun e=>h (by simp[e]);simpa using this
  have ih:=rI (q:=q) (c:=c) (s:=s) fun hm=>h (by simp[hm]);simp only[List.cons_append,indexOf,hx,Bool.false_eq_true,if_false,ih,List.length_cons];rw[Qa0 (by omega)];omega
theorem yk{b pre s post:Bytes}{pos:Int}(hb:b=pre++(s++0::post))(hp:pos=pre.length)(hs:s.length<=39)(h0:(0:UInt8) ∉ s):text b pos=⟨s,pos+s.length+1,0⟩:=by
 have hr:room b pos 0=0:=mh.2 (by subst hb;simp;omega);have hd:b.drop pos.toNat=s++0::post:=by subst hb;subst hp;simp
 have ht:(s++0::post).take 40=s++0::post.take (39-s.length):=by
  rw[List.take_append,List.take_of_length_le (by omega),show 40-s.length=(39-s.length)+1 by omega,List.take_succ_cons]
 unfold text;rw[Qa1 hr,hd,ht,rI h0,Qa1 (by omega)];simp
theorem yf{s bad:Bytes}(h:dO s bad=Zp):(0:UInt8) ∉ s:=by
 intro hm;have:=List.all_eq_true.1 h 0 hm;simp[okB] at this
theorem sF{s:Bytes}(h:bO s=Zp):(0:UInt8) ∉ s:=by
 simp only[bO,Zn] at h;exact yf h.2
theorem Az{s:Bytes}(h:validName s=Zp):(0:UInt8) ∉ s:=by
 simp only[validName,Zn] at h;exact yf h.2
theorem xX{s:Bytes}(h:c4 s=Zp):(0:UInt8) ∉ s:=by
 simp only[c4,Zn] at h;exact sF h.2
theorem PI{b pre post:Bytes}{p:aZ}{pos:Int}(hb:b=pre++(p.name++0::(p.inst++0::(p.aJ++0::post))))(hp:pos=pre.length)(hv:p.valid=Zp) :
  ia b pos=⟨p,pos+p.name.length+p.inst.length+p.aJ.length+3,0⟩:=by
 have hl:=ch hv;have y0:=hv;simp only[aZ.valid,Zn] at y0;have h1:=yk hb hp hl.1 (Az y0.1.1);have h2:=yk (b:=b) (pre:=pre++(p.name++[0])) (s:=p.inst) (post:=p.aJ++0::post) (pos:=pos+p.name.length+1) (by rw[hb];simp) (by rw[hp];simp;omega) hl.2.1 (sF y0.1.2);have h3:=yk (b:=b) (pre:=pre++(p.name++[0])++(p.inst++[0])) (s:=p.aJ) (post:=post) (pos:=pos+p.name.length+1+p.inst.length+1) (by rw[hb];simp) (by rw[hp];simp;omega) hl.2.2 (xX y0.2);unfold ia;simp only[h1,h2,h3];have e:aZ.mk p.name p.inst p.aJ=p:=rfl;simp only[e,hv,ne_eq,not_true_eq_false,if_false,if_true];congr 1;omega
theorem pU(n:Int)(i:Nat):((fG n i).toNat:Int)=n / 2 ^ (8*i) % 256:=by
 unfold fG;have h1:=Int.emod_nonneg (n / 2 ^ (8*i)) (by omega:(256:Int)≠0);have h2:=Int.emod_lt_of_pos (n / 2 ^ (8*i)) (by omega:(0:Int)<256);rw[UInt8.toNat_ofNat_of_lt' (by show _<256;omega)];omega
theorem PW{n:Int}{k:Nat}{aq:Bool}(hk:k=1\/k=2\/k=4)(h0:0<=n)(h1:n<256 ^ k):lJ (cond aq (aS n k aq).reverse (aS n k aq))=n:=by
 have e0:=pU n 0;have e1:=pU n 1;have e2:=pU n 2;have e3:=pU n 3;simp only[Nat.mul_zero,Nat.mul_one,Int.pow_zero,Int.ediv_one] at e0 e1 e2 e3;rcases hk with rfl | rfl | rfl
 ·have hv:lJ (cond aq (aS n 1 aq).reverse (aS n 1 aq))=((fG n 0).toNat:Int):=by cases aq<;>simp[aS,lJ,List.range_succ]
  rw[hv,e0];simp at h1;omega
 ·have hv:lJ (cond aq (aS n 2 aq).reverse (aS n 2 aq))=((fG n 1).toNat:Int)*256+((fG n 0).toNat:Int):=by cases aq<;>simp[aS,lJ,List.range_succ]
  rw[hv,e0,e1];simp at h1 ⊢;omega
 ·have hv:lJ (cond aq (aS n 4 aq).reverse (aS n 4 aq))=((((fG n 3).toNat:Int)*256+((fG n 2).toNat:Int))*256+((fG n 1).toNat:Int))*256+((fG n 0).toNat:Int):=by cases aq<;>simp[aS,lJ,List.range_succ]
  rw[hv,e0,e1,e2,e3];simp at h1 ⊢;omega
theorem get_at{b pre post:Bytes}{pos n:Int}{k:Nat}{aq:Bool}(hb:b=pre++(aS n k aq++post))(hp:pos=pre.length)(hk:k=1\/k=2\/k=4)(h0:0<=n)(h1:n<256 ^ k) :
  get b pos k aq=⟨n,pos+k,0⟩:=by
 have hl:=af n k aq;have hr:room b pos k=0:=mh.2 (by subst hb;simp[hl];omega);have hc:cut b pos k=aS n k aq:=by
  subst hb;subst hp;simp only[cut,Zj,List.drop_left];rw[List.take_append_of_le_length (by omega),List.take_of_length_le (by omega)]
 unfold get;rw[Qa1 hr,hc,PW hk h0 h1]
theorem Lr{b pre s post:Bytes}{pos n:Int}(hb:b=pre++(s++post))(hp:pos=pre.length)(hn:n=s.length):bytes b pos n=⟨s,pos+n,0⟩:=by
 have hr:room b pos n=0:=mh.2 (by subst hb;simp;omega);have hc:cut b pos n=s:=by
  subst hb;subst hp;subst hn;simp[cut]
 unfold bytes;rw[Qa1 hr,hc]
theorem xQ(r:mE):(dU r).val.length<=2000:=by
 unfold dU;split
 ·simp
 split
 ·simp
 split
 ·simp
 rename_i g1 g2 g3;simp only[Zh,Zm] at g1;have h1:=ch g1;have h4:=jd 2 r.aq;simp only[ai,af,List.length_append];omega
theorem Mh{k:Int}(h0:0<=k)(h1:k<18446744073709551616):Zy .i64 (Int.fdiv k ((2:Int) ^ min (Zx (56:Int)) (Yz .u64)))=lj k:=by
 have e:min (Zx (56:Int)) (Yz .u64)=56:=by decide
 rw[e,Xz _ (Int.le_of_lt (Int.pow_pos (by omega)))];unfold lj;have e2:(2:Int) ^ 56=72057594037927936:=by decide
 rw[e2,wrap_i64 (by omega) (by omega)]
theorem Mi{k:Int}(h0:0<=k)(h1:k<18446744073709551616):Zy .i64 (Zy .u64 (((BitVec.ofInt (Yz .u64) k &&& BitVec.ofInt (Yz .u64) (72057594037927935:Int)).toNat:Nat):Int))=kr k:=by
 obtain⟨m,rfl⟩:=Yu h0;have hb:Yz .u64=64:=rfl;have e2:(BitVec.ofInt 64 ((m:Nat):Int) &&& BitVec.ofInt 64 (72057594037927935:Int)).toNat=m % 72057594037927936:=by
  have e3:BitVec.ofInt 64 (72057594037927935:Int)=BitVec.ofNat 64 (2 ^ 56-1):=by decide
  rw[BitVec.ofInt_natCast,e3,BitVec.toNat_and,BitVec.toNat_ofNat,BitVec.toNat_ofNat,Yv (by omega),Yv (by decide),Nat.and_two_pow_sub_one_eq_mod]
 rw[hb,e2,wrap_u64];unfold kr;rw[wrap_i64 (by omega) (by omega)];omega
theorem Mj{c n:Int}(hc:c=1\/c=2)(h0:1<=n)(h1:n<=4294967295):Zy .u64 (((BitVec.ofInt (Yz .u64) (Zy .u64 (Zy .u64 c*(2:Int) ^ min (Zx (56:Int)) (Yz .u64))) ||| BitVec.ofInt (Yz .u64) (Zy .u64 n)).toNat:Nat):Int)=c*72057594037927936+n:=by
 have e:min (Zx (56:Int)) (Yz .u64)=56:=by decide
 have hb:Yz .u64=64:=rfl;obtain⟨m,rfl⟩:=Yu (by omega:0<=n);obtain⟨d,rfl⟩:=Yu (by omega:0<=c);have e2:(2:Int) ^ 56=72057594037927936:=by decide
 rw[e,e2,wrap_u64,wrap_u64,wrap_u64,wrap_u64,hb];have q1:((d:Int) % 18446744073709551616*72057594037927936) % 18446744073709551616=((2 ^ 56*d:Nat):Int):=by omega
 have q2:((m:Int) % 18446744073709551616)=((m:Nat):Int):=by omega
 rw[q1,q2];have e3:(BitVec.ofInt 64 ((2 ^ 56*d:Nat):Int) ||| BitVec.ofInt 64 ((m:Nat):Int)).toNat=2 ^ 56*d+m:=by
  rw[BitVec.ofInt_natCast,BitVec.ofInt_natCast,BitVec.toNat_or,BitVec.toNat_ofNat,BitVec.toNat_ofNat,Yv (by omega),Yv (by omega)];exact(Yh (by omega) d).symm
 rw[e3];omega
theorem M6{n:Int}(c:UInt8)(h0:0<=n)(h1:n<72057594037927936):Zy .u64 ((BitVec.ofInt (Yz .u64) (Zy .u64 (n*2 ^ min (Zx 8) (Yz .u64))) ||| BitVec.ofInt (Yz .u64) (Zy .u64 (c.toNat:Int))).toNat:Int)=n*256+c.toNat:=by
 obtain⟨m,rfl⟩:=Yu h0;have hc:=c.toNat_lt;have e:min (Zx 8) (Yz .u64)=8:=by decide
 have hb:Yz .u64=64:=rfl;rw[e,wrap_u64,wrap_u64,wrap_u64,hb];have q1:((m:Int)*2 ^ 8) % 18446744073709551616=((2 ^ 8*m:Nat):Int):=by omega
 have q2:((c.toNat:Int) % 18446744073709551616)=((c.toNat:Nat):Int):=by omega
 rw[q1,q2];have e2:(BitVec.ofInt 64 ((2 ^ 8*m:Nat):Int) ||| BitVec.ofInt 64 ((c.toNat:Nat):Int)).toNat=2 ^ 8*m+c.toNat:=by
  rw[BitVec.ofInt_natCast,BitVec.ofInt_natCast,BitVec.toNat_or,BitVec.toNat_ofNat,BitVec.toNat_ofNat,Yv (by omega),Yv (by omega)];exact(Yh hc m).symm
 rw[e2];omega
theorem Ps(k:Int):lj k*72057594037927936+kr k=k:=by
 unfold lj kr;omega
theorem GI{l:Bytes}(h:l.length<=8):0<=lJ l/\lJ l<18446744073709551616:=by
 obtain⟨m,h1,h2⟩:=Ay l;have:256 ^ l.length<=256 ^ 8:=Yb (by omega) h;rw[h1];omega
theorem OC{l:Bytes}(h:l.length<=7):0<=lJ l/\lJ l<72057594037927936:=by
 obtain⟨m,h1,h2⟩:=Ay l;have:256 ^ l.length<=256 ^ 7:=Yb (by omega) h;rw[h1];omega
theorem ag(k:Int):(keyBytes k).length=8:=by simp[keyBytes]
theorem l8(b:Bytes):0<=(fh b).1/\(fh b).1<18446744073709551616:=by
 unfold fh;split
 ·rename_i h;exact GI (by omega)
 ·simp
theorem jn(b:Bytes)(pos n:Int):(bytes b pos n).val.length<=b.length:=by
 unfold bytes;split
 ·simp[cut];omega
 ·simp
theorem sQ(b:Bytes):(pad b).length=b.length+(8-b.length % 8) % 8:=by simp[pad]
theorem R5{n:Nat}(h:n<=70368744177664):Int.tmod (Zy .i64 ((8:Int)-Int.tmod (n:Int) 8)) 8=(((8-n % 8) % 8:Nat):Int):=by
 rw[Yp (a:=(n:Int)) (by omega),wrap_i64 (by omega) (by omega),Yp (by omega)];omega
theorem yF(r:gG)(aq:Bool):(cX r aq).val.length<=392:=by
 unfold cX;split
 ·simp
 split
 ·simp
 split
 ·simp
 split
 ·simp
 rename_i g0 g1 g2 g3;simp only[Zh,Zm] at g1;have h1:=ch g1;simp only[sQ,ai,af,ag,List.length_append];omega
theorem wrap_u16(x:Int):Zy .u16 x=x % 65536:=by
 rw[Zy];rfl
theorem H7{b:Bytes}{how:Int}(h0:0<=how)(h1:how<=65535)(hb:0<b.length):0<=ns b how/\ns b how<b.length:=by
 unfold ns;rw[Int.tdiv_eq_ediv_of_nonneg h0,wrap_u16,wrap_i64 (by omega) (by omega),Yp (by omega)];exact⟨Int.emod_nonneg _ (by omega),Int.emod_lt_of_pos _ (by omega)⟩
theorem KM(b:Bytes)(how:Int):(qJ b how).length<=2*b.length+1:=by grind [qJ]
end Kerb
/- Reading what was written: a place in a text, and what is behind it. -/
namespace Kerb
open Go Go.Abs
def At(b:Bytes)(pos:Int)(rest:Bytes):Prop:=∃ pre:Bytes,b=pre++rest/\pos=pre.length
theorem At.start(b:Bytes):At b 0 b:=⟨[],rfl,rfl⟩
theorem At.skip{b s rest:Bytes}{pos:Int}(h:At b pos (s++rest)):At b (pos+s.length) rest:=by
 obtain⟨pre,rfl,rfl⟩:=h;exact⟨pre++s,by simp,by simp⟩
theorem At.to{b rest:Bytes}{pos q:Int}(h:At b pos rest)(e:pos=q):At b q rest:=e ▸ h
theorem At.as{b rest Qr:Bytes}{pos:Int}(h:At b pos rest)(e:rest=Qr):At b pos Qr:=e ▸ h
theorem At.get{b rest:Bytes}{pos n:Int}{k:Nat}{li:Bool}(h:At b pos (aS n k li++rest))(hk:k=1\/k=2\/k=4)(h0:0<=n)(h1:n<256 ^ k) :
  Kerb.get b pos k li=⟨n,pos+k,0⟩/\At b (pos+k) rest:=by
 have hs:=h.skip;rw[af] at hs;obtain⟨pre,hb,hp⟩:=h;exact⟨get_at hb hp hk h0 h1,hs⟩
theorem At.bytes{b s rest:Bytes}{pos n:Int}(h:At b pos (s++rest))(hn:n=s.length):Kerb.bytes b pos n=⟨s,pos+n,0⟩/\At b (pos+n) rest:=by
 have hs:=h.skip;obtain⟨pre,hb,hp⟩:=h;exact⟨Lr hb hp hn,hn ▸ hs⟩
theorem At.text{b s rest:Bytes}{pos:Int}(h:At b pos (s++0::rest))(hs:s.length<=39)(h0:(0:UInt8) ∉ s):Kerb.text b pos=⟨s,pos+s.length+1,0⟩/\At b (pos+s.length+1) rest:=by
 have h2:At b (pos+s.length) ([0]++rest):=h.skip;have h3:=h2.skip;obtain⟨pre,hb,hp⟩:=h;exact⟨yk hb hp hs h0,h3⟩
theorem At.ia{b rest:Bytes}{p:aZ}{pos:Int}(h:At b pos (p.name++0::(p.inst++0::(p.aJ++0::rest))))(hv:p.valid=Zp) :
  ∃ q,Kerb.ia b pos=⟨p,q,0⟩/\At b q rest:=by
 obtain⟨pre,hb,hp⟩:=h;have:=PI hb hp hv;refine⟨_,this,pre++(p.name++0::(p.inst++0::(p.aJ++[0]))),by rw[hb];simp,?_⟩;rw[hp];simp;omega
end Kerb
/- Chapter 22: messages of kaservers, in plain words. -/
namespace Kerb
open Go Go.Abs
structure dY where
 op:Int
 user:aZ
 bP:Int
 aJ:Bytes
 aN:Bytes
 service:Bytes
 inst:Bytes
 box:Bytes
def aZ.xS(p:aZ):Bool:=p.name==[]&&(p.inst==[]&&p.aJ==[])
def lh(n:Int):Bool:=n==1||(n==2||n==3)
def rK(op:Int):Bytes:=header 9 Zd++aS op 1 Zd
def c7(b:Bytes)(t:Bytes):Bytes:=b++aS t.length 2 Zd++t
def iO(b:Bytes)(t:Bytes):Bytes:=b++aS t.length 1 Zd++t
def aV(r:dY):lX :=
 if !lh r.op then⟨[],40⟩
 else if r.op==2 then
  if !(c4 r.aJ&&validName r.service&&bO r.inst) then⟨[],103⟩
  else if !within r.bP 255 then⟨[],104⟩
  else if 255<r.aN.length\/1012<r.box.length then⟨[],105⟩
  else if !r.user.xS then⟨[],108⟩
  else⟨c7 (bg (bg (iO (bg (rK r.op++aS r.bP 1 Zd) r.aJ) r.aN) r.service) r.inst) r.box,0⟩
 else
  if !r.user.valid then⟨[],103⟩
  else if 1012<r.box.length then⟨[],105⟩
  else if r.bP≠0\/r.aJ≠[]\/r.aN≠[]\/r.service≠[]\/r.inst≠[] then⟨[],108⟩
  else⟨c7 (c5 (rK r.op) r.user) r.box,0⟩
def vK:dY:=⟨0,cY,0,[],[],[],[],[]⟩
structure DX (α:Type) where
 val:α
 err:Int
def iB{α:Type}(no:α)(enc:α->lX)(rd:Bytes->α×Bool)(b:Bytes):DX α :=
 if (rd b).2=Zp\/(enc (rd b).1).err≠0\/(enc (rd b).1).val≠b then⟨no,100⟩ else⟨(rd b).1,0⟩
def fD(b:Bytes)(k:Int)(pos:Int)(bad:Bool):Rd Int :=
 cond (bad || !((get b pos k Zd).err==0)) ⟨0,pos,Zp⟩ ⟨(get b pos k Zd).val,(get b pos k Zd).next,Zd⟩
def lV(b:Bytes)(pos:Int)(bad:Bool):Rd Bytes :=
 cond (bad || !((text b pos).err==0)) ⟨[],pos,Zp⟩ ⟨(text b pos).val,(text b pos).next,Zd⟩
def dw(b:Bytes)(n:Int)(pos:Int)(bad:Bool):Rd Bytes :=
 cond (bad || !((bytes b pos n).err==0)) ⟨[],pos,Zp⟩ ⟨(bytes b pos n).val,(bytes b pos n).next,Zd⟩
def mR(b:Bytes)(pos:Int)(bad:Bool):Rd aZ :=
 cond (bad || !((ia b pos).err==0)) ⟨cY,pos,Zp⟩ ⟨(ia b pos).val,(ia b pos).next,Zd⟩
def zI(b:Bytes)(pos:Int)(bad:Bool):Rd Int :=
 ⟨cond (fh (dw b 8 pos bad).val).2 (fh (dw b 8 pos bad).val).1 0,(dw b 8 pos bad).pos,(dw b 8 pos bad).bad || !(fh (dw b 8 pos bad).val).2⟩
def HH(b:Bytes):Rd dY :=
  let o:=fD b 1 2 Zd
  cond (o.val==2)
    (let k:=fD b 1 o.pos o.bad
     let r:=lV b k.pos k.bad
     let n:=fD b 1 r.pos r.bad
     let t:=dw b n.val n.pos n.bad
     let s:=lV b t.pos t.bad
     let i:=lV b s.pos s.bad
     let m:=fD b 2 i.pos i.bad
     let x:=dw b m.val m.pos m.bad
     ⟨⟨o.val,cY,k.val,r.val,t.val,s.val,i.val,x.val⟩,x.pos,x.bad⟩)
    (let u:=mR b o.pos o.bad
     let m:=fD b 2 u.pos u.bad
     let x:=dw b m.val m.pos m.bad
     ⟨⟨o.val,u.val,0,[],[],[],[],x.val⟩,x.pos,x.bad⟩)
def nA(b:Bytes):dY×Bool:=((HH b).val,(HH b).bad)
def bu(b:Bytes):DX dY :=
 if (bc b [9]).2≠0 then⟨vK,(bc b [9]).2⟩ else iB vK aV nA b
structure jS where
 op:Int
 code:Int
 box:Bytes
def cg(r:jS):lX :=
 if !lh r.op then⟨[],40⟩
 else if !within r.code 99 then⟨[],104⟩
 else if 1012<r.box.length then⟨[],105⟩
 else if r.code≠0/\r.box≠[] then⟨[],108⟩
 else⟨c7 (rK (r.op+128)++aS r.code 1 Zd) r.box,0⟩
def sN:jS:=⟨0,0,[]⟩
def UK(b:Bytes):Rd jS :=
 let o:=fD b 1 2 Zd
 let c:=fD b 1 o.pos o.bad
 let m:=fD b 2 c.pos c.bad
 let x:=dw b m.val m.pos m.bad
 ⟨⟨o.val-128,c.val,x.val⟩,x.pos,x.bad⟩
def w6(b:Bytes):jS×Bool:=((UK b).val,(UK b).bad)
def dC(b:Bytes):DX jS :=
 if (bc b [9]).2≠0 then⟨sN,(bc b [9]).2⟩ else iB sN cg w6 b
def vB:Bytes:=[103,84,71,83]
def zn:Bytes:=[116,103,115,84]
def lq:Bytes:=[103,84,75,84]
def qc:Bytes:=[116,107,116,71]
def g9:Bytes:=[67,80,87,108]
def po:Bytes:=[67,80,87,100]
structure fl where
 label:Bytes
 time:Int
 start:Int
 stop:Int
 new:Int
def iQ(l:Bytes):Bool:=l==vB||l==lq
def aW(s:fl):lX :=
 if !iQ s.label && !(s.label==g9) then⟨[],80⟩
 else if !within s.time 4294967295 then⟨[],104⟩
 else if iQ s.label then
  if !(within s.start 4294967295&&within s.stop 4294967295) then⟨[],104⟩
  else if s.new≠0 then⟨[],108⟩
  else⟨pad (s.label++aS s.time 4 Zd++aS s.start 4 Zd++aS s.stop 4 Zd),0⟩
 else
  if !bp s.new then⟨[],10⟩
  else if s.start≠0\/s.stop≠0 then⟨[],108⟩
  else⟨pad (s.label++aS s.time 4 Zd++keyBytes s.new),0⟩
def ui:fl:=⟨[],0,0,0,0⟩
def MQ(b:Bytes):Rd fl :=
  let l:=dw b 4 0 Zd
  let t:=fD b 4 l.pos l.bad
  cond (iQ l.val)
    (let s:=fD b 4 t.pos t.bad
     let e:=fD b 4 s.pos s.bad
     ⟨⟨l.val,t.val,s.val,e.val,0⟩,e.pos,e.bad⟩)
    (let k:=zI b t.pos t.bad
     ⟨⟨l.val,t.val,0,0,k.val⟩,k.pos,k.bad⟩)
def nB(b:Bytes):fl×Bool:=((MQ b).val,(MQ b).bad)
def dR(b:Bytes):DX fl:=iB ui aW nB b
structure gn where
 label:Bytes
 time:Int
 aG:Int
 start:Int
 stop:Int
 bP:Int
 service:aZ
 aN:Bytes
def dK(l:Bytes):Bool:=l==zn||l==qc
def bm(a:gn):lX :=
 if !dK a.label && !(a.label==po) then⟨[],80⟩
 else if !within a.time 4294967295 then⟨[],104⟩
 else if dK a.label then
  if !bp a.aG then⟨[],10⟩
  else if !(within a.start 4294967295&&within a.stop 4294967295&&within a.bP 255) then⟨[],104⟩
  else if !a.service.valid then⟨[],103⟩
  else if 255<a.aN.length then⟨[],105⟩
  else⟨pad (iO (c5 (a.label++aS a.time 4 Zd++keyBytes a.aG++aS a.start 4 Zd++aS a.stop 4 Zd++aS a.bP 1 Zd) a.service) a.aN),0⟩
 else if a.aG≠0\/a.start≠0\/a.stop≠0\/a.bP≠0\/a.service.xS=Zd\/a.aN≠[] then⟨[],108⟩
 else⟨pad (a.label++aS a.time 4 Zd),0⟩
def uh:gn:=⟨[],0,0,0,0,0,cY,[]⟩
def HG(b:Bytes):Rd gn :=
  let l:=dw b 4 0 Zd
  let t:=fD b 4 l.pos l.bad
  cond (dK l.val)
    (let k:=zI b t.pos t.bad
     let s:=fD b 4 k.pos k.bad
     let e:=fD b 4 s.pos s.bad
     let v:=fD b 1 e.pos e.bad
     let p:=mR b v.pos v.bad
     let n:=fD b 1 p.pos p.bad
     let x:=dw b n.val n.pos n.bad
     ⟨⟨l.val,t.val,k.val,s.val,e.val,v.val,p.val,x.val⟩,x.pos,x.bad⟩)
    ⟨⟨l.val,t.val,0,0,0,0,cY,[]⟩,t.pos,t.bad⟩
def nz(b:Bytes):gn×Bool:=((HG b).val,(HG b).bad)
def bJ(b:Bytes):DX gn:=iB uh bm nz b
end Kerb
namespace Kerb
structure Ask where
 op:UInt8
 user:UInt8
 bP:UInt8
 service:UInt8
 label:UInt8
 time:Int
 start:Int
 stop:Int
 key:UInt8
 aN:Bytes
 box:Bytes
 extra:UInt8
def mV(x:UInt8):Int:=(x.toNat:Int)
def Ask.Qq(a:Ask):Int:=1+mV a.op % 3
def Ask.ex(a:Ask):Nat:=a.extra.toNat % 16
def Ask.base(a:Ask):dY :=
 if a.Qq=2 then⟨2,cY,mV a.bP,(Kerb.service (mV a.service)).aJ,a.aN,(Kerb.service (mV a.service)).name,(Kerb.service (mV a.service)).inst,a.box.take 900⟩
 else⟨a.Qq,Kerb.user (mV a.user),0,[],[],[],[],a.box.take 900⟩
def qQ(n:Int):Int:=Go.IntKind.wrap .u64 ((BitVec.ofInt (Go.IntKind.bits .u64) 72057594037927936 ||| BitVec.ofInt (Go.IntKind.bits .u64) (Go.IntKind.wrap .u64 (Go.IntKind.wrap .i64 (1+n)))).toNat:Int)
def Ask.lab(l0 l1 l2 l3:Bytes)(a:Ask):Bytes:=if a.label.toNat % 4=0 then l0 else if a.label.toNat % 4=1 then l1 else if a.label.toNat % 4=2 then l2 else l3
def Ask.HT(a:Ask):fl :=
 let l:=a.lab vB lq g9 po
 let new:=if l=g9\/a.ex=10 then qQ (mV a.key) else 0
 if l≠g9\/a.ex=9 then⟨l,a.time,a.start,a.stop,new⟩ else⟨l,a.time,0,0,new⟩
def Ask.answer(a:Ask):gn :=
 let l:=a.lab zn qc po vB
 if l=po/\a.ex≠8 then⟨l,a.time,0,0,0,0,cY,[]⟩
 else⟨l,a.time,aG (mV a.key),a.start,a.stop,mV a.bP,Kerb.service (mV a.service),a.aN⟩
end Kerb
/- Chapter 22: what is written is read as it was. -/
namespace Kerb
open Go Go.Abs
theorem within_iff{n m:Int}:within n m=Zp↔0<=n/\n<=m:=by simp[within]
theorem E9{p:aZ}:p.xS=Zp↔p=cY:=by
 obtain⟨a,b,c⟩:=p;simp[aZ.xS,cY]
theorem vx{n:Int}:lh n=Zp↔n=1\/n=2\/n=3:=by simp[lh]
theorem LU:header 9 Zd=[4,18]:=by decide
theorem u9{r:dY}(h:(aV r).err=0) :
  (r.op=2/\c4 r.aJ=Zp/\validName r.service=Zp/\bO r.inst=Zp/\(0<=r.bP/\r.bP<=255)/\r.aN.length<=255/\r.box.length<=1012/\r.user=cY /\
   (aV r).val=header 9 Zd++(aS r.op 1 Zd++(aS r.bP 1 Zd++(r.aJ++0::(aS r.aN.length 1 Zd++(r.aN++(r.service++0::(r.inst++0::(aS r.box.length 2 Zd++(r.box++[])))))))))) \/
  ((r.op=1\/r.op=3)/\r.user.valid=Zp/\r.box.length<=1012/\r.bP=0/\r.aJ=[]/\r.aN=[]/\r.service=[]/\r.inst=[] /\
   (aV r).val=header 9 Zd++(aS r.op 1 Zd++(r.user.name++0::(r.user.inst++0::(r.user.aJ++0::(aS r.box.length 2 Zd++(r.box++[]))))))):=by
 unfold aV at h ⊢;split at h
 ·cases h
 rename_i g0;rw[Qa0 g0];simp only[Zh,Zm,vx] at g0;split at h
 ·rename_i g1;rw[Qa1 g1];split at h
  ·cases h
  rename_i g2;rw[Qa0 g2];split at h
  ·cases h
  rename_i g3;rw[Qa0 g3];split at h
  ·cases h
  rename_i g4;rw[Qa0 g4];split at h
  ·cases h
  rename_i g5;rw[Qa0 g5];simp only[Zh,Zm,Zn,within_iff,E9] at g2 g3 g5;refine .inl ⟨by simpa using g1,g2.1.1,g2.1.2,g2.2,g3,by omega,by omega,g5,?_⟩;simp[c7,bg,iO,rK]
 ·rename_i g1;rw[Qa0 g1];split at h
  ·cases h
  rename_i g2;rw[Qa0 g2];split at h
  ·cases h
  rename_i g3;rw[Qa0 g3];split at h
  ·cases h
  rename_i g4;rw[Qa0 g4];simp only[Zh,Zm,Zn] at g2;simp only[ne_eq,not_or,Decidable.not_not] at g4;have g1':¬ r.op=2:=by simpa using g1
  refine .inr ⟨by omega,g2,by omega,g4.1,g4.2.1,g4.2.2.1,g4.2.2.2.1,g4.2.2.2.2,?_⟩;simp[c7,bg,c5,rK]
theorem CK(r:dY):(aV r).val.length<=2000:=by
 by_cases h:(aV r).err=0
 ·rcases u9 h with⟨ho,v1,v2,v3,hk,ht,hb,hu,hv⟩ | ⟨ho,v1,hb,hk,hr,ht,hs,hn,hv⟩
  ·have l1:=gx v1;have l2:=iK v2;have l3:=gW v3;rw[hv,LU];simp[af];omega
  ·have l1:=ch v1;rw[hv,LU];simp[af];omega
 ·unfold aV at h ⊢;repeat' split
  all_goals first | simp | skip
  all_goals exfalso;simp_all
theorem CI{r:jS}(h:(cg r).err=0):(1<=r.op/\r.op<=3)/\(0<=r.code/\r.code<=99)/\r.box.length<=1012/\(cg r).val=header 9 Zd++(aS (r.op+128) 1 Zd++(aS r.code 1 Zd++(aS r.box.length 2 Zd++(r.box++[])))):=by
 unfold cg at h ⊢;split at h
 ·cases h
 rename_i g0;rw[Qa0 g0];simp only[Zh,Zm,vx] at g0;split at h
 ·cases h
 rename_i g1;rw[Qa0 g1];simp only[Zh,Zm,within_iff] at g1;split at h
 ·cases h
 rename_i g2;rw[Qa0 g2];split at h
 ·cases h
 rename_i g3;rw[Qa0 g3];exact⟨by omega,g1,by omega,by simp[c7,rK]⟩
theorem CJ(r:jS):(cg r).val.length<=2000:=by
 by_cases h:(cg r).err=0
 ·obtain⟨ho,hc,hb,hv⟩:=CI h;rw[hv,LU];simp[af];omega
 ·unfold cg at h ⊢;repeat' split
  all_goals first | simp | skip
  all_goals exfalso;simp_all
theorem zJ(b:Bytes):∃ z,pad b=b++z/\z.length<=7:=⟨_,rfl,by simp;omega⟩
theorem KP{l:Bytes}:iQ l=Zp↔l=vB\/l=lq:=by simp[iQ]
theorem DP{l:Bytes}:dK l=Zp↔l=zn\/l=qc:=by simp[dK]
theorem u_{s:fl}(h:(aW s).err=0):(0<=s.time/\s.time<=4294967295) /\
    ((iQ s.label=Zp/\s.label.length=4/\(0<=s.start/\s.start<=4294967295)/\(0<=s.stop/\s.stop<=4294967295)/\s.new=0/\∃ z,(aW s).val=s.label++(aS s.time 4 Zd++(aS s.start 4 Zd++(aS s.stop 4 Zd++z)))/\z.length<=7) \/
     (s.label=g9/\bp s.new=Zp/\s.start=0/\s.stop=0/\∃ z,(aW s).val=s.label++(aS s.time 4 Zd++(keyBytes s.new++z))/\z.length<=7)):=by
  unfold aW at h ⊢;split at h
  · cases h
  rename_i g0;rw[Qa0 g0];split at h
  · cases h
  rename_i g1;rw[Qa0 g1];simp only[Zh,Zm,within_iff] at g1;refine⟨g1,?_⟩;split at h
  · rename_i g2
    rw[Qa1 g2];split at h
    · cases h
    rename_i g3;rw[Qa0 g3];split at h
    · cases h
    rename_i g4;rw[Qa0 g4];simp only[Zh,Zm,Zn,within_iff] at g3;obtain⟨z,hz,hl⟩:=zJ (s.label++aS s.time 4 Zd++aS s.start 4 Zd++aS s.stop 4 Zd);refine .inl ⟨g2,?_,g3.1,g3.2,Decidable.byContradiction g4,z,?_,hl⟩
    · rcases KP.1 g2 with e | e<;>rw[e]<;>rfl
    · show pad _=_
      rw[hz];simp
  · rename_i g2
    rw[Qa0 g2];split at h
    · cases h
    rename_i g3;rw[Qa0 g3];split at h
    · cases h
    rename_i g4;rw[Qa0 g4];obtain⟨z,hz,hl⟩:=zJ (s.label++aS s.time 4 Zd++keyBytes s.new);have XD:iQ s.label=Zd:=by simpa using g2
    refine .inr ⟨by simpa [XD] using g0,by simpa using g3,by omega,by omega,z,?_,hl⟩;show pad _=_;rw[hz];simp
theorem vd(s:fl):(aW s).val.length<=100:=by
 by_cases h:(aW s).err=0
 ·obtain⟨ht,⟨hl,V5,hs,he,hn,z,hv,_⟩ | ⟨hl,hk,hs,he,z,hv,_⟩⟩:=u_ h
  ·rw[hv];simp[af];omega
  ·rw[hv,hl];simp[af,ag,g9];omega
 ·unfold aW at h ⊢;repeat' split
  all_goals first | simp | skip
  all_goals exfalso;simp_all
theorem u5{a:gn}(h:(bm a).err=0):(0<=a.time/\a.time<=4294967295) /\
    ((dK a.label=Zp/\a.label.length=4/\bp a.aG=Zp/\(0<=a.start/\a.start<=4294967295)/\(0<=a.stop/\a.stop<=4294967295)/\(0<=a.bP/\a.bP<=255)/\a.service.valid=Zp/\a.aN.length<=255 /\
        (bm a).val=pad (a.label++(aS a.time 4 Zd++(keyBytes a.aG++(aS a.start 4 Zd++(aS a.stop 4 Zd++(aS a.bP 1 Zd++(a.service.name++0::(a.service.inst++0::(a.service.aJ++0::(aS a.aN.length 1 Zd++a.aN))))))))))) \/
     (a.label=po/\a.aG=0/\a.start=0/\a.stop=0/\a.bP=0/\a.service=cY/\a.aN=[]/\(bm a).val=pad (a.label++aS a.time 4 Zd))):=by
  unfold bm at h ⊢;split at h
  · cases h
  rename_i g0;rw[Qa0 g0];split at h
  · cases h
  rename_i g1;rw[Qa0 g1];simp only[Zh,Zm,within_iff] at g1;refine⟨g1,?_⟩;split at h
  · rename_i g2
    rw[Qa1 g2];split at h
    · cases h
    rename_i g3;rw[Qa0 g3];split at h
    · cases h
    rename_i g4;rw[Qa0 g4];split at h
    · cases h
    rename_i g5;rw[Qa0 g5];split at h
    · cases h
    rename_i g6;rw[Qa0 g6];simp only[Zh,Zm,Zn,within_iff] at g3 g4 g5;refine .inl ⟨g2,?_,g3,g4.1.1,g4.1.2,g4.2,g5,by omega,?_⟩
    · rcases DP.1 g2 with e | e<;>rw[e]<;>rfl
    · show pad _=pad _
      congr 1;simp[iO,c5,bg]
  · rename_i g2
    rw[Qa0 g2];split at h
    · cases h
    rename_i g3;rw[Qa0 g3];have XD:dK a.label=Zd:=by simpa using g2
    simp only[ne_eq,not_or,Decidable.not_not,Zm,E9] at g3;exact .inr ⟨by simpa [XD] using g0,g3.1,g3.2.1,g3.2.2.1,g3.2.2.2.1,g3.2.2.2.2.1,g3.2.2.2.2.2,rfl⟩
theorem u7(a:gn):(bm a).val.length<=408:=by
 by_cases h:(bm a).err=0
 ·obtain⟨ht,⟨hl,V5,hk,hs,he,hv,hp,hx,hb⟩ | ⟨hl,hk,hs,he,hv,hp,hx,hb⟩⟩:=u5 h
  ·have l1:=ch hp;rw[hb,sQ];simp[af,ag];omega
  ·rw[hb,sQ,hl];simp[af,po]
 ·unfold bm at h ⊢;repeat' split
  all_goals first | simp | skip
  all_goals exfalso;simp_all
theorem mf(b:Bytes)(n pos:Int)(bad:Bool):(dw b n pos bad).val.length<=b.length:=by
 unfold dw;cases bad || !((bytes b pos n).err==0)
 ·exact jn b pos n
 ·exact Nat.zero_le _
theorem EA{r:dY}(h:(aV r).err≠0):(aV r).val=[]:=by grind [aV]
theorem fM{α:Type}{no:α}{enc:α->lX}{rd:Bytes->α×Bool}{b:Bytes}(R:α)(bad:Bool)(h:rd b=(R,bad)){β:Type}(f:α->Int->β) :
  aD bad (Yq (f no 100)) (aD (!((enc R).err==0)) (Yq (f no 100)) (aD (!((enc R).val==b)) (Yq (f no 100)) (Yq (f R 0))))=Yq (f (iB no enc rd b).val (iB no enc rd b).err):=by
 unfold iB;rw[h];cases bad;case true=>rw[Qa1 (.inl rfl)];rfl
 rw[aA];by_cases h1:(enc R).err=0
 ·rw[aj (by simp[h1])];by_cases h2:(enc R).val=b
  ·rw[aj (by simp[h2]),Qa0 (by simp[h1,h2])]
  ·rw[ah (by simpa using h2),Qa1 (.inr (.inr h2))]
 ·rw[ah (by simpa using h1),Qa1 (.inr (.inl h1))]
theorem Q8(b:Bytes)(pos k:Int)(li:Bool)(hk:k<=4):0<=(get b pos k li).val/\(get b pos k li).val<4294967296:=by
 unfold get;split
 ·rename_i h;have:=j6 h;exact I_ (by cases li<;>simp[this]<;>omega)
 ·simp
theorem PD(b:Bytes)(k pos:Int)(bad:Bool)(hk:k<=4):0<=(fD b k pos bad).val/\(fD b k pos bad).val<4294967296:=by
 unfold fD;cases bad || !((get b pos k Zd).err==0)
 ·exact Q8 b pos k Zd hk
 ·simp
theorem Kk(b:Bytes)(pos:Int)(bad:Bool):(lV b pos bad).val.length<=40:=by
 unfold lV;cases bad || !((text b pos).err==0)
 ·exact jk b pos
 ·exact Nat.zero_le _
theorem BT(b:Bytes)(pos:Int)(bad:Bool):(mR b pos bad).val.name.length<=40/\(mR b pos bad).val.inst.length<=40/\(mR b pos bad).val.aJ.length<=40:=by
 unfold mR;cases bad || !((ia b pos).err==0)
 ·exact nY b pos
 ·exact⟨Nat.zero_le _,Nat.zero_le _,Nat.zero_le _⟩
theorem yh(b:Bytes)(pos:Int)(bad:Bool):0<=(zI b pos bad).val/\(zI b pos bad).val<18446744073709551616:=by
 unfold zI;simp only;cases (fh (dw b 8 pos bad).val).2
 ·simp
 ·exact l8 _
theorem I8(x:UInt8)(k:Nat)(hk:0<k):Zx (Int.tmod (x.toNat:Int) (k:Int))=x.toNat % k:=by
 rw[Yp (by omega)];omega
theorem Pv(n:Int):0<=qQ n/\qQ n<18446744073709551616:=by
 unfold qQ;rw[wrap_u64];omega
theorem xI(n:Int):0<=aG n/\aG n<18446744073709551616:=by
 unfold aG;rw[wrap_u64];omega
theorem EB{r:fl}(h:(aW r).err≠0):(aW r).val=[]:=by grind [aW]
theorem CL{s:fl}(h:(aW s).err=0) :
  (iQ s.label=Zp/\(aW s).val=pad (s.label++aS s.time 4 Zd++aS s.start 4 Zd++aS s.stop 4 Zd))\/(iQ s.label=Zd/\(aW s).val=pad (s.label++aS s.time 4 Zd++keyBytes s.new)):=by grind [aW]
theorem Ez{r:gn}(h:(bm r).err≠0):(bm r).val=[]:=by grind [bm]
end Kerb
/- Sorting a row of keys: the words. -/
namespace Kerb
open Go Go.Abs
def la(els:List AV):List Int:=els.map fun | .int _ n=>n | _=>0
def dL(els:List AV):Bool:=els.all fun | .int .u64 _=>Zp | _=>Zd
def cF(els:List AV):Array Int:=(la els).toArray
def back(d:Array Int):List AV:=d.toList.map (Zw .u64)
def ER(h:Go.Sort.Hint):Int:=match h with | .unknown=>0 | .increasing=>1 | .decreasing=>2
def Ib(x:Int):Int:=((Go.Sort.xorNext (UInt64.ofNat x.toNat)).toNat:Int)
noncomputable def ok(_:Int):Bool := @decide True (Classical.propDecidable True)
theorem Dm(x:Int):ok x=Zp:=by
 unfold ok;exact @Qa4 True (Classical.propDecidable True) trivial
def nn(a:Int):Bool:=Zq (0<=a)
def order2(els:List AV)(a b s:Int):Nat×Nat×Nat:=Go.Sort.order2 Go.Sort.ltInt (cF els) a.toNat b.toNat s.toNat
def median(els:List AV)(a b c s:Int):Nat×Nat:=Go.Sort.median Go.Sort.ltInt (cF els) a.toNat b.toNat c.toNat s.toNat
def De(els:List AV)(a s:Int):Nat×Nat:=Go.Sort.medianAdjacent Go.Sort.ltInt (cF els) a.toNat s.toNat
def FG(els:List AV)(a b:Int):Nat×Go.Sort.Hint:=Go.Sort.choosePivot Go.Sort.ltInt (cF els) a.toNat b.toNat
def x9(els:List AV)(a b:Int):List AV:=back (Go.Sort.insertionSort Go.Sort.ltInt (cF els) a.toNat b.toNat)
def IA(els:List AV)(a b:Int):List AV:=back (Go.Sort.heapSort Go.Sort.ltInt (cF els) a.toNat b.toNat)
def PJ(els:List AV)(a b:Int):List AV:=back (Go.Sort.reverseRange (cF els) a.toNat b.toNat)
def Cw(els:List AV)(a b:Int):List AV:=back (Go.Sort.breakPatterns (cF els) a.toNat b.toNat)
def vP(els:List AV)(a b:Int):List AV×Bool:=(back (Go.Sort.partialInsertionSort Go.Sort.ltInt (cF els) a.toNat b.toNat).1,(Go.Sort.partialInsertionSort Go.Sort.ltInt (cF els) a.toNat b.toNat).2)
def part(els:List AV)(a b p:Int):Nat×Bool×List AV:=((Go.Sort.partition Go.Sort.ltInt (cF els) a.toNat b.toNat p.toNat).1,(Go.Sort.partition Go.Sort.ltInt (cF els) a.toNat b.toNat p.toNat).2.1,back (Go.Sort.partition Go.Sort.ltInt (cF els) a.toNat b.toNat p.toNat).2.2)
def Dp(els:List AV)(a b p:Int):Nat×List AV:=((Go.Sort.partitionEqual Go.Sort.ltInt (cF els) a.toNat b.toNat p.toNat).1,back (Go.Sort.partitionEqual Go.Sort.ltInt (cF els) a.toNat b.toNat p.toNat).2)
def sift(els:List AV)(lo hi first:Int):List AV:=back (Go.Sort.siftDown Go.Sort.ltInt hi.toNat first.toNat lo.toNat (cF els))
def MR(els:List AV)(a b l:Int):List AV:=back (Go.Sort.pdq Go.Sort.ltInt (cF els) a.toNat b.toNat l.toNat Zp Zp)
def xJ(els:List AV):List AV:=back (Go.Sort.sort Go.Sort.ltInt (cF els))
def Pt(x:Int):Int:=(Go.Sort.bitsLen x.toNat:Int)
def MS(n:Int):Int:=((1 <<< Go.Sort.bitsLen n.toNat:Nat):Int)
theorem aT(d:Array Int):(back d).length=d.size:=by simp[back]
theorem nI{d:Array Int}{i:Nat}(h:i<d.size):(back d).getD i .undef = .int .u64 d[i]! := by
 simp[back,Zk,h]
theorem Lp(d:Array Int)(i:Nat)(v:Int):(back d).set i (.int .u64 v)=back (d.setIfInBounds i v):=by
 simp[back,List.map_set]
theorem eo(d:Array Int):cF (back d)=d:=by
 apply Array.ext';simp[cF,back,la,Function.comp_def]
theorem Ec{els:List AV}(h:dL els=Zp):back (cF els)=els:=by
 simp only[back,cF,la,List.map_map];rw[show(els.map (Zw .u64∘fun | .int _ n=>n | _=>0))=els.map id from List.map_congr_left fun a ha=> ?_,List.map_id];simp only[dL,List.all_eq_true] at h;have:=h a ha;split at this
 ·rfl
 ·cases this
theorem lB{els:List AV}(h:dL els=Zp):∃ d,els=back d/\cF els=d:=⟨cF els,(Ec h).symm,rfl⟩
theorem swp_size(d:Array Int)(i j:Nat):(Go.Sort.swp d i j).size=d.size:=by simp[Go.Sort.swp]
theorem gf{n:Int}(h1 : -9223372036854775808<=n)(h2:n<9223372036854775808):Zy .i64 n=n:=by
 unfold Zy;simp[Yz,Yj];omega
theorem rd{α:Type}{d:Array Int}{n:Nat}(hn:n<d.size)(f:Int->Option α):az (Zq ((0:Int)<=(n:Int))&&Zq ((n:Int)<((back d).length:Int))&&Zp) (az (Zg (Zx (n:Int)) (back d).length&&Zp) (Zf .u64 (Zk (back d) (Zx (n:Int)) .undef) f))=f d[n]! := by
 rw[ae (by simp[aT];omega),ae (by simp[aT];omega),Zj,nI hn,cK]
theorem wr{α:Type}{d:Array Int}{n:Nat}(hn:n<d.size){c:Bool}(hc:c=Zp)(X:Option α):az (Zq ((0:Int)<=(n:Int))&&Zq ((n:Int)<((back d).length:Int))&&Zp) (az (Zg (Zx (n:Int)) (back d).length&&Zp) (Zf .u64 (Zk (back d) (Zx (n:Int)) .undef) fun _=>az c X))=X:=by
 rw[rd hn,ae hc]
theorem cM(d:Array Int)(n:Nat)(v:Int):(back d).set (Zx (n:Int)) (.int .u64 v)=back (d.setIfInBounds n v):=by rw[Zj,Lp]
theorem sw{α:Type}{d:Array Int}{p q:Nat}(hp:p<d.size)(hq:q<d.size)(X:List AV->Option α) :
  az (Zq ((0:Int)<=(q:Int))&&Zq ((q:Int)<((back d).length:Int))&&Zp) (az (Zg (Zx (q:Int)) (back d).length&&Zp) (Zf .u64 (Zk (back d) (Zx (q:Int)) .undef) fun x=>az (Zq ((0:Int)<=(p:Int))&&Zq ((p:Int)<((back d).length:Int))&&Zp) (az (Zg (Zx (p:Int)) (back d).length&&Zp) (Zf .u64 (Zk (back d) (Zx (p:Int)) .undef) fun y=>az (Zq ((0:Int)<=(p:Int))&&Zq ((p:Int)<((back d).length:Int))&&Zp) (az (Zg (Zx (p:Int)) (back d).length&&Zp) (Zf .u64 (Zk (back d) (Zx (p:Int)) .undef) fun _=>az (Zv [Zw .u64 x]==nat_lit 1&&Zp&&Zp&&Zp&&Zg (Zx (p:Int)) (Zv (back d))) (az (Zq ((0:Int)<=(q:Int))&&Zq ((q:Int)<(((back d).set (Zx (p:Int)) (.int .u64 x)).length:Int))&&Zp) (az (Zg (Zx (q:Int)) ((back d).set (Zx (p:Int)) (.int .u64 x)).length&&Zp) (Zf .u64 (Zk ((back d).set (Zx (p:Int)) (.int .u64 x)) (Zx (q:Int)) .undef) fun _=>az (Zv [Zw .u64 y]==nat_lit 1&&Zp&&Zp&&Zp&&Zg (Zx (q:Int)) (Zv ((back d).set (Zx (p:Int)) (.int .u64 x)))) (X (((back d).set (Zx (p:Int)) (.int .u64 x)).set (Zx (q:Int)) (.int .u64 y))))))))))))=X (back (Go.Sort.swp d p q)):=by
 rw[rd hq,rd hp,wr hp (by simp[aT];exact hp),cM,wr (by rw[Xy];exact hq) (by simp[aT];exact hq),cM];rfl
theorem dl(d:Array Int):dL (back d)=Zp:=by simp[dL,back]
theorem Kv{lt:Int->Int->Bool}{hi f:Nat}:∀ (n root:Nat) (d:Array Int),hi-root<=n->(Go.Sort.siftDown lt hi f root d).size=d.size:=by
 intro n;induction n with
 | zero =>
  intro root d h;unfold Go.Sort.siftDown;rw[dif_pos (by omega)]
 | succ n ih =>
  intro root d h;unfold Go.Sort.siftDown;split
  ·rfl
  ·split
   ·split
    ·rfl
    ·split
     ·rw[ih _ _ (by omega),swp_size]
     ·rfl
   ·split
    ·rfl
    ·rw[ih _ _ (by omega),swp_size]
theorem tG{lt:Int->Int->Bool}{hi f root:Nat}{d:Array Int}:(Go.Sort.siftDown lt hi f root d).size=d.size:=Kv _ root d (Nat.le_refl _)
theorem pC{lt:Int->Int->Bool}{d:Array Int}{a b s n:Nat}(ha:a<n)(hb:b<n):(Go.Sort.order2 lt d a b s).1<n/\(Go.Sort.order2 lt d a b s).2.1<n/\(Go.Sort.order2 lt d a b s).2.2<=s+1:=by
 unfold Go.Sort.order2;split<;>simp only<;>omega
theorem J6{lt:Int->Int->Bool}{d:Array Int}{a b c s n:Nat}(ha:a<n)(hb:b<n)(hc:c<n):(Go.Sort.median lt d a b c s).1<n/\(Go.Sort.median lt d a b c s).2<=s+3:=by
 unfold Go.Sort.median;have h1:=pC (lt:=lt) (d:=d) (s:=s) ha hb;have h2:=pC (lt:=lt) (d:=d) (s:=(Go.Sort.order2 lt d a b s).2.2) h1.2.1 hc;have h3:=pC (lt:=lt) (d:=d) (s:=(Go.Sort.order2 lt d (Go.Sort.order2 lt d a b s).2.1 c (Go.Sort.order2 lt d a b s).2.2).2.2) h1.1 h2.1;exact⟨h3.2.1,by dsimp only;omega⟩
end Kerb
/- The scans of the partitions. -/
namespace Kerb
open Go Go.Abs
abbrev kE(d:Array Int)(a i j:Nat):List AV:=[Yy (back d),Zw .i64 (a:Int),Zw .i64 (i:Int),Zw .i64 (j:Int)]
theorem VN{step:List AV->Option (List AV ⊕ (Ex×List AV))}{p:Int->Bool}{d:Array Int}{a j e:Nat}
  (h:∀ i,i<=j->step (kE d a i j)=if p d[i]! = Zp then Yq (.inl (kE d a (i+1) j)) else Yq (.inr (.exit e,kE d a i j)))
  (h2:∀ i,j<i->step (kE d a i j)=Yq (.inr (.exit e,kE d a i j))):∀ (m i:Nat),j+1-i=m->∃ n,dJ step n (kE d a i j)=Yq (.exit e,kE d a (Go.Sort.scanUp p d j i) j):=by
 intro m;induction m with
 | zero =>
  intro i hi;refine⟨1,?_⟩;unfold dJ;rw[h2 i (by omega)];unfold Go.Sort.scanUp;rw[Qa0 (by simp;omega)]
 | succ m ih =>
  intro i hi;by_cases hp:p d[i]! = Zp
  ·obtain⟨n,hn⟩:=ih (i+1) (by omega);refine⟨n+1,?_⟩;unfold dJ;rw[h i (by omega),Qa1 hp];unfold Go.Sort.scanUp;rw[Qa1 (by simp[hp];omega)];exact hn
  ·refine⟨1,?_⟩;unfold dJ;rw[h i (by omega),Qa0 hp];unfold Go.Sort.scanUp;rw[Qa0 (by simp[hp])]
theorem Lw{step:List AV->Option (List AV ⊕ (Ex×List AV))}{p:Int->Bool}{d:Array Int}{a i e:Nat}
  (h:∀ j,i<=j+1->j+1<d.size->step (kE d a i (j+1))=if p d[j+1]! = Zp then Yq (.inl (kE d a i j)) else Yq (.inr (.exit e,kE d a i (j+1))))
  (h2:∀ j,j<i->step (kE d a i j)=Yq (.inr (.exit e,kE d a i j))) (hi:1<=i):∀ (j:Nat),j<d.size->∃ n,dJ step n (kE d a i j)=Yq (.exit e,kE d a i (Go.Sort.scanDown p d i j)):=by
 intro j;induction j with
 | zero =>
  intro hj;refine⟨1,?_⟩;unfold dJ;rw[h2 0 (by omega)];rfl
 | succ j ih =>
  intro hj;by_cases hc:i<=j+1
  ·by_cases hp:p d[j+1]! = Zp
   ·obtain⟨n,hn⟩:=ih (by omega);refine⟨n+1,?_⟩;unfold dJ;rw[h j hc hj,Qa1 hp];unfold Go.Sort.scanDown;rw[Qa1 (by simp[hp];omega)];exact hn
   ·refine⟨1,?_⟩;unfold dJ;rw[h j hc hj,Qa0 hp];unfold Go.Sort.scanDown;rw[Qa0 (by simp[hp])]
  ·refine⟨1,?_⟩;unfold dJ;rw[h2 _ (by omega)];unfold Go.Sort.scanDown;rw[Qa0 (by simp;omega)]
theorem I9{β:Type}{d:Array Int}{a i j e:Nat}{K:Ex×List AV->Option β}(ha:a<d.size)(hj:j<d.size)(hi:1<=i)(hs:d.size<=1152921504606846976):Option.bind (bw (fun(st:List AV)=>ay st fun(x:AV) (r:List AV)=>AV.aR x fun(y:List AV)=>ay r fun(x:AV) (r:List AV)=>Zf Zz x fun(n:Int)=>ay r fun(x:AV) (r:List AV)=>Zf Zz x fun(bZ:Int)=>ay r fun(x:AV) (r:List AV)=>Zf Zz x fun(bF:Int)=>aw r (aD (Zq (bZ<=bF)) (az (Zq ((0:Int)<=bZ)&&Zq (bZ<(↑(Zv y):Int))&&Zp) (az (Zg (Zx bZ) (Zv y)&&Zp) (Zf Zu (Zk y (Zx bZ) Zb) fun(fb:Int)=>(az (Zq ((0:Int)<=n)&&Zq (n<(↑(Zv y):Int))&&Zp) (az (Zg (Zx n) (Zv y)&&Zp) (Zf Zu (Zk y (Zx n) Zb) fun(eW:Int)=>aD (Zq (fb<eW)) (Yq (Ym [Yy y,Zw Zz n,Zw Zz (Zy Zz (bZ+(1:Int))),Zw Zz bF])) (Yq (Yx (Yw e,[Yy y,Zw Zz n,Zw Zz bZ,Zw Zz bF]))))))))) (Yq (Yx (Yw e,[Yy y,Zw Zz n,Zw Zz bZ,Zw Zz bF]))))) [Yy (back d),Zw .i64 (a:Int),Zw .i64 (i:Int),Zw .i64 (j:Int)]) K=K (.exit e,[Yy (back d),Zw .i64 (a:Int),Zw .i64 (Go.Sort.scanUp (fun x=>Go.Sort.ltInt x d[a]!) d j i:Int),Zw .i64 (j:Int)]):=by
 suffices h:∃ n,dJ (fun(st:List AV)=>ay st fun(x:AV) (r:List AV)=>AV.aR x fun(y:List AV)=>ay r fun(x:AV) (r:List AV)=>Zf Zz x fun(n:Int)=>ay r fun(x:AV) (r:List AV)=>Zf Zz x fun(bZ:Int)=>ay r fun(x:AV) (r:List AV)=>Zf Zz x fun(bF:Int)=>aw r (aD (Zq (bZ<=bF)) (az (Zq ((0:Int)<=bZ)&&Zq (bZ<(↑(Zv y):Int))&&Zp) (az (Zg (Zx bZ) (Zv y)&&Zp) (Zf Zu (Zk y (Zx bZ) Zb) fun(fb:Int)=>(az (Zq ((0:Int)<=n)&&Zq (n<(↑(Zv y):Int))&&Zp) (az (Zg (Zx n) (Zv y)&&Zp) (Zf Zu (Zk y (Zx n) Zb) fun(eW:Int)=>aD (Zq (fb<eW)) (Yq (Ym [Yy y,Zw Zz n,Zw Zz (Zy Zz (bZ+(1:Int))),Zw Zz bF])) (Yq (Yx (Yw e,[Yy y,Zw Zz n,Zw Zz bZ,Zw Zz bF]))))))))) (Yq (Yx (Yw e,[Yy y,Zw Zz n,Zw Zz bZ,Zw Zz bF]))))) n (kE d a i j)=Yq (.exit e,kE d a (Go.Sort.scanUp (fun x=>Go.Sort.ltInt x d[a]!) d j i) j) by
  obtain⟨n,hn⟩:=h;exact Qb3 (Option.bind · K) (lu hn)
 refine VN (e:=e) (p:=(fun x=>Go.Sort.ltInt x d[a]!)) (d:=d) (a:=a) (j:=j) (step:=fun(st:List AV)=>ay st fun(x:AV) (r:List AV)=>AV.aR x fun(y:List AV)=>ay r fun(x:AV) (r:List AV)=>Zf Zz x fun(n:Int)=>ay r fun(x:AV) (r:List AV)=>Zf Zz x fun(bZ:Int)=>ay r fun(x:AV) (r:List AV)=>Zf Zz x fun(bF:Int)=>aw r (aD (Zq (bZ<=bF)) (az (Zq ((0:Int)<=bZ)&&Zq (bZ<(↑(Zv y):Int))&&Zp) (az (Zg (Zx bZ) (Zv y)&&Zp) (Zf Zu (Zk y (Zx bZ) Zb) fun(fb:Int)=>(az (Zq ((0:Int)<=n)&&Zq (n<(↑(Zv y):Int))&&Zp) (az (Zg (Zx n) (Zv y)&&Zp) (Zf Zu (Zk y (Zx n) Zb) fun(eW:Int)=>aD (Zq (fb<eW)) (Yq (Ym [Yy y,Zw Zz n,Zw Zz (Zy Zz (bZ+(1:Int))),Zw Zz bF])) (Yq (Yx (Yw e,[Yy y,Zw Zz n,Zw Zz bZ,Zw Zz bF]))))))))) (Yq (Yx (Yw e,[Yy y,Zw Zz n,Zw Zz bZ,Zw Zz bF]))))) ?_ ?_ _ i rfl
 ·intro i hc;have h1:i<d.size:=by omega
  dsimp only[kE];simp only[↓bD,↓bS,↓cK,↓cP];rw[ah (by simp;omega),Kerb.rd h1,Kerb.rd ha];by_cases h:d[i]! < d[a]!
  ·rw[ah (by simp[h]),Qa1 (by simp[Go.Sort.ltInt,h]),show Zy .i64 ((i:Int)+1)=((i+1:Nat):Int) from Kerb.gf (by omega) (by omega)]
  ·rw[aj (by simp[h]),Qa0 (by simp[Go.Sort.ltInt,h])]
 ·intro i hc;dsimp only[kE];simp only[↓bD,↓bS,↓cK,↓cP];rw[aj (by simp;omega)]
theorem VM{β:Type}{d:Array Int}{a i j e:Nat}{K:Ex×List AV->Option β}(ha:a<d.size)(hj:j<d.size)(hi:1<=i)(hs:d.size<=1152921504606846976):Option.bind (bw (fun(st:List AV)=>ay st fun(x:AV) (r:List AV)=>AV.aR x fun(y:List AV)=>ay r fun(x:AV) (r:List AV)=>Zf Zz x fun(n:Int)=>ay r fun(x:AV) (r:List AV)=>Zf Zz x fun(bZ:Int)=>ay r fun(x:AV) (r:List AV)=>Zf Zz x fun(bF:Int)=>aw r (aD (Zq (bZ<=bF)) (az (Zq ((0:Int)<=n)&&Zq (n<(↑(Zv y):Int))&&Zp) (az (Zg (Zx n) (Zv y)&&Zp) (Zf Zu (Zk y (Zx n) Zb) fun(fb:Int)=>(az (Zq ((0:Int)<=bZ)&&Zq (bZ<(↑(Zv y):Int))&&Zp) (az (Zg (Zx bZ) (Zv y)&&Zp) (Zf Zu (Zk y (Zx bZ) Zb) fun(eW:Int)=>aD (!Zq (fb<eW)) (Yq (Ym [Yy y,Zw Zz n,Zw Zz (Zy Zz (bZ+(1:Int))),Zw Zz bF])) (Yq (Yx (Yw e,[Yy y,Zw Zz n,Zw Zz bZ,Zw Zz bF]))))))))) (Yq (Yx (Yw e,[Yy y,Zw Zz n,Zw Zz bZ,Zw Zz bF]))))) [Yy (back d),Zw .i64 (a:Int),Zw .i64 (i:Int),Zw .i64 (j:Int)]) K=K (.exit e,[Yy (back d),Zw .i64 (a:Int),Zw .i64 (Go.Sort.scanUp (fun x => !Go.Sort.ltInt d[a]! x) d j i:Int),Zw .i64 (j:Int)]):=by
 suffices h:∃ n,dJ (fun(st:List AV)=>ay st fun(x:AV) (r:List AV)=>AV.aR x fun(y:List AV)=>ay r fun(x:AV) (r:List AV)=>Zf Zz x fun(n:Int)=>ay r fun(x:AV) (r:List AV)=>Zf Zz x fun(bZ:Int)=>ay r fun(x:AV) (r:List AV)=>Zf Zz x fun(bF:Int)=>aw r (aD (Zq (bZ<=bF)) (az (Zq ((0:Int)<=n)&&Zq (n<(↑(Zv y):Int))&&Zp) (az (Zg (Zx n) (Zv y)&&Zp) (Zf Zu (Zk y (Zx n) Zb) fun(fb:Int)=>(az (Zq ((0:Int)<=bZ)&&Zq (bZ<(↑(Zv y):Int))&&Zp) (az (Zg (Zx bZ) (Zv y)&&Zp) (Zf Zu (Zk y (Zx bZ) Zb) fun(eW:Int)=>aD (!Zq (fb<eW)) (Yq (Ym [Yy y,Zw Zz n,Zw Zz (Zy Zz (bZ+(1:Int))),Zw Zz bF])) (Yq (Yx (Yw e,[Yy y,Zw Zz n,Zw Zz bZ,Zw Zz bF]))))))))) (Yq (Yx (Yw e,[Yy y,Zw Zz n,Zw Zz bZ,Zw Zz bF]))))) n (kE d a i j)=Yq (.exit e,kE d a (Go.Sort.scanUp (fun x => !Go.Sort.ltInt d[a]! x) d j i) j) by
  obtain⟨n,hn⟩:=h;exact Qb3 (Option.bind · K) (lu hn)
 refine VN (e:=e) (p:=(fun x => !Go.Sort.ltInt d[a]! x)) (d:=d) (a:=a) (j:=j) (step:=fun(st:List AV)=>ay st fun(x:AV) (r:List AV)=>AV.aR x fun(y:List AV)=>ay r fun(x:AV) (r:List AV)=>Zf Zz x fun(n:Int)=>ay r fun(x:AV) (r:List AV)=>Zf Zz x fun(bZ:Int)=>ay r fun(x:AV) (r:List AV)=>Zf Zz x fun(bF:Int)=>aw r (aD (Zq (bZ<=bF)) (az (Zq ((0:Int)<=n)&&Zq (n<(↑(Zv y):Int))&&Zp) (az (Zg (Zx n) (Zv y)&&Zp) (Zf Zu (Zk y (Zx n) Zb) fun(fb:Int)=>(az (Zq ((0:Int)<=bZ)&&Zq (bZ<(↑(Zv y):Int))&&Zp) (az (Zg (Zx bZ) (Zv y)&&Zp) (Zf Zu (Zk y (Zx bZ) Zb) fun(eW:Int)=>aD (!Zq (fb<eW)) (Yq (Ym [Yy y,Zw Zz n,Zw Zz (Zy Zz (bZ+(1:Int))),Zw Zz bF])) (Yq (Yx (Yw e,[Yy y,Zw Zz n,Zw Zz bZ,Zw Zz bF]))))))))) (Yq (Yx (Yw e,[Yy y,Zw Zz n,Zw Zz bZ,Zw Zz bF]))))) ?_ ?_ _ i rfl
 ·intro i hc;have h1:i<d.size:=by omega
  dsimp only[kE];simp only[↓bD,↓bS,↓cK,↓cP];rw[ah (by simp;omega),Kerb.rd ha,Kerb.rd h1];by_cases h:d[a]! < d[i]!
  ·rw[aj (by simp[h]),Qa0 (by simp[Go.Sort.ltInt,h])]
  ·rw[ah (by simp[h]),Qa1 (by simp[Go.Sort.ltInt,h]),show Zy .i64 ((i:Int)+1)=((i+1:Nat):Int) from Kerb.gf (by omega) (by omega)]
 ·intro i hc;dsimp only[kE];simp only[↓bD,↓bS,↓cK,↓cP];rw[aj (by simp;omega)]
theorem Bn{β:Type}{d:Array Int}{a i j e:Nat}{K:Ex×List AV->Option β}(ha:a<d.size)(hj:j<d.size)(hi:1<=i)(hs:d.size<=1152921504606846976):Option.bind (bw (fun(st:List AV)=>ay st fun(x:AV) (r:List AV)=>AV.aR x fun(y:List AV)=>ay r fun(x:AV) (r:List AV)=>Zf Zz x fun(n:Int)=>ay r fun(x:AV) (r:List AV)=>Zf Zz x fun(bZ:Int)=>ay r fun(x:AV) (r:List AV)=>Zf Zz x fun(bF:Int)=>aw r (aD (Zq (bZ<=bF)) (az (Zq ((0:Int)<=bF)&&Zq (bF<(↑(Zv y):Int))&&Zp) (az (Zg (Zx bF) (Zv y)&&Zp) (Zf Zu (Zk y (Zx bF) Zb) fun(fb:Int)=>(az (Zq ((0:Int)<=n)&&Zq (n<(↑(Zv y):Int))&&Zp) (az (Zg (Zx n) (Zv y)&&Zp) (Zf Zu (Zk y (Zx n) Zb) fun(eW:Int)=>aD (!Zq (fb<eW)) (Yq (Ym [Yy y,Zw Zz n,Zw Zz bZ,Zw Zz (Zy Zz (bF-(1:Int)))])) (Yq (Yx (Yw e,[Yy y,Zw Zz n,Zw Zz bZ,Zw Zz bF]))))))))) (Yq (Yx (Yw e,[Yy y,Zw Zz n,Zw Zz bZ,Zw Zz bF]))))) [Yy (back d),Zw .i64 (a:Int),Zw .i64 (i:Int),Zw .i64 (j:Int)]) K=K (.exit e,[Yy (back d),Zw .i64 (a:Int),Zw .i64 (i:Int),Zw .i64 (Go.Sort.scanDown (fun x => !Go.Sort.ltInt x d[a]!) d i j:Int)]):=by
 suffices h:∃ n,dJ (fun(st:List AV)=>ay st fun(x:AV) (r:List AV)=>AV.aR x fun(y:List AV)=>ay r fun(x:AV) (r:List AV)=>Zf Zz x fun(n:Int)=>ay r fun(x:AV) (r:List AV)=>Zf Zz x fun(bZ:Int)=>ay r fun(x:AV) (r:List AV)=>Zf Zz x fun(bF:Int)=>aw r (aD (Zq (bZ<=bF)) (az (Zq ((0:Int)<=bF)&&Zq (bF<(↑(Zv y):Int))&&Zp) (az (Zg (Zx bF) (Zv y)&&Zp) (Zf Zu (Zk y (Zx bF) Zb) fun(fb:Int)=>(az (Zq ((0:Int)<=n)&&Zq (n<(↑(Zv y):Int))&&Zp) (az (Zg (Zx n) (Zv y)&&Zp) (Zf Zu (Zk y (Zx n) Zb) fun(eW:Int)=>aD (!Zq (fb<eW)) (Yq (Ym [Yy y,Zw Zz n,Zw Zz bZ,Zw Zz (Zy Zz (bF-(1:Int)))])) (Yq (Yx (Yw e,[Yy y,Zw Zz n,Zw Zz bZ,Zw Zz bF]))))))))) (Yq (Yx (Yw e,[Yy y,Zw Zz n,Zw Zz bZ,Zw Zz bF]))))) n (kE d a i j)=Yq (.exit e,kE d a i (Go.Sort.scanDown (fun x => !Go.Sort.ltInt x d[a]!) d i j)) by
  obtain⟨n,hn⟩:=h;exact Qb3 (Option.bind · K) (lu hn)
 refine Lw (e:=e) (p:=(fun x => !Go.Sort.ltInt x d[a]!)) (d:=d) (a:=a) (i:=i) (step:=fun(st:List AV)=>ay st fun(x:AV) (r:List AV)=>AV.aR x fun(y:List AV)=>ay r fun(x:AV) (r:List AV)=>Zf Zz x fun(n:Int)=>ay r fun(x:AV) (r:List AV)=>Zf Zz x fun(bZ:Int)=>ay r fun(x:AV) (r:List AV)=>Zf Zz x fun(bF:Int)=>aw r (aD (Zq (bZ<=bF)) (az (Zq ((0:Int)<=bF)&&Zq (bF<(↑(Zv y):Int))&&Zp) (az (Zg (Zx bF) (Zv y)&&Zp) (Zf Zu (Zk y (Zx bF) Zb) fun(fb:Int)=>(az (Zq ((0:Int)<=n)&&Zq (n<(↑(Zv y):Int))&&Zp) (az (Zg (Zx n) (Zv y)&&Zp) (Zf Zu (Zk y (Zx n) Zb) fun(eW:Int)=>aD (!Zq (fb<eW)) (Yq (Ym [Yy y,Zw Zz n,Zw Zz bZ,Zw Zz (Zy Zz (bF-(1:Int)))])) (Yq (Yx (Yw e,[Yy y,Zw Zz n,Zw Zz bZ,Zw Zz bF]))))))))) (Yq (Yx (Yw e,[Yy y,Zw Zz n,Zw Zz bZ,Zw Zz bF]))))) ?_ ?_ hi j hj
 ·intro j hc sK;have h1:(j+1)<d.size:=by omega
  dsimp only[kE];simp only[↓bD,↓bS,↓cK,↓cP];rw[ah (by simp;omega),Kerb.rd h1,Kerb.rd ha];by_cases h:d[j+1]! < d[a]!
  ·rw[aj (by simp[h]),Qa0 (by simp[Go.Sort.ltInt,h])]
  ·rw[ah (by simp[h]),Qa1 (by simp[Go.Sort.ltInt,h]),show Zy .i64 (((j+1:Nat):Int)-1)=(j:Int) from(Kerb.gf (by omega) (by omega)).trans (by omega)]
 ·intro j hc;dsimp only[kE];simp only[↓bD,↓bS,↓cK,↓cP];rw[aj (by simp;omega)]
theorem O9{β:Type}{d:Array Int}{a i j e:Nat}{K:Ex×List AV->Option β}(ha:a<d.size)(hj:j<d.size)(hi:1<=i)(hs:d.size<=1152921504606846976):Option.bind (bw (fun(st:List AV)=>ay st fun(x:AV) (r:List AV)=>AV.aR x fun(y:List AV)=>ay r fun(x:AV) (r:List AV)=>Zf Zz x fun(n:Int)=>ay r fun(x:AV) (r:List AV)=>Zf Zz x fun(bZ:Int)=>ay r fun(x:AV) (r:List AV)=>Zf Zz x fun(bF:Int)=>aw r (aD (Zq (bZ<=bF)) (az (Zq ((0:Int)<=n)&&Zq (n<(↑(Zv y):Int))&&Zp) (az (Zg (Zx n) (Zv y)&&Zp) (Zf Zu (Zk y (Zx n) Zb) fun(fb:Int)=>(az (Zq ((0:Int)<=bF)&&Zq (bF<(↑(Zv y):Int))&&Zp) (az (Zg (Zx bF) (Zv y)&&Zp) (Zf Zu (Zk y (Zx bF) Zb) fun(eW:Int)=>aD (Zq (fb<eW)) (Yq (Ym [Yy y,Zw Zz n,Zw Zz bZ,Zw Zz (Zy Zz (bF-(1:Int)))])) (Yq (Yx (Yw e,[Yy y,Zw Zz n,Zw Zz bZ,Zw Zz bF]))))))))) (Yq (Yx (Yw e,[Yy y,Zw Zz n,Zw Zz bZ,Zw Zz bF]))))) [Yy (back d),Zw .i64 (a:Int),Zw .i64 (i:Int),Zw .i64 (j:Int)]) K=K (.exit e,[Yy (back d),Zw .i64 (a:Int),Zw .i64 (i:Int),Zw .i64 (Go.Sort.scanDown (fun x=>Go.Sort.ltInt d[a]! x) d i j:Int)]):=by
 suffices h:∃ n,dJ (fun(st:List AV)=>ay st fun(x:AV) (r:List AV)=>AV.aR x fun(y:List AV)=>ay r fun(x:AV) (r:List AV)=>Zf Zz x fun(n:Int)=>ay r fun(x:AV) (r:List AV)=>Zf Zz x fun(bZ:Int)=>ay r fun(x:AV) (r:List AV)=>Zf Zz x fun(bF:Int)=>aw r (aD (Zq (bZ<=bF)) (az (Zq ((0:Int)<=n)&&Zq (n<(↑(Zv y):Int))&&Zp) (az (Zg (Zx n) (Zv y)&&Zp) (Zf Zu (Zk y (Zx n) Zb) fun(fb:Int)=>(az (Zq ((0:Int)<=bF)&&Zq (bF<(↑(Zv y):Int))&&Zp) (az (Zg (Zx bF) (Zv y)&&Zp) (Zf Zu (Zk y (Zx bF) Zb) fun(eW:Int)=>aD (Zq (fb<eW)) (Yq (Ym [Yy y,Zw Zz n,Zw Zz bZ,Zw Zz (Zy Zz (bF-(1:Int)))])) (Yq (Yx (Yw e,[Yy y,Zw Zz n,Zw Zz bZ,Zw Zz bF]))))))))) (Yq (Yx (Yw e,[Yy y,Zw Zz n,Zw Zz bZ,Zw Zz bF]))))) n (kE d a i j)=Yq (.exit e,kE d a i (Go.Sort.scanDown (fun x=>Go.Sort.ltInt d[a]! x) d i j)) by
  obtain⟨n,hn⟩:=h;exact Qb3 (Option.bind · K) (lu hn)
 refine Lw (e:=e) (p:=(fun x=>Go.Sort.ltInt d[a]! x)) (d:=d) (a:=a) (i:=i) (step:=fun(st:List AV)=>ay st fun(x:AV) (r:List AV)=>AV.aR x fun(y:List AV)=>ay r fun(x:AV) (r:List AV)=>Zf Zz x fun(n:Int)=>ay r fun(x:AV) (r:List AV)=>Zf Zz x fun(bZ:Int)=>ay r fun(x:AV) (r:List AV)=>Zf Zz x fun(bF:Int)=>aw r (aD (Zq (bZ<=bF)) (az (Zq ((0:Int)<=n)&&Zq (n<(↑(Zv y):Int))&&Zp) (az (Zg (Zx n) (Zv y)&&Zp) (Zf Zu (Zk y (Zx n) Zb) fun(fb:Int)=>(az (Zq ((0:Int)<=bF)&&Zq (bF<(↑(Zv y):Int))&&Zp) (az (Zg (Zx bF) (Zv y)&&Zp) (Zf Zu (Zk y (Zx bF) Zb) fun(eW:Int)=>aD (Zq (fb<eW)) (Yq (Ym [Yy y,Zw Zz n,Zw Zz bZ,Zw Zz (Zy Zz (bF-(1:Int)))])) (Yq (Yx (Yw e,[Yy y,Zw Zz n,Zw Zz bZ,Zw Zz bF]))))))))) (Yq (Yx (Yw e,[Yy y,Zw Zz n,Zw Zz bZ,Zw Zz bF]))))) ?_ ?_ hi j hj
 ·intro j hc sK;have h1:(j+1)<d.size:=by omega
  dsimp only[kE];simp only[↓bD,↓bS,↓cK,↓cP];rw[ah (by simp;omega),Kerb.rd ha,Kerb.rd h1];by_cases h:d[a]! < d[j+1]!
  ·rw[ah (by simp[h]),Qa1 (by simp[Go.Sort.ltInt,h]),show Zy .i64 (((j+1:Nat):Int)-1)=(j:Int) from(Kerb.gf (by omega) (by omega)).trans (by omega)]
  ·rw[aj (by simp[h]),Qa0 (by simp[Go.Sort.ltInt,h])]
 ·intro j hc;dsimp only[kE];simp only[↓bD,↓bS,↓cK,↓cP];rw[aj (by simp;omega)]
theorem zK(d:Array Int)(a b p:Nat):part (back d) (a:Int) (b:Int) (p:Int)=((Go.Sort.partition Go.Sort.ltInt d a b p).1,(Go.Sort.partition Go.Sort.ltInt d a b p).2.1,back (Go.Sort.partition Go.Sort.ltInt d a b p).2.2):=by
 simp only[part,eo,Zj]
theorem um(d:Array Int)(a b p:Nat):Dp (back d) (a:Int) (b:Int) (p:Int)=((Go.Sort.partitionEqual Go.Sort.ltInt d a b p).1,back (Go.Sort.partitionEqual Go.Sort.ltInt d a b p).2):=by
 simp only[Dp,eo,Zj]
theorem wW{lt:Int->Int->Bool}{d:Array Int}{a s n:Nat}(ha:a+1<n):(Go.Sort.medianAdjacent lt d a s).1<n/\(Go.Sort.medianAdjacent lt d a s).2<=s+3:=by
 unfold Go.Sort.medianAdjacent;exact J6 (by omega) (by omega) ha
theorem ES{β:Type}(f:Int->Option β)(n:Nat):aD ((n:Int)==(0:Int)) (f 1) (aD ((n:Int)==(12:Int)) (f 2) (f 0))=f (ER (if n=0 then Go.Sort.Hint.increasing else if n=12 then Go.Sort.Hint.decreasing else Go.Sort.Hint.unknown)):=by
 by_cases h:n=0
 ·subst h;rfl
 ·rw[aj (by simpa using h),Qa0 h];by_cases h2:n=12
  ·subst h2;rfl
  ·rw[aj (by simp;omega),Qa0 h2];rfl
end Kerb
/- The loops of the sort that stops early (printed by mksort3.py). -/
namespace Kerb
open Go Go.Abs
theorem DJ{d:Array Int}{A s:Int}{bb:Bool}{b e:Nat}(hb:b<=d.size)(hs:d.size<=1152921504606846976):∀ (m i:Nat),b-i=m->1<=i->i<=b->bw (fun(st:List AV)=>ay st fun(x:AV) (r:List AV)=>AV.aR x fun(y:List AV)=>ay r fun(x:AV) (r:List AV)=>Zf Zz x fun(n:Int)=>ay r fun(x:AV) (r:List AV)=>Zf Zz x fun(bZ:Int)=>ay r fun(x:AV) (r:List AV)=>Zf Zz x fun(bF:Int)=>ay r fun(x:AV) (r:List AV)=>Zf Zz x fun(fb:Int)=>ay r fun(x:AV) (r:List AV)=>AV.cR x fun(b:Bool)=>aw r (aD (Zq (bF<bZ)) (az (Zq ((0:Int)<=bF)&&Zq (bF<(↑(Zv y):Int))&&Zp) (az (Zg (Zx bF) (Zv y)&&Zp) (Zf Zu (Zk y (Zx bF) Zb) fun(eW:Int)=>az (Zq ((0:Int)<=Zy Zz (bF-(1:Int)))&&Zq (Zy Zz (bF-(1:Int))<(↑(Zv y):Int))&&Zp) (az (Zg (Zx (Zy Zz (bF-(1:Int)))) (Zv y)&&Zp) (Zf Zu (Zk y (Zx (Zy Zz (bF-(1:Int)))) Zb) fun(gM:Int)=>aD (!Zq (eW<gM)) (Yq (Ym [Yy y,Zw Zz n,Zw Zz bZ,Zw Zz (Zy Zz (bF+(1:Int))),Zw Zz fb,Yd b])) (Yq (Yx (Yw e,[Yy y,Zw Zz n,Zw Zz bZ,Zw Zz bF,Zw Zz fb,Yd b])))))))) (Yq (Yx (Yw e,[Yy y,Zw Zz n,Zw Zz bZ,Zw Zz bF,Zw Zz fb,Yd b]))))) [Yy (back d),Zw .i64 A,Zw .i64 (b:Int),Zw .i64 (i:Int),Zw .i64 s,Yd bb]=Yq (.exit e,[Yy (back d),Zw .i64 A,Zw .i64 (b:Int),Zw .i64 (Go.Sort.scanSorted Go.Sort.ltInt d b i:Int),Zw .i64 s,Yd bb]):=by
 suffices h:∀ (m i:Nat),b-i=m->1<=i->i<=b->∃ n,dJ (fun(st:List AV)=>ay st fun(x:AV) (r:List AV)=>AV.aR x fun(y:List AV)=>ay r fun(x:AV) (r:List AV)=>Zf Zz x fun(n:Int)=>ay r fun(x:AV) (r:List AV)=>Zf Zz x fun(bZ:Int)=>ay r fun(x:AV) (r:List AV)=>Zf Zz x fun(bF:Int)=>ay r fun(x:AV) (r:List AV)=>Zf Zz x fun(fb:Int)=>ay r fun(x:AV) (r:List AV)=>AV.cR x fun(b:Bool)=>aw r (aD (Zq (bF<bZ)) (az (Zq ((0:Int)<=bF)&&Zq (bF<(↑(Zv y):Int))&&Zp) (az (Zg (Zx bF) (Zv y)&&Zp) (Zf Zu (Zk y (Zx bF) Zb) fun(eW:Int)=>az (Zq ((0:Int)<=Zy Zz (bF-(1:Int)))&&Zq (Zy Zz (bF-(1:Int))<(↑(Zv y):Int))&&Zp) (az (Zg (Zx (Zy Zz (bF-(1:Int)))) (Zv y)&&Zp) (Zf Zu (Zk y (Zx (Zy Zz (bF-(1:Int)))) Zb) fun(gM:Int)=>aD (!Zq (eW<gM)) (Yq (Ym [Yy y,Zw Zz n,Zw Zz bZ,Zw Zz (Zy Zz (bF+(1:Int))),Zw Zz fb,Yd b])) (Yq (Yx (Yw e,[Yy y,Zw Zz n,Zw Zz bZ,Zw Zz bF,Zw Zz fb,Yd b])))))))) (Yq (Yx (Yw e,[Yy y,Zw Zz n,Zw Zz bZ,Zw Zz bF,Zw Zz fb,Yd b]))))) n [Yy (back d),Zw .i64 A,Zw .i64 (b:Int),Zw .i64 (i:Int),Zw .i64 s,Yd bb]=Yq (.exit e,[Yy (back d),Zw .i64 A,Zw .i64 (b:Int),Zw .i64 (Go.Sort.scanSorted Go.Sort.ltInt d b i:Int),Zw .i64 s,Yd bb]) by
  intro m i h1 h2 h3;obtain⟨n,hn⟩:=h m i h1 h2 h3;exact lu hn
 intro m;induction m with
 | zero =>
  intro i hi h1 h2;refine⟨1,?_⟩;unfold dJ;simp only[↓bD,↓bS,↓cK,↓c8,↓cP];rw[aj (by simp;omega)];unfold Go.Sort.scanSorted;rw[Qa0 (by simp;omega)]
 | succ m ih =>
  intro i hi h1 h2;obtain⟨k,rfl⟩:∃ k,i=k+1:=⟨i-1,by omega⟩;have g1:k+1<d.size:=by omega
  have g2:k<d.size:=by omega
  by_cases h:d[k+1]! < d[k]!
  ·refine⟨1,?_⟩;unfold dJ;simp only[↓bD,↓bS,↓cK,↓c8,↓cP];rw[ah (by simp;omega),Kerb.rd g1,show Zy .i64 (((k+1:Nat):Int)-1)=((k:Nat):Int) from(Kerb.gf (by omega) (by omega)).trans (by omega),Kerb.rd g2,aj (by simp[h])];unfold Go.Sort.scanSorted;rw[Qa0 (by simp[Go.Sort.ltInt,h])]
  ·obtain⟨n,hn⟩:=ih (k+1+1) (by omega) (by omega) (by omega);refine⟨n+1,?_⟩;unfold dJ;simp only[↓bD,↓bS,↓cK,↓c8,↓cP];rw[ah (by simp;omega),Kerb.rd g1,show Zy .i64 (((k+1:Nat):Int)-1)=((k:Nat):Int) from(Kerb.gf (by omega) (by omega)).trans (by omega),Kerb.rd g2,ah (by simp[h])];unfold Go.Sort.scanSorted;rw[Qa1 (by simp[Go.Sort.ltInt,h];omega),show Zy .i64 (((k+1:Nat):Int)+1)=((k+1+1:Nat):Int) from(Kerb.gf (by omega) (by omega)).trans (by omega)];exact hn
theorem FT{A B I s:Int}{bb:Bool}{e:Nat}:∀ (j:Nat) (d:Array Int),j<d.size->d.size<=1152921504606846976->∃ m,bw (fun(st:List AV)=>ay st fun(x:AV) (r:List AV)=>AV.aR x fun(y:List AV)=>ay r fun(x:AV) (r:List AV)=>Zf Zz x fun(n:Int)=>ay r fun(x:AV) (r:List AV)=>Zf Zz x fun(gu:Int)=>ay r fun(x:AV) (r:List AV)=>Zf Zz x fun(iM:Int)=>ay r fun(x:AV) (r:List AV)=>Zf Zz x fun(fL:Int)=>ay r fun(x:AV) (r:List AV)=>Zf Zz x fun(bh:Int)=>ay r fun(x:AV) (r:List AV)=>AV.cR x fun(b:Bool)=>aw r (aD (Zq (bh>=(1:Int))) (az (Zq ((0:Int)<=bh)&&Zq (bh<(↑(Zv y):Int))&&Zp) (az (Zg (Zx bh) (Zv y)&&Zp) (Zf Zu (Zk y (Zx bh) Zb) fun(gR:Int)=>az (Zq ((0:Int)<=Zy Zz (bh-(1:Int)))&&Zq (Zy Zz (bh-(1:Int))<(↑(Zv y):Int))&&Zp) (az (Zg (Zx (Zy Zz (bh-(1:Int)))) (Zv y)&&Zp) (Zf Zu (Zk y (Zx (Zy Zz (bh-(1:Int)))) Zb) fun(eU:Int)=>aD (!Zq (gR<eU)) (Yq (Yx (Yw e,[Yy y,Zw Zz n,Zw Zz gu,Zw Zz iM,Zw Zz fL,Zw Zz bh,Yd b]))) (az (Zq ((0:Int)<=Zy Zz (bh-(1:Int)))&&Zq (Zy Zz (bh-(1:Int))<(↑(Zv y):Int))&&Zp) (az (Zg (Zx (Zy Zz (bh-(1:Int)))) (Zv y)&&Zp) (Zf Zu (Zk y (Zx (Zy Zz (bh-(1:Int)))) Zb) fun(dc:Int)=>az (Zq ((0:Int)<=bh)&&Zq (bh<(↑(Zv y):Int))&&Zp) (az (Zg (Zx bh) (Zv y)&&Zp) (Zf Zu (Zk y (Zx bh) Zb) fun(bB:Int)=>az (Zq ((0:Int)<=bh)&&Zq (bh<(↑(Zv y):Int))&&Zp) (az (Zg (Zx bh) (Zv y)&&Zp) (Zf Zu (Zk y (Zx bh) Zb) fun(oP:Int)=>az (Zv [Zw Zu dc]==nat_lit 1&&Zp&&Zp&&Zp&&Zg (Zx bh) (Zv y)) (az (Zq ((0:Int)<=Zy Zz (bh-(1:Int)))&&Zq (Zy Zz (bh-(1:Int))<(↑(Zv (Yf y (Zx bh) (Zw Zu dc))):Int))&&Zp) (az (Zg (Zx (Zy Zz (bh-(1:Int)))) (Zv (Yf y (Zx bh) (Zw Zu dc)))&&Zp) (Zf Zu (Zk (Yf y (Zx bh) (Zw Zu dc)) (Zx (Zy Zz (bh-(1:Int)))) Zb) fun(oQ:Int)=>az (Zv [Zw Zu bB]==nat_lit 1&&Zp&&Zp&&Zp&&Zg (Zx (Zy Zz (bh-(1:Int)))) (Zv (Yf y (Zx bh) (Zw Zu dc)))) (Yq (Ym [Yy (Yf (Yf y (Zx bh) (Zw Zu dc)) (Zx (Zy Zz (bh-(1:Int)))) (Zw Zu bB)),Zw Zz n,Zw Zz gu,Zw Zz iM,Zw Zz fL,Zw Zz (Zy Zz (bh-(1:Int))),Yd b]))))))))))))))))) (Yq (Yx (Yw e,[Yy y,Zw Zz n,Zw Zz gu,Zw Zz iM,Zw Zz fL,Zw Zz bh,Yd b]))))) [Yy (back d),Zw .i64 A,Zw .i64 B,Zw .i64 I,Zw .i64 s,Zw .i64 (j:Int),Yd bb]=Yq (.exit e,[Yy (back (Go.Sort.shiftDown Go.Sort.ltInt j d)),Zw .i64 A,Zw .i64 B,Zw .i64 I,Zw .i64 s,Zw .i64 m,Yd bb]):=by
 suffices h:∀ (j:Nat) (d:Array Int),j<d.size->d.size<=1152921504606846976->∃ m n,dJ (fun(st:List AV)=>ay st fun(x:AV) (r:List AV)=>AV.aR x fun(y:List AV)=>ay r fun(x:AV) (r:List AV)=>Zf Zz x fun(n:Int)=>ay r fun(x:AV) (r:List AV)=>Zf Zz x fun(gu:Int)=>ay r fun(x:AV) (r:List AV)=>Zf Zz x fun(iM:Int)=>ay r fun(x:AV) (r:List AV)=>Zf Zz x fun(fL:Int)=>ay r fun(x:AV) (r:List AV)=>Zf Zz x fun(bh:Int)=>ay r fun(x:AV) (r:List AV)=>AV.cR x fun(b:Bool)=>aw r (aD (Zq (bh>=(1:Int))) (az (Zq ((0:Int)<=bh)&&Zq (bh<(↑(Zv y):Int))&&Zp) (az (Zg (Zx bh) (Zv y)&&Zp) (Zf Zu (Zk y (Zx bh) Zb) fun(gR:Int)=>az (Zq ((0:Int)<=Zy Zz (bh-(1:Int)))&&Zq (Zy Zz (bh-(1:Int))<(↑(Zv y):Int))&&Zp) (az (Zg (Zx (Zy Zz (bh-(1:Int)))) (Zv y)&&Zp) (Zf Zu (Zk y (Zx (Zy Zz (bh-(1:Int)))) Zb) fun(eU:Int)=>aD (!Zq (gR<eU)) (Yq (Yx (Yw e,[Yy y,Zw Zz n,Zw Zz gu,Zw Zz iM,Zw Zz fL,Zw Zz bh,Yd b]))) (az (Zq ((0:Int)<=Zy Zz (bh-(1:Int)))&&Zq (Zy Zz (bh-(1:Int))<(↑(Zv y):Int))&&Zp) (az (Zg (Zx (Zy Zz (bh-(1:Int)))) (Zv y)&&Zp) (Zf Zu (Zk y (Zx (Zy Zz (bh-(1:Int)))) Zb) fun(dc:Int)=>az (Zq ((0:Int)<=bh)&&Zq (bh<(↑(Zv y):Int))&&Zp) (az (Zg (Zx bh) (Zv y)&&Zp) (Zf Zu (Zk y (Zx bh) Zb) fun(bB:Int)=>az (Zq ((0:Int)<=bh)&&Zq (bh<(↑(Zv y):Int))&&Zp) (az (Zg (Zx bh) (Zv y)&&Zp) (Zf Zu (Zk y (Zx bh) Zb) fun(oP:Int)=>az (Zv [Zw Zu dc]==nat_lit 1&&Zp&&Zp&&Zp&&Zg (Zx bh) (Zv y)) (az (Zq ((0:Int)<=Zy Zz (bh-(1:Int)))&&Zq (Zy Zz (bh-(1:Int))<(↑(Zv (Yf y (Zx bh) (Zw Zu dc))):Int))&&Zp) (az (Zg (Zx (Zy Zz (bh-(1:Int)))) (Zv (Yf y (Zx bh) (Zw Zu dc)))&&Zp) (Zf Zu (Zk (Yf y (Zx bh) (Zw Zu dc)) (Zx (Zy Zz (bh-(1:Int)))) Zb) fun(oQ:Int)=>az (Zv [Zw Zu bB]==nat_lit 1&&Zp&&Zp&&Zp&&Zg (Zx (Zy Zz (bh-(1:Int)))) (Zv (Yf y (Zx bh) (Zw Zu dc)))) (Yq (Ym [Yy (Yf (Yf y (Zx bh) (Zw Zu dc)) (Zx (Zy Zz (bh-(1:Int)))) (Zw Zu bB)),Zw Zz n,Zw Zz gu,Zw Zz iM,Zw Zz fL,Zw Zz (Zy Zz (bh-(1:Int))),Yd b]))))))))))))))))) (Yq (Yx (Yw e,[Yy y,Zw Zz n,Zw Zz gu,Zw Zz iM,Zw Zz fL,Zw Zz bh,Yd b]))))) n [Yy (back d),Zw .i64 A,Zw .i64 B,Zw .i64 I,Zw .i64 s,Zw .i64 (j:Int),Yd bb]=Yq (.exit e,[Yy (back (Go.Sort.shiftDown Go.Sort.ltInt j d)),Zw .i64 A,Zw .i64 B,Zw .i64 I,Zw .i64 s,Zw .i64 m,Yd bb]) by
  intro j d h1 h2;obtain⟨m,n,hn⟩:=h j d h1 h2;exact⟨m,lu hn⟩
 intro j;induction j with
 | zero =>
  intro d h1 h2;refine⟨((0:Nat):Int),1,?_⟩;unfold dJ;simp only[↓bD,↓bS,↓cK,↓c8,↓cP];rw[aj (by simp)];rfl
 | succ k ih =>
  intro d h1 h2;have g2:k<d.size:=by omega
  by_cases h:d[k+1]! < d[k]!
  ·obtain⟨m,n,hn⟩:=ih (Go.Sort.swp d (k+1) k) (by rw[swp_size];omega) (by rw[swp_size];exact h2);refine⟨m,n+1,?_⟩;unfold dJ;simp only[↓bD,↓bS,↓cK,↓c8,↓cP];rw[ah (by simp;omega),Kerb.rd h1];simp only[show Zy .i64 (((k+1:Nat):Int)-1)=((k:Nat):Int) from(Kerb.gf (by omega) (by omega)).trans (by omega)];rw[Kerb.rd g2,aj (by simp[h])];rw[Kerb.rd g2,Kerb.rd h1,Kerb.wr h1 (by simp[Kerb.aT];omega),Kerb.cM,Kerb.wr (by rw[Xy];exact g2) (by simp[Kerb.aT];omega),Kerb.cM,show(Yn (Yn d (k+1) d[k]!) k d[k+1]!)=Go.Sort.swp d (k+1) k from rfl];unfold Go.Sort.shiftDown;rw[Qa0 (by simp[Go.Sort.ltInt,h])];exact hn
  ·refine⟨((k+1:Nat):Int),1,?_⟩;unfold dJ;simp only[↓bD,↓bS,↓cK,↓c8,↓cP];rw[ah (by simp;omega),Kerb.rd h1];simp only[show Zy .i64 (((k+1:Nat):Int)-1)=((k:Nat):Int) from(Kerb.gf (by omega) (by omega)).trans (by omega)];rw[Kerb.rd g2,ah (by simp[h])];unfold Go.Sort.shiftDown;rw[Qa1 (by simp[Go.Sort.ltInt,h])]
theorem B5{A I s:Int}{bb:Bool}{b e:Nat}:∀ (m:Nat) (j:Nat) (d:Array Int),b-j=m->1<=j->j<=b->b<=d.size->d.size<=1152921504606846976->∃ m,bw (fun(st:List AV)=>ay st fun(x:AV) (r:List AV)=>AV.aR x fun(y:List AV)=>ay r fun(x:AV) (r:List AV)=>Zf Zz x fun(n:Int)=>ay r fun(x:AV) (r:List AV)=>Zf Zz x fun(gR:Int)=>ay r fun(x:AV) (r:List AV)=>Zf Zz x fun(eU:Int)=>ay r fun(x:AV) (r:List AV)=>Zf Zz x fun(dc:Int)=>ay r fun(x:AV) (r:List AV)=>Zf Zz x fun(bB:Int)=>ay r fun(x:AV) (r:List AV)=>AV.cR x fun(b:Bool)=>aw r (aD (Zq (bB<gR)) (az (Zq ((0:Int)<=bB)&&Zq (bB<(↑(Zv y):Int))&&Zp) (az (Zg (Zx bB) (Zv y)&&Zp) (Zf Zu (Zk y (Zx bB) Zb) fun(oP:Int)=>az (Zq ((0:Int)<=Zy Zz (bB-(1:Int)))&&Zq (Zy Zz (bB-(1:Int))<(↑(Zv y):Int))&&Zp) (az (Zg (Zx (Zy Zz (bB-(1:Int)))) (Zv y)&&Zp) (Zf Zu (Zk y (Zx (Zy Zz (bB-(1:Int)))) Zb) fun(oQ:Int)=>aD (!Zq (oP<oQ)) (Yq (Yx (Yw e,[Yy y,Zw Zz n,Zw Zz gR,Zw Zz eU,Zw Zz dc,Zw Zz bB,Yd b]))) (az (Zq ((0:Int)<=Zy Zz (bB-(1:Int)))&&Zq (Zy Zz (bB-(1:Int))<(↑(Zv y):Int))&&Zp) (az (Zg (Zx (Zy Zz (bB-(1:Int)))) (Zv y)&&Zp) (Zf Zu (Zk y (Zx (Zy Zz (bB-(1:Int)))) Zb) fun(il:Int)=>az (Zq ((0:Int)<=bB)&&Zq (bB<(↑(Zv y):Int))&&Zp) (az (Zg (Zx bB) (Zv y)&&Zp) (Zf Zu (Zk y (Zx bB) Zb) fun(te:Int)=>az (Zq ((0:Int)<=bB)&&Zq (bB<(↑(Zv y):Int))&&Zp) (az (Zg (Zx bB) (Zv y)&&Zp) (Zf Zu (Zk y (Zx bB) Zb) fun(MG:Int)=>az (Zv [Zw Zu il]==nat_lit 1&&Zp&&Zp&&Zp&&Zg (Zx bB) (Zv y)) (az (Zq ((0:Int)<=Zy Zz (bB-(1:Int)))&&Zq (Zy Zz (bB-(1:Int))<(↑(Zv (Yf y (Zx bB) (Zw Zu il))):Int))&&Zp) (az (Zg (Zx (Zy Zz (bB-(1:Int)))) (Zv (Yf y (Zx bB) (Zw Zu il)))&&Zp) (Zf Zu (Zk (Yf y (Zx bB) (Zw Zu il)) (Zx (Zy Zz (bB-(1:Int)))) Zb) fun(MH:Int)=>az (Zv [Zw Zu te]==nat_lit 1&&Zp&&Zp&&Zp&&Zg (Zx (Zy Zz (bB-(1:Int)))) (Zv (Yf y (Zx bB) (Zw Zu il)))) (Yq (Ym [Yy (Yf (Yf y (Zx bB) (Zw Zu il)) (Zx (Zy Zz (bB-(1:Int)))) (Zw Zu te)),Zw Zz n,Zw Zz gR,Zw Zz eU,Zw Zz dc,Zw Zz (Zy Zz (bB+(1:Int))),Yd b]))))))))))))))))) (Yq (Yx (Yw e,[Yy y,Zw Zz n,Zw Zz gR,Zw Zz eU,Zw Zz dc,Zw Zz bB,Yd b]))))) [Yy (back d),Zw .i64 A,Zw .i64 (b:Int),Zw .i64 I,Zw .i64 s,Zw .i64 (j:Int),Yd bb]=Yq (.exit e,[Yy (back (Go.Sort.shiftUp Go.Sort.ltInt b j d)),Zw .i64 A,Zw .i64 (b:Int),Zw .i64 I,Zw .i64 s,Zw .i64 m,Yd bb]):=by
 suffices h:∀ (m:Nat) (j:Nat) (d:Array Int),b-j=m->1<=j->j<=b->b<=d.size->d.size<=1152921504606846976->∃ m n,dJ (fun(st:List AV)=>ay st fun(x:AV) (r:List AV)=>AV.aR x fun(y:List AV)=>ay r fun(x:AV) (r:List AV)=>Zf Zz x fun(n:Int)=>ay r fun(x:AV) (r:List AV)=>Zf Zz x fun(gR:Int)=>ay r fun(x:AV) (r:List AV)=>Zf Zz x fun(eU:Int)=>ay r fun(x:AV) (r:List AV)=>Zf Zz x fun(dc:Int)=>ay r fun(x:AV) (r:List AV)=>Zf Zz x fun(bB:Int)=>ay r fun(x:AV) (r:List AV)=>AV.cR x fun(b:Bool)=>aw r (aD (Zq (bB<gR)) (az (Zq ((0:Int)<=bB)&&Zq (bB<(↑(Zv y):Int))&&Zp) (az (Zg (Zx bB) (Zv y)&&Zp) (Zf Zu (Zk y (Zx bB) Zb) fun(oP:Int)=>az (Zq ((0:Int)<=Zy Zz (bB-(1:Int)))&&Zq (Zy Zz (bB-(1:Int))<(↑(Zv y):Int))&&Zp) (az (Zg (Zx (Zy Zz (bB-(1:Int)))) (Zv y)&&Zp) (Zf Zu (Zk y (Zx (Zy Zz (bB-(1:Int)))) Zb) fun(oQ:Int)=>aD (!Zq (oP<oQ)) (Yq (Yx (Yw e,[Yy y,Zw Zz n,Zw Zz gR,Zw Zz eU,Zw Zz dc,Zw Zz bB,Yd b]))) (az (Zq ((0:Int)<=Zy Zz (bB-(1:Int)))&&Zq (Zy Zz (bB-(1:Int))<(↑(Zv y):Int))&&Zp) (az (Zg (Zx (Zy Zz (bB-(1:Int)))) (Zv y)&&Zp) (Zf Zu (Zk y (Zx (Zy Zz (bB-(1:Int)))) Zb) fun(il:Int)=>az (Zq ((0:Int)<=bB)&&Zq (bB<(↑(Zv y):Int))&&Zp) (az (Zg (Zx bB) (Zv y)&&Zp) (Zf Zu (Zk y (Zx bB) Zb) fun(te:Int)=>az (Zq ((0:Int)<=bB)&&Zq (bB<(↑(Zv y):Int))&&Zp) (az (Zg (Zx bB) (Zv y)&&Zp) (Zf Zu (Zk y (Zx bB) Zb) fun(MG:Int)=>az (Zv [Zw Zu il]==nat_lit 1&&Zp&&Zp&&Zp&&Zg (Zx bB) (Zv y)) (az (Zq ((0:Int)<=Zy Zz (bB-(1:Int)))&&Zq (Zy Zz (bB-(1:Int))<(↑(Zv (Yf y (Zx bB) (Zw Zu il))):Int))&&Zp) (az (Zg (Zx (Zy Zz (bB-(1:Int)))) (Zv (Yf y (Zx bB) (Zw Zu il)))&&Zp) (Zf Zu (Zk (Yf y (Zx bB) (Zw Zu il)) (Zx (Zy Zz (bB-(1:Int)))) Zb) fun(MH:Int)=>az (Zv [Zw Zu te]==nat_lit 1&&Zp&&Zp&&Zp&&Zg (Zx (Zy Zz (bB-(1:Int)))) (Zv (Yf y (Zx bB) (Zw Zu il)))) (Yq (Ym [Yy (Yf (Yf y (Zx bB) (Zw Zu il)) (Zx (Zy Zz (bB-(1:Int)))) (Zw Zu te)),Zw Zz n,Zw Zz gR,Zw Zz eU,Zw Zz dc,Zw Zz (Zy Zz (bB+(1:Int))),Yd b]))))))))))))))))) (Yq (Yx (Yw e,[Yy y,Zw Zz n,Zw Zz gR,Zw Zz eU,Zw Zz dc,Zw Zz bB,Yd b]))))) n [Yy (back d),Zw .i64 A,Zw .i64 (b:Int),Zw .i64 I,Zw .i64 s,Zw .i64 (j:Int),Yd bb]=Yq (.exit e,[Yy (back (Go.Sort.shiftUp Go.Sort.ltInt b j d)),Zw .i64 A,Zw .i64 (b:Int),Zw .i64 I,Zw .i64 s,Zw .i64 m,Yd bb]) by
  intro m j d h1 h2 h3 h4 h5;obtain⟨m,n,hn⟩:=h m j d h1 h2 h3 h4 h5;exact⟨m,lu hn⟩
 intro m;induction m with
 | zero =>
  intro j d h1 h2 h3 h4 h5;refine⟨(j:Int),1,?_⟩;unfold dJ;simp only[↓bD,↓bS,↓cK,↓c8,↓cP];rw[aj (by simp;omega)];unfold Go.Sort.shiftUp;rw[Qa0 (by omega)]
 | succ m ih =>
  intro j d h1 h2 h3 h4 h5;obtain⟨k,rfl⟩:∃ k,j=k+1:=⟨j-1,by omega⟩;have g1:k+1<d.size:=by omega
  have g2:k<d.size:=by omega
  by_cases h:d[k+1]! < d[k]!
  ·obtain⟨m,n,hn⟩:=ih (k+1+1) (Go.Sort.swp d (k+1) k) (by omega) (by omega) (by omega) (by rw[swp_size];omega) (by rw[swp_size];exact h5);refine⟨m,n+1,?_⟩;unfold dJ;simp only[↓bD,↓bS,↓cK,↓c8,↓cP];rw[ah (by simp;omega),Kerb.rd g1];simp only[show Zy .i64 (((k+1:Nat):Int)-1)=((k:Nat):Int) from(Kerb.gf (by omega) (by omega)).trans (by omega)];rw[Kerb.rd g2,aj (by simp[h])];rw[Kerb.rd g2,Kerb.rd g1,Kerb.wr g1 (by simp[Kerb.aT];omega),Kerb.cM,Kerb.wr (by rw[Xy];exact g2) (by simp[Kerb.aT];omega),Kerb.cM,show(Yn (Yn d (k+1) d[k]!) k d[k+1]!)=Go.Sort.swp d (k+1) k from rfl];unfold Go.Sort.shiftUp;rw[Qa1 (by omega),Nat.add_sub_cancel,Qa0 (by simp[Go.Sort.ltInt,h]),show Zy .i64 (((k+1:Nat):Int)+1)=((k+1+1:Nat):Int) from(Kerb.gf (by omega) (by omega)).trans (by omega)];exact hn
  ·refine⟨((k+1:Nat):Int),1,?_⟩;unfold dJ;simp only[↓bD,↓bS,↓cK,↓c8,↓cP];rw[ah (by simp;omega),Kerb.rd g1];simp only[show Zy .i64 (((k+1:Nat):Int)-1)=((k:Nat):Int) from(Kerb.gf (by omega) (by omega)).trans (by omega)];rw[Kerb.rd g2,ah (by simp[h])];unfold Go.Sort.shiftUp;rw[Qa1 (by omega),Nat.add_sub_cancel,Qa1 (by simp[Go.Sort.ltInt,h])]
theorem sj{lt:Int->Int->Bool}:∀ (j:Nat) (d:Array Int),(Go.Sort.shiftDown lt j d).size=d.size:=by
 intro j;induction j with
 | zero=>intro d;rfl
 | succ k ih =>
  intro d;unfold Go.Sort.shiftDown;split
  ·rfl
  ·rw[ih,swp_size]
theorem vU{lt:Int->Int->Bool}{b:Nat}:∀ (m j:Nat) (d:Array Int),b-j=m->(Go.Sort.shiftUp lt b j d).size=d.size:=by
 intro m;induction m with
 | zero =>
  intro j d h;unfold Go.Sort.shiftUp;rw[Qa0 (by omega)]
 | succ m ih =>
  intro j d h;unfold Go.Sort.shiftUp;rw[Qa1 (by omega)];split
  ·rfl
  ·rw[ih _ _ (by omega),swp_size]
theorem A'{lt:Int->Int->Bool}{d:Array Int}{b:Nat}:∀ (m i:Nat),b-i=m->i<=b->i<=Go.Sort.scanSorted lt d b i/\Go.Sort.scanSorted lt d b i<=b:=by
 intro m;induction m with
 | zero =>
  intro i h1 h2;unfold Go.Sort.scanSorted;rw[Qa0 (by simp;omega)];omega
 | succ m ih =>
  intro i h1 h2;unfold Go.Sort.scanSorted;split
  ·have:=ih (i+1) (by omega) (by omega);omega
  ·omega
end Kerb
/- The sort's pseudo-random number; lengths in bits. -/
namespace Kerb
open Go Go.Abs
theorem SG(v:BitVec 64):Zy .u64 (v.toNat:Int)=(v.toNat:Int):=by
 unfold Zy;simp[Yz,Yj];have:=v.isLt;omega
theorem UH(v:BitVec 64):BitVec.ofInt 64 (v.toNat:Int)=v:=by
 apply BitVec.eq_of_toNat_eq;simp[BitVec.toNat_ofInt]
theorem shl(v:BitVec 64)(k:Nat)(p:Int)(hp:p=((2 ^ k:Nat):Int)):BitVec.ofInt 64 (Zy .u64 ((v.toNat:Int)*p))=v <<< k:=by
 subst hp;apply BitVec.eq_of_toNat_eq;rw[show Zy .u64 ((v.toNat:Int)*((2 ^ k:Nat):Int))=((v.toNat*2 ^ k % 2 ^ 64:Nat):Int) from by
  unfold Zy;rw[Qa0 (by simp[Yj])];rfl]
 rw[BitVec.toNat_ofInt,BitVec.toNat_shiftLeft,Nat.shiftLeft_eq];generalize v.toNat*2 ^ k=m;omega
theorem shr(v:BitVec 64)(k:Nat)(p:Int)(hp:p=((2 ^ k:Nat):Int)):BitVec.ofInt 64 (Int.fdiv (v.toNat:Int) p)=v >>> k:=by
 subst hp;apply BitVec.eq_of_toNat_eq;rw[show Int.fdiv (v.toNat:Int) ((2 ^ k:Nat):Int)=((v.toNat / 2 ^ k:Nat):Int) from by rw[Xz _ (Int.natCast_nonneg _)];rfl];rw[BitVec.toNat_ofInt,BitVec.toNat_ushiftRight,Nat.shiftRight_eq_div_pow];have:=v.isLt;have h2:v.toNat / 2 ^ k<=v.toNat:=Nat.div_le_self _ _;generalize v.toNat / 2 ^ k=m at h2 ⊢;omega
theorem PX(v:BitVec 64):Ib (v.toNat:Int)=((((v ^^^ v <<< 13) ^^^ (v ^^^ v <<< 13) >>> 7) ^^^ ((v ^^^ v <<< 13) ^^^ (v ^^^ v <<< 13) >>> 7) <<< 17).toNat:Int):=by
 unfold Ib;rw[Zj,show UInt64.ofNat v.toNat=UInt64.ofBitVec v from by apply UInt64.eq_of_toBitVec_eq;simp];rfl
theorem Mx{n k:Nat}(h:2 ^ k<=n):Nat.log2 n=k+Nat.log2 (n / 2 ^ k):=by
 have hk:0<2 ^ k:=Nat.two_pow_pos k;have hq:n / 2 ^ k≠0:=by
  have:=Nat.div_pos h hk;omega
 have hn:n≠0:=by omega
 have h1:2 ^ (Nat.log2 (n / 2 ^ k))<=n / 2 ^ k:=(Nat.le_log2 hq).mp (Nat.le_refl _);have h2:n / 2 ^ k<2 ^ (Nat.log2 (n / 2 ^ k)+1):=(Nat.log2_lt hq).mp (Nat.lt_succ_self _);generalize Nat.log2 (n / 2 ^ k)=a at h1 h2 ⊢;have h3:k+a<=Nat.log2 n:=(Nat.le_log2 hn).mpr (by
  rw[Nat.pow_add,Nat.mul_comm];exact(Nat.le_div_iff_mul_le hk).mp h1)
 have h4:Nat.log2 n<k+a+1:=(Nat.log2_lt hn).mpr (by
  rw[show k+a+1=(a+1)+k by omega,Nat.pow_add];exact(Nat.div_lt_iff_lt_mul hk).mp h2)
 omega
theorem i_(k:Nat){n:Nat}(h:2 ^ k<=n):Go.Sort.bitsLen n=k+Go.Sort.bitsLen (n / 2 ^ k):=by
 have hk:0<2 ^ k:=Nat.two_pow_pos k;have hq:n / 2 ^ k≠0:=by
  have:=Nat.div_pos h hk;omega
 unfold Go.Sort.bitsLen;rw[Qa0 (by omega),Qa0 hq,Mx h];omega
theorem pT(k:Nat){n:Nat}(h:n<2 ^ k):Go.Sort.bitsLen n<=k:=by
 unfold Go.Sort.bitsLen;split
 ·omega
 ·rename_i h0;exact(Nat.log2_lt h0).mpr h
def C8:List UInt8:=(List.range 256).map fun i=>Yg (Go.Sort.bitsLen i)
theorem Ht{m:Nat}(h:m<256):(C8.getD m 0).toNat=Go.Sort.bitsLen m:=by
 unfold C8;rw[Yk,List.getElem?_map,List.getElem?_range h];simp only[Option.map_some,Option.getD_some];have:=pT 8 (n:=m) (by omega);simp only[UInt8.toNat_ofNat'];omega
theorem mM{T:List UInt8}{m:Nat}{N:Int}(hT:T=C8)(hm:m<256)(h1:0<=N)(h2:N<=64) :
  az (Zq ((0:Int)<=((Yg (Zx (Zy .u8 (m:Int)))).toNat:Int))&&Zq (((Yg (Zx (Zy .u8 (m:Int)))).toNat:Int)<(T.length:Int))) (Yq (Zw .i64 (Zy .i64 (N+Zy .i64 ((Zk T (Zx ((Yg (Zx (Zy .u8 (m:Int)))).toNat:Int)) (0:UInt8)).toNat:Int))),([]:aC)))=Yq (Zw .i64 (N+(Go.Sort.bitsLen m:Int)),[]):=by
 subst hT;have hw:Zy .u8 (m:Int)=(m:Int):=by
  unfold Zy;simp[Yz,Yj];omega
 have hu:(Yg m).toNat=m:=by simp;omega
 rw[hw,Zj,hu,Zj,Ht hm];have:=pT 8 (n:=m) (by omega);rw[ae (by simp[C8];omega),gf (n:=(Go.Sort.bitsLen m:Int)) (by omega) (by omega),gf (by omega) (by omega)]
theorem f32(n:Nat):Int.fdiv (n:Int) ((2:Int) ^ min (Zx (32:Int)) (Yz .u64))=((n / 2 ^ 32:Nat):Int):=Xz (n:Int) (b:=((2 ^ 32:Nat):Int)) (Int.natCast_nonneg _)
theorem f16(n:Nat):Int.fdiv (n:Int) ((2:Int) ^ min (Zx (16:Int)) (Yz .u64))=((n / 2 ^ 16:Nat):Int):=Xz (n:Int) (b:=((2 ^ 16:Nat):Int)) (Int.natCast_nonneg _)
theorem f8(n:Nat):Int.fdiv (n:Int) ((2:Int) ^ min (Zx (8:Int)) (Yz .u64))=((n / 2 ^ 8:Nat):Int):=Xz (n:Int) (b:=((2 ^ 8:Nat):Int)) (Int.natCast_nonneg _)
theorem zo(n:Nat):Pt (n:Int)=(Go.Sort.bitsLen n:Int):=by unfold Pt;rw[Zj]
theorem OE(v:BitVec 64) :
  Zy .u64 ((BitVec.toNat (BitVec.ofInt 64 (Zy .u64 ((BitVec.toNat (BitVec.ofInt 64 (Zy .u64 ((BitVec.toNat (BitVec.ofInt 64 (v.toNat:Int) ^^^ BitVec.ofInt 64 (Zy .u64 ((v.toNat:Int)*(2:Int) ^ min (Zx (13:Int)) 64)))):Int)) ^^^ BitVec.ofInt 64 (Int.fdiv (Zy .u64 ((BitVec.toNat (BitVec.ofInt 64 (v.toNat:Int) ^^^ BitVec.ofInt 64 (Zy .u64 ((v.toNat:Int)*(2:Int) ^ min (Zx (13:Int)) 64)))):Int)) ((2:Int) ^ min (Zx (7:Int)) 64)))):Int)) ^^^ BitVec.ofInt 64 (Zy .u64 (Zy .u64 ((BitVec.toNat (BitVec.ofInt 64 (Zy .u64 ((BitVec.toNat (BitVec.ofInt 64 (v.toNat:Int) ^^^ BitVec.ofInt 64 (Zy .u64 ((v.toNat:Int)*(2:Int) ^ min (Zx (13:Int)) 64)))):Int)) ^^^ BitVec.ofInt 64 (Int.fdiv (Zy .u64 ((BitVec.toNat (BitVec.ofInt 64 (v.toNat:Int) ^^^ BitVec.ofInt 64 (Zy .u64 ((v.toNat:Int)*(2:Int) ^ min (Zx (13:Int)) 64)))):Int)) ((2:Int) ^ min (Zx (7:Int)) 64)))):Int)*(2:Int) ^ min (Zx (17:Int)) 64)))):Int)=Ib (v.toNat:Int):=by
 rw[UH v,shl v 13 ((2:Int) ^ min (Zx (13:Int)) 64) rfl];simp only[SG,UH];rw[shr _ 7 ((2:Int) ^ min (Zx (7:Int)) 64) rfl];rw[shl _ 17 ((2:Int) ^ min (Zx (17:Int)) 64) rfl,PX]
theorem OD(r:UInt64):Ib (r.toNat:Int)=((Go.Sort.xorNext r).toNat:Int):=by
 unfold Ib;rw[Zj,UInt64.ofNat_toNat]
theorem KT{n:Int}(h1:0<=n)(h2:n<18446744073709551616):Zy .u64 n=n:=by
 unfold Zy;simp[Yz,Yj];omega
theorem OY(r:UInt64){m:Nat}(h1:1<=m)(h2:m<=4611686018427387904):Zy .i64 (Zy .u64 ((BitVec.toNat (BitVec.ofInt 64 (r.toNat:Int) &&& BitVec.ofInt 64 (Zy .u64 ((m:Int)-(1:Int)))):Int)))=((r.toNat &&& (m-1):Nat):Int):=by
 have hr:=r.toNat_lt;rw[KT (n:=(m:Int)-1) (by omega) (by omega),BitVec.toNat_and,BitVec.toNat_ofInt,BitVec.toNat_ofInt];rw[show((r.toNat:Int) % ((2 ^ 64:Nat):Int)).toNat=r.toNat by omega,show(((m:Int)-1) % ((2 ^ 64:Nat):Int)).toNat=m-1 by omega];have:r.toNat &&& (m-1)<=m-1:=Nat.and_le_right;rw[KT (by omega) (by omega),gf (by omega) (by omega)]
theorem PF{n:Nat}(h:n≠0):1<=1 <<< Go.Sort.bitsLen n/\1 <<< Go.Sort.bitsLen n<=2*n:=by
 rw[Nat.one_shiftLeft];have:=Nat.two_pow_pos (Go.Sort.bitsLen n);refine⟨this,?_⟩;unfold Go.Sort.bitsLen;rw[Qa0 h,Nat.pow_succ];have:=(Nat.le_log2 h).mp (Nat.le_refl _);omega
theorem J_{n:Nat}(h:n<=4611686018427387904):Zy .u64 ((1:Int)*(2:Int) ^ min (Zx ((Go.Sort.bitsLen n:Nat):Int)) 64)=MS (n:Int):=by
 unfold MS;have:=pT 63 (n:=n) (by omega);rw[Zj,Zj,Nat.one_shiftLeft,show min (Go.Sort.bitsLen n) 64=Go.Sort.bitsLen n by omega,Int.one_mul];have h2:2 ^ Go.Sort.bitsLen n<=2 ^ 63:=Yb (by omega) this;rw[show((2:Int) ^ Go.Sort.bitsLen n)=((2 ^ Go.Sort.bitsLen n:Nat):Int) from by simp];generalize 2 ^ Go.Sort.bitsLen n=q at h2 ⊢;exact KT (by omega) (by omega)
theorem MT(n:Nat):MS (n:Int)=((1 <<< Go.Sort.bitsLen n:Nat):Int):=by
 unfold MS;rw[Zj]
def KU(a l m idx:Nat)(d:Array Int):Nat->UInt64×Array Int
 | 0=>(UInt64.ofNat l,d)
 | k+1=>Go.Sort.breakStep a l m (KU a l m idx d k) (idx+k)
theorem Eg(a l m idx:Nat)(d:Array Int):∀ k,(KU a l m idx d k).2.size=d.size
 | 0=>rfl
 | k+1=>by
  unfold KU Go.Sort.breakStep;dsimp only;rw[swp_size,Eg a l m idx d k]
end Kerb
/- The sort: one round of the outermost loop. -/
namespace Kerb
open Go Go.Abs Go.Sort
theorem vh{α β:Type}{X:Option α}{v:α}{K:α->Option β}{Q:β->Prop}(h:X=Yq v)(hk:∃ y,K v=Yq y/\Q y):∃ y,Option.bind X K=Yq y/\Q y:=by
 rw[h];exact hk
theorem qC{a b:Nat}:∀ (s i:Nat) (d:Array Int),(partialIns ltInt a b s i d).1.size=d.size:=by
 intro s;induction s with
 | zero=>intro i d;rfl
 | succ s ih =>
  intro i d;rw[partialIns_succ];split
  ·rfl
  ·split
   ·rfl
   ·rw[ih];unfold fixUp fixDown;have h1:∀ (c:Prop) [Decidable c] (x:Array Int) (j:Nat),(if c then shiftDown ltInt j x else x).size=x.size:=fun c _ x j=>by
     split
     ·rw[sj]
     ·rfl
    have h2:∀ (c:Prop) [Decidable c] (x:Array Int) (j:Nat),(if c then shiftUp ltInt b j x else x).size=x.size:=fun c _ x j=>by
     split
     ·rw[vU _ _ _ rfl]
     ·rfl
    rw[h2,h1,Kerb.swp_size]
theorem qi{d:Array Int}{a b p:Nat}(h1:a<=p)(h2:p<b)(h3:b<=d.size):a<=(partition ltInt d a b p).1/\(partition ltInt d a b p).1<b/\(partition ltInt d a b p).2.2.size=d.size:=by
 obtain⟨q1,q2,q3,_⟩:=partition_holds ltInt swo_ltInt d a b p h1 h2 h3;exact⟨q1,q2,q3.1⟩
theorem nl{d:Array Int}{a b p:Nat}(h1:a<=p)(h2:p<b)(h3:b<=d.size):a<(partitionEqual ltInt d a b p).1/\(partitionEqual ltInt d a b p).1<=b/\(partitionEqual ltInt d a b p).2.size=d.size:=by
 have hs:=Kerb.swp_size d a p;obtain⟨q1,q2,q3,_⟩:=partEqLoop_spec (lt:=ltInt) a b _ (a+1) (b-1) (swp d a p) (Nat.le_refl _) (by omega) (by omega) (by omega) (by omega) (fun t h4 h5=>by omega) (fun t h4 h5=>by omega);exact⟨q1,q2,q3.1.trans hs⟩
theorem E6{d:Array Int}{a b:Nat}(h1:a<=b)(h2:b<=d.size):(insertionSort ltInt d a b).size=d.size:=(insertionSort_holds swo_ltInt d a b h1 h2).1.1
theorem JF{d:Array Int}{a b:Nat}(h1:a<=b)(h2:b<=d.size):(heapSort ltInt d a b).size=d.size:=(heapSort_holds swo_ltInt d a b h1 h2).1.1
theorem yt{d:Array Int}{a b:Nat}(h1:a<=b)(h2:b<=d.size):(breakPatterns d a b).size=d.size:=(breakPatterns_holds d a b h1 h2).1
theorem FL{d:Array Int}{a b:Nat}(h1:a<=b)(h2:b<=d.size):(reverseRange d a b).size=d.size:=(reverseRange_holds d a b h1 h2).1
def Ov(d3:Array Int)(a b l pv:Nat)(wB wP:Bool):Array Int :=
 if a>0 && !ltInt d3[a-1]! d3[pv]! then
  match partitionEqual ltInt d3 a b pv with
  | (mid,d4)=>if _h:a<mid/\mid<=b then pdq ltInt d4 mid b l wB wP else d4
 else
  match partition ltInt d3 a b pv with
  | (mid,ap,d4) =>
   if _h:a<=mid/\mid<b then
    if mid-a<b-mid then
     pdq ltInt (pdq ltInt d4 a mid l Zp Zp) (mid+1) b l (Zq (mid-a>=(b-a) / 8)) ap
    else
     pdq ltInt (pdq ltInt d4 (mid+1) b l Zp Zp) a mid l (Zq (b-mid>=(b-a) / 8)) ap
   else d4
def RY(d2:Array Int)(a b l pv:Nat)(hint:Hint)(wB wP:Bool):Array Int :=
 if (if wB&&wP&&hint = .increasing then partialInsertionSort ltInt d2 a b else(d2,Zd)).2 then(if wB&&wP&&hint = .increasing then partialInsertionSort ltInt d2 a b else(d2,Zd)).1
 else Ov (if wB&&wP&&hint = .increasing then partialInsertionSort ltInt d2 a b else(d2,Zd)).1 a b l pv wB wP
def LV(d1:Array Int)(a b l:Nat)(wB wP:Bool):Array Int :=
 RY (if (choosePivot ltInt d1 a b).2 = .decreasing then reverseRange d1 a b else d1) a b l (if (choosePivot ltInt d1 a b).2 = .decreasing then(b-1)-((choosePivot ltInt d1 a b).1-a) else(choosePivot ltInt d1 a b).1) (if (choosePivot ltInt d1 a b).2 = .decreasing then Hint.increasing else(choosePivot ltInt d1 a b).2) wB wP
theorem wZ(d:Array Int)(a b l:Nat)(wB wP:Bool):pdq ltInt d a b l wB wP =
  if b-a<=12 then insertionSort ltInt d a b else
  if l=0 then heapSort ltInt d a b else
  LV (if !wB then breakPatterns d a b else d) a b (if !wB then l-1 else l) wB wP:=by
 rw[pdq];rfl
theorem Ap{d3:Array Int}{a b l pv:Nat}{wB wP:Bool}(h1:a<=pv)(h2:pv<b)(h3:b<=d3.size):Ov d3 a b l pv wB wP =
  if (Zq (a>0) && !ltInt d3[a-1]! d3[pv]!)=Zp then pdq ltInt (partitionEqual ltInt d3 a b pv).2 (partitionEqual ltInt d3 a b pv).1 b l wB wP
  else if (partition ltInt d3 a b pv).1-a<b-(partition ltInt d3 a b pv).1 then
   pdq ltInt (pdq ltInt (partition ltInt d3 a b pv).2.2 a (partition ltInt d3 a b pv).1 l Zp Zp) ((partition ltInt d3 a b pv).1+1) b l (Zq ((partition ltInt d3 a b pv).1-a>=(b-a) / 8)) (partition ltInt d3 a b pv).2.1
  else pdq ltInt (pdq ltInt (partition ltInt d3 a b pv).2.2 ((partition ltInt d3 a b pv).1+1) b l Zp Zp) a (partition ltInt d3 a b pv).1 l (Zq (b-(partition ltInt d3 a b pv).1>=(b-a) / 8)) (partition ltInt d3 a b pv).2.1:=by
 unfold Ov;have e:=nl h1 h2 h3;have p:=qi h1 h2 h3;generalize partitionEqual ltInt d3 a b pv=x at e ⊢;generalize partition ltInt d3 a b pv=y at p ⊢;obtain⟨mid,d4⟩:=x;obtain⟨m,ap,d5⟩:=y;dsimp only at e p ⊢;rw[dif_pos (show a<mid/\mid<=b from⟨e.1,e.2.1⟩),dif_pos (show a<=m/\m<b from⟨p.1,p.2.1⟩)]
theorem rT:∀ (n:Nat) (d:Array Int) (a b l:Nat) (wB wP:Bool),b-a<=n->a<=b->b<=d.size->(pdq ltInt d a b l wB wP).size=d.size:=by
 intro n;induction n with
 | zero =>
  intro d a b l wB wP h1 h2 h3;rw[wZ,Qa1 (by omega),E6 h2 h3]
 | succ n ih =>
  intro d a b l wB wP h1 h2 h3;rw[wZ];by_cases Tt:b-a<=12
  ·rw[Qa1 Tt,E6 h2 h3]
  rw[Qa0 Tt];by_cases hl:l=0
  ·rw[Qa1 hl,JF h2 h3]
  rw[Qa0 hl];have s1:(if (!wB)=Zp then breakPatterns d a b else d).size=d.size:=by
   split
   ·exact yt h2 h3
   ·rfl
  generalize (if (!wB)=Zp then breakPatterns d a b else d)=d1 at s1 ⊢;generalize (if (!wB)=Zp then l-1 else l)=l1;unfold LV;have hc:=choosePivot_holds ltInt d1 a b (by omega);generalize choosePivot ltInt d1 a b=c at hc ⊢;have s2:(if c.2 = .decreasing then reverseRange d1 a b else d1).size=d.size:=by
   split
   ·rw[FL h2 (by omega),s1]
   ·exact s1
  generalize (if c.2 = .decreasing then reverseRange d1 a b else d1)=d2 at s2 ⊢;have hp:a<=(if c.2 = .decreasing then(b-1)-(c.1-a) else c.1)/\(if c.2 = .decreasing then(b-1)-(c.1-a) else c.1)<b:=by
   split<;>omega
  generalize (if c.2 = .decreasing then(b-1)-(c.1-a) else c.1)=pv at hp ⊢;generalize (if c.2 = .decreasing then Hint.increasing else c.2)=hint;unfold RY;have s3:(if (wB&&wP&&Zq (hint = .increasing))=Zp then partialInsertionSort ltInt d2 a b else(d2,Zd)).1.size=d.size:=by
   split
   ·unfold partialInsertionSort;rw[qC,s2]
   ·exact s2
  generalize (if (wB&&wP&&Zq (hint = .increasing))=Zp then partialInsertionSort ltInt d2 a b else(d2,Zd))=pi at s3 ⊢;by_cases hpi:pi.2=Zp
  ·rw[Qa1 hpi];exact s3
  rw[Qa0 hpi,Ap hp.1 hp.2 (by omega)];have e:=nl hp.1 hp.2 (show b<=pi.1.size by omega);have p:=qi hp.1 hp.2 (show b<=pi.1.size by omega);generalize partitionEqual ltInt pi.1 a b pv=x at e ⊢;generalize partition ltInt pi.1 a b pv=y at p ⊢;split
  ·rw[ih _ _ _ _ _ _ (by omega) (by omega) (by omega)];omega
  ·have hL:=ih y.2.2 a y.1 l1 Zp Zp (by omega) (by omega) (by omega);have hR:=ih y.2.2 (y.1+1) b l1 Zp Zp (by omega) (by omega) (by omega);split
   ·rw[ih _ _ _ _ _ _ (by omega) (by omega) (by omega)];omega
   ·rw[ih _ _ _ _ _ _ (by omega) (by omega) (by omega)];omega
theorem pD(d:Array Int)(a b l:Nat):MR (back d) (a:Int) (b:Int) (l:Int)=back (pdq ltInt d a b l Zp Zp):=by
 simp only[MR,eo,Zj]
theorem Me(d:Array Int)(a b:Nat):x9 (back d) (a:Int) (b:Int)=back (insertionSort ltInt d a b):=by
 simp only[x9,eo,Zj]
theorem JE(d:Array Int)(a b:Nat):IA (back d) (a:Int) (b:Int)=back (heapSort ltInt d a b):=by
 simp only[IA,eo,Zj]
theorem G4(d:Array Int)(a b:Nat):Cw (back d) (a:Int) (b:Int)=back (breakPatterns d a b):=by
 simp only[Cw,eo,Zj]
theorem M0(d:Array Int)(a b:Nat):PJ (back d) (a:Int) (b:Int)=back (reverseRange d a b):=by
 simp only[PJ,eo,Zj]
theorem Ko(d:Array Int)(a b:Nat):FG (back d) (a:Int) (b:Int)=choosePivot ltInt d a b:=by
 simp only[FG,eo,Zj]
theorem FE(d:Array Int)(a b:Nat):vP (back d) (a:Int) (b:Int)=(back (partialInsertionSort ltInt d a b).1,(partialInsertionSort ltInt d a b).2):=by
 simp only[vP,eo,Zj]
theorem JH(h:Hint):(ER h==(2:Int))=Zq (h = .decreasing):=by cases h<;>rfl
theorem JI(h:Hint):(ER h==(1:Int))=Zq (h = .increasing):=by cases h<;>rfl
def AL(l:List AV)(k:Int):List AV:=xJ (l++[.int .u64 k])
def num(l:List AV)(i:Nat):Int:=match l.getD i .undef with | .int _ n=>n | _=>0
def Jh(l:List AV):Bool:=(List.range (l.length-1)).all fun i=>Zq (num l i<num l (i+1))
theorem Lh{d:Array Int}(h:Jh (back d)=Zp){i:Nat}(hi:i+1<d.size):d[i]! < d[i+1]! := by
 simp only[Jh,List.all_eq_true,List.mem_range,aT,Qa2] at h;have:=h i (by omega);simp only[num,nI hi,nI (show i<d.size by omega)] at this;exact this
theorem Qs{n:Nat}(h:n<=1000000000000):Go.Abs.room n 8=Zp:=by
 simp[Go.Abs.room];omega
theorem all_join{l:List AV}{k:Int}(h:dL l=Zp):dL (l++[.int .u64 k])=Zp:=by
 simp only[dL,List.all_append,Zn] at h ⊢;exact⟨h,rfl⟩
theorem Jc(l:List AV)(k:Int):∃ d,AL l k=back d:=⟨_,rfl⟩
theorem Lb{l:List AV}{k:Int}(h:dL l=Zp):(AL l k).length=l.length+1:=by
 unfold AL xJ Go.Sort.sort;rw[aT,rT _ _ _ _ _ _ _ (Nat.le_refl _) (by omega) (Nat.le_refl _)];simp[cF,la]
theorem H0(d:Array Int):xJ (back d)=back (pdq ltInt d 0 d.size (Go.Sort.bitsLen d.size) Zp Zp):=by
 unfold xJ Go.Sort.sort;rw[eo]
theorem KG(d:Array Int):MR (back d) (0:Int) (d.size:Int) (Go.Sort.bitsLen d.size:Int)=xJ (back d):=by
 rw[H0];exact pD d 0 d.size (Go.Sort.bitsLen d.size)
theorem RX{d:Array Int}(h:(d.size:Int)<=1152921504606846976):Go.Sort.bitsLen d.size<=64:=pT 64 (Nat.lt_of_le_of_lt (m:=1152921504606846976) (by omega) (by decide))
end Kerb
/- Chapter 22: what the reader of the reference reads. -/
namespace Kerb
open Go Go.Abs
end Kerb
