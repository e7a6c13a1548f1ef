/- What the functions compute, in plain words: no program here. -/
import Derived.Test.YteafbgcimcpfiaaGreatAbsStep
import Derived.Sort.AssemblyPlain
set_option linter.all false
open Go.IntKind renaming i64→Zz,wrap→Zy,u64→Zq,bits→Yz,signed→Yj
open Int renaming toNat→Zx,toNat_natCast→Zk,eq_ofNat_of_zero_le→Yu,tmod_eq_emod_of_nonneg→Yp,fdiv_eq_ediv_of_nonneg→Xz
open Bool renaming false→Zw,and_eq_true→Zp,true→Zf,not_eq_false→Zb,not_eq_true'→Zn
open Go.Abs.AV renaming int→Zv,ax→Zg,undef→Zh,aI→Yy,bool→Yd
open List renaming length→Zu,getD→Zd,getD_eq_getElem?_getD→Yk,set→Yf
open Decidable renaming decide→Zj
open Nat renaming blt→Zm,mod_eq_of_lt→Yv,pow_le_pow_right→Yb,two_pow_add_eq_or_of_lt→Yh
open Sum renaming inr→Yx,inl→Ym
open Go.Abs.Ex renaming exit→Yw
open Option renaming some→Yq
open UInt8 renaming ofNat→Yg
open Array renaming setIfInBounds→Yn,size_setIfInBounds→Xy
namespace Kerb
open Go.Abs in
abbrev Bytes:=List UInt8
def okB(bad:Bytes)(c:UInt8):Bool := !Zj (c.toNat<33) && !Zj (126<c.toNat) && !bad.contains c
def eR(s bad:Bytes):Bool:=s.all (okB bad)
def cl(s:Bytes):Bool:=Zj (s.length<=39)&&eR s [64]
def validName(s:Bytes):Bool := !s.isEmpty&&Zj (s.length<=39)&&eR s [46,64]
def dI(s:Bytes):Bool := !s.isEmpty&&cl s
structure bn where
 name:Bytes
 inst:Bytes
 aL:Bytes
def bn.valid(p:bn):Bool:=validName p.name&&cl p.inst&&dI p.aL
def within(n m:Int):Bool:=Zj (0<=n)&&Zj (n<=m)
def indexOf(c:UInt8):Bytes->Int
 | [] => -1
 | x::r=>if x==c then 0 else if indexOf c r<0 then -1 else indexOf c r+1
def eV(n:Int)(i:Nat):UInt8:=Yg ((n / 2 ^ (8*i)) % 256).toNat
def aK(n:Int)(k:Nat)(little:Bool):Bytes:=cond little ((List.range k).map (eV n)) ((List.range k).map fun i=>eV n (k-1-i))
def bw(b s:Bytes):Bytes:=b++s++[0]
def cO(b:Bytes)(p:bn):Bytes:=bw (bw (bw b p.name) p.inst) p.aL
def room(b:Bytes)(pos n:Int):Int :=
 if pos<0\/(b.length:Int)<pos\/n<0 then 104 else if (b.length:Int)-pos<n then 101 else 0
def jG(l:Bytes):Int:=l.foldl (fun n c=>n*256+c.toNat) 0
def cut(b:Bytes)(pos n:Int):Bytes:=(b.drop pos.toNat).take n.toNat
structure Got where
 val:Int
 next:Int
 err:Int
def get(b:Bytes)(pos k:Int)(little:Bool):Got :=
 if room b pos k=0 then⟨jG (cond little (cut b pos k).reverse (cut b pos k)),pos+k,0⟩ else⟨0,0,room b pos k⟩
structure my where
 val:Bytes
 next:Int
 err:Int
def bytes(b:Bytes)(pos n:Int):my :=
 if room b pos n=0 then⟨cut b pos n,pos+n,0⟩ else⟨[],0,room b pos n⟩
def text(b:Bytes)(pos:Int):my :=
 if room b pos 0=0 then
  if 0<=indexOf 0 ((b.drop pos.toNat).take 40) then⟨((b.drop pos.toNat).take 40).take (indexOf 0 ((b.drop pos.toNat).take 40)).toNat,pos+indexOf 0 ((b.drop pos.toNat).take 40)+1,0⟩
  else if ((b.drop pos.toNat).take 40).length=40 then⟨[],0,105⟩ else⟨[],0,101⟩
 else⟨[],0,104⟩
structure Vs where
 val:bn
 next:Int
 err:Int
def dx:bn:=⟨[],[],[]⟩
def gF(b:Bytes)(pos:Int):Vs :=
 if (text b pos).err≠0 then⟨dx,0,(text b pos).err⟩
 else if (text b (text b pos).next).err≠0 then⟨dx,0,(text b (text b pos).next).err⟩
 else if (text b (text b (text b pos).next).next).err≠0 then⟨dx,0,(text b (text b (text b pos).next).next).err⟩
 else if bn.valid ⟨(text b pos).val,(text b (text b pos).next).val,(text b (text b (text b pos).next).next).val⟩ then
  ⟨⟨(text b pos).val,(text b (text b pos).next).val,(text b (text b (text b pos).next).next).val⟩,(text b (text b (text b pos).next).next).next,0⟩
 else⟨dx,0,103⟩
def isKind(k:Int):Bool:=Zj (1<=k)&&Zj (k<=10)
def header(k:Int)(little:Bool):Bytes:=cond (isKind k) [4,Yg (2*k.toNat+cond little 1 0)] []
structure Head where
 kind:Int
 little:Bool
 err:Int
def bg(b:Bytes):Head :=
 if b.length<2 then⟨0,Zw,101⟩ else if b.getD 0 0≠4 then⟨0,Zw,39⟩
 else if isKind ((b.getD 1 0).toNat / 2:Nat) then⟨((b.getD 1 0).toNat / 2:Nat),Zj ((b.getD 1 0).toNat % 2=1),0⟩ else⟨0,Zw,40⟩
structure j7 where
 little:Bool
 client:bn
 time:Int
 bL:Int
 service:Bytes
 inst:Bytes
structure kP where
 val:Bytes
 err:Int
def qB(r:j7):kP :=
 if !(r.client.valid&&validName r.service&&cl r.inst) then⟨[],103⟩
 else if !(within r.time 4294967295&&within r.bL 255) then⟨[],104⟩
 else⟨bw (bw (cO (header 1 r.little) r.client++aK r.time 4 r.little++aK r.bL 1 Zw) r.service) r.inst,0⟩
def aN(b:Bytes)(kinds:List Int):Bool×Int :=
 if (bg b).err≠0 then(Zw,(bg b).err) else if kinds.contains (bg b).kind then((bg b).little,0) else(Zw,40)
structure S1 where
 val:j7
 err:Int
def SK:j7:=⟨false,dx,0,0,[],[]⟩
def um(b:Bytes):j7 :=
 let li:=(aN b [1]).1
 let p:=gF b 2
 let t:=get b p.next 4 li
 let l:=get b t.next 1 Zw
 let s:=text b l.next
 ⟨li,p.val,t.val,l.val,s.val,(text b s.next).val⟩
def gO(b:Bytes):S1 :=
 if (aN b [1]).2≠0 then⟨SK,(aN b [1]).2⟩
 else if (qB (um b)).err≠0\/(qB (um b)).val≠b then⟨SK,100⟩
 else⟨um b,0⟩
def aL(n:Int):Bytes:=if n % 3=0 then[65,84,72] else if n % 3=1 then[66,79,83] else[67,65,77]
def user(n:Int):bn:=⟨if n % 3=0 then[97,110,110] else if n % 3=1 then[98,111,98] else[99,97,116],[],aL (n / 3)⟩
def service(n:Int):bn:=if n % 3=0 then⟨[109,97,105,108],[],aL (n / 3)⟩ else if n % 3=1 then⟨[110,102,115],[104,111,109,101],aL (n / 3)⟩ else⟨[107,114,98,116,103,116],[65,84,72],aL (n / 3)⟩
def ay(n:Int):Int:=Go.IntKind.wrap .u64 ((BitVec.ofInt (Go.IntKind.bits .u64) 144115188075855872 ||| BitVec.ofInt (Go.IntKind.bits .u64) (Go.IntKind.wrap .u64 (Go.IntKind.wrap .i64 (1+n)))).toNat:Int)
def next(l:Bytes)(pos n:Int):Int:=if (l.length:Int)<=pos\/n<=0 then 0 else((l.getD pos.toNat 0).toNat:Int) % n
def dN(l:Bytes)(pos n:Int):Int:=((if (l.length:Int)<=pos\/n<=0 then pos else pos+1).toNat:Int)
structure dQ where
 little:Bool
 client:bn
 address:Int
 ay:Int
 bL:Int
 cG:Int
 service:Bytes
 inst:Bytes
def fZ(n:Int):bn:=⟨List.replicate (if n=0 then 39 else 38) 110,List.replicate (if n=0 then 39 else 38) 110,List.replicate (if n=0 then 39 else 38) 110⟩
def tp1(l:Bytes):Int:=dN l 0 2
def tp2(l:Bytes):Int:=dN l (tp1 l) 9
def tp3(l:Bytes):Int:=dN l (tp2 l) 9
def tp4(l:Bytes):Int:=dN l (tp3 l) 256
def tp5(l:Bytes):Int:=dN l (tp4 l) 200
def tp6(l:Bytes):Int:=dN l (tp5 l) 256
def ZF(l:Bytes):Int:=dN l (tp6 l) 256
def SW(l:Bytes):Int:=dN l (ZF l) 9
def YM(l:Bytes):Int:=dN l (SW l) 7
def YL(l:Bytes):Int:=dN l (YM l) 3
def US(l:Bytes):Int:=dN l (YL l) 3
def tq(l:Bytes):Int:=cond (next l (SW l) 7==6) (US l) (YM l)
def aH(l:Bytes):dQ :=
  { little:=next l 0 2==1
    client:=cond (next l (tq l) 9==8) (fZ (next l (dN l (tq l) 9) 2)) (user (next l (tp1 l) 9))
    address:=cond (next l (SW l) 7==6) (Go.IntKind.wrap .i64 (4294967295-next l (YM l) 3)) (next l (tp4 l) 200)
    ay:=ay (next l (tp2 l) 9)
    bL:=next l (tp3 l) 256
    cG:=cond (next l (SW l) 7==6) (Go.IntKind.wrap .i64 (4294967295-next l (YL l) 3)) (Go.IntKind.wrap .i64 (Go.IntKind.wrap .i64 (next l (tp5 l) 256*150)+next l (tp6 l) 256))
    service:=cond (next l (tq l) 9==8) (fZ 0).name (Kerb.service (next l (ZF l) 9)).name
    inst:=cond (next l (tq l) 9==8) (fZ 0).inst (Kerb.service (next l (ZF l) 9)).inst }
def mU(k:Int):Int:=k / 72057594037927936
def mb(k:Int):Int:=k % 72057594037927936
def oS(c:Int):Bool:=c==1||c==2
def mR(n:Int):Bool:=Zj (1<=n)&&Zj (n<=4294967295)
def bA(k:Int):Bool:=oS (mU k)&&mR (mb k)
def keyBytes(k:Int):Bytes:=(List.range 8).map fun i=>eV k (7-i)
def cF(b:Bytes):Int×Bool:=if b.length=8/\bA (jG b)=Zf then(jG b,Zf) else(0,Zw)
def pad(b:Bytes):Bytes:=b++List.replicate ((8-b.length % 8) % 8) 0
structure jy where
 little:Bool
 client:bn
 time:Int
 cE:Int
 br:Int
 cD:Bytes
def bc(r:jy):kP :=
 if !r.client.valid then⟨[],103⟩
 else if !(within r.time 4294967295&&within r.cE 4294967295&&within r.br 255) then⟨[],104⟩
 else if 1012<r.cD.length then⟨[],105⟩
 else⟨cO (header 2 r.little) r.client++aK r.time 4 r.little++aK 1 1 Zw++aK r.cE 4 r.little++aK r.br 1 Zw++aK r.cD.length 2 r.little++r.cD,0⟩
structure Nr where
 val:jy
 err:Int
def Ff:jy:=⟨false,dx,0,0,0,[]⟩
def ji(b:Bytes):jy :=
 let li:=(aN b [2]).1
 let p:=gF b 2
 let t:=get b p.next 4 li
 let o:=get b t.next 1 Zw
 let e:=get b o.next 4 li
 let k:=get b e.next 1 Zw
 let n:=get b k.next 2 li
 ⟨li,p.val,t.val,e.val,k.val,(bytes b n.next n.val).val⟩
def bj(b:Bytes):Nr :=
 if (aN b [2]).2≠0 then⟨Ff,(aN b [2]).2⟩
 else if (bc (ji b)).err≠0\/(bc (ji b)).val≠b then⟨Ff,100⟩
 else⟨ji b,0⟩
structure fO where
 ay:Int
 service:bn
 bL:Int
 br:Int
 aH:Bytes
 time:Int
def bp(p:fO)(little:Bool):kP :=
 if !bA p.ay then⟨[],10⟩
 else if !p.service.valid then⟨[],103⟩
 else if !(within p.bL 255&&within p.br 255&&within p.time 4294967295) then⟨[],104⟩
 else if 255<p.aH.length then⟨[],105⟩
 else⟨pad (cO (aK (cond little 1 0) 1 Zw++keyBytes p.ay) p.service++aK p.bL 1 Zw++aK p.br 1 Zw++aK p.aH.length 1 Zw++p.aH++aK p.time 4 little),0⟩
structure Kx where
 val:fO
 err:Int
def sk:fO:=⟨0,dx,0,0,[],0⟩
def jh(b:Bytes)(little:Bool):fO :=
 let raw:=bytes b 1 8
 let p:=gF b raw.next
 let l:=get b p.next 1 Zw
 let k:=get b l.next 1 Zw
 let n:=get b k.next 1 Zw
 let t:=bytes b n.next n.val
 ⟨(cF raw.val).1,p.val,l.val,k.val,t.val,(get b t.next 4 little).val⟩
def bt(b:Bytes)(little:Bool):Kx :=
 if (bp (jh b little) little).err≠0\/(bp (jh b little) little).val≠b then⟨sk,100⟩
 else⟨jh b little,0⟩
structure rN where
 little:Bool
 client:bn
 time:Int
 code:Int
 text:Bytes
def qh(r:rN):kP :=
 if !r.client.valid then⟨[],103⟩
 else if !(within r.time 4294967295&&Zj (1<=r.code)&&Zj (r.code<=99)) then⟨[],104⟩
 else if 39<r.text.length then⟨[],105⟩
 else if 0∈r.text then⟨[],100⟩
 else⟨bw (cO (header 5 r.little) r.client++aK r.time 4 r.little++aK r.code 4 r.little) r.text,0⟩
structure S0 where
 val:rN
 err:Int
def SJ:rN:=⟨false,dx,0,0,[]⟩
def zg(b:Bytes):rN :=
 let li:=(aN b [5]).1
 let p:=gF b 2
 let t:=get b p.next 4 li
 let c:=get b t.next 4 li
 ⟨li,p.val,t.val,c.val,(text b c.next).val⟩
def tF(b:Bytes):S0 :=
 if (aN b [5]).2≠0 then⟨SJ,(aN b [5]).2⟩
 else if (qh (zg b)).err≠0\/(qh (zg b)).val≠b then⟨SJ,100⟩
 else⟨zg b,0⟩
structure UZ where
 p:bn
 pos:Int
 bad:Bool
def dH(b:Bytes)(pos:Int)(bad:Bool):UZ :=
 let a:=text b pos
 let p1:=cond (bad || !(a.err==0)) pos a.next
 let b1:=bad || !(a.err==0)
 let c:=text b p1
 let p2:=cond (b1 || !(c.err==0)) p1 c.next
 let b2:=b1 || !(c.err==0)
 let d:=text b p2
 ⟨⟨a.val,c.val,d.val⟩,cond (b2 || !(d.err==0)) p2 d.next,b2 || !(d.err==0)⟩
def o8(b:Bytes)(how:Int):Int:=Int.tmod (Go.IntKind.wrap .i64 (Go.IntKind.wrap .u16 (Int.tdiv how 8))) (b.length:Int)
def sY(b:Bytes)(how:Int):Bytes :=
 if b=[] then[] else
 if Int.tmod how 4=0 then b.set (o8 b how).toNat (Yg (Zx (Go.IntKind.wrap .u8 ((BitVec.ofInt (Go.IntKind.bits .u8) ((b.getD (o8 b how).toNat 0).toNat:Int) ^^^ BitVec.ofInt (Go.IntKind.bits .u8) ((Yg (Zx (Go.IntKind.wrap .u8 (((1:UInt8).toNat:Int)*(2:Int) ^ min (Zx (Go.IntKind.wrap .u64 (Int.tmod how 7))) 8)))).toNat:Int)).toNat:Int))))
 else if Int.tmod how 4=1 then b.take (o8 b how).toNat++b.drop (Zx (Go.IntKind.wrap .i64 (o8 b how+1)))
 else if Int.tmod how 4=2 then b++[Yg (Zx (Go.IntKind.wrap .u8 how))]
 else b
def texts:List Bytes:=[[99,108,105,101,110,116,32,101,120,112,105,114,101,100],[115,101,114,118,105,99,101,32,101,120,112,105,114,101,100],[110,111,32,108,105,102,101,116,105,109,101,32,108,101,102,116],[112,114,111,116,111,99,111,108,32,118,101,114,115,105,111,110],[110,111,116,32,97,32,99,108,105,101,110,116],[110,111,116,32,97,32,115,101,114,118,105,99,101],[98,121,116,101,32,111,114,100,101,114],[112,114,105,110,99,105,112,97,108,32,117,110,107,110,111,119,110],[112,114,105,110,99,105,112,97,108,32,110,111,116,32,117,110,105,113,117,101],[110,111,32,107,101,121]]
def refused:Bytes:=[114,101,113,117,101,115,116,32,114,101,102,117,115,101,100]
def message(code:Int):Bytes:=if code<1\/10<code then refused else texts.getD (code-1).toNat []
structure Rd (α:Type) where
 val:α
 pos:Int
 bad:Bool
def dE(b:Bytes)(k:Int)(li:Bool)(pos:Int)(bad:Bool):Rd Int:=⟨(get b pos k li).val,cond (bad || !((get b pos k li).err==0)) pos (get b pos k li).next,bad || !((get b pos k li).err==0)⟩
def nk(b:Bytes)(pos:Int)(bad:Bool):Rd Bytes:=⟨(text b pos).val,cond (bad || !((text b pos).err==0)) pos (text b pos).next,bad || !((text b pos).err==0)⟩
def df(b:Bytes)(n:Int)(pos:Int)(bad:Bool):Rd Bytes:=⟨(bytes b pos n).val,cond (bad || !((bytes b pos n).err==0)) pos (bytes b pos n).next,bad || !((bytes b pos n).err==0)⟩
def jT(b:Bytes):Rd jy :=
 let li:=(aN b [2]).1
 let p:=dH b 2 Zw
 let t:=dE b 4 li p.pos p.bad
 let o:=dE b 1 Zw t.pos t.bad
 let e:=dE b 4 li o.pos o.bad
 let k:=dE b 1 Zw e.pos e.bad
 let n:=dE b 2 li k.pos k.bad
 let s:=df b n.val n.pos n.bad
 ⟨⟨li,p.p,t.val,e.val,k.val,s.val⟩,s.pos,s.bad⟩
def ll(b:Bytes)(little:Bool):Rd fO :=
 let o:=dE b 1 Zw 0 Zw
 let raw:=df b 8 o.pos o.bad
 let p:=dH b raw.pos raw.bad
 let l:=dE b 1 Zw p.pos p.bad
 let k:=dE b 1 Zw l.pos l.bad
 let n:=dE b 1 Zw k.pos k.bad
 let t:=df b n.val n.pos n.bad
 let m:=dE b 4 little t.pos t.bad
 ⟨⟨(cF raw.val).1,p.p,l.val,k.val,t.val,m.val⟩,m.pos,m.bad⟩
end Kerb
/- Plain facts on what the functions compute. -/
namespace Kerb
open Go Go.Abs
theorem cu{n:Nat}(h:n<=140737488355328):Go.Abs.room n 1=Zf:=by
 simp[Go.Abs.room];omega
theorem n6{s:Bytes}{i:Nat}(h:i<s.length):s.drop i=s.getD i 0::s.drop (i+1):=by
 rw[List.drop_eq_getElem_cons h];simp[h]
theorem pI(c:UInt8):∀ l:Bytes,(0<=indexOf c l)↔c∈l
 | []=>by simp[indexOf]
 | x::r=>by
  have ih:=pI c r;unfold indexOf;by_cases h:x=c
  ·subst h;simp
  ·have h1:(x==c)=Zw:=by simpa using h
   rw[h1,List.mem_cons,<-ih];have h3:¬ c=x:=fun e=>h e.symm;simp only[Bool.false_eq_true,if_false,h3,false_or];split<;>omega
theorem Ef(l:Bytes)(c:UInt8):jG (l++[c])=jG l*256+c.toNat:=by simp[jG]
theorem vh{l:Bytes}{i:Nat}(h:i<l.length):jG (l.take (i+1))=jG (l.take i)*256+(l.getD i 0).toNat:=by
 rw[List.take_succ_eq_append_getElem h,Ef];simp[h]
theorem Ct(l:Bytes):∃ m:Nat,jG l=m/\m<256 ^ l.length:=by
 have key:∀ (n:Nat) (l:Bytes),l.length=n->∃ m:Nat,jG l=m/\m<256 ^ n:=by
  intro n;induction n with
  | zero=>intro l h;have:=List.eq_nil_of_length_eq_zero h;subst this;exact⟨0,rfl,by simp⟩
  | succ n ih =>
   intro l h;have hU:l≠[]:=fun e=>by subst e;simp at h
   obtain⟨m,h1,h2⟩:=ih l.dropLast (by simp[h]);refine⟨m*256+(l.getLast hU).toNat,?_,?_⟩
   ·have e:=List.dropLast_concat_getLast hU;rw[<-Qb5 jG e,Ef,h1];omega
   ·have:=(l.getLast hU).toNat_lt;rw[Nat.pow_succ];omega
 exact key _ l rfl
theorem FQ{l:Bytes}(h:l.length<=4):0<=jG l/\jG l<4294967296:=by
 obtain⟨m,h1,h2⟩:=Ct l;have:256 ^ l.length<=256 ^ 4:=Yb (by omega) h;rw[h1];omega
theorem An{n:Int}(c:UInt8)(h0:0<=n)(h1:n<1099511627776):Zy .i64 ((BitVec.ofInt (Yz .i64) (Zy .i64 (n*2 ^ min (Zx 8) (Yz .i64))) ||| BitVec.ofInt (Yz .i64) (Zy .i64 (c.toNat:Int))).toNat:Int)=n*256+c.toNat:=by
 obtain⟨m,rfl⟩:=Yu h0;have hc:=c.toNat_lt;have e1:((m:Int)*2 ^ min (Zx 8) (Yz .i64))=((2 ^ 8*m:Nat):Int):=by
  have:min (Zx 8) (Yz .i64)=8:=by decide
  rw[this];omega
 rw[e1,wrap_i64 (n:=((2 ^ 8*m:Nat):Int)) (by omega) (by omega),wrap_i64 (n:=(c.toNat:Int)) (by omega) (by omega)];have hb:Yz .i64=64:=rfl;rw[hb];have e2:(BitVec.ofInt 64 ((2 ^ 8*m:Nat):Int) ||| BitVec.ofInt 64 ((c.toNat:Nat):Int)).toNat=2 ^ 8*m+c.toNat:=by
  rw[BitVec.ofInt_natCast,BitVec.ofInt_natCast,BitVec.toNat_or,BitVec.toNat_ofNat,BitVec.toNat_ofNat,Yv (by omega),Yv (by omega)];exact(Yh hc m).symm
 rw[e2,wrap_i64 (by omega) (by omega)];omega
theorem ii{b:Bytes}{pos n:Int}:room b pos n=0↔0<=pos/\pos<=b.length/\0<=n/\n<=b.length-pos:=by
 unfold room;split
 ·omega
 ·split<;>omega
theorem iS{b:Bytes}{pos n:Int}(h:room b pos n=0):(cut b pos n).length=n.toNat:=by
 obtain⟨h1,h2,h3,h4⟩:=ii.1 h;simp[cut];omega
theorem xq{l:Bytes}{i:Nat}(h:i<l.length):l.reverse.getD i 0=l.getD (l.length-1-i) 0:=by
 simp[Yk,List.getElem?_reverse h]
theorem Gq{b:Bytes}{pos n:Int}{i:Nat}(h:i<n.toNat):(cut b pos n).getD i 0=b.getD (pos.toNat+i) 0:=by
 simp[cut,Yk,h]
def vp(n:Int)(m:Nat):UInt8:=Yg (Zx (Zy .u8 (Int.fdiv n (2 ^ m))))
theorem wrap_u8(x:Int):Zy .u8 x=x % 256:=by
 simp[Zy,Yj,Yz]
theorem wrap_u64(x:Int):Zy .u64 x=x % 18446744073709551616:=by
 simp[Zy,Yj,Yz]
theorem tv(n:Int)(m:Nat):vp n m=Yg ((n / 2 ^ m) % 256).toNat:=by grind [wrap_u8,vp]
theorem SY(n:Int){i:Nat}(h:i<4):Yg (Zx (Zy .u8 (Int.fdiv (Zy .u64 n) (2 ^ (8*i)))))=eV n i:=by
 unfold eV;rw[wrap_u8,wrap_u64,Xz _ (Int.le_of_lt (Int.pow_pos (by omega)))];have h4:i=0\/i=1\/i=2\/i=3:=by omega
 have e:n % 18446744073709551616 / 2 ^ (8*i) % 256=n / 2 ^ (8*i) % 256:=by
  rcases h4 with rfl | rfl | rfl | rfl<;>simp<;>omega
 rw[e]
theorem ah(n:Int)(k:Nat)(l:Bool):(aK n k l).length=k:=by cases l<;>simp[aK]
theorem MI(n:Int)(k:Nat)(l:Bool){i:Nat}(h:i<k):(aK n k l).getD i 0=eV n (cond l i (k-1-i)):=by
 cases l<;>simp[aK,Yk,h]
theorem uN{l:Bytes}{i:Nat}(h:i<l.length):l.take (i+1)=l.take i++[l.getD i 0]:=by
 rw[List.take_succ_eq_append_getElem h];simp[h]
theorem AB:∀ {els:List AV} {i:Nat},Rj els=Zf->i<els.length->∃ l,els.getD i .undef = .bs l/\tA (els.take (i+1))=tA (els.take i)++l/\(tA (els.take i)).length+l.length<=(tA els).length
 | [],i,_,h=>by simp at h
 | x::r,i,ha,h=>by
  cases x<;>simp only[Rj] at ha<;>try (cases ha;done)
  rename_i l;cases i with
  | zero=>exact⟨l,by simp,by simp[tA],by simp[tA]⟩
  | succ i =>
   obtain⟨l',h1,h2,h3⟩:=AB (i:=i) ha (by simpa using h);refine⟨l',by simpa using h1,?_,?_⟩
   ·simp only[List.take_succ_cons,tA] at h2 ⊢;rw[h2,List.append_assoc]
   ·simp only[List.take_succ_cons,tA,List.length_append];omega
theorem wL{x:AV}{r:List AV}(h:oL (x::r)=Zf):∃ n,x = .int .i64 n/\oL r=Zf:=by
 unfold oL at h;split at h
 ·rename_i he;cases he
 ·rename_i he;cases he;exact⟨_,rfl,h⟩
 ·cases h
theorem A':∀ {els:List AV} {i:Nat},oL els=Zf->i<els.length->∃ n,els.getD i .undef = .int .i64 n/\(iH els).drop i=n::(iH els).drop (i+1)
 | [],i,_,h=>by simp at h
 | x::r,i,ha,h=>by
  obtain⟨n,rfl,Q5⟩:=wL ha;cases i with
  | zero=>exact⟨n,by simp,by simp[iH]⟩
  | succ i =>
   obtain⟨m,h1,h2⟩:=A' (i:=i) Q5 (by simpa using h);exact⟨m,by simpa using h1,by simpa [iH] using h2⟩
theorem Ba:∀ {els:List AV},oL els=Zf->(iH els).length=els.length
 | [],_=>rfl
 | x::r,ha=>by
  obtain⟨n,rfl,Q5⟩:=wL ha;simp[iH,Ba Q5]
theorem A7(c:UInt8):∀ l:Bytes,-1<=indexOf c l/\(0<=indexOf c l->indexOf c l<l.length)/\indexOf c l<=l.length
 | []=>by simp[indexOf]
 | x::r=>by
  have ih:=A7 c r;unfold indexOf;simp only[List.length_cons];split
  ·omega
  ·split<;>omega
theorem gQ{s:Bytes}(h:cl s=Zf):s.length<=39:=by
 simp only[cl,Zp,Qa2] at h;exact h.1
theorem h_{s:Bytes}(h:validName s=Zf):s.length<=39:=by
 simp only[validName,Zp,Qa2] at h;exact h.1.2
theorem gf{s:Bytes}(h:dI s=Zf):s.length<=39:=by
 simp only[dI,Zp] at h;exact gQ h.2
theorem cN{p:bn}(h:p.valid=Zf):p.name.length<=39/\p.inst.length<=39/\p.aL.length<=39:=by
 simp only[bn.valid,Zp] at h;exact⟨h_ h.1.1,gQ h.1.2,gf h.2⟩
theorem km(k:Int)(l:Bool):(header k l).length<=2:=by
 unfold header;cases isKind k<;>simp
theorem bX(b s:Bytes):(bw b s).length=b.length+s.length+1:=by simp[bw];omega
theorem aq(b:Bytes)(p:bn):(cO b p).length=b.length+p.name.length+p.inst.length+p.aL.length+3:=by
 simp[cO,bX];omega
theorem fS(b:Bytes)(pos:Int):(text b pos).val.length<=40:=by
 unfold text;split
 ·split
  ·simp;omega
  ·split<;>simp
 ·simp
theorem pR(b:Bytes)(pos:Int):(gF b pos).val.name.length<=40/\(gF b pos).val.inst.length<=40/\(gF b pos).val.aL.length<=40:=by
 unfold gF;split
 ·simp[dx]
 split
 ·simp[dx]
 split
 ·simp[dx]
 split
 ·exact⟨fS _ _,fS _ _,fS _ _⟩
 ·simp[dx]
theorem Ai(l:Bytes)(p n:Int):0<=next l p n/\next l p n<=255/\(0<n->next l p n<n):=by
 unfold next
 have hb:=(l.getD p.toNat 0).toNat_lt;split
 ·omega
 ·have h0:0<n:=by omega
  have h1:=Int.emod_nonneg ((l.getD p.toNat 0).toNat:Int) (by omega:n≠0);have h2:=Int.emod_lt_of_pos ((l.getD p.toNat 0).toNat:Int) h0;have h3:((l.getD p.toNat 0).toNat:Int) % n<=((l.getD p.toNat 0).toNat:Int):=by
   rcases Int.lt_or_le ((l.getD p.toNat 0).toNat:Int) n with h | h
   ·rw[Int.emod_eq_of_lt (by omega) h];omega
   ·omega
  omega
theorem Ho(l:Bytes)(p n:Int):Zj ((0:Int)<=dN l p n)=Zf:=Qa4 (Int.natCast_nonneg _)
theorem Hp(l:Bytes)(p n:Int):Zj ((0:Int)<=next l p n)=Zf:=by simpa using (Ai l p n).1
theorem Bs(l:Bytes)(p n:Int):Zj (next l p n<=4611686018427387904)=Zf:=by have:=(Ai l p n).2.1;simp;omega
theorem Fa(l:Bytes)(p n:Int):Zj (next l p n<=1000)=Zf:=by have:=(Ai l p n).2.1;simp;omega
theorem Mq(l:Bytes)(p:Int):Zj (next l p 2<=1)=Zf:=by have:=(Ai l p 2).2.2 (by omega);simp;omega
theorem zF(n:Int):(fZ n).name.length<=39/\(fZ n).inst.length<=39/\(fZ n).aL.length<=39:=by
 unfold fZ;by_cases h:n=0<;>simp[h]
theorem zi(n:Int):(aL n).length=3:=by
 unfold aL;split
 ·rfl
 ·split<;>rfl
theorem yt(n:Int):(user n).name.length<=39/\(user n).inst.length<=39/\(user n).aL.length<=39:=by grind [user,zi]
theorem zQ(n:Int):(service n).name.length<=39/\(service n).inst.length<=39/\(service n).aL.length<=39:=by
 unfold service;split
 ·simp[zi]
 ·split<;>simp[zi]
theorem Cn(l:Bytes):(aH l).client.name.length<=39/\(aH l).client.inst.length<=39/\(aH l).client.aL.length<=39/\(aH l).service.length<=39/\(aH l).inst.length<=39:=by
 simp only[aH];cases next l (tq l) 9==8<;>simp only[Qa6,Qa7]
 ·have h1:=yt (next l (tp1 l) 9);have h2:=zQ (next l (ZF l) 9);omega
 ·have h1:=zF (next l (dN l (tq l) 9) 2);have h2:=zF 0;omega
theorem pH{c:UInt8}:∀ {s q:Bytes},c ∉ s->indexOf c (s++c::q)=s.length
 | [],q,_=>by simp[indexOf]
 | x::s,q,h=>by
  have hx:(x==c)=Zw:=by
   have:x≠c:=fun e=>h (by simp[e]);simpa using this
  have ih:=pH (q:=q) (c:=c) (s:=s) fun hm=>h (by simp[hm]);simp only[List.cons_append,indexOf,hx,Bool.false_eq_true,if_false,ih,List.length_cons];rw[Qa0 (by omega)];omega
theorem Ap{b pre s post:Bytes}{pos:Int}(hb:b=pre++(s++0::post))(hp:pos=pre.length)(hs:s.length<=39)(h0:(0:UInt8) ∉ s):text b pos=⟨s,pos+s.length+1,0⟩:=by
 have hr:room b pos 0=0:=ii.2 (by subst hb;simp;omega);have hd:b.drop pos.toNat=s++0::post:=by subst hb;subst hp;simp
 have ht:(s++0::post).take 40=s++0::post.take (39-s.length):=by
  rw[List.take_append,List.take_of_length_le (by omega),show 40-s.length=(39-s.length)+1 by omega,List.take_succ_cons]
 unfold text;rw[Qa1 hr,hd,ht,pH h0,Qa1 (by omega)];simp
theorem Ak{s bad:Bytes}(h:eR s bad=Zf):(0:UInt8) ∉ s:=by
 intro hm;have:=List.all_eq_true.1 h 0 hm;simp[okB] at this
theorem nr{s:Bytes}(h:cl s=Zf):(0:UInt8) ∉ s:=by
 simp only[cl,Zp] at h;exact Ak h.2
theorem pZ{s:Bytes}(h:validName s=Zf):(0:UInt8) ∉ s:=by
 simp only[validName,Zp] at h;exact Ak h.2
theorem oF{s:Bytes}(h:dI s=Zf):(0:UInt8) ∉ s:=by
 simp only[dI,Zp] at h;exact nr h.2
theorem x4{b pre post:Bytes}{p:bn}{pos:Int}(hb:b=pre++(p.name++0::(p.inst++0::(p.aL++0::post))))(hp:pos=pre.length)(hv:p.valid=Zf) :
  gF b pos=⟨p,pos+p.name.length+p.inst.length+p.aL.length+3,0⟩:=by
 have hl:=cN hv;have A4:=hv;simp only[bn.valid,Zp] at A4;have h1:=Ap hb hp hl.1 (pZ A4.1.1);have h2:=Ap (b:=b) (pre:=pre++(p.name++[0])) (s:=p.inst) (post:=p.aL++0::post) (pos:=pos+p.name.length+1) (by rw[hb];simp) (by rw[hp];simp;omega) hl.2.1 (nr A4.1.2);have h3:=Ap (b:=b) (pre:=pre++(p.name++[0])++(p.inst++[0])) (s:=p.aL) (post:=post) (pos:=pos+p.name.length+1+p.inst.length+1) (by rw[hb];simp) (by rw[hp];simp;omega) hl.2.2 (oF A4.2);unfold gF;simp only[h1,h2,h3];have e:bn.mk p.name p.inst p.aL=p:=rfl;simp only[e,hv,ne_eq,not_true_eq_false,if_false,if_true];congr 1;omega
theorem pr(n:Int)(i:Nat):((eV n i).toNat:Int)=n / 2 ^ (8*i) % 256:=by
 unfold eV;have h1:=Int.emod_nonneg (n / 2 ^ (8*i)) (by omega:(256:Int)≠0);have h2:=Int.emod_lt_of_pos (n / 2 ^ (8*i)) (by omega:(0:Int)<256);rw[UInt8.toNat_ofNat_of_lt' (by show _<256;omega)];omega
theorem Sj{n:Int}{k:Nat}{little:Bool}(hk:k=1\/k=2\/k=4)(h0:0<=n)(h1:n<256 ^ k):jG (cond little (aK n k little).reverse (aK n k little))=n:=by
 have e0:=pr n 0;have e1:=pr n 1;have e2:=pr n 2;have e3:=pr n 3;simp only[Nat.mul_zero,Nat.mul_one,Int.pow_zero,Int.ediv_one] at e0 e1 e2 e3;rcases hk with rfl | rfl | rfl
 ·have hv:jG (cond little (aK n 1 little).reverse (aK n 1 little))=((eV n 0).toNat:Int):=by cases little<;>simp[aK,jG,List.range_succ]
  rw[hv,e0];simp at h1;omega
 ·have hv:jG (cond little (aK n 2 little).reverse (aK n 2 little))=((eV n 1).toNat:Int)*256+((eV n 0).toNat:Int):=by cases little<;>simp[aK,jG,List.range_succ]
  rw[hv,e0,e1];simp at h1 ⊢;omega
 ·have hv:jG (cond little (aK n 4 little).reverse (aK n 4 little))=((((eV n 3).toNat:Int)*256+((eV n 2).toNat:Int))*256+((eV n 1).toNat:Int))*256+((eV n 0).toNat:Int):=by cases little<;>simp[aK,jG,List.range_succ]
  rw[hv,e0,e1,e2,e3];simp at h1 ⊢;omega
theorem get_at{b pre post:Bytes}{pos n:Int}{k:Nat}{little:Bool}(hb:b=pre++(aK n k little++post))(hp:pos=pre.length)(hk:k=1\/k=2\/k=4)(h0:0<=n)(h1:n<256 ^ k) :
  get b pos k little=⟨n,pos+k,0⟩:=by
 have hl:=ah n k little;have hr:room b pos k=0:=ii.2 (by subst hb;simp[hl];omega);have hc:cut b pos k=aK n k little:=by
  subst hb;subst hp;simp only[cut,Zk,List.drop_left];rw[List.take_append_of_le_length (by omega),List.take_of_length_le (by omega)]
 unfold get;rw[Qa1 hr,hc,Sj hk h0 h1]
theorem C1(c:UInt8)(post:Bytes):bg (4::c::post)=if isKind (c.toNat / 2:Nat) then⟨(c.toNat / 2:Nat),Zj (c.toNat % 2=1),0⟩ else⟨0,Zw,40⟩:=by
 unfold bg;rw[Qa0 (by simp),Qa0 (by simp)];rfl
theorem zx{k:Int}(h1:1<=k)(h2:k<=10)(little:Bool)(post:Bytes):bg (header k little++post)=⟨k,little,0⟩:=by
 have hk:k=1\/k=2\/k=3\/k=4\/k=5\/k=6\/k=7\/k=8\/k=9\/k=10:=by omega
 rcases hk with rfl | rfl | rfl | rfl | rfl | rfl | rfl | rfl | rfl | rfl<;>cases little<;>exact C1 _ post
theorem Dq{k:Int}(h1:1<=k)(h2:k<=10)(little:Bool)(post:Bytes):aN (header k little++post) [k]=(little,0):=by
 unfold aN;rw[zx h1 h2];simp
theorem zw{k:Int}(h1:1<=k)(h2:k<=10)(little:Bool):(header k little).length=2:=by
 have:isKind k=Zf:=by simp[isKind,h1,h2]
 simp[header,this]
theorem pu{b pre s post:Bytes}{pos n:Int}(hb:b=pre++(s++post))(hp:pos=pre.length)(hn:n=s.length):bytes b pos n=⟨s,pos+n,0⟩:=by
 have hr:room b pos n=0:=ii.2 (by subst hb;simp;omega);have hc:cut b pos n=s:=by
  subst hb;subst hp;subst hn;simp[cut]
 unfold bytes;rw[Qa1 hr,hc]
theorem zY(r:jy):(bc r).val.length<=2000:=by
 unfold bc;split
 ·simp
 split
 ·simp
 split
 ·simp
 rename_i g1 g2 g3;simp only[Zn,Zb] at g1;have h1:=cN g1;have h4:=km 2 r.little;simp only[aq,ah,List.length_append];omega
theorem J0{r:jy}(h:(bc r).err=0):bj (bc r).val=⟨r,0⟩:=by
 unfold bc at h;split at h
 ·cases h
 split at h
 ·cases h
 split at h
 ·cases h
 rename_i g1 g2 g3;have hval:(bc r).val=cO (header 2 r.little) r.client++aK r.time 4 r.little++aK 1 1 Zw++aK r.cE 4 r.little++aK r.br 1 Zw++aK r.cD.length 2 r.little++r.cD:=by
  unfold bc;rw[Qa0 g1,Qa0 g2,Qa0 g3]
 have Oi:(bc r).err=0:=by unfold bc;rw[Qa0 g1,Qa0 g2,Qa0 g3]
 simp only[Zn,Zb,Zp] at g1 g2;obtain⟨⟨w1,w2⟩,w3⟩:=g2;simp only[within,Zp,Qa2] at w1 w2 w3;obtain⟨b,hb⟩:∃ b,b=(bc r).val:=⟨_,rfl⟩;have uU:b=header 2 r.little++(r.client.name++0::(r.client.inst++0::(r.client.aL++0::(aK r.time 4 r.little++(aK 1 1 Zw++(aK r.cE 4 r.little++(aK r.br 1 Zw++(aK r.cD.length 2 r.little++r.cD)))))))):=by
  rw[hb,hval];simp[bw,cO]
 rw[<-hb];have hh:aN b [2]=(r.little,0):=by rw[uU];exact Dq (by omega) (by omega) _ _
 have l2:=zw (k:=2) (by omega) (by omega) r.little;have hp:=x4 (pos:=2) uU (by rw[l2];rfl) g1;obtain⟨q0,Ou⟩:∃ q:Int,q=2+r.client.name.length+r.client.inst.length+r.client.aL.length+3:=⟨_,rfl⟩;rw[<-Ou] at hp;obtain⟨nb,tX⟩:∃ p,p=header 2 r.little++(r.client.name++0::(r.client.inst++0::(r.client.aL++[0]))):=⟨_,rfl⟩;have iO:q0=nb.length:=by rw[Ou,tX];simp[l2];omega
 have n8:b=nb++(aK r.time 4 r.little++(aK 1 1 Zw++(aK r.cE 4 r.little++(aK r.br 1 Zw++(aK r.cD.length 2 r.little++r.cD))))):=by rw[uU,tX];simp
 have ht:get b q0 4 r.little=⟨r.time,q0+4,0⟩:=get_at (k:=4) n8 iO (by omega) w1.1 (by omega);have ho:get b (q0+4) 1 Zw=⟨1,q0+4+1,0⟩:=get_at (k:=1) (n:=1) (pre:=nb++aK r.time 4 r.little) (post:=aK r.cE 4 r.little++(aK r.br 1 Zw++(aK r.cD.length 2 r.little++r.cD))) (by rw[n8];simp) (by simp[ah,iO]) (by omega) (by omega) (by omega);have he:get b (q0+4+1) 4 r.little=⟨r.cE,q0+4+1+4,0⟩:=get_at (k:=4) (n:=r.cE) (pre:=nb++aK r.time 4 r.little++aK 1 1 Zw) (post:=aK r.br 1 Zw++(aK r.cD.length 2 r.little++r.cD)) (by rw[n8];simp) (by simp[ah,iO];omega) (by omega) w2.1 (by omega);have hk:get b (q0+4+1+4) 1 Zw=⟨r.br,q0+4+1+4+1,0⟩:=get_at (k:=1) (n:=r.br) (pre:=nb++aK r.time 4 r.little++aK 1 1 Zw++aK r.cE 4 r.little) (post:=aK r.cD.length 2 r.little++r.cD) (by rw[n8];simp) (by simp[ah,iO];omega) (by omega) w3.1 (by omega);have hn:get b (q0+4+1+4+1) 2 r.little=⟨r.cD.length,q0+4+1+4+1+2,0⟩:=get_at (k:=2) (n:=r.cD.length) (pre:=nb++aK r.time 4 r.little++aK 1 1 Zw++aK r.cE 4 r.little++aK r.br 1 Zw) (post:=r.cD) (by rw[n8];simp) (by simp[ah,iO];omega) (by omega) (by omega) (by omega);have hs:bytes b (q0+4+1+4+1+2) r.cD.length=⟨r.cD,_,0⟩:=pu (pre:=nb++aK r.time 4 r.little++aK 1 1 Zw++aK r.cE 4 r.little++aK r.br 1 Zw++aK r.cD.length 2 r.little) (post:=[]) (by rw[n8];simp) (by simp[ah,iO];omega) rfl;have Ov:ji b=r:=by
  unfold ji;simp only[hh,hp,ht,ho,he,hk,hn,hs]
 unfold bj;rw[hh,Ov,Oi,<-hb];simp
theorem OH{k:Int}(h0:0<=k)(h1:k<18446744073709551616):Zy .i64 (Int.fdiv k ((2:Int) ^ min (Zx (56:Int)) (Yz .u64)))=mU k:=by
 have e:min (Zx (56:Int)) (Yz .u64)=56:=by decide
 rw[e,Xz _ (Int.le_of_lt (Int.pow_pos (by omega)))];unfold mU;have e2:(2:Int) ^ 56=72057594037927936:=by decide
 rw[e2,wrap_i64 (by omega) (by omega)]
theorem OI{k:Int}(h0:0<=k)(h1:k<18446744073709551616):Zy .i64 (Zy .u64 (((BitVec.ofInt (Yz .u64) k &&& BitVec.ofInt (Yz .u64) (72057594037927935:Int)).toNat:Nat):Int))=mb k:=by
 obtain⟨m,rfl⟩:=Yu h0;have hb:Yz .u64=64:=rfl;have e2:(BitVec.ofInt 64 ((m:Nat):Int) &&& BitVec.ofInt 64 (72057594037927935:Int)).toNat=m % 72057594037927936:=by
  have e3:BitVec.ofInt 64 (72057594037927935:Int)=BitVec.ofNat 64 (2 ^ 56-1):=by decide
  rw[BitVec.ofInt_natCast,e3,BitVec.toNat_and,BitVec.toNat_ofNat,BitVec.toNat_ofNat,Yv (by omega),Yv (by decide),Nat.and_two_pow_sub_one_eq_mod]
 rw[hb,e2,wrap_u64];unfold mb;rw[wrap_i64 (by omega) (by omega)];omega
theorem OJ{c n:Int}(hc:c=1\/c=2)(h0:1<=n)(h1:n<=4294967295):Zy .u64 (((BitVec.ofInt (Yz .u64) (Zy .u64 (Zy .u64 c*(2:Int) ^ min (Zx (56:Int)) (Yz .u64))) ||| BitVec.ofInt (Yz .u64) (Zy .u64 n)).toNat:Nat):Int)=c*72057594037927936+n:=by
 have e:min (Zx (56:Int)) (Yz .u64)=56:=by decide
 have hb:Yz .u64=64:=rfl;obtain⟨m,rfl⟩:=Yu (by omega:0<=n);obtain⟨d,rfl⟩:=Yu (by omega:0<=c);have e2:(2:Int) ^ 56=72057594037927936:=by decide
 rw[e,e2,wrap_u64,wrap_u64,wrap_u64,wrap_u64,hb];have q1:((d:Int) % 18446744073709551616*72057594037927936) % 18446744073709551616=((2 ^ 56*d:Nat):Int):=by omega
 have q2:((m:Int) % 18446744073709551616)=((m:Nat):Int):=by omega
 rw[q1,q2];have e3:(BitVec.ofInt 64 ((2 ^ 56*d:Nat):Int) ||| BitVec.ofInt 64 ((m:Nat):Int)).toNat=2 ^ 56*d+m:=by
  rw[BitVec.ofInt_natCast,BitVec.ofInt_natCast,BitVec.toNat_or,BitVec.toNat_ofNat,BitVec.toNat_ofNat,Yv (by omega),Yv (by omega)];exact(Yh (by omega) d).symm
 rw[e3];omega
theorem HS{n:Int}(c:UInt8)(h0:0<=n)(h1:n<72057594037927936):Zy .u64 ((BitVec.ofInt (Yz .u64) (Zy .u64 (n*2 ^ min (Zx 8) (Yz .u64))) ||| BitVec.ofInt (Yz .u64) (Zy .u64 (c.toNat:Int))).toNat:Int)=n*256+c.toNat:=by
 obtain⟨m,rfl⟩:=Yu h0;have hc:=c.toNat_lt;have e:min (Zx 8) (Yz .u64)=8:=by decide
 have hb:Yz .u64=64:=rfl;rw[e,wrap_u64,wrap_u64,wrap_u64,hb];have q1:((m:Int)*2 ^ 8) % 18446744073709551616=((2 ^ 8*m:Nat):Int):=by omega
 have q2:((c.toNat:Int) % 18446744073709551616)=((c.toNat:Nat):Int):=by omega
 rw[q1,q2];have e2:(BitVec.ofInt 64 ((2 ^ 8*m:Nat):Int) ||| BitVec.ofInt 64 ((c.toNat:Nat):Int)).toNat=2 ^ 8*m+c.toNat:=by
  rw[BitVec.ofInt_natCast,BitVec.ofInt_natCast,BitVec.toNat_or,BitVec.toNat_ofNat,BitVec.toNat_ofNat,Yv (by omega),Yv (by omega)];exact(Yh hc m).symm
 rw[e2];omega
theorem RR(k:Int):mU k*72057594037927936+mb k=k:=by
 unfold mU mb;omega
theorem Cs{l:Bytes}(h:l.length<=8):0<=jG l/\jG l<18446744073709551616:=by
 obtain⟨m,h1,h2⟩:=Ct l;have:256 ^ l.length<=256 ^ 8:=Yb (by omega) h;rw[h1];omega
theorem IP{l:Bytes}(h:l.length<=7):0<=jG l/\jG l<72057594037927936:=by
 obtain⟨m,h1,h2⟩:=Ct l;have:256 ^ l.length<=256 ^ 7:=Yb (by omega) h;rw[h1];omega
theorem aj(k:Int):(keyBytes k).length=8:=by simp[keyBytes]
theorem E1{k:Int}(h0:0<=k)(h1:k<18446744073709551616):jG (keyBytes k)=k:=by
 have hv:jG (keyBytes k)=(((((((((eV k 7).toNat:Int)*256+((eV k 6).toNat:Int))*256+((eV k 5).toNat:Int))*256+((eV k 4).toNat:Int))*256+((eV k 3).toNat:Int))*256+((eV k 2).toNat:Int))*256+((eV k 1).toNat:Int))*256+((eV k 0).toNat:Int)):=by simp[keyBytes,jG,List.range_succ]
 have st:∀ i,k / 2 ^ (8*(i+1))=k / 2 ^ (8*i) / 256:=fun i=>by
  rw[show 8*(i+1)=8*i+8 by omega,Int.pow_add,Int.ediv_ediv_of_nonneg (Int.le_of_lt (Int.pow_pos (by omega)))];rfl
 have ev:∀ i,((eV k i).toNat:Int)=k / 2 ^ (8*i)-256*(k / 2 ^ (8*(i+1))):=fun i=>by
  rw[pr,st];have:=Int.emod_add_mul_ediv (k / 2 ^ (8*i)) 256;omega
 have z:k / 2 ^ (8*(7+1))=0:=Int.ediv_eq_zero_of_lt h0 (by simpa using h1);have o:k / 2 ^ (8*0)=k:=by simp
 have e0:=ev 0;have e1:=ev 1;have e2:=ev 2;have e3:=ev 3;have e4:=ev 4;have e5:=ev 5;have e6:=ev 6;have e7:=ev 7;rw[z] at e7;rw[o] at e0;clear ev st;rw[hv,e0,e1,e2,e3,e4,e5,e6,e7];simp only[Nat.reduceAdd];generalize k / 2 ^ (8*7)=k7;generalize k / 2 ^ (8*6)=k6;generalize k / 2 ^ (8*5)=k5;generalize k / 2 ^ (8*4)=k4;generalize k / 2 ^ (8*3)=k3;generalize k / 2 ^ (8*2)=k2;generalize k / 2 ^ (8*1)=k1;omega
theorem fX{k:Int}(h0:0<=k)(h1:k<18446744073709551616)(hv:bA k=Zf):cF (keyBytes k)=(k,Zf):=by
 unfold cF;rw[E1 h0 h1,Qa1 ⟨aj k,hv⟩]
theorem dR(b:Bytes):0<=(cF b).1/\(cF b).1<18446744073709551616:=by
 unfold cF;split
 ·rename_i h;exact Cs (by omega)
 ·simp
theorem gI(b:Bytes)(pos n:Int):(bytes b pos n).val.length<=b.length:=by
 unfold bytes;split
 ·simp[cut];omega
 ·simp
theorem uZ(b:Bytes):(pad b).length=b.length+(8-b.length % 8) % 8:=by simp[pad]
theorem Uk{n:Nat}(h:n<=70368744177664):Int.tmod (Zy .i64 ((8:Int)-Int.tmod (n:Int) 8)) 8=(((8-n % 8) % 8:Nat):Int):=by
 rw[Yp (a:=(n:Int)) (by omega),wrap_i64 (by omega) (by omega),Yp (by omega)];omega
theorem AJ(r:fO)(little:Bool):(bp r little).val.length<=392:=by
 unfold bp;split
 ·simp
 split
 ·simp
 split
 ·simp
 split
 ·simp
 rename_i g0 g1 g2 g3;simp only[Zn,Zb] at g1;have h1:=cN g1;simp only[uZ,aq,ah,aj,List.length_append];omega
theorem tN{r:fO}{little:Bool}(h:(bp r little).err=0) :
  bA r.ay=Zf/\r.service.valid=Zf/\(0<=r.bL/\r.bL<=255)/\(0<=r.br/\r.br<=255)/\(0<=r.time/\r.time<=4294967295)/\r.aH.length<=255 /\
  (bp r little).val=pad (cO (aK (cond little 1 0) 1 Zw++keyBytes r.ay) r.service++aK r.bL 1 Zw++aK r.br 1 Zw++aK r.aH.length 1 Zw++r.aH++aK r.time 4 little):=by
 unfold bp at h;split at h
 ·cases h
 split at h
 ·cases h
 split at h
 ·cases h
 split at h
 ·cases h
 rename_i g0 g1 g2 g3;have hval:(bp r little).val=pad (cO (aK (cond little 1 0) 1 Zw++keyBytes r.ay) r.service++aK r.bL 1 Zw++aK r.br 1 Zw++aK r.aH.length 1 Zw++r.aH++aK r.time 4 little):=by
  unfold bp;rw[Qa0 g0,Qa0 g1,Qa0 g2,Qa0 g3]
 simp only[Zn,Zb,Zp] at g0 g1 g2;obtain⟨⟨w1,w2⟩,w3⟩:=g2;simp only[within,Zp,Qa2] at w1 w2 w3;exact⟨g0,g1,w1,w2,w3,by omega,hval⟩
theorem Um(l:Bool):aK (cond l 1 0) 1 Zw=[cond l 1 0]:=by cases l<;>rfl
theorem ME{r:fO}{little:Bool}(zB:0<=r.ay)(kM:r.ay<18446744073709551616)(h:(bp r little).err=0):bt (bp r little).val little=⟨r,0⟩:=by
 have Oi:=h;obtain⟨g0,g1,w1,w2,w3,w4,hval⟩:=tN h;obtain⟨b,hb⟩:∃ b,b=(bp r little).val:=⟨_,rfl⟩;obtain⟨z,hz⟩:∃ z,b=[cond little 1 0]++(keyBytes r.ay++(r.service.name++0::(r.service.inst++0::(r.service.aL++0::(aK r.bL 1 Zw++(aK r.br 1 Zw++(aK r.aH.length 1 Zw++(r.aH++(aK r.time 4 little++z))))))))):=by
  rw[hb,hval,Um];exact⟨List.replicate _ 0,by simp only[pad,bw,cO,List.append_assoc,List.cons_append,List.nil_append];rfl⟩
 rw[<-hb];have l8:=aj r.ay;have TR:bytes b 1 8=⟨keyBytes r.ay,1+8,0⟩:=pu hz rfl (by rw[l8];rfl);have RJ:=fX zB kM g0;have hp:gF b (1+8)=_:=x4 (pos:=1+8) (b:=b) (pre:=[cond little 1 0]++keyBytes r.ay) (p:=r.service) (by rw[hz];simp;rfl) (by simp[l8]) g1;obtain⟨q0,Ou⟩:∃ q:Int,q=1+8+r.service.name.length+r.service.inst.length+r.service.aL.length+3:=⟨_,rfl⟩;rw[<-Ou] at hp;obtain⟨nb,tX⟩:∃ p,p=[cond little 1 0]++(keyBytes r.ay++(r.service.name++0::(r.service.inst++0::(r.service.aL++[0])))):=⟨_,rfl⟩;have iO:q0=nb.length:=by rw[Ou,tX];simp[l8];omega
 have n8:b=nb++(aK r.bL 1 Zw++(aK r.br 1 Zw++(aK r.aH.length 1 Zw++(r.aH++(aK r.time 4 little++z))))):=by rw[hz,tX];simp
 have hl:get b q0 1 Zw=⟨r.bL,q0+1,0⟩:=get_at (k:=1) n8 iO (by omega) w1.1 (by omega);have hk:get b (q0+1) 1 Zw=⟨r.br,q0+1+1,0⟩:=get_at (k:=1) (n:=r.br) (pre:=nb++aK r.bL 1 Zw) (post:=aK r.aH.length 1 Zw++(r.aH++(aK r.time 4 little++z))) (by rw[n8];simp) (by simp[ah,iO]) (by omega) w2.1 (by omega);have hn:get b (q0+1+1) 1 Zw=⟨r.aH.length,q0+1+1+1,0⟩:=get_at (k:=1) (n:=r.aH.length) (pre:=nb++aK r.bL 1 Zw++aK r.br 1 Zw) (post:=r.aH++(aK r.time 4 little++z)) (by rw[n8];simp) (by simp[ah,iO];omega) (by omega) (by omega) (by omega);have ht:bytes b (q0+1+1+1) r.aH.length=⟨r.aH,q0+1+1+1+r.aH.length,0⟩:=pu (pre:=nb++aK r.bL 1 Zw++aK r.br 1 Zw++aK r.aH.length 1 Zw) (post:=aK r.time 4 little++z) (by rw[n8];simp) (by simp[ah,iO];omega) rfl;have hs:get b (q0+1+1+1+r.aH.length) 4 little=⟨r.time,q0+1+1+1+r.aH.length+4,0⟩:=get_at (k:=4) (n:=r.time) (pre:=nb++aK r.bL 1 Zw++aK r.br 1 Zw++aK r.aH.length 1 Zw++r.aH) (post:=z) (by rw[n8];simp) (by simp[ah,iO];omega) (by omega) w3.1 (by omega);have Ov:jh b little=r:=by
  unfold jh;simp only[TR,RJ,hp,hl,hk,hn,ht,hs]
 unfold bt;rw[Ov,Oi,<-hb];simp
theorem ca{b:Bytes}{k pos n nx:Int}{li:Bool}(h:get b pos k li=⟨n,nx,0⟩):dE b k li pos Zw=⟨n,nx,Zw⟩:=by
 unfold dE;rw[h];rfl
theorem rE{b s:Bytes}{pos nx:Int}(h:text b pos=⟨s,nx,0⟩):nk b pos Zw=⟨s,nx,Zw⟩:=by
 unfold nk;rw[h];rfl
theorem ew{b s:Bytes}{pos n nx:Int}(h:bytes b pos n=⟨s,nx,0⟩):df b n pos Zw=⟨s,nx,Zw⟩:=by
 unfold df;rw[h];rfl
theorem kY{b:Bytes}{p:bn}{pos nx:Int}(h:gF b pos=⟨p,nx,0⟩):dH b pos Zw=⟨p,nx,Zw⟩:=by
 unfold gF at h;by_cases h1:(text b pos).err=0;case neg=>rw[Qa1 h1] at h;simp at h;exact absurd h.2.2 h1
 rw[Qa0 (by simpa using h1)] at h;by_cases h2:(text b (text b pos).next).err=0;case neg=>rw[Qa1 h2] at h;simp at h;exact absurd h.2.2 h2
 rw[Qa0 (by simpa using h2)] at h;by_cases h3:(text b (text b (text b pos).next).next).err=0;case neg=>rw[Qa1 h3] at h;simp at h;exact absurd h.2.2 h3
 rw[Qa0 (by simpa using h3)] at h;split at h
 ·simp only[Vs.mk.injEq,Qa8] at h;obtain⟨rfl,rfl⟩:=h;unfold dH;simp[h1,h2,h3]
 ·simp at h
theorem JZ{r:jy}(h:(bc r).err=0):(jT (bc r).val).val=r/\(jT (bc r).val).bad=Zw:=by
 unfold bc at h;split at h
 ·cases h
 split at h
 ·cases h
 split at h
 ·cases h
 rename_i g1 g2 g3;have hval:(bc r).val=cO (header 2 r.little) r.client++aK r.time 4 r.little++aK 1 1 Zw++aK r.cE 4 r.little++aK r.br 1 Zw++aK r.cD.length 2 r.little++r.cD:=by
  unfold bc;rw[Qa0 g1,Qa0 g2,Qa0 g3]
 have Oi:(bc r).err=0:=by unfold bc;rw[Qa0 g1,Qa0 g2,Qa0 g3]
 simp only[Zn,Zb,Zp] at g1 g2;obtain⟨⟨w1,w2⟩,w3⟩:=g2;simp only[within,Zp,Qa2] at w1 w2 w3;obtain⟨b,hb⟩:∃ b,b=(bc r).val:=⟨_,rfl⟩;have uU:b=header 2 r.little++(r.client.name++0::(r.client.inst++0::(r.client.aL++0::(aK r.time 4 r.little++(aK 1 1 Zw++(aK r.cE 4 r.little++(aK r.br 1 Zw++(aK r.cD.length 2 r.little++r.cD)))))))):=by
  rw[hb,hval];simp[bw,cO]
 rw[<-hb];have hh:aN b [2]=(r.little,0):=by rw[uU];exact Dq (by omega) (by omega) _ _
 have l2:=zw (k:=2) (by omega) (by omega) r.little;have hp:=x4 (pos:=2) uU (by rw[l2];rfl) g1;obtain⟨q0,Ou⟩:∃ q:Int,q=2+r.client.name.length+r.client.inst.length+r.client.aL.length+3:=⟨_,rfl⟩;rw[<-Ou] at hp;obtain⟨nb,tX⟩:∃ p,p=header 2 r.little++(r.client.name++0::(r.client.inst++0::(r.client.aL++[0]))):=⟨_,rfl⟩;have iO:q0=nb.length:=by rw[Ou,tX];simp[l2];omega
 have n8:b=nb++(aK r.time 4 r.little++(aK 1 1 Zw++(aK r.cE 4 r.little++(aK r.br 1 Zw++(aK r.cD.length 2 r.little++r.cD))))):=by rw[uU,tX];simp
 have ht:get b q0 4 r.little=⟨r.time,q0+4,0⟩:=get_at (k:=4) n8 iO (by omega) w1.1 (by omega);have ho:get b (q0+4) 1 Zw=⟨1,q0+4+1,0⟩:=get_at (k:=1) (n:=1) (pre:=nb++aK r.time 4 r.little) (post:=aK r.cE 4 r.little++(aK r.br 1 Zw++(aK r.cD.length 2 r.little++r.cD))) (by rw[n8];simp) (by simp[ah,iO]) (by omega) (by omega) (by omega);have he:get b (q0+4+1) 4 r.little=⟨r.cE,q0+4+1+4,0⟩:=get_at (k:=4) (n:=r.cE) (pre:=nb++aK r.time 4 r.little++aK 1 1 Zw) (post:=aK r.br 1 Zw++(aK r.cD.length 2 r.little++r.cD)) (by rw[n8];simp) (by simp[ah,iO];omega) (by omega) w2.1 (by omega);have hk:get b (q0+4+1+4) 1 Zw=⟨r.br,q0+4+1+4+1,0⟩:=get_at (k:=1) (n:=r.br) (pre:=nb++aK r.time 4 r.little++aK 1 1 Zw++aK r.cE 4 r.little) (post:=aK r.cD.length 2 r.little++r.cD) (by rw[n8];simp) (by simp[ah,iO];omega) (by omega) w3.1 (by omega);have hn:get b (q0+4+1+4+1) 2 r.little=⟨r.cD.length,q0+4+1+4+1+2,0⟩:=get_at (k:=2) (n:=r.cD.length) (pre:=nb++aK r.time 4 r.little++aK 1 1 Zw++aK r.cE 4 r.little++aK r.br 1 Zw) (post:=r.cD) (by rw[n8];simp) (by simp[ah,iO];omega) (by omega) (by omega) (by omega);have hs:bytes b (q0+4+1+4+1+2) r.cD.length=⟨r.cD,_,0⟩:=pu (pre:=nb++aK r.time 4 r.little++aK 1 1 Zw++aK r.cE 4 r.little++aK r.br 1 Zw++aK r.cD.length 2 r.little) (post:=[]) (by rw[n8];simp) (by simp[ah,iO];omega) rfl;unfold jT;simp only[hh,kY hp,ca ht,ca ho,ca he,ca hk,ca hn,ew hs];exact⟨trivial,trivial⟩
theorem HH{b:Bytes}(hh:(aN b [2]).2=0):bj b=if (jT b).bad=Zf\/(bc (jT b).val).err≠0\/(bc (jT b).val).val≠b then⟨Ff,100⟩ else⟨(jT b).val,0⟩:=by
 by_cases h:(jT b).bad=Zf\/(bc (jT b).val).err≠0\/(bc (jT b).val).val≠b
 ·rw[Qa1 h];unfold bj;rw[Qa0 (by simpa using hh)];by_cases g:(bc (ji b)).err≠0\/(bc (ji b)).val≠b
  ·rw[Qa1 g]
  ·exfalso;have g1:(bc (ji b)).err=0:=Decidable.byContradiction fun x=>g (.inl x);have g2:(bc (ji b)).val=b:=Decidable.byContradiction fun x=>g (.inr x);obtain⟨ql,nJ⟩:=JZ g1;rw[g2] at ql nJ;rw[ql,nJ,g1,g2] at h;simp at h
 ·rw[Qa0 h];have g1:(bc (jT b).val).err=0:=Decidable.byContradiction fun x=>h (.inr (.inl x));have g2:(bc (jT b).val).val=b:=Decidable.byContradiction fun x=>h (.inr (.inr x));have:=J0 g1;rw[g2] at this;exact this
theorem kF(b:Bytes)(pos:Int)(bad:Bool):(dH b pos bad).p.name.length<=40/\(dH b pos bad).p.inst.length<=40/\(dH b pos bad).p.aL.length<=40 :=
 ⟨fS _ _,fS _ _,fS _ _⟩
theorem MQ{r:fO}{little:Bool}(zB:0<=r.ay)(kM:r.ay<18446744073709551616)(h:(bp r little).err=0):(ll (bp r little).val little).val=r/\(ll (bp r little).val little).bad=Zw:=by
 have Oi:=h;obtain⟨g0,g1,w1,w2,w3,w4,hval⟩:=tN h;obtain⟨b,hb⟩:∃ b,b=(bp r little).val:=⟨_,rfl⟩;obtain⟨z,hz⟩:∃ z,b=[cond little 1 0]++(keyBytes r.ay++(r.service.name++0::(r.service.inst++0::(r.service.aL++0::(aK r.bL 1 Zw++(aK r.br 1 Zw++(aK r.aH.length 1 Zw++(r.aH++(aK r.time 4 little++z))))))))):=by
  rw[hb,hval,Um];exact⟨List.replicate _ 0,by simp only[pad,bw,cO,List.append_assoc,List.cons_append,List.nil_append];rfl⟩
 rw[<-hb];have l8:=aj r.ay;have TR:bytes b 1 8=⟨keyBytes r.ay,1+8,0⟩:=pu hz rfl (by rw[l8];rfl);have RJ:=fX zB kM g0;have hp:gF b (1+8)=_:=x4 (pos:=1+8) (b:=b) (pre:=[cond little 1 0]++keyBytes r.ay) (p:=r.service) (by rw[hz];simp;rfl) (by simp[l8]) g1;obtain⟨q0,Ou⟩:∃ q:Int,q=1+8+r.service.name.length+r.service.inst.length+r.service.aL.length+3:=⟨_,rfl⟩;rw[<-Ou] at hp;obtain⟨nb,tX⟩:∃ p,p=[cond little 1 0]++(keyBytes r.ay++(r.service.name++0::(r.service.inst++0::(r.service.aL++[0])))):=⟨_,rfl⟩;have iO:q0=nb.length:=by rw[Ou,tX];simp[l8];omega
 have n8:b=nb++(aK r.bL 1 Zw++(aK r.br 1 Zw++(aK r.aH.length 1 Zw++(r.aH++(aK r.time 4 little++z))))):=by rw[hz,tX];simp
 have hl:get b q0 1 Zw=⟨r.bL,q0+1,0⟩:=get_at (k:=1) n8 iO (by omega) w1.1 (by omega);have hk:get b (q0+1) 1 Zw=⟨r.br,q0+1+1,0⟩:=get_at (k:=1) (n:=r.br) (pre:=nb++aK r.bL 1 Zw) (post:=aK r.aH.length 1 Zw++(r.aH++(aK r.time 4 little++z))) (by rw[n8];simp) (by simp[ah,iO]) (by omega) w2.1 (by omega);have hn:get b (q0+1+1) 1 Zw=⟨r.aH.length,q0+1+1+1,0⟩:=get_at (k:=1) (n:=r.aH.length) (pre:=nb++aK r.bL 1 Zw++aK r.br 1 Zw) (post:=r.aH++(aK r.time 4 little++z)) (by rw[n8];simp) (by simp[ah,iO];omega) (by omega) (by omega) (by omega);have ht:bytes b (q0+1+1+1) r.aH.length=⟨r.aH,q0+1+1+1+r.aH.length,0⟩:=pu (pre:=nb++aK r.bL 1 Zw++aK r.br 1 Zw++aK r.aH.length 1 Zw) (post:=aK r.time 4 little++z) (by rw[n8];simp) (by simp[ah,iO];omega) rfl;have hs:get b (q0+1+1+1+r.aH.length) 4 little=⟨r.time,q0+1+1+1+r.aH.length+4,0⟩:=get_at (k:=4) (n:=r.time) (pre:=nb++aK r.bL 1 Zw++aK r.br 1 Zw++aK r.aH.length 1 Zw++r.aH) (post:=z) (by rw[n8];simp) (by simp[ah,iO];omega) (by omega) w3.1 (by omega);have ho:get b 0 1 Zw=⟨cond little 1 0,1,0⟩:=by
  have:=get_at (b:=b) (pre:=[]) (pos:=0) (n:=cond little 1 0) (k:=1) (little:=Zw) (post:=keyBytes r.ay++(r.service.name++0::(r.service.inst++0::(r.service.aL++0::(aK r.bL 1 Zw++(aK r.br 1 Zw++(aK r.aH.length 1 Zw++(r.aH++(aK r.time 4 little++z))))))))) (by rw[Um];exact hz) rfl (by omega) (by cases little<;>simp) (by cases little<;>simp);exact this
 unfold ll;simp only[ca ho,ew TR,RJ,kY hp,ca hl,ca hk,ca hn,ew ht,ca hs];exact⟨trivial,trivial⟩
theorem zM(b:Bytes)(little:Bool):0<=(jh b little).ay/\(jh b little).ay<18446744073709551616:=dR _
theorem DW(b:Bytes)(little:Bool):0<=(ll b little).val.ay/\(ll b little).val.ay<18446744073709551616:=dR _
theorem JY(b:Bytes)(li:Bool):bt b li=if (ll b li).bad=Zf\/(bp (ll b li).val li).err≠0\/(bp (ll b li).val li).val≠b then⟨sk,100⟩ else⟨(ll b li).val,0⟩:=by
 by_cases h:(ll b li).bad=Zf\/(bp (ll b li).val li).err≠0\/(bp (ll b li).val li).val≠b
 ·rw[Qa1 h];unfold bt;by_cases g:(bp (jh b li) li).err≠0\/(bp (jh b li) li).val≠b
  ·rw[Qa1 g]
  ·exfalso;have g1:(bp (jh b li) li).err=0:=Decidable.byContradiction fun x=>g (.inl x);have g2:(bp (jh b li) li).val=b:=Decidable.byContradiction fun x=>g (.inr x);obtain⟨ql,nJ⟩:=MQ (zM b li).1 (zM b li).2 g1;rw[g2] at ql nJ;rw[ql,nJ,g1,g2] at h;simp at h
 ·rw[Qa0 h];have g1:(bp (ll b li).val li).err=0:=Decidable.byContradiction fun x=>h (.inr (.inl x));have g2:(bp (ll b li).val li).val=b:=Decidable.byContradiction fun x=>h (.inr (.inr x));have:=ME (DW b li).1 (DW b li).2 g1;rw[g2] at this;exact this
theorem wrap_u16(x:Int):Zy .u16 x=x % 65536:=by
 rw[Zy];rfl
theorem Ko{b:Bytes}{how:Int}(h0:0<=how)(h1:how<=65535)(hb:0<b.length):0<=o8 b how/\o8 b how<b.length:=by
 unfold o8;rw[Int.tdiv_eq_ediv_of_nonneg h0,wrap_u16,wrap_i64 (by omega) (by omega),Yp (by omega)];exact⟨Int.emod_nonneg _ (by omega),Int.emod_lt_of_pos _ (by omega)⟩
theorem Nc(b:Bytes)(how:Int):(sY b how).length<=2*b.length+1:=by grind [sY]
end Kerb
/- Reading what was written: a place in a text, and what is behind it. -/
namespace Kerb
open Go Go.Abs
def At(b:Bytes)(pos:Int)(rest:Bytes):Prop:=∃ pre:Bytes,b=pre++rest/\pos=pre.length
theorem At.start(b:Bytes):At b 0 b:=⟨[],rfl,rfl⟩
theorem At.skip{b s rest:Bytes}{pos:Int}(h:At b pos (s++rest)):At b (pos+s.length) rest:=by
 obtain⟨pre,rfl,rfl⟩:=h;exact⟨pre++s,by simp,by simp⟩
theorem At.to{b rest:Bytes}{pos q:Int}(h:At b pos rest)(e:pos=q):At b q rest:=e ▸ h
theorem At.as{b rest SP:Bytes}{pos:Int}(h:At b pos rest)(e:rest=SP):At b pos SP:=e ▸ h
theorem At.get{b rest:Bytes}{pos n:Int}{k:Nat}{li:Bool}(h:At b pos (aK n k li++rest))(hk:k=1\/k=2\/k=4)(h0:0<=n)(h1:n<256 ^ k) :
  Kerb.get b pos k li=⟨n,pos+k,0⟩/\At b (pos+k) rest:=by
 have hs:=h.skip;rw[ah] at hs;obtain⟨pre,hb,hp⟩:=h;exact⟨get_at hb hp hk h0 h1,hs⟩
theorem At.bytes{b s rest:Bytes}{pos n:Int}(h:At b pos (s++rest))(hn:n=s.length):Kerb.bytes b pos n=⟨s,pos+n,0⟩/\At b (pos+n) rest:=by
 have hs:=h.skip;obtain⟨pre,hb,hp⟩:=h;exact⟨pu hb hp hn,hn ▸ hs⟩
theorem At.text{b s rest:Bytes}{pos:Int}(h:At b pos (s++0::rest))(hs:s.length<=39)(h0:(0:UInt8) ∉ s):Kerb.text b pos=⟨s,pos+s.length+1,0⟩/\At b (pos+s.length+1) rest:=by
 have h2:At b (pos+s.length) ([0]++rest):=h.skip;have h3:=h2.skip;obtain⟨pre,hb,hp⟩:=h;exact⟨Ap hb hp hs h0,h3⟩
theorem At.gF{b rest:Bytes}{p:bn}{pos:Int}(h:At b pos (p.name++0::(p.inst++0::(p.aL++0::rest))))(hv:p.valid=Zf) :
  ∃ q,Kerb.gF b pos=⟨p,q,0⟩/\At b q rest:=by
 obtain⟨pre,hb,hp⟩:=h;have:=x4 hb hp hv;refine⟨_,this,pre++(p.name++0::(p.inst++0::(p.aL++[0]))),by rw[hb];simp,?_⟩;rw[hp];simp;omega
end Kerb
/- Chapter 22: messages of kaservers, in plain words. -/
namespace Kerb
open Go Go.Abs
structure c6 where
 op:Int
 user:bn
 br:Int
 aL:Bytes
 aH:Bytes
 service:Bytes
 inst:Bytes
 box:Bytes
def bn.zZ(p:bn):Bool:=p.name==[]&&(p.inst==[]&&p.aL==[])
def mT(n:Int):Bool:=n==1||(n==2||n==3)
def t_(op:Int):Bytes:=header 9 Zw++aK op 1 Zw
def dL(b:Bytes)(t:Bytes):Bytes:=b++aK t.length 2 Zw++t
def jS(b:Bytes)(t:Bytes):Bytes:=b++aK t.length 1 Zw++t
def aP(r:c6):kP :=
 if !mT r.op then⟨[],40⟩
 else if r.op==2 then
  if !(dI r.aL&&validName r.service&&cl r.inst) then⟨[],103⟩
  else if !within r.br 255 then⟨[],104⟩
  else if 255<r.aH.length\/1012<r.box.length then⟨[],105⟩
  else if !r.user.zZ then⟨[],108⟩
  else⟨dL (bw (bw (jS (bw (t_ r.op++aK r.br 1 Zw) r.aL) r.aH) r.service) r.inst) r.box,0⟩
 else
  if !r.user.valid then⟨[],103⟩
  else if 1012<r.box.length then⟨[],105⟩
  else if r.br≠0\/r.aL≠[]\/r.aH≠[]\/r.service≠[]\/r.inst≠[] then⟨[],108⟩
  else⟨dL (cO (t_ r.op) r.user) r.box,0⟩
def ob:c6:=⟨0,dx,0,[],[],[],[],[]⟩
structure FY (α:Type) where
 val:α
 err:Int
def eG{α:Type}(no:α)(enc:α->kP)(rd:Bytes->α×Bool)(b:Bytes):FY α :=
 if (rd b).2=Zf\/(enc (rd b).1).err≠0\/(enc (rd b).1).val≠b then⟨no,100⟩ else⟨(rd b).1,0⟩
theorem io{α:Type}{no:α}{enc:α->kP}{P:α->Prop}{rd1 rd2:Bytes->α×Bool}(h1:∀ r,P r->(enc r).err=0->rd1 (enc r).val=(r,Zw))(h2:∀ r,P r->(enc r).err=0->rd2 (enc r).val=(r,Zw))
  (p1:∀ b,P (rd1 b).1) (p2:∀ b,P (rd2 b).1) (b:Bytes):eG no enc rd1 b=eG no enc rd2 b:=by grind [eG]
def gE(b:Bytes)(k:Int)(pos:Int)(bad:Bool):Rd Int :=
 cond (bad || !((get b pos k Zw).err==0)) ⟨0,pos,Zf⟩ ⟨(get b pos k Zw).val,(get b pos k Zw).next,Zw⟩
def mg(b:Bytes)(pos:Int)(bad:Bool):Rd Bytes :=
 cond (bad || !((text b pos).err==0)) ⟨[],pos,Zf⟩ ⟨(text b pos).val,(text b pos).next,Zw⟩
def dG(b:Bytes)(n:Int)(pos:Int)(bad:Bool):Rd Bytes :=
 cond (bad || !((bytes b pos n).err==0)) ⟨[],pos,Zf⟩ ⟨(bytes b pos n).val,(bytes b pos n).next,Zw⟩
def m9(b:Bytes)(pos:Int)(bad:Bool):Rd bn :=
 cond (bad || !((gF b pos).err==0)) ⟨dx,pos,Zf⟩ ⟨(gF b pos).val,(gF b pos).next,Zw⟩
def zc(b:Bytes)(pos:Int)(bad:Bool):Rd Int :=
 ⟨cond (cF (dG b 8 pos bad).val).2 (cF (dG b 8 pos bad).val).1 0,(dG b 8 pos bad).pos,(dG b 8 pos bad).bad || !(cF (dG b 8 pos bad).val).2⟩
def Fm(b:Bytes):Rd c6 :=
  let o:=gE b 1 2 Zw
  cond (o.val==2)
    (let k:=gE b 1 o.pos o.bad
     let r:=mg b k.pos k.bad
     let n:=gE b 1 r.pos r.bad
     let t:=dG b n.val n.pos n.bad
     let s:=mg b t.pos t.bad
     let i:=mg b s.pos s.bad
     let m:=gE b 2 i.pos i.bad
     let x:=dG b m.val m.pos m.bad
     ⟨⟨o.val,dx,k.val,r.val,t.val,s.val,i.val,x.val⟩,x.pos,x.bad⟩)
    (let u:=m9 b o.pos o.bad
     let m:=gE b 2 u.pos u.bad
     let x:=dG b m.val m.pos m.bad
     ⟨⟨o.val,u.val,0,[],[],[],[],x.val⟩,x.pos,x.bad⟩)
def jM(b:Bytes):c6×Bool:=((Fm b).val,(Fm b).bad)
def aU(b:Bytes):FY c6 :=
 if (aN b [9]).2≠0 then⟨ob,(aN b [9]).2⟩ else eG ob aP jM b
structure iC where
 op:Int
 code:Int
 box:Bytes
def bu(r:iC):kP :=
 if !mT r.op then⟨[],40⟩
 else if !within r.code 99 then⟨[],104⟩
 else if 1012<r.box.length then⟨[],105⟩
 else if r.code≠0/\r.box≠[] then⟨[],108⟩
 else⟨dL (t_ (r.op+128)++aK r.code 1 Zw) r.box,0⟩
def mc:iC:=⟨0,0,[]⟩
def Uj(b:Bytes):Rd iC :=
 let o:=gE b 1 2 Zw
 let c:=gE b 1 o.pos o.bad
 let m:=gE b 2 c.pos c.bad
 let x:=dG b m.val m.pos m.bad
 ⟨⟨o.val-128,c.val,x.val⟩,x.pos,x.bad⟩
def pe(b:Bytes):iC×Bool:=((Uj b).val,(Uj b).bad)
def cp(b:Bytes):FY iC :=
 if (aN b [9]).2≠0 then⟨mc,(aN b [9]).2⟩ else eG mc bu pe b
def vl:Bytes:=[103,84,71,83]
def yU:Bytes:=[116,103,115,84]
def kR:Bytes:=[103,84,75,84]
def pJ:Bytes:=[116,107,116,71]
def fH:Bytes:=[67,80,87,108]
def k_:Bytes:=[67,80,87,100]
structure eK where
 label:Bytes
 time:Int
 start:Int
 stop:Int
 new:Int
def jr(l:Bytes):Bool:=l==vl||l==kR
def aR(s:eK):kP :=
 if !jr s.label && !(s.label==fH) then⟨[],80⟩
 else if !within s.time 4294967295 then⟨[],104⟩
 else if jr s.label then
  if !(within s.start 4294967295&&within s.stop 4294967295) then⟨[],104⟩
  else if s.new≠0 then⟨[],108⟩
  else⟨pad (s.label++aK s.time 4 Zw++aK s.start 4 Zw++aK s.stop 4 Zw),0⟩
 else
  if !bA s.new then⟨[],10⟩
  else if s.start≠0\/s.stop≠0 then⟨[],108⟩
  else⟨pad (s.label++aK s.time 4 Zw++keyBytes s.new),0⟩
def nM:eK:=⟨[],0,0,0,0⟩
def HB(b:Bytes):Rd eK :=
  let l:=dG b 4 0 Zw
  let t:=gE b 4 l.pos l.bad
  cond (jr l.val)
    (let s:=gE b 4 t.pos t.bad
     let e:=gE b 4 s.pos s.bad
     ⟨⟨l.val,t.val,s.val,e.val,0⟩,e.pos,e.bad⟩)
    (let k:=zc b t.pos t.bad
     ⟨⟨l.val,t.val,0,0,k.val⟩,k.pos,k.bad⟩)
def iM(b:Bytes):eK×Bool:=((HB b).val,(HB b).bad)
def cq(b:Bytes):FY eK:=eG nM aR iM b
structure fN where
 label:Bytes
 time:Int
 ay:Int
 start:Int
 stop:Int
 br:Int
 service:bn
 aH:Bytes
def ep(l:Bytes):Bool:=l==yU||l==pJ
def aY(a:fN):kP :=
 if !ep a.label && !(a.label==k_) then⟨[],80⟩
 else if !within a.time 4294967295 then⟨[],104⟩
 else if ep a.label then
  if !bA a.ay then⟨[],10⟩
  else if !(within a.start 4294967295&&within a.stop 4294967295&&within a.br 255) then⟨[],104⟩
  else if !a.service.valid then⟨[],103⟩
  else if 255<a.aH.length then⟨[],105⟩
  else⟨pad (jS (cO (a.label++aK a.time 4 Zw++keyBytes a.ay++aK a.start 4 Zw++aK a.stop 4 Zw++aK a.br 1 Zw) a.service) a.aH),0⟩
 else if a.ay≠0\/a.start≠0\/a.stop≠0\/a.br≠0\/a.service.zZ=Zw\/a.aH≠[] then⟨[],108⟩
 else⟨pad (a.label++aK a.time 4 Zw),0⟩
def nL:fN:=⟨[],0,0,0,0,0,dx,[]⟩
def CY(b:Bytes):Rd fN :=
  let l:=dG b 4 0 Zw
  let t:=gE b 4 l.pos l.bad
  cond (ep l.val)
    (let k:=zc b t.pos t.bad
     let s:=gE b 4 k.pos k.bad
     let e:=gE b 4 s.pos s.bad
     let v:=gE b 1 e.pos e.bad
     let p:=m9 b v.pos v.bad
     let n:=gE b 1 p.pos p.bad
     let x:=dG b n.val n.pos n.bad
     ⟨⟨l.val,t.val,k.val,s.val,e.val,v.val,p.val,x.val⟩,x.pos,x.bad⟩)
    ⟨⟨l.val,t.val,0,0,0,0,dx,[]⟩,t.pos,t.bad⟩
def iL(b:Bytes):fN×Bool:=((CY b).val,(CY b).bad)
def a_(b:Bytes):FY fN:=eG nL aY iL b
end Kerb
namespace Kerb
structure Ask where
 op:UInt8
 user:UInt8
 br:UInt8
 service:UInt8
 label:UInt8
 time:Int
 start:Int
 stop:Int
 key:UInt8
 aH:Bytes
 box:Bytes
 extra:UInt8
def oB(x:UInt8):Int:=(x.toNat:Int)
def Ask.SO(a:Ask):Int:=1+oB a.op % 3
def Ask.ex(a:Ask):Nat:=a.extra.toNat % 16
def Ask.base(a:Ask):c6 :=
 if a.SO=2 then⟨2,dx,oB a.br,(Kerb.service (oB a.service)).aL,a.aH,(Kerb.service (oB a.service)).name,(Kerb.service (oB a.service)).inst,a.box.take 900⟩
 else⟨a.SO,Kerb.user (oB a.user),0,[],[],[],[],a.box.take 900⟩
def tb(n:Int):Int:=Go.IntKind.wrap .u64 ((BitVec.ofInt (Go.IntKind.bits .u64) 72057594037927936 ||| BitVec.ofInt (Go.IntKind.bits .u64) (Go.IntKind.wrap .u64 (Go.IntKind.wrap .i64 (1+n)))).toNat:Int)
def Ask.lab(l0 l1 l2 l3:Bytes)(a:Ask):Bytes:=if a.label.toNat % 4=0 then l0 else if a.label.toNat % 4=1 then l1 else if a.label.toNat % 4=2 then l2 else l3
def Ask.J5(a:Ask):eK :=
 let l:=a.lab vl kR fH k_
 let new:=if l=fH\/a.ex=10 then tb (oB a.key) else 0
 if l≠fH\/a.ex=9 then⟨l,a.time,a.start,a.stop,new⟩ else⟨l,a.time,0,0,new⟩
def Ask.answer(a:Ask):fN :=
 let l:=a.lab yU pJ k_ vl
 if l=k_/\a.ex≠8 then⟨l,a.time,0,0,0,0,dx,[]⟩
 else⟨l,a.time,ay (oB a.key),a.start,a.stop,oB a.br,Kerb.service (oB a.service),a.aH⟩
end Kerb
/- Chapter 22: what is written is read as it was. -/
namespace Kerb
open Go Go.Abs
theorem At.mI{b rest:Bytes}{pos n:Int}{li:Bool}(h:At b pos (aK n 1 li++rest))(h0:0<=n)(h1:n<=255):Kerb.get b pos 1 li=⟨n,pos+1,0⟩/\At b (pos+1) rest :=
 h.get (k:=1) (.inl rfl) h0 (by omega)
theorem At.GH{b rest:Bytes}{pos n:Int}{li:Bool}(h:At b pos (aK n 2 li++rest))(h0:0<=n)(h1:n<=65535):Kerb.get b pos 2 li=⟨n,pos+2,0⟩/\At b (pos+2) rest :=
 h.get (k:=2) (.inr (.inl rfl)) h0 (by omega)
theorem At.nG{b rest:Bytes}{pos n:Int}{li:Bool}(h:At b pos (aK n 4 li++rest))(h0:0<=n)(h1:n<=4294967295):Kerb.get b pos 4 li=⟨n,pos+4,0⟩/\At b (pos+4) rest :=
 h.get (k:=4) (.inr (.inr rfl)) h0 (by omega)
theorem hY{b:Bytes}{k pos n nx:Int}(h:get b pos k Zw=⟨n,nx,0⟩):gE b k pos Zw=⟨n,nx,Zw⟩:=by unfold gE;rw[h];rfl
theorem Bz{b s:Bytes}{pos nx:Int}(h:text b pos=⟨s,nx,0⟩):mg b pos Zw=⟨s,nx,Zw⟩:=by unfold mg;rw[h];rfl
theorem jL{b s:Bytes}{pos n nx:Int}(h:bytes b pos n=⟨s,nx,0⟩):dG b n pos Zw=⟨s,nx,Zw⟩:=by unfold dG;rw[h];rfl
theorem HA{b:Bytes}{p:bn}{pos nx:Int}(h:gF b pos=⟨p,nx,0⟩):m9 b pos Zw=⟨p,nx,Zw⟩:=by unfold m9;rw[h];rfl
theorem Le{b:Bytes}{k pos nx:Int}(h:bytes b pos 8=⟨keyBytes k,nx,0⟩)(h0:0<=k)(h1:k<18446744073709551616)(hv:bA k=Zf):zc b pos Zw=⟨k,nx,Zw⟩:=by
 unfold zc;rw[jL h];simp only[fX h0 h1 hv];rfl
theorem within_iff{n m:Int}:within n m=Zf↔0<=n/\n<=m:=by simp[within]
theorem G7{p:bn}:p.zZ=Zf↔p=dx:=by
 obtain⟨a,b,c⟩:=p;simp[bn.zZ,dx]
theorem xG{n:Int}:mT n=Zf↔n=1\/n=2\/n=3:=by simp[mT]
theorem Og:header 9 Zw=[4,18]:=by decide
theorem oQ{r:c6}(h:(aP r).err=0) :
  (r.op=2/\dI r.aL=Zf/\validName r.service=Zf/\cl r.inst=Zf/\(0<=r.br/\r.br<=255)/\r.aH.length<=255/\r.box.length<=1012/\r.user=dx /\
   (aP r).val=header 9 Zw++(aK r.op 1 Zw++(aK r.br 1 Zw++(r.aL++0::(aK r.aH.length 1 Zw++(r.aH++(r.service++0::(r.inst++0::(aK r.box.length 2 Zw++(r.box++[])))))))))) \/
  ((r.op=1\/r.op=3)/\r.user.valid=Zf/\r.box.length<=1012/\r.br=0/\r.aL=[]/\r.aH=[]/\r.service=[]/\r.inst=[] /\
   (aP r).val=header 9 Zw++(aK r.op 1 Zw++(r.user.name++0::(r.user.inst++0::(r.user.aL++0::(aK r.box.length 2 Zw++(r.box++[]))))))):=by
 unfold aP at h ⊢;split at h
 ·cases h
 rename_i g0;rw[Qa0 g0];simp only[Zn,Zb,xG] at g0;split at h
 ·rename_i g1;rw[Qa1 g1];split at h
  ·cases h
  rename_i g2;rw[Qa0 g2];split at h
  ·cases h
  rename_i g3;rw[Qa0 g3];split at h
  ·cases h
  rename_i g4;rw[Qa0 g4];split at h
  ·cases h
  rename_i g5;rw[Qa0 g5];simp only[Zn,Zb,Zp,within_iff,G7] at g2 g3 g5;refine .inl ⟨by simpa using g1,g2.1.1,g2.1.2,g2.2,g3,by omega,by omega,g5,?_⟩;simp[dL,bw,jS,t_]
 ·rename_i g1;rw[Qa0 g1];split at h
  ·cases h
  rename_i g2;rw[Qa0 g2];split at h
  ·cases h
  rename_i g3;rw[Qa0 g3];split at h
  ·cases h
  rename_i g4;rw[Qa0 g4];simp only[Zn,Zb,Zp] at g2;simp only[ne_eq,not_or,Decidable.not_not] at g4;have g1':¬ r.op=2:=by simpa using g1
  refine .inr ⟨by omega,g2,by omega,g4.1,g4.2.1,g4.2.2.1,g4.2.2.2.1,g4.2.2.2.2,?_⟩;simp[dL,bw,cO,t_]
theorem JB{r:c6}(h:(aP r).err=0):jM (aP r).val=(r,Zw):=by
 have hi:=oQ h;generalize (aP r).val=b at hi;obtain⟨op,⟨un,ui,ur⟩,br,aL,aH,service,inst,box⟩:=r;simp only at hi;rcases hi with⟨ho,v1,v2,v3,hk,ht,hb,hu,hv⟩ | ⟨ho,v1,hb,hk,hr,ht,hs,hn,hv⟩
 ·have a0:At b 2 _:=⟨header 9 Zw,hv,by decide⟩;obtain⟨e1,a1⟩:=a0.mI (by omega) (by omega);obtain⟨e2,a2⟩:=a1.mI hk.1 hk.2;obtain⟨e3,a3⟩:=a2.text (gf v1) (oF v1);obtain⟨e4,a4⟩:=a3.mI (by omega) (by omega);obtain⟨e5,a5⟩:=a4.bytes rfl;obtain⟨e6,a6⟩:=a5.text (h_ v2) (pZ v2);obtain⟨e7,a7⟩:=a6.text (gQ v3) (nr v3);obtain⟨e8,a8⟩:=a7.GH (by omega) (by omega);obtain⟨e9,a9⟩:=a8.bytes rfl;unfold jM Fm;simp only[hY e1,hY e2,Bz e3,hY e4,jL e5,Bz e6,Bz e7,hY e8,jL e9,ho,Qb2,Qa6];rw[hu]
 ·have a0:At b 2 _:=⟨header 9 Zw,hv,by decide⟩;obtain⟨e1,a1⟩:=a0.mI (by omega) (by omega);obtain⟨q,e2,a2⟩:=At.gF (p:=⟨un,ui,ur⟩) a1 v1;obtain⟨e8,a8⟩:=a2.GH (by omega) (by omega);obtain⟨e9,a9⟩:=a8.bytes rfl;have h2:(op==2)=Zw:=by simp;omega
  unfold jM Fm;simp only[hY e1,h2,Qa7,HA e2,hY e8,jL e9];subst hk hr ht hs hn;rfl
theorem EH(r:c6):(aP r).val.length<=2000:=by
 by_cases h:(aP r).err=0
 ·rcases oQ h with⟨ho,v1,v2,v3,hk,ht,hb,hu,hv⟩ | ⟨ho,v1,hb,hk,hr,ht,hs,hn,hv⟩
  ·have l1:=gf v1;have l2:=h_ v2;have l3:=gQ v3;rw[hv,Og];simp[ah];omega
  ·have l1:=cN v1;rw[hv,Og];simp[ah];omega
 ·unfold aP at h ⊢;repeat' split
  all_goals first | simp | skip
  all_goals exfalso;simp_all
theorem rU{r:iC}(h:(bu r).err=0):(1<=r.op/\r.op<=3)/\(0<=r.code/\r.code<=99)/\r.box.length<=1012/\(bu r).val=header 9 Zw++(aK (r.op+128) 1 Zw++(aK r.code 1 Zw++(aK r.box.length 2 Zw++(r.box++[])))):=by
 unfold bu at h ⊢;split at h
 ·cases h
 rename_i g0;rw[Qa0 g0];simp only[Zn,Zb,xG] at g0;split at h
 ·cases h
 rename_i g1;rw[Qa0 g1];simp only[Zn,Zb,within_iff] at g1;split at h
 ·cases h
 rename_i g2;rw[Qa0 g2];split at h
 ·cases h
 rename_i g3;rw[Qa0 g3];exact⟨by omega,g1,by omega,by simp[dL,t_]⟩
theorem JA{r:iC}(h:(bu r).err=0):pe (bu r).val=(r,Zw):=by
 obtain⟨ho,hc,hb,hv⟩:=rU h;generalize (bu r).val=b at hv;have a0:At b 2 _:=⟨header 9 Zw,hv,by decide⟩;obtain⟨e1,a1⟩:=a0.mI (by omega) (by omega);obtain⟨e2,a2⟩:=a1.mI (by omega) (by omega);obtain⟨e3,a3⟩:=a2.GH (by omega) (by omega);obtain⟨e4,a4⟩:=a3.bytes rfl;unfold pe Uj;simp only[hY e1,hY e2,hY e3,jL e4];rw[show r.op+128-128=r.op by omega]
theorem EG(r:iC):(bu r).val.length<=2000:=by
 by_cases h:(bu r).err=0
 ·obtain⟨ho,hc,hb,hv⟩:=rU h;rw[hv,Og];simp[ah];omega
 ·unfold bu at h ⊢;repeat' split
  all_goals first | simp | skip
  all_goals exfalso;simp_all
theorem pQ(b:Bytes):∃ z,pad b=b++z/\z.length<=7:=⟨_,rfl,by simp;omega⟩
theorem Eb{l:Bytes}:jr l=Zf↔l=vl\/l=kR:=by simp[jr]
theorem yo{l:Bytes}:ep l=Zf↔l=yU\/l=pJ:=by simp[ep]
theorem oR{s:eK}(h:(aR s).err=0):(0<=s.time/\s.time<=4294967295) /\
    ((jr s.label=Zf/\s.label.length=4/\(0<=s.start/\s.start<=4294967295)/\(0<=s.stop/\s.stop<=4294967295)/\s.new=0/\∃ z,(aR s).val=s.label++(aK s.time 4 Zw++(aK s.start 4 Zw++(aK s.stop 4 Zw++z)))/\z.length<=7) \/
     (s.label=fH/\bA s.new=Zf/\s.start=0/\s.stop=0/\∃ z,(aR s).val=s.label++(aK s.time 4 Zw++(keyBytes s.new++z))/\z.length<=7)):=by
  unfold aR at h ⊢;split at h
  · cases h
  rename_i g0;rw[Qa0 g0];split at h
  · cases h
  rename_i g1;rw[Qa0 g1];simp only[Zn,Zb,within_iff] at g1;refine⟨g1,?_⟩;split at h
  · rename_i g2
    rw[Qa1 g2];split at h
    · cases h
    rename_i g3;rw[Qa0 g3];split at h
    · cases h
    rename_i g4;rw[Qa0 g4];simp only[Zn,Zb,Zp,within_iff] at g3;obtain⟨z,hz,hl⟩:=pQ (s.label++aK s.time 4 Zw++aK s.start 4 Zw++aK s.stop 4 Zw);refine .inl ⟨g2,?_,g3.1,g3.2,Decidable.byContradiction g4,z,?_,hl⟩
    · rcases Eb.1 g2 with e | e<;>rw[e]<;>rfl
    · show pad _=_
      rw[hz];simp
  · rename_i g2
    rw[Qa0 g2];split at h
    · cases h
    rename_i g3;rw[Qa0 g3];split at h
    · cases h
    rename_i g4;rw[Qa0 g4];obtain⟨z,hz,hl⟩:=pQ (s.label++aK s.time 4 Zw++keyBytes s.new);have Z_:jr s.label=Zw:=by simpa using g2
    refine .inr ⟨by simpa [Z_] using g0,by simpa using g3,by omega,by omega,z,?_,hl⟩;show pad _=_;rw[hz];simp
theorem JC{s:eK}(h0:0<=s.new)(h1:s.new<18446744073709551616)(h:(aR s).err=0):iM (aR s).val=(s,Zw):=by
 have hi:=oR h;generalize (aR s).val=b at hi;obtain⟨label,time,start,stop,new⟩:=s;simp only at hi h0 h1;obtain⟨ht,⟨hl,Nl,hs,he,hn,z,hv,_⟩ | ⟨hl,hk,hs,he,z,hv,_⟩⟩:=hi
 ·have a0:At b 0 (label++_):=(At.start b).as hv;obtain⟨e1,a1⟩:=a0.bytes (n:=4) (by rw[Nl];rfl);obtain⟨e2,a2⟩:=a1.nG ht.1 ht.2;obtain⟨e3,a3⟩:=a2.nG hs.1 hs.2;obtain⟨e4,a4⟩:=a3.nG he.1 he.2;unfold iM HB;simp only[jL e1,hY e2,hl,Qa6,hY e3,hY e4];rw[hn]
 ·have a0:At b 0 (label++_):=(At.start b).as hv;obtain⟨e1,a1⟩:=a0.bytes (n:=4) (by rw[hl];rfl);obtain⟨e2,a2⟩:=a1.nG ht.1 ht.2;obtain⟨e3,a3⟩:=a2.bytes (n:=8) (by rw[aj];rfl);have WR:jr label=Zw:=by rw[hl];decide
  unfold iM HB;simp only[jL e1,hY e2,WR,Qa7,Le e3 h0 h1 hk];rw[hs,he]
theorem w7(s:eK):(aR s).val.length<=100:=by
 by_cases h:(aR s).err=0
 ·obtain⟨ht,⟨hl,Nl,hs,he,hn,z,hv,_⟩ | ⟨hl,hk,hs,he,z,hv,_⟩⟩:=oR h
  ·rw[hv];simp[ah];omega
  ·rw[hv,hl];simp[ah,aj,fH];omega
 ·unfold aR at h ⊢;repeat' split
  all_goals first | simp | skip
  all_goals exfalso;simp_all
theorem oP{a:fN}(h:(aY a).err=0):(0<=a.time/\a.time<=4294967295) /\
    ((ep a.label=Zf/\a.label.length=4/\bA a.ay=Zf/\(0<=a.start/\a.start<=4294967295)/\(0<=a.stop/\a.stop<=4294967295)/\(0<=a.br/\a.br<=255)/\a.service.valid=Zf/\a.aH.length<=255 /\
        (aY a).val=pad (a.label++(aK a.time 4 Zw++(keyBytes a.ay++(aK a.start 4 Zw++(aK a.stop 4 Zw++(aK a.br 1 Zw++(a.service.name++0::(a.service.inst++0::(a.service.aL++0::(aK a.aH.length 1 Zw++a.aH))))))))))) \/
     (a.label=k_/\a.ay=0/\a.start=0/\a.stop=0/\a.br=0/\a.service=dx/\a.aH=[]/\(aY a).val=pad (a.label++aK a.time 4 Zw))):=by
  unfold aY at h ⊢;split at h
  · cases h
  rename_i g0;rw[Qa0 g0];split at h
  · cases h
  rename_i g1;rw[Qa0 g1];simp only[Zn,Zb,within_iff] at g1;refine⟨g1,?_⟩;split at h
  · rename_i g2
    rw[Qa1 g2];split at h
    · cases h
    rename_i g3;rw[Qa0 g3];split at h
    · cases h
    rename_i g4;rw[Qa0 g4];split at h
    · cases h
    rename_i g5;rw[Qa0 g5];split at h
    · cases h
    rename_i g6;rw[Qa0 g6];simp only[Zn,Zb,Zp,within_iff] at g3 g4 g5;refine .inl ⟨g2,?_,g3,g4.1.1,g4.1.2,g4.2,g5,by omega,?_⟩
    · rcases yo.1 g2 with e | e<;>rw[e]<;>rfl
    · show pad _=pad _
      congr 1;simp[jS,cO,bw]
  · rename_i g2
    rw[Qa0 g2];split at h
    · cases h
    rename_i g3;rw[Qa0 g3];have Z_:ep a.label=Zw:=by simpa using g2
    simp only[ne_eq,not_or,Decidable.not_not,Zb,G7] at g3;exact .inr ⟨by simpa [Z_] using g0,g3.1,g3.2.1,g3.2.2.1,g3.2.2.2.1,g3.2.2.2.2.1,g3.2.2.2.2.2,rfl⟩
theorem Jz{a:fN}(h0:0<=a.ay)(h1:a.ay<18446744073709551616)(h:(aY a).err=0):iL (aY a).val=(a,Zw):=by
 have hi:=oP h;generalize (aY a).val=b at hi;obtain⟨label,time,ay,start,stop,br,⟨sn,si,sr⟩,aH⟩:=a;simp only at hi h0 h1;obtain⟨ht,⟨hl,Nl,hk,hs,he,hv,hp,hx,hb⟩ | ⟨hl,hk,hs,he,hv,hp,hx,hb⟩⟩:=hi
 ·obtain⟨z,hz,_⟩:=pQ (label++(aK time 4 Zw++(keyBytes ay++(aK start 4 Zw++(aK stop 4 Zw++(aK br 1 Zw++(sn++0::(si++0::(sr++0::(aK aH.length 1 Zw++aH))))))))));have a0:At b 0 (label++(aK time 4 Zw++(keyBytes ay++(aK start 4 Zw++(aK stop 4 Zw++(aK br 1 Zw++(sn++0::(si++0::(sr++0::(aK aH.length 1 Zw++(aH++z))))))))))):=(At.start b).as (by rw[hb,hz];simp);obtain⟨e1,a1⟩:=a0.bytes (n:=4) (by rw[Nl];rfl);obtain⟨e2,a2⟩:=a1.nG ht.1 ht.2;obtain⟨e3,a3⟩:=a2.bytes (n:=8) (by rw[aj];rfl);obtain⟨e4,a4⟩:=a3.nG hs.1 hs.2;obtain⟨e5,a5⟩:=a4.nG he.1 he.2;obtain⟨e6,a6⟩:=a5.mI hv.1 hv.2;obtain⟨q,e7,a7⟩:=At.gF (p:=⟨sn,si,sr⟩) a6 hp;obtain⟨e8,a8⟩:=a7.mI (by omega) (by omega);obtain⟨e9,a9⟩:=a8.bytes rfl;unfold iL CY;simp only[jL e1,hY e2,hl,Qa6,Le e3 h0 h1 hk,hY e4,hY e5,hY e6,HA e7,hY e8,jL e9]
 ·obtain⟨z,hz,_⟩:=pQ (label++aK time 4 Zw);have a0:At b 0 (label++(aK time 4 Zw++z)):=(At.start b).as (by rw[hb,hz];simp);obtain⟨e1,a1⟩:=a0.bytes (n:=4) (by rw[hl];rfl);obtain⟨e2,a2⟩:=a1.nG ht.1 ht.2;have WR:ep label=Zw:=by rw[hl];decide
  unfold iL CY;simp only[jL e1,hY e2,WR,Qa7];rw[hk,hs,he,hv,hp,hx]
theorem w6(a:fN):(aY a).val.length<=408:=by
 by_cases h:(aY a).err=0
 ·obtain⟨ht,⟨hl,Nl,hk,hs,he,hv,hp,hx,hb⟩ | ⟨hl,hk,hs,he,hv,hp,hx,hb⟩⟩:=oP h
  ·have l1:=cN hp;rw[hb,uZ];simp[ah,aj];omega
  ·rw[hb,uZ,hl];simp[ah,k_]
 ·unfold aY at h ⊢;repeat' split
  all_goals first | simp | skip
  all_goals exfalso;simp_all
theorem nR(b:Bytes)(n pos:Int)(bad:Bool):(dG b n pos bad).val.length<=b.length:=by
 unfold dG;cases bad || !((bytes b pos n).err==0)
 ·exact gI b pos n
 ·exact Nat.zero_le _
theorem Gy{r:c6}(h:(aP r).err≠0):(aP r).val=[]:=by grind [aP]
theorem cY{α:Type}{no:α}{enc:α->kP}{rd:Bytes->α×Bool}{b:Bytes}(R:α)(bad:Bool)(h:rd b=(R,bad)){β:Type}(f:α->Int->β) :
  aG bad (Yq (f no 100)) (aG (!((enc R).err==0)) (Yq (f no 100)) (aG (!((enc R).val==b)) (Yq (f no 100)) (Yq (f R 0))))=Yq (f (eG no enc rd b).val (eG no enc rd b).err):=by
 unfold eG;rw[h];cases bad;case true=>rw[Qa1 (.inl rfl)];rfl
 rw[aF];by_cases h1:(enc R).err=0
 ·rw[ai (by simp[h1])];by_cases h2:(enc R).val=b
  ·rw[ai (by simp[h2]),Qa0 (by simp[h1,h2])]
  ·rw[af (by simpa using h2),Qa1 (.inr (.inr h2))]
 ·rw[af (by simpa using h1),Qa1 (.inr (.inl h1))]
theorem EN(b:Bytes)(pos k:Int)(li:Bool)(hk:k<=4):0<=(get b pos k li).val/\(get b pos k li).val<4294967296:=by
 unfold get;split
 ·rename_i h;have:=iS h;exact FQ (by cases li<;>simp[this]<;>omega)
 ·simp
theorem R4(b:Bytes)(k pos:Int)(bad:Bool)(hk:k<=4):0<=(gE b k pos bad).val/\(gE b k pos bad).val<4294967296:=by
 unfold gE;cases bad || !((get b pos k Zw).err==0)
 ·exact EN b pos k Zw hk
 ·simp
theorem MD(b:Bytes)(pos:Int)(bad:Bool):(mg b pos bad).val.length<=40:=by
 unfold mg;cases bad || !((text b pos).err==0)
 ·exact fS b pos
 ·exact Nat.zero_le _
theorem DR(b:Bytes)(pos:Int)(bad:Bool):(m9 b pos bad).val.name.length<=40/\(m9 b pos bad).val.inst.length<=40/\(m9 b pos bad).val.aL.length<=40:=by
 unfold m9;cases bad || !((gF b pos).err==0)
 ·exact pR b pos
 ·exact⟨Nat.zero_le _,Nat.zero_le _,Nat.zero_le _⟩
theorem uY(b:Bytes)(pos:Int)(bad:Bool):0<=(zc b pos bad).val/\(zc b pos bad).val<18446744073709551616:=by
 unfold zc;simp only;cases (cF (dG b 8 pos bad).val).2
 ·simp
 ·exact dR _
theorem Lm(x:UInt8)(k:Nat)(hk:0<k):Zx (Int.tmod (x.toNat:Int) (k:Int))=x.toNat % k:=by
 rw[Yp (by omega)];omega
theorem RV(n:Int):0<=tb n/\tb n<18446744073709551616:=by
 unfold tb;rw[wrap_u64];omega
theorem zR(n:Int):0<=ay n/\ay n<18446744073709551616:=by
 unfold ay;rw[wrap_u64];omega
theorem Gz{r:eK}(h:(aR r).err≠0):(aR r).val=[]:=by grind [aR]
theorem EI{s:eK}(h:(aR s).err=0) :
  (jr s.label=Zf/\(aR s).val=pad (s.label++aK s.time 4 Zw++aK s.start 4 Zw++aK s.stop 4 Zw))\/(jr s.label=Zw/\(aR s).val=pad (s.label++aK s.time 4 Zw++keyBytes s.new)):=by grind [aR]
theorem Gx{r:fN}(h:(aY r).err≠0):(aY r).val=[]:=by grind [aY]
end Kerb
/- Chapter 22: what the reader of the reference reads. -/
namespace Kerb
open Go Go.Abs
def MN(b:Bytes):Rd c6 :=
  let o:=dE b 1 Zw 2 Zw
  cond (o.val==1||o.val==3)
    (let u:=dH b o.pos o.bad
     let m:=dE b 2 Zw u.pos u.bad
     let x:=df b m.val m.pos m.bad
     ⟨⟨o.val,u.p,0,[],[],[],[],x.val⟩,x.pos,x.bad⟩)
    (let k:=dE b 1 Zw o.pos o.bad
     let r:=nk b k.pos k.bad
     let n:=dE b 1 Zw r.pos r.bad
     let t:=df b n.val n.pos n.bad
     let s:=nk b t.pos t.bad
     let i:=nk b s.pos s.bad
     let m:=dE b 2 Zw i.pos i.bad
     let x:=df b m.val m.pos m.bad
     ⟨⟨o.val,dx,k.val,r.val,t.val,s.val,i.val,x.val⟩,x.pos,x.bad⟩)
def oZ(b:Bytes):c6×Bool:=((MN b).val,(MN b).bad)
def Up(b:Bytes):Rd iC :=
 let o:=dE b 1 Zw 2 Zw
 let c:=dE b 1 Zw o.pos o.bad
 let m:=dE b 2 Zw c.pos c.bad
 let x:=df b m.val m.pos m.bad
 ⟨⟨o.val-128,c.val,x.val⟩,x.pos,x.bad⟩
def x6(b:Bytes):iC×Bool:=((Up b).val,(Up b).bad)
def JU(b:Bytes):Rd eK :=
  let l:=df b 4 0 Zw
  let t:=dE b 4 Zw l.pos l.bad
  cond (l.val==fH)
    (let k:=df b 8 t.pos t.bad
     ⟨⟨l.val,t.val,0,0,(cF k.val).1⟩,k.pos,k.bad⟩)
    (let s:=dE b 4 Zw t.pos t.bad
     let e:=dE b 4 Zw s.pos s.bad
     ⟨⟨l.val,t.val,s.val,e.val,0⟩,e.pos,e.bad⟩)
def nj(b:Bytes):eK×Bool:=((JU b).val,(JU b).bad)
def JT(b:Bytes):Rd fN :=
  let l:=df b 4 0 Zw
  let t:=dE b 4 Zw l.pos l.bad
  cond (l.val==k_)
    ⟨⟨l.val,t.val,0,0,0,0,dx,[]⟩,t.pos,t.bad⟩
    (let k:=df b 8 t.pos t.bad
     let s:=dE b 4 Zw k.pos k.bad
     let e:=dE b 4 Zw s.pos s.bad
     let v:=dE b 1 Zw e.pos e.bad
     let p:=dH b v.pos v.bad
     let n:=dE b 1 Zw p.pos p.bad
     let x:=df b n.val n.pos n.bad
     ⟨⟨l.val,t.val,(cF k.val).1,s.val,e.val,v.val,p.p,x.val⟩,x.pos,x.bad⟩)
def ni(b:Bytes):fN×Bool:=((JT b).val,(JT b).bad)
theorem MO{r:c6}(h:(aP r).err=0):oZ (aP r).val=(r,Zw):=by
 have hi:=oQ h;generalize (aP r).val=b at hi;obtain⟨op,⟨un,ui,ur⟩,br,aL,aH,service,inst,box⟩:=r;simp only at hi;rcases hi with⟨ho,v1,v2,v3,hk,ht,hb,hu,hv⟩ | ⟨ho,v1,hb,hk,hr,ht,hs,hn,hv⟩
 ·have a0:At b 2 _:=⟨header 9 Zw,hv,by decide⟩;obtain⟨e1,a1⟩:=a0.mI (by omega) (by omega);obtain⟨e2,a2⟩:=a1.mI hk.1 hk.2;obtain⟨e3,a3⟩:=a2.text (gf v1) (oF v1);obtain⟨e4,a4⟩:=a3.mI (by omega) (by omega);obtain⟨e5,a5⟩:=a4.bytes rfl;obtain⟨e6,a6⟩:=a5.text (h_ v2) (pZ v2);obtain⟨e7,a7⟩:=a6.text (gQ v3) (nr v3);obtain⟨e8,a8⟩:=a7.GH (by omega) (by omega);obtain⟨e9,a9⟩:=a8.bytes rfl;have h2:(op==1||op==3)=Zw:=by simp;omega
  unfold oZ MN;simp only[ca e1,h2,Qa7,ca e2,rE e3,ca e4,ew e5,rE e6,rE e7,ca e8,ew e9];rw[hu]
 ·have a0:At b 2 _:=⟨header 9 Zw,hv,by decide⟩;obtain⟨e1,a1⟩:=a0.mI (by omega) (by omega);obtain⟨q,e2,a2⟩:=At.gF (p:=⟨un,ui,ur⟩) a1 v1;obtain⟨e8,a8⟩:=a2.GH (by omega) (by omega);obtain⟨e9,a9⟩:=a8.bytes rfl;have h2:(op==1||op==3)=Zf:=by simp;omega
  unfold oZ MN;simp only[ca e1,h2,Qa6,kY e2,ca e8,ew e9];subst hk hr ht hs hn;rfl
theorem ML{r:iC}(h:(bu r).err=0):x6 (bu r).val=(r,Zw):=by
 obtain⟨ho,hc,hb,hv⟩:=rU h;generalize (bu r).val=b at hv;have a0:At b 2 _:=⟨header 9 Zw,hv,by decide⟩;obtain⟨e1,a1⟩:=a0.mI (by omega) (by omega);obtain⟨e2,a2⟩:=a1.mI (by omega) (by omega);obtain⟨e3,a3⟩:=a2.GH (by omega) (by omega);obtain⟨e4,a4⟩:=a3.bytes rfl;unfold x6 Up;simp only[ca e1,ca e2,ca e3,ew e4];rw[show r.op+128-128=r.op by omega]
theorem MP{s:eK}(h0:0<=s.new)(h1:s.new<18446744073709551616)(h:(aR s).err=0):nj (aR s).val=(s,Zw):=by
 have hi:=oR h;generalize (aR s).val=b at hi;obtain⟨label,time,start,stop,new⟩:=s;simp only at hi h0 h1;obtain⟨ht,⟨hl,Nl,hs,he,hn,z,hv,_⟩ | ⟨hl,hk,hs,he,z,hv,_⟩⟩:=hi
 ·have a0:At b 0 (label++_):=(At.start b).as hv;obtain⟨e1,a1⟩:=a0.bytes (n:=4) (by rw[Nl];rfl);obtain⟨e2,a2⟩:=a1.nG ht.1 ht.2;obtain⟨e3,a3⟩:=a2.nG hs.1 hs.2;obtain⟨e4,a4⟩:=a3.nG he.1 he.2;have sN:(label==fH)=Zw:=by
   rcases Eb.1 hl with e | e<;>rw[e]<;>decide
  unfold nj JU;simp only[ew e1,ca e2,sN,Qa7,ca e3,ca e4];rw[hn]
 ·have a0:At b 0 (label++_):=(At.start b).as hv;obtain⟨e1,a1⟩:=a0.bytes (n:=4) (by rw[hl];rfl);obtain⟨e2,a2⟩:=a1.nG ht.1 ht.2;obtain⟨e3,a3⟩:=a2.bytes (n:=8) (by rw[aj];rfl);have sN:(label==fH)=Zf:=by rw[hl];decide
  unfold nj JU;simp only[ew e1,ca e2,sN,Qa6,ew e3,fX h0 h1 hk];rw[hs,he]
theorem MK{a:fN}(h0:0<=a.ay)(h1:a.ay<18446744073709551616)(h:(aY a).err=0):ni (aY a).val=(a,Zw):=by
 have hi:=oP h;generalize (aY a).val=b at hi;obtain⟨label,time,ay,start,stop,br,⟨sn,si,sr⟩,aH⟩:=a;simp only at hi h0 h1;obtain⟨ht,⟨hl,Nl,hk,hs,he,hv,hp,hx,hb⟩ | ⟨hl,hk,hs,he,hv,hp,hx,hb⟩⟩:=hi
 ·obtain⟨z,hz,_⟩:=pQ (label++(aK time 4 Zw++(keyBytes ay++(aK start 4 Zw++(aK stop 4 Zw++(aK br 1 Zw++(sn++0::(si++0::(sr++0::(aK aH.length 1 Zw++aH))))))))));have a0:At b 0 (label++(aK time 4 Zw++(keyBytes ay++(aK start 4 Zw++(aK stop 4 Zw++(aK br 1 Zw++(sn++0::(si++0::(sr++0::(aK aH.length 1 Zw++(aH++z))))))))))):=(At.start b).as (by rw[hb,hz];simp);obtain⟨e1,a1⟩:=a0.bytes (n:=4) (by rw[Nl];rfl);obtain⟨e2,a2⟩:=a1.nG ht.1 ht.2;obtain⟨e3,a3⟩:=a2.bytes (n:=8) (by rw[aj];rfl);obtain⟨e4,a4⟩:=a3.nG hs.1 hs.2;obtain⟨e5,a5⟩:=a4.nG he.1 he.2;obtain⟨e6,a6⟩:=a5.mI hv.1 hv.2;obtain⟨q,e7,a7⟩:=At.gF (p:=⟨sn,si,sr⟩) a6 hp;obtain⟨e8,a8⟩:=a7.mI (by omega) (by omega);obtain⟨e9,a9⟩:=a8.bytes rfl;have SC:(label==k_)=Zw:=by
   rcases yo.1 hl with e | e<;>rw[e]<;>decide
  unfold ni JT;simp only[ew e1,ca e2,SC,Qa7,ew e3,fX h0 h1 hk,ca e4,ca e5,ca e6,kY e7,ca e8,ew e9]
 ·obtain⟨z,hz,_⟩:=pQ (label++aK time 4 Zw);have a0:At b 0 (label++(aK time 4 Zw++z)):=(At.start b).as (by rw[hb,hz];simp);obtain⟨e1,a1⟩:=a0.bytes (n:=4) (by rw[hl];rfl);obtain⟨e2,a2⟩:=a1.nG ht.1 ht.2;have SC:(label==k_)=Zf:=by rw[hl];decide
  unfold ni JT;simp only[ew e1,ca e2,SC,Qa6];rw[hk,hs,he,hv,hp,hx]
theorem Je(b:Bytes):eG ob aP jM b=eG ob aP oZ b :=
 io (P:=fun _=>True) (fun _ _ h=>JB h) (fun _ _ h=>MO h) (fun _=>trivial) (fun _=>trivial) b
theorem Jd(b:Bytes):eG mc bu pe b=eG mc bu x6 b :=
 io (P:=fun _=>True) (fun _ _ h=>JA h) (fun _ _ h=>ML h) (fun _=>trivial) (fun _=>trivial) b
theorem Fx(b:Bytes):0<=(iM b).1.new/\(iM b).1.new<18446744073709551616:=by
 unfold iM HB;dsimp only;cases jr (dG b 4 0 Zw).val
 ·exact uY _ _ _
 ·simp
theorem JX(b:Bytes):0<=(nj b).1.new/\(nj b).1.new<18446744073709551616:=by
 unfold nj JU;dsimp only;cases (df b 4 0 Zw).val==fH
 ·simp
 ·exact dR _
theorem Jf(b:Bytes):cq b=eG nM aR nj b :=
 io (P:=fun s=>0<=s.new/\s.new<18446744073709551616) (fun _ p h=>JC p.1 p.2 h) (fun _ p h=>MP p.1 p.2 h) Fx JX b
theorem Fw(b:Bytes):0<=(iL b).1.ay/\(iL b).1.ay<18446744073709551616:=by
 unfold iL CY;dsimp only;cases ep (dG b 4 0 Zw).val
 ·simp
 ·exact uY _ _ _
theorem JW(b:Bytes):0<=(ni b).1.ay/\(ni b).1.ay<18446744073709551616:=by
 unfold ni JT;dsimp only;cases (df b 4 0 Zw).val==k_
 ·exact dR _
 ·simp
theorem Jc(b:Bytes):a_ b=eG nL aY ni b :=
 io (P:=fun s=>0<=s.ay/\s.ay<18446744073709551616) (fun _ p h=>Jz p.1 p.2 h) (fun _ p h=>MK p.1 p.2 h) Fw JW b
end Kerb
/- Sorting a row of keys: the words. -/
namespace Kerb
open Go Go.Abs
def mQ(els:List AV):List Int:=els.map fun | .int _ n=>n | _=>0
def eQ(els:List AV):Bool:=els.all fun | .int .u64 _=>Zf | _=>Zw
def c4(els:List AV):Array Int:=(mQ els).toArray
def back(d:Array Int):List AV:=d.toList.map (Zv .u64)
def GQ(h:Go.Sort.Hint):Int:=match h with | .unknown=>0 | .increasing=>1 | .decreasing=>2
def Ku(x:Int):Int:=((Go.Sort.xorNext (UInt64.ofNat x.toNat)).toNat:Int)
noncomputable def ok(_:Int):Bool := @decide True (Classical.propDecidable True)
theorem Fk(x:Int):ok x=Zf:=by
 unfold ok;exact @Qa4 True (Classical.propDecidable True) trivial
def nn(a:Int):Bool:=Zj (0<=a)
def order2(els:List AV)(a b s:Int):Nat×Nat×Nat:=Go.Sort.order2 Go.Sort.ltInt (c4 els) a.toNat b.toNat s.toNat
def median(els:List AV)(a b c s:Int):Nat×Nat:=Go.Sort.median Go.Sort.ltInt (c4 els) a.toNat b.toNat c.toNat s.toNat
def E'(els:List AV)(a s:Int):Nat×Nat:=Go.Sort.medianAdjacent Go.Sort.ltInt (c4 els) a.toNat s.toNat
def HF(els:List AV)(a b:Int):Nat×Go.Sort.Hint:=Go.Sort.choosePivot Go.Sort.ltInt (c4 els) a.toNat b.toNat
def Ae(els:List AV)(a b:Int):List AV:=back (Go.Sort.insertionSort Go.Sort.ltInt (c4 els) a.toNat b.toNat)
def KT(els:List AV)(a b:Int):List AV:=back (Go.Sort.heapSort Go.Sort.ltInt (c4 els) a.toNat b.toNat)
def R9(els:List AV)(a b:Int):List AV:=back (Go.Sort.reverseRange (c4 els) a.toNat b.toNat)
def Et(els:List AV)(a b:Int):List AV:=back (Go.Sort.breakPatterns (c4 els) a.toNat b.toNat)
def xY(els:List AV)(a b:Int):List AV×Bool:=(back (Go.Sort.partialInsertionSort Go.Sort.ltInt (c4 els) a.toNat b.toNat).1,(Go.Sort.partialInsertionSort Go.Sort.ltInt (c4 els) a.toNat b.toNat).2)
def part(els:List AV)(a b p:Int):Nat×Bool×List AV:=((Go.Sort.partition Go.Sort.ltInt (c4 els) a.toNat b.toNat p.toNat).1,(Go.Sort.partition Go.Sort.ltInt (c4 els) a.toNat b.toNat p.toNat).2.1,back (Go.Sort.partition Go.Sort.ltInt (c4 els) a.toNat b.toNat p.toNat).2.2)
def Fo(els:List AV)(a b p:Int):Nat×List AV:=((Go.Sort.partitionEqual Go.Sort.ltInt (c4 els) a.toNat b.toNat p.toNat).1,back (Go.Sort.partitionEqual Go.Sort.ltInt (c4 els) a.toNat b.toNat p.toNat).2)
def sift(els:List AV)(lo hi first:Int):List AV:=back (Go.Sort.siftDown Go.Sort.ltInt hi.toNat first.toNat lo.toNat (c4 els))
def Pb(els:List AV)(a b l:Int):List AV:=back (Go.Sort.pdq Go.Sort.ltInt (c4 els) a.toNat b.toNat l.toNat Zf Zf)
def zS(els:List AV):List AV:=back (Go.Sort.sort Go.Sort.ltInt (c4 els))
def RS(x:Int):Int:=(Go.Sort.bitsLen x.toNat:Int)
def Pc(n:Int):Int:=((1 <<< Go.Sort.bitsLen n.toNat:Nat):Int)
theorem aX(d:Array Int):(back d).length=d.size:=by simp[back]
theorem po{d:Array Int}{i:Nat}(h:i<d.size):(back d).getD i .undef = .int .u64 d[i]! := by
 simp[back,Zd,h]
theorem NN(d:Array Int)(i:Nat)(v:Int):(back d).set i (.int .u64 v)=back (d.setIfInBounds i v):=by
 simp[back,List.map_set]
theorem fl(d:Array Int):c4 (back d)=d:=by
 apply Array.ext';simp[c4,back,mQ,Function.comp_def]
theorem Ga{els:List AV}(h:eQ els=Zf):back (c4 els)=els:=by
 simp only[back,c4,mQ,List.map_map];rw[show(els.map (Zv .u64∘fun | .int _ n=>n | _=>0))=els.map id from List.map_congr_left fun a ha=> ?_,List.map_id];simp only[eQ,List.all_eq_true] at h;have:=h a ha;split at this
 ·rfl
 ·cases this
theorem m7{els:List AV}(h:eQ els=Zf):∃ d,els=back d/\c4 els=d:=⟨c4 els,(Ga h).symm,rfl⟩
theorem swp_size(d:Array Int)(i j:Nat):(Go.Sort.swp d i j).size=d.size:=by simp[Go.Sort.swp]
theorem ia{n:Int}(h1 : -9223372036854775808<=n)(h2:n<9223372036854775808):Zy .i64 n=n:=by
 unfold Zy;simp[Yz,Yj];omega
theorem rd{α:Type}{d:Array Int}{n:Nat}(hn:n<d.size)(f:Int->Option α):aD (Zj ((0:Int)<=(n:Int))&&Zj ((n:Int)<((back d).length:Int))&&Zf) (aD (Zm (Zx (n:Int)) (back d).length&&Zf) (Zg .u64 (Zd (back d) (Zx (n:Int)) .undef) f))=f d[n]! := by
 rw[ae (by simp[aX];omega),ae (by simp[aX];omega),Zk,po hn,dg]
theorem wr{α:Type}{d:Array Int}{n:Nat}(hn:n<d.size){c:Bool}(hc:c=Zf)(X:Option α):aD (Zj ((0:Int)<=(n:Int))&&Zj ((n:Int)<((back d).length:Int))&&Zf) (aD (Zm (Zx (n:Int)) (back d).length&&Zf) (Zg .u64 (Zd (back d) (Zx (n:Int)) .undef) fun _=>aD c X))=X:=by
 rw[rd hn,ae hc]
theorem dh(d:Array Int)(n:Nat)(v:Int):(back d).set (Zx (n:Int)) (.int .u64 v)=back (d.setIfInBounds n v):=by rw[Zk,NN]
theorem sw{α:Type}{d:Array Int}{p q:Nat}(hp:p<d.size)(hq:q<d.size)(X:List AV->Option α) :
  aD (Zj ((0:Int)<=(q:Int))&&Zj ((q:Int)<((back d).length:Int))&&Zf) (aD (Zm (Zx (q:Int)) (back d).length&&Zf) (Zg .u64 (Zd (back d) (Zx (q:Int)) .undef) fun x=>aD (Zj ((0:Int)<=(p:Int))&&Zj ((p:Int)<((back d).length:Int))&&Zf) (aD (Zm (Zx (p:Int)) (back d).length&&Zf) (Zg .u64 (Zd (back d) (Zx (p:Int)) .undef) fun y=>aD (Zj ((0:Int)<=(p:Int))&&Zj ((p:Int)<((back d).length:Int))&&Zf) (aD (Zm (Zx (p:Int)) (back d).length&&Zf) (Zg .u64 (Zd (back d) (Zx (p:Int)) .undef) fun _=>aD (Zu [Zv .u64 x]==nat_lit 1&&Zf&&Zf&&Zf&&Zm (Zx (p:Int)) (Zu (back d))) (aD (Zj ((0:Int)<=(q:Int))&&Zj ((q:Int)<(((back d).set (Zx (p:Int)) (.int .u64 x)).length:Int))&&Zf) (aD (Zm (Zx (q:Int)) ((back d).set (Zx (p:Int)) (.int .u64 x)).length&&Zf) (Zg .u64 (Zd ((back d).set (Zx (p:Int)) (.int .u64 x)) (Zx (q:Int)) .undef) fun _=>aD (Zu [Zv .u64 y]==nat_lit 1&&Zf&&Zf&&Zf&&Zm (Zx (q:Int)) (Zu ((back d).set (Zx (p:Int)) (.int .u64 x)))) (X (((back d).set (Zx (p:Int)) (.int .u64 x)).set (Zx (q:Int)) (.int .u64 y))))))))))))=X (back (Go.Sort.swp d p q)):=by
 rw[rd hq,rd hp,wr hp (by simp[aX];exact hp),dh,wr (by rw[Xy];exact hq) (by simp[aX];exact hq),dh];rfl
theorem ec(d:Array Int):eQ (back d)=Zf:=by simp[eQ,back]
theorem MV{lt:Int->Int->Bool}{hi f:Nat}:∀ (n root:Nat) (d:Array Int),hi-root<=n->(Go.Sort.siftDown lt hi f root d).size=d.size:=by
 intro n;induction n with
 | zero =>
  intro root d h;unfold Go.Sort.siftDown;rw[dif_pos (by omega)]
 | succ n ih =>
  intro root d h;unfold Go.Sort.siftDown;split
  ·rfl
  ·split
   ·split
    ·rfl
    ·split
     ·rw[ih _ _ (by omega),swp_size]
     ·rfl
   ·split
    ·rfl
    ·rw[ih _ _ (by omega),swp_size]
theorem vG{lt:Int->Int->Bool}{hi f root:Nat}{d:Array Int}:(Go.Sort.siftDown lt hi f root d).size=d.size:=MV _ root d (Nat.le_refl _)
theorem rB{lt:Int->Int->Bool}{d:Array Int}{a b s n:Nat}(ha:a<n)(hb:b<n):(Go.Sort.order2 lt d a b s).1<n/\(Go.Sort.order2 lt d a b s).2.1<n/\(Go.Sort.order2 lt d a b s).2.2<=s+1:=by
 unfold Go.Sort.order2;split<;>simp only<;>omega
theorem Mn{lt:Int->Int->Bool}{d:Array Int}{a b c s n:Nat}(ha:a<n)(hb:b<n)(hc:c<n):(Go.Sort.median lt d a b c s).1<n/\(Go.Sort.median lt d a b c s).2<=s+3:=by
 unfold Go.Sort.median;have h1:=rB (lt:=lt) (d:=d) (s:=s) ha hb;have h2:=rB (lt:=lt) (d:=d) (s:=(Go.Sort.order2 lt d a b s).2.2) h1.2.1 hc;have h3:=rB (lt:=lt) (d:=d) (s:=(Go.Sort.order2 lt d (Go.Sort.order2 lt d a b s).2.1 c (Go.Sort.order2 lt d a b s).2.2).2.2) h1.1 h2.1;exact⟨h3.2.1,by dsimp only;omega⟩
end Kerb
/- The scans of the partitions. -/
namespace Kerb
open Go Go.Abs
abbrev mq(d:Array Int)(a i j:Nat):List AV:=[Yy (back d),Zv .i64 (a:Int),Zv .i64 (i:Int),Zv .i64 (j:Int)]
theorem YO{step:List AV->Option (List AV ⊕ (Ex×List AV))}{p:Int->Bool}{d:Array Int}{a j e:Nat}
  (h:∀ i,i<=j->step (mq d a i j)=if p d[i]! = Zf then Yq (.inl (mq d a (i+1) j)) else Yq (.inr (.exit e,mq d a i j)))
  (h2:∀ i,j<i->step (mq d a i j)=Yq (.inr (.exit e,mq d a i j))):∀ (m i:Nat),j+1-i=m->∃ n,eP step n (mq d a i j)=Yq (.exit e,mq d a (Go.Sort.scanUp p d j i) j):=by
 intro m;induction m with
 | zero =>
  intro i hi;refine⟨1,?_⟩;unfold eP;rw[h2 i (by omega)];unfold Go.Sort.scanUp;rw[Qa0 (by simp;omega)]
 | succ m ih =>
  intro i hi;by_cases hp:p d[i]! = Zf
  ·obtain⟨n,hn⟩:=ih (i+1) (by omega);refine⟨n+1,?_⟩;unfold eP;rw[h i (by omega),Qa1 hp];unfold Go.Sort.scanUp;rw[Qa1 (by simp[hp];omega)];exact hn
  ·refine⟨1,?_⟩;unfold eP;rw[h i (by omega),Qa0 hp];unfold Go.Sort.scanUp;rw[Qa0 (by simp[hp])]
theorem NW{step:List AV->Option (List AV ⊕ (Ex×List AV))}{p:Int->Bool}{d:Array Int}{a i e:Nat}
  (h:∀ j,i<=j+1->j+1<d.size->step (mq d a i (j+1))=if p d[j+1]! = Zf then Yq (.inl (mq d a i j)) else Yq (.inr (.exit e,mq d a i (j+1))))
  (h2:∀ j,j<i->step (mq d a i j)=Yq (.inr (.exit e,mq d a i j))) (hi:1<=i):∀ (j:Nat),j<d.size->∃ n,eP step n (mq d a i j)=Yq (.exit e,mq d a i (Go.Sort.scanDown p d i j)):=by
 intro j;induction j with
 | zero =>
  intro hj;refine⟨1,?_⟩;unfold eP;rw[h2 0 (by omega)];rfl
 | succ j ih =>
  intro hj;by_cases hc:i<=j+1
  ·by_cases hp:p d[j+1]! = Zf
   ·obtain⟨n,hn⟩:=ih (by omega);refine⟨n+1,?_⟩;unfold eP;rw[h j hc hj,Qa1 hp];unfold Go.Sort.scanDown;rw[Qa1 (by simp[hp];omega)];exact hn
   ·refine⟨1,?_⟩;unfold eP;rw[h j hc hj,Qa0 hp];unfold Go.Sort.scanDown;rw[Qa0 (by simp[hp])]
  ·refine⟨1,?_⟩;unfold eP;rw[h2 _ (by omega)];unfold Go.Sort.scanDown;rw[Qa0 (by simp;omega)]
theorem Ln{β:Type}{d:Array Int}{a i j e:Nat}{K:Ex×List AV->Option β}(ha:a<d.size)(hj:j<d.size)(hi:1<=i)(hs:d.size<=1152921504606846976):Option.bind (bJ (fun(st:List AV)=>aA st fun(x:AV) (r:List AV)=>AV.aW x fun(y:List AV)=>aA r fun(x:AV) (r:List AV)=>Zg Zz x fun(n:Int)=>aA r fun(x:AV) (r:List AV)=>Zg Zz x fun(bR:Int)=>aA r fun(x:AV) (r:List AV)=>Zg Zz x fun(bM:Int)=>ak r (aG (Zj (bR<=bM)) (aD (Zj ((0:Int)<=bR)&&Zj (bR<(↑(Zu y):Int))&&Zf) (aD (Zm (Zx bR) (Zu y)&&Zf) (Zg Zq (Zd y (Zx bR) Zh) fun(fV:Int)=>(aD (Zj ((0:Int)<=n)&&Zj (n<(↑(Zu y):Int))&&Zf) (aD (Zm (Zx n) (Zu y)&&Zf) (Zg Zq (Zd y (Zx n) Zh) fun(fM:Int)=>aG (Zj (fV<fM)) (Yq (Ym [Yy y,Zv Zz n,Zv Zz (Zy Zz (bR+(1:Int))),Zv Zz bM])) (Yq (Yx (Yw e,[Yy y,Zv Zz n,Zv Zz bR,Zv Zz bM]))))))))) (Yq (Yx (Yw e,[Yy y,Zv Zz n,Zv Zz bR,Zv Zz bM]))))) [Yy (back d),Zv .i64 (a:Int),Zv .i64 (i:Int),Zv .i64 (j:Int)]) K=K (.exit e,[Yy (back d),Zv .i64 (a:Int),Zv .i64 (Go.Sort.scanUp (fun x=>Go.Sort.ltInt x d[a]!) d j i:Int),Zv .i64 (j:Int)]):=by
 suffices h:∃ n,eP (fun(st:List AV)=>aA st fun(x:AV) (r:List AV)=>AV.aW x fun(y:List AV)=>aA r fun(x:AV) (r:List AV)=>Zg Zz x fun(n:Int)=>aA r fun(x:AV) (r:List AV)=>Zg Zz x fun(bR:Int)=>aA r fun(x:AV) (r:List AV)=>Zg Zz x fun(bM:Int)=>ak r (aG (Zj (bR<=bM)) (aD (Zj ((0:Int)<=bR)&&Zj (bR<(↑(Zu y):Int))&&Zf) (aD (Zm (Zx bR) (Zu y)&&Zf) (Zg Zq (Zd y (Zx bR) Zh) fun(fV:Int)=>(aD (Zj ((0:Int)<=n)&&Zj (n<(↑(Zu y):Int))&&Zf) (aD (Zm (Zx n) (Zu y)&&Zf) (Zg Zq (Zd y (Zx n) Zh) fun(fM:Int)=>aG (Zj (fV<fM)) (Yq (Ym [Yy y,Zv Zz n,Zv Zz (Zy Zz (bR+(1:Int))),Zv Zz bM])) (Yq (Yx (Yw e,[Yy y,Zv Zz n,Zv Zz bR,Zv Zz bM]))))))))) (Yq (Yx (Yw e,[Yy y,Zv Zz n,Zv Zz bR,Zv Zz bM]))))) n (mq d a i j)=Yq (.exit e,mq d a (Go.Sort.scanUp (fun x=>Go.Sort.ltInt x d[a]!) d j i) j) by
  obtain⟨n,hn⟩:=h;exact Qb5 (Option.bind · K) (mX hn)
 refine YO (e:=e) (p:=(fun x=>Go.Sort.ltInt x d[a]!)) (d:=d) (a:=a) (j:=j) (step:=fun(st:List AV)=>aA st fun(x:AV) (r:List AV)=>AV.aW x fun(y:List AV)=>aA r fun(x:AV) (r:List AV)=>Zg Zz x fun(n:Int)=>aA r fun(x:AV) (r:List AV)=>Zg Zz x fun(bR:Int)=>aA r fun(x:AV) (r:List AV)=>Zg Zz x fun(bM:Int)=>ak r (aG (Zj (bR<=bM)) (aD (Zj ((0:Int)<=bR)&&Zj (bR<(↑(Zu y):Int))&&Zf) (aD (Zm (Zx bR) (Zu y)&&Zf) (Zg Zq (Zd y (Zx bR) Zh) fun(fV:Int)=>(aD (Zj ((0:Int)<=n)&&Zj (n<(↑(Zu y):Int))&&Zf) (aD (Zm (Zx n) (Zu y)&&Zf) (Zg Zq (Zd y (Zx n) Zh) fun(fM:Int)=>aG (Zj (fV<fM)) (Yq (Ym [Yy y,Zv Zz n,Zv Zz (Zy Zz (bR+(1:Int))),Zv Zz bM])) (Yq (Yx (Yw e,[Yy y,Zv Zz n,Zv Zz bR,Zv Zz bM]))))))))) (Yq (Yx (Yw e,[Yy y,Zv Zz n,Zv Zz bR,Zv Zz bM]))))) ?_ ?_ _ i rfl
 ·intro i hc;have h1:i<d.size:=by omega
  dsimp only[mq];simp only[↓bQ,↓cw,↓dg,↓dr];rw[af (by simp;omega),Kerb.rd h1,Kerb.rd ha];by_cases h:d[i]! < d[a]!
  ·rw[af (by simp[h]),Qa1 (by simp[Go.Sort.ltInt,h]),show Zy .i64 ((i:Int)+1)=((i+1:Nat):Int) from Kerb.ia (by omega) (by omega)]
  ·rw[ai (by simp[h]),Qa0 (by simp[Go.Sort.ltInt,h])]
 ·intro i hc;dsimp only[mq];simp only[↓bQ,↓cw,↓dg,↓dr];rw[ai (by simp;omega)]
theorem YN{β:Type}{d:Array Int}{a i j e:Nat}{K:Ex×List AV->Option β}(ha:a<d.size)(hj:j<d.size)(hi:1<=i)(hs:d.size<=1152921504606846976):Option.bind (bJ (fun(st:List AV)=>aA st fun(x:AV) (r:List AV)=>AV.aW x fun(y:List AV)=>aA r fun(x:AV) (r:List AV)=>Zg Zz x fun(n:Int)=>aA r fun(x:AV) (r:List AV)=>Zg Zz x fun(bR:Int)=>aA r fun(x:AV) (r:List AV)=>Zg Zz x fun(bM:Int)=>ak r (aG (Zj (bR<=bM)) (aD (Zj ((0:Int)<=n)&&Zj (n<(↑(Zu y):Int))&&Zf) (aD (Zm (Zx n) (Zu y)&&Zf) (Zg Zq (Zd y (Zx n) Zh) fun(fV:Int)=>(aD (Zj ((0:Int)<=bR)&&Zj (bR<(↑(Zu y):Int))&&Zf) (aD (Zm (Zx bR) (Zu y)&&Zf) (Zg Zq (Zd y (Zx bR) Zh) fun(fM:Int)=>aG (!Zj (fV<fM)) (Yq (Ym [Yy y,Zv Zz n,Zv Zz (Zy Zz (bR+(1:Int))),Zv Zz bM])) (Yq (Yx (Yw e,[Yy y,Zv Zz n,Zv Zz bR,Zv Zz bM]))))))))) (Yq (Yx (Yw e,[Yy y,Zv Zz n,Zv Zz bR,Zv Zz bM]))))) [Yy (back d),Zv .i64 (a:Int),Zv .i64 (i:Int),Zv .i64 (j:Int)]) K=K (.exit e,[Yy (back d),Zv .i64 (a:Int),Zv .i64 (Go.Sort.scanUp (fun x => !Go.Sort.ltInt d[a]! x) d j i:Int),Zv .i64 (j:Int)]):=by
 suffices h:∃ n,eP (fun(st:List AV)=>aA st fun(x:AV) (r:List AV)=>AV.aW x fun(y:List AV)=>aA r fun(x:AV) (r:List AV)=>Zg Zz x fun(n:Int)=>aA r fun(x:AV) (r:List AV)=>Zg Zz x fun(bR:Int)=>aA r fun(x:AV) (r:List AV)=>Zg Zz x fun(bM:Int)=>ak r (aG (Zj (bR<=bM)) (aD (Zj ((0:Int)<=n)&&Zj (n<(↑(Zu y):Int))&&Zf) (aD (Zm (Zx n) (Zu y)&&Zf) (Zg Zq (Zd y (Zx n) Zh) fun(fV:Int)=>(aD (Zj ((0:Int)<=bR)&&Zj (bR<(↑(Zu y):Int))&&Zf) (aD (Zm (Zx bR) (Zu y)&&Zf) (Zg Zq (Zd y (Zx bR) Zh) fun(fM:Int)=>aG (!Zj (fV<fM)) (Yq (Ym [Yy y,Zv Zz n,Zv Zz (Zy Zz (bR+(1:Int))),Zv Zz bM])) (Yq (Yx (Yw e,[Yy y,Zv Zz n,Zv Zz bR,Zv Zz bM]))))))))) (Yq (Yx (Yw e,[Yy y,Zv Zz n,Zv Zz bR,Zv Zz bM]))))) n (mq d a i j)=Yq (.exit e,mq d a (Go.Sort.scanUp (fun x => !Go.Sort.ltInt d[a]! x) d j i) j) by
  obtain⟨n,hn⟩:=h;exact Qb5 (Option.bind · K) (mX hn)
 refine YO (e:=e) (p:=(fun x => !Go.Sort.ltInt d[a]! x)) (d:=d) (a:=a) (j:=j) (step:=fun(st:List AV)=>aA st fun(x:AV) (r:List AV)=>AV.aW x fun(y:List AV)=>aA r fun(x:AV) (r:List AV)=>Zg Zz x fun(n:Int)=>aA r fun(x:AV) (r:List AV)=>Zg Zz x fun(bR:Int)=>aA r fun(x:AV) (r:List AV)=>Zg Zz x fun(bM:Int)=>ak r (aG (Zj (bR<=bM)) (aD (Zj ((0:Int)<=n)&&Zj (n<(↑(Zu y):Int))&&Zf) (aD (Zm (Zx n) (Zu y)&&Zf) (Zg Zq (Zd y (Zx n) Zh) fun(fV:Int)=>(aD (Zj ((0:Int)<=bR)&&Zj (bR<(↑(Zu y):Int))&&Zf) (aD (Zm (Zx bR) (Zu y)&&Zf) (Zg Zq (Zd y (Zx bR) Zh) fun(fM:Int)=>aG (!Zj (fV<fM)) (Yq (Ym [Yy y,Zv Zz n,Zv Zz (Zy Zz (bR+(1:Int))),Zv Zz bM])) (Yq (Yx (Yw e,[Yy y,Zv Zz n,Zv Zz bR,Zv Zz bM]))))))))) (Yq (Yx (Yw e,[Yy y,Zv Zz n,Zv Zz bR,Zv Zz bM]))))) ?_ ?_ _ i rfl
 ·intro i hc;have h1:i<d.size:=by omega
  dsimp only[mq];simp only[↓bQ,↓cw,↓dg,↓dr];rw[af (by simp;omega),Kerb.rd ha,Kerb.rd h1];by_cases h:d[a]! < d[i]!
  ·rw[ai (by simp[h]),Qa0 (by simp[Go.Sort.ltInt,h])]
  ·rw[af (by simp[h]),Qa1 (by simp[Go.Sort.ltInt,h]),show Zy .i64 ((i:Int)+1)=((i+1:Nat):Int) from Kerb.ia (by omega) (by omega)]
 ·intro i hc;dsimp only[mq];simp only[↓bQ,↓cw,↓dg,↓dr];rw[ai (by simp;omega)]
theorem Dh{β:Type}{d:Array Int}{a i j e:Nat}{K:Ex×List AV->Option β}(ha:a<d.size)(hj:j<d.size)(hi:1<=i)(hs:d.size<=1152921504606846976):Option.bind (bJ (fun(st:List AV)=>aA st fun(x:AV) (r:List AV)=>AV.aW x fun(y:List AV)=>aA r fun(x:AV) (r:List AV)=>Zg Zz x fun(n:Int)=>aA r fun(x:AV) (r:List AV)=>Zg Zz x fun(bR:Int)=>aA r fun(x:AV) (r:List AV)=>Zg Zz x fun(bM:Int)=>ak r (aG (Zj (bR<=bM)) (aD (Zj ((0:Int)<=bM)&&Zj (bM<(↑(Zu y):Int))&&Zf) (aD (Zm (Zx bM) (Zu y)&&Zf) (Zg Zq (Zd y (Zx bM) Zh) fun(fV:Int)=>(aD (Zj ((0:Int)<=n)&&Zj (n<(↑(Zu y):Int))&&Zf) (aD (Zm (Zx n) (Zu y)&&Zf) (Zg Zq (Zd y (Zx n) Zh) fun(fM:Int)=>aG (!Zj (fV<fM)) (Yq (Ym [Yy y,Zv Zz n,Zv Zz bR,Zv Zz (Zy Zz (bM-(1:Int)))])) (Yq (Yx (Yw e,[Yy y,Zv Zz n,Zv Zz bR,Zv Zz bM]))))))))) (Yq (Yx (Yw e,[Yy y,Zv Zz n,Zv Zz bR,Zv Zz bM]))))) [Yy (back d),Zv .i64 (a:Int),Zv .i64 (i:Int),Zv .i64 (j:Int)]) K=K (.exit e,[Yy (back d),Zv .i64 (a:Int),Zv .i64 (i:Int),Zv .i64 (Go.Sort.scanDown (fun x => !Go.Sort.ltInt x d[a]!) d i j:Int)]):=by
 suffices h:∃ n,eP (fun(st:List AV)=>aA st fun(x:AV) (r:List AV)=>AV.aW x fun(y:List AV)=>aA r fun(x:AV) (r:List AV)=>Zg Zz x fun(n:Int)=>aA r fun(x:AV) (r:List AV)=>Zg Zz x fun(bR:Int)=>aA r fun(x:AV) (r:List AV)=>Zg Zz x fun(bM:Int)=>ak r (aG (Zj (bR<=bM)) (aD (Zj ((0:Int)<=bM)&&Zj (bM<(↑(Zu y):Int))&&Zf) (aD (Zm (Zx bM) (Zu y)&&Zf) (Zg Zq (Zd y (Zx bM) Zh) fun(fV:Int)=>(aD (Zj ((0:Int)<=n)&&Zj (n<(↑(Zu y):Int))&&Zf) (aD (Zm (Zx n) (Zu y)&&Zf) (Zg Zq (Zd y (Zx n) Zh) fun(fM:Int)=>aG (!Zj (fV<fM)) (Yq (Ym [Yy y,Zv Zz n,Zv Zz bR,Zv Zz (Zy Zz (bM-(1:Int)))])) (Yq (Yx (Yw e,[Yy y,Zv Zz n,Zv Zz bR,Zv Zz bM]))))))))) (Yq (Yx (Yw e,[Yy y,Zv Zz n,Zv Zz bR,Zv Zz bM]))))) n (mq d a i j)=Yq (.exit e,mq d a i (Go.Sort.scanDown (fun x => !Go.Sort.ltInt x d[a]!) d i j)) by
  obtain⟨n,hn⟩:=h;exact Qb5 (Option.bind · K) (mX hn)
 refine NW (e:=e) (p:=(fun x => !Go.Sort.ltInt x d[a]!)) (d:=d) (a:=a) (i:=i) (step:=fun(st:List AV)=>aA st fun(x:AV) (r:List AV)=>AV.aW x fun(y:List AV)=>aA r fun(x:AV) (r:List AV)=>Zg Zz x fun(n:Int)=>aA r fun(x:AV) (r:List AV)=>Zg Zz x fun(bR:Int)=>aA r fun(x:AV) (r:List AV)=>Zg Zz x fun(bM:Int)=>ak r (aG (Zj (bR<=bM)) (aD (Zj ((0:Int)<=bM)&&Zj (bM<(↑(Zu y):Int))&&Zf) (aD (Zm (Zx bM) (Zu y)&&Zf) (Zg Zq (Zd y (Zx bM) Zh) fun(fV:Int)=>(aD (Zj ((0:Int)<=n)&&Zj (n<(↑(Zu y):Int))&&Zf) (aD (Zm (Zx n) (Zu y)&&Zf) (Zg Zq (Zd y (Zx n) Zh) fun(fM:Int)=>aG (!Zj (fV<fM)) (Yq (Ym [Yy y,Zv Zz n,Zv Zz bR,Zv Zz (Zy Zz (bM-(1:Int)))])) (Yq (Yx (Yw e,[Yy y,Zv Zz n,Zv Zz bR,Zv Zz bM]))))))))) (Yq (Yx (Yw e,[Yy y,Zv Zz n,Zv Zz bR,Zv Zz bM]))))) ?_ ?_ hi j hj
 ·intro j hc tU;have h1:(j+1)<d.size:=by omega
  dsimp only[mq];simp only[↓bQ,↓cw,↓dg,↓dr];rw[af (by simp;omega),Kerb.rd h1,Kerb.rd ha];by_cases h:d[j+1]! < d[a]!
  ·rw[ai (by simp[h]),Qa0 (by simp[Go.Sort.ltInt,h])]
  ·rw[af (by simp[h]),Qa1 (by simp[Go.Sort.ltInt,h]),show Zy .i64 (((j+1:Nat):Int)-1)=(j:Int) from(Kerb.ia (by omega) (by omega)).trans (by omega)]
 ·intro j hc;dsimp only[mq];simp only[↓bQ,↓cw,↓dg,↓dr];rw[ai (by simp;omega)]
theorem Rv{β:Type}{d:Array Int}{a i j e:Nat}{K:Ex×List AV->Option β}(ha:a<d.size)(hj:j<d.size)(hi:1<=i)(hs:d.size<=1152921504606846976):Option.bind (bJ (fun(st:List AV)=>aA st fun(x:AV) (r:List AV)=>AV.aW x fun(y:List AV)=>aA r fun(x:AV) (r:List AV)=>Zg Zz x fun(n:Int)=>aA r fun(x:AV) (r:List AV)=>Zg Zz x fun(bR:Int)=>aA r fun(x:AV) (r:List AV)=>Zg Zz x fun(bM:Int)=>ak r (aG (Zj (bR<=bM)) (aD (Zj ((0:Int)<=n)&&Zj (n<(↑(Zu y):Int))&&Zf) (aD (Zm (Zx n) (Zu y)&&Zf) (Zg Zq (Zd y (Zx n) Zh) fun(fV:Int)=>(aD (Zj ((0:Int)<=bM)&&Zj (bM<(↑(Zu y):Int))&&Zf) (aD (Zm (Zx bM) (Zu y)&&Zf) (Zg Zq (Zd y (Zx bM) Zh) fun(fM:Int)=>aG (Zj (fV<fM)) (Yq (Ym [Yy y,Zv Zz n,Zv Zz bR,Zv Zz (Zy Zz (bM-(1:Int)))])) (Yq (Yx (Yw e,[Yy y,Zv Zz n,Zv Zz bR,Zv Zz bM]))))))))) (Yq (Yx (Yw e,[Yy y,Zv Zz n,Zv Zz bR,Zv Zz bM]))))) [Yy (back d),Zv .i64 (a:Int),Zv .i64 (i:Int),Zv .i64 (j:Int)]) K=K (.exit e,[Yy (back d),Zv .i64 (a:Int),Zv .i64 (i:Int),Zv .i64 (Go.Sort.scanDown (fun x=>Go.Sort.ltInt d[a]! x) d i j:Int)]):=by
 suffices h:∃ n,eP (fun(st:List AV)=>aA st fun(x:AV) (r:List AV)=>AV.aW x fun(y:List AV)=>aA r fun(x:AV) (r:List AV)=>Zg Zz x fun(n:Int)=>aA r fun(x:AV) (r:List AV)=>Zg Zz x fun(bR:Int)=>aA r fun(x:AV) (r:List AV)=>Zg Zz x fun(bM:Int)=>ak r (aG (Zj (bR<=bM)) (aD (Zj ((0:Int)<=n)&&Zj (n<(↑(Zu y):Int))&&Zf) (aD (Zm (Zx n) (Zu y)&&Zf) (Zg Zq (Zd y (Zx n) Zh) fun(fV:Int)=>(aD (Zj ((0:Int)<=bM)&&Zj (bM<(↑(Zu y):Int))&&Zf) (aD (Zm (Zx bM) (Zu y)&&Zf) (Zg Zq (Zd y (Zx bM) Zh) fun(fM:Int)=>aG (Zj (fV<fM)) (Yq (Ym [Yy y,Zv Zz n,Zv Zz bR,Zv Zz (Zy Zz (bM-(1:Int)))])) (Yq (Yx (Yw e,[Yy y,Zv Zz n,Zv Zz bR,Zv Zz bM]))))))))) (Yq (Yx (Yw e,[Yy y,Zv Zz n,Zv Zz bR,Zv Zz bM]))))) n (mq d a i j)=Yq (.exit e,mq d a i (Go.Sort.scanDown (fun x=>Go.Sort.ltInt d[a]! x) d i j)) by
  obtain⟨n,hn⟩:=h;exact Qb5 (Option.bind · K) (mX hn)
 refine NW (e:=e) (p:=(fun x=>Go.Sort.ltInt d[a]! x)) (d:=d) (a:=a) (i:=i) (step:=fun(st:List AV)=>aA st fun(x:AV) (r:List AV)=>AV.aW x fun(y:List AV)=>aA r fun(x:AV) (r:List AV)=>Zg Zz x fun(n:Int)=>aA r fun(x:AV) (r:List AV)=>Zg Zz x fun(bR:Int)=>aA r fun(x:AV) (r:List AV)=>Zg Zz x fun(bM:Int)=>ak r (aG (Zj (bR<=bM)) (aD (Zj ((0:Int)<=n)&&Zj (n<(↑(Zu y):Int))&&Zf) (aD (Zm (Zx n) (Zu y)&&Zf) (Zg Zq (Zd y (Zx n) Zh) fun(fV:Int)=>(aD (Zj ((0:Int)<=bM)&&Zj (bM<(↑(Zu y):Int))&&Zf) (aD (Zm (Zx bM) (Zu y)&&Zf) (Zg Zq (Zd y (Zx bM) Zh) fun(fM:Int)=>aG (Zj (fV<fM)) (Yq (Ym [Yy y,Zv Zz n,Zv Zz bR,Zv Zz (Zy Zz (bM-(1:Int)))])) (Yq (Yx (Yw e,[Yy y,Zv Zz n,Zv Zz bR,Zv Zz bM]))))))))) (Yq (Yx (Yw e,[Yy y,Zv Zz n,Zv Zz bR,Zv Zz bM]))))) ?_ ?_ hi j hj
 ·intro j hc tU;have h1:(j+1)<d.size:=by omega
  dsimp only[mq];simp only[↓bQ,↓cw,↓dg,↓dr];rw[af (by simp;omega),Kerb.rd ha,Kerb.rd h1];by_cases h:d[a]! < d[j+1]!
  ·rw[af (by simp[h]),Qa1 (by simp[Go.Sort.ltInt,h]),show Zy .i64 (((j+1:Nat):Int)-1)=(j:Int) from(Kerb.ia (by omega) (by omega)).trans (by omega)]
  ·rw[ai (by simp[h]),Qa0 (by simp[Go.Sort.ltInt,h])]
 ·intro j hc;dsimp only[mq];simp only[↓bQ,↓cw,↓dg,↓dr];rw[ai (by simp;omega)]
theorem BB(d:Array Int)(a b p:Nat):part (back d) (a:Int) (b:Int) (p:Int)=((Go.Sort.partition Go.Sort.ltInt d a b p).1,(Go.Sort.partition Go.Sort.ltInt d a b p).2.1,back (Go.Sort.partition Go.Sort.ltInt d a b p).2.2):=by
 simp only[part,fl,Zk]
theorem wl(d:Array Int)(a b p:Nat):Fo (back d) (a:Int) (b:Int) (p:Int)=((Go.Sort.partitionEqual Go.Sort.ltInt d a b p).1,back (Go.Sort.partitionEqual Go.Sort.ltInt d a b p).2):=by
 simp only[Fo,fl,Zk]
theorem yY{lt:Int->Int->Bool}{d:Array Int}{a s n:Nat}(ha:a+1<n):(Go.Sort.medianAdjacent lt d a s).1<n/\(Go.Sort.medianAdjacent lt d a s).2<=s+3:=by
 unfold Go.Sort.medianAdjacent;exact Mn (by omega) (by omega) ha
theorem GR{β:Type}(f:Int->Option β)(n:Nat):aG ((n:Int)==(0:Int)) (f 1) (aG ((n:Int)==(12:Int)) (f 2) (f 0))=f (GQ (if n=0 then Go.Sort.Hint.increasing else if n=12 then Go.Sort.Hint.decreasing else Go.Sort.Hint.unknown)):=by
 by_cases h:n=0
 ·subst h;rfl
 ·rw[ai (by simpa using h),Qa0 h];by_cases h2:n=12
  ·subst h2;rfl
  ·rw[ai (by simp;omega),Qa0 h2];rfl
end Kerb
/- The loops of the sort that stops early (printed by mksort3.py). -/
namespace Kerb
open Go Go.Abs
theorem FI{d:Array Int}{A s:Int}{bb:Bool}{b e:Nat}(hb:b<=d.size)(hs:d.size<=1152921504606846976):∀ (m i:Nat),b-i=m->1<=i->i<=b->bJ (fun(st:List AV)=>aA st fun(x:AV) (r:List AV)=>AV.aW x fun(y:List AV)=>aA r fun(x:AV) (r:List AV)=>Zg Zz x fun(n:Int)=>aA r fun(x:AV) (r:List AV)=>Zg Zz x fun(bR:Int)=>aA r fun(x:AV) (r:List AV)=>Zg Zz x fun(bM:Int)=>aA r fun(x:AV) (r:List AV)=>Zg Zz x fun(fV:Int)=>aA r fun(x:AV) (r:List AV)=>AV.dD x fun(b:Bool)=>ak r (aG (Zj (bM<bR)) (aD (Zj ((0:Int)<=bM)&&Zj (bM<(↑(Zu y):Int))&&Zf) (aD (Zm (Zx bM) (Zu y)&&Zf) (Zg Zq (Zd y (Zx bM) Zh) fun(fM:Int)=>aD (Zj ((0:Int)<=Zy Zz (bM-(1:Int)))&&Zj (Zy Zz (bM-(1:Int))<(↑(Zu y):Int))&&Zf) (aD (Zm (Zx (Zy Zz (bM-(1:Int)))) (Zu y)&&Zf) (Zg Zq (Zd y (Zx (Zy Zz (bM-(1:Int)))) Zh) fun(ie:Int)=>aG (!Zj (fM<ie)) (Yq (Ym [Yy y,Zv Zz n,Zv Zz bR,Zv Zz (Zy Zz (bM+(1:Int))),Zv Zz fV,Yd b])) (Yq (Yx (Yw e,[Yy y,Zv Zz n,Zv Zz bR,Zv Zz bM,Zv Zz fV,Yd b])))))))) (Yq (Yx (Yw e,[Yy y,Zv Zz n,Zv Zz bR,Zv Zz bM,Zv Zz fV,Yd b]))))) [Yy (back d),Zv .i64 A,Zv .i64 (b:Int),Zv .i64 (i:Int),Zv .i64 s,Yd bb]=Yq (.exit e,[Yy (back d),Zv .i64 A,Zv .i64 (b:Int),Zv .i64 (Go.Sort.scanSorted Go.Sort.ltInt d b i:Int),Zv .i64 s,Yd bb]):=by
 suffices h:∀ (m i:Nat),b-i=m->1<=i->i<=b->∃ n,eP (fun(st:List AV)=>aA st fun(x:AV) (r:List AV)=>AV.aW x fun(y:List AV)=>aA r fun(x:AV) (r:List AV)=>Zg Zz x fun(n:Int)=>aA r fun(x:AV) (r:List AV)=>Zg Zz x fun(bR:Int)=>aA r fun(x:AV) (r:List AV)=>Zg Zz x fun(bM:Int)=>aA r fun(x:AV) (r:List AV)=>Zg Zz x fun(fV:Int)=>aA r fun(x:AV) (r:List AV)=>AV.dD x fun(b:Bool)=>ak r (aG (Zj (bM<bR)) (aD (Zj ((0:Int)<=bM)&&Zj (bM<(↑(Zu y):Int))&&Zf) (aD (Zm (Zx bM) (Zu y)&&Zf) (Zg Zq (Zd y (Zx bM) Zh) fun(fM:Int)=>aD (Zj ((0:Int)<=Zy Zz (bM-(1:Int)))&&Zj (Zy Zz (bM-(1:Int))<(↑(Zu y):Int))&&Zf) (aD (Zm (Zx (Zy Zz (bM-(1:Int)))) (Zu y)&&Zf) (Zg Zq (Zd y (Zx (Zy Zz (bM-(1:Int)))) Zh) fun(ie:Int)=>aG (!Zj (fM<ie)) (Yq (Ym [Yy y,Zv Zz n,Zv Zz bR,Zv Zz (Zy Zz (bM+(1:Int))),Zv Zz fV,Yd b])) (Yq (Yx (Yw e,[Yy y,Zv Zz n,Zv Zz bR,Zv Zz bM,Zv Zz fV,Yd b])))))))) (Yq (Yx (Yw e,[Yy y,Zv Zz n,Zv Zz bR,Zv Zz bM,Zv Zz fV,Yd b]))))) n [Yy (back d),Zv .i64 A,Zv .i64 (b:Int),Zv .i64 (i:Int),Zv .i64 s,Yd bb]=Yq (.exit e,[Yy (back d),Zv .i64 A,Zv .i64 (b:Int),Zv .i64 (Go.Sort.scanSorted Go.Sort.ltInt d b i:Int),Zv .i64 s,Yd bb]) by
  intro m i h1 h2 h3;obtain⟨n,hn⟩:=h m i h1 h2 h3;exact mX hn
 intro m;induction m with
 | zero =>
  intro i hi h1 h2;refine⟨1,?_⟩;unfold eP;simp only[↓bQ,↓cw,↓dg,↓dM,↓dr];rw[ai (by simp;omega)];unfold Go.Sort.scanSorted;rw[Qa0 (by simp;omega)]
 | succ m ih =>
  intro i hi h1 h2;obtain⟨k,rfl⟩:∃ k,i=k+1:=⟨i-1,by omega⟩;have g1:k+1<d.size:=by omega
  have g2:k<d.size:=by omega
  by_cases h:d[k+1]! < d[k]!
  ·refine⟨1,?_⟩;unfold eP;simp only[↓bQ,↓cw,↓dg,↓dM,↓dr];rw[af (by simp;omega),Kerb.rd g1,show Zy .i64 (((k+1:Nat):Int)-1)=((k:Nat):Int) from(Kerb.ia (by omega) (by omega)).trans (by omega),Kerb.rd g2,ai (by simp[h])];unfold Go.Sort.scanSorted;rw[Qa0 (by simp[Go.Sort.ltInt,h])]
  ·obtain⟨n,hn⟩:=ih (k+1+1) (by omega) (by omega) (by omega);refine⟨n+1,?_⟩;unfold eP;simp only[↓bQ,↓cw,↓dg,↓dM,↓dr];rw[af (by simp;omega),Kerb.rd g1,show Zy .i64 (((k+1:Nat):Int)-1)=((k:Nat):Int) from(Kerb.ia (by omega) (by omega)).trans (by omega),Kerb.rd g2,af (by simp[h])];unfold Go.Sort.scanSorted;rw[Qa1 (by simp[Go.Sort.ltInt,h];omega),show Zy .i64 (((k+1:Nat):Int)+1)=((k+1+1:Nat):Int) from(Kerb.ia (by omega) (by omega)).trans (by omega)];exact hn
theorem HR{A B I s:Int}{bb:Bool}{e:Nat}:∀ (j:Nat) (d:Array Int),j<d.size->d.size<=1152921504606846976->∃ m,bJ (fun(st:List AV)=>aA st fun(x:AV) (r:List AV)=>AV.aW x fun(y:List AV)=>aA r fun(x:AV) (r:List AV)=>Zg Zz x fun(n:Int)=>aA r fun(x:AV) (r:List AV)=>Zg Zz x fun(gP:Int)=>aA r fun(x:AV) (r:List AV)=>Zg Zz x fun(iE:Int)=>aA r fun(x:AV) (r:List AV)=>Zg Zz x fun(gJ:Int)=>aA r fun(x:AV) (r:List AV)=>Zg Zz x fun(bE:Int)=>aA r fun(x:AV) (r:List AV)=>AV.dD x fun(b:Bool)=>ak r (aG (Zj (bE>=(1:Int))) (aD (Zj ((0:Int)<=bE)&&Zj (bE<(↑(Zu y):Int))&&Zf) (aD (Zm (Zx bE) (Zu y)&&Zf) (Zg Zq (Zd y (Zx bE) Zh) fun(iV:Int)=>aD (Zj ((0:Int)<=Zy Zz (bE-(1:Int)))&&Zj (Zy Zz (bE-(1:Int))<(↑(Zu y):Int))&&Zf) (aD (Zm (Zx (Zy Zz (bE-(1:Int)))) (Zu y)&&Zf) (Zg Zq (Zd y (Zx (Zy Zz (bE-(1:Int)))) Zh) fun(f_:Int)=>aG (!Zj (iV<f_)) (Yq (Yx (Yw e,[Yy y,Zv Zz n,Zv Zz gP,Zv Zz iE,Zv Zz gJ,Zv Zz bE,Yd b]))) (aD (Zj ((0:Int)<=Zy Zz (bE-(1:Int)))&&Zj (Zy Zz (bE-(1:Int))<(↑(Zu y):Int))&&Zf) (aD (Zm (Zx (Zy Zz (bE-(1:Int)))) (Zu y)&&Zf) (Zg Zq (Zd y (Zx (Zy Zz (bE-(1:Int)))) Zh) fun(dS:Int)=>aD (Zj ((0:Int)<=bE)&&Zj (bE<(↑(Zu y):Int))&&Zf) (aD (Zm (Zx bE) (Zu y)&&Zf) (Zg Zq (Zd y (Zx bE) Zh) fun(bO:Int)=>aD (Zj ((0:Int)<=bE)&&Zj (bE<(↑(Zu y):Int))&&Zf) (aD (Zm (Zx bE) (Zu y)&&Zf) (Zg Zq (Zd y (Zx bE) Zh) fun(qH:Int)=>aD (Zu [Zv Zq dS]==nat_lit 1&&Zf&&Zf&&Zf&&Zm (Zx bE) (Zu y)) (aD (Zj ((0:Int)<=Zy Zz (bE-(1:Int)))&&Zj (Zy Zz (bE-(1:Int))<(↑(Zu (Yf y (Zx bE) (Zv Zq dS))):Int))&&Zf) (aD (Zm (Zx (Zy Zz (bE-(1:Int)))) (Zu (Yf y (Zx bE) (Zv Zq dS)))&&Zf) (Zg Zq (Zd (Yf y (Zx bE) (Zv Zq dS)) (Zx (Zy Zz (bE-(1:Int)))) Zh) fun(qI:Int)=>aD (Zu [Zv Zq bO]==nat_lit 1&&Zf&&Zf&&Zf&&Zm (Zx (Zy Zz (bE-(1:Int)))) (Zu (Yf y (Zx bE) (Zv Zq dS)))) (Yq (Ym [Yy (Yf (Yf y (Zx bE) (Zv Zq dS)) (Zx (Zy Zz (bE-(1:Int)))) (Zv Zq bO)),Zv Zz n,Zv Zz gP,Zv Zz iE,Zv Zz gJ,Zv Zz (Zy Zz (bE-(1:Int))),Yd b]))))))))))))))))) (Yq (Yx (Yw e,[Yy y,Zv Zz n,Zv Zz gP,Zv Zz iE,Zv Zz gJ,Zv Zz bE,Yd b]))))) [Yy (back d),Zv .i64 A,Zv .i64 B,Zv .i64 I,Zv .i64 s,Zv .i64 (j:Int),Yd bb]=Yq (.exit e,[Yy (back (Go.Sort.shiftDown Go.Sort.ltInt j d)),Zv .i64 A,Zv .i64 B,Zv .i64 I,Zv .i64 s,Zv .i64 m,Yd bb]):=by
 suffices h:∀ (j:Nat) (d:Array Int),j<d.size->d.size<=1152921504606846976->∃ m n,eP (fun(st:List AV)=>aA st fun(x:AV) (r:List AV)=>AV.aW x fun(y:List AV)=>aA r fun(x:AV) (r:List AV)=>Zg Zz x fun(n:Int)=>aA r fun(x:AV) (r:List AV)=>Zg Zz x fun(gP:Int)=>aA r fun(x:AV) (r:List AV)=>Zg Zz x fun(iE:Int)=>aA r fun(x:AV) (r:List AV)=>Zg Zz x fun(gJ:Int)=>aA r fun(x:AV) (r:List AV)=>Zg Zz x fun(bE:Int)=>aA r fun(x:AV) (r:List AV)=>AV.dD x fun(b:Bool)=>ak r (aG (Zj (bE>=(1:Int))) (aD (Zj ((0:Int)<=bE)&&Zj (bE<(↑(Zu y):Int))&&Zf) (aD (Zm (Zx bE) (Zu y)&&Zf) (Zg Zq (Zd y (Zx bE) Zh) fun(iV:Int)=>aD (Zj ((0:Int)<=Zy Zz (bE-(1:Int)))&&Zj (Zy Zz (bE-(1:Int))<(↑(Zu y):Int))&&Zf) (aD (Zm (Zx (Zy Zz (bE-(1:Int)))) (Zu y)&&Zf) (Zg Zq (Zd y (Zx (Zy Zz (bE-(1:Int)))) Zh) fun(f_:Int)=>aG (!Zj (iV<f_)) (Yq (Yx (Yw e,[Yy y,Zv Zz n,Zv Zz gP,Zv Zz iE,Zv Zz gJ,Zv Zz bE,Yd b]))) (aD (Zj ((0:Int)<=Zy Zz (bE-(1:Int)))&&Zj (Zy Zz (bE-(1:Int))<(↑(Zu y):Int))&&Zf) (aD (Zm (Zx (Zy Zz (bE-(1:Int)))) (Zu y)&&Zf) (Zg Zq (Zd y (Zx (Zy Zz (bE-(1:Int)))) Zh) fun(dS:Int)=>aD (Zj ((0:Int)<=bE)&&Zj (bE<(↑(Zu y):Int))&&Zf) (aD (Zm (Zx bE) (Zu y)&&Zf) (Zg Zq (Zd y (Zx bE) Zh) fun(bO:Int)=>aD (Zj ((0:Int)<=bE)&&Zj (bE<(↑(Zu y):Int))&&Zf) (aD (Zm (Zx bE) (Zu y)&&Zf) (Zg Zq (Zd y (Zx bE) Zh) fun(qH:Int)=>aD (Zu [Zv Zq dS]==nat_lit 1&&Zf&&Zf&&Zf&&Zm (Zx bE) (Zu y)) (aD (Zj ((0:Int)<=Zy Zz (bE-(1:Int)))&&Zj (Zy Zz (bE-(1:Int))<(↑(Zu (Yf y (Zx bE) (Zv Zq dS))):Int))&&Zf) (aD (Zm (Zx (Zy Zz (bE-(1:Int)))) (Zu (Yf y (Zx bE) (Zv Zq dS)))&&Zf) (Zg Zq (Zd (Yf y (Zx bE) (Zv Zq dS)) (Zx (Zy Zz (bE-(1:Int)))) Zh) fun(qI:Int)=>aD (Zu [Zv Zq bO]==nat_lit 1&&Zf&&Zf&&Zf&&Zm (Zx (Zy Zz (bE-(1:Int)))) (Zu (Yf y (Zx bE) (Zv Zq dS)))) (Yq (Ym [Yy (Yf (Yf y (Zx bE) (Zv Zq dS)) (Zx (Zy Zz (bE-(1:Int)))) (Zv Zq bO)),Zv Zz n,Zv Zz gP,Zv Zz iE,Zv Zz gJ,Zv Zz (Zy Zz (bE-(1:Int))),Yd b]))))))))))))))))) (Yq (Yx (Yw e,[Yy y,Zv Zz n,Zv Zz gP,Zv Zz iE,Zv Zz gJ,Zv Zz bE,Yd b]))))) n [Yy (back d),Zv .i64 A,Zv .i64 B,Zv .i64 I,Zv .i64 s,Zv .i64 (j:Int),Yd bb]=Yq (.exit e,[Yy (back (Go.Sort.shiftDown Go.Sort.ltInt j d)),Zv .i64 A,Zv .i64 B,Zv .i64 I,Zv .i64 s,Zv .i64 m,Yd bb]) by
  intro j d h1 h2;obtain⟨m,n,hn⟩:=h j d h1 h2;exact⟨m,mX hn⟩
 intro j;induction j with
 | zero =>
  intro d h1 h2;refine⟨((0:Nat):Int),1,?_⟩;unfold eP;simp only[↓bQ,↓cw,↓dg,↓dM,↓dr];rw[ai (by simp)];rfl
 | succ k ih =>
  intro d h1 h2;have g2:k<d.size:=by omega
  by_cases h:d[k+1]! < d[k]!
  ·obtain⟨m,n,hn⟩:=ih (Go.Sort.swp d (k+1) k) (by rw[swp_size];omega) (by rw[swp_size];exact h2);refine⟨m,n+1,?_⟩;unfold eP;simp only[↓bQ,↓cw,↓dg,↓dM,↓dr];rw[af (by simp;omega),Kerb.rd h1];simp only[show Zy .i64 (((k+1:Nat):Int)-1)=((k:Nat):Int) from(Kerb.ia (by omega) (by omega)).trans (by omega)];rw[Kerb.rd g2,ai (by simp[h])];rw[Kerb.rd g2,Kerb.rd h1,Kerb.wr h1 (by simp[Kerb.aX];omega),Kerb.dh,Kerb.wr (by rw[Xy];exact g2) (by simp[Kerb.aX];omega),Kerb.dh,show(Yn (Yn d (k+1) d[k]!) k d[k+1]!)=Go.Sort.swp d (k+1) k from rfl];unfold Go.Sort.shiftDown;rw[Qa0 (by simp[Go.Sort.ltInt,h])];exact hn
  ·refine⟨((k+1:Nat):Int),1,?_⟩;unfold eP;simp only[↓bQ,↓cw,↓dg,↓dM,↓dr];rw[af (by simp;omega),Kerb.rd h1];simp only[show Zy .i64 (((k+1:Nat):Int)-1)=((k:Nat):Int) from(Kerb.ia (by omega) (by omega)).trans (by omega)];rw[Kerb.rd g2,af (by simp[h])];unfold Go.Sort.shiftDown;rw[Qa1 (by simp[Go.Sort.ltInt,h])]
theorem D2{A I s:Int}{bb:Bool}{b e:Nat}:∀ (m:Nat) (j:Nat) (d:Array Int),b-j=m->1<=j->j<=b->b<=d.size->d.size<=1152921504606846976->∃ m,bJ (fun(st:List AV)=>aA st fun(x:AV) (r:List AV)=>AV.aW x fun(y:List AV)=>aA r fun(x:AV) (r:List AV)=>Zg Zz x fun(n:Int)=>aA r fun(x:AV) (r:List AV)=>Zg Zz x fun(iV:Int)=>aA r fun(x:AV) (r:List AV)=>Zg Zz x fun(f_:Int)=>aA r fun(x:AV) (r:List AV)=>Zg Zz x fun(dS:Int)=>aA r fun(x:AV) (r:List AV)=>Zg Zz x fun(bO:Int)=>aA r fun(x:AV) (r:List AV)=>AV.dD x fun(b:Bool)=>ak r (aG (Zj (bO<iV)) (aD (Zj ((0:Int)<=bO)&&Zj (bO<(↑(Zu y):Int))&&Zf) (aD (Zm (Zx bO) (Zu y)&&Zf) (Zg Zq (Zd y (Zx bO) Zh) fun(qH:Int)=>aD (Zj ((0:Int)<=Zy Zz (bO-(1:Int)))&&Zj (Zy Zz (bO-(1:Int))<(↑(Zu y):Int))&&Zf) (aD (Zm (Zx (Zy Zz (bO-(1:Int)))) (Zu y)&&Zf) (Zg Zq (Zd y (Zx (Zy Zz (bO-(1:Int)))) Zh) fun(qI:Int)=>aG (!Zj (qH<qI)) (Yq (Yx (Yw e,[Yy y,Zv Zz n,Zv Zz iV,Zv Zz f_,Zv Zz dS,Zv Zz bO,Yd b]))) (aD (Zj ((0:Int)<=Zy Zz (bO-(1:Int)))&&Zj (Zy Zz (bO-(1:Int))<(↑(Zu y):Int))&&Zf) (aD (Zm (Zx (Zy Zz (bO-(1:Int)))) (Zu y)&&Zf) (Zg Zq (Zd y (Zx (Zy Zz (bO-(1:Int)))) Zh) fun(jv:Int)=>aD (Zj ((0:Int)<=bO)&&Zj (bO<(↑(Zu y):Int))&&Zf) (aD (Zm (Zx bO) (Zu y)&&Zf) (Zg Zq (Zd y (Zx bO) Zh) fun(vm:Int)=>aD (Zj ((0:Int)<=bO)&&Zj (bO<(↑(Zu y):Int))&&Zf) (aD (Zm (Zx bO) (Zu y)&&Zf) (Zg Zq (Zd y (Zx bO) Zh) fun(O5:Int)=>aD (Zu [Zv Zq jv]==nat_lit 1&&Zf&&Zf&&Zf&&Zm (Zx bO) (Zu y)) (aD (Zj ((0:Int)<=Zy Zz (bO-(1:Int)))&&Zj (Zy Zz (bO-(1:Int))<(↑(Zu (Yf y (Zx bO) (Zv Zq jv))):Int))&&Zf) (aD (Zm (Zx (Zy Zz (bO-(1:Int)))) (Zu (Yf y (Zx bO) (Zv Zq jv)))&&Zf) (Zg Zq (Zd (Yf y (Zx bO) (Zv Zq jv)) (Zx (Zy Zz (bO-(1:Int)))) Zh) fun(O6:Int)=>aD (Zu [Zv Zq vm]==nat_lit 1&&Zf&&Zf&&Zf&&Zm (Zx (Zy Zz (bO-(1:Int)))) (Zu (Yf y (Zx bO) (Zv Zq jv)))) (Yq (Ym [Yy (Yf (Yf y (Zx bO) (Zv Zq jv)) (Zx (Zy Zz (bO-(1:Int)))) (Zv Zq vm)),Zv Zz n,Zv Zz iV,Zv Zz f_,Zv Zz dS,Zv Zz (Zy Zz (bO+(1:Int))),Yd b]))))))))))))))))) (Yq (Yx (Yw e,[Yy y,Zv Zz n,Zv Zz iV,Zv Zz f_,Zv Zz dS,Zv Zz bO,Yd b]))))) [Yy (back d),Zv .i64 A,Zv .i64 (b:Int),Zv .i64 I,Zv .i64 s,Zv .i64 (j:Int),Yd bb]=Yq (.exit e,[Yy (back (Go.Sort.shiftUp Go.Sort.ltInt b j d)),Zv .i64 A,Zv .i64 (b:Int),Zv .i64 I,Zv .i64 s,Zv .i64 m,Yd bb]):=by
 suffices h:∀ (m:Nat) (j:Nat) (d:Array Int),b-j=m->1<=j->j<=b->b<=d.size->d.size<=1152921504606846976->∃ m n,eP (fun(st:List AV)=>aA st fun(x:AV) (r:List AV)=>AV.aW x fun(y:List AV)=>aA r fun(x:AV) (r:List AV)=>Zg Zz x fun(n:Int)=>aA r fun(x:AV) (r:List AV)=>Zg Zz x fun(iV:Int)=>aA r fun(x:AV) (r:List AV)=>Zg Zz x fun(f_:Int)=>aA r fun(x:AV) (r:List AV)=>Zg Zz x fun(dS:Int)=>aA r fun(x:AV) (r:List AV)=>Zg Zz x fun(bO:Int)=>aA r fun(x:AV) (r:List AV)=>AV.dD x fun(b:Bool)=>ak r (aG (Zj (bO<iV)) (aD (Zj ((0:Int)<=bO)&&Zj (bO<(↑(Zu y):Int))&&Zf) (aD (Zm (Zx bO) (Zu y)&&Zf) (Zg Zq (Zd y (Zx bO) Zh) fun(qH:Int)=>aD (Zj ((0:Int)<=Zy Zz (bO-(1:Int)))&&Zj (Zy Zz (bO-(1:Int))<(↑(Zu y):Int))&&Zf) (aD (Zm (Zx (Zy Zz (bO-(1:Int)))) (Zu y)&&Zf) (Zg Zq (Zd y (Zx (Zy Zz (bO-(1:Int)))) Zh) fun(qI:Int)=>aG (!Zj (qH<qI)) (Yq (Yx (Yw e,[Yy y,Zv Zz n,Zv Zz iV,Zv Zz f_,Zv Zz dS,Zv Zz bO,Yd b]))) (aD (Zj ((0:Int)<=Zy Zz (bO-(1:Int)))&&Zj (Zy Zz (bO-(1:Int))<(↑(Zu y):Int))&&Zf) (aD (Zm (Zx (Zy Zz (bO-(1:Int)))) (Zu y)&&Zf) (Zg Zq (Zd y (Zx (Zy Zz (bO-(1:Int)))) Zh) fun(jv:Int)=>aD (Zj ((0:Int)<=bO)&&Zj (bO<(↑(Zu y):Int))&&Zf) (aD (Zm (Zx bO) (Zu y)&&Zf) (Zg Zq (Zd y (Zx bO) Zh) fun(vm:Int)=>aD (Zj ((0:Int)<=bO)&&Zj (bO<(↑(Zu y):Int))&&Zf) (aD (Zm (Zx bO) (Zu y)&&Zf) (Zg Zq (Zd y (Zx bO) Zh) fun(O5:Int)=>aD (Zu [Zv Zq jv]==nat_lit 1&&Zf&&Zf&&Zf&&Zm (Zx bO) (Zu y)) (aD (Zj ((0:Int)<=Zy Zz (bO-(1:Int)))&&Zj (Zy Zz (bO-(1:Int))<(↑(Zu (Yf y (Zx bO) (Zv Zq jv))):Int))&&Zf) (aD (Zm (Zx (Zy Zz (bO-(1:Int)))) (Zu (Yf y (Zx bO) (Zv Zq jv)))&&Zf) (Zg Zq (Zd (Yf y (Zx bO) (Zv Zq jv)) (Zx (Zy Zz (bO-(1:Int)))) Zh) fun(O6:Int)=>aD (Zu [Zv Zq vm]==nat_lit 1&&Zf&&Zf&&Zf&&Zm (Zx (Zy Zz (bO-(1:Int)))) (Zu (Yf y (Zx bO) (Zv Zq jv)))) (Yq (Ym [Yy (Yf (Yf y (Zx bO) (Zv Zq jv)) (Zx (Zy Zz (bO-(1:Int)))) (Zv Zq vm)),Zv Zz n,Zv Zz iV,Zv Zz f_,Zv Zz dS,Zv Zz (Zy Zz (bO+(1:Int))),Yd b]))))))))))))))))) (Yq (Yx (Yw e,[Yy y,Zv Zz n,Zv Zz iV,Zv Zz f_,Zv Zz dS,Zv Zz bO,Yd b]))))) n [Yy (back d),Zv .i64 A,Zv .i64 (b:Int),Zv .i64 I,Zv .i64 s,Zv .i64 (j:Int),Yd bb]=Yq (.exit e,[Yy (back (Go.Sort.shiftUp Go.Sort.ltInt b j d)),Zv .i64 A,Zv .i64 (b:Int),Zv .i64 I,Zv .i64 s,Zv .i64 m,Yd bb]) by
  intro m j d h1 h2 h3 h4 h5;obtain⟨m,n,hn⟩:=h m j d h1 h2 h3 h4 h5;exact⟨m,mX hn⟩
 intro m;induction m with
 | zero =>
  intro j d h1 h2 h3 h4 h5;refine⟨(j:Int),1,?_⟩;unfold eP;simp only[↓bQ,↓cw,↓dg,↓dM,↓dr];rw[ai (by simp;omega)];unfold Go.Sort.shiftUp;rw[Qa0 (by omega)]
 | succ m ih =>
  intro j d h1 h2 h3 h4 h5;obtain⟨k,rfl⟩:∃ k,j=k+1:=⟨j-1,by omega⟩;have g1:k+1<d.size:=by omega
  have g2:k<d.size:=by omega
  by_cases h:d[k+1]! < d[k]!
  ·obtain⟨m,n,hn⟩:=ih (k+1+1) (Go.Sort.swp d (k+1) k) (by omega) (by omega) (by omega) (by rw[swp_size];omega) (by rw[swp_size];exact h5);refine⟨m,n+1,?_⟩;unfold eP;simp only[↓bQ,↓cw,↓dg,↓dM,↓dr];rw[af (by simp;omega),Kerb.rd g1];simp only[show Zy .i64 (((k+1:Nat):Int)-1)=((k:Nat):Int) from(Kerb.ia (by omega) (by omega)).trans (by omega)];rw[Kerb.rd g2,ai (by simp[h])];rw[Kerb.rd g2,Kerb.rd g1,Kerb.wr g1 (by simp[Kerb.aX];omega),Kerb.dh,Kerb.wr (by rw[Xy];exact g2) (by simp[Kerb.aX];omega),Kerb.dh,show(Yn (Yn d (k+1) d[k]!) k d[k+1]!)=Go.Sort.swp d (k+1) k from rfl];unfold Go.Sort.shiftUp;rw[Qa1 (by omega),Nat.add_sub_cancel,Qa0 (by simp[Go.Sort.ltInt,h]),show Zy .i64 (((k+1:Nat):Int)+1)=((k+1+1:Nat):Int) from(Kerb.ia (by omega) (by omega)).trans (by omega)];exact hn
  ·refine⟨((k+1:Nat):Int),1,?_⟩;unfold eP;simp only[↓bQ,↓cw,↓dg,↓dM,↓dr];rw[af (by simp;omega),Kerb.rd g1];simp only[show Zy .i64 (((k+1:Nat):Int)-1)=((k:Nat):Int) from(Kerb.ia (by omega) (by omega)).trans (by omega)];rw[Kerb.rd g2,af (by simp[h])];unfold Go.Sort.shiftUp;rw[Qa1 (by omega),Nat.add_sub_cancel,Qa1 (by simp[Go.Sort.ltInt,h])]
theorem uB{lt:Int->Int->Bool}:∀ (j:Nat) (d:Array Int),(Go.Sort.shiftDown lt j d).size=d.size:=by
 intro j;induction j with
 | zero=>intro d;rfl
 | succ k ih =>
  intro d;unfold Go.Sort.shiftDown;split
  ·rfl
  ·rw[ih,swp_size]
theorem yb{lt:Int->Int->Bool}{b:Nat}:∀ (m j:Nat) (d:Array Int),b-j=m->(Go.Sort.shiftUp lt b j d).size=d.size:=by
 intro m;induction m with
 | zero =>
  intro j d h;unfold Go.Sort.shiftUp;rw[Qa0 (by omega)]
 | succ m ih =>
  intro j d h;unfold Go.Sort.shiftUp;rw[Qa1 (by omega)];split
  ·rfl
  ·rw[ih _ _ (by omega),swp_size]
theorem C4{lt:Int->Int->Bool}{d:Array Int}{b:Nat}:∀ (m i:Nat),b-i=m->i<=b->i<=Go.Sort.scanSorted lt d b i/\Go.Sort.scanSorted lt d b i<=b:=by
 intro m;induction m with
 | zero =>
  intro i h1 h2;unfold Go.Sort.scanSorted;rw[Qa0 (by simp;omega)];omega
 | succ m ih =>
  intro i h1 h2;unfold Go.Sort.scanSorted;split
  ·have:=ih (i+1) (by omega) (by omega);omega
  ·omega
end Kerb
/- The sort's pseudo-random number; lengths in bits. -/
namespace Kerb
open Go Go.Abs
theorem UT(v:BitVec 64):Zy .u64 (v.toNat:Int)=(v.toNat:Int):=by
 unfold Zy;simp[Yz,Yj];have:=v.isLt;omega
theorem XK(v:BitVec 64):BitVec.ofInt 64 (v.toNat:Int)=v:=by
 apply BitVec.eq_of_toNat_eq;simp[BitVec.toNat_ofInt]
theorem shl(v:BitVec 64)(k:Nat)(p:Int)(hp:p=((2 ^ k:Nat):Int)):BitVec.ofInt 64 (Zy .u64 ((v.toNat:Int)*p))=v <<< k:=by
 subst hp;apply BitVec.eq_of_toNat_eq;rw[show Zy .u64 ((v.toNat:Int)*((2 ^ k:Nat):Int))=((v.toNat*2 ^ k % 2 ^ 64:Nat):Int) from by
  unfold Zy;rw[Qa0 (by simp[Yj])];rfl]
 rw[BitVec.toNat_ofInt,BitVec.toNat_shiftLeft,Nat.shiftLeft_eq];generalize v.toNat*2 ^ k=m;omega
theorem shr(v:BitVec 64)(k:Nat)(p:Int)(hp:p=((2 ^ k:Nat):Int)):BitVec.ofInt 64 (Int.fdiv (v.toNat:Int) p)=v >>> k:=by
 subst hp;apply BitVec.eq_of_toNat_eq;rw[show Int.fdiv (v.toNat:Int) ((2 ^ k:Nat):Int)=((v.toNat / 2 ^ k:Nat):Int) from by rw[Xz _ (Int.natCast_nonneg _)];rfl];rw[BitVec.toNat_ofInt,BitVec.toNat_ushiftRight,Nat.shiftRight_eq_div_pow];have:=v.isLt;have h2:v.toNat / 2 ^ k<=v.toNat:=Nat.div_le_self _ _;generalize v.toNat / 2 ^ k=m at h2 ⊢;omega
theorem Sk(v:BitVec 64):Ku (v.toNat:Int)=((((v ^^^ v <<< 13) ^^^ (v ^^^ v <<< 13) >>> 7) ^^^ ((v ^^^ v <<< 13) ^^^ (v ^^^ v <<< 13) >>> 7) <<< 17).toNat:Int):=by
 unfold Ku;rw[Zk,show UInt64.ofNat v.toNat=UInt64.ofBitVec v from by apply UInt64.eq_of_toBitVec_eq;simp];rfl
theorem OW{n k:Nat}(h:2 ^ k<=n):Nat.log2 n=k+Nat.log2 (n / 2 ^ k):=by
 have hk:0<2 ^ k:=Nat.two_pow_pos k;have hq:n / 2 ^ k≠0:=by
  have:=Nat.div_pos h hk;omega
 have hn:n≠0:=by omega
 have h1:2 ^ (Nat.log2 (n / 2 ^ k))<=n / 2 ^ k:=(Nat.le_log2 hq).mp (Nat.le_refl _);have h2:n / 2 ^ k<2 ^ (Nat.log2 (n / 2 ^ k)+1):=(Nat.log2_lt hq).mp (Nat.lt_succ_self _);generalize Nat.log2 (n / 2 ^ k)=a at h1 h2 ⊢;have h3:k+a<=Nat.log2 n:=(Nat.le_log2 hn).mpr (by
  rw[Nat.pow_add,Nat.mul_comm];exact(Nat.le_div_iff_mul_le hk).mp h1)
 have h4:Nat.log2 n<k+a+1:=(Nat.log2_lt hn).mpr (by
  rw[show k+a+1=(a+1)+k by omega,Nat.pow_add];exact(Nat.div_lt_iff_lt_mul hk).mp h2)
 omega
theorem ke(k:Nat){n:Nat}(h:2 ^ k<=n):Go.Sort.bitsLen n=k+Go.Sort.bitsLen (n / 2 ^ k):=by
 have hk:0<2 ^ k:=Nat.two_pow_pos k;have hq:n / 2 ^ k≠0:=by
  have:=Nat.div_pos h hk;omega
 unfold Go.Sort.bitsLen;rw[Qa0 (by omega),Qa0 hq,OW h];omega
theorem rQ(k:Nat){n:Nat}(h:n<2 ^ k):Go.Sort.bitsLen n<=k:=by
 unfold Go.Sort.bitsLen;split
 ·omega
 ·rename_i h0;exact(Nat.log2_lt h0).mpr h
def E4:List UInt8:=(List.range 256).map fun i=>Yg (Go.Sort.bitsLen i)
theorem JG{m:Nat}(h:m<256):(E4.getD m 0).toNat=Go.Sort.bitsLen m:=by
 unfold E4;rw[Yk,List.getElem?_map,List.getElem?_range h];simp only[Option.map_some,Option.getD_some];have:=rQ 8 (n:=m) (by omega);simp only[UInt8.toNat_ofNat'];omega
theorem oq{T:List UInt8}{m:Nat}{N:Int}(hT:T=E4)(hm:m<256)(h1:0<=N)(h2:N<=64) :
  aD (Zj ((0:Int)<=((Yg (Zx (Zy .u8 (m:Int)))).toNat:Int))&&Zj (((Yg (Zx (Zy .u8 (m:Int)))).toNat:Int)<(T.length:Int))) (Yq (Zv .i64 (Zy .i64 (N+Zy .i64 ((Zd T (Zx ((Yg (Zx (Zy .u8 (m:Int)))).toNat:Int)) (0:UInt8)).toNat:Int))),([]:aw)))=Yq (Zv .i64 (N+(Go.Sort.bitsLen m:Int)),[]):=by
 subst hT;have hw:Zy .u8 (m:Int)=(m:Int):=by
  unfold Zy;simp[Yz,Yj];omega
 have hu:(Yg m).toNat=m:=by simp;omega
 rw[hw,Zk,hu,Zk,JG hm];have:=rQ 8 (n:=m) (by omega);rw[ae (by simp[E4];omega),ia (n:=(Go.Sort.bitsLen m:Int)) (by omega) (by omega),ia (by omega) (by omega)]
theorem f32(n:Nat):Int.fdiv (n:Int) ((2:Int) ^ min (Zx (32:Int)) (Yz .u64))=((n / 2 ^ 32:Nat):Int):=Xz (n:Int) (b:=((2 ^ 32:Nat):Int)) (Int.natCast_nonneg _)
theorem f16(n:Nat):Int.fdiv (n:Int) ((2:Int) ^ min (Zx (16:Int)) (Yz .u64))=((n / 2 ^ 16:Nat):Int):=Xz (n:Int) (b:=((2 ^ 16:Nat):Int)) (Int.natCast_nonneg _)
theorem f8(n:Nat):Int.fdiv (n:Int) ((2:Int) ^ min (Zx (8:Int)) (Yz .u64))=((n / 2 ^ 8:Nat):Int):=Xz (n:Int) (b:=((2 ^ 8:Nat):Int)) (Int.natCast_nonneg _)
theorem Bh(n:Nat):RS (n:Int)=(Go.Sort.bitsLen n:Int):=by unfold RS;rw[Zk]
theorem Q2(v:BitVec 64) :
  Zy .u64 ((BitVec.toNat (BitVec.ofInt 64 (Zy .u64 ((BitVec.toNat (BitVec.ofInt 64 (Zy .u64 ((BitVec.toNat (BitVec.ofInt 64 (v.toNat:Int) ^^^ BitVec.ofInt 64 (Zy .u64 ((v.toNat:Int)*(2:Int) ^ min (Zx (13:Int)) 64)))):Int)) ^^^ BitVec.ofInt 64 (Int.fdiv (Zy .u64 ((BitVec.toNat (BitVec.ofInt 64 (v.toNat:Int) ^^^ BitVec.ofInt 64 (Zy .u64 ((v.toNat:Int)*(2:Int) ^ min (Zx (13:Int)) 64)))):Int)) ((2:Int) ^ min (Zx (7:Int)) 64)))):Int)) ^^^ BitVec.ofInt 64 (Zy .u64 (Zy .u64 ((BitVec.toNat (BitVec.ofInt 64 (Zy .u64 ((BitVec.toNat (BitVec.ofInt 64 (v.toNat:Int) ^^^ BitVec.ofInt 64 (Zy .u64 ((v.toNat:Int)*(2:Int) ^ min (Zx (13:Int)) 64)))):Int)) ^^^ BitVec.ofInt 64 (Int.fdiv (Zy .u64 ((BitVec.toNat (BitVec.ofInt 64 (v.toNat:Int) ^^^ BitVec.ofInt 64 (Zy .u64 ((v.toNat:Int)*(2:Int) ^ min (Zx (13:Int)) 64)))):Int)) ((2:Int) ^ min (Zx (7:Int)) 64)))):Int)*(2:Int) ^ min (Zx (17:Int)) 64)))):Int)=Ku (v.toNat:Int):=by
 rw[XK v,shl v 13 ((2:Int) ^ min (Zx (13:Int)) 64) rfl];simp only[UT,XK];rw[shr _ 7 ((2:Int) ^ min (Zx (7:Int)) 64) rfl];rw[shl _ 17 ((2:Int) ^ min (Zx (17:Int)) 64) rfl,Sk]
theorem Q1(r:UInt64):Ku (r.toNat:Int)=((Go.Sort.xorNext r).toNat:Int):=by
 unfold Ku;rw[Zk,UInt64.ofNat_toNat]
theorem Ni{n:Int}(h1:0<=n)(h2:n<18446744073709551616):Zy .u64 n=n:=by
 unfold Zy;simp[Yz,Yj];omega
theorem Rk(r:UInt64){m:Nat}(h1:1<=m)(h2:m<=4611686018427387904):Zy .i64 (Zy .u64 ((BitVec.toNat (BitVec.ofInt 64 (r.toNat:Int) &&& BitVec.ofInt 64 (Zy .u64 ((m:Int)-(1:Int)))):Int)))=((r.toNat &&& (m-1):Nat):Int):=by
 have hr:=r.toNat_lt;rw[Ni (n:=(m:Int)-1) (by omega) (by omega),BitVec.toNat_and,BitVec.toNat_ofInt,BitVec.toNat_ofInt];rw[show((r.toNat:Int) % ((2 ^ 64:Nat):Int)).toNat=r.toNat by omega,show(((m:Int)-1) % ((2 ^ 64:Nat):Int)).toNat=m-1 by omega];have:r.toNat &&& (m-1)<=m-1:=Nat.and_le_right;rw[Ni (by omega) (by omega),ia (by omega) (by omega)]
theorem R6{n:Nat}(h:n≠0):1<=1 <<< Go.Sort.bitsLen n/\1 <<< Go.Sort.bitsLen n<=2*n:=by
 rw[Nat.one_shiftLeft];have:=Nat.two_pow_pos (Go.Sort.bitsLen n);refine⟨this,?_⟩;unfold Go.Sort.bitsLen;rw[Qa0 h,Nat.pow_succ];have:=(Nat.le_log2 h).mp (Nat.le_refl _);omega
theorem Mr{n:Nat}(h:n<=4611686018427387904):Zy .u64 ((1:Int)*(2:Int) ^ min (Zx ((Go.Sort.bitsLen n:Nat):Int)) 64)=Pc (n:Int):=by
 unfold Pc;have:=rQ 63 (n:=n) (by omega);rw[Zk,Zk,Nat.one_shiftLeft,show min (Go.Sort.bitsLen n) 64=Go.Sort.bitsLen n by omega,Int.one_mul];have h2:2 ^ Go.Sort.bitsLen n<=2 ^ 63:=Yb (by omega) this;rw[show((2:Int) ^ Go.Sort.bitsLen n)=((2 ^ Go.Sort.bitsLen n:Nat):Int) from by simp];generalize 2 ^ Go.Sort.bitsLen n=q at h2 ⊢;exact Ni (by omega) (by omega)
theorem Pd(n:Nat):Pc (n:Int)=((1 <<< Go.Sort.bitsLen n:Nat):Int):=by
 unfold Pc;rw[Zk]
def Nj(a l m idx:Nat)(d:Array Int):Nat->UInt64×Array Int
 | 0=>(UInt64.ofNat l,d)
 | k+1=>Go.Sort.breakStep a l m (Nj a l m idx d k) (idx+k)
theorem Ge(a l m idx:Nat)(d:Array Int):∀ k,(Nj a l m idx d k).2.size=d.size
 | 0=>rfl
 | k+1=>by
  unfold Nj Go.Sort.breakStep;dsimp only;rw[swp_size,Ge a l m idx d k]
end Kerb
/- The sort: one round of the outermost loop. -/
namespace Kerb
open Go Go.Abs Go.Sort
theorem xf{α β:Type}{X:Option α}{v:α}{K:α->Option β}{Q:β->Prop}(h:X=Yq v)(hk:∃ y,K v=Yq y/\Q y):∃ y,Option.bind X K=Yq y/\Q y:=by
 rw[h];exact hk
theorem sR{a b:Nat}:∀ (s i:Nat) (d:Array Int),(partialIns ltInt a b s i d).1.size=d.size:=by
 intro s;induction s with
 | zero=>intro i d;rfl
 | succ s ih =>
  intro i d;rw[partialIns_succ];split
  ·rfl
  ·split
   ·rfl
   ·rw[ih];unfold fixUp fixDown;have h1:∀ (c:Prop) [Decidable c] (x:Array Int) (j:Nat),(if c then shiftDown ltInt j x else x).size=x.size:=fun c _ x j=>by
     split
     ·rw[uB]
     ·rfl
    have h2:∀ (c:Prop) [Decidable c] (x:Array Int) (j:Nat),(if c then shiftUp ltInt b j x else x).size=x.size:=fun c _ x j=>by
     split
     ·rw[yb _ _ _ rfl]
     ·rfl
    rw[h2,h1,Kerb.swp_size]
theorem sq{d:Array Int}{a b p:Nat}(h1:a<=p)(h2:p<b)(h3:b<=d.size):a<=(partition ltInt d a b p).1/\(partition ltInt d a b p).1<b/\(partition ltInt d a b p).2.2.size=d.size:=by
 obtain⟨q1,q2,q3,_⟩:=partition_holds ltInt swo_ltInt d a b p h1 h2 h3;exact⟨q1,q2,q3.1⟩
theorem oX{d:Array Int}{a b p:Nat}(h1:a<=p)(h2:p<b)(h3:b<=d.size):a<(partitionEqual ltInt d a b p).1/\(partitionEqual ltInt d a b p).1<=b/\(partitionEqual ltInt d a b p).2.size=d.size:=by
 have hs:=Kerb.swp_size d a p;obtain⟨q1,q2,q3,_⟩:=partEqLoop_spec (lt:=ltInt) a b _ (a+1) (b-1) (swp d a p) (Nat.le_refl _) (by omega) (by omega) (by omega) (by omega) (fun t h4 h5=>by omega) (fun t h4 h5=>by omega);exact⟨q1,q2,q3.1.trans hs⟩
theorem G6{d:Array Int}{a b:Nat}(h1:a<=b)(h2:b<=d.size):(insertionSort ltInt d a b).size=d.size:=(insertionSort_holds swo_ltInt d a b h1 h2).1.1
theorem LU{d:Array Int}{a b:Nat}(h1:a<=b)(h2:b<=d.size):(heapSort ltInt d a b).size=d.size:=(heapSort_holds swo_ltInt d a b h1 h2).1.1
theorem Az{d:Array Int}{a b:Nat}(h1:a<=b)(h2:b<=d.size):(breakPatterns d a b).size=d.size:=(breakPatterns_holds d a b h1 h2).1
theorem HL{d:Array Int}{a b:Nat}(h1:a<=b)(h2:b<=d.size):(reverseRange d a b).size=d.size:=(reverseRange_holds d a b h1 h2).1
def QV(d3:Array Int)(a b l pv:Nat)(wB wP:Bool):Array Int :=
 if a>0 && !ltInt d3[a-1]! d3[pv]! then
  match partitionEqual ltInt d3 a b pv with
  | (mid,d4)=>if _h:a<mid/\mid<=b then pdq ltInt d4 mid b l wB wP else d4
 else
  match partition ltInt d3 a b pv with
  | (mid,ap,d4) =>
   if _h:a<=mid/\mid<b then
    if mid-a<b-mid then
     pdq ltInt (pdq ltInt d4 a mid l Zf Zf) (mid+1) b l (Zj (mid-a>=(b-a) / 8)) ap
    else
     pdq ltInt (pdq ltInt d4 (mid+1) b l Zf Zf) a mid l (Zj (b-mid>=(b-a) / 8)) ap
   else d4
def Ud(d2:Array Int)(a b l pv:Nat)(hint:Hint)(wB wP:Bool):Array Int :=
 if (if wB&&wP&&hint = .increasing then partialInsertionSort ltInt d2 a b else(d2,Zw)).2 then(if wB&&wP&&hint = .increasing then partialInsertionSort ltInt d2 a b else(d2,Zw)).1
 else QV (if wB&&wP&&hint = .increasing then partialInsertionSort ltInt d2 a b else(d2,Zw)).1 a b l pv wB wP
def Oh(d1:Array Int)(a b l:Nat)(wB wP:Bool):Array Int :=
 Ud (if (choosePivot ltInt d1 a b).2 = .decreasing then reverseRange d1 a b else d1) a b l (if (choosePivot ltInt d1 a b).2 = .decreasing then(b-1)-((choosePivot ltInt d1 a b).1-a) else(choosePivot ltInt d1 a b).1) (if (choosePivot ltInt d1 a b).2 = .decreasing then Hint.increasing else(choosePivot ltInt d1 a b).2) wB wP
theorem ze(d:Array Int)(a b l:Nat)(wB wP:Bool):pdq ltInt d a b l wB wP =
  if b-a<=12 then insertionSort ltInt d a b else
  if l=0 then heapSort ltInt d a b else
  Oh (if !wB then breakPatterns d a b else d) a b (if !wB then l-1 else l) wB wP:=by
 rw[pdq];rfl
theorem Cm{d3:Array Int}{a b l pv:Nat}{wB wP:Bool}(h1:a<=pv)(h2:pv<b)(h3:b<=d3.size):QV d3 a b l pv wB wP =
  if (Zj (a>0) && !ltInt d3[a-1]! d3[pv]!)=Zf then pdq ltInt (partitionEqual ltInt d3 a b pv).2 (partitionEqual ltInt d3 a b pv).1 b l wB wP
  else if (partition ltInt d3 a b pv).1-a<b-(partition ltInt d3 a b pv).1 then
   pdq ltInt (pdq ltInt (partition ltInt d3 a b pv).2.2 a (partition ltInt d3 a b pv).1 l Zf Zf) ((partition ltInt d3 a b pv).1+1) b l (Zj ((partition ltInt d3 a b pv).1-a>=(b-a) / 8)) (partition ltInt d3 a b pv).2.1
  else pdq ltInt (pdq ltInt (partition ltInt d3 a b pv).2.2 ((partition ltInt d3 a b pv).1+1) b l Zf Zf) a (partition ltInt d3 a b pv).1 l (Zj (b-(partition ltInt d3 a b pv).1>=(b-a) / 8)) (partition ltInt d3 a b pv).2.1:=by
 unfold QV;have e:=oX h1 h2 h3;have p:=sq h1 h2 h3;generalize partitionEqual ltInt d3 a b pv=x at e ⊢;generalize partition ltInt d3 a b pv=y at p ⊢;obtain⟨mid,d4⟩:=x;obtain⟨m,ap,d5⟩:=y;dsimp only at e p ⊢;rw[dif_pos (show a<mid/\mid<=b from⟨e.1,e.2.1⟩),dif_pos (show a<=m/\m<b from⟨p.1,p.2.1⟩)]
theorem uj:∀ (n:Nat) (d:Array Int) (a b l:Nat) (wB wP:Bool),b-a<=n->a<=b->b<=d.size->(pdq ltInt d a b l wB wP).size=d.size:=by
 intro n;induction n with
 | zero =>
  intro d a b l wB wP h1 h2 h3;rw[ze,Qa1 (by omega),G6 h2 h3]
 | succ n ih =>
  intro d a b l wB wP h1 h2 h3;rw[ze];by_cases V2:b-a<=12
  ·rw[Qa1 V2,G6 h2 h3]
  rw[Qa0 V2];by_cases hl:l=0
  ·rw[Qa1 hl,LU h2 h3]
  rw[Qa0 hl];have s1:(if (!wB)=Zf then breakPatterns d a b else d).size=d.size:=by
   split
   ·exact Az h2 h3
   ·rfl
  generalize (if (!wB)=Zf then breakPatterns d a b else d)=d1 at s1 ⊢;generalize (if (!wB)=Zf then l-1 else l)=l1;unfold Oh;have hc:=choosePivot_holds ltInt d1 a b (by omega);generalize choosePivot ltInt d1 a b=c at hc ⊢;have s2:(if c.2 = .decreasing then reverseRange d1 a b else d1).size=d.size:=by
   split
   ·rw[HL h2 (by omega),s1]
   ·exact s1
  generalize (if c.2 = .decreasing then reverseRange d1 a b else d1)=d2 at s2 ⊢;have hp:a<=(if c.2 = .decreasing then(b-1)-(c.1-a) else c.1)/\(if c.2 = .decreasing then(b-1)-(c.1-a) else c.1)<b:=by
   split<;>omega
  generalize (if c.2 = .decreasing then(b-1)-(c.1-a) else c.1)=pv at hp ⊢;generalize (if c.2 = .decreasing then Hint.increasing else c.2)=hint;unfold Ud;have s3:(if (wB&&wP&&Zj (hint = .increasing))=Zf then partialInsertionSort ltInt d2 a b else(d2,Zw)).1.size=d.size:=by
   split
   ·unfold partialInsertionSort;rw[sR,s2]
   ·exact s2
  generalize (if (wB&&wP&&Zj (hint = .increasing))=Zf then partialInsertionSort ltInt d2 a b else(d2,Zw))=pi at s3 ⊢;by_cases hpi:pi.2=Zf
  ·rw[Qa1 hpi];exact s3
  rw[Qa0 hpi,Cm hp.1 hp.2 (by omega)];have e:=oX hp.1 hp.2 (show b<=pi.1.size by omega);have p:=sq hp.1 hp.2 (show b<=pi.1.size by omega);generalize partitionEqual ltInt pi.1 a b pv=x at e ⊢;generalize partition ltInt pi.1 a b pv=y at p ⊢;split
  ·rw[ih _ _ _ _ _ _ (by omega) (by omega) (by omega)];omega
  ·have hL:=ih y.2.2 a y.1 l1 Zf Zf (by omega) (by omega) (by omega);have hR:=ih y.2.2 (y.1+1) b l1 Zf Zf (by omega) (by omega) (by omega);split
   ·rw[ih _ _ _ _ _ _ (by omega) (by omega) (by omega)];omega
   ·rw[ih _ _ _ _ _ _ (by omega) (by omega) (by omega)];omega
theorem rC(d:Array Int)(a b l:Nat):Pb (back d) (a:Int) (b:Int) (l:Int)=back (pdq ltInt d a b l Zf Zf):=by
 simp only[Pb,fl,Zk]
theorem OD(d:Array Int)(a b:Nat):Ae (back d) (a:Int) (b:Int)=back (insertionSort ltInt d a b):=by
 simp only[Ae,fl,Zk]
theorem LS(d:Array Int)(a b:Nat):KT (back d) (a:Int) (b:Int)=back (heapSort ltInt d a b):=by
 simp only[KT,fl,Zk]
theorem I'(d:Array Int)(a b:Nat):Et (back d) (a:Int) (b:Int)=back (breakPatterns d a b):=by
 simp only[Et,fl,Zk]
theorem Pp(d:Array Int)(a b:Nat):R9 (back d) (a:Int) (b:Int)=back (reverseRange d a b):=by
 simp only[R9,fl,Zk]
theorem MH(d:Array Int)(a b:Nat):HF (back d) (a:Int) (b:Int)=choosePivot ltInt d a b:=by
 simp only[HF,fl,Zk]
theorem HC(d:Array Int)(a b:Nat):xY (back d) (a:Int) (b:Int)=(back (partialInsertionSort ltInt d a b).1,(partialInsertionSort ltInt d a b).2):=by
 simp only[xY,fl,Zk]
theorem LW(h:Hint):(GQ h==(2:Int))=Zj (h = .decreasing):=by cases h<;>rfl
theorem LX(h:Hint):(GQ h==(1:Int))=Zj (h = .increasing):=by cases h<;>rfl
def CE(l:List AV)(k:Int):List AV:=zS (l++[.int .u64 k])
def num(l:List AV)(i:Nat):Int:=match l.getD i .undef with | .int _ n=>n | _=>0
def Lu(l:List AV):Bool:=(List.range (l.length-1)).all fun i=>Zj (num l i<num l (i+1))
theorem NH{d:Array Int}(h:Lu (back d)=Zf){i:Nat}(hi:i+1<d.size):d[i]! < d[i+1]! := by
 simp only[Lu,List.all_eq_true,List.mem_range,aX,Qa2] at h;have:=h i (by omega);simp only[num,po hi,po (show i<d.size by omega)] at this;exact this
theorem SQ{n:Nat}(h:n<=1000000000000):Go.Abs.room n 8=Zf:=by
 simp[Go.Abs.room];omega
theorem all_join{l:List AV}{k:Int}(h:eQ l=Zf):eQ (l++[.int .u64 k])=Zf:=by
 simp only[eQ,List.all_append,Zp] at h ⊢;exact⟨h,rfl⟩
theorem Ls(l:List AV)(k:Int):∃ d,CE l k=back d:=⟨_,rfl⟩
theorem NA{l:List AV}{k:Int}(h:eQ l=Zf):(CE l k).length=l.length+1:=by
 unfold CE zS Go.Sort.sort;rw[aX,uj _ _ _ _ _ _ _ (Nat.le_refl _) (by omega) (Nat.le_refl _)];simp[c4,mQ]
theorem Ka(d:Array Int):zS (back d)=back (pdq ltInt d 0 d.size (Go.Sort.bitsLen d.size) Zf Zf):=by
 unfold zS Go.Sort.sort;rw[fl]
theorem M5(d:Array Int):Pb (back d) (0:Int) (d.size:Int) (Go.Sort.bitsLen d.size:Int)=zS (back d):=by
 rw[Ka];exact rC d 0 d.size (Go.Sort.bitsLen d.size)
theorem Uc{d:Array Int}(h:(d.size:Int)<=1152921504606846976):Go.Sort.bitsLen d.size<=64:=rQ 64 (Nat.lt_of_le_of_lt (m:=1152921504606846976) (by omega) (by decide))
end Kerb
