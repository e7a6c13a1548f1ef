/- What the functions compute, in plain words: no program here. -/
import Derived.Test.YtledffmjoegdeaaGreatAbsStep
import Derived.Sort.AssemblyPlain
set_option linter.all false
open Go.IntKind renaming i64->AI,u64->AT
open Bool renaming false->Zz,and_eq_true->Zy,not_eq_false->Zx,not_eq_true'->Zv,true->Zg
open Int renaming toNat->Zw,eq_ofNat_of_zero_le->Zp,tmod_eq_emod_of_nonneg->Zb
open Go.IntKind renaming bits->Zu,wrap->Zf
open List renaming getD_eq_getElem?_getD->Zq,append_assoc->Zn
open Nat renaming mod_eq_of_lt->Zj,two_pow_add_eq_or_of_lt->Zd
open UInt8 renaming ofNat->Zk
open Decidable renaming decide->Zm
namespace Kerb
open Go.Abs in
abbrev Bytes:=List UInt8
def okB(bad:Bytes)(c:UInt8):Bool := !Zm (c.toNat<33) && !Zm (126<c.toNat) && !bad.contains c
def dO(s bad:Bytes):Bool:=s.all (okB bad)
def cO(s:Bytes):Bool:=Zm (s.length<=39)&&dO s [64]
def validName(s:Bytes):Bool := !s.isEmpty&&Zm (s.length<=39)&&dO s [46,64]
def dG(s:Bytes):Bool := !s.isEmpty&&cO s
structure bQ where
 name:Bytes
 inst:Bytes
 aA:Bytes
def bQ.valid(p:bQ):Bool:=validName p.name&&cO p.inst&&dG p.aA
def within(n m:Int):Bool:=Zm (0<=n)&&Zm (n<=m)
def indexOf(c:UInt8):Bytes->Int
 | [] => -1
 | x::r=>if x==c then 0 else if indexOf c r<0 then -1 else indexOf c r+1
def eY(n:Int)(i:Nat):UInt8:=Zk ((n / 2 ^ (8*i)) % 256).toNat
def aD(n:Int)(k:Nat)(By:Bool):Bytes:=cond By ((List.range k).map (eY n)) ((List.range k).map λi=>eY n (k-1-i))
def cX(b s:Bytes):Bytes:=b++s++[0]
def cV(b:Bytes)(p:bQ):Bytes:=cX (cX (cX b p.name) p.inst) p.aA
def room(b:Bytes)(pos n:Int):Int :=
 if pos<0\/(b.length:Int)<pos\/n<0 then 104 else if (b.length:Int)-pos<n then 101 else 0
def ji(l:Bytes):Int:=l.foldl (λn c=>n*256+c.toNat) 0
def cut(b:Bytes)(pos n:Int):Bytes:=(b.drop pos.toNat).take n.toNat
structure Got where
 val:Int
 next:Int
 err:Int
def get(b:Bytes)(pos k:Int)(By:Bool):Got :=
 if room b pos k=0 then⟨ji (cond By (cut b pos k).reverse (cut b pos k)),pos+k,0⟩ else⟨0,0,room b pos k⟩
structure Q5 where
 val:Bytes
 next:Int
 err:Int
def bytes(b:Bytes)(pos n:Int):Q5 :=
 if room b pos n=0 then⟨cut b pos n,pos+n,0⟩ else⟨[],0,room b pos n⟩
def text(b:Bytes)(pos:Int):Q5 :=
 if room b pos 0=0 then
  if 0<=indexOf 0 ((b.drop pos.toNat).take 40) then⟨((b.drop pos.toNat).take 40).take (indexOf 0 ((b.drop pos.toNat).take 40)).toNat,pos+indexOf 0 ((b.drop pos.toNat).take 40)+1,0⟩
  else if ((b.drop pos.toNat).take 40).length=40 then⟨[],0,105⟩ else⟨[],0,101⟩
 else⟨[],0,104⟩
structure adC where
 val:bQ
 next:Int
 err:Int
def bN:bQ:=⟨[],[],[]⟩
def fX(b:Bytes)(pos:Int):adC :=
 if (text b pos).err≠0 then⟨bN,0,(text b pos).err⟩
 else if (text b (text b pos).next).err≠0 then⟨bN,0,(text b (text b pos).next).err⟩
 else if (text b (text b (text b pos).next).next).err≠0 then⟨bN,0,(text b (text b (text b pos).next).next).err⟩
 else if bQ.valid ⟨(text b pos).val,(text b (text b pos).next).val,(text b (text b (text b pos).next).next).val⟩ then
  ⟨⟨(text b pos).val,(text b (text b pos).next).val,(text b (text b (text b pos).next).next).val⟩,(text b (text b (text b pos).next).next).next,0⟩
 else⟨bN,0,103⟩
def isKind(k:Int):Bool:=Zm (1<=k)&&Zm (k<=10)
def header(k:Int)(By:Bool):Bytes:=cond (isKind k) [4,Zk (2*k.toNat+cond By 1 0)] []
structure Head where
 kind:Int
 By:Bool
 err:Int
def bm(b:Bytes):Head :=
 if b.length<2 then⟨0,Zz,101⟩ else if b.getD 0 0≠4 then⟨0,Zz,39⟩
 else if isKind ((b.getD 1 0).toNat / 2:Nat) then⟨((b.getD 1 0).toNat / 2:Nat),Zm ((b.getD 1 0).toNat % 2=1),0⟩ else⟨0,Zz,40⟩
structure kW where
 By:Bool
 BY:bQ
 time:Int
 bK:Int
 service:Bytes
 inst:Bytes
structure rF where
 val:Bytes
 err:Int
def rJ(r:kW):rF :=
 if !(r.BY.valid&&validName r.service&&cO r.inst) then⟨[],103⟩
 else if !(within r.time 4294967295&&within r.bK 255) then⟨[],104⟩
 else⟨cX (cX (cV (header 1 r.By) r.BY++aD r.time 4 r.By++aD r.bK 1 Zz) r.service) r.inst,0⟩
def aR(b:Bytes)(kinds:List Int):Bool×Int :=
 if (bm b).err≠0 then(Zz,(bm b).err) else if kinds.contains (bm b).kind then((bm b).By,0) else(Zz,40)
structure aah where
 val:kW
 err:Int
def YG:kW:=⟨false,bN,0,0,[],[]⟩
def vH(b:Bytes):kW :=
 let li:=(aR b [1]).1
 let p:=fX b 2
 let t:=get b p.next 4 li
 let l:=get b t.next 1 Zz
 let s:=text b l.next
 ⟨li,p.val,t.val,l.val,s.val,(text b s.next).val⟩
def gF(b:Bytes):aah :=
 if (aR b [1]).2≠0 then⟨YG,(aR b [1]).2⟩
 else if (rJ (vH b)).err≠0\/(rJ (vH b)).val≠b then⟨YG,100⟩
 else⟨vH b,0⟩
def aA(n:Int):Bytes:=if n % 3=0 then[65,84,72] else if n % 3=1 then[66,79,83] else[67,65,77]
def user(n:Int):bQ:=⟨if n % 3=0 then[97,110,110] else if n % 3=1 then[98,111,98] else[99,97,116],[],aA (n / 3)⟩
def service(n:Int):bQ:=if n % 3=0 then⟨[109,97,105,108],[],aA (n / 3)⟩ else if n % 3=1 then⟨[110,102,115],[104,111,109,101],aA (n / 3)⟩ else⟨[107,114,98,116,103,116],[65,84,72],aA (n / 3)⟩
def ah(n:Int):Int:=Go.IntKind.wrap AT ((BitVec.ofInt (Go.IntKind.bits AT) 144115188075855872 ||| BitVec.ofInt (Go.IntKind.bits AT) (Go.IntKind.wrap AT (Go.IntKind.wrap AI (1+n)))).toNat:Int)
def next(l:Bytes)(pos n:Int):Int:=if (l.length:Int)<=pos\/n<=0 then 0 else((l.getD pos.toNat 0).toNat:Int) % n
def mg(l:Bytes)(pos n:Int):Int:=((if (l.length:Int)<=pos\/n<=0 then pos else pos+1).toNat:Int)
structure dZ where
 By:Bool
 BY:bQ
 address:Int
 ah:Int
 bK:Int
 cf:Int
 service:Bytes
 inst:Bytes
def Hp(n:Int):bQ:=⟨List.replicate (if n=0 then 39 else 38) 110,List.replicate (if n=0 then 39 else 38) 110,List.replicate (if n=0 then 39 else 38) 110⟩
def tp1(l:Bytes):Int:=mg l 0 2
def tp2(l:Bytes):Int:=mg l (tp1 l) 9
def tp3(l:Bytes):Int:=mg l (tp2 l) 9
def tp4(l:Bytes):Int:=mg l (tp3 l) 256
def tp5(l:Bytes):Int:=mg l (tp4 l) 200
def tp6(l:Bytes):Int:=mg l (tp5 l) 256
def ZN(l:Bytes):Int:=mg l (tp6 l) 256
def UK(l:Bytes):Int:=mg l (ZN l) 9
def ZO(l:Bytes):Int:=mg l (UK l) 7
def ag'(l:Bytes):Int:=mg l (ZO l) 3
def ak_(l:Bytes):Int:=mg l (ag' l) 3
def tq(l:Bytes):Int:=cond (next l (UK l) 7==6) (ak_ l) (ZO l)
def aB(l:Bytes):dZ :=
  { By:=next l 0 2==1
    BY:=cond (next l (tq l) 9==8) (Hp (next l (mg l (tq l) 9) 2)) (user (next l (tp1 l) 9))
    address:=cond (next l (UK l) 7==6) (Go.IntKind.wrap AI (4294967295-next l (ZO l) 3)) (next l (tp4 l) 200)
    ah:=ah (next l (tp2 l) 9)
    bK:=next l (tp3 l) 256
    cf:=cond (next l (UK l) 7==6) (Go.IntKind.wrap AI (4294967295-next l (ag' l) 3)) (Go.IntKind.wrap AI (Go.IntKind.wrap AI (next l (tp5 l) 256*150)+next l (tp6 l) 256))
    service:=cond (next l (tq l) 9==8) (Hp 0).name (Kerb.service (next l (ZN l) 9)).name
    inst:=cond (next l (tq l) 9==8) (Hp 0).inst (Kerb.service (next l (ZN l) 9)).inst }
def dI(k:Int):Int:=k / 72057594037927936
def dk(k:Int):Int:=k % 72057594037927936
def dX(c:Int):Bool:=c==1||c==2
def dd(n:Int):Bool:=Zm (1<=n)&&Zm (n<=4294967295)
def bf(k:Int):Bool:=dX (dI k)&&dd (dk k)
def keyBytes(k:Int):Bytes:=(List.range 8).map λi=>eY k (7-i)
def dm(b:Bytes):Int×Bool:=if b.length=8/\bf (ji b)=Zg then(ji b,Zg) else(0,Zz)
def pad(b:Bytes):Bytes:=b++List.replicate ((8-b.length % 8) % 8) 0
structure jx where
 By:Bool
 BY:bQ
 time:Int
 b_:Int
 bj:Int
 cw:Bytes
def bc(r:jx):rF :=
 if !r.BY.valid then⟨[],103⟩
 else if !(within r.time 4294967295&&within r.b_ 4294967295&&within r.bj 255) then⟨[],104⟩
 else if 1012<r.cw.length then⟨[],105⟩
 else⟨cV (header 2 r.By) r.BY++aD r.time 4 r.By++aD 1 1 Zz++aD r.b_ 4 r.By++aD r.bj 1 Zz++aD r.cw.length 2 r.By++r.cw,0⟩
structure Q4 where
 val:jx
 err:Int
def wg:jx:=⟨false,bN,0,0,0,[]⟩
def iZ(b:Bytes):jx :=
 let li:=(aR b [2]).1
 let p:=fX b 2
 let t:=get b p.next 4 li
 let o:=get b t.next 1 Zz
 let e:=get b o.next 4 li
 let k:=get b e.next 1 Zz
 let n:=get b k.next 2 li
 ⟨li,p.val,t.val,e.val,k.val,(bytes b n.next n.val).val⟩
def aQ(b:Bytes):Q4 :=
 if (aR b [2]).2≠0 then⟨wg,(aR b [2]).2⟩
 else if (bc (iZ b)).err≠0\/(bc (iZ b)).val≠b then⟨wg,100⟩
 else⟨iZ b,0⟩
structure fL where
 ah:Int
 service:bQ
 bK:Int
 bj:Int
 aB:Bytes
 time:Int
def bt(p:fL)(By:Bool):rF :=
 if !bf p.ah then⟨[],10⟩
 else if !p.service.valid then⟨[],103⟩
 else if !(within p.bK 255&&within p.bj 255&&within p.time 4294967295) then⟨[],104⟩
 else if 255<p.aB.length then⟨[],105⟩
 else⟨pad (cV (aD (cond By 1 0) 1 Zz++keyBytes p.ah) p.service++aD p.bK 1 Zz++aD p.bj 1 Zz++aD p.aB.length 1 Zz++p.aB++aD p.time 4 By),0⟩
structure Nl where
 val:fL
 err:Int
def qG:fL:=⟨0,bN,0,0,[],0⟩
def jh(b:Bytes)(By:Bool):fL :=
 let raw:=bytes b 1 8
 let p:=fX b raw.next
 let l:=get b p.next 1 Zz
 let k:=get b l.next 1 Zz
 let n:=get b k.next 1 Zz
 let t:=bytes b n.next n.val
 ⟨(dm raw.val).1,p.val,l.val,k.val,t.val,(get b t.next 4 By).val⟩
def aX(b:Bytes)(By:Bool):Nl :=
 if (bt (jh b By) By).err≠0\/(bt (jh b By) By).val≠b then⟨qG,100⟩
 else⟨jh b By,0⟩
structure qh where
 By:Bool
 BY:bQ
 time:Int
 code:Int
 text:Bytes
def mB(r:qh):rF :=
 if !r.BY.valid then⟨[],103⟩
 else if !(within r.time 4294967295&&Zm (1<=r.code)&&Zm (r.code<=99)) then⟨[],104⟩
 else if 39<r.text.length then⟨[],105⟩
 else if 0∈r.text then⟨[],100⟩
 else⟨cX (cV (header 5 r.By) r.BY++aD r.time 4 r.By++aD r.code 4 r.By) r.text,0⟩
structure aag where
 val:qh
 err:Int
def YF:qh:=⟨false,bN,0,0,[]⟩
def AN(b:Bytes):qh :=
 let li:=(aR b [5]).1
 let p:=fX b 2
 let t:=get b p.next 4 li
 let c:=get b t.next 4 li
 ⟨li,p.val,t.val,c.val,(text b c.next).val⟩
def vd(b:Bytes):aag :=
 if (aR b [5]).2≠0 then⟨YF,(aR b [5]).2⟩
 else if (mB (AN b)).err≠0\/(mB (AN b)).val≠b then⟨YF,100⟩
 else⟨AN b,0⟩
structure F5 where
 p:bQ
 pos:Int
 bad:Bool
def fA(b:Bytes)(pos:Int)(bad:Bool):F5 :=
 let a:=text b pos
 let f:=cond (bad || !(a.err==0)) pos a.next
 let b1:=bad || !(a.err==0)
 let c:=text b f
 let e:=cond (b1 || !(c.err==0)) f c.next
 let b2:=b1 || !(c.err==0)
 let d:=text b e
 ⟨⟨a.val,c.val,d.val⟩,cond (b2 || !(d.err==0)) e d.next,b2 || !(d.err==0)⟩
def pV(b:Bytes)(how:Int):Int:=Int.tmod (Go.IntKind.wrap AI (Go.IntKind.wrap .u16 (Int.tdiv how 8))) (b.length:Int)
def xv(b:Bytes)(how:Int):Bytes :=
 if b=[] then[] else
 if Int.tmod how 4=0 then b.set (pV b how).toNat (Zk (Zw (Go.IntKind.wrap .u8 ((BitVec.ofInt (Go.IntKind.bits .u8) ((b.getD (pV b how).toNat 0).toNat:Int) ^^^ BitVec.ofInt (Go.IntKind.bits .u8) ((Zk (Zw (Go.IntKind.wrap .u8 (((1:UInt8).toNat:Int)*(2:Int) ^ min (Zw (Go.IntKind.wrap AT (Int.tmod how 7))) 8)))).toNat:Int)).toNat:Int))))
 else if Int.tmod how 4=1 then b.take (pV b how).toNat++b.drop (Zw (Go.IntKind.wrap AI (pV b how+1)))
 else if Int.tmod how 4=2 then b++[Zk (Zw (Go.IntKind.wrap .u8 how))]
 else b
def texts:List Bytes:=[[99,108,105,101,110,116,32,101,120,112,105,114,101,100],[115,101,114,118,105,99,101,32,101,120,112,105,114,101,100],[110,111,32,108,105,102,101,116,105,109,101,32,108,101,102,116],[112,114,111,116,111,99,111,108,32,118,101,114,115,105,111,110],[110,111,116,32,97,32,99,108,105,101,110,116],[110,111,116,32,97,32,115,101,114,118,105,99,101],[98,121,116,101,32,111,114,100,101,114],[112,114,105,110,99,105,112,97,108,32,117,110,107,110,111,119,110],[112,114,105,110,99,105,112,97,108,32,110,111,116,32,117,110,105,113,117,101],[110,111,32,107,101,121]]
def refused:Bytes:=[114,101,113,117,101,115,116,32,114,101,102,117,115,101,100]
def message(code:Int):Bytes:=if code<1\/10<code then refused else texts.getD (code-1).toNat []
structure Rd (α:Type) where
 val:α
 pos:Int
 bad:Bool
def bV(b:Bytes)(k:Int)(li:Bool)(pos:Int)(bad:Bool):Rd Int:=⟨(get b pos k li).val,cond (bad || !((get b pos k li).err==0)) pos (get b pos k li).next,bad || !((get b pos k li).err==0)⟩
def gi(b:Bytes)(pos:Int)(bad:Bool):Rd Bytes:=⟨(text b pos).val,cond (bad || !((text b pos).err==0)) pos (text b pos).next,bad || !((text b pos).err==0)⟩
def cq(b:Bytes)(n:Int)(pos:Int)(bad:Bool):Rd Bytes:=⟨(bytes b pos n).val,cond (bad || !((bytes b pos n).err==0)) pos (bytes b pos n).next,bad || !((bytes b pos n).err==0)⟩
def kP(b:Bytes):Rd jx :=
 let li:=(aR b [2]).1
 let p:=fA b 2 Zz
 let t:=bV b 4 li p.pos p.bad
 let o:=bV b 1 Zz t.pos t.bad
 let e:=bV b 4 li o.pos o.bad
 let k:=bV b 1 Zz e.pos e.bad
 let n:=bV b 2 li k.pos k.bad
 let s:=cq b n.val n.pos n.bad
 ⟨⟨li,p.p,t.val,e.val,k.val,s.val⟩,s.pos,s.bad⟩
def ny(b:Bytes)(By:Bool):Rd fL :=
 let o:=bV b 1 Zz 0 Zz
 let raw:=cq b 8 o.pos o.bad
 let p:=fA b raw.pos raw.bad
 let l:=bV b 1 Zz p.pos p.bad
 let k:=bV b 1 Zz l.pos l.bad
 let n:=bV b 1 Zz k.pos k.bad
 let t:=cq b n.val n.pos n.bad
 let m:=bV b 4 By t.pos t.bad
 ⟨⟨(dm raw.val).1,p.p,l.val,k.val,t.val,m.val⟩,m.pos,m.bad⟩
end Kerb
/- Plain facts on what the functions compute. -/
namespace Kerb
open Go Go.Abs
variable {n:Int}{s:Bytes}{i:Nat}{l:Bytes}{b:Bytes}{r:fL}{p:bQ}{post:Bytes}{k:Int}{By:Bool}{nx:Int}
theorem ie{n:Nat}(h:n<=140737488355328):Go.Abs.room n 1=Zg:=by
 simp[Go.Abs.room];omega
theorem oE(h:i<s.length):s.drop i=s.getD i 0::s.drop (i+1):=by
 simp_all
theorem qA(c:UInt8):∀ l:Bytes,(0<=indexOf c l)↔c∈l
 | []=>by simp[indexOf]
 | x::r=>by
  have ih:=qA c r;unfold indexOf
  grind
theorem Gh(l:Bytes)(c:UInt8):ji (l++[c])=ji l*256+c.toNat:=by simp[ji]
theorem wA(h:i<l.length):ji (l.take (i+1))=ji (l.take i)*256+(l.getD i 0).toNat:=by
 rw[List.take_succ_eq_append_getElem h,Gh];simp[h]
theorem Eb(l:Bytes):∃ m:Nat,ji l=m/\m<256 ^ l.length:=by
 have key:∀ (n:Nat) (l:Bytes),l.length=n->∃ m:Nat,ji l=m/\m<256 ^ n:=by
  intro n;induction n with
  | zero=>intro l h;have:=List.eq_nil_of_length_eq_zero h;subst this;exact⟨0,rfl,by simp⟩
  | succ n ih =>
   intro l h;have a:l≠[]:=λe=>by subst e;simp at h
   obtain⟨m,b,c⟩:=ih l.dropLast (by simp[h]);refine⟨m*256+(l.getLast a).toNat,?_,?_⟩
   .have e:=List.dropLast_concat_getLast a;rw[<-Qb4 ji e,Gh,b];omega
   .have:=(l.getLast a).toNat_lt;rw[Nat.pow_succ];omega
 exact key _ l rfl
theorem Ic(h:l.length<=4):0<=ji l/\ji l<4294967296:=by
 obtain⟨m,a,b⟩:=Eb l;have:256 ^ l.length<=256 ^ 4:=Nat.pow_le_pow_right (by omega) h;rw[a];omega
theorem B3(c:UInt8)(b:0<=n)(f:n<1099511627776):Zf AI ((BitVec.ofInt (Zu AI) (Zf AI (n*2 ^ min (Zw 8) (Zu AI))) ||| BitVec.ofInt (Zu AI) (Zf AI (c.toNat:Int))).toNat:Int)=n*256+c.toNat:=by
 obtain⟨m,rfl⟩:=Zp b;have hc:=c.toNat_lt;have e:((m:Int)*2 ^ min (Zw 8) (Zu AI))=((2 ^ 8*m:Nat):Int):=by
  have:min (Zw 8) (Zu AI)=8:=by decide
  rw[this];omega
 rw[e,wrap_i64 (n:=((2 ^ 8*m:Nat):Int)) (by omega) (by omega),wrap_i64 (n:=(c.toNat:Int)) (by omega) (by omega)];have a:Zu AI=64:=rfl;rw[a];have d:(BitVec.ofInt 64 ((2 ^ 8*m:Nat):Int) ||| BitVec.ofInt 64 ((c.toNat:Nat):Int)).toNat=2 ^ 8*m+c.toNat:=by
  rw[BitVec.ofInt_natCast,BitVec.ofInt_natCast,BitVec.toNat_or,BitVec.toNat_ofNat,BitVec.toNat_ofNat,Zj (by omega),Zj (by omega)];exact(Zd hc m).symm
 rw[d,wrap_i64 (by omega) (by omega)];omega
theorem iA{pos:Int}:room b pos n=0↔0<=pos/\pos<=b.length/\0<=n/\n<=b.length-pos:=by
 unfold room
 grind
theorem jl{pos:Int}(h:room b pos n=0):(cut b pos n).length=n.toNat:=by
 obtain⟨e,d,c,a⟩:=iA.1 h;simp[cut];omega
theorem yU(h:i<l.length):l.reverse.getD i 0=l.getD (l.length-1-i) 0:=by
 grind
theorem IZ{pos:Int}(h:i<n.toNat):(cut b pos n).getD i 0=b.getD (pos.toNat+i) 0:=by
 simp[cut,Zq,h]
def wN(n:Int)(m:Nat):UInt8:=Zk (Zw (Zf .u8 (Int.fdiv n (2 ^ m))))
theorem wrap_u8(x:Int):Zf .u8 x=x % 256:=by
 simp[Zf,IntKind.signed,Zu]
theorem wrap_u64(x:Int):Zf AT x=x % 18446744073709551616:=by
 simp[Zf,IntKind.signed,Zu]
theorem uW(n:Int)(m:Nat):wN n m=Zk ((n / 2 ^ m) % 256).toNat:=by grind [wrap_u8,wN]
theorem aae(n:Int)(h:i<4):Zk (Zw (Zf .u8 (Int.fdiv (Zf AT n) (2 ^ (8*i)))))=eY n i:=by
 unfold eY;rw[wrap_u8,wrap_u64,Int.fdiv_eq_ediv_of_nonneg _ (Int.le_of_lt (Int.pow_pos (by omega)))];have a:i=0\/i=1\/i=2\/i=3:=by omega
 have e:n % 18446744073709551616 / 2 ^ (8*i) % 256=n / 2 ^ (8*i) % 256:=by
  rcases a with rfl | rfl | rfl | rfl<;>simp<;>omega
 rw[e]
theorem aP(n:Int)(k:Nat)(l:Bool):(aD n k l).length=k:=by cases l<;>simp[aD]
theorem AG(n:Int)(k:Nat)(l:Bool)(h:i<k):(aD n k l).getD i 0=eY n (cond l i (k-1-i)):=by
 cases l<;>simp[aD,Zq,h]
theorem vT(h:i<l.length):l.take (i+1)=l.take i++[l.getD i 0]:=by
 simp_all
theorem Cn:∀ {els:List AV} {i:Nat},VH els=Zg->i<els.length->∃ l,els.getD i .undef = .bs l/\tj (els.take (i+1))=tj (els.take i)++l/\(tj (els.take i)).length+l.length<=(tj els).length
 | [],i,_,h=>by simp at h
 | x::r,i,a,h=>by
  cases x<;>simp only[VH] at a<;>try (cases a;done)
  rename_i l;cases i with
  | zero=>exact⟨l,by simp,by simp[tj],by simp[tj]⟩
  | succ i =>
   obtain⟨b,d,c,e⟩:=Cn (i:=i) a (by simpa using h);refine⟨b,by simpa using d,?_,?_⟩
   .simp only[List.take_succ_cons,tj] at c ⊢
    grind
   .simp only[List.take_succ_cons,tj,List.length_append];omega
theorem yq{x:AV}{r:List AV}(h:oz (x::r)=Zg):∃ n,x = .int AI n/\oz r=Zg:=by
 unfold oz at h
 grind
theorem CY:∀ {els:List AV} {i:Nat},oz els=Zg->i<els.length->∃ n,els.getD i .undef = .int AI n/\(gf els).drop i=n::(gf els).drop (i+1)
 | [],i,_,h=>by simp at h
 | x::r,i,a,h=>by
  obtain⟨n,rfl,d⟩:=yq a;cases i with
  | zero=>exact⟨n,by simp,by simp[gf]⟩
  | succ i =>
   obtain⟨m,c,b⟩:=CY (i:=i) d (by simpa using h);exact⟨m,by simpa using c,by simpa [gf] using b⟩
theorem CZ:∀ {els:List AV},oz els=Zg->(gf els).length=els.length
 | [],_=>rfl
 | x::r,a=>by
  obtain⟨n,rfl,b⟩:=yq a;simp[gf,CZ b]
theorem CU(c:UInt8):∀ l:Bytes,-1<=indexOf c l/\(0<=indexOf c l->indexOf c l<l.length)/\indexOf c l<=l.length
 | []=>by simp[indexOf]
 | x::r=>by
  have ih:=CU c r;unfold indexOf
  grind
theorem il(h:cO s=Zg):s.length<=39:=by
 simp only[cO,Zy,Qa2] at h;exact h.1
theorem jr(h:validName s=Zg):s.length<=39:=by
 simp only[validName,Zy,Qa2] at h;exact h.1.2
theorem iM(h:dG s=Zg):s.length<=39:=by
 simp only[dG,Zy] at h;exact il h.2
theorem fZ(h:p.valid=Zg):p.name.length<=39/\p.inst.length<=39/\p.aA.length<=39:=by
 simp only[bQ.valid,Zy] at h;exact⟨jr h.1.1,il h.1.2,iM h.2⟩
theorem lg(k:Int)(l:Bool):(header k l).length<=2:=by
 unfold header;cases isKind k<;>simp
theorem gN(b s:Bytes):(cX b s).length=b.length+s.length+1:=by simp[cX];omega
theorem gM(b:Bytes)(p:bQ):(cV b p).length=b.length+p.name.length+p.inst.length+p.aA.length+3:=by
 simp[cV,gN];omega
theorem ez(b:Bytes)(pos:Int):(text b pos).val.length<=40:=by
 unfold text
 grind
theorem gK(b:Bytes)(pos:Int):(fX b pos).val.name.length<=40/\(fX b pos).val.inst.length<=40/\(fX b pos).val.aA.length<=40:=by
 unfold fX;split
 .simp[bN]
 split
 .simp[bN]
 split
 .simp[bN]
 split
 .exact⟨ez _ _,ez _ _,ez _ _⟩
 .simp[bN]
theorem AO(n:Int):(aA n).length=3:=by
 unfold aA;split
 .rfl
 .split<;>rfl
theorem qz{c:UInt8}:∀ {s q:Bytes},c ∉ s->indexOf c (s++c::q)=s.length
 | [],q,_=>by simp[indexOf]
 | x::s,q,h=>by
  have a:(x==c)=Zz:=by
   have:x≠c:=λe=>h (by simp[e]);simpa using this
  have ih:=qz (q:=q) (c:=c) (s:=s) λhm=>h (by simp[hm]);simp only[List.cons_append,indexOf,a,Bool.false_eq_true,if_false,ih,List.length_cons];rw[Qa0 (by omega)];omega
theorem B5{pre:Bytes}{pos:Int}(a:b=pre++(s++0::post))(e:pos=pre.length)(hs:s.length<=39)(f:(0:UInt8) ∉ s):text b pos=⟨s,pos+s.length+1,0⟩:=by
 have d:room b pos 0=0:=iA.2 (by subst a;simp;omega);have hd:b.drop pos.toNat=s++0::post:=by subst a;subst e;simp
 have c:(s++0::post).take 40=s++0::post.take (39-s.length):=by
  rw[List.take_append,List.take_of_length_le (by omega),show 40-s.length=(39-s.length)+1 by omega,List.take_succ_cons]
 unfold text;rw[Qa1 d,hd,c,qz f,Qa1 (by omega)];simp
theorem BW{bad:Bytes}(h:dO s bad=Zg):(0:UInt8) ∉ s:=by
 intro hm;have:=List.all_eq_true.1 h 0 hm;simp[okB] at this
theorem nF(h:cO s=Zg):(0:UInt8) ∉ s:=by
 simp only[cO,Zy] at h;exact BW h.2
theorem qS(h:validName s=Zg):(0:UInt8) ∉ s:=by
 simp only[validName,Zy] at h;exact BW h.2
theorem pj(h:dG s=Zg):(0:UInt8) ∉ s:=by
 simp only[dG,Zy] at h;exact nF h.2
theorem zF{pre:Bytes}{pos:Int}(f:b=pre++(p.name++0::(p.inst++0::(p.aA++0::post))))(d:pos=pre.length)(c:p.valid=Zg):
  fX b pos=⟨p,pos+p.name.length+p.inst.length+p.aA.length+3,0⟩:=by
 have hl:=fZ c;have a:=c;simp only[bQ.valid,Zy] at a;have i:=B5 f d hl.1 (qS a.1.1);have h:=B5 (b:=b) (pre:=pre++(p.name++[0])) (s:=p.inst) (post:=p.aA++0::post) (pos:=pos+p.name.length+1) (by rw[f];simp) (by rw[d];simp;omega) hl.2.1 (nF a.1.2);have g:=B5 (b:=b) (pre:=pre++(p.name++[0])++(p.inst++[0])) (s:=p.aA) (post:=post) (pos:=pos+p.name.length+1+p.inst.length+1) (by rw[f];simp) (by rw[d];simp;omega) hl.2.2 (pj a.2);unfold fX;simp only[i,h,g];have e:bQ.mk p.name p.inst p.aA=p:=rfl;simp only[e,c,ne_eq,not_true_eq_false,if_false,if_true];congr 1;omega
theorem ql(n:Int)(i:Nat):((eY n i).toNat:Int)=n / 2 ^ (8*i) % 256:=by
 unfold eY;have b:=Int.emod_nonneg (n / 2 ^ (8*i)) (by omega:(256:Int)≠0);have a:=Int.emod_lt_of_pos (n / 2 ^ (8*i)) (by omega:(0:Int)<256);rw[UInt8.toNat_ofNat_of_lt' (by show _<256;omega)];omega
theorem XX{k:Nat}(b:k=1\/k=2\/k=4)(e:0<=n)(d:n<256 ^ k):ji (cond By (aD n k By).reverse (aD n k By))=n:=by
 have c:=ql n 0;have e1:=ql n 1;have e2:=ql n 2;have e3:=ql n 3;simp only[Nat.mul_zero,Nat.mul_one,Int.pow_zero,Int.ediv_one] at c e1 e2 e3;rcases b with rfl | rfl | rfl
 .have a:ji (cond By (aD n 1 By).reverse (aD n 1 By))=((eY n 0).toNat:Int):=by cases By<;>simp[aD,ji,List.range_succ]
  grind
 .have a:ji (cond By (aD n 2 By).reverse (aD n 2 By))=((eY n 1).toNat:Int)*256+((eY n 0).toNat:Int):=by cases By<;>simp[aD,ji,List.range_succ]
  grind
 .have a:ji (cond By (aD n 4 By).reverse (aD n 4 By))=((((eY n 3).toNat:Int)*256+((eY n 2).toNat:Int))*256+((eY n 1).toNat:Int))*256+((eY n 0).toNat:Int):=by cases By<;>simp[aD,ji,List.range_succ]
  grind
theorem get_at{pre:Bytes}{pos:Int}{k:Nat}(a:b=pre++(aD n k By++post))(d:pos=pre.length)(e:k=1\/k=2\/k=4)(g:0<=n)(f:n<256 ^ k):
  get b pos k By=⟨n,pos+k,0⟩:=by
 have hl:=aP n k By;have c:room b pos k=0:=iA.2 (by subst a;simp[hl];omega);have hc:cut b pos k=aD n k By:=by
  subst a;subst d;simp only[cut,Int.toNat_natCast,List.drop_left]
  grind
 unfold get;rw[Qa1 c,hc,XX e g f]
theorem EH(c:UInt8)(post:Bytes):bm (4::c::post)=if isKind (c.toNat / 2:Nat) then⟨(c.toNat / 2:Nat),Zm (c.toNat % 2=1),0⟩ else⟨0,Zz,40⟩:=by
 unfold bm
 grind
theorem A6(c:1<=k)(b:k<=10)(By:Bool)(post:Bytes):bm (header k By++post)=⟨k,By,0⟩:=by
 have a:k=1\/k=2\/k=3\/k=4\/k=5\/k=6\/k=7\/k=8\/k=9\/k=10:=by omega
 rcases a with rfl | rfl | rfl | rfl | rfl | rfl | rfl | rfl | rfl | rfl<;>cases By<;>exact EH _ post
theorem E9(b:1<=k)(a:k<=10)(By:Bool)(post:Bytes):aR (header k By++post) [k]=(By,0):=by
 unfold aR;rw[A6 b a];simp
theorem vr(b:1<=k)(a:k<=10)(By:Bool):(header k By).length=2:=by
 have:isKind k=Zg:=by simp[isKind,b,a]
 simp[header,this]
theorem qm{pre:Bytes}{pos:Int}(a:b=pre++(s++post))(d:pos=pre.length)(e:n=s.length):bytes b pos n=⟨s,pos+n,0⟩:=by
 have c:room b pos n=0:=iA.2 (by subst a;simp;omega);have hc:cut b pos n=s:=by
  subst a;subst d;subst e;simp[cut]
 unfold bytes;rw[Qa1 c,hc]
theorem MK{r:jx}(h:(bc r).err=0):aQ (bc r).val=⟨r,0⟩:=by
 unfold bc at h;split at h
 .cases h
 split at h
 .cases h
 split at h
 .cases h
 rename_i f e v;have hval:(bc r).val=cV (header 2 r.By) r.BY++aD r.time 4 r.By++aD 1 1 Zz++aD r.b_ 4 r.By++aD r.bj 1 Zz++aD r.cw.length 2 r.By++r.cw:=by
  unfold bc;rw[Qa0 f,Qa0 e,Qa0 v]
 have C:(bc r).err=0:=by unfold bc;rw[Qa0 f,Qa0 e,Qa0 v]
 simp only[Zv,Zx,Zy] at f e;obtain⟨⟨m,l⟩,j⟩:=e;simp only[within,Zy,Qa2] at m l j;obtain⟨b,i⟩:∃ b,b=(bc r).val:=⟨_,rfl⟩;have g:b=header 2 r.By++(r.BY.name++0::(r.BY.inst++0::(r.BY.aA++0::(aD r.time 4 r.By++(aD 1 1 Zz++(aD r.b_ 4 r.By++(aD r.bj 1 Zz++(aD r.cw.length 2 r.By++r.cw)))))))):=by
  rw[i,hval];simp[cX,cV]
 rw[<-i];have u:aR b [2]=(r.By,0):=by rw[g];exact E9 (by omega) (by omega) _ _
 have s:=vr (k:=2) (by omega) (by omega) r.By;have t:=zF (pos:=2) g (by rw[s];rfl) f;obtain⟨a,w⟩:∃ q:Int,q=2+r.BY.name.length+r.BY.inst.length+r.BY.aA.length+3:=⟨_,rfl⟩;rw[<-w] at t;obtain⟨l5,o⟩:∃ p,p=header 2 r.By++(r.BY.name++0::(r.BY.inst++0::(r.BY.aA++[0]))):=⟨_,rfl⟩;have d:a=l5.length:=by rw[w,o];simp[s];omega
 have c:b=l5++(aD r.time 4 r.By++(aD 1 1 Zz++(aD r.b_ 4 r.By++(aD r.bj 1 Zz++(aD r.cw.length 2 r.By++r.cw))))):=by rw[g,o];simp
 have x:get b a 4 r.By=⟨r.time,a+4,0⟩:=get_at (k:=4) c d (by omega) m.1 (by omega);have z:get b (a+4) 1 Zz=⟨1,a+4+1,0⟩:=get_at (k:=1) (n:=1) (pre:=l5++aD r.time 4 r.By) (post:=aD r.b_ 4 r.By++(aD r.bj 1 Zz++(aD r.cw.length 2 r.By++r.cw))) (by rw[c];simp) (by simp[aP,d]) (by omega) (by omega) (by omega);have he:get b (a+4+1) 4 r.By=⟨r.b_,a+4+1+4,0⟩:=get_at (k:=4) (n:=r.b_) (pre:=l5++aD r.time 4 r.By++aD 1 1 Zz) (post:=aD r.bj 1 Zz++(aD r.cw.length 2 r.By++r.cw)) (by rw[c];simp) (by simp[aP,d];omega) (by omega) l.1 (by omega);have B:get b (a+4+1+4) 1 Zz=⟨r.bj,a+4+1+4+1,0⟩:=get_at (k:=1) (n:=r.bj) (pre:=l5++aD r.time 4 r.By++aD 1 1 Zz++aD r.b_ 4 r.By) (post:=aD r.cw.length 2 r.By++r.cw) (by rw[c];simp) (by simp[aP,d];omega) (by omega) j.1 (by omega);have A:get b (a+4+1+4+1) 2 r.By=⟨r.cw.length,a+4+1+4+1+2,0⟩:=get_at (k:=2) (n:=r.cw.length) (pre:=l5++aD r.time 4 r.By++aD 1 1 Zz++aD r.b_ 4 r.By++aD r.bj 1 Zz) (post:=r.cw) (by rw[c];simp) (by simp[aP,d];omega) (by omega) (by omega) (by omega);have y:bytes b (a+4+1+4+1+2) r.cw.length=⟨r.cw,_,0⟩:=qm (pre:=l5++aD r.time 4 r.By++aD 1 1 Zz++aD r.b_ 4 r.By++aD r.bj 1 Zz++aD r.cw.length 2 r.By) (post:=[]) (by rw[c];simp) (by simp[aP,d];omega) rfl;have D:iZ b=r:=by
  unfold iZ;simp only[u,t,x,z,he,B,A,y]
 unfold aQ;rw[u,D,C,<-i];simp
theorem SQ(c:0<=k)(b:k<18446744073709551616):Zf AI (Int.fdiv k ((2:Int) ^ min (Zw (56:Int)) (Zu AT)))=dI k:=by
 have e:min (Zw (56:Int)) (Zu AT)=56:=by decide
 rw[e,Int.fdiv_eq_ediv_of_nonneg _ (Int.le_of_lt (Int.pow_pos (by omega)))];unfold dI;have a:(2:Int) ^ 56=72057594037927936:=by decide
 rw[a,wrap_i64 (by omega) (by omega)]
theorem SR(b:0<=k)(e:k<18446744073709551616):Zf AI (Zf AT (((BitVec.ofInt (Zu AT) k &&& BitVec.ofInt (Zu AT) (72057594037927935:Int)).toNat:Nat):Int))=dk k:=by
 obtain⟨m,rfl⟩:=Zp b;have a:Zu AT=64:=rfl;have d:(BitVec.ofInt 64 ((m:Nat):Int) &&& BitVec.ofInt 64 (72057594037927935:Int)).toNat=m % 72057594037927936:=by
  have c:BitVec.ofInt 64 (72057594037927935:Int)=BitVec.ofNat 64 (2 ^ 56-1):=by decide
  rw[BitVec.ofInt_natCast,c,BitVec.toNat_and,BitVec.toNat_ofNat,BitVec.toNat_ofNat,Zj (by omega),Zj (by decide),Nat.and_two_pow_sub_one_eq_mod]
 rw[a,d,wrap_u64];unfold dk;rw[wrap_i64 (by omega) (by omega)];omega
theorem SS{c:Int}(hc:c=1\/c=2)(j:1<=n)(i:n<=4294967295):Zf AT (((BitVec.ofInt (Zu AT) (Zf AT (Zf AT c*(2:Int) ^ min (Zw (56:Int)) (Zu AT))) ||| BitVec.ofInt (Zu AT) (Zf AT n)).toNat:Nat):Int)=c*72057594037927936+n:=by
 have e:min (Zw (56:Int)) (Zu AT)=56:=by decide
 have f:Zu AT=64:=rfl;obtain⟨m,rfl⟩:=Zp (by omega:0<=n);obtain⟨d,rfl⟩:=Zp (by omega:0<=c);have h:(2:Int) ^ 56=72057594037927936:=by decide
 rw[e,h,wrap_u64,wrap_u64,wrap_u64,wrap_u64,f];have b:((d:Int) % 18446744073709551616*72057594037927936) % 18446744073709551616=((2 ^ 56*d:Nat):Int):=by omega
 have a:((m:Int) % 18446744073709551616)=((m:Nat):Int):=by omega
 rw[b,a];have g:(BitVec.ofInt 64 ((2 ^ 56*d:Nat):Int) ||| BitVec.ofInt 64 ((m:Nat):Int)).toNat=2 ^ 56*d+m:=by
  rw[BitVec.ofInt_natCast,BitVec.ofInt_natCast,BitVec.toNat_or,BitVec.toNat_ofNat,BitVec.toNat_ofNat,Zj (by omega),Zj (by omega)];exact(Zd (by omega) d).symm
 rw[g];omega
theorem Kv(c:UInt8)(f:0<=n)(h:n<72057594037927936):Zf AT ((BitVec.ofInt (Zu AT) (Zf AT (n*2 ^ min (Zw 8) (Zu AT))) ||| BitVec.ofInt (Zu AT) (Zf AT (c.toNat:Int))).toNat:Int)=n*256+c.toNat:=by
 obtain⟨m,rfl⟩:=Zp f;have hc:=c.toNat_lt;have e:min (Zw 8) (Zu AT)=8:=by decide
 have d:Zu AT=64:=rfl;rw[e,wrap_u64,wrap_u64,wrap_u64,d];have b:((m:Int)*2 ^ 8) % 18446744073709551616=((2 ^ 8*m:Nat):Int):=by omega
 have a:((c.toNat:Int) % 18446744073709551616)=((c.toNat:Nat):Int):=by omega
 rw[b,a];have g:(BitVec.ofInt 64 ((2 ^ 8*m:Nat):Int) ||| BitVec.ofInt 64 ((c.toNat:Nat):Int)).toNat=2 ^ 8*m+c.toNat:=by
  rw[BitVec.ofInt_natCast,BitVec.ofInt_natCast,BitVec.toNat_or,BitVec.toNat_ofNat,BitVec.toNat_ofNat,Zj (by omega),Zj (by omega)];exact(Zd hc m).symm
 rw[g];omega
theorem WH(k:Int):dI k*72057594037927936+dk k=k:=by
 unfold dI dk;omega
theorem Ea(h:l.length<=8):0<=ji l/\ji l<18446744073709551616:=by
 obtain⟨m,a,b⟩:=Eb l;have:256 ^ l.length<=256 ^ 8:=Nat.pow_le_pow_right (by omega) h;rw[a];omega
theorem Lc(h:l.length<=7):0<=ji l/\ji l<72057594037927936:=by
 obtain⟨m,a,b⟩:=Eb l;have:256 ^ l.length<=256 ^ 7:=Nat.pow_le_pow_right (by omega) h;rw[a];omega
theorem bu(k:Int):(keyBytes k).length=8:=by simp[keyBytes]
theorem Hf(d:0<=k)(c:k<18446744073709551616):ji (keyBytes k)=k:=by
 have b:ji (keyBytes k)=(((((((((eY k 7).toNat:Int)*256+((eY k 6).toNat:Int))*256+((eY k 5).toNat:Int))*256+((eY k 4).toNat:Int))*256+((eY k 3).toNat:Int))*256+((eY k 2).toNat:Int))*256+((eY k 1).toNat:Int))*256+((eY k 0).toNat:Int)):=by simp[keyBytes,ji,List.range_succ]
 have a:∀ i,k / 2 ^ (8*(i+1))=k / 2 ^ (8*i) / 256:=λi=>by
  rw[show 8*(i+1)=8*i+8 by omega,Int.pow_add,Int.ediv_ediv_of_nonneg (Int.le_of_lt (Int.pow_pos (by omega)))];rfl
 have ev:∀ i,((eY k i).toNat:Int)=k / 2 ^ (8*i)-256*(k / 2 ^ (8*(i+1))):=λi=>by
  rw[ql,a]
  grind
 grind
theorem fG(c:0<=k)(b:k<18446744073709551616)(a:bf k=Zg):dm (keyBytes k)=(k,Zg):=by
 unfold dm;rw[Hf c b,Qa1 ⟨bu k,a⟩]
theorem dN(b:Bytes):0<=(dm b).1/\(dm b).1<18446744073709551616:=by
 unfold dm;split
 .rename_i h;exact Ea (by omega)
 .simp
theorem iu(b:Bytes)(pos n:Int):(bytes b pos n).val.length<=b.length:=by
 unfold bytes;split
 .simp[cut];omega
 .simp
theorem rz(b:Bytes):(pad b).length=b.length+(8-b.length % 8) % 8:=by simp[pad]
theorem yg(l:Bytes):0<=(aB l).ah/\(aB l).ah<18446744073709551616:=by
 simp only[aB,ah,wrap_u64];omega
theorem aca{n:Nat}(h:n<=70368744177664):Int.tmod (Zf AI ((8:Int)-Int.tmod (n:Int) 8)) 8=(((8-n % 8) % 8:Nat):Int):=by
 rw[Zb (a:=(n:Int)) (by omega),wrap_i64 (by omega) (by omega),Zb (by omega)];omega
theorem vl(r:fL)(By:Bool):(bt r By).val.length<=392:=by
 unfold bt;split
 .simp
 split
 .simp
 split
 .simp
 split
 .simp
 rename_i e a d c;simp only[Zv,Zx] at a;have b:=fZ a;simp only[rz,gM,aP,bu,List.length_append];omega
theorem vm(h:(bt r By).err=0):
  bf r.ah=Zg/\r.service.valid=Zg/\(0<=r.bK/\r.bK<=255)/\(0<=r.bj/\r.bj<=255)/\(0<=r.time/\r.time<=4294967295)/\r.aB.length<=255 /\
  (bt r By).val=pad (cV (aD (cond By 1 0) 1 Zz++keyBytes r.ah) r.service++aD r.bK 1 Zz++aD r.bj 1 Zz++aD r.aB.length 1 Zz++r.aB++aD r.time 4 By):=by
 unfold bt at h;split at h
 .cases h
 split at h
 .cases h
 split at h
 .cases h
 split at h
 .cases h
 rename_i c b a g;have hval:(bt r By).val=pad (cV (aD (cond By 1 0) 1 Zz++keyBytes r.ah) r.service++aD r.bK 1 Zz++aD r.bj 1 Zz++aD r.aB.length 1 Zz++r.aB++aD r.time 4 By):=by
  unfold bt;rw[Qa0 c,Qa0 b,Qa0 a,Qa0 g]
 simp only[Zv,Zx,Zy] at c b a;obtain⟨⟨f,e⟩,d⟩:=a;simp only[within,Zy,Qa2] at f e d
 grind
theorem acd(l:Bool):aD (cond l 1 0) 1 Zz=[cond l 1 0]:=by cases l<;>rfl
theorem Qg(F:0<=r.ah)(u:r.ah<18446744073709551616)(h:(bt r By).err=0):aX (bt r By).val By=⟨r,0⟩:=by
 have D:=h;obtain⟨B,A,t,s,o,G,hval⟩:=vm h;obtain⟨b,g⟩:∃ b,b=(bt r By).val:=⟨_,rfl⟩;obtain⟨z,f⟩:∃ z,b=[cond By 1 0]++(keyBytes r.ah++(r.service.name++0::(r.service.inst++0::(r.service.aA++0::(aD r.bK 1 Zz++(aD r.bj 1 Zz++(aD r.aB.length 1 Zz++(r.aB++(aD r.time 4 By++z))))))))):=by
  rw[g,hval,acd];exact⟨List.replicate _ 0,by simp only[pad,cX,cV,Zn,List.cons_append,List.nil_append];rfl⟩
 rw[<-g];have e:=bu r.ah;have i:bytes b 1 8=⟨keyBytes r.ah,1+8,0⟩:=qm f rfl (by rw[e];rfl);have C:=fG F u B;have l:fX b (1+8)=_:=zF (pos:=1+8) (b:=b) (pre:=[cond By 1 0]++keyBytes r.ah) (p:=r.service) (by rw[f];simp;rfl) (by simp[e]) A;obtain⟨a,m⟩:∃ q:Int,q=1+8+r.service.name.length+r.service.inst.length+r.service.aA.length+3:=⟨_,rfl⟩;rw[<-m] at l;obtain⟨l5,j⟩:∃ p,p=[cond By 1 0]++(keyBytes r.ah++(r.service.name++0::(r.service.inst++0::(r.service.aA++[0])))):=⟨_,rfl⟩;have d:a=l5.length:=by rw[m,j];simp[e];omega
 have c:b=l5++(aD r.bK 1 Zz++(aD r.bj 1 Zz++(aD r.aB.length 1 Zz++(r.aB++(aD r.time 4 By++z))))):=by rw[f,j];simp
 have hl:get b a 1 Zz=⟨r.bK,a+1,0⟩:=get_at (k:=1) c d (by omega) t.1 (by omega);have y:get b (a+1) 1 Zz=⟨r.bj,a+1+1,0⟩:=get_at (k:=1) (n:=r.bj) (pre:=l5++aD r.bK 1 Zz) (post:=aD r.aB.length 1 Zz++(r.aB++(aD r.time 4 By++z))) (by rw[c];simp) (by simp[aP,d]) (by omega) s.1 (by omega);have x:get b (a+1+1) 1 Zz=⟨r.aB.length,a+1+1+1,0⟩:=get_at (k:=1) (n:=r.aB.length) (pre:=l5++aD r.bK 1 Zz++aD r.bj 1 Zz) (post:=r.aB++(aD r.time 4 By++z)) (by rw[c];simp) (by simp[aP,d];omega) (by omega) (by omega) (by omega);have v:bytes b (a+1+1+1) r.aB.length=⟨r.aB,a+1+1+1+r.aB.length,0⟩:=qm (pre:=l5++aD r.bK 1 Zz++aD r.bj 1 Zz++aD r.aB.length 1 Zz) (post:=aD r.time 4 By++z) (by rw[c];simp) (by simp[aP,d];omega) rfl;have w:get b (a+1+1+1+r.aB.length) 4 By=⟨r.time,a+1+1+1+r.aB.length+4,0⟩:=get_at (k:=4) (n:=r.time) (pre:=l5++aD r.bK 1 Zz++aD r.bj 1 Zz++aD r.aB.length 1 Zz++r.aB) (post:=z) (by rw[c];simp) (by simp[aP,d];omega) (by omega) o.1 (by omega);have E:jh b By=r:=by
  unfold jh;simp only[i,C,l,hl,y,x,v,w]
 unfold aX;rw[E,D,<-g];simp
theorem uf(r:qh):(mB r).val.length<=300:=by
 unfold mB;split
 .simp
 split
 .simp
 split
 .simp
 split
 .simp
 rename_i a f e d;simp only[Zv,Zx] at a;have c:=fZ a;have b:=lg 5 r.By;simp only[gN,gM,aP,List.length_append];omega
theorem cl{pos:Int}{li:Bool}(h:get b pos k li=⟨n,nx,0⟩):bV b k li pos Zz=⟨n,nx,Zz⟩:=by
 unfold bV;rw[h];rfl
theorem sT{pos:Int}(h:text b pos=⟨s,nx,0⟩):gi b pos Zz=⟨s,nx,Zz⟩:=by
 unfold gi;rw[h];rfl
theorem eC{pos:Int}(h:bytes b pos n=⟨s,nx,0⟩):cq b n pos Zz=⟨s,nx,Zz⟩:=by
 unfold cq;rw[h];rfl
theorem lH{pos:Int}(h:fX b pos=⟨p,nx,0⟩):fA b pos Zz=⟨p,nx,Zz⟩:=by
 unfold fX at h;by_cases d:(text b pos).err=0;case neg=>rw[Qa1 d] at h;simp at h;exact absurd h.2.2 d
 rw[Qa0 (by simpa using d)] at h;by_cases c:(text b (text b pos).next).err=0;case neg=>rw[Qa1 c] at h;simp at h;exact absurd h.2.2 c
 rw[Qa0 (by simpa using c)] at h;by_cases a:(text b (text b (text b pos).next).next).err=0;case neg=>rw[Qa1 a] at h;simp at h;exact absurd h.2.2 a
 rw[Qa0 (by simpa using a)] at h;split at h
 .simp only[adC.mk.injEq,Qa8] at h;obtain⟨rfl,rfl⟩:=h;unfold fA;simp[d,c,a]
 .simp at h
theorem MG{r:jx}(h:(bc r).err=0):(kP (bc r).val).val=r/\(kP (bc r).val).bad=Zz:=by
 unfold bc at h;split at h
 .cases h
 split at h
 .cases h
 split at h
 .cases h
 rename_i f e u;have hval:(bc r).val=cV (header 2 r.By) r.BY++aD r.time 4 r.By++aD 1 1 Zz++aD r.b_ 4 r.By++aD r.bj 1 Zz++aD r.cw.length 2 r.By++r.cw:=by
  unfold bc;rw[Qa0 f,Qa0 e,Qa0 u]
 have C:(bc r).err=0:=by unfold bc;rw[Qa0 f,Qa0 e,Qa0 u]
 simp only[Zv,Zx,Zy] at f e;obtain⟨⟨l,j⟩,i⟩:=e;simp only[within,Zy,Qa2] at l j i;obtain⟨b,t⟩:∃ b,b=(bc r).val:=⟨_,rfl⟩;have g:b=header 2 r.By++(r.BY.name++0::(r.BY.inst++0::(r.BY.aA++0::(aD r.time 4 r.By++(aD 1 1 Zz++(aD r.b_ 4 r.By++(aD r.bj 1 Zz++(aD r.cw.length 2 r.By++r.cw)))))))):=by
  rw[t,hval];simp[cX,cV]
 rw[<-t];have B:aR b [2]=(r.By,0):=by rw[g];exact E9 (by omega) (by omega) _ _
 have o:=vr (k:=2) (by omega) (by omega) r.By;have s:=zF (pos:=2) g (by rw[o];rfl) f;obtain⟨a,v⟩:∃ q:Int,q=2+r.BY.name.length+r.BY.inst.length+r.BY.aA.length+3:=⟨_,rfl⟩;rw[<-v] at s;obtain⟨l5,m⟩:∃ p,p=header 2 r.By++(r.BY.name++0::(r.BY.inst++0::(r.BY.aA++[0]))):=⟨_,rfl⟩;have d:a=l5.length:=by rw[v,m];simp[o];omega
 have c:b=l5++(aD r.time 4 r.By++(aD 1 1 Zz++(aD r.b_ 4 r.By++(aD r.bj 1 Zz++(aD r.cw.length 2 r.By++r.cw))))):=by rw[g,m];simp
 have w:get b a 4 r.By=⟨r.time,a+4,0⟩:=get_at (k:=4) c d (by omega) l.1 (by omega);have y:get b (a+4) 1 Zz=⟨1,a+4+1,0⟩:=get_at (k:=1) (n:=1) (pre:=l5++aD r.time 4 r.By) (post:=aD r.b_ 4 r.By++(aD r.bj 1 Zz++(aD r.cw.length 2 r.By++r.cw))) (by rw[c];simp) (by simp[aP,d]) (by omega) (by omega) (by omega);have he:get b (a+4+1) 4 r.By=⟨r.b_,a+4+1+4,0⟩:=get_at (k:=4) (n:=r.b_) (pre:=l5++aD r.time 4 r.By++aD 1 1 Zz) (post:=aD r.bj 1 Zz++(aD r.cw.length 2 r.By++r.cw)) (by rw[c];simp) (by simp[aP,d];omega) (by omega) j.1 (by omega);have A:get b (a+4+1+4) 1 Zz=⟨r.bj,a+4+1+4+1,0⟩:=get_at (k:=1) (n:=r.bj) (pre:=l5++aD r.time 4 r.By++aD 1 1 Zz++aD r.b_ 4 r.By) (post:=aD r.cw.length 2 r.By++r.cw) (by rw[c];simp) (by simp[aP,d];omega) (by omega) i.1 (by omega);have z:get b (a+4+1+4+1) 2 r.By=⟨r.cw.length,a+4+1+4+1+2,0⟩:=get_at (k:=2) (n:=r.cw.length) (pre:=l5++aD r.time 4 r.By++aD 1 1 Zz++aD r.b_ 4 r.By++aD r.bj 1 Zz) (post:=r.cw) (by rw[c];simp) (by simp[aP,d];omega) (by omega) (by omega) (by omega);have x:bytes b (a+4+1+4+1+2) r.cw.length=⟨r.cw,_,0⟩:=qm (pre:=l5++aD r.time 4 r.By++aD 1 1 Zz++aD r.b_ 4 r.By++aD r.bj 1 Zz++aD r.cw.length 2 r.By) (post:=[]) (by rw[c];simp) (by simp[aP,d];omega) rfl;unfold kP;simp only[B,lH s,cl w,cl y,cl he,cl A,cl z,eC x];exact⟨trivial,trivial⟩
theorem Kg(c:(aR b [2]).2=0):aQ b=if (kP b).bad=Zg\/(bc (kP b).val).err≠0\/(bc (kP b).val).val≠b then⟨wg,100⟩ else⟨(kP b).val,0⟩:=by
 by_cases h:(kP b).bad=Zg\/(bc (kP b).val).err≠0\/(bc (kP b).val).val≠b
 .rw[Qa1 h];unfold aQ;rw[Qa0 (by simpa using c)];by_cases g:(bc (iZ b)).err≠0\/(bc (iZ b)).val≠b
  .rw[Qa1 g]
  .exfalso;have a:(bc (iZ b)).err=0:=Decidable.byContradiction λx=>g (.inl x);have d:(bc (iZ b)).val=b:=Decidable.byContradiction λx=>g (.inr x);obtain⟨e,f⟩:=MG a
   grind
 .rw[Qa0 h];have a:(bc (kP b).val).err=0:=Decidable.byContradiction λx=>h (.inr (.inl x));have d:(bc (kP b).val).val=b:=Decidable.byContradiction λx=>h (.inr (.inr x));have:=MK a
  grind
theorem jW(b:Bytes)(pos:Int)(bad:Bool):(fA b pos bad).p.name.length<=40/\(fA b pos bad).p.inst.length<=40/\(fA b pos bad).p.aA.length<=40 :=
 ⟨ez _ _,ez _ _,ez _ _⟩
theorem Qq(E:0<=r.ah)(u:r.ah<18446744073709551616)(h:(bt r By).err=0):(ny (bt r By).val By).val=r/\(ny (bt r By).val By).bad=Zz:=by
 have G:=h;obtain⟨C,B,t,s,o,F,hval⟩:=vm h;obtain⟨b,l⟩:∃ b,b=(bt r By).val:=⟨_,rfl⟩;obtain⟨z,e⟩:∃ z,b=[cond By 1 0]++(keyBytes r.ah++(r.service.name++0::(r.service.inst++0::(r.service.aA++0::(aD r.bK 1 Zz++(aD r.bj 1 Zz++(aD r.aB.length 1 Zz++(r.aB++(aD r.time 4 By++z))))))))):=by
  rw[l,hval,acd];exact⟨List.replicate _ 0,by simp only[pad,cX,cV,Zn,List.cons_append,List.nil_append];rfl⟩
 rw[<-l];have f:=bu r.ah;have g:bytes b 1 8=⟨keyBytes r.ah,1+8,0⟩:=qm e rfl (by rw[f];rfl);have D:=fG E u C;have j:fX b (1+8)=_:=zF (pos:=1+8) (b:=b) (pre:=[cond By 1 0]++keyBytes r.ah) (p:=r.service) (by rw[e];simp;rfl) (by simp[f]) B;obtain⟨a,m⟩:∃ q:Int,q=1+8+r.service.name.length+r.service.inst.length+r.service.aA.length+3:=⟨_,rfl⟩;rw[<-m] at j;obtain⟨l5,i⟩:∃ p,p=[cond By 1 0]++(keyBytes r.ah++(r.service.name++0::(r.service.inst++0::(r.service.aA++[0])))):=⟨_,rfl⟩;have d:a=l5.length:=by rw[m,i];simp[f];omega
 have c:b=l5++(aD r.bK 1 Zz++(aD r.bj 1 Zz++(aD r.aB.length 1 Zz++(r.aB++(aD r.time 4 By++z))))):=by rw[e,i];simp
 have hl:get b a 1 Zz=⟨r.bK,a+1,0⟩:=get_at (k:=1) c d (by omega) t.1 (by omega);have A:get b (a+1) 1 Zz=⟨r.bj,a+1+1,0⟩:=get_at (k:=1) (n:=r.bj) (pre:=l5++aD r.bK 1 Zz) (post:=aD r.aB.length 1 Zz++(r.aB++(aD r.time 4 By++z))) (by rw[c];simp) (by simp[aP,d]) (by omega) s.1 (by omega);have y:get b (a+1+1) 1 Zz=⟨r.aB.length,a+1+1+1,0⟩:=get_at (k:=1) (n:=r.aB.length) (pre:=l5++aD r.bK 1 Zz++aD r.bj 1 Zz) (post:=r.aB++(aD r.time 4 By++z)) (by rw[c];simp) (by simp[aP,d];omega) (by omega) (by omega) (by omega);have v:bytes b (a+1+1+1) r.aB.length=⟨r.aB,a+1+1+1+r.aB.length,0⟩:=qm (pre:=l5++aD r.bK 1 Zz++aD r.bj 1 Zz++aD r.aB.length 1 Zz) (post:=aD r.time 4 By++z) (by rw[c];simp) (by simp[aP,d];omega) rfl;have w:get b (a+1+1+1+r.aB.length) 4 By=⟨r.time,a+1+1+1+r.aB.length+4,0⟩:=get_at (k:=4) (n:=r.time) (pre:=l5++aD r.bK 1 Zz++aD r.bj 1 Zz++aD r.aB.length 1 Zz++r.aB) (post:=z) (by rw[c];simp) (by simp[aP,d];omega) (by omega) o.1 (by omega);have x:get b 0 1 Zz=⟨cond By 1 0,1,0⟩:=by
  have:=get_at (b:=b) (pre:=[]) (pos:=0) (n:=cond By 1 0) (k:=1) (By:=Zz) (post:=keyBytes r.ah++(r.service.name++0::(r.service.inst++0::(r.service.aA++0::(aD r.bK 1 Zz++(aD r.bj 1 Zz++(aD r.aB.length 1 Zz++(r.aB++(aD r.time 4 By++z))))))))) (by rw[acd];exact e) rfl (by omega) (by cases By<;>simp) (by cases By<;>simp);exact this
 unfold ny;simp only[cl x,eC g,D,lH j,cl hl,cl A,cl y,eC v,cl w];exact⟨trivial,trivial⟩
theorem Bj(b:Bytes)(By:Bool):0<=(jh b By).ah/\(jh b By).ah<18446744073709551616:=dN _
theorem FM(b:Bytes)(By:Bool):0<=(ny b By).val.ah/\(ny b By).val.ah<18446744073709551616:=dN _
theorem MF(b:Bytes)(li:Bool):aX b li=if (ny b li).bad=Zg\/(bt (ny b li).val li).err≠0\/(bt (ny b li).val li).val≠b then⟨qG,100⟩ else⟨(ny b li).val,0⟩:=by
 by_cases h:(ny b li).bad=Zg\/(bt (ny b li).val li).err≠0\/(bt (ny b li).val li).val≠b
 .rw[Qa1 h];unfold aX;by_cases g:(bt (jh b li) li).err≠0\/(bt (jh b li) li).val≠b
  .rw[Qa1 g]
  .exfalso;have a:(bt (jh b li) li).err=0:=Decidable.byContradiction λx=>g (.inl x);have c:(bt (jh b li) li).val=b:=Decidable.byContradiction λx=>g (.inr x);obtain⟨d,e⟩:=Qq (Bj b li).1 (Bj b li).2 a
   grind
 .rw[Qa0 h];have a:(bt (ny b li).val li).err=0:=Decidable.byContradiction λx=>h (.inr (.inl x));have c:(bt (ny b li).val li).val=b:=Decidable.byContradiction λx=>h (.inr (.inr x));have:=Qg (FM b li).1 (FM b li).2 a
  grind
theorem wrap_u16(x:Int):Zf .u16 x=x % 65536:=by
 rw[Zf];rfl
theorem MZ{how:Int}(a:0<=how)(d:how<=65535)(c:0<b.length):0<=pV b how/\pV b how<b.length:=by
 unfold pV;rw[Int.tdiv_eq_ediv_of_nonneg a,wrap_u16,wrap_i64 (by omega) (by omega),Zb (by omega)];exact⟨Int.emod_nonneg _ (by omega),Int.emod_lt_of_pos _ (by omega)⟩
theorem QJ(b:Bytes)(how:Int):(xv b how).length<=2*b.length+1:=by grind [xv]
end Kerb
/- Reading what was written: a place in a text, and what is behind it. -/
namespace Kerb
open Go Go.Abs
def At(b:Bytes)(pos:Int)(rest:Bytes):Prop:=∃ pre:Bytes,b=pre++rest/\pos=pre.length
theorem At.start(b:Bytes):At b 0 b:=⟨[],rfl,rfl⟩
theorem At.skip{b s rest:Bytes}{pos:Int}(h:At b pos (s++rest)):At b (pos+s.length) rest:=by
 obtain⟨pre,rfl,rfl⟩:=h;exact⟨pre++s,by simp,by simp⟩
theorem At.to{b rest:Bytes}{pos q:Int}(h:At b pos rest)(e:pos=q):At b q rest:=e ▸ h
theorem At.as{b rest a:Bytes}{pos:Int}(h:At b pos rest)(e:rest=a):At b pos a:=e ▸ h
theorem At.get{b rest:Bytes}{pos n:Int}{k:Nat}{li:Bool}(h:At b pos (aD n k li++rest))(c:k=1\/k=2\/k=4)(f:0<=n)(e:n<256 ^ k) :
  Kerb.get b pos k li=⟨n,pos+k,0⟩/\At b (pos+k) rest:=by
 have hs:=h.skip;rw[aP] at hs;obtain⟨pre,d,a⟩:=h;exact⟨get_at d a c f e,hs⟩
theorem At.bytes{b s rest:Bytes}{pos n:Int}(h:At b pos (s++rest))(a:n=s.length):Kerb.bytes b pos n=⟨s,pos+n,0⟩/\At b (pos+n) rest:=by
 have hs:=h.skip;obtain⟨pre,d,c⟩:=h;exact⟨qm d c a,a ▸ hs⟩
theorem At.text{b s rest:Bytes}{pos:Int}(h:At b pos (s++0::rest))(hs:s.length<=39)(f:(0:UInt8) ∉ s):Kerb.text b pos=⟨s,pos+s.length+1,0⟩/\At b (pos+s.length+1) rest:=by
 have e:At b (pos+s.length) ([0]++rest):=h.skip;have d:=e.skip;obtain⟨pre,c,a⟩:=h;exact⟨B5 c a hs f,d⟩
theorem At.fX{b rest:Bytes}{p:bQ}{pos:Int}(h:At b pos (p.name++0::(p.inst++0::(p.aA++0::rest))))(d:p.valid=Zg) :
  ∃ q,Kerb.fX b pos=⟨p,q,0⟩/\At b q rest:=by
 obtain⟨pre,c,a⟩:=h;have:=zF c a d;refine⟨_,this,pre++(p.name++0::(p.inst++0::(p.aA++[0]))),by rw[c];simp,?_⟩;rw[a];simp;omega
end Kerb
/- Chapter 22: messages of kaservers, in plain words. -/
namespace Kerb
open Go Go.Abs
variable {α:Type}{no:α}{enc:α->rF}
structure df where
 op:Int
 user:bQ
 bj:Int
 aA:Bytes
 aB:Bytes
 service:Bytes
 inst:Bytes
 box:Bytes
def bQ.He(p:bQ):Bool:=p.name==[]&&(p.inst==[]&&p.aA==[])
def tJ(n:Int):Bool:=n==1||(n==2||n==3)
def qB(op:Int):Bytes:=header 9 Zz++aD op 1 Zz
def gL(b:Bytes)(t:Bytes):Bytes:=b++aD t.length 2 Zz++t
def jg(b:Bytes)(t:Bytes):Bytes:=b++aD t.length 1 Zz++t
def aH(r:df):rF :=
 if !tJ r.op then⟨[],40⟩
 else if r.op==2 then
  if !(dG r.aA&&validName r.service&&cO r.inst) then⟨[],103⟩
  else if !within r.bj 255 then⟨[],104⟩
  else if 255<r.aB.length\/1012<r.box.length then⟨[],105⟩
  else if !r.user.He then⟨[],108⟩
  else⟨gL (cX (cX (jg (cX (qB r.op++aD r.bj 1 Zz) r.aA) r.aB) r.service) r.inst) r.box,0⟩
 else
  if !r.user.valid then⟨[],103⟩
  else if 1012<r.box.length then⟨[],105⟩
  else if r.bj≠0\/r.aA≠[]\/r.aB≠[]\/r.service≠[]\/r.inst≠[] then⟨[],108⟩
  else⟨gL (cV (qB r.op) r.user) r.box,0⟩
def lD:df:=⟨0,bN,0,[],[],[],[],[]⟩
structure Ii (α:Type) where
 val:α
 err:Int
def dU(no:α)(enc:α->rF)(rd:Bytes->α×Bool)(b:Bytes):Ii α :=
 if (rd b).2=Zg\/(enc (rd b).1).err≠0\/(enc (rd b).1).val≠b then⟨no,100⟩ else⟨(rd b).1,0⟩
theorem iG{P:α->Prop}{c a:Bytes->α×Bool}(g:∀ r,P r->(enc r).err=0->c (enc r).val=(r,Zz))(f:∀ r,P r->(enc r).err=0->a (enc r).val=(r,Zz))(e:∀ b,P (c b).1)(d:∀ b,P (a b).1)(b:Bytes):dU no enc c b=dU no enc a b:=by grind [dU]
theorem Cr{rd:Bytes->α×Bool}{r:α}(h:rd (enc r).val=(r,Zz))(he:(enc r).err=0):dU no enc rd (enc r).val=⟨r,0⟩:=by
 unfold dU
 grind
def fV(b:Bytes)(k:Int)(pos:Int)(bad:Bool):Rd Int :=
 cond (bad || !((get b pos k Zz).err==0)) ⟨0,pos,Zg⟩ ⟨(get b pos k Zz).val,(get b pos k Zz).next,Zz⟩
def lO(b:Bytes)(pos:Int)(bad:Bool):Rd Bytes :=
 cond (bad || !((text b pos).err==0)) ⟨[],pos,Zg⟩ ⟨(text b pos).val,(text b pos).next,Zz⟩
def eH(b:Bytes)(n:Int)(pos:Int)(bad:Bool):Rd Bytes :=
 cond (bad || !((bytes b pos n).err==0)) ⟨[],pos,Zg⟩ ⟨(bytes b pos n).val,(bytes b pos n).next,Zz⟩
def lZ(b:Bytes)(pos:Int)(bad:Bool):Rd bQ :=
 cond (bad || !((fX b pos).err==0)) ⟨bN,pos,Zg⟩ ⟨(fX b pos).val,(fX b pos).next,Zz⟩
def xY(b:Bytes)(pos:Int)(bad:Bool):Rd Int :=
 ⟨cond (dm (eH b 8 pos bad).val).2 (dm (eH b 8 pos bad).val).1 0,(eH b 8 pos bad).pos,(eH b 8 pos bad).bad || !(dm (eH b 8 pos bad).val).2⟩
def Dn(b:Bytes):Rd df :=
  let o:=fV b 1 2 Zz
  cond (o.val==2)
    (let k:=fV b 1 o.pos o.bad
     let r:=lO b k.pos k.bad
     let n:=fV b 1 r.pos r.bad
     let t:=eH b n.val n.pos n.bad
     let s:=lO b t.pos t.bad
     let i:=lO b s.pos s.bad
     let m:=fV b 2 i.pos i.bad
     let x:=eH b m.val m.pos m.bad
     ⟨⟨o.val,bN,k.val,r.val,t.val,s.val,i.val,x.val⟩,x.pos,x.bad⟩)
    (let u:=lZ b o.pos o.bad
     let m:=fV b 2 u.pos u.bad
     let x:=eH b m.val m.pos m.bad
     ⟨⟨o.val,u.val,0,[],[],[],[],x.val⟩,x.pos,x.bad⟩)
def iY(b:Bytes):df×Bool:=((Dn b).val,(Dn b).bad)
def aG(b:Bytes):Ii df :=
 if (aR b [9]).2≠0 then⟨lD,(aR b [9]).2⟩ else dU lD aH iY b
structure lu where
 op:Int
 code:Int
 box:Bytes
def cj(r:lu):rF :=
 if !tJ r.op then⟨[],40⟩
 else if !within r.code 99 then⟨[],104⟩
 else if 1012<r.box.length then⟨[],105⟩
 else if r.code≠0/\r.box≠[] then⟨[],108⟩
 else⟨gL (qB (r.op+128)++aD r.code 1 Zz) r.box,0⟩
def n_:lu:=⟨0,0,[]⟩
def Qf(b:Bytes):Rd lu :=
 let o:=fV b 1 2 Zz
 let c:=fV b 1 o.pos o.bad
 let m:=fV b 2 c.pos c.bad
 let x:=eH b m.val m.pos m.bad
 ⟨⟨o.val-128,c.val,x.val⟩,x.pos,x.bad⟩
def oe(b:Bytes):lu×Bool:=((Qf b).val,(Qf b).bad)
def dc(b:Bytes):Ii lu :=
 if (aR b [9]).2≠0 then⟨n_,(aR b [9]).2⟩ else dU n_ cj oe b
def zm:Bytes:=[103,84,71,83]
def Hi:Bytes:=[116,103,115,84]
def ng:Bytes:=[103,84,75,84]
def xQ:Bytes:=[116,107,116,71]
def iO:Bytes:=[67,80,87,108]
def oR:Bytes:=[67,80,87,100]
structure fU where
 label:Bytes
 time:Int
 start:Int
 stop:Int
 new:Int
def lQ(l:Bytes):Bool:=l==zm||l==ng
def aY(s:fU):rF :=
 if !lQ s.label && !(s.label==iO) then⟨[],80⟩
 else if !within s.time 4294967295 then⟨[],104⟩
 else if lQ s.label then
  if !(within s.start 4294967295&&within s.stop 4294967295) then⟨[],104⟩
  else if s.new≠0 then⟨[],108⟩
  else⟨pad (s.label++aD s.time 4 Zz++aD s.start 4 Zz++aD s.stop 4 Zz),0⟩
 else
  if !bf s.new then⟨[],10⟩
  else if s.start≠0\/s.stop≠0 then⟨[],108⟩
  else⟨pad (s.label++aD s.time 4 Zz++keyBytes s.new),0⟩
def tP:fU:=⟨[],0,0,0,0⟩
def Ka(b:Bytes):Rd fU :=
  let l:=eH b 4 0 Zz
  let t:=fV b 4 l.pos l.bad
  cond (lQ l.val)
    (let s:=fV b 4 t.pos t.bad
     let e:=fV b 4 s.pos s.bad
     ⟨⟨l.val,t.val,s.val,e.val,0⟩,e.pos,e.bad⟩)
    (let k:=xY b t.pos t.bad
     ⟨⟨l.val,t.val,0,0,k.val⟩,k.pos,k.bad⟩)
def kC(b:Bytes):fU×Bool:=((Ka b).val,(Ka b).bad)
def ck(b:Bytes):Ii fU:=dU tP aY kC b
structure eW where
 label:Bytes
 time:Int
 ah:Int
 start:Int
 stop:Int
 bj:Int
 service:bQ
 aB:Bytes
def fh(l:Bytes):Bool:=l==Hi||l==xQ
def a_(a:eW):rF :=
 if !fh a.label && !(a.label==oR) then⟨[],80⟩
 else if !within a.time 4294967295 then⟨[],104⟩
 else if fh a.label then
  if !bf a.ah then⟨[],10⟩
  else if !(within a.start 4294967295&&within a.stop 4294967295&&within a.bj 255) then⟨[],104⟩
  else if !a.service.valid then⟨[],103⟩
  else if 255<a.aB.length then⟨[],105⟩
  else⟨pad (jg (cV (a.label++aD a.time 4 Zz++keyBytes a.ah++aD a.start 4 Zz++aD a.stop 4 Zz++aD a.bj 1 Zz) a.service) a.aB),0⟩
 else if a.ah≠0\/a.start≠0\/a.stop≠0\/a.bj≠0\/a.service.He=Zz\/a.aB≠[] then⟨[],108⟩
 else⟨pad (a.label++aD a.time 4 Zz),0⟩
def n9:eW:=⟨[],0,0,0,0,0,bN,[]⟩
def EC(b:Bytes):Rd eW :=
  let l:=eH b 4 0 Zz
  let t:=fV b 4 l.pos l.bad
  cond (fh l.val)
    (let k:=xY b t.pos t.bad
     let s:=fV b 4 k.pos k.bad
     let e:=fV b 4 s.pos s.bad
     let v:=fV b 1 e.pos e.bad
     let p:=lZ b v.pos v.bad
     let n:=fV b 1 p.pos p.bad
     let x:=eH b n.val n.pos n.bad
     ⟨⟨l.val,t.val,k.val,s.val,e.val,v.val,p.val,x.val⟩,x.pos,x.bad⟩)
    ⟨⟨l.val,t.val,0,0,0,0,bN,[]⟩,t.pos,t.bad⟩
def iX(b:Bytes):eW×Bool:=((EC b).val,(EC b).bad)
def aV(b:Bytes):Ii eW:=dU n9 a_ iX b
end Kerb
namespace Kerb
structure Ask where
 op:UInt8
 user:UInt8
 bj:UInt8
 service:UInt8
 label:UInt8
 time:Int
 start:Int
 stop:Int
 key:UInt8
 aB:Bytes
 box:Bytes
 extra:UInt8
def ou(x:UInt8):Int:=(x.toNat:Int)
def Ask.YM(a:Ask):Int:=1+ou a.op % 3
def Ask.ex(a:Ask):Nat:=a.extra.toNat % 16
def Ask.base(a:Ask):df :=
 if a.YM=2 then⟨2,bN,ou a.bj,(Kerb.service (ou a.service)).aA,a.aB,(Kerb.service (ou a.service)).name,(Kerb.service (ou a.service)).inst,a.box.take 900⟩
 else⟨a.YM,Kerb.user (ou a.user),0,[],[],[],[],a.box.take 900⟩
def tM(n:Int):Int:=Go.IntKind.wrap AT ((BitVec.ofInt (Go.IntKind.bits AT) 72057594037927936 ||| BitVec.ofInt (Go.IntKind.bits AT) (Go.IntKind.wrap AT (Go.IntKind.wrap AI (1+n)))).toNat:Int)
def Ask.lab(e d c b:Bytes)(a:Ask):Bytes:=if a.label.toNat % 4=0 then e else if a.label.toNat % 4=1 then d else if a.label.toNat % 4=2 then c else b
def Ask.MQ(a:Ask):fU :=
 let l:=a.lab zm ng iO oR
 let new:=if l=iO\/a.ex=10 then tM (ou a.key) else 0
 if l≠iO\/a.ex=9 then⟨l,a.time,a.start,a.stop,new⟩ else⟨l,a.time,0,0,new⟩
def Ask.answer(a:Ask):eW :=
 let l:=a.lab Hi xQ oR zm
 if l=oR/\a.ex≠8 then⟨l,a.time,0,0,0,0,bN,[]⟩
 else⟨l,a.time,ah (ou a.key),a.start,a.stop,ou a.bj,Kerb.service (ou a.service),a.aB⟩
end Kerb
/- Chapter 22: what is written is read as it was. -/
namespace Kerb
open Go Go.Abs
variable {b:Bytes}{rest:Bytes}{n:Int}{li:Bool}{k:Int}{nx:Int}{s:Bytes}{p:bQ}{r:df}{l:Bytes}{a:eW}
theorem At.mK{pos:Int}(h:At b pos (aD n 1 li++rest))(a:0<=n)(c:n<=255):Kerb.get b pos 1 li=⟨n,pos+1,0⟩/\At b (pos+1) rest :=
 h.get (k:=1) (.inl rfl) a (by omega)
theorem At.Jb{pos:Int}(h:At b pos (aD n 2 li++rest))(a:0<=n)(c:n<=65535):Kerb.get b pos 2 li=⟨n,pos+2,0⟩/\At b (pos+2) rest :=
 h.get (k:=2) (.inr (.inl rfl)) a (by omega)
theorem At.mX{pos:Int}(h:At b pos (aD n 4 li++rest))(a:0<=n)(c:n<=4294967295):Kerb.get b pos 4 li=⟨n,pos+4,0⟩/\At b (pos+4) rest :=
 h.get (k:=4) (.inr (.inr rfl)) a (by omega)
theorem ib{pos:Int}(h:get b pos k Zz=⟨n,nx,0⟩):fV b k pos Zz=⟨n,nx,Zz⟩:=by unfold fV;rw[h];rfl
theorem Dp{pos:Int}(h:text b pos=⟨s,nx,0⟩):lO b pos Zz=⟨s,nx,Zz⟩:=by unfold lO;rw[h];rfl
theorem ku{pos:Int}(h:bytes b pos n=⟨s,nx,0⟩):eH b n pos Zz=⟨s,nx,Zz⟩:=by unfold eH;rw[h];rfl
theorem J'{pos:Int}(h:fX b pos=⟨p,nx,0⟩):lZ b pos Zz=⟨p,nx,Zz⟩:=by unfold lZ;rw[h];rfl
theorem Ob{pos:Int}(h:bytes b pos 8=⟨keyBytes k,nx,0⟩)(d:0<=k)(c:k<18446744073709551616)(a:bf k=Zg):xY b pos Zz=⟨k,nx,Zz⟩:=by
 unfold xY;rw[ku h];simp only[fG d c a];rfl
theorem within_iff{m:Int}:within n m=Zg↔0<=n/\n<=m:=by simp[within]
theorem JF:p.He=Zg↔p=bN:=by
 obtain⟨a,b,c⟩:=p;simp[bQ.He,bN]
theorem C1:tJ n=Zg↔n=1\/n=2\/n=3:=by simp[tJ]
theorem Sk:header 9 Zz=[4,18]:=by decide
theorem pE(h:(aH r).err=0):
  (r.op=2/\dG r.aA=Zg/\validName r.service=Zg/\cO r.inst=Zg/\(0<=r.bj/\r.bj<=255)/\r.aB.length<=255/\r.box.length<=1012/\r.user=bN /\
   (aH r).val=header 9 Zz++(aD r.op 1 Zz++(aD r.bj 1 Zz++(r.aA++0::(aD r.aB.length 1 Zz++(r.aB++(r.service++0::(r.inst++0::(aD r.box.length 2 Zz++(r.box++[])))))))))) \/
  ((r.op=1\/r.op=3)/\r.user.valid=Zg/\r.box.length<=1012/\r.bj=0/\r.aA=[]/\r.aB=[]/\r.service=[]/\r.inst=[] /\
   (aH r).val=header 9 Zz++(aD r.op 1 Zz++(r.user.name++0::(r.user.inst++0::(r.user.aA++0::(aD r.box.length 2 Zz++(r.box++[]))))))):=by
 unfold aH at h ⊢;split at h
 .cases h
 rename_i f;rw[Qa0 f];simp only[Zv,Zx,C1] at f;split at h
 .rename_i d;rw[Qa1 d];split at h
  .cases h
  rename_i b;rw[Qa0 b];split at h
  .cases h
  rename_i c;rw[Qa0 c];split at h
  .cases h
  rename_i a;rw[Qa0 a];split at h
  .cases h
  rename_i e;rw[Qa0 e];simp only[Zv,Zx,Zy,within_iff,JF] at b c e;refine .inl ⟨by simpa using d,b.1.1,b.1.2,b.2,c,by omega,by omega,e,?_⟩;simp[gL,cX,jg,qB]
 .rename_i d;rw[Qa0 d];split at h
  .cases h
  rename_i b;rw[Qa0 b];split at h
  .cases h
  rename_i c;rw[Qa0 c];split at h
  .cases h
  rename_i a;rw[Qa0 a];simp only[Zv,Zx,Zy] at b;simp only[ne_eq,not_or,Decidable.not_not] at a;have g:¬ r.op=2:=by simpa using d
  refine .inr ⟨by omega,b,by omega,a.1,a.2.1,a.2.2.1,a.2.2.2.1,a.2.2.2.2,?_⟩;simp[gL,cX,cV,qB]
theorem Md(h:(aH r).err=0):iY (aH r).val=(r,Zz):=by
 have hi:=pE h;generalize (aH r).val=b at hi;obtain⟨op,⟨un,o,n⟩,D,aA,aB,service,inst,box⟩:=r;simp only at hi;rcases hi with⟨m,v1,v2,k,a,l,v,hu,c⟩ | ⟨m,v1,v,a,t,l,s,u,c⟩
 .have j:At b 2 _:=⟨header 9 Zz,c,by decide⟩;obtain⟨g,i⟩:=j.mK (by omega) (by omega);obtain⟨f,a2⟩:=i.mK a.1 a.2;obtain⟨B,a3⟩:=a2.text (iM v1) (pj v1);obtain⟨A,a4⟩:=a3.mK (by omega) (by omega);obtain⟨z,a5⟩:=a4.bytes rfl;obtain⟨y,C⟩:=a5.text (jr v2) (qS v2);obtain⟨x,a7⟩:=C.text (il k) (nF k);obtain⟨e,a8⟩:=a7.Jb (by omega) (by omega);obtain⟨d,a9⟩:=a8.bytes rfl;unfold iY Dn;simp only[ib g,ib f,Dp B,ib A,ku z,Dp y,Dp x,ib e,ku d,m,Qb1,Qa6];rw[hu]
 .have j:At b 2 _:=⟨header 9 Zz,c,by decide⟩;obtain⟨g,i⟩:=j.mK (by omega) (by omega);obtain⟨q,f,a2⟩:=At.fX (p:=⟨un,o,n⟩) i v1;obtain⟨e,a8⟩:=a2.Jb (by omega) (by omega);obtain⟨d,a9⟩:=a8.bytes rfl;have w:(op==2)=Zz:=by simp;omega
  unfold iY Dn;simp only[ib g,w,Qa7,J' f,ib e,ku d];subst a t l s u;rfl
theorem yI(r:df):(aH r).val.length<=2000:=by
 by_cases h:(aH r).err=0
 .rcases pE h with⟨e,v1,v2,b,f,d,g,hu,a⟩ | ⟨e,v1,g,f,l,d,k,m,a⟩
  .have c:=iM v1;have j:=jr v2;have i:=il b;rw[a,Sk];simp[aP];omega
  .have c:=fZ v1;rw[a,Sk];simp[aP];omega
 .unfold aH at h ⊢;repeat' split
  all_goals first | simp | skip
  all_goals exfalso;simp_all
theorem tw{r:lu}(h:(cj r).err=0):(1<=r.op/\r.op<=3)/\(0<=r.code/\r.code<=99)/\r.box.length<=1012/\(cj r).val=header 9 Zz++(aD (r.op+128) 1 Zz++(aD r.code 1 Zz++(aD r.box.length 2 Zz++(r.box++[])))):=by
 unfold cj at h ⊢;split at h
 .cases h
 rename_i b;rw[Qa0 b];simp only[Zv,Zx,C1] at b;split at h
 .cases h
 rename_i a;rw[Qa0 a];simp only[Zv,Zx,within_iff] at a;split at h
 .cases h
 rename_i d;rw[Qa0 d];split at h
 .cases h
 rename_i c;rw[Qa0 c];exact⟨by omega,a,by omega,by simp[gL,qB]⟩
theorem Mc{r:lu}(h:(cj r).err=0):oe (cj r).val=(r,Zz):=by
 obtain⟨j,hc,k,a⟩:=tw h;generalize (cj r).val=b at a;have i:At b 2 _:=⟨header 9 Zz,a,by decide⟩;obtain⟨f,g⟩:=i.mK (by omega) (by omega);obtain⟨e,a2⟩:=g.mK (by omega) (by omega);obtain⟨d,a3⟩:=a2.Jb (by omega) (by omega);obtain⟨c,a4⟩:=a3.bytes rfl;unfold oe Qf;simp only[ib f,ib e,ib d,ku c]
 grind
theorem yH(r:lu):(cj r).val.length<=2000:=by
 by_cases h:(cj r).err=0
 .obtain⟨b,hc,c,a⟩:=tw h;rw[a,Sk];simp[aP];omega
 .unfold cj at h ⊢
  grind
theorem rP(b:Bytes):∃ z,pad b=b++z/\z.length<=7:=⟨_,rfl,by simp;omega⟩
theorem Gd:lQ l=Zg↔l=zm\/l=ng:=by simp[lQ]
theorem zV:fh l=Zg↔l=Hi\/l=xQ:=by simp[fh]
theorem pF{s:fU}(h:(aY s).err=0):(0<=s.time/\s.time<=4294967295) /\
    ((lQ s.label=Zg/\s.label.length=4/\(0<=s.start/\s.start<=4294967295)/\(0<=s.stop/\s.stop<=4294967295)/\s.new=0/\∃ z,(aY s).val=s.label++(aD s.time 4 Zz++(aD s.start 4 Zz++(aD s.stop 4 Zz++z)))/\z.length<=7) \/
     (s.label=iO/\bf s.new=Zg/\s.start=0/\s.stop=0/\∃ z,(aY s).val=s.label++(aD s.time 4 Zz++(keyBytes s.new++z))/\z.length<=7)):=by
  unfold aY at h ⊢;split at h
  . cases h
  rename_i g;rw[Qa0 g];split at h
  . cases h
  rename_i d;rw[Qa0 d];simp only[Zv,Zx,within_iff] at d;refine⟨d,?_⟩;split at h
  . rename_i b
    rw[Qa1 b];split at h
    . cases h
    rename_i a;rw[Qa0 a];split at h
    . cases h
    rename_i c;rw[Qa0 c];simp only[Zv,Zx,Zy,within_iff] at a;obtain⟨z,f,hl⟩:=rP (s.label++aD s.time 4 Zz++aD s.start 4 Zz++aD s.stop 4 Zz);refine .inl ⟨b,?_,a.1,a.2,Decidable.byContradiction c,z,?_,hl⟩
    . rcases Gd.1 b with e | e<;>rw[e]<;>rfl
    all_goals grind
  . rename_i b
    rw[Qa0 b];split at h
    . cases h
    rename_i a;rw[Qa0 a];split at h
    . cases h
    rename_i c;rw[Qa0 c];obtain⟨z,f,hl⟩:=rP (s.label++aD s.time 4 Zz++keyBytes s.new)
    grind
theorem Me{s:fU}(l:0<=s.new)(k:s.new<18446744073709551616)(h:(aY s).err=0):kC (aY s).val=(s,Zz):=by
 have hi:=pF h;generalize (aY s).val=b at hi;obtain⟨label,time,start,stop,new⟩:=s;simp only at hi l k;obtain⟨a,⟨hl,q,c,he,m,z,d,_⟩ | ⟨hl,o,c,he,z,d,_⟩⟩:=hi
 .have j:At b 0 (label++_):=(At.start b).as d;obtain⟨g,i⟩:=j.bytes (n:=4) (by rw[q];rfl);obtain⟨f,a2⟩:=i.mX a.1 a.2;obtain⟨e,a3⟩:=a2.mX c.1 c.2;obtain⟨p,a4⟩:=a3.mX he.1 he.2;unfold kC Ka;simp only[ku g,ib f,hl,Qa6,ib e,ib p];rw[m]
 .have j:At b 0 (label++_):=(At.start b).as d;obtain⟨g,i⟩:=j.bytes (n:=4) (by rw[hl];rfl);obtain⟨f,a2⟩:=i.mX a.1 a.2;obtain⟨e,a3⟩:=a2.bytes (n:=8) (by rw[bu];rfl);have r:lQ label=Zz:=by rw[hl];decide
  unfold kC Ka;simp only[ku g,ib f,r,Qa7,Ob e l k o];rw[c,he]
theorem yJ(s:fU):(aY s).val.length<=100:=by
 by_cases h:(aY s).err=0
 .obtain⟨c,⟨hl,f,b,he,d,z,a,_⟩ | ⟨hl,e,b,he,z,a,_⟩⟩:=pF h
  .rw[a];simp[aP];omega
  .rw[a,hl];simp[aP,bu,iO];omega
 .unfold aY at h ⊢
  grind
theorem pD(h:(a_ a).err=0):(0<=a.time/\a.time<=4294967295) /\
    ((fh a.label=Zg/\a.label.length=4/\bf a.ah=Zg/\(0<=a.start/\a.start<=4294967295)/\(0<=a.stop/\a.stop<=4294967295)/\(0<=a.bj/\a.bj<=255)/\a.service.valid=Zg/\a.aB.length<=255 /\
        (a_ a).val=pad (a.label++(aD a.time 4 Zz++(keyBytes a.ah++(aD a.start 4 Zz++(aD a.stop 4 Zz++(aD a.bj 1 Zz++(a.service.name++0::(a.service.inst++0::(a.service.aA++0::(aD a.aB.length 1 Zz++a.aB))))))))))) \/
     (a.label=oR/\a.ah=0/\a.start=0/\a.stop=0/\a.bj=0/\a.service=bN/\a.aB=[]/\(a_ a).val=pad (a.label++aD a.time 4 Zz))):=by
  unfold a_ at h ⊢;split at h
  . cases h
  rename_i j;rw[Qa0 j];split at h
  . cases h
  rename_i i;rw[Qa0 i];simp only[Zv,Zx,within_iff] at i;refine⟨i,?_⟩;split at h
  . rename_i c
    rw[Qa1 c];split at h
    . cases h
    rename_i b;rw[Qa0 b];split at h
    . cases h
    rename_i d;rw[Qa0 d];split at h
    . cases h
    rename_i f;rw[Qa0 f];split at h
    . cases h
    rename_i k;rw[Qa0 k];simp only[Zv,Zx,Zy,within_iff] at b d f;refine .inl ⟨c,?_,b,d.1.1,d.1.2,d.2,f,by omega,?_⟩
    . rcases zV.1 c with e | e<;>rw[e]<;>rfl
    . show pad _=pad _
      congr 1;simp[jg,cV,cX]
  . rename_i c
    rw[Qa0 c];split at h
    . cases h
    rename_i b;rw[Qa0 b];have g:fh a.label=Zz:=by simpa using c
    simp only[ne_eq,not_or,Decidable.not_not,Zx,JF] at b;exact .inr ⟨by simpa [g] using j,b.1,b.2.1,b.2.2.1,b.2.2.2.1,b.2.2.2.2.1,b.2.2.2.2.2,rfl⟩
theorem Mb(w:0<=a.ah)(v:a.ah<18446744073709551616)(h:(a_ a).err=0):iX (a_ a).val=(a,Zz):=by
 have hi:=pD h;generalize (a_ a).val=b at hi;obtain⟨label,time,ah,start,stop,x,⟨g,i,f⟩,aB⟩:=a;simp only at hi w v;obtain⟨d,⟨hl,H,l,e,he,c,k,u,m⟩ | ⟨hl,l,e,he,c,k,u,m⟩⟩:=hi
 .obtain⟨z,j,_⟩:=rP (label++(aD time 4 Zz++(keyBytes ah++(aD start 4 Zz++(aD stop 4 Zz++(aD x 1 Zz++(g++0::(i++0::(f++0::(aD aB.length 1 Zz++aB))))))))));have t:At b 0 (label++(aD time 4 Zz++(keyBytes ah++(aD start 4 Zz++(aD stop 4 Zz++(aD x 1 Zz++(g++0::(i++0::(f++0::(aD aB.length 1 Zz++(aB++z))))))))))):=(At.start b).as (by rw[m,j];simp);obtain⟨r,s⟩:=t.bytes (n:=4) (by rw[H];rfl);obtain⟨o,a2⟩:=s.mX d.1 d.2;obtain⟨F,a3⟩:=a2.bytes (n:=8) (by rw[bu];rfl);obtain⟨E,a4⟩:=a3.mX e.1 e.2;obtain⟨D,a5⟩:=a4.mX he.1 he.2;obtain⟨C,G⟩:=a5.mK c.1 c.2;obtain⟨q,B,a7⟩:=At.fX (p:=⟨g,i,f⟩) G k;obtain⟨A,a8⟩:=a7.mK (by omega) (by omega);obtain⟨y,a9⟩:=a8.bytes rfl;unfold iX EC;simp only[ku r,ib o,hl,Qa6,Ob F w v l,ib E,ib D,ib C,J' B,ib A,ku y]
 .obtain⟨z,j,_⟩:=rP (label++aD time 4 Zz);have t:At b 0 (label++(aD time 4 Zz++z)):=(At.start b).as (by rw[m,j];simp);obtain⟨r,s⟩:=t.bytes (n:=4) (by rw[hl];rfl);obtain⟨o,a2⟩:=s.mX d.1 d.2;have I:fh label=Zz:=by rw[hl];decide
  unfold iX EC;simp only[ku r,ib o,I,Qa7];rw[l,e,he,c,k,u]
theorem yG(a:eW):(a_ a).val.length<=408:=by
 by_cases h:(a_ a).err=0
 .obtain⟨j,⟨hl,k,g,f,he,e,c,d,b⟩ | ⟨hl,g,f,he,e,c,d,b⟩⟩:=pD h
  .have i:=fZ c;rw[b,rz];simp[aP,bu];omega
  .rw[b,rz,hl];simp[aP,oR]
 .unfold a_ at h ⊢;repeat' split
  all_goals first | simp | skip
  all_goals exfalso;simp_all
theorem od(b:Bytes)(n pos:Int)(bad:Bool):(eH b n pos bad).val.length<=b.length:=by
 unfold eH;cases bad || !((bytes b pos n).err==0)
 .exact iu b pos n
 .exact Nat.zero_le _
theorem I6(h:(aH r).err≠0):(aH r).val=[]:=by grind [aH]
theorem jz{α:Type}{no:α}{enc:α->rF}{rd:Bytes->α×Bool}(R:α)(bad:Bool)(h:rd b=(R,bad)){Z:Type}(f:α->Int->Z):
  aK bad (some (f no 100)) (aK (!((enc R).err==0)) (some (f no 100)) (aK (!((enc R).val==b)) (some (f no 100)) (some (f R 0))))=some (f (dU no enc rd b).val (dU no enc rd b).err):=by
 unfold dU;rw[h];cases bad;case true=>rw[Qa1 (.inl rfl)];rfl
 rw[eA];by_cases c:(enc R).err=0
 .rw[ai (by simp[c])];by_cases a:(enc R).val=b
  .rw[ai (by simp[a]),Qa0 (by simp[c,a])]
  .rw[ae (by simpa using a),Qa1 (.inr (.inr a))]
 .rw[ae (by simpa using c),Qa1 (.inr (.inl c))]
theorem GY(b:Bytes)(pos k:Int)(li:Bool)(a:k<=4):0<=(get b pos k li).val/\(get b pos k li).val<4294967296:=by
 unfold get;split
 .rename_i h;have:=jl h;exact Ic (by cases li<;>simp[this]<;>omega)
 .simp
theorem W1(b:Bytes)(k pos:Int)(bad:Bool)(a:k<=4):0<=(fV b k pos bad).val/\(fV b k pos bad).val<4294967296:=by
 unfold fV;cases bad || !((get b pos k Zz).err==0)
 .exact GY b pos k Zz a
 .simp
theorem AD(b:Bytes)(pos:Int)(bad:Bool):(lO b pos bad).val.length<=40:=by
 unfold lO;cases bad || !((text b pos).err==0)
 .exact ez b pos
 .exact Nat.zero_le _
theorem qc(b:Bytes)(pos:Int)(bad:Bool):(lZ b pos bad).val.name.length<=40/\(lZ b pos bad).val.inst.length<=40/\(lZ b pos bad).val.aA.length<=40:=by
 unfold lZ;cases bad || !((fX b pos).err==0)
 .exact gK b pos
 .exact⟨Nat.zero_le _,Nat.zero_le _,Nat.zero_le _⟩
theorem tT(b:Bytes)(pos:Int)(bad:Bool):0<=(xY b pos bad).val/\(xY b pos bad).val<18446744073709551616:=by
 unfold xY;simp only;cases (dm (eH b 8 pos bad).val).2
 .simp
 .exact dN _
theorem OT(x:UInt8)(k:Nat)(a:0<k):Zw (Int.tmod (x.toNat:Int) (k:Int))=x.toNat % k:=by
 grind
theorem Ho(n:Int):0<=tM n/\tM n<18446744073709551616:=by
 unfold tM;rw[wrap_u64];omega
theorem I7{r:fU}(h:(aY r).err≠0):(aY r).val=[]:=by grind [aY]
theorem GS{s:fU}(h:(aY s).err=0) :
  (lQ s.label=Zg/\(aY s).val=pad (s.label++aD s.time 4 Zz++aD s.start 4 Zz++aD s.stop 4 Zz))\/(lQ s.label=Zz/\(aY s).val=pad (s.label++aD s.time 4 Zz++keyBytes s.new)):=by grind [aY]
theorem I5{r:eW}(h:(a_ r).err≠0):(a_ r).val=[]:=by grind [a_]
end Kerb
/- Chapter 22: what the reader of the reference reads. -/
namespace Kerb
open Go Go.Abs
def Qm(b:Bytes):Rd df :=
  let o:=bV b 1 Zz 2 Zz
  cond (o.val==1||o.val==3)
    (let u:=fA b o.pos o.bad
     let m:=bV b 2 Zz u.pos u.bad
     let x:=cq b m.val m.pos m.bad
     ⟨⟨o.val,u.p,0,[],[],[],[],x.val⟩,x.pos,x.bad⟩)
    (let k:=bV b 1 Zz o.pos o.bad
     let r:=gi b k.pos k.bad
     let n:=bV b 1 Zz r.pos r.bad
     let t:=cq b n.val n.pos n.bad
     let s:=gi b t.pos t.bad
     let i:=gi b s.pos s.bad
     let m:=bV b 2 Zz i.pos i.bad
     let x:=cq b m.val m.pos m.bad
     ⟨⟨o.val,bN,k.val,r.val,t.val,s.val,i.val,x.val⟩,x.pos,x.bad⟩)
def pS(b:Bytes):df×Bool:=((Qm b).val,(Qm b).bad)
def acf(b:Bytes):Rd lu :=
 let o:=bV b 1 Zz 2 Zz
 let c:=bV b 1 Zz o.pos o.bad
 let m:=bV b 2 Zz c.pos c.bad
 let x:=cq b m.val m.pos m.bad
 ⟨⟨o.val-128,c.val,x.val⟩,x.pos,x.bad⟩
def HC(b:Bytes):lu×Bool:=((acf b).val,(acf b).bad)
def Qo(b:Bytes):Rd fU :=
  let l:=cq b 4 0 Zz
  let t:=bV b 4 Zz l.pos l.bad
  cond (l.val==iO)
    (let k:=cq b 8 t.pos t.bad
     ⟨⟨l.val,t.val,0,0,(dm k.val).1⟩,k.pos,k.bad⟩)
    (let s:=bV b 4 Zz t.pos t.bad
     let e:=bV b 4 Zz s.pos s.bad
     ⟨⟨l.val,t.val,s.val,e.val,0⟩,e.pos,e.bad⟩)
def rA(b:Bytes):fU×Bool:=((Qo b).val,(Qo b).bad)
def Mw(b:Bytes):Rd eW :=
  let l:=cq b 4 0 Zz
  let t:=bV b 4 Zz l.pos l.bad
  cond (l.val==oR)
    ⟨⟨l.val,t.val,0,0,0,0,bN,[]⟩,t.pos,t.bad⟩
    (let k:=cq b 8 t.pos t.bad
     let s:=bV b 4 Zz k.pos k.bad
     let e:=bV b 4 Zz s.pos s.bad
     let v:=bV b 1 Zz e.pos e.bad
     let p:=fA b v.pos v.bad
     let n:=bV b 1 Zz p.pos p.bad
     let x:=cq b n.val n.pos n.bad
     ⟨⟨l.val,t.val,(dm k.val).1,s.val,e.val,v.val,p.p,x.val⟩,x.pos,x.bad⟩)
def nw(b:Bytes):eW×Bool:=((Mw b).val,(Mw b).bad)
theorem Qn{r:df}(h:(aH r).err=0):pS (aH r).val=(r,Zz):=by
 have hi:=pE h;generalize (aH r).val=b at hi;obtain⟨op,⟨un,o,n⟩,D,aA,aB,service,inst,box⟩:=r;simp only at hi;rcases hi with⟨u,v1,v2,l,a,m,w,hu,c⟩ | ⟨u,v1,w,a,t,m,s,v,c⟩
 .have k:At b 2 _:=⟨header 9 Zz,c,by decide⟩;obtain⟨i,j⟩:=k.mK (by omega) (by omega);obtain⟨g,a2⟩:=j.mK a.1 a.2;obtain⟨B,a3⟩:=a2.text (iM v1) (pj v1);obtain⟨A,a4⟩:=a3.mK (by omega) (by omega);obtain⟨z,a5⟩:=a4.bytes rfl;obtain⟨y,C⟩:=a5.text (jr v2) (qS v2);obtain⟨x,a7⟩:=C.text (il l) (nF l);obtain⟨f,a8⟩:=a7.Jb (by omega) (by omega);obtain⟨e,a9⟩:=a8.bytes rfl;have d:(op==1||op==3)=Zz:=by simp;omega
  unfold pS Qm;simp only[cl i,d,Qa7,cl g,sT B,cl A,eC z,sT y,sT x,cl f,eC e];rw[hu]
 .have k:At b 2 _:=⟨header 9 Zz,c,by decide⟩;obtain⟨i,j⟩:=k.mK (by omega) (by omega);obtain⟨q,g,a2⟩:=At.fX (p:=⟨un,o,n⟩) j v1;obtain⟨f,a8⟩:=a2.Jb (by omega) (by omega);obtain⟨e,a9⟩:=a8.bytes rfl;have d:(op==1||op==3)=Zg:=by simp;omega
  unfold pS Qm;simp only[cl i,d,Qa6,lH g,cl f,eC e];subst a t m s v;rfl
theorem Ql{r:lu}(h:(cj r).err=0):HC (cj r).val=(r,Zz):=by
 obtain⟨j,hc,k,a⟩:=tw h;generalize (cj r).val=b at a;have i:At b 2 _:=⟨header 9 Zz,a,by decide⟩;obtain⟨f,g⟩:=i.mK (by omega) (by omega);obtain⟨e,a2⟩:=g.mK (by omega) (by omega);obtain⟨d,a3⟩:=a2.Jb (by omega) (by omega);obtain⟨c,a4⟩:=a3.bytes rfl;unfold HC acf;simp only[cl f,cl e,cl d,eC c]
 grind
theorem Qp{s:fU}(o:0<=s.new)(m:s.new<18446744073709551616)(h:(aY s).err=0):rA (aY s).val=(s,Zz):=by
 have hi:=pF h;generalize (aY s).val=b at hi;obtain⟨label,time,start,stop,new⟩:=s;simp only at hi o m;obtain⟨a,⟨hl,t,c,he,p,z,f,_⟩ | ⟨hl,q,c,he,z,f,_⟩⟩:=hi
 .have l:At b 0 (label++_):=(At.start b).as f;obtain⟨j,k⟩:=l.bytes (n:=4) (by rw[t];rfl);obtain⟨i,a2⟩:=k.mX a.1 a.2;obtain⟨g,a3⟩:=a2.mX c.1 c.2;obtain⟨r,a4⟩:=a3.mX he.1 he.2;have d:(label==iO)=Zz:=by
   rcases Gd.1 hl with e | e<;>rw[e]<;>decide
  unfold rA Qo;simp only[eC j,cl i,d,Qa7,cl g,cl r];rw[p]
 .have l:At b 0 (label++_):=(At.start b).as f;obtain⟨j,k⟩:=l.bytes (n:=4) (by rw[hl];rfl);obtain⟨i,a2⟩:=k.mX a.1 a.2;obtain⟨g,a3⟩:=a2.bytes (n:=8) (by rw[bu];rfl);have d:(label==iO)=Zg:=by rw[hl];decide
  unfold rA Qo;simp only[eC j,cl i,d,Qa6,eC g,fG o m q];rw[c,he]
theorem Qk{a:eW}(y:0<=a.ah)(x:a.ah<18446744073709551616)(h:(a_ a).err=0):nw (a_ a).val=(a,Zz):=by
 have hi:=pD h;generalize (a_ a).val=b at hi;obtain⟨label,time,ah,start,stop,A,⟨i,j,g⟩,aB⟩:=a;simp only at hi y x;obtain⟨d,⟨hl,J,m,f,he,c,l,w,o⟩ | ⟨hl,m,f,he,c,l,w,o⟩⟩:=hi
 .obtain⟨z,k,_⟩:=rP (label++(aD time 4 Zz++(keyBytes ah++(aD start 4 Zz++(aD stop 4 Zz++(aD A 1 Zz++(i++0::(j++0::(g++0::(aD aB.length 1 Zz++aB))))))))));have u:At b 0 (label++(aD time 4 Zz++(keyBytes ah++(aD start 4 Zz++(aD stop 4 Zz++(aD A 1 Zz++(i++0::(j++0::(g++0::(aD aB.length 1 Zz++(aB++z))))))))))):=(At.start b).as (by rw[o,k];simp);obtain⟨s,t⟩:=u.bytes (n:=4) (by rw[J];rfl);obtain⟨r,a2⟩:=t.mX d.1 d.2;obtain⟨H,a3⟩:=a2.bytes (n:=8) (by rw[bu];rfl);obtain⟨G,a4⟩:=a3.mX f.1 f.2;obtain⟨F,a5⟩:=a4.mX he.1 he.2;obtain⟨E,I⟩:=a5.mK c.1 c.2;obtain⟨q,D,a7⟩:=At.fX (p:=⟨i,j,g⟩) I l;obtain⟨C,a8⟩:=a7.mK (by omega) (by omega);obtain⟨B,a9⟩:=a8.bytes rfl;have v:(label==oR)=Zz:=by
   rcases zV.1 hl with e | e<;>rw[e]<;>decide
  unfold nw Mw;simp only[eC s,cl r,v,Qa7,eC H,fG y x m,cl G,cl F,cl E,lH D,cl C,eC B]
 .obtain⟨z,k,_⟩:=rP (label++aD time 4 Zz);have u:At b 0 (label++(aD time 4 Zz++z)):=(At.start b).as (by rw[o,k];simp);obtain⟨s,t⟩:=u.bytes (n:=4) (by rw[hl];rfl);obtain⟨r,a2⟩:=t.mX d.1 d.2;have v:(label==oR)=Zg:=by rw[hl];decide
  unfold nw Mw;simp only[eC s,cl r,v,Qa6];rw[m,f,he,c,l,w]
theorem LM(b:Bytes):dU lD aH iY b=dU lD aH pS b :=
 iG (P:=λ_=>True) (λ_ _ h=>Md h) (λ_ _ h=>Qn h) (λ_=>trivial) (λ_=>trivial) b
theorem LL(b:Bytes):dU n_ cj oe b=dU n_ cj HC b :=
 iG (P:=λ_=>True) (λ_ _ h=>Mc h) (λ_ _ h=>Ql h) (λ_=>trivial) (λ_=>trivial) b
theorem HG(b:Bytes):0<=(kC b).1.new/\(kC b).1.new<18446744073709551616:=by
 unfold kC Ka;dsimp only;cases lQ (eH b 4 0 Zz).val
 .exact tT _ _ _
 .simp
theorem MD(b:Bytes):0<=(rA b).1.new/\(rA b).1.new<18446744073709551616:=by
 unfold rA Qo;dsimp only;cases (cq b 4 0 Zz).val==iO
 .simp
 .exact dN _
theorem LN(b:Bytes):ck b=dU tP aY rA b :=
 iG (P:=λs=>0<=s.new/\s.new<18446744073709551616) (λ_ p h=>Me p.1 p.2 h) (λ_ p h=>Qp p.1 p.2 h) HG MD b
theorem HF(b:Bytes):0<=(iX b).1.ah/\(iX b).1.ah<18446744073709551616:=by
 unfold iX EC;dsimp only;cases fh (eH b 4 0 Zz).val
 .simp
 .exact tT _ _ _
theorem MC(b:Bytes):0<=(nw b).1.ah/\(nw b).1.ah<18446744073709551616:=by
 unfold nw Mw;dsimp only;cases (cq b 4 0 Zz).val==oR
 .exact dN _
 .simp
theorem LK(b:Bytes):aV b=dU n9 a_ nw b :=
 iG (P:=λs=>0<=s.ah/\s.ah<18446744073709551616) (λ_ p h=>Mb p.1 p.2 h) (λ_ p h=>Qk p.1 p.2 h) HF MC b
end Kerb
/- Chapters 2, 4, 7, 10, 15 and 20, in plain words: lifetimes, boxes, authenticators, requests, caches, clients. -/
namespace Kerb
open Go Go.Abs
def bQ.tz(p q:bQ):Bool:=p.name==q.name&&(p.inst==q.inst&&p.aA==q.aA)
def F1(aA target:Bytes):bQ:=⟨[107,114,98,116,103,116],target,aA⟩
def XL(cf a:Int):Int:=if within cf 4294967295&&within a 255 then cf+300*(a+1) else 0
def Hu(a b c:Int):Bool:=within a 4294967295&&within b 4294967295&&within c 4294967295&&Zm (a-b<=c)&&Zm (b-a<=c)
def jf(kind k:Int)(body:Bytes):rF :=
 if !isKind kind then⟨[],104⟩ else if !bf k then⟨[],10⟩ else if 1000<body.length then⟨[],105⟩
 else⟨[66,Zk kind.toNat]++keyBytes k++aD body.length 2 Zz++body,0⟩
structure F3 where
 kind:Int
 key:Int
 body:Bytes
structure aai where
 box:F3
 n:Int
 err:Int
def sM:F3:=⟨0,0,[]⟩
def hX(b:Bytes):Nat:=(b.getD 10 0).toNat*256+(b.getD 11 0).toNat
def aN(b:Bytes):aai :=
 if b.length<12 then⟨sM,0,101⟩
 else if b.getD 0 0≠66\/isKind ((b.getD 1 0).toNat:Int)=Zz\/(dm (cut b 2 8)).2=Zz\/1000<hX b then⟨sM,0,100⟩
 else if b.length<12+hX b then⟨sM,0,101⟩
 else⟨⟨((b.getD 1 0).toNat:Int),(dm (cut b 2 8)).1,cut b 12 (hX b)⟩,((12+hX b:Nat):Int),0⟩
def jV(b:Bytes)(kind k:Int):Bytes×Bool :=
 if (aN b).err≠0\/(aN b).n≠b.length\/(aN b).box.kind≠kind\/(aN b).box.key≠k then([],Zz) else((aN b).box.body,Zg)
structure qg where
 BY:bQ
 cP:Int
 tick:Int
 time:Int
def qg.check(a:qg):Int :=
 if !a.BY.valid then 103 else if !(within a.cP 4294967295&&within a.tick 199&&within a.time 4294967295) then 104 else 0
def fb(a:qg)(By:Bool):rF :=
 if a.check≠0 then⟨[],a.check⟩
 else⟨pad (cV (aD (cond By 1 0) 1 Zz) a.BY++aD a.cP 4 By++aD a.tick 1 Zz++aD a.time 4 By),0⟩
def jC(a:qg)(By:Bool)(k:Int):rF :=
 if (fb a By).err≠0 then⟨[],(fb a By).err⟩ else jf 2 k (fb a By).val
structure cC where
 By:Bool
 c5:Bool
 bj:Int
 aA:Bytes
 aB:Bytes
 eQ:Bytes
def aZ(r:cC):rF :=
 if !dG r.aA then⟨[],103⟩
 else if !within r.bj 255 then⟨[],104⟩
 else if 255<r.aB.length\/255<r.eQ.length then⟨[],105⟩
 else⟨cX (header (cond r.c5 4 3) r.By++aD r.bj 1 Zz) r.aA++aD r.aB.length 1 Zz++aD r.eQ.length 1 Zz++r.aB++r.eQ,0⟩
structure eM where
 ap:cC
 time:Int
 bK:Int
 service:Bytes
 inst:Bytes
def dj(r:eM):rF :=
 if r.ap.c5 then⟨[],100⟩
 else if (aZ r.ap).err≠0 then⟨[],(aZ r.ap).err⟩
 else if !(validName r.service&&cO r.inst) then⟨[],103⟩
 else if !(within r.time 4294967295&&within r.bK 255) then⟨[],104⟩
 else⟨cX (cX ((aZ r.ap).val++aD r.time 4 r.ap.By++aD r.bK 1 Zz) r.service) r.inst,0⟩
structure jj where
 service:bQ
 ah:Int
 bK:Int
 bj:Int
 cf:Int
 aB:Bytes
def jj.av(c:jj):AV := .agg [.str c.service.name,.str c.service.inst,.str c.service.aA,.int AT c.ah,.int AI c.bK,.int AI c.bj,.int AI c.cf,.bs c.aB]
def n8:jj:=⟨bN,0,0,0,0,[]⟩
def jj.ok(c:jj):Prop:=c.service.name.length<=9223372036854775807/\c.service.inst.length<=9223372036854775807/\c.service.aA.length<=9223372036854775807/\0<=c.ah/\c.ah<18446744073709551616/\c.aB.length<=9223372036854775807
def NC(c:jj):Int :=
 if !c.service.valid then 103 else if !bf c.ah then 10
 else if !(within c.bK 255&&within c.bj 255&&within c.cf 4294967295) then 104
 else if 255<c.aB.length then 105 else 0
def IY:List jj->List jj->Int
 | _,[]=>0
 | seen,c::r=>if NC c≠0 then NC c else if seen.any (λd=>d.service.tz c.service) then 107 else IY (seen++[c]) r
structure Cache where
 owner:bQ
 qn:List jj
def BV:Cache:=⟨bN,[]⟩
def Cache.err(c:Cache):Int:=if !c.owner.valid then 103 else if 20<c.qn.length then 106 else IY [] c.qn
def LG(l:List jj)(s:bQ):Nat:=l.findIdx λd=>d.service.tz s
def mY(l:List jj)(s:bQ):jj×Bool:=if LG l s<l.length then(l.getD (LG l s) n8,Zg) else(n8,Zz)
def jj.expired(c:jj)(now:Int):Bool:=Zm (XL c.cf c.bK<now)
def oT(l:List jj)(s:bQ)(now:Int):Ii jj :=
 if (mY l s).2=Zz then⟨n8,76⟩ else if (mY l s).1.expired now then⟨n8,26⟩ else⟨(mY l s).1,0⟩
def AR(c:Cache)(x:jj):Ii Cache :=
 if c.err≠0 then⟨BV,c.err⟩
 else if Cache.err ⟨c.owner,[x]⟩≠0 then⟨BV,Cache.err ⟨c.owner,[x]⟩⟩
 else if 20<=(c.qn.filter λd => !d.service.tz x.service).length then⟨BV,106⟩
 else⟨⟨c.owner,(c.qn.filter λd => !d.service.tz x.service)++[x]⟩,0⟩
structure Client where
 me:bQ
 address:Int
 fI:Int
 By:Bool
 cache:Cache
 wait:Int
 wanted:bQ
 ah:Int
 time:Int
 bK:Int
 cP:Int
 tick:Int
def Cache.av(c:Cache):AV := .agg [.str c.owner.name,.str c.owner.inst,.str c.owner.aA,.sl 8 (c.qn.map jj.av)]
def Client.av(c:Client):AV := .agg [.str c.me.name,.str c.me.inst,.str c.me.aA,.int AI c.address,.int AI c.fI,.bool c.By,.str c.cache.owner.name,.str c.cache.owner.inst,.str c.cache.owner.aA,.sl 8 (c.cache.qn.map jj.av),.int AI c.wait,.str c.wanted.name,.str c.wanted.inst,.str c.wanted.aA,.int AT c.ah,.int AI c.time,.int AI c.bK,.int AI c.cP,.int AI c.tick]
def Ti:Client:=⟨bN,0,0,false,BV,0,bN,0,0,0,0,0⟩
def Client.idle(c:Client):Client:=⟨c.me,c.address,c.fI,c.By,c.cache,0,bN,0,0,0,0,0⟩
def Client.err(c:Client):Int :=
 if !c.me.valid then 103
 else if !(within c.address 4294967295&&within c.fI 4294967295) then 104
 else if !(Zm (0<=c.wait)&&Zm (c.wait<=3)) then 104
 else if c.cache.err≠0 then c.cache.err
 else if !c.cache.owner.tz c.me then 103 else 0
def pI(me service:bQ):bQ:=F1 me.aA service.aA
structure aoq where
 c:Client
 msg:Bytes
 err:Int
structure adA where
 val:cC
 err:Int
def qF:cC:=⟨false,false,0,[],[],[]⟩
def Rn(c:Client)(x:jj)(b:Bool)(a:qg):adA :=
 if (jC a c.By x.ah).err≠0 then⟨qF,(jC a c.By x.ah).err⟩
 else⟨⟨c.By,b,x.bj,x.service.aA,x.aB,(jC a c.By x.ah).val⟩,0⟩
structure aal where
 c:Client
 msg:Bytes
 O_:jj
 eQ:Bytes
 err:Int
def AA(e:Int):aal:=⟨Ti,[],n8,[],e⟩
def BZ(c:Client)(s:bQ)(a:Bool)(cP now tick:Int):aal :=
 if c.err≠0 then AA 108
 else if !s.valid then AA 103
 else if !(within now 4294967295&&within tick 199&&within cP 4294967295) then AA 104
 else
  let x:=oT c.cache.qn s now
  if x.err≠0 then AA x.err else
  let r:=Rn c x.val a ⟨c.me,cP,tick,now⟩
  if r.err≠0 then AA r.err else
  let m:=aZ r.val
  if m.err≠0 then AA m.err else
  ⟨cond a { c.idle with wait:=3,wanted:=s,ah:=x.val.ah,time:=now,cP:=cP,tick:=tick } c,m.val,x.val,r.val.eQ,0⟩
def jj.same(a b:jj):Bool:=a.service.tz b.service&&a.ah==b.ah&&a.bK==b.bK&&a.bj==b.bj&&a.cf==b.cf&&a.aB==b.aB
def FT:List jj->List jj->Bool
 | [],[]=>Zg
 | a::r,b::q=>a.same b&&FT r q
 | _,_=>Zz
def Cache.same(a b:Cache):Bool:=a.owner.tz b.owner&&FT a.qn b.qn
def Client.same(a b:Client):Bool:=a.me.tz b.me&&a.address==b.address&&a.fI==b.fI&&a.By==b.By&&a.cache.same b.cache&&a.wait==b.wait&&a.wanted.tz b.wanted&&a.ah==b.ah&&a.time==b.time&&a.bK==b.bK&&a.cP==b.cP&&a.tick==b.tick
theorem Jc{l:List jj}{s:bQ}(h:(mY l s).2=Zg):(mY l s).1∈l:=by
 unfold mY at h ⊢
 grind
theorem yN(r:cC):(aZ r).val.length<=1000:=by
 unfold aZ;split
 .simp
 rename_i a;split
 .simp
 split
 .simp
 rename_i c;have b:=iM (s:=r.aA) (by simpa using a);have g:=lg (cond r.c5 4 3) r.By;simp[gN,aP];omega
theorem Fy:n8.ok:=by simp[jj.ok,n8,bN]
theorem WQ{cs:List jj}(h:∀ c∈cs,c.ok)(s:bQ)(now:Int):(oT cs s now).val.ok:=by
 unfold oT;split
 .exact Fy
 rename_i a;split
 .exact Fy
 exact h _ (Jc (by simpa using a))
def Client.mL(c:Client):Prop :=
 (c.me.name.length<=9223372036854775807/\c.me.inst.length<=9223372036854775807/\c.me.aA.length<=9223372036854775807) /\
 (c.cache.owner.name.length<=9223372036854775807/\c.cache.owner.inst.length<=9223372036854775807/\c.cache.owner.aA.length<=9223372036854775807) /\
 (∀ x∈c.cache.qn,x.ok)/\c.cache.qn.length<=1000000
theorem bQ.I8(p:bQ):p.tz p=Zg:=by simp[bQ.tz]
end Kerb
/- Clients: what the statements of chapter 20 lean on. -/
namespace Kerb
open Go Go.Abs
end Kerb
/- Chapter 20: what a client makes of replies and answers. -/
namespace Kerb
open Go Go.Abs
structure Rcv where
 c:Client
 O_:jj
 err:Int
def HI(c:Client)(k:Int):Int:=if c.wait=2 then(mY c.cache.qn (pI c.me c.wanted)).1.ah else k
def tW(c:Client)(k:Int)(msg:Bytes):Nl :=
 if (aQ msg).err≠0 then⟨qG,(aQ msg).err⟩
 else if !(aQ msg).val.BY.tz c.me || !((aQ msg).val.time==c.time) then⟨qG,63⟩
 else if c.wait=2/\(mY c.cache.qn (pI c.me c.wanted)).2=Zz then⟨qG,76⟩
 else if (jV (aQ msg).val.cw 3 (HI c k)).2=Zz then⟨qG,62⟩
 else if (aX (jV (aQ msg).val.cw 3 (HI c k)).1 (aQ msg).val.By).err≠0 \/
   (aX (jV (aQ msg).val.cw 3 (HI c k)).1 (aQ msg).val.By).val.service.tz c.wanted=Zz then⟨qG,63⟩
 else⟨(aX (jV (aQ msg).val.cw 3 (HI c k)).1 (aQ msg).val.By).val,0⟩
def vD(p:fL):jj:=⟨p.service,p.ah,p.bK,p.bj,p.time,p.aB⟩
def ahQ(c:Client)(k:Int)(msg:Bytes)(now:Int):Rcv :=
 if c.err≠0\/(c.wait≠1/\c.wait≠2) then⟨c,n8,108⟩
 else if (vd msg).err=0 then
  if (vd msg).val.BY.tz c.me=Zz then⟨c,n8,63⟩ else⟨c.idle,n8,(vd msg).val.code⟩
 else if (tW c k msg).err≠0 then⟨c,n8,(tW c k msg).err⟩
 else if Hu (tW c k msg).val.time now c.fI=Zz then⟨c,n8,37⟩
 else if (AR c.cache (vD (tW c k msg).val)).err≠0 then⟨c,n8,(AR c.cache (vD (tW c k msg).val)).err⟩
 else⟨{ c.idle with cache:=(AR c.cache (vD (tW c k msg).val)).val },vD (tW c k msg).val,0⟩
def Pa(BY service:bQ)(ah a:Int)(By:Bool)(time now b:Int):Bytes :=
 (bc ⟨By,BY,time,0,0,(jf 3 a (bt ⟨ah,service,b,2,[1,2,3],now⟩ By).val).val⟩).val
structure Lh where
 kind:UInt8
 BY:UInt8
 service:UInt8
 time:UInt8
 now:UInt8
 By:Bool
 nD:UInt8
 how:Int
def Lh.av(x:Lh):AV := .agg [.u8 x.kind,.u8 x.BY,.u8 x.service,.u8 x.time,.u8 x.now,.bool x.By,.u8 x.nD,.int .u16 x.how]
structure Q8 where
 cP:Int
 tick:Int
 time:Int
def jP(m:Q8)(By:Bool):rF :=
 if !(within m.cP 4294967295&&within m.tick 199&&within m.time 4294967295) then⟨[],104⟩
 else⟨pad (aD (cond By 1 0) 1 Zz++aD m.cP 4 By++aD m.tick 1 Zz++aD m.time 4 By),0⟩
theorem RL(b:Bytes):List.drop (Zw 2) (List.take (Zw 10) b)=cut b 2 8:=by
 show List.drop 2 (List.take 10 b)=List.take 8 (List.drop 2 b);rw[List.drop_take]
theorem RK(b:Bytes)(n:Nat):List.drop (Zw 12) (List.take (Zw (12+(n:Int))) b)=cut b 12 n:=by
 have e:Zw (12+(n:Int))=12+n:=by omega
 rw[e];show List.drop 12 (List.take (12+n) b)=List.take n (List.drop 12 b);rw[List.drop_take];congr 1;omega
theorem BN(b:Bytes)(p n:Int):(cut b p n).length<=b.length:=by unfold cut;simp;omega
theorem Oj(x y:UInt8):Zf AI (↑(BitVec.toNat (BitVec.ofInt (Zu AI) (Zf AI (Zf AI (↑x.toNat:Int)*(2:Int) ^ min (Zw (8:Int)) (Zu AI))) ||| BitVec.ofInt (Zu AI) (Zf AI (↑y.toNat:Int)))):Int)=((x.toNat*256+y.toNat:Nat):Int):=by
 have c:=x.toNat_lt;have hy:=y.toNat_lt;have b:(2:Int) ^ min (Zw (8:Int)) (Zu AI)=256:=by decide
 rw[b,wrap_i64 (n:=(x.toNat:Int)) (by omega) (by omega),wrap_i64 (n:=(y.toNat:Int)) (by omega) (by omega),wrap_i64 (n:=(x.toNat:Int)*256) (by omega) (by omega)];have a:BitVec.toNat (BitVec.ofInt (Zu AI) ((x.toNat:Int)*256) ||| BitVec.ofInt (Zu AI) (y.toNat:Int))=x.toNat*256+y.toNat:=by
  rw[BitVec.toNat_or];have f1:(BitVec.ofInt (Zu AI) ((x.toNat:Int)*256)).toNat=2 ^ 8*x.toNat:=by
   rw[BitVec.toNat_ofInt];show(((x.toNat:Int)*256) % ((2 ^ 64:Nat):Int)).toNat=_
   grind
  have f2:(BitVec.ofInt (Zu AI) (y.toNat:Int)).toNat=y.toNat:=by
   rw[BitVec.toNat_ofInt];show((y.toNat:Int) % ((2 ^ 64:Nat):Int)).toNat=_
   grind
  rw[f1,f2,<-Zd (by omega)];omega
 rw[a,wrap_i64 (by omega) (by omega)]
theorem Gk(x:UInt8):Zf AI (↑x.toNat:Int)=(x.toNat:Int):=by
 have a:=x.toNat_lt;exact wrap_i64 (by omega) (by omega)
end Kerb
namespace Kerb
open Go Go.Abs
end Kerb
namespace Kerb
open Go Go.Abs
def m8(x:UInt8):UInt8:=Zk (Zw (Int.tmod (↑x.toNat:Int) (↑(8:UInt8).toNat:Int)))
def d8(x:UInt8):Int:=Zf AI (↑(Zk (Zw (Zf .u8 (Int.tdiv (↑x.toNat:Int) (↑(8:UInt8).toNat:Int))))).toNat:Int)
def Lh.me(x:Lh)(c:Client):bQ:=cond (m8 x.BY==7) (user (d8 x.BY)) c.me
def Lh.wanted(x:Lh)(c:Client):bQ:=cond (m8 x.service==7) (Kerb.service (d8 x.service)) c.wanted
def Lh.at'(x:Lh)(c:Client):Int:=cond (m8 x.time==7) (Zf AI (↑x.time.toNat:Int)) c.time
def Lh.key(x:Lh)(k:Int):Int:=cond (m8 x.nD==7) (ah (d8 x.nD)) k
def Lh.code(x:Lh):Int:=Zf AI (↑(Zk (Zw (Zf .u8 ((↑(1:UInt8).toNat:Int)+(↑(Zk (Zw (Zf .u8 (Int.tdiv (↑x.kind.toNat:Int) (↑(8:UInt8).toNat:Int))))).toNat:Int))))).toNat:Int)
def Lh.rep(x:Lh)(c:Client)(k:Int):Bytes :=
 Pa (x.me c) (x.wanted c) (ah 50) (x.key k) x.By (x.at' c) (Zf AI (1000+Zf AI (Zf AI (↑x.now.toNat:Int)*4))) 100
def Lh.text(x:Lh)(c:Client)(k:Int):Bytes :=
 cond (m8 x.kind==7) (mB ⟨x.By,x.me c,9,x.code,[]⟩).val (cond (m8 x.kind==6) (xv (x.rep c k) x.how) (x.rep c k))
end Kerb
namespace Kerb
open Go Go.Abs
def fL.ok(p:fL):Prop:=(vD p).ok/\p.aB.length<=255
end Kerb
namespace Kerb
open Go Go.Abs
end Kerb
/- Chapters 10, 18, 20: the answer of a service, and what a client makes of it. -/
namespace Kerb
open Go Go.Abs
variable {s:Bytes}{li:Bool}
theorem Hz{kd k:Int}{body:Bytes}(n:0<=k)(m:k<18446744073709551616)(h:(jf kd k body).err=0):jV (jf kd k body).val kd k=(body,Zg):=by
 unfold jf at h ⊢;cases d:isKind kd
 .simp[d] at h
 rw[Qa0 (by simp[d])] at h ⊢;cases g:bf k
 .simp[g] at h
 rw[Qa0 (by simp[g])] at h ⊢;by_cases hl:1000<body.length
 .rw[Qa1 hl] at h;cases h
 rw[Qa0 hl];have t:1<=kd/\kd<=10:=by simpa [isKind] using d
 generalize a:[66,Zk kd.toNat]++keyBytes k++aD body.length 2 Zz++body=b;have f:=bu k;have j:=aP body.length 2 Zz;have hlen:b.length=12+body.length:=by rw[<-a];simp[f,j];omega
 have s:b.getD 0 0=66:=by rw[<-a];rfl
 have r:((b.getD 1 0).toNat:Int)=kd:=by
  rw[<-a];show((Zk kd.toNat).toNat:Int)=kd;rw[UInt8.toNat_ofNat'];omega
 have q:cut b 2 8=keyBytes k:=by
  rw[<-a];unfold cut;rw[Zn,Zn];show List.take 8 (keyBytes k++(aD body.length 2 Zz++body))=keyBytes k;rw[List.take_append_of_le_length (by omega),List.take_of_length_le (by omega)]
 have p:hX b=body.length:=by
  have e:b=([66,Zk kd.toNat]++keyBytes k)++(aD body.length 2 Zz++body):=by rw[<-a];simp
  have c:([66,Zk kd.toNat]++keyBytes k).length=10:=by simp[f]
  have U_:b.getD 10 0=(aD (body.length:Int) 2 Zz).getD 0 0:=by
   rw[e,Zq,List.getElem?_append_right (by omega),c,List.getElem?_append_left (by omega),<-Zq]
  have i:b.getD 11 0=(aD (body.length:Int) 2 Zz).getD 1 0:=by
   rw[e,Zq,List.getElem?_append_right (by omega),c,List.getElem?_append_left (by omega),<-Zq]
  unfold hX;rw[U_,i,AG _ _ _ (by omega),AG _ _ _ (by omega)];simp only[eY,Qa7,UInt8.toNat_ofNat'];omega
 have o:cut b 12 (body.length:Nat)=body:=by
  have e:b=([66,Zk kd.toNat]++keyBytes k++aD body.length 2 Zz)++body:=by rw[<-a]
  have c:([66,Zk kd.toNat]++keyBytes k++aD body.length 2 Zz).length=12:=by simp[f,j]
  unfold cut;rw[e,show Zw 12=([66,Zk kd.toNat]++keyBytes k++aD body.length 2 Zz).length by rw[c];rfl,List.drop_left];simp
 have l:aN b=⟨⟨kd,k,body⟩,((12+body.length:Nat):Int),0⟩:=by
  unfold aN;rw[Qa0 (by omega),s,r,q,p,fG n m g,Qa0 (by simp[d];omega),Qa0 (by omega),o]
 unfold jV;rw[l,Qa0 (by simp;omega)]
def dh(s:Bytes)(li:Bool):rF :=
 if 1012<s.length then⟨[],105⟩ else⟨header 8 li++aD s.length 2 li++s,0⟩
def rB(b:Bytes)(li:Bool):Bytes:=let n:=get b 2 2 li;(bytes b n.next n.val).val
def FK(b:Bytes)(li:Bool):Rd Bytes :=
 let n:=bV b 2 li 2 Zz
 cq b n.val n.pos n.bad
structure aaf where
 val:Bytes
 By:Bool
 err:Int
def gQ(b:Bytes):aaf :=
 if (aR b [8]).2≠0 then⟨[],Zz,(aR b [8]).2⟩
 else if (dU [] (λs=>dh s (aR b [8]).1) (λa=>(rB a (aR b [8]).1,Zz)) b).err=0 then
  ⟨(dU [] (λs=>dh s (aR b [8]).1) (λa=>(rB a (aR b [8]).1,Zz)) b).val,(aR b [8]).1,0⟩ else⟨[],Zz,100⟩
theorem Rm(h:(dh s li).err=0):(dh s li).val=header 8 li++(aD s.length 2 li++(s++[]))/\s.length<=1012:=by grind [dh]
theorem E8(li:Bool):(header 8 li).length=2:=by cases li<;>rfl
theorem Iu(h:(dh s li).err=0):get (dh s li).val 2 2 li=⟨s.length,4,0⟩/\∃ q,bytes (dh s li).val 4 s.length=⟨s,q,0⟩:=by
 obtain⟨d,g⟩:=Rm h;have c:=(At.start (dh s li).val).as d;have a:=c.skip;rw[E8] at a;obtain⟨f,b⟩:=a.get (.inr (.inl rfl)) (by omega) (by omega);obtain⟨e,_⟩:=b.bytes (n:=s.length) rfl;exact⟨f,_,e⟩
theorem HE(h:(dh s li).err=0):rB (dh s li).val li=s:=by
 obtain⟨b,q,a⟩:=Iu h;unfold rB;simp only[b,a]
theorem Dz(h:(dh s li).err=0):(FK (dh s li).val li).val=s/\(FK (dh s li).val li).bad=Zz:=by
 obtain⟨b,q,a⟩:=Iu h;unfold FK bV cq;simp[b,a]
theorem I0(b:Bytes)(li:Bool):dU [] (λs=>dh s li) (λb'=>(rB b' li,Zz)) b=dU [] (λs=>dh s li) (λb'=>((FK b' li).val,(FK b' li).bad)) b :=
 iG (P:=λ_=>True) (λ_ _ h=>by simp only[HE h]) (λr _ h=>Prod.ext (Dz h).1 (Dz h).2) (λ_=>trivial) (λ_=>trivial) b
def zw(n:Int):Int:=(n+1) % 4294967296
def EQ(ah cP time tick:Int)(li:Bool):rF :=
 if (jP ⟨zw cP,tick,time⟩ li).err≠0 then⟨[],(jP ⟨zw cP,tick,time⟩ li).err⟩
 else if (jf 4 ah (jP ⟨zw cP,tick,time⟩ li).val).err≠0 then⟨[],(jf 4 ah (jP ⟨zw cP,tick,time⟩ li).val).err⟩
 else dh (jf 4 ah (jP ⟨zw cP,tick,time⟩ li).val).val li
structure ah4 where
 c:Client
 err:Int
theorem oB(b:Bytes):(gQ b).val.length<=1012:=by
 unfold gQ;split
 .simp
 split
 .rename_i c h;unfold dU at h ⊢;split at h
  .cases h
  .rename_i a;rw[Qa0 a];exact(Rm (Decidable.byContradiction λx=>a (.inr (.inl x)))).2
 .simp
end Kerb
/- Chapter 20: clients stay without an error. -/
namespace Kerb
open Go Go.Abs
theorem bQ.pG{p q:bQ}:p.tz q=Zg↔p=q:=by
 constructor
 .intro h;obtain⟨a,b,c⟩:=p;obtain⟨d,e,f⟩:=q;simp only[bQ.tz,Zy,Qb0] at h
  grind
 .rintro rfl;exact bQ.I8 p
instance:DecidableEq bQ:=λp q=>if h:p.tz q=Zg then isTrue (bQ.pG.1 h) else isFalse λg=>h (bQ.pG.2 g)
def agb:List bQ:=[service 0,service 1,service 2,service 3,service 4,service 5,service 6,service 7,service 8]
end Kerb
/- Clients that receive: lengths stay small. -/
namespace Kerb
open Go.Abs Go
end Kerb
namespace Go.Abs
end Go.Abs
/- Chapter 20: a client that waits for an answer gets it. -/
namespace Kerb
open Go Go.Abs
theorem sk(m:Q8)(li:Bool):(jP m li).val.length<=16:=by
 unfold jP;split
 .simp
 .rw[rz];simp[aP]
theorem wU(s:Bytes)(li:Bool):(dh s li).val.length<=2000:=by
 unfold dh;split
 .simp
 .simp[aP,E8];omega
end Kerb
/- Sorting a row of keys: the words. -/
namespace Kerb
open Go Go.Abs
variable {d:Array Int}{els:List AV}{n:Nat}{α:Type}{lt:Int->Int->Bool}{hi:Nat}{f:Nat}{a:Nat}{b:Nat}{s:Nat}
def c8(els:List AV):Array Int:=(cu els).toArray
def back(d:Array Int):List AV:=d.toList.map (AV.int AT)
def Jn(h:Go.Sort.Hint):Int:=match h with | .unknown=>0 | .increasing=>1 | .decreasing=>2
def Nk(x:Int):Int:=((Go.Sort.xorNext (UInt64.ofNat x.toNat)).toNat:Int)
noncomputable def ok(_:Int):Bool := @decide True (Classical.propDecidable True)
theorem N_(x:Int):ok x=Zg:=by
 unfold ok
 grind
def nn(a:Int):Bool:=Zm (0<=a)
def order2(els:List AV)(a b s:Int):Nat×Nat×Nat:=Go.Sort.order2 Go.Sort.ltInt (c8 els) a.toNat b.toNat s.toNat
def median(els:List AV)(a b c s:Int):Nat×Nat:=Go.Sort.median Go.Sort.ltInt (c8 els) a.toNat b.toNat c.toNat s.toNat
def Hr(els:List AV)(a s:Int):Nat×Nat:=Go.Sort.medianAdjacent Go.Sort.ltInt (c8 els) a.toNat s.toNat
def Ke(els:List AV)(a b:Int):Nat×Go.Sort.Hint:=Go.Sort.choosePivot Go.Sort.ltInt (c8 els) a.toNat b.toNat
def BS(els:List AV)(a b:Int):List AV:=back (Go.Sort.insertionSort Go.Sort.ltInt (c8 els) a.toNat b.toNat)
def NN(els:List AV)(a b:Int):List AV:=back (Go.Sort.heapSort Go.Sort.ltInt (c8 els) a.toNat b.toNat)
def W9(els:List AV)(a b:Int):List AV:=back (Go.Sort.reverseRange (c8 els) a.toNat b.toNat)
def Gy(els:List AV)(a b:Int):List AV:=back (Go.Sort.breakPatterns (c8 els) a.toNat b.toNat)
def zC(els:List AV)(a b:Int):List AV×Bool:=(back (Go.Sort.partialInsertionSort Go.Sort.ltInt (c8 els) a.toNat b.toNat).1,(Go.Sort.partialInsertionSort Go.Sort.ltInt (c8 els) a.toNat b.toNat).2)
def part(els:List AV)(a b p:Int):Nat×Bool×List AV:=((Go.Sort.partition Go.Sort.ltInt (c8 els) a.toNat b.toNat p.toNat).1,(Go.Sort.partition Go.Sort.ltInt (c8 els) a.toNat b.toNat p.toNat).2.1,back (Go.Sort.partition Go.Sort.ltInt (c8 els) a.toNat b.toNat p.toNat).2.2)
def HB(els:List AV)(a b p:Int):Nat×List AV:=((Go.Sort.partitionEqual Go.Sort.ltInt (c8 els) a.toNat b.toNat p.toNat).1,back (Go.Sort.partitionEqual Go.Sort.ltInt (c8 els) a.toNat b.toNat p.toNat).2)
def sift(els:List AV)(a hi first:Int):List AV:=back (Go.Sort.siftDown Go.Sort.ltInt hi.toNat first.toNat a.toNat (c8 els))
def To(els:List AV)(a b l:Int):List AV:=back (Go.Sort.pdq Go.Sort.ltInt (c8 els) a.toNat b.toNat l.toNat Zg Zg)
def Bo(els:List AV):List AV:=back (Go.Sort.sort Go.Sort.ltInt (c8 els))
def S4(x:Int):Int:=(Go.Sort.bitsLen x.toNat:Int)
def Tp(n:Int):Int:=((1 <<< Go.Sort.bitsLen n.toNat:Nat):Int)
theorem aU(d:Array Int):(back d).length=d.size:=by simp[back]
theorem qk{i:Nat}(h:i<d.size):(back d).getD i .undef = .int AT d[i]! := by
 simp[back,List.getD,h]
theorem Ru(d:Array Int)(i:Nat)(v:Int):(back d).set i (.int AT v)=back (d.setIfInBounds i v):=by
 simp[back,List.map_set]
theorem fw(d:Array Int):c8 (back d)=d:=by
 apply Array.ext';simp[c8,back,cu,Function.comp_def]
theorem IB(h:cM els=Zg):back (c8 els)=els:=La h
theorem nr(h:cM els=Zg):∃ d,els=back d/\c8 els=d:=⟨c8 els,(IB h).symm,rfl⟩
theorem swp_size(d:Array Int)(i j:Nat):(Go.Sort.swp d i j).size=d.size:=by simp[Go.Sort.swp]
theorem im{n:Int}(b : -9223372036854775808<=n)(a:n<9223372036854775808):Zf AI n=n:=by
 unfold Zf;simp[Zu,IntKind.signed];omega
theorem rd(a:n<d.size)(f:Int->Option α):ax (Zm ((0:Int)<=(n:Int))&&Zm ((n:Int)<((back d).length:Int))&&Zg) (ax (Nat.blt (Zw (n:Int)) (back d).length&&Zg) (AV.aw AT (List.getD (back d) (Zw (n:Int)) .undef) f))=f d[n]! := by
 rw[aq (by simp[aU];omega),aq (by simp[aU];omega),Int.toNat_natCast,qk a,dx]
theorem wr(a:n<d.size){c:Bool}(hc:c=Zg)(X:Option α):ax (Zm ((0:Int)<=(n:Int))&&Zm ((n:Int)<((back d).length:Int))&&Zg) (ax (Nat.blt (Zw (n:Int)) (back d).length&&Zg) (AV.aw AT (List.getD (back d) (Zw (n:Int)) .undef) λ_=>ax c X))=X:=by
 rw[rd a,aq hc]
theorem dq(d:Array Int)(n:Nat)(v:Int):(back d).set (Zw (n:Int)) (.int AT v)=back (d.setIfInBounds n v):=by rw[Int.toNat_natCast,Ru]
theorem sw{p q:Nat}(b:p<d.size)(a:q<d.size)(X:List AV->Option α):
  ax (Zm ((0:Int)<=(q:Int))&&Zm ((q:Int)<((back d).length:Int))&&Zg) (ax (Nat.blt (Zw (q:Int)) (back d).length&&Zg) (AV.aw AT (List.getD (back d) (Zw (q:Int)) .undef) λx=>ax (Zm ((0:Int)<=(p:Int))&&Zm ((p:Int)<((back d).length:Int))&&Zg) (ax (Nat.blt (Zw (p:Int)) (back d).length&&Zg) (AV.aw AT (List.getD (back d) (Zw (p:Int)) .undef) λy=>ax (Zm ((0:Int)<=(p:Int))&&Zm ((p:Int)<((back d).length:Int))&&Zg) (ax (Nat.blt (Zw (p:Int)) (back d).length&&Zg) (AV.aw AT (List.getD (back d) (Zw (p:Int)) .undef) λ_=>ax (List.length [AV.int AT x]==nat_lit 1&&Zg&&Zg&&Zg&&Nat.blt (Zw (p:Int)) (List.length (back d))) (ax (Zm ((0:Int)<=(q:Int))&&Zm ((q:Int)<(((back d).set (Zw (p:Int)) (.int AT x)).length:Int))&&Zg) (ax (Nat.blt (Zw (q:Int)) ((back d).set (Zw (p:Int)) (.int AT x)).length&&Zg) (AV.aw AT (List.getD ((back d).set (Zw (p:Int)) (.int AT x)) (Zw (q:Int)) .undef) λ_=>ax (List.length [AV.int AT y]==nat_lit 1&&Zg&&Zg&&Zg&&Nat.blt (Zw (q:Int)) (List.length ((back d).set (Zw (p:Int)) (.int AT x)))) (X (((back d).set (Zw (p:Int)) (.int AT x)).set (Zw (q:Int)) (.int AT y))))))))))))=X (back (Go.Sort.swp d p q)):=by
 rw[rd a,rd b,wr b (by simp[aU];exact b),dq,wr (by rw[Array.size_setIfInBounds];exact a) (by simp[aU];exact a),dq];rfl
theorem eo(d:Array Int):cM (back d)=Zg:=by simp[cM,back]
theorem Qx:∀ (n root:Nat) (d:Array Int),hi-root<=n->(Go.Sort.siftDown lt hi f root d).size=d.size:=by
 intro n;induction n with
 | zero =>
  intro root d h;unfold Go.Sort.siftDown;rw[dif_pos (by omega)]
 | succ n ih =>
  intro root d h;unfold Go.Sort.siftDown;split
  .rfl
  .split
   .split
    .rfl
    .split
     .rw[ih _ _ (by omega),swp_size]
     .rfl
   .split
    .rfl
    .rw[ih _ _ (by omega),swp_size]
theorem xo{root:Nat}:(Go.Sort.siftDown lt hi f root d).size=d.size:=Qx _ root d (Nat.le_refl _)
theorem sP(e:a<n)(c:b<n):(Go.Sort.order2 lt d a b s).1<n/\(Go.Sort.order2 lt d a b s).2.1<n/\(Go.Sort.order2 lt d a b s).2.2<=s+1:=by
 unfold Go.Sort.order2
 grind
theorem PY{c:Nat}(g:a<n)(f:b<n)(hc:c<n):(Go.Sort.median lt d a b c s).1<n/\(Go.Sort.median lt d a b c s).2<=s+3:=by
 unfold Go.Sort.median;have e:=sP (lt:=lt) (d:=d) (s:=s) g f;have h:=sP (lt:=lt) (d:=d) (s:=(Go.Sort.order2 lt d a b s).2.2) e.2.1 hc;have i:=sP (lt:=lt) (d:=d) (s:=(Go.Sort.order2 lt d (Go.Sort.order2 lt d a b s).2.1 c (Go.Sort.order2 lt d a b s).2.2).2.2) e.1 h.1
 grind
end Kerb
