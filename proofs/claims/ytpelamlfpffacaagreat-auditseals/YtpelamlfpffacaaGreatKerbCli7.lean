/- What the functions compute, in plain words: no program here. -/
import Derived.Test.YtpelamlfpffacaaGreatAbsStep
set_option linter.all false
open Bool renaming false→Zz,and_eq_true→Zy,not_eq_false→Zx,not_eq_true'→Zw,true→Zb
open Go.IntKind renaming bits→Zv,wrap→Zf
open List renaming getD_eq_getElem?_getD→Zu,append_assoc→Zg
open Nat renaming mod_eq_of_lt→Zq,two_pow_add_eq_or_of_lt→Zd
open UInt8 renaming ofNat→Zj
open Int renaming toNat→Zk,eq_ofNat_of_zero_le→Zp
namespace Kerb
open Go.Abs in
abbrev Bytes:=List UInt8
def okB(bad:Bytes)(c:UInt8):Bool := !decide (c.toNat<33) && !decide (126<c.toNat) && !bad.contains c
def iy(s bad:Bytes):Bool:=s.all (okB bad)
def dg(s:Bytes):Bool:=decide (s.length<=39)&&iy s [64]
def validName(s:Bytes):Bool := !s.isEmpty&&decide (s.length<=39)&&iy s [46,64]
def fD(s:Bytes):Bool := !s.isEmpty&&dg s
structure ck where
 name:Bytes
 inst:Bytes
 aC:Bytes
def ck.valid(p:ck):Bool:=validName p.name&&dg p.inst&&fD p.aC
def within(n m:Int):Bool:=decide (0<=n)&&decide (n<=m)
def indexOf(c:UInt8):Bytes->Int
 | [] => -1
 | x::r=>if x==c then 0 else if indexOf c r<0 then -1 else indexOf c r+1
def gT(n:Int)(i:Nat):UInt8:=Zj ((n / 2 ^ (8*i)) % 256).toNat
def aL(n:Int)(k:Nat)(little:Bool):Bytes:=cond little ((List.range k).map (gT n)) ((List.range k).map fun i=>gT n (k-1-i))
def cT(b s:Bytes):Bytes:=b++s++[0]
def dI(b:Bytes)(p:ck):Bytes:=cT (cT (cT b p.name) p.inst) p.aC
def room(b:Bytes)(pos n:Int):Int :=
 if pos<0\/(b.length:Int)<pos\/n<0 then 104 else if (b.length:Int)-pos<n then 101 else 0
def kK(l:Bytes):Int:=l.foldl (fun n c=>n*256+c.toNat) 0
def cut(b:Bytes)(pos n:Int):Bytes:=(b.drop pos.toNat).take n.toNat
structure Got where
 val:Int
 next:Int
 err:Int
def get(b:Bytes)(pos k:Int)(little:Bool):Got :=
 if room b pos k=0 then⟨kK (cond little (cut b pos k).reverse (cut b pos k)),pos+k,0⟩ else⟨0,0,room b pos k⟩
structure oG where
 val:Bytes
 next:Int
 err:Int
def bytes(b:Bytes)(pos n:Int):oG :=
 if room b pos n=0 then⟨cut b pos n,pos+n,0⟩ else⟨[],0,room b pos n⟩
def text(b:Bytes)(pos:Int):oG :=
 if room b pos 0=0 then
  if 0<=indexOf 0 ((b.drop pos.toNat).take 40) then⟨((b.drop pos.toNat).take 40).take (indexOf 0 ((b.drop pos.toNat).take 40)).toNat,pos+indexOf 0 ((b.drop pos.toNat).take 40)+1,0⟩
  else if ((b.drop pos.toNat).take 40).length=40 then⟨[],0,105⟩ else⟨[],0,101⟩
 else⟨[],0,104⟩
structure ZF where
 val:ck
 next:Int
 err:Int
def cX:ck:=⟨[],[],[]⟩
def jG(b:Bytes)(pos:Int):ZF :=
 if (text b pos).err≠0 then⟨cX,0,(text b pos).err⟩
 else if (text b (text b pos).next).err≠0 then⟨cX,0,(text b (text b pos).next).err⟩
 else if (text b (text b (text b pos).next).next).err≠0 then⟨cX,0,(text b (text b (text b pos).next).next).err⟩
 else if ck.valid ⟨(text b pos).val,(text b (text b pos).next).val,(text b (text b (text b pos).next).next).val⟩ then
  ⟨⟨(text b pos).val,(text b (text b pos).next).val,(text b (text b (text b pos).next).next).val⟩,(text b (text b (text b pos).next).next).next,0⟩
 else⟨cX,0,103⟩
def isKind(k:Int):Bool:=decide (1<=k)&&decide (k<=10)
def header(k:Int)(little:Bool):Bytes:=cond (isKind k) [4,Zj (2*k.toNat+cond little 1 0)] []
structure Head where
 kind:Int
 little:Bool
 err:Int
def bX(b:Bytes):Head :=
 if b.length<2 then⟨0,Zz,101⟩ else if b.getD 0 0≠4 then⟨0,Zz,39⟩
 else if isKind ((b.getD 1 0).toNat / 2:Nat) then⟨((b.getD 1 0).toNat / 2:Nat),decide ((b.getD 1 0).toNat % 2=1),0⟩ else⟨0,Zz,40⟩
structure kM where
 little:Bool
 client:ck
 time:Int
 bZ:Int
 service:Bytes
 inst:Bytes
structure rK where
 val:Bytes
 err:Int
def rE(r:kM):rK :=
 if !(r.client.valid&&validName r.service&&dg r.inst) then⟨[],103⟩
 else if !(within r.time 4294967295&&within r.bZ 255) then⟨[],104⟩
 else⟨cT (cT (dI (header 1 r.little) r.client++aL r.time 4 r.little++aL r.bZ 1 Zz) r.service) r.inst,0⟩
def bh(b:Bytes)(kinds:List Int):Bool×Int :=
 if (bX b).err≠0 then(Zz,(bX b).err) else if kinds.contains (bX b).kind then((bX b).little,0) else(Zz,40)
structure VL where
 val:kM
 err:Int
def U1:kM:=⟨false,cX,0,0,[],[]⟩
def vo(b:Bytes):kM :=
 let li:=(bh b [1]).1
 let p:=jG b 2
 let t:=get b p.next 4 li
 let l:=get b t.next 1 Zz
 let s:=text b l.next
 ⟨li,p.val,t.val,l.val,s.val,(text b s.next).val⟩
def gR(b:Bytes):VL :=
 if (bh b [1]).2≠0 then⟨U1,(bh b [1]).2⟩
 else if (rE (vo b)).err≠0\/(rE (vo b)).val≠b then⟨U1,100⟩
 else⟨vo b,0⟩
def aC(n:Int):Bytes:=if n % 3=0 then[65,84,72] else if n % 3=1 then[66,79,83] else[67,65,77]
def user(n:Int):ck:=⟨if n % 3=0 then[97,110,110] else if n % 3=1 then[98,111,98] else[99,97,116],[],aC (n / 3)⟩
def service(n:Int):ck:=if n % 3=0 then⟨[109,97,105,108],[],aC (n / 3)⟩ else if n % 3=1 then⟨[110,102,115],[104,111,109,101],aC (n / 3)⟩ else⟨[107,114,98,116,103,116],[65,84,72],aC (n / 3)⟩
def af(n:Int):Int:=Go.IntKind.wrap .u64 ((BitVec.ofInt (Go.IntKind.bits .u64) 144115188075855872 ||| BitVec.ofInt (Go.IntKind.bits .u64) (Go.IntKind.wrap .u64 (Go.IntKind.wrap .i64 (1+n)))).toNat:Int)
def next(l:Bytes)(pos n:Int):Int:=if (l.length:Int)<=pos\/n<=0 then 0 else((l.getD pos.toNat 0).toNat:Int) % n
def ma(l:Bytes)(pos n:Int):Int:=((if (l.length:Int)<=pos\/n<=0 then pos else pos+1).toNat:Int)
structure eU where
 little:Bool
 client:ck
 address:Int
 af:Int
 bZ:Int
 cH:Int
 service:Bytes
 inst:Bytes
def FQ(n:Int):ck:=⟨List.replicate (if n=0 then 39 else 38) 110,List.replicate (if n=0 then 39 else 38) 110,List.replicate (if n=0 then 39 else 38) 110⟩
def tp1(l:Bytes):Int:=ma l 0 2
def tp2(l:Bytes):Int:=ma l (tp1 l) 9
def tp3(l:Bytes):Int:=ma l (tp2 l) 9
def tp4(l:Bytes):Int:=ma l (tp3 l) 256
def tp5(l:Bytes):Int:=ma l (tp4 l) 200
def tp6(l:Bytes):Int:=ma l (tp5 l) 256
def tp7(l:Bytes):Int:=ma l (tp6 l) 256
def tp8(l:Bytes):Int:=ma l (tp7 l) 9
def tp9(l:Bytes):Int:=ma l (tp8 l) 7
def adA(l:Bytes):Int:=ma l (tp9 l) 3
def ag2(l:Bytes):Int:=ma l (adA l) 3
def tq(l:Bytes):Int:=cond (next l (tp8 l) 7==6) (ag2 l) (tp9 l)
def aE(l:Bytes):eU :=
  { little:=next l 0 2==1
    client:=cond (next l (tq l) 9==8) (FQ (next l (ma l (tq l) 9) 2)) (user (next l (tp1 l) 9))
    address:=cond (next l (tp8 l) 7==6) (Go.IntKind.wrap .i64 (4294967295-next l (tp9 l) 3)) (next l (tp4 l) 200)
    af:=af (next l (tp2 l) 9)
    bZ:=next l (tp3 l) 256
    cH:=cond (next l (tp8 l) 7==6) (Go.IntKind.wrap .i64 (4294967295-next l (adA l) 3)) (Go.IntKind.wrap .i64 (Go.IntKind.wrap .i64 (next l (tp5 l) 256*150)+next l (tp6 l) 256))
    service:=cond (next l (tq l) 9==8) (FQ 0).name (Kerb.service (next l (tp7 l) 9)).name
    inst:=cond (next l (tq l) 9==8) (FQ 0).inst (Kerb.service (next l (tp7 l) 9)).inst }
def lT(k:Int):Int:=k / 72057594037927936
def lu(k:Int):Int:=k % 72057594037927936
def ku(c:Int):Bool:=c==1||c==2
def jc(n:Int):Bool:=decide (1<=n)&&decide (n<=4294967295)
def bW(k:Int):Bool:=ku (lT k)&&jc (lu k)
def keyBytes(k:Int):Bytes:=(List.range 8).map fun i=>gT k (7-i)
def cR(b:Bytes):Int×Bool:=if b.length=8/\bW (kK b)=Zb then(kK b,Zb) else(0,Zz)
def pad(b:Bytes):Bytes:=b++List.replicate ((8-b.length % 8) % 8) 0
structure jX where
 little:Bool
 client:ck
 time:Int
 cD:Int
 bI:Int
 cQ:Bytes
def bK(r:jX):rK :=
 if !r.client.valid then⟨[],103⟩
 else if !(within r.time 4294967295&&within r.cD 4294967295&&within r.bI 255) then⟨[],104⟩
 else if 1012<r.cQ.length then⟨[],105⟩
 else⟨dI (header 2 r.little) r.client++aL r.time 4 r.little++aL 1 1 Zz++aL r.cD 4 r.little++aL r.bI 1 Zz++aL r.cQ.length 2 r.little++r.cQ,0⟩
structure O1 where
 val:jX
 err:Int
def x_:jX:=⟨false,cX,0,0,0,[]⟩
def lD(b:Bytes):jX :=
 let li:=(bh b [2]).1
 let p:=jG b 2
 let t:=get b p.next 4 li
 let o:=get b t.next 1 Zz
 let e:=get b o.next 4 li
 let k:=get b e.next 1 Zz
 let n:=get b k.next 2 li
 ⟨li,p.val,t.val,e.val,k.val,(bytes b n.next n.val).val⟩
def bJ(b:Bytes):O1 :=
 if (bh b [2]).2≠0 then⟨x_,(bh b [2]).2⟩
 else if (bK (lD b)).err≠0\/(bK (lD b)).val≠b then⟨x_,100⟩
 else⟨lD b,0⟩
structure fY where
 af:Int
 service:ck
 bZ:Int
 bI:Int
 aE:Bytes
 time:Int
def bO(p:fY)(little:Bool):rK :=
 if !bW p.af then⟨[],10⟩
 else if !p.service.valid then⟨[],103⟩
 else if !(within p.bZ 255&&within p.bI 255&&within p.time 4294967295) then⟨[],104⟩
 else if 255<p.aE.length then⟨[],105⟩
 else⟨pad (dI (aL (cond little 1 0) 1 Zz++keyBytes p.af) p.service++aL p.bZ 1 Zz++aL p.bI 1 Zz++aL p.aE.length 1 Zz++p.aE++aL p.time 4 little),0⟩
structure Lh where
 val:fY
 err:Int
def rH:fY:=⟨0,cX,0,0,[],0⟩
def ld(b:Bytes)(little:Bool):fY :=
 let raw:=bytes b 1 8
 let p:=jG b raw.next
 let l:=get b p.next 1 Zz
 let k:=get b l.next 1 Zz
 let n:=get b k.next 1 Zz
 let t:=bytes b n.next n.val
 ⟨(cR raw.val).1,p.val,l.val,k.val,t.val,(get b t.next 4 little).val⟩
def bU(b:Bytes)(little:Bool):Lh :=
 if (bO (ld b little) little).err≠0\/(bO (ld b little) little).val≠b then⟨rH,100⟩
 else⟨ld b little,0⟩
structure ql where
 little:Bool
 client:ck
 time:Int
 code:Int
 text:Bytes
def mz(r:ql):rK :=
 if !r.client.valid then⟨[],103⟩
 else if !(within r.time 4294967295&&decide (1<=r.code)&&decide (r.code<=99)) then⟨[],104⟩
 else if 39<r.text.length then⟨[],105⟩
 else if 0∈r.text then⟨[],100⟩
 else⟨cT (dI (header 5 r.little) r.client++aL r.time 4 r.little++aL r.code 4 r.little) r.text,0⟩
structure VK where
 val:ql
 err:Int
def U0:ql:=⟨false,cX,0,0,[]⟩
def zu(b:Bytes):ql :=
 let li:=(bh b [5]).1
 let p:=jG b 2
 let t:=get b p.next 4 li
 let c:=get b t.next 4 li
 ⟨li,p.val,t.val,c.val,(text b c.next).val⟩
def uM(b:Bytes):VK :=
 if (bh b [5]).2≠0 then⟨U0,(bh b [5]).2⟩
 else if (mz (zu b)).err≠0\/(mz (zu b)).val≠b then⟨U0,100⟩
 else⟨zu b,0⟩
structure Y4 where
 p:ck
 pos:Int
 bad:Bool
def dL(b:Bytes)(pos:Int)(bad:Bool):Y4 :=
 let a:=text b pos
 let p1:=cond (bad || !(a.err==0)) pos a.next
 let b1:=bad || !(a.err==0)
 let c:=text b p1
 let p2:=cond (b1 || !(c.err==0)) p1 c.next
 let b2:=b1 || !(c.err==0)
 let d:=text b p2
 ⟨⟨a.val,c.val,d.val⟩,cond (b2 || !(d.err==0)) p2 d.next,b2 || !(d.err==0)⟩
def p9(b:Bytes)(how:Int):Int:=Int.tmod (Go.IntKind.wrap .i64 (Go.IntKind.wrap .u16 (Int.tdiv how 8))) (b.length:Int)
def wF(b:Bytes)(how:Int):Bytes :=
 if b=[] then[] else
 if Int.tmod how 4=0 then b.set (p9 b how).toNat (Zj (Zk (Go.IntKind.wrap .u8 ((BitVec.ofInt (Go.IntKind.bits .u8) ((b.getD (p9 b how).toNat 0).toNat:Int) ^^^ BitVec.ofInt (Go.IntKind.bits .u8) ((Zj (Zk (Go.IntKind.wrap .u8 (((1:UInt8).toNat:Int)*(2:Int) ^ min (Zk (Go.IntKind.wrap .u64 (Int.tmod how 7))) 8)))).toNat:Int)).toNat:Int))))
 else if Int.tmod how 4=1 then b.take (p9 b how).toNat++b.drop (Zk (Go.IntKind.wrap .i64 (p9 b how+1)))
 else if Int.tmod how 4=2 then b++[Zj (Zk (Go.IntKind.wrap .u8 how))]
 else b
def texts:List Bytes:=[[99,108,105,101,110,116,32,101,120,112,105,114,101,100],[115,101,114,118,105,99,101,32,101,120,112,105,114,101,100],[110,111,32,108,105,102,101,116,105,109,101,32,108,101,102,116],[112,114,111,116,111,99,111,108,32,118,101,114,115,105,111,110],[110,111,116,32,97,32,99,108,105,101,110,116],[110,111,116,32,97,32,115,101,114,118,105,99,101],[98,121,116,101,32,111,114,100,101,114],[112,114,105,110,99,105,112,97,108,32,117,110,107,110,111,119,110],[112,114,105,110,99,105,112,97,108,32,110,111,116,32,117,110,105,113,117,101],[110,111,32,107,101,121]]
def refused:Bytes:=[114,101,113,117,101,115,116,32,114,101,102,117,115,101,100]
def message(code:Int):Bytes:=if code<1\/10<code then refused else texts.getD (code-1).toNat []
structure Rd (α:Type) where
 val:α
 pos:Int
 bad:Bool
def dJ(b:Bytes)(k:Int)(li:Bool)(pos:Int)(bad:Bool):Rd Int:=⟨(get b pos k li).val,cond (bad || !((get b pos k li).err==0)) pos (get b pos k li).next,bad || !((get b pos k li).err==0)⟩
def nD(b:Bytes)(pos:Int)(bad:Bool):Rd Bytes:=⟨(text b pos).val,cond (bad || !((text b pos).err==0)) pos (text b pos).next,bad || !((text b pos).err==0)⟩
def dz(b:Bytes)(n:Int)(pos:Int)(bad:Bool):Rd Bytes:=⟨(bytes b pos n).val,cond (bad || !((bytes b pos n).err==0)) pos (bytes b pos n).next,bad || !((bytes b pos n).err==0)⟩
def kD(b:Bytes):Rd jX :=
 let li:=(bh b [2]).1
 let p:=dL b 2 Zz
 let t:=dJ b 4 li p.pos p.bad
 let o:=dJ b 1 Zz t.pos t.bad
 let e:=dJ b 4 li o.pos o.bad
 let k:=dJ b 1 Zz e.pos e.bad
 let n:=dJ b 2 li k.pos k.bad
 let s:=dz b n.val n.pos n.bad
 ⟨⟨li,p.p,t.val,e.val,k.val,s.val⟩,s.pos,s.bad⟩
def lP(b:Bytes)(little:Bool):Rd fY :=
 let o:=dJ b 1 Zz 0 Zz
 let raw:=dz b 8 o.pos o.bad
 let p:=dL b raw.pos raw.bad
 let l:=dJ b 1 Zz p.pos p.bad
 let k:=dJ b 1 Zz l.pos l.bad
 let n:=dJ b 1 Zz k.pos k.bad
 let t:=dz b n.val n.pos n.bad
 let m:=dJ b 4 little t.pos t.bad
 ⟨⟨(cR raw.val).1,p.p,l.val,k.val,t.val,m.val⟩,m.pos,m.bad⟩
end Kerb
/- Plain facts on what the functions compute. -/
namespace Kerb
open Go Go.Abs
theorem dK{n:Nat}(h:n<=140737488355328):Go.Abs.room n 1=Zb:=by
 simp[Go.Abs.room];omega
theorem rD{s:Bytes}{i:Nat}(h:i<s.length):s.drop i=s.getD i 0::s.drop (i+1):=by
 rw[List.drop_eq_getElem_cons h];simp[h]
theorem u7(c:UInt8):∀ l:Bytes,(0<=indexOf c l)↔c∈l
 | []=>by simp[indexOf]
 | x::r=>by
  have ih:=u7 c r;unfold indexOf;by_cases h:x=c
  ·subst h;simp
  ·have h1:(x==c)=Zz:=by simpa using h
   rw[h1,List.mem_cons,<-ih];have h3:¬ c=x:=fun e=>h e.symm;simp only[Bool.false_eq_true,if_false,h3,false_or];split<;>omega
theorem EU(l:Bytes)(c:UInt8):kK (l++[c])=kK l*256+c.toNat:=by simp[kK]
theorem zB{l:Bytes}{i:Nat}(h:i<l.length):kK (l.take (i+1))=kK (l.take i)*256+(l.getD i 0).toNat:=by
 rw[List.take_succ_eq_append_getElem h,EU];simp[h]
theorem CX(l:Bytes):∃ m:Nat,kK l=m/\m<256 ^ l.length:=by
 have key:∀ (n:Nat) (l:Bytes),l.length=n->∃ m:Nat,kK l=m/\m<256 ^ n:=by
  intro n;induction n with
  | zero=>intro l h;have:=List.eq_nil_of_length_eq_zero h;subst this;exact⟨0,rfl,by simp⟩
  | succ n ih =>
   intro l h;have ic:l≠[]:=fun e=>by subst e;simp at h
   obtain⟨m,h1,h2⟩:=ih l.dropLast (by simp[h]);refine⟨m*256+(l.getLast ic).toNat,?_,?_⟩
   ·have e:=List.dropLast_concat_getLast ic;rw[<-Qb5 kK e,EU,h1];omega
   ·have:=(l.getLast ic).toNat_lt;rw[Nat.pow_succ];omega
 exact key _ l rfl
theorem MO{l:Bytes}(h:l.length<=4):0<=kK l/\kK l<4294967296:=by
 obtain⟨m,h1,h2⟩:=CX l;have:256 ^ l.length<=256 ^ 4:=Nat.pow_le_pow_right (by omega) h;rw[h1];omega
theorem Mm{n:Int}(c:UInt8)(h0:0<=n)(h1:n<1099511627776):Zf .i64 ((BitVec.ofInt (Zv .i64) (Zf .i64 (n*2 ^ min (Zk 8) (Zv .i64))) ||| BitVec.ofInt (Zv .i64) (Zf .i64 (c.toNat:Int))).toNat:Int)=n*256+c.toNat:=by
 obtain⟨m,rfl⟩:=Zp h0;have hc:=c.toNat_lt;have e1:((m:Int)*2 ^ min (Zk 8) (Zv .i64))=((2 ^ 8*m:Nat):Int):=by
  have:min (Zk 8) (Zv .i64)=8:=by decide
  rw[this];omega
 rw[e1,wrap_i64 (n:=((2 ^ 8*m:Nat):Int)) (by omega) (by omega),wrap_i64 (n:=(c.toNat:Int)) (by omega) (by omega)];have hb:Zv .i64=64:=rfl;rw[hb];have e2:(BitVec.ofInt 64 ((2 ^ 8*m:Nat):Int) ||| BitVec.ofInt 64 ((c.toNat:Nat):Int)).toNat=2 ^ 8*m+c.toNat:=by
  rw[BitVec.ofInt_natCast,BitVec.ofInt_natCast,BitVec.toNat_or,BitVec.toNat_ofNat,BitVec.toNat_ofNat,Zq (by omega),Zq (by omega)];exact(Zd hc m).symm
 rw[e2,wrap_i64 (by omega) (by omega)];omega
theorem kh{b:Bytes}{pos n:Int}:room b pos n=0↔0<=pos/\pos<=b.length/\0<=n/\n<=b.length-pos:=by
 unfold room;split
 ·omega
 ·split<;>omega
theorem kV{b:Bytes}{pos n:Int}(h:room b pos n=0):(cut b pos n).length=n.toNat:=by
 obtain⟨h1,h2,h3,h4⟩:=kh.1 h;simp[cut];omega
theorem Fs{l:Bytes}{i:Nat}(h:i<l.length):l.reverse.getD i 0=l.getD (l.length-1-i) 0:=by
 simp[Zu,List.getElem?_reverse h]
def SI(n:Int)(m:Nat):UInt8:=Zj (Zk (Zf .u8 (Int.fdiv n (2 ^ m))))
theorem wrap_u8(x:Int):Zf .u8 x=x % 256:=by
 simp[Zf,IntKind.signed,Zv]
theorem wrap_u64(x:Int):Zf .u64 x=x % 18446744073709551616:=by
 simp[Zf,IntKind.signed,Zv]
theorem VZ(n:Int)(m:Nat):SI n m=Zj ((n / 2 ^ m) % 256).toNat:=by grind [wrap_u8,SI]
theorem VE(n:Int){i:Nat}(h:i<4):Zj (Zk (Zf .u8 (Int.fdiv (Zf .u64 n) (2 ^ (8*i)))))=gT n i:=by
 unfold gT;rw[wrap_u8,wrap_u64,Int.fdiv_eq_ediv_of_nonneg _ (Int.le_of_lt (Int.pow_pos (by omega)))];have h4:i=0\/i=1\/i=2\/i=3:=by omega
 have e:n % 18446744073709551616 / 2 ^ (8*i) % 256=n / 2 ^ (8*i) % 256:=by
  rcases h4 with rfl | rfl | rfl | rfl<;>simp<;>omega
 rw[e]
theorem aw(n:Int)(k:Nat)(l:Bool):(aL n k l).length=k:=by cases l<;>simp[aL]
theorem zn(n:Int)(k:Nat)(l:Bool){i:Nat}(h:i<k):(aL n k l).getD i 0=gT n (cond l i (k-1-i)):=by
 cases l<;>simp[aL,Zu,h]
theorem vG{l:Bytes}{i:Nat}(h:i<l.length):l.take (i+1)=l.take i++[l.getD i 0]:=by
 rw[List.take_succ_eq_append_getElem h];simp[h]
theorem xu{x:AV}{r:List AV}(h:sN (x::r)=Zb):∃ n,x = .int .i64 n/\sN r=Zb:=by
 unfold sN at h;split at h
 ·rename_i he;cases he
 ·rename_i he;cases he;exact⟨_,rfl,h⟩
 ·cases h
theorem Hx:∀ {els:List AV} {i:Nat},sN els=Zb->i<els.length->∃ n,els.getD i .undef = .int .i64 n/\(nh els).drop i=n::(nh els).drop (i+1)
 | [],i,_,h=>by simp at h
 | x::r,i,ha,h=>by
  obtain⟨n,rfl,SJ⟩:=xu ha;cases i with
  | zero=>exact⟨n,by simp,by simp[nh]⟩
  | succ i =>
   obtain⟨m,h1,h2⟩:=Hx (i:=i) SJ (by simpa using h);exact⟨m,by simpa using h1,by simpa [nh] using h2⟩
theorem Hy:∀ {els:List AV},sN els=Zb->(nh els).length=els.length
 | [],_=>rfl
 | x::r,ha=>by
  obtain⟨n,rfl,SJ⟩:=xu ha;simp[nh,Hy SJ]
theorem io{s:Bytes}(h:dg s=Zb):s.length<=39:=by
 simp only[dg,Zy,Qa2] at h;exact h.1
theorem jq{s:Bytes}(h:validName s=Zb):s.length<=39:=by
 simp only[validName,Zy,Qa2] at h;exact h.1.2
theorem iL{s:Bytes}(h:fD s=Zb):s.length<=39:=by
 simp only[fD,Zy] at h;exact io h.2
theorem dN{p:ck}(h:p.valid=Zb):p.name.length<=39/\p.inst.length<=39/\p.aC.length<=39:=by
 simp only[ck.valid,Zy] at h;exact⟨jq h.1.1,io h.1.2,iL h.2⟩
theorem bu(k:Int)(l:Bool):(header k l).length<=2:=by
 unfold header;cases isKind k<;>simp
theorem c7(b s:Bytes):(cT b s).length=b.length+s.length+1:=by simp[cT];omega
theorem aB(b:Bytes)(p:ck):(dI b p).length=b.length+p.name.length+p.inst.length+p.aC.length+3:=by
 simp[dI,c7];omega
theorem bE(b:Bytes)(pos:Int):(text b pos).val.length<=40:=by
 unfold text;split
 ·split
  ·simp;omega
  ·split<;>simp
 ·simp
theorem o7(b:Bytes)(pos:Int):(jG b pos).val.name.length<=40/\(jG b pos).val.inst.length<=40/\(jG b pos).val.aC.length<=40:=by
 unfold jG;split
 ·simp[cX]
 split
 ·simp[cX]
 split
 ·simp[cX]
 split
 ·exact⟨bE _ _,bE _ _,bE _ _⟩
 ·simp[cX]
theorem sD(n:Int):(aC n).length=3:=by
 unfold aC;split
 ·rfl
 ·split<;>rfl
theorem qE{c:UInt8}:∀ {s q:Bytes},c ∉ s->indexOf c (s++c::q)=s.length
 | [],q,_=>by simp[indexOf]
 | x::s,q,h=>by
  have hx:(x==c)=Zz:=by
   have:x≠c:=fun e=>h (by simp[e]);simpa using this
  have ih:=qE (q:=q) (c:=c) (s:=s) fun hm=>h (by simp[hm]);simp only[List.cons_append,indexOf,hx,Bool.false_eq_true,if_false,ih,List.length_cons];rw[Qa0 (by omega)];omega
theorem A2{b pre s post:Bytes}{pos:Int}(hb:b=pre++(s++0::post))(hp:pos=pre.length)(hs:s.length<=39)(h0:(0:UInt8) ∉ s):text b pos=⟨s,pos+s.length+1,0⟩:=by
 have hr:room b pos 0=0:=kh.2 (by subst hb;simp;omega);have hd:b.drop pos.toNat=s++0::post:=by subst hb;subst hp;simp
 have ht:(s++0::post).take 40=s++0::post.take (39-s.length):=by
  rw[List.take_append,List.take_of_length_le (by omega),show 40-s.length=(39-s.length)+1 by omega,List.take_succ_cons]
 unfold text;rw[Qa1 hr,hd,ht,qE h0,Qa1 (by omega)];simp
theorem AQ{s bad:Bytes}(h:iy s bad=Zb):(0:UInt8) ∉ s:=by
 intro hm;have:=List.all_eq_true.1 h 0 hm;simp[okB] at this
theorem nH{s:Bytes}(h:dg s=Zb):(0:UInt8) ∉ s:=by
 simp only[dg,Zy] at h;exact AQ h.2
theorem qU{s:Bytes}(h:validName s=Zb):(0:UInt8) ∉ s:=by
 simp only[validName,Zy] at h;exact AQ h.2
theorem pj{s:Bytes}(h:fD s=Zb):(0:UInt8) ∉ s:=by
 simp only[fD,Zy] at h;exact nH h.2
theorem yi{b pre post:Bytes}{p:ck}{pos:Int}(hb:b=pre++(p.name++0::(p.inst++0::(p.aC++0::post))))(hp:pos=pre.length)(hv:p.valid=Zb) :
  jG b pos=⟨p,pos+p.name.length+p.inst.length+p.aC.length+3,0⟩:=by
 have hl:=dN hv;have BH:=hv;simp only[ck.valid,Zy] at BH;have h1:=A2 hb hp hl.1 (qU BH.1.1);have h2:=A2 (b:=b) (pre:=pre++(p.name++[0])) (s:=p.inst) (post:=p.aC++0::post) (pos:=pos+p.name.length+1) (by rw[hb];simp) (by rw[hp];simp;omega) hl.2.1 (nH BH.1.2);have h3:=A2 (b:=b) (pre:=pre++(p.name++[0])++(p.inst++[0])) (s:=p.aC) (post:=post) (pos:=pos+p.name.length+1+p.inst.length+1) (by rw[hb];simp) (by rw[hp];simp;omega) hl.2.2 (pj BH.2);unfold jG;simp only[h1,h2,h3];have e:ck.mk p.name p.inst p.aC=p:=rfl;simp only[e,hv,ne_eq,not_true_eq_false,if_false,if_true];congr 1;omega
theorem qv(n:Int)(i:Nat):((gT n i).toNat:Int)=n / 2 ^ (8*i) % 256:=by
 unfold gT;have h1:=Int.emod_nonneg (n / 2 ^ (8*i)) (by omega:(256:Int)≠0);have h2:=Int.emod_lt_of_pos (n / 2 ^ (8*i)) (by omega:(0:Int)<256);rw[UInt8.toNat_ofNat_of_lt' (by show _<256;omega)];omega
theorem Uf{n:Int}{k:Nat}{little:Bool}(hk:k=1\/k=2\/k=4)(h0:0<=n)(h1:n<256 ^ k):kK (cond little (aL n k little).reverse (aL n k little))=n:=by
 have e0:=qv n 0;have e1:=qv n 1;have e2:=qv n 2;have e3:=qv n 3;simp only[Nat.mul_zero,Nat.mul_one,Int.pow_zero,Int.ediv_one] at e0 e1 e2 e3;rcases hk with rfl | rfl | rfl
 ·have hv:kK (cond little (aL n 1 little).reverse (aL n 1 little))=((gT n 0).toNat:Int):=by cases little<;>simp[aL,kK,List.range_succ]
  rw[hv,e0];simp at h1;omega
 ·have hv:kK (cond little (aL n 2 little).reverse (aL n 2 little))=((gT n 1).toNat:Int)*256+((gT n 0).toNat:Int):=by cases little<;>simp[aL,kK,List.range_succ]
  rw[hv,e0,e1];simp at h1 ⊢;omega
 ·have hv:kK (cond little (aL n 4 little).reverse (aL n 4 little))=((((gT n 3).toNat:Int)*256+((gT n 2).toNat:Int))*256+((gT n 1).toNat:Int))*256+((gT n 0).toNat:Int):=by cases little<;>simp[aL,kK,List.range_succ]
  rw[hv,e0,e1,e2,e3];simp at h1 ⊢;omega
theorem get_at{b pre post:Bytes}{pos n:Int}{k:Nat}{little:Bool}(hb:b=pre++(aL n k little++post))(hp:pos=pre.length)(hk:k=1\/k=2\/k=4)(h0:0<=n)(h1:n<256 ^ k) :
  get b pos k little=⟨n,pos+k,0⟩:=by
 have hl:=aw n k little;have hr:room b pos k=0:=kh.2 (by subst hb;simp[hl];omega);have hc:cut b pos k=aL n k little:=by
  subst hb;subst hp;simp only[cut,Int.toNat_natCast,List.drop_left];rw[List.take_append_of_le_length (by omega),List.take_of_length_le (by omega)]
 unfold get;rw[Qa1 hr,hc,Uf hk h0 h1]
theorem Dw(c:UInt8)(post:Bytes):bX (4::c::post)=if isKind (c.toNat / 2:Nat) then⟨(c.toNat / 2:Nat),decide (c.toNat % 2=1),0⟩ else⟨0,Zz,40⟩:=by
 unfold bX;rw[Qa0 (by simp),Qa0 (by simp)];rfl
theorem zL{k:Int}(h1:1<=k)(h2:k<=10)(little:Bool)(post:Bytes):bX (header k little++post)=⟨k,little,0⟩:=by
 have hk:k=1\/k=2\/k=3\/k=4\/k=5\/k=6\/k=7\/k=8\/k=9\/k=10:=by omega
 rcases hk with rfl | rfl | rfl | rfl | rfl | rfl | rfl | rfl | rfl | rfl<;>cases little<;>exact Dw _ post
theorem DZ{k:Int}(h1:1<=k)(h2:k<=10)(little:Bool)(post:Bytes):bh (header k little++post) [k]=(little,0):=by
 unfold bh;rw[zL h1 h2];simp
theorem zK{k:Int}(h1:1<=k)(h2:k<=10)(little:Bool):(header k little).length=2:=by
 have:isKind k=Zb:=by simp[isKind,h1,h2]
 simp[header,this]
theorem qw{b pre s post:Bytes}{pos n:Int}(hb:b=pre++(s++post))(hp:pos=pre.length)(hn:n=s.length):bytes b pos n=⟨s,pos+n,0⟩:=by
 have hr:room b pos n=0:=kh.2 (by subst hb;simp;omega);have hc:cut b pos n=s:=by
  subst hb;subst hp;subst hn;simp[cut]
 unfold bytes;rw[Qa1 hr,hc]
theorem KO{r:jX}(h:(bK r).err=0):bJ (bK r).val=⟨r,0⟩:=by
 unfold bK at h;split at h
 ·cases h
 split at h
 ·cases h
 split at h
 ·cases h
 rename_i g1 g2 g3;have hval:(bK r).val=dI (header 2 r.little) r.client++aL r.time 4 r.little++aL 1 1 Zz++aL r.cD 4 r.little++aL r.bI 1 Zz++aL r.cQ.length 2 r.little++r.cQ:=by
  unfold bK;rw[Qa0 g1,Qa0 g2,Qa0 g3]
 have P8:(bK r).err=0:=by unfold bK;rw[Qa0 g1,Qa0 g2,Qa0 g3]
 simp only[Zw,Zx,Zy] at g1 g2;obtain⟨⟨w1,w2⟩,w3⟩:=g2;simp only[within,Zy,Qa2] at w1 w2 w3;obtain⟨b,hb⟩:∃ b,b=(bK r).val:=⟨_,rfl⟩;have vN:b=header 2 r.little++(r.client.name++0::(r.client.inst++0::(r.client.aC++0::(aL r.time 4 r.little++(aL 1 1 Zz++(aL r.cD 4 r.little++(aL r.bI 1 Zz++(aL r.cQ.length 2 r.little++r.cQ)))))))):=by
  rw[hb,hval];simp[cT,dI]
 rw[<-hb];have hh:bh b [2]=(r.little,0):=by rw[vN];exact DZ (by omega) (by omega) _ _
 have l2:=zK (k:=2) (by omega) (by omega) r.little;have hp:=yi (pos:=2) vN (by rw[l2];rfl) g1;obtain⟨q0,Qi⟩:∃ q:Int,q=2+r.client.name.length+r.client.inst.length+r.client.aC.length+3:=⟨_,rfl⟩;rw[<-Qi] at hp;obtain⟨lV,u3⟩:∃ p,p=header 2 r.little++(r.client.name++0::(r.client.inst++0::(r.client.aC++[0]))):=⟨_,rfl⟩;have jb:q0=lV.length:=by rw[Qi,u3];simp[l2];omega
 have oB:b=lV++(aL r.time 4 r.little++(aL 1 1 Zz++(aL r.cD 4 r.little++(aL r.bI 1 Zz++(aL r.cQ.length 2 r.little++r.cQ))))):=by rw[vN,u3];simp
 have ht:get b q0 4 r.little=⟨r.time,q0+4,0⟩:=get_at (k:=4) oB jb (by omega) w1.1 (by omega);have ho:get b (q0+4) 1 Zz=⟨1,q0+4+1,0⟩:=get_at (k:=1) (n:=1) (pre:=lV++aL r.time 4 r.little) (post:=aL r.cD 4 r.little++(aL r.bI 1 Zz++(aL r.cQ.length 2 r.little++r.cQ))) (by rw[oB];simp) (by simp[aw,jb]) (by omega) (by omega) (by omega);have he:get b (q0+4+1) 4 r.little=⟨r.cD,q0+4+1+4,0⟩:=get_at (k:=4) (n:=r.cD) (pre:=lV++aL r.time 4 r.little++aL 1 1 Zz) (post:=aL r.bI 1 Zz++(aL r.cQ.length 2 r.little++r.cQ)) (by rw[oB];simp) (by simp[aw,jb];omega) (by omega) w2.1 (by omega);have hk:get b (q0+4+1+4) 1 Zz=⟨r.bI,q0+4+1+4+1,0⟩:=get_at (k:=1) (n:=r.bI) (pre:=lV++aL r.time 4 r.little++aL 1 1 Zz++aL r.cD 4 r.little) (post:=aL r.cQ.length 2 r.little++r.cQ) (by rw[oB];simp) (by simp[aw,jb];omega) (by omega) w3.1 (by omega);have hn:get b (q0+4+1+4+1) 2 r.little=⟨r.cQ.length,q0+4+1+4+1+2,0⟩:=get_at (k:=2) (n:=r.cQ.length) (pre:=lV++aL r.time 4 r.little++aL 1 1 Zz++aL r.cD 4 r.little++aL r.bI 1 Zz) (post:=r.cQ) (by rw[oB];simp) (by simp[aw,jb];omega) (by omega) (by omega) (by omega);have hs:bytes b (q0+4+1+4+1+2) r.cQ.length=⟨r.cQ,_,0⟩:=qw (pre:=lV++aL r.time 4 r.little++aL 1 1 Zz++aL r.cD 4 r.little++aL r.bI 1 Zz++aL r.cQ.length 2 r.little) (post:=[]) (by rw[oB];simp) (by simp[aw,jb];omega) rfl;have Qj:lD b=r:=by
  unfold lD;simp only[hh,hp,ht,ho,he,hk,hn,hs]
 unfold bJ;rw[hh,Qj,P8,<-hb];simp
theorem Qy{k:Int}(h0:0<=k)(h1:k<18446744073709551616):Zf .i64 (Int.fdiv k ((2:Int) ^ min (Zk (56:Int)) (Zv .u64)))=lT k:=by
 have e:min (Zk (56:Int)) (Zv .u64)=56:=by decide
 rw[e,Int.fdiv_eq_ediv_of_nonneg _ (Int.le_of_lt (Int.pow_pos (by omega)))];unfold lT;have e2:(2:Int) ^ 56=72057594037927936:=by decide
 rw[e2,wrap_i64 (by omega) (by omega)]
theorem Qz{k:Int}(h0:0<=k)(h1:k<18446744073709551616):Zf .i64 (Zf .u64 (((BitVec.ofInt (Zv .u64) k &&& BitVec.ofInt (Zv .u64) (72057594037927935:Int)).toNat:Nat):Int))=lu k:=by
 obtain⟨m,rfl⟩:=Zp h0;have hb:Zv .u64=64:=rfl;have e2:(BitVec.ofInt 64 ((m:Nat):Int) &&& BitVec.ofInt 64 (72057594037927935:Int)).toNat=m % 72057594037927936:=by
  have e3:BitVec.ofInt 64 (72057594037927935:Int)=BitVec.ofNat 64 (2 ^ 56-1):=by decide
  rw[BitVec.ofInt_natCast,e3,BitVec.toNat_and,BitVec.toNat_ofNat,BitVec.toNat_ofNat,Zq (by omega),Zq (by decide),Nat.and_two_pow_sub_one_eq_mod]
 rw[hb,e2,wrap_u64];unfold lu;rw[wrap_i64 (by omega) (by omega)];omega
theorem QA{c n:Int}(hc:c=1\/c=2)(h0:1<=n)(h1:n<=4294967295):Zf .u64 (((BitVec.ofInt (Zv .u64) (Zf .u64 (Zf .u64 c*(2:Int) ^ min (Zk (56:Int)) (Zv .u64))) ||| BitVec.ofInt (Zv .u64) (Zf .u64 n)).toNat:Nat):Int)=c*72057594037927936+n:=by
 have e:min (Zk (56:Int)) (Zv .u64)=56:=by decide
 have hb:Zv .u64=64:=rfl;obtain⟨m,rfl⟩:=Zp (by omega:0<=n);obtain⟨d,rfl⟩:=Zp (by omega:0<=c);have e2:(2:Int) ^ 56=72057594037927936:=by decide
 rw[e,e2,wrap_u64,wrap_u64,wrap_u64,wrap_u64,hb];have q1:((d:Int) % 18446744073709551616*72057594037927936) % 18446744073709551616=((2 ^ 56*d:Nat):Int):=by omega
 have q2:((m:Int) % 18446744073709551616)=((m:Nat):Int):=by omega
 rw[q1,q2];have e3:(BitVec.ofInt 64 ((2 ^ 56*d:Nat):Int) ||| BitVec.ofInt 64 ((m:Nat):Int)).toNat=2 ^ 56*d+m:=by
  rw[BitVec.ofInt_natCast,BitVec.ofInt_natCast,BitVec.toNat_or,BitVec.toNat_ofNat,BitVec.toNat_ofNat,Zq (by omega),Zq (by omega)];exact(Zd (by omega) d).symm
 rw[e3];omega
theorem Iv{n:Int}(c:UInt8)(h0:0<=n)(h1:n<72057594037927936):Zf .u64 ((BitVec.ofInt (Zv .u64) (Zf .u64 (n*2 ^ min (Zk 8) (Zv .u64))) ||| BitVec.ofInt (Zv .u64) (Zf .u64 (c.toNat:Int))).toNat:Int)=n*256+c.toNat:=by
 obtain⟨m,rfl⟩:=Zp h0;have hc:=c.toNat_lt;have e:min (Zk 8) (Zv .u64)=8:=by decide
 have hb:Zv .u64=64:=rfl;rw[e,wrap_u64,wrap_u64,wrap_u64,hb];have q1:((m:Int)*2 ^ 8) % 18446744073709551616=((2 ^ 8*m:Nat):Int):=by omega
 have q2:((c.toNat:Int) % 18446744073709551616)=((c.toNat:Nat):Int):=by omega
 rw[q1,q2];have e2:(BitVec.ofInt 64 ((2 ^ 8*m:Nat):Int) ||| BitVec.ofInt 64 ((c.toNat:Nat):Int)).toNat=2 ^ 8*m+c.toNat:=by
  rw[BitVec.ofInt_natCast,BitVec.ofInt_natCast,BitVec.toNat_or,BitVec.toNat_ofNat,BitVec.toNat_ofNat,Zq (by omega),Zq (by omega)];exact(Zd hc m).symm
 rw[e2];omega
theorem TA(k:Int):lT k*72057594037927936+lu k=k:=by
 unfold lT lu;omega
theorem CW{l:Bytes}(h:l.length<=8):0<=kK l/\kK l<18446744073709551616:=by
 obtain⟨m,h1,h2⟩:=CX l;have:256 ^ l.length<=256 ^ 8:=Nat.pow_le_pow_right (by omega) h;rw[h1];omega
theorem Ju{l:Bytes}(h:l.length<=7):0<=kK l/\kK l<72057594037927936:=by
 obtain⟨m,h1,h2⟩:=CX l;have:256 ^ l.length<=256 ^ 7:=Nat.pow_le_pow_right (by omega) h;rw[h1];omega
theorem ay(k:Int):(keyBytes k).length=8:=by simp[keyBytes]
theorem FI{k:Int}(h0:0<=k)(h1:k<18446744073709551616):kK (keyBytes k)=k:=by
 have hv:kK (keyBytes k)=(((((((((gT k 7).toNat:Int)*256+((gT k 6).toNat:Int))*256+((gT k 5).toNat:Int))*256+((gT k 4).toNat:Int))*256+((gT k 3).toNat:Int))*256+((gT k 2).toNat:Int))*256+((gT k 1).toNat:Int))*256+((gT k 0).toNat:Int)):=by simp[keyBytes,kK,List.range_succ]
 have st:∀ i,k / 2 ^ (8*(i+1))=k / 2 ^ (8*i) / 256:=fun i=>by
  rw[show 8*(i+1)=8*i+8 by omega,Int.pow_add,Int.ediv_ediv_of_nonneg (Int.le_of_lt (Int.pow_pos (by omega)))];rfl
 have ev:∀ i,((gT k i).toNat:Int)=k / 2 ^ (8*i)-256*(k / 2 ^ (8*(i+1))):=fun i=>by
  rw[qv,st];have:=Int.emod_add_mul_ediv (k / 2 ^ (8*i)) 256;omega
 have z:k / 2 ^ (8*(7+1))=0:=Int.ediv_eq_zero_of_lt h0 (by simpa using h1);have o:k / 2 ^ (8*0)=k:=by simp
 have e0:=ev 0;have e1:=ev 1;have e2:=ev 2;have e3:=ev 3;have e4:=ev 4;have e5:=ev 5;have e6:=ev 6;have e7:=ev 7;rw[z] at e7;rw[o] at e0;clear ev st;rw[hv,e0,e1,e2,e3,e4,e5,e6,e7];simp only[Nat.reduceAdd];generalize k / 2 ^ (8*7)=k7;generalize k / 2 ^ (8*6)=k6;generalize k / 2 ^ (8*5)=k5;generalize k / 2 ^ (8*4)=k4;generalize k / 2 ^ (8*3)=k3;generalize k / 2 ^ (8*2)=k2;generalize k / 2 ^ (8*1)=k1;omega
theorem fL{k:Int}(h0:0<=k)(h1:k<18446744073709551616)(hv:bW k=Zb):cR (keyBytes k)=(k,Zb):=by
 unfold cR;rw[FI h0 h1,Qa1 ⟨ay k,hv⟩]
theorem dW(b:Bytes):0<=(cR b).1/\(cR b).1<18446744073709551616:=by
 unfold cR;split
 ·rename_i h;exact CW (by omega)
 ·simp
theorem iW(b:Bytes)(pos n:Int):(bytes b pos n).val.length<=b.length:=by
 unfold bytes;split
 ·simp[cut];omega
 ·simp
theorem rz(b:Bytes):(pad b).length=b.length+(8-b.length % 8) % 8:=by simp[pad]
theorem qO(l:Bytes):0<=(aE l).af/\(aE l).af<18446744073709551616:=by
 simp only[aE,af,wrap_u64];omega
theorem mY(r:fY)(little:Bool):(bO r little).val.length<=392:=by
 unfold bO;split
 ·simp
 split
 ·simp
 split
 ·simp
 split
 ·simp
 rename_i g0 g1 g2 g3;simp only[Zw,Zx] at g1;have h1:=dN g1;simp only[rz,aB,aw,ay,List.length_append];omega
theorem uR{r:fY}{little:Bool}(h:(bO r little).err=0) :
  bW r.af=Zb/\r.service.valid=Zb/\(0<=r.bZ/\r.bZ<=255)/\(0<=r.bI/\r.bI<=255)/\(0<=r.time/\r.time<=4294967295)/\r.aE.length<=255 /\
  (bO r little).val=pad (dI (aL (cond little 1 0) 1 Zz++keyBytes r.af) r.service++aL r.bZ 1 Zz++aL r.bI 1 Zz++aL r.aE.length 1 Zz++r.aE++aL r.time 4 little):=by
 unfold bO at h;split at h
 ·cases h
 split at h
 ·cases h
 split at h
 ·cases h
 split at h
 ·cases h
 rename_i g0 g1 g2 g3;have hval:(bO r little).val=pad (dI (aL (cond little 1 0) 1 Zz++keyBytes r.af) r.service++aL r.bZ 1 Zz++aL r.bI 1 Zz++aL r.aE.length 1 Zz++r.aE++aL r.time 4 little):=by
  unfold bO;rw[Qa0 g0,Qa0 g1,Qa0 g2,Qa0 g3]
 simp only[Zw,Zx,Zy] at g0 g1 g2;obtain⟨⟨w1,w2⟩,w3⟩:=g2;simp only[within,Zy,Qa2] at w1 w2 w3;exact⟨g0,g1,w1,w2,w3,by omega,hval⟩
theorem XY(l:Bool):aL (cond l 1 0) 1 Zz=[cond l 1 0]:=by cases l<;>rfl
theorem N8{r:fY}{little:Bool}(FD:0<=r.af)(lk:r.af<18446744073709551616)(h:(bO r little).err=0):bU (bO r little).val little=⟨r,0⟩:=by
 have P8:=h;obtain⟨g0,g1,w1,w2,w3,w4,hval⟩:=uR h;obtain⟨b,hb⟩:∃ b,b=(bO r little).val:=⟨_,rfl⟩;obtain⟨z,hz⟩:∃ z,b=[cond little 1 0]++(keyBytes r.af++(r.service.name++0::(r.service.inst++0::(r.service.aC++0::(aL r.bZ 1 Zz++(aL r.bI 1 Zz++(aL r.aE.length 1 Zz++(r.aE++(aL r.time 4 little++z))))))))):=by
  rw[hb,hval,XY];exact⟨List.replicate _ 0,by simp only[pad,cT,dI,Zg,List.cons_append,List.nil_append];rfl⟩
 rw[<-hb];have l8:=ay r.af;have W8:bytes b 1 8=⟨keyBytes r.af,1+8,0⟩:=qw hz rfl (by rw[l8];rfl);have To:=fL FD lk g0;have hp:jG b (1+8)=_:=yi (pos:=1+8) (b:=b) (pre:=[cond little 1 0]++keyBytes r.af) (p:=r.service) (by rw[hz];simp;rfl) (by simp[l8]) g1;obtain⟨q0,Qi⟩:∃ q:Int,q=1+8+r.service.name.length+r.service.inst.length+r.service.aC.length+3:=⟨_,rfl⟩;rw[<-Qi] at hp;obtain⟨lV,u3⟩:∃ p,p=[cond little 1 0]++(keyBytes r.af++(r.service.name++0::(r.service.inst++0::(r.service.aC++[0])))):=⟨_,rfl⟩;have jb:q0=lV.length:=by rw[Qi,u3];simp[l8];omega
 have oB:b=lV++(aL r.bZ 1 Zz++(aL r.bI 1 Zz++(aL r.aE.length 1 Zz++(r.aE++(aL r.time 4 little++z))))):=by rw[hz,u3];simp
 have hl:get b q0 1 Zz=⟨r.bZ,q0+1,0⟩:=get_at (k:=1) oB jb (by omega) w1.1 (by omega);have hk:get b (q0+1) 1 Zz=⟨r.bI,q0+1+1,0⟩:=get_at (k:=1) (n:=r.bI) (pre:=lV++aL r.bZ 1 Zz) (post:=aL r.aE.length 1 Zz++(r.aE++(aL r.time 4 little++z))) (by rw[oB];simp) (by simp[aw,jb]) (by omega) w2.1 (by omega);have hn:get b (q0+1+1) 1 Zz=⟨r.aE.length,q0+1+1+1,0⟩:=get_at (k:=1) (n:=r.aE.length) (pre:=lV++aL r.bZ 1 Zz++aL r.bI 1 Zz) (post:=r.aE++(aL r.time 4 little++z)) (by rw[oB];simp) (by simp[aw,jb];omega) (by omega) (by omega) (by omega);have ht:bytes b (q0+1+1+1) r.aE.length=⟨r.aE,q0+1+1+1+r.aE.length,0⟩:=qw (pre:=lV++aL r.bZ 1 Zz++aL r.bI 1 Zz++aL r.aE.length 1 Zz) (post:=aL r.time 4 little++z) (by rw[oB];simp) (by simp[aw,jb];omega) rfl;have hs:get b (q0+1+1+1+r.aE.length) 4 little=⟨r.time,q0+1+1+1+r.aE.length+4,0⟩:=get_at (k:=4) (n:=r.time) (pre:=lV++aL r.bZ 1 Zz++aL r.bI 1 Zz++aL r.aE.length 1 Zz++r.aE) (post:=z) (by rw[oB];simp) (by simp[aw,jb];omega) (by omega) w3.1 (by omega);have Qj:ld b little=r:=by
  unfold ld;simp only[W8,To,hp,hl,hk,hn,ht,hs]
 unfold bU;rw[Qj,P8,<-hb];simp
theorem l7(r:ql):(mz r).val.length<=300:=by
 unfold mz;split
 ·simp
 split
 ·simp
 split
 ·simp
 split
 ·simp
 rename_i g1 g2 g3 g4;simp only[Zw,Zx] at g1;have h1:=dN g1;have h4:=bu 5 r.little;simp only[c7,aB,aw,List.length_append];omega
theorem cJ{b:Bytes}{k pos n nx:Int}{li:Bool}(h:get b pos k li=⟨n,nx,0⟩):dJ b k li pos Zz=⟨n,nx,Zz⟩:=by
 unfold dJ;rw[h];rfl
theorem sC{b s:Bytes}{pos nx:Int}(h:text b pos=⟨s,nx,0⟩):nD b pos Zz=⟨s,nx,Zz⟩:=by
 unfold nD;rw[h];rfl
theorem eB{b s:Bytes}{pos n nx:Int}(h:bytes b pos n=⟨s,nx,0⟩):dz b n pos Zz=⟨s,nx,Zz⟩:=by
 unfold dz;rw[h];rfl
theorem lC{b:Bytes}{p:ck}{pos nx:Int}(h:jG b pos=⟨p,nx,0⟩):dL b pos Zz=⟨p,nx,Zz⟩:=by
 unfold jG at h;by_cases h1:(text b pos).err=0;case neg=>rw[Qa1 h1] at h;simp at h;exact absurd h.2.2 h1
 rw[Qa0 (by simpa using h1)] at h;by_cases h2:(text b (text b pos).next).err=0;case neg=>rw[Qa1 h2] at h;simp at h;exact absurd h.2.2 h2
 rw[Qa0 (by simpa using h2)] at h;by_cases h3:(text b (text b (text b pos).next).next).err=0;case neg=>rw[Qa1 h3] at h;simp at h;exact absurd h.2.2 h3
 rw[Qa0 (by simpa using h3)] at h;split at h
 ·simp only[ZF.mk.injEq,Qa8] at h;obtain⟨rfl,rfl⟩:=h;unfold dL;simp[h1,h2,h3]
 ·simp at h
theorem KM{r:jX}(h:(bK r).err=0):(kD (bK r).val).val=r/\(kD (bK r).val).bad=Zz:=by
 unfold bK at h;split at h
 ·cases h
 split at h
 ·cases h
 split at h
 ·cases h
 rename_i g1 g2 g3;have hval:(bK r).val=dI (header 2 r.little) r.client++aL r.time 4 r.little++aL 1 1 Zz++aL r.cD 4 r.little++aL r.bI 1 Zz++aL r.cQ.length 2 r.little++r.cQ:=by
  unfold bK;rw[Qa0 g1,Qa0 g2,Qa0 g3]
 have P8:(bK r).err=0:=by unfold bK;rw[Qa0 g1,Qa0 g2,Qa0 g3]
 simp only[Zw,Zx,Zy] at g1 g2;obtain⟨⟨w1,w2⟩,w3⟩:=g2;simp only[within,Zy,Qa2] at w1 w2 w3;obtain⟨b,hb⟩:∃ b,b=(bK r).val:=⟨_,rfl⟩;have vN:b=header 2 r.little++(r.client.name++0::(r.client.inst++0::(r.client.aC++0::(aL r.time 4 r.little++(aL 1 1 Zz++(aL r.cD 4 r.little++(aL r.bI 1 Zz++(aL r.cQ.length 2 r.little++r.cQ)))))))):=by
  rw[hb,hval];simp[cT,dI]
 rw[<-hb];have hh:bh b [2]=(r.little,0):=by rw[vN];exact DZ (by omega) (by omega) _ _
 have l2:=zK (k:=2) (by omega) (by omega) r.little;have hp:=yi (pos:=2) vN (by rw[l2];rfl) g1;obtain⟨q0,Qi⟩:∃ q:Int,q=2+r.client.name.length+r.client.inst.length+r.client.aC.length+3:=⟨_,rfl⟩;rw[<-Qi] at hp;obtain⟨lV,u3⟩:∃ p,p=header 2 r.little++(r.client.name++0::(r.client.inst++0::(r.client.aC++[0]))):=⟨_,rfl⟩;have jb:q0=lV.length:=by rw[Qi,u3];simp[l2];omega
 have oB:b=lV++(aL r.time 4 r.little++(aL 1 1 Zz++(aL r.cD 4 r.little++(aL r.bI 1 Zz++(aL r.cQ.length 2 r.little++r.cQ))))):=by rw[vN,u3];simp
 have ht:get b q0 4 r.little=⟨r.time,q0+4,0⟩:=get_at (k:=4) oB jb (by omega) w1.1 (by omega);have ho:get b (q0+4) 1 Zz=⟨1,q0+4+1,0⟩:=get_at (k:=1) (n:=1) (pre:=lV++aL r.time 4 r.little) (post:=aL r.cD 4 r.little++(aL r.bI 1 Zz++(aL r.cQ.length 2 r.little++r.cQ))) (by rw[oB];simp) (by simp[aw,jb]) (by omega) (by omega) (by omega);have he:get b (q0+4+1) 4 r.little=⟨r.cD,q0+4+1+4,0⟩:=get_at (k:=4) (n:=r.cD) (pre:=lV++aL r.time 4 r.little++aL 1 1 Zz) (post:=aL r.bI 1 Zz++(aL r.cQ.length 2 r.little++r.cQ)) (by rw[oB];simp) (by simp[aw,jb];omega) (by omega) w2.1 (by omega);have hk:get b (q0+4+1+4) 1 Zz=⟨r.bI,q0+4+1+4+1,0⟩:=get_at (k:=1) (n:=r.bI) (pre:=lV++aL r.time 4 r.little++aL 1 1 Zz++aL r.cD 4 r.little) (post:=aL r.cQ.length 2 r.little++r.cQ) (by rw[oB];simp) (by simp[aw,jb];omega) (by omega) w3.1 (by omega);have hn:get b (q0+4+1+4+1) 2 r.little=⟨r.cQ.length,q0+4+1+4+1+2,0⟩:=get_at (k:=2) (n:=r.cQ.length) (pre:=lV++aL r.time 4 r.little++aL 1 1 Zz++aL r.cD 4 r.little++aL r.bI 1 Zz) (post:=r.cQ) (by rw[oB];simp) (by simp[aw,jb];omega) (by omega) (by omega) (by omega);have hs:bytes b (q0+4+1+4+1+2) r.cQ.length=⟨r.cQ,_,0⟩:=qw (pre:=lV++aL r.time 4 r.little++aL 1 1 Zz++aL r.cD 4 r.little++aL r.bI 1 Zz++aL r.cQ.length 2 r.little) (post:=[]) (by rw[oB];simp) (by simp[aw,jb];omega) rfl;unfold kD;simp only[hh,lC hp,cJ ht,cJ ho,cJ he,cJ hk,cJ hn,eB hs];exact⟨trivial,trivial⟩
theorem Ie{b:Bytes}(hh:(bh b [2]).2=0):bJ b=if (kD b).bad=Zb\/(bK (kD b).val).err≠0\/(bK (kD b).val).val≠b then⟨x_,100⟩ else⟨(kD b).val,0⟩:=by
 by_cases h:(kD b).bad=Zb\/(bK (kD b).val).err≠0\/(bK (kD b).val).val≠b
 ·rw[Qa1 h];unfold bJ;rw[Qa0 (by simpa using hh)];by_cases g:(bK (lD b)).err≠0\/(bK (lD b)).val≠b
  ·rw[Qa1 g]
  ·exfalso;have g1:(bK (lD b)).err=0:=Decidable.byContradiction fun x=>g (.inl x);have g2:(bK (lD b)).val=b:=Decidable.byContradiction fun x=>g (.inr x);obtain⟨qX,n7⟩:=KM g1;rw[g2] at qX n7;rw[qX,n7,g1,g2] at h;simp at h
 ·rw[Qa0 h];have g1:(bK (kD b).val).err=0:=Decidable.byContradiction fun x=>h (.inr (.inl x));have g2:(bK (kD b).val).val=b:=Decidable.byContradiction fun x=>h (.inr (.inr x));have:=KO g1;rw[g2] at this;exact this
theorem bz(b:Bytes)(pos:Int)(bad:Bool):(dL b pos bad).p.name.length<=40/\(dL b pos bad).p.inst.length<=40/\(dL b pos bad).p.aC.length<=40 :=
 ⟨bE _ _,bE _ _,bE _ _⟩
theorem Oh{r:fY}{little:Bool}(FD:0<=r.af)(lk:r.af<18446744073709551616)(h:(bO r little).err=0):(lP (bO r little).val little).val=r/\(lP (bO r little).val little).bad=Zz:=by
 have P8:=h;obtain⟨g0,g1,w1,w2,w3,w4,hval⟩:=uR h;obtain⟨b,hb⟩:∃ b,b=(bO r little).val:=⟨_,rfl⟩;obtain⟨z,hz⟩:∃ z,b=[cond little 1 0]++(keyBytes r.af++(r.service.name++0::(r.service.inst++0::(r.service.aC++0::(aL r.bZ 1 Zz++(aL r.bI 1 Zz++(aL r.aE.length 1 Zz++(r.aE++(aL r.time 4 little++z))))))))):=by
  rw[hb,hval,XY];exact⟨List.replicate _ 0,by simp only[pad,cT,dI,Zg,List.cons_append,List.nil_append];rfl⟩
 rw[<-hb];have l8:=ay r.af;have W8:bytes b 1 8=⟨keyBytes r.af,1+8,0⟩:=qw hz rfl (by rw[l8];rfl);have To:=fL FD lk g0;have hp:jG b (1+8)=_:=yi (pos:=1+8) (b:=b) (pre:=[cond little 1 0]++keyBytes r.af) (p:=r.service) (by rw[hz];simp;rfl) (by simp[l8]) g1;obtain⟨q0,Qi⟩:∃ q:Int,q=1+8+r.service.name.length+r.service.inst.length+r.service.aC.length+3:=⟨_,rfl⟩;rw[<-Qi] at hp;obtain⟨lV,u3⟩:∃ p,p=[cond little 1 0]++(keyBytes r.af++(r.service.name++0::(r.service.inst++0::(r.service.aC++[0])))):=⟨_,rfl⟩;have jb:q0=lV.length:=by rw[Qi,u3];simp[l8];omega
 have oB:b=lV++(aL r.bZ 1 Zz++(aL r.bI 1 Zz++(aL r.aE.length 1 Zz++(r.aE++(aL r.time 4 little++z))))):=by rw[hz,u3];simp
 have hl:get b q0 1 Zz=⟨r.bZ,q0+1,0⟩:=get_at (k:=1) oB jb (by omega) w1.1 (by omega);have hk:get b (q0+1) 1 Zz=⟨r.bI,q0+1+1,0⟩:=get_at (k:=1) (n:=r.bI) (pre:=lV++aL r.bZ 1 Zz) (post:=aL r.aE.length 1 Zz++(r.aE++(aL r.time 4 little++z))) (by rw[oB];simp) (by simp[aw,jb]) (by omega) w2.1 (by omega);have hn:get b (q0+1+1) 1 Zz=⟨r.aE.length,q0+1+1+1,0⟩:=get_at (k:=1) (n:=r.aE.length) (pre:=lV++aL r.bZ 1 Zz++aL r.bI 1 Zz) (post:=r.aE++(aL r.time 4 little++z)) (by rw[oB];simp) (by simp[aw,jb];omega) (by omega) (by omega) (by omega);have ht:bytes b (q0+1+1+1) r.aE.length=⟨r.aE,q0+1+1+1+r.aE.length,0⟩:=qw (pre:=lV++aL r.bZ 1 Zz++aL r.bI 1 Zz++aL r.aE.length 1 Zz) (post:=aL r.time 4 little++z) (by rw[oB];simp) (by simp[aw,jb];omega) rfl;have hs:get b (q0+1+1+1+r.aE.length) 4 little=⟨r.time,q0+1+1+1+r.aE.length+4,0⟩:=get_at (k:=4) (n:=r.time) (pre:=lV++aL r.bZ 1 Zz++aL r.bI 1 Zz++aL r.aE.length 1 Zz++r.aE) (post:=z) (by rw[oB];simp) (by simp[aw,jb];omega) (by omega) w3.1 (by omega);have ho:get b 0 1 Zz=⟨cond little 1 0,1,0⟩:=by
  have:=get_at (b:=b) (pre:=[]) (pos:=0) (n:=cond little 1 0) (k:=1) (little:=Zz) (post:=keyBytes r.af++(r.service.name++0::(r.service.inst++0::(r.service.aC++0::(aL r.bZ 1 Zz++(aL r.bI 1 Zz++(aL r.aE.length 1 Zz++(r.aE++(aL r.time 4 little++z))))))))) (by rw[XY];exact hz) rfl (by omega) (by cases little<;>simp) (by cases little<;>simp);exact this
 unfold lP;simp only[cJ ho,eB W8,To,lC hp,cJ hl,cJ hk,cJ hn,eB ht,cJ hs];exact⟨trivial,trivial⟩
theorem zZ(b:Bytes)(little:Bool):0<=(ld b little).af/\(ld b little).af<18446744073709551616:=dW _
theorem Et(b:Bytes)(little:Bool):0<=(lP b little).val.af/\(lP b little).val.af<18446744073709551616:=dW _
theorem KL(b:Bytes)(li:Bool):bU b li=if (lP b li).bad=Zb\/(bO (lP b li).val li).err≠0\/(bO (lP b li).val li).val≠b then⟨rH,100⟩ else⟨(lP b li).val,0⟩:=by
 by_cases h:(lP b li).bad=Zb\/(bO (lP b li).val li).err≠0\/(bO (lP b li).val li).val≠b
 ·rw[Qa1 h];unfold bU;by_cases g:(bO (ld b li) li).err≠0\/(bO (ld b li) li).val≠b
  ·rw[Qa1 g]
  ·exfalso;have g1:(bO (ld b li) li).err=0:=Decidable.byContradiction fun x=>g (.inl x);have g2:(bO (ld b li) li).val=b:=Decidable.byContradiction fun x=>g (.inr x);obtain⟨qX,n7⟩:=Oh (zZ b li).1 (zZ b li).2 g1;rw[g2] at qX n7;rw[qX,n7,g1,g2] at h;simp at h
 ·rw[Qa0 h];have g1:(bO (lP b li).val li).err=0:=Decidable.byContradiction fun x=>h (.inr (.inl x));have g2:(bO (lP b li).val li).val=b:=Decidable.byContradiction fun x=>h (.inr (.inr x));have:=N8 (Et b li).1 (Et b li).2 g1;rw[g2] at this;exact this
theorem wrap_u16(x:Int):Zf .u16 x=x % 65536:=by
 rw[Zf];rfl
theorem K6{b:Bytes}{how:Int}(h0:0<=how)(h1:how<=65535)(hb:0<b.length):0<=p9 b how/\p9 b how<b.length:=by
 unfold p9;rw[Int.tdiv_eq_ediv_of_nonneg h0,wrap_u16,wrap_i64 (by omega) (by omega),Int.tmod_eq_emod_of_nonneg (by omega)];exact⟨Int.emod_nonneg _ (by omega),Int.emod_lt_of_pos _ (by omega)⟩
theorem EN(b:Bytes)(how:Int):(wF b how).length<=2*b.length+1:=by grind [wF]
end Kerb
/- Reading what was written: a place in a text, and what is behind it. -/
namespace Kerb
open Go Go.Abs
def At(b:Bytes)(pos:Int)(rest:Bytes):Prop:=∃ pre:Bytes,b=pre++rest/\pos=pre.length
theorem At.start(b:Bytes):At b 0 b:=⟨[],rfl,rfl⟩
theorem At.skip{b s rest:Bytes}{pos:Int}(h:At b pos (s++rest)):At b (pos+s.length) rest:=by
 obtain⟨pre,rfl,rfl⟩:=h;exact⟨pre++s,by simp,by simp⟩
theorem At.to{b rest:Bytes}{pos q:Int}(h:At b pos rest)(e:pos=q):At b q rest:=e ▸ h
theorem At.as{b rest U':Bytes}{pos:Int}(h:At b pos rest)(e:rest=U'):At b pos U':=e ▸ h
theorem At.get{b rest:Bytes}{pos n:Int}{k:Nat}{li:Bool}(h:At b pos (aL n k li++rest))(hk:k=1\/k=2\/k=4)(h0:0<=n)(h1:n<256 ^ k) :
  Kerb.get b pos k li=⟨n,pos+k,0⟩/\At b (pos+k) rest:=by
 have hs:=h.skip;rw[aw] at hs;obtain⟨pre,hb,hp⟩:=h;exact⟨get_at hb hp hk h0 h1,hs⟩
theorem At.bytes{b s rest:Bytes}{pos n:Int}(h:At b pos (s++rest))(hn:n=s.length):Kerb.bytes b pos n=⟨s,pos+n,0⟩/\At b (pos+n) rest:=by
 have hs:=h.skip;obtain⟨pre,hb,hp⟩:=h;exact⟨qw hb hp hn,hn ▸ hs⟩
theorem At.text{b s rest:Bytes}{pos:Int}(h:At b pos (s++0::rest))(hs:s.length<=39)(h0:(0:UInt8) ∉ s):Kerb.text b pos=⟨s,pos+s.length+1,0⟩/\At b (pos+s.length+1) rest:=by
 have h2:At b (pos+s.length) ([0]++rest):=h.skip;have h3:=h2.skip;obtain⟨pre,hb,hp⟩:=h;exact⟨A2 hb hp hs h0,h3⟩
theorem At.jG{b rest:Bytes}{p:ck}{pos:Int}(h:At b pos (p.name++0::(p.inst++0::(p.aC++0::rest))))(hv:p.valid=Zb) :
  ∃ q,Kerb.jG b pos=⟨p,q,0⟩/\At b q rest:=by
 obtain⟨pre,hb,hp⟩:=h;have:=yi hb hp hv;refine⟨_,this,pre++(p.name++0::(p.inst++0::(p.aC++[0]))),by rw[hb];simp,?_⟩;rw[hp];simp;omega
end Kerb
/- Chapter 22: messages of kaservers, in plain words. -/
namespace Kerb
open Go Go.Abs
structure eG where
 op:Int
 user:ck
 bI:Int
 aC:Bytes
 aE:Bytes
 service:Bytes
 inst:Bytes
 box:Bytes
def ck.Hz(p:ck):Bool:=p.name==[]&&(p.inst==[]&&p.aC==[])
def tc(n:Int):Bool:=n==1||(n==2||n==3)
def u_(op:Int):Bytes:=header 9 Zz++aL op 1 Zz
def gM(b:Bytes)(t:Bytes):Bytes:=b++aL t.length 2 Zz++t
def tA(b:Bytes)(t:Bytes):Bytes:=b++aL t.length 1 Zz++t
def bF(r:eG):rK :=
 if !tc r.op then⟨[],40⟩
 else if r.op==2 then
  if !(fD r.aC&&validName r.service&&dg r.inst) then⟨[],103⟩
  else if !within r.bI 255 then⟨[],104⟩
  else if 255<r.aE.length\/1012<r.box.length then⟨[],105⟩
  else if !r.user.Hz then⟨[],108⟩
  else⟨gM (cT (cT (tA (cT (u_ r.op++aL r.bI 1 Zz) r.aC) r.aE) r.service) r.inst) r.box,0⟩
 else
  if !r.user.valid then⟨[],103⟩
  else if 1012<r.box.length then⟨[],105⟩
  else if r.bI≠0\/r.aC≠[]\/r.aE≠[]\/r.service≠[]\/r.inst≠[] then⟨[],108⟩
  else⟨gM (dI (u_ r.op) r.user) r.box,0⟩
def pR:eG:=⟨0,cX,0,[],[],[],[],[]⟩
structure Gu (α:Type) where
 val:α
 err:Int
def eJ{α:Type}(no:α)(enc:α->rK)(rd:Bytes->α×Bool)(b:Bytes):Gu α :=
 if (rd b).2=Zb\/(enc (rd b).1).err≠0\/(enc (rd b).1).val≠b then⟨no,100⟩ else⟨(rd b).1,0⟩
theorem iD{α:Type}{no:α}{enc:α->rK}{P:α->Prop}{rd1 rd2:Bytes->α×Bool}(h1:∀ r,P r->(enc r).err=0->rd1 (enc r).val=(r,Zz))(h2:∀ r,P r->(enc r).err=0->rd2 (enc r).val=(r,Zz))
  (p1:∀ b,P (rd1 b).1) (p2:∀ b,P (rd2 b).1) (b:Bytes):eJ no enc rd1 b=eJ no enc rd2 b:=by grind [eJ]
theorem Bk{α:Type}{no:α}{enc:α->rK}{rd:Bytes->α×Bool}{r:α}(h:rd (enc r).val=(r,Zz))(he:(enc r).err=0):eJ no enc rd (enc r).val=⟨r,0⟩:=by
 unfold eJ;rw[h,Qa0 (by simp[he])]
def su(b:Bytes)(k:Int)(pos:Int)(bad:Bool):Rd Int :=
 cond (bad || !((get b pos k Zz).err==0)) ⟨0,pos,Zb⟩ ⟨(get b pos k Zz).val,(get b pos k Zz).next,Zz⟩
def Cc(b:Bytes)(pos:Int)(bad:Bool):Rd Bytes :=
 cond (bad || !((text b pos).err==0)) ⟨[],pos,Zb⟩ ⟨(text b pos).val,(text b pos).next,Zz⟩
def iS(b:Bytes)(n:Int)(pos:Int)(bad:Bool):Rd Bytes :=
 cond (bad || !((bytes b pos n).err==0)) ⟨[],pos,Zb⟩ ⟨(bytes b pos n).val,(bytes b pos n).next,Zz⟩
def zU(b:Bytes)(pos:Int)(bad:Bool):Rd ck :=
 cond (bad || !((jG b pos).err==0)) ⟨cX,pos,Zb⟩ ⟨(jG b pos).val,(jG b pos).next,Zz⟩
def Kw(b:Bytes)(pos:Int)(bad:Bool):Rd Int :=
 ⟨cond (cR (iS b 8 pos bad).val).2 (cR (iS b 8 pos bad).val).1 0,(iS b 8 pos bad).pos,(iS b 8 pos bad).bad || !(cR (iS b 8 pos bad).val).2⟩
def H9(b:Bytes):Rd eG :=
  let o:=su b 1 2 Zz
  cond (o.val==2)
    (let k:=su b 1 o.pos o.bad
     let r:=Cc b k.pos k.bad
     let n:=su b 1 r.pos r.bad
     let t:=iS b n.val n.pos n.bad
     let s:=Cc b t.pos t.bad
     let i:=Cc b s.pos s.bad
     let m:=su b 2 i.pos i.bad
     let x:=iS b m.val m.pos m.bad
     ⟨⟨o.val,cX,k.val,r.val,t.val,s.val,i.val,x.val⟩,x.pos,x.bad⟩)
    (let u:=zU b o.pos o.bad
     let m:=su b 2 u.pos u.bad
     let x:=iS b m.val m.pos m.bad
     ⟨⟨o.val,u.val,0,[],[],[],[],x.val⟩,x.pos,x.bad⟩)
def qh(b:Bytes):eG×Bool:=((H9 b).val,(H9 b).bad)
def bm(b:Bytes):Gu eG :=
 if (bh b [9]).2≠0 then⟨pR,(bh b [9]).2⟩ else eJ pR bF qh b
structure jI where
 op:Int
 code:Int
 box:Bytes
def cG(r:jI):rK :=
 if !tc r.op then⟨[],40⟩
 else if !within r.code 99 then⟨[],104⟩
 else if 1012<r.box.length then⟨[],105⟩
 else if r.code≠0/\r.box≠[] then⟨[],108⟩
 else⟨gM (u_ (r.op+128)++aL r.code 1 Zz) r.box,0⟩
def qe:jI:=⟨0,0,[]⟩
def XV(b:Bytes):Rd jI :=
 let o:=su b 1 2 Zz
 let c:=su b 1 o.pos o.bad
 let m:=su b 2 c.pos c.bad
 let x:=iS b m.val m.pos m.bad
 ⟨⟨o.val-128,c.val,x.val⟩,x.pos,x.bad⟩
def vU(b:Bytes):jI×Bool:=((XV b).val,(XV b).bad)
def dZ(b:Bytes):Gu jI :=
 if (bh b [9]).2≠0 then⟨qe,(bh b [9]).2⟩ else eJ qe cG vU b
def Aq:Bytes:=[103,84,71,83]
def FJ:Bytes:=[116,103,115,84]
def oD:Bytes:=[103,84,75,84]
def vd:Bytes:=[116,107,116,71]
def gD:Bytes:=[67,80,87,108]
def nl:Bytes:=[67,80,87,100]
structure gE where
 label:Bytes
 time:Int
 start:Int
 stop:Int
 new:Int
def py(l:Bytes):Bool:=l==Aq||l==oD
def bR(s:gE):rK :=
 if !py s.label && !(s.label==gD) then⟨[],80⟩
 else if !within s.time 4294967295 then⟨[],104⟩
 else if py s.label then
  if !(within s.start 4294967295&&within s.stop 4294967295) then⟨[],104⟩
  else if s.new≠0 then⟨[],108⟩
  else⟨pad (s.label++aL s.time 4 Zz++aL s.start 4 Zz++aL s.stop 4 Zz),0⟩
 else
  if !bW s.new then⟨[],10⟩
  else if s.start≠0\/s.stop≠0 then⟨[],108⟩
  else⟨pad (s.label++aL s.time 4 Zz++keyBytes s.new),0⟩
def tt:gE:=⟨[],0,0,0,0⟩
def N6(b:Bytes):Rd gE :=
  let l:=iS b 4 0 Zz
  let t:=su b 4 l.pos l.bad
  cond (py l.val)
    (let s:=su b 4 t.pos t.bad
     let e:=su b 4 s.pos s.bad
     ⟨⟨l.val,t.val,s.val,e.val,0⟩,e.pos,e.bad⟩)
    (let k:=Kw b t.pos t.bad
     ⟨⟨l.val,t.val,0,0,k.val⟩,k.pos,k.bad⟩)
def mJ(b:Bytes):gE×Bool:=((N6 b).val,(N6 b).bad)
def eF(b:Bytes):Gu gE:=eJ tt bR mJ b
structure fW where
 label:Bytes
 time:Int
 af:Int
 start:Int
 stop:Int
 bI:Int
 service:ck
 aE:Bytes
def gW(l:Bytes):Bool:=l==FJ||l==vd
def cg(a:fW):rK :=
 if !gW a.label && !(a.label==nl) then⟨[],80⟩
 else if !within a.time 4294967295 then⟨[],104⟩
 else if gW a.label then
  if !bW a.af then⟨[],10⟩
  else if !(within a.start 4294967295&&within a.stop 4294967295&&within a.bI 255) then⟨[],104⟩
  else if !a.service.valid then⟨[],103⟩
  else if 255<a.aE.length then⟨[],105⟩
  else⟨pad (tA (dI (a.label++aL a.time 4 Zz++keyBytes a.af++aL a.start 4 Zz++aL a.stop 4 Zz++aL a.bI 1 Zz) a.service) a.aE),0⟩
 else if a.af≠0\/a.start≠0\/a.stop≠0\/a.bI≠0\/a.service.Hz=Zz\/a.aE≠[] then⟨[],108⟩
 else⟨pad (a.label++aL a.time 4 Zz),0⟩
def tp:fW:=⟨[],0,0,0,0,0,cX,[]⟩
def H7(b:Bytes):Rd fW :=
  let l:=iS b 4 0 Zz
  let t:=su b 4 l.pos l.bad
  cond (gW l.val)
    (let k:=Kw b t.pos t.bad
     let s:=su b 4 k.pos k.bad
     let e:=su b 4 s.pos s.bad
     let v:=su b 1 e.pos e.bad
     let p:=zU b v.pos v.bad
     let n:=su b 1 p.pos p.bad
     let x:=iS b n.val n.pos n.bad
     ⟨⟨l.val,t.val,k.val,s.val,e.val,v.val,p.val,x.val⟩,x.pos,x.bad⟩)
    ⟨⟨l.val,t.val,0,0,0,0,cX,[]⟩,t.pos,t.bad⟩
def mH(b:Bytes):fW×Bool:=((H7 b).val,(H7 b).bad)
def cf(b:Bytes):Gu fW:=eJ tp cg mH b
end Kerb
namespace Kerb
structure Ask where
 op:UInt8
 user:UInt8
 bI:UInt8
 service:UInt8
 label:UInt8
 time:Int
 start:Int
 stop:Int
 key:UInt8
 aE:Bytes
 box:Bytes
 extra:UInt8
def oo(x:UInt8):Int:=(x.toNat:Int)
def Ask.U_(a:Ask):Int:=1+oo a.op % 3
def Ask.ex(a:Ask):Nat:=a.extra.toNat % 16
def Ask.base(a:Ask):eG :=
 if a.U_=2 then⟨2,cX,oo a.bI,(Kerb.service (oo a.service)).aC,a.aE,(Kerb.service (oo a.service)).name,(Kerb.service (oo a.service)).inst,a.box.take 900⟩
 else⟨a.U_,Kerb.user (oo a.user),0,[],[],[],[],a.box.take 900⟩
def ul(n:Int):Int:=Go.IntKind.wrap .u64 ((BitVec.ofInt (Go.IntKind.bits .u64) 72057594037927936 ||| BitVec.ofInt (Go.IntKind.bits .u64) (Go.IntKind.wrap .u64 (Go.IntKind.wrap .i64 (1+n)))).toNat:Int)
def Ask.lab(l0 l1 l2 l3:Bytes)(a:Ask):Bytes:=if a.label.toNat % 4=0 then l0 else if a.label.toNat % 4=1 then l1 else if a.label.toNat % 4=2 then l2 else l3
def Ask.KU(a:Ask):gE :=
 let l:=a.lab Aq oD gD nl
 let new:=if l=gD\/a.ex=10 then ul (oo a.key) else 0
 if l≠gD\/a.ex=9 then⟨l,a.time,a.start,a.stop,new⟩ else⟨l,a.time,0,0,new⟩
def Ask.answer(a:Ask):fW :=
 let l:=a.lab FJ vd nl Aq
 if l=nl/\a.ex≠8 then⟨l,a.time,0,0,0,0,cX,[]⟩
 else⟨l,a.time,af (oo a.key),a.start,a.stop,oo a.bI,Kerb.service (oo a.service),a.aE⟩
end Kerb
/- Chapter 22: what is written is read as it was. -/
namespace Kerb
open Go Go.Abs
theorem At.mM{b rest:Bytes}{pos n:Int}{li:Bool}(h:At b pos (aL n 1 li++rest))(h0:0<=n)(h1:n<=255):Kerb.get b pos 1 li=⟨n,pos+1,0⟩/\At b (pos+1) rest :=
 h.get (k:=1) (.inl rfl) h0 (by omega)
theorem At.G9{b rest:Bytes}{pos n:Int}{li:Bool}(h:At b pos (aL n 2 li++rest))(h0:0<=n)(h1:n<=65535):Kerb.get b pos 2 li=⟨n,pos+2,0⟩/\At b (pos+2) rest :=
 h.get (k:=2) (.inr (.inl rfl)) h0 (by omega)
theorem At.m6{b rest:Bytes}{pos n:Int}{li:Bool}(h:At b pos (aL n 4 li++rest))(h0:0<=n)(h1:n<=4294967295):Kerb.get b pos 4 li=⟨n,pos+4,0⟩/\At b (pos+4) rest :=
 h.get (k:=4) (.inr (.inr rfl)) h0 (by omega)
theorem ii{b:Bytes}{k pos n nx:Int}(h:get b pos k Zz=⟨n,nx,0⟩):su b k pos Zz=⟨n,nx,Zz⟩:=by unfold su;rw[h];rfl
theorem Cd{b s:Bytes}{pos nx:Int}(h:text b pos=⟨s,nx,0⟩):Cc b pos Zz=⟨s,nx,Zz⟩:=by unfold Cc;rw[h];rfl
theorem kg{b s:Bytes}{pos n nx:Int}(h:bytes b pos n=⟨s,nx,0⟩):iS b n pos Zz=⟨s,nx,Zz⟩:=by unfold iS;rw[h];rfl
theorem H8{b:Bytes}{p:ck}{pos nx:Int}(h:jG b pos=⟨p,nx,0⟩):zU b pos Zz=⟨p,nx,Zz⟩:=by unfold zU;rw[h];rfl
theorem Mf{b:Bytes}{k pos nx:Int}(h:bytes b pos 8=⟨keyBytes k,nx,0⟩)(h0:0<=k)(h1:k<18446744073709551616)(hv:bW k=Zb):Kw b pos Zz=⟨k,nx,Zz⟩:=by
 unfold Kw;rw[kg h];simp only[fL h0 h1 hv];rfl
theorem within_iff{n m:Int}:within n m=Zb↔0<=n/\n<=m:=by simp[within]
theorem HA{p:ck}:p.Hz=Zb↔p=cX:=by
 obtain⟨a,b,c⟩:=p;simp[ck.Hz,cX]
theorem BO{n:Int}:tc n=Zb↔n=1\/n=2\/n=3:=by simp[tc]
theorem P5:header 9 Zz=[4,18]:=by decide
theorem sY{r:eG}(h:(bF r).err=0) :
  (r.op=2/\fD r.aC=Zb/\validName r.service=Zb/\dg r.inst=Zb/\(0<=r.bI/\r.bI<=255)/\r.aE.length<=255/\r.box.length<=1012/\r.user=cX /\
   (bF r).val=header 9 Zz++(aL r.op 1 Zz++(aL r.bI 1 Zz++(r.aC++0::(aL r.aE.length 1 Zz++(r.aE++(r.service++0::(r.inst++0::(aL r.box.length 2 Zz++(r.box++[])))))))))) \/
  ((r.op=1\/r.op=3)/\r.user.valid=Zb/\r.box.length<=1012/\r.bI=0/\r.aC=[]/\r.aE=[]/\r.service=[]/\r.inst=[] /\
   (bF r).val=header 9 Zz++(aL r.op 1 Zz++(r.user.name++0::(r.user.inst++0::(r.user.aC++0::(aL r.box.length 2 Zz++(r.box++[]))))))):=by
 unfold bF at h ⊢;split at h
 ·cases h
 rename_i g0;rw[Qa0 g0];simp only[Zw,Zx,BO] at g0;split at h
 ·rename_i g1;rw[Qa1 g1];split at h
  ·cases h
  rename_i g2;rw[Qa0 g2];split at h
  ·cases h
  rename_i g3;rw[Qa0 g3];split at h
  ·cases h
  rename_i g4;rw[Qa0 g4];split at h
  ·cases h
  rename_i g5;rw[Qa0 g5];simp only[Zw,Zx,Zy,within_iff,HA] at g2 g3 g5;refine .inl ⟨by simpa using g1,g2.1.1,g2.1.2,g2.2,g3,by omega,by omega,g5,?_⟩;simp[gM,cT,tA,u_]
 ·rename_i g1;rw[Qa0 g1];split at h
  ·cases h
  rename_i g2;rw[Qa0 g2];split at h
  ·cases h
  rename_i g3;rw[Qa0 g3];split at h
  ·cases h
  rename_i g4;rw[Qa0 g4];simp only[Zw,Zx,Zy] at g2;simp only[ne_eq,not_or,Decidable.not_not] at g4;have g1':¬ r.op=2:=by simpa using g1
  refine .inr ⟨by omega,g2,by omega,g4.1,g4.2.1,g4.2.2.1,g4.2.2.2.1,g4.2.2.2.2,?_⟩;simp[gM,cT,dI,u_]
theorem Kg{r:eG}(h:(bF r).err=0):qh (bF r).val=(r,Zz):=by
 have hi:=sY h;generalize (bF r).val=b at hi;obtain⟨op,⟨un,ui,ur⟩,bI,aC,aE,service,inst,box⟩:=r;simp only at hi;rcases hi with⟨ho,v1,v2,v3,hk,ht,hb,hu,hv⟩ | ⟨ho,v1,hb,hk,hr,ht,hs,hn,hv⟩
 ·have a0:At b 2 _:=⟨header 9 Zz,hv,by decide⟩;obtain⟨e1,a1⟩:=a0.mM (by omega) (by omega);obtain⟨e2,a2⟩:=a1.mM hk.1 hk.2;obtain⟨e3,a3⟩:=a2.text (iL v1) (pj v1);obtain⟨e4,a4⟩:=a3.mM (by omega) (by omega);obtain⟨e5,a5⟩:=a4.bytes rfl;obtain⟨e6,a6⟩:=a5.text (jq v2) (qU v2);obtain⟨e7,a7⟩:=a6.text (io v3) (nH v3);obtain⟨e8,a8⟩:=a7.G9 (by omega) (by omega);obtain⟨e9,a9⟩:=a8.bytes rfl;unfold qh H9;simp only[ii e1,ii e2,Cd e3,ii e4,kg e5,Cd e6,Cd e7,ii e8,kg e9,ho,Qb2,Qa6];rw[hu]
 ·have a0:At b 2 _:=⟨header 9 Zz,hv,by decide⟩;obtain⟨e1,a1⟩:=a0.mM (by omega) (by omega);obtain⟨q,e2,a2⟩:=At.jG (p:=⟨un,ui,ur⟩) a1 v1;obtain⟨e8,a8⟩:=a2.G9 (by omega) (by omega);obtain⟨e9,a9⟩:=a8.bytes rfl;have h2:(op==2)=Zz:=by simp;omega
  unfold qh H9;simp only[ii e1,h2,Qa7,H8 e2,ii e8,kg e9];subst hk hr ht hs hn;rfl
theorem pH(r:eG):(bF r).val.length<=2000:=by
 by_cases h:(bF r).err=0
 ·rcases sY h with⟨ho,v1,v2,v3,hk,ht,hb,hu,hv⟩ | ⟨ho,v1,hb,hk,hr,ht,hs,hn,hv⟩
  ·have l1:=iL v1;have l2:=jq v2;have l3:=io v3;rw[hv,P5];simp[aw];omega
  ·have l1:=dN v1;rw[hv,P5];simp[aw];omega
 ·unfold bF at h ⊢;repeat' split
  all_goals first | simp | skip
  all_goals exfalso;simp_all
theorem sX{r:jI}(h:(cG r).err=0):(1<=r.op/\r.op<=3)/\(0<=r.code/\r.code<=99)/\r.box.length<=1012/\(cG r).val=header 9 Zz++(aL (r.op+128) 1 Zz++(aL r.code 1 Zz++(aL r.box.length 2 Zz++(r.box++[])))):=by
 unfold cG at h ⊢;split at h
 ·cases h
 rename_i g0;rw[Qa0 g0];simp only[Zw,Zx,BO] at g0;split at h
 ·cases h
 rename_i g1;rw[Qa0 g1];simp only[Zw,Zx,within_iff] at g1;split at h
 ·cases h
 rename_i g2;rw[Qa0 g2];split at h
 ·cases h
 rename_i g3;rw[Qa0 g3];exact⟨by omega,g1,by omega,by simp[gM,u_]⟩
theorem Kf{r:jI}(h:(cG r).err=0):vU (cG r).val=(r,Zz):=by
 obtain⟨ho,hc,hb,hv⟩:=sX h;generalize (cG r).val=b at hv;have a0:At b 2 _:=⟨header 9 Zz,hv,by decide⟩;obtain⟨e1,a1⟩:=a0.mM (by omega) (by omega);obtain⟨e2,a2⟩:=a1.mM (by omega) (by omega);obtain⟨e3,a3⟩:=a2.G9 (by omega) (by omega);obtain⟨e4,a4⟩:=a3.bytes rfl;unfold vU XV;simp only[ii e1,ii e2,ii e3,kg e4];rw[show r.op+128-128=r.op by omega]
theorem pG(r:jI):(cG r).val.length<=2000:=by
 by_cases h:(cG r).err=0
 ·obtain⟨ho,hc,hb,hv⟩:=sX h;rw[hv,P5];simp[aw];omega
 ·unfold cG at h ⊢;repeat' split
  all_goals first | simp | skip
  all_goals exfalso;simp_all
theorem rJ(b:Bytes):∃ z,pad b=b++z/\z.length<=7:=⟨_,rfl,by simp;omega⟩
theorem EP{l:Bytes}:py l=Zb↔l=Aq\/l=oD:=by simp[py]
theorem yB{l:Bytes}:gW l=Zb↔l=FJ\/l=vd:=by simp[gW]
theorem sZ{s:gE}(h:(bR s).err=0):(0<=s.time/\s.time<=4294967295) /\
    ((py s.label=Zb/\s.label.length=4/\(0<=s.start/\s.start<=4294967295)/\(0<=s.stop/\s.stop<=4294967295)/\s.new=0/\∃ z,(bR s).val=s.label++(aL s.time 4 Zz++(aL s.start 4 Zz++(aL s.stop 4 Zz++z)))/\z.length<=7) \/
     (s.label=gD/\bW s.new=Zb/\s.start=0/\s.stop=0/\∃ z,(bR s).val=s.label++(aL s.time 4 Zz++(keyBytes s.new++z))/\z.length<=7)):=by
  unfold bR at h ⊢;split at h
  · cases h
  rename_i g0;rw[Qa0 g0];split at h
  · cases h
  rename_i g1;rw[Qa0 g1];simp only[Zw,Zx,within_iff] at g1;refine⟨g1,?_⟩;split at h
  · rename_i g2
    rw[Qa1 g2];split at h
    · cases h
    rename_i g3;rw[Qa0 g3];split at h
    · cases h
    rename_i g4;rw[Qa0 g4];simp only[Zw,Zx,Zy,within_iff] at g3;obtain⟨z,hz,hl⟩:=rJ (s.label++aL s.time 4 Zz++aL s.start 4 Zz++aL s.stop 4 Zz);refine .inl ⟨g2,?_,g3.1,g3.2,Decidable.byContradiction g4,z,?_,hl⟩
    · rcases EP.1 g2 with e | e<;>rw[e]<;>rfl
    · show pad _=_
      rw[hz];simp
  · rename_i g2
    rw[Qa0 g2];split at h
    · cases h
    rename_i g3;rw[Qa0 g3];split at h
    · cases h
    rename_i g4;rw[Qa0 g4];obtain⟨z,hz,hl⟩:=rJ (s.label++aL s.time 4 Zz++keyBytes s.new);have g2':py s.label=Zz:=by simpa using g2
    refine .inr ⟨by simpa [g2'] using g0,by simpa using g3,by omega,by omega,z,?_,hl⟩;show pad _=_;rw[hz];simp
theorem Kh{s:gE}(h0:0<=s.new)(h1:s.new<18446744073709551616)(h:(bR s).err=0):mJ (bR s).val=(s,Zz):=by
 have hi:=sZ h;generalize (bR s).val=b at hi;obtain⟨label,time,start,stop,new⟩:=s;simp only at hi h0 h1;obtain⟨ht,⟨hl,Tp,hs,he,hn,z,hv,_⟩ | ⟨hl,hk,hs,he,z,hv,_⟩⟩:=hi
 ·have a0:At b 0 (label++_):=(At.start b).as hv;obtain⟨e1,a1⟩:=a0.bytes (n:=4) (by rw[Tp];rfl);obtain⟨e2,a2⟩:=a1.m6 ht.1 ht.2;obtain⟨e3,a3⟩:=a2.m6 hs.1 hs.2;obtain⟨e4,a4⟩:=a3.m6 he.1 he.2;unfold mJ N6;simp only[kg e1,ii e2,hl,Qa6,ii e3,ii e4];rw[hn]
 ·have a0:At b 0 (label++_):=(At.start b).as hv;obtain⟨e1,a1⟩:=a0.bytes (n:=4) (by rw[hl];rfl);obtain⟨e2,a2⟩:=a1.m6 ht.1 ht.2;obtain⟨e3,a3⟩:=a2.bytes (n:=8) (by rw[ay];rfl);have hnt:py label=Zz:=by rw[hl];decide
  unfold mJ N6;simp only[kg e1,ii e2,hnt,Qa7,Mf e3 h0 h1 hk];rw[hs,he]
theorem pI(s:gE):(bR s).val.length<=100:=by
 by_cases h:(bR s).err=0
 ·obtain⟨ht,⟨hl,Tp,hs,he,hn,z,hv,_⟩ | ⟨hl,hk,hs,he,z,hv,_⟩⟩:=sZ h
  ·rw[hv];simp[aw];omega
  ·rw[hv,hl];simp[aw,ay,gD];omega
 ·unfold bR at h ⊢;repeat' split
  all_goals first | simp | skip
  all_goals exfalso;simp_all
theorem sW{a:fW}(h:(cg a).err=0):(0<=a.time/\a.time<=4294967295) /\
    ((gW a.label=Zb/\a.label.length=4/\bW a.af=Zb/\(0<=a.start/\a.start<=4294967295)/\(0<=a.stop/\a.stop<=4294967295)/\(0<=a.bI/\a.bI<=255)/\a.service.valid=Zb/\a.aE.length<=255 /\
        (cg a).val=pad (a.label++(aL a.time 4 Zz++(keyBytes a.af++(aL a.start 4 Zz++(aL a.stop 4 Zz++(aL a.bI 1 Zz++(a.service.name++0::(a.service.inst++0::(a.service.aC++0::(aL a.aE.length 1 Zz++a.aE))))))))))) \/
     (a.label=nl/\a.af=0/\a.start=0/\a.stop=0/\a.bI=0/\a.service=cX/\a.aE=[]/\(cg a).val=pad (a.label++aL a.time 4 Zz))):=by
  unfold cg at h ⊢;split at h
  · cases h
  rename_i g0;rw[Qa0 g0];split at h
  · cases h
  rename_i g1;rw[Qa0 g1];simp only[Zw,Zx,within_iff] at g1;refine⟨g1,?_⟩;split at h
  · rename_i g2
    rw[Qa1 g2];split at h
    · cases h
    rename_i g3;rw[Qa0 g3];split at h
    · cases h
    rename_i g4;rw[Qa0 g4];split at h
    · cases h
    rename_i g5;rw[Qa0 g5];split at h
    · cases h
    rename_i g6;rw[Qa0 g6];simp only[Zw,Zx,Zy,within_iff] at g3 g4 g5;refine .inl ⟨g2,?_,g3,g4.1.1,g4.1.2,g4.2,g5,by omega,?_⟩
    · rcases yB.1 g2 with e | e<;>rw[e]<;>rfl
    · show pad _=pad _
      congr 1;simp[tA,dI,cT]
  · rename_i g2
    rw[Qa0 g2];split at h
    · cases h
    rename_i g3;rw[Qa0 g3];have g2':gW a.label=Zz:=by simpa using g2
    simp only[ne_eq,not_or,Decidable.not_not,Zx,HA] at g3;exact .inr ⟨by simpa [g2'] using g0,g3.1,g3.2.1,g3.2.2.1,g3.2.2.2.1,g3.2.2.2.2.1,g3.2.2.2.2.2,rfl⟩
theorem Ke{a:fW}(h0:0<=a.af)(h1:a.af<18446744073709551616)(h:(cg a).err=0):mH (cg a).val=(a,Zz):=by
 have hi:=sW h;generalize (cg a).val=b at hi;obtain⟨label,time,af,start,stop,bI,⟨sn,si,sr⟩,aE⟩:=a;simp only at hi h0 h1;obtain⟨ht,⟨hl,Tp,hk,hs,he,hv,hp,hx,hb⟩ | ⟨hl,hk,hs,he,hv,hp,hx,hb⟩⟩:=hi
 ·obtain⟨z,hz,_⟩:=rJ (label++(aL time 4 Zz++(keyBytes af++(aL start 4 Zz++(aL stop 4 Zz++(aL bI 1 Zz++(sn++0::(si++0::(sr++0::(aL aE.length 1 Zz++aE))))))))));have a0:At b 0 (label++(aL time 4 Zz++(keyBytes af++(aL start 4 Zz++(aL stop 4 Zz++(aL bI 1 Zz++(sn++0::(si++0::(sr++0::(aL aE.length 1 Zz++(aE++z))))))))))):=(At.start b).as (by rw[hb,hz];simp);obtain⟨e1,a1⟩:=a0.bytes (n:=4) (by rw[Tp];rfl);obtain⟨e2,a2⟩:=a1.m6 ht.1 ht.2;obtain⟨e3,a3⟩:=a2.bytes (n:=8) (by rw[ay];rfl);obtain⟨e4,a4⟩:=a3.m6 hs.1 hs.2;obtain⟨e5,a5⟩:=a4.m6 he.1 he.2;obtain⟨e6,a6⟩:=a5.mM hv.1 hv.2;obtain⟨q,e7,a7⟩:=At.jG (p:=⟨sn,si,sr⟩) a6 hp;obtain⟨e8,a8⟩:=a7.mM (by omega) (by omega);obtain⟨e9,a9⟩:=a8.bytes rfl;unfold mH H7;simp only[kg e1,ii e2,hl,Qa6,Mf e3 h0 h1 hk,ii e4,ii e5,ii e6,H8 e7,ii e8,kg e9]
 ·obtain⟨z,hz,_⟩:=rJ (label++aL time 4 Zz);have a0:At b 0 (label++(aL time 4 Zz++z)):=(At.start b).as (by rw[hb,hz];simp);obtain⟨e1,a1⟩:=a0.bytes (n:=4) (by rw[hl];rfl);obtain⟨e2,a2⟩:=a1.m6 ht.1 ht.2;have hnt:gW label=Zz:=by rw[hl];decide
  unfold mH H7;simp only[kg e1,ii e2,hnt,Qa7];rw[hk,hs,he,hv,hp,hx]
theorem pF(a:fW):(cg a).val.length<=408:=by
 by_cases h:(cg a).err=0
 ·obtain⟨ht,⟨hl,Tp,hk,hs,he,hv,hp,hx,hb⟩ | ⟨hl,hk,hs,he,hv,hp,hx,hb⟩⟩:=sW h
  ·have l1:=dN hp;rw[hb,rz];simp[aw,ay];omega
  ·rw[hb,rz,hl];simp[aw,nl]
 ·unfold cg at h ⊢;repeat' split
  all_goals first | simp | skip
  all_goals exfalso;simp_all
theorem qL(b:Bytes)(n pos:Int)(bad:Bool):(iS b n pos bad).val.length<=b.length:=by
 unfold iS;cases bad || !((bytes b pos n).err==0)
 ·exact iW b pos n
 ·exact Nat.zero_le _
theorem gZ{α:Type}{no:α}{enc:α->rK}{rd:Bytes->α×Bool}{b:Bytes}(R:α)(bad:Bool)(h:rd b=(R,bad)){β:Type}(f:α->Int->β) :
  aP bad (some (f no 100)) (aP (!((enc R).err==0)) (some (f no 100)) (aP (!((enc R).val==b)) (some (f no 100)) (some (f R 0))))=some (f (eJ no enc rd b).val (eJ no enc rd b).err):=by
 unfold eJ;rw[h];cases bad;case true=>rw[Qa1 (.inl rfl)];rfl
 rw[aR];by_cases h1:(enc R).err=0
 ·rw[aq (by simp[h1])];by_cases h2:(enc R).val=b
  ·rw[aq (by simp[h2]),Qa0 (by simp[h1,h2])]
  ·rw[ah (by simpa using h2),Qa1 (.inr (.inr h2))]
 ·rw[ah (by simpa using h1),Qa1 (.inr (.inl h1))]
theorem J1(b:Bytes)(pos k:Int)(li:Bool)(hk:k<=4):0<=(get b pos k li).val/\(get b pos k li).val<4294967296:=by
 unfold get;split
 ·rename_i h;have:=kV h;exact MO (by cases li<;>simp[this]<;>omega)
 ·simp
theorem N7(b:Bytes)(pos:Int)(bad:Bool):(Cc b pos bad).val.length<=40:=by
 unfold Cc;cases bad || !((text b pos).err==0)
 ·exact bE b pos
 ·exact Nat.zero_le _
theorem N5(b:Bytes)(pos:Int)(bad:Bool):(zU b pos bad).val.name.length<=40/\(zU b pos bad).val.inst.length<=40/\(zU b pos bad).val.aC.length<=40:=by
 unfold zU;cases bad || !((jG b pos).err==0)
 ·exact o7 b pos
 ·exact⟨Nat.zero_le _,Nat.zero_le _,Nat.zero_le _⟩
theorem AU(b:Bytes)(pos:Int)(bad:Bool):0<=(Kw b pos bad).val/\(Kw b pos bad).val<18446744073709551616:=by
 unfold Kw;simp only;cases (cR (iS b 8 pos bad).val).2
 ·simp
 ·exact dW _
theorem ME(x:UInt8)(k:Nat)(hk:0<k):Zk (Int.tmod (x.toNat:Int) (k:Int))=x.toNat % k:=by
 rw[Int.tmod_eq_emod_of_nonneg (by omega)];omega
theorem x7(n:Int):0<=ul n/\ul n<18446744073709551616:=by
 unfold ul;rw[wrap_u64];omega
end Kerb
/- Chapter 22: what the reader of the reference reads. -/
namespace Kerb
open Go Go.Abs
def Od(b:Bytes):Rd eG :=
  let o:=dJ b 1 Zz 2 Zz
  cond (o.val==1||o.val==3)
    (let u:=dL b o.pos o.bad
     let m:=dJ b 2 Zz u.pos u.bad
     let x:=dz b m.val m.pos m.bad
     ⟨⟨o.val,u.p,0,[],[],[],[],x.val⟩,x.pos,x.bad⟩)
    (let k:=dJ b 1 Zz o.pos o.bad
     let r:=nD b k.pos k.bad
     let n:=dJ b 1 Zz r.pos r.bad
     let t:=dz b n.val n.pos n.bad
     let s:=nD b t.pos t.bad
     let i:=nD b s.pos s.bad
     let m:=dJ b 2 Zz i.pos i.bad
     let x:=dz b m.val m.pos m.bad
     ⟨⟨o.val,cX,k.val,r.val,t.val,s.val,i.val,x.val⟩,x.pos,x.bad⟩)
def pY(b:Bytes):eG×Bool:=((Od b).val,(Od b).bad)
def X1(b:Bytes):Rd jI :=
 let o:=dJ b 1 Zz 2 Zz
 let c:=dJ b 1 Zz o.pos o.bad
 let m:=dJ b 2 Zz c.pos c.bad
 let x:=dz b m.val m.pos m.bad
 ⟨⟨o.val-128,c.val,x.val⟩,x.pos,x.bad⟩
def yk(b:Bytes):jI×Bool:=((X1 b).val,(X1 b).bad)
def Kz(b:Bytes):Rd gE :=
  let l:=dz b 4 0 Zz
  let t:=dJ b 4 Zz l.pos l.bad
  cond (l.val==gD)
    (let k:=dz b 8 t.pos t.bad
     ⟨⟨l.val,t.val,0,0,(cR k.val).1⟩,k.pos,k.bad⟩)
    (let s:=dJ b 4 Zz t.pos t.bad
     let e:=dJ b 4 Zz s.pos s.bad
     ⟨⟨l.val,t.val,s.val,e.val,0⟩,e.pos,e.bad⟩)
def nC(b:Bytes):gE×Bool:=((Kz b).val,(Kz b).bad)
def Ky(b:Bytes):Rd fW :=
  let l:=dz b 4 0 Zz
  let t:=dJ b 4 Zz l.pos l.bad
  cond (l.val==nl)
    ⟨⟨l.val,t.val,0,0,0,0,cX,[]⟩,t.pos,t.bad⟩
    (let k:=dz b 8 t.pos t.bad
     let s:=dJ b 4 Zz k.pos k.bad
     let e:=dJ b 4 Zz s.pos s.bad
     let v:=dJ b 1 Zz e.pos e.bad
     let p:=dL b v.pos v.bad
     let n:=dJ b 1 Zz p.pos p.bad
     let x:=dz b n.val n.pos n.bad
     ⟨⟨l.val,t.val,(cR k.val).1,s.val,e.val,v.val,p.p,x.val⟩,x.pos,x.bad⟩)
def nB(b:Bytes):fW×Bool:=((Ky b).val,(Ky b).bad)
theorem Oe{r:eG}(h:(bF r).err=0):pY (bF r).val=(r,Zz):=by
 have hi:=sY h;generalize (bF r).val=b at hi;obtain⟨op,⟨un,ui,ur⟩,bI,aC,aE,service,inst,box⟩:=r;simp only at hi;rcases hi with⟨ho,v1,v2,v3,hk,ht,hb,hu,hv⟩ | ⟨ho,v1,hb,hk,hr,ht,hs,hn,hv⟩
 ·have a0:At b 2 _:=⟨header 9 Zz,hv,by decide⟩;obtain⟨e1,a1⟩:=a0.mM (by omega) (by omega);obtain⟨e2,a2⟩:=a1.mM hk.1 hk.2;obtain⟨e3,a3⟩:=a2.text (iL v1) (pj v1);obtain⟨e4,a4⟩:=a3.mM (by omega) (by omega);obtain⟨e5,a5⟩:=a4.bytes rfl;obtain⟨e6,a6⟩:=a5.text (jq v2) (qU v2);obtain⟨e7,a7⟩:=a6.text (io v3) (nH v3);obtain⟨e8,a8⟩:=a7.G9 (by omega) (by omega);obtain⟨e9,a9⟩:=a8.bytes rfl;have h2:(op==1||op==3)=Zz:=by simp;omega
  unfold pY Od;simp only[cJ e1,h2,Qa7,cJ e2,sC e3,cJ e4,eB e5,sC e6,sC e7,cJ e8,eB e9];rw[hu]
 ·have a0:At b 2 _:=⟨header 9 Zz,hv,by decide⟩;obtain⟨e1,a1⟩:=a0.mM (by omega) (by omega);obtain⟨q,e2,a2⟩:=At.jG (p:=⟨un,ui,ur⟩) a1 v1;obtain⟨e8,a8⟩:=a2.G9 (by omega) (by omega);obtain⟨e9,a9⟩:=a8.bytes rfl;have h2:(op==1||op==3)=Zb:=by simp;omega
  unfold pY Od;simp only[cJ e1,h2,Qa6,lC e2,cJ e8,eB e9];subst hk hr ht hs hn;rfl
theorem Oc{r:jI}(h:(cG r).err=0):yk (cG r).val=(r,Zz):=by
 obtain⟨ho,hc,hb,hv⟩:=sX h;generalize (cG r).val=b at hv;have a0:At b 2 _:=⟨header 9 Zz,hv,by decide⟩;obtain⟨e1,a1⟩:=a0.mM (by omega) (by omega);obtain⟨e2,a2⟩:=a1.mM (by omega) (by omega);obtain⟨e3,a3⟩:=a2.G9 (by omega) (by omega);obtain⟨e4,a4⟩:=a3.bytes rfl;unfold yk X1;simp only[cJ e1,cJ e2,cJ e3,eB e4];rw[show r.op+128-128=r.op by omega]
theorem Og{s:gE}(h0:0<=s.new)(h1:s.new<18446744073709551616)(h:(bR s).err=0):nC (bR s).val=(s,Zz):=by
 have hi:=sZ h;generalize (bR s).val=b at hi;obtain⟨label,time,start,stop,new⟩:=s;simp only at hi h0 h1;obtain⟨ht,⟨hl,Tp,hs,he,hn,z,hv,_⟩ | ⟨hl,hk,hs,he,z,hv,_⟩⟩:=hi
 ·have a0:At b 0 (label++_):=(At.start b).as hv;obtain⟨e1,a1⟩:=a0.bytes (n:=4) (by rw[Tp];rfl);obtain⟨e2,a2⟩:=a1.m6 ht.1 ht.2;obtain⟨e3,a3⟩:=a2.m6 hs.1 hs.2;obtain⟨e4,a4⟩:=a3.m6 he.1 he.2;have uj:(label==gD)=Zz:=by
   rcases EP.1 hl with e | e<;>rw[e]<;>decide
  unfold nC Kz;simp only[eB e1,cJ e2,uj,Qa7,cJ e3,cJ e4];rw[hn]
 ·have a0:At b 0 (label++_):=(At.start b).as hv;obtain⟨e1,a1⟩:=a0.bytes (n:=4) (by rw[hl];rfl);obtain⟨e2,a2⟩:=a1.m6 ht.1 ht.2;obtain⟨e3,a3⟩:=a2.bytes (n:=8) (by rw[ay];rfl);have uj:(label==gD)=Zb:=by rw[hl];decide
  unfold nC Kz;simp only[eB e1,cJ e2,uj,Qa6,eB e3,fL h0 h1 hk];rw[hs,he]
theorem Ob{a:fW}(h0:0<=a.af)(h1:a.af<18446744073709551616)(h:(cg a).err=0):nB (cg a).val=(a,Zz):=by
 have hi:=sW h;generalize (cg a).val=b at hi;obtain⟨label,time,af,start,stop,bI,⟨sn,si,sr⟩,aE⟩:=a;simp only at hi h0 h1;obtain⟨ht,⟨hl,Tp,hk,hs,he,hv,hp,hx,hb⟩ | ⟨hl,hk,hs,he,hv,hp,hx,hb⟩⟩:=hi
 ·obtain⟨z,hz,_⟩:=rJ (label++(aL time 4 Zz++(keyBytes af++(aL start 4 Zz++(aL stop 4 Zz++(aL bI 1 Zz++(sn++0::(si++0::(sr++0::(aL aE.length 1 Zz++aE))))))))));have a0:At b 0 (label++(aL time 4 Zz++(keyBytes af++(aL start 4 Zz++(aL stop 4 Zz++(aL bI 1 Zz++(sn++0::(si++0::(sr++0::(aL aE.length 1 Zz++(aE++z))))))))))):=(At.start b).as (by rw[hb,hz];simp);obtain⟨e1,a1⟩:=a0.bytes (n:=4) (by rw[Tp];rfl);obtain⟨e2,a2⟩:=a1.m6 ht.1 ht.2;obtain⟨e3,a3⟩:=a2.bytes (n:=8) (by rw[ay];rfl);obtain⟨e4,a4⟩:=a3.m6 hs.1 hs.2;obtain⟨e5,a5⟩:=a4.m6 he.1 he.2;obtain⟨e6,a6⟩:=a5.mM hv.1 hv.2;obtain⟨q,e7,a7⟩:=At.jG (p:=⟨sn,si,sr⟩) a6 hp;obtain⟨e8,a8⟩:=a7.mM (by omega) (by omega);obtain⟨e9,a9⟩:=a8.bytes rfl;have UJ:(label==nl)=Zz:=by
   rcases yB.1 hl with e | e<;>rw[e]<;>decide
  unfold nB Ky;simp only[eB e1,cJ e2,UJ,Qa7,eB e3,fL h0 h1 hk,cJ e4,cJ e5,cJ e6,lC e7,cJ e8,eB e9]
 ·obtain⟨z,hz,_⟩:=rJ (label++aL time 4 Zz);have a0:At b 0 (label++(aL time 4 Zz++z)):=(At.start b).as (by rw[hb,hz];simp);obtain⟨e1,a1⟩:=a0.bytes (n:=4) (by rw[hl];rfl);obtain⟨e2,a2⟩:=a1.m6 ht.1 ht.2;have UJ:(label==nl)=Zb:=by rw[hl];decide
  unfold nB Ky;simp only[eB e1,cJ e2,UJ,Qa6];rw[hk,hs,he,hv,hp,hx]
theorem JW(b:Bytes):eJ pR bF qh b=eJ pR bF pY b :=
 iD (P:=fun _=>True) (fun _ _ h=>Kg h) (fun _ _ h=>Oe h) (fun _=>trivial) (fun _=>trivial) b
theorem JV(b:Bytes):eJ qe cG vU b=eJ qe cG yk b :=
 iD (P:=fun _=>True) (fun _ _ h=>Kf h) (fun _ _ h=>Oc h) (fun _=>trivial) (fun _=>trivial) b
theorem F9(b:Bytes):0<=(mJ b).1.new/\(mJ b).1.new<18446744073709551616:=by
 unfold mJ N6;dsimp only;cases py (iS b 4 0 Zz).val
 ·exact AU _ _ _
 ·simp
theorem KK(b:Bytes):0<=(nC b).1.new/\(nC b).1.new<18446744073709551616:=by
 unfold nC Kz;dsimp only;cases (dz b 4 0 Zz).val==gD
 ·simp
 ·exact dW _
theorem JX(b:Bytes):eF b=eJ tt bR nC b :=
 iD (P:=fun s=>0<=s.new/\s.new<18446744073709551616) (fun _ p h=>Kh p.1 p.2 h) (fun _ p h=>Og p.1 p.2 h) F9 KK b
theorem F8(b:Bytes):0<=(mH b).1.af/\(mH b).1.af<18446744073709551616:=by
 unfold mH H7;dsimp only;cases gW (iS b 4 0 Zz).val
 ·simp
 ·exact AU _ _ _
theorem KG(b:Bytes):0<=(nB b).1.af/\(nB b).1.af<18446744073709551616:=by
 unfold nB Ky;dsimp only;cases (dz b 4 0 Zz).val==nl
 ·exact dW _
 ·simp
theorem JU(b:Bytes):cf b=eJ tp cg nB b :=
 iD (P:=fun s=>0<=s.af/\s.af<18446744073709551616) (fun _ p h=>Ke p.1 p.2 h) (fun _ p h=>Ob p.1 p.2 h) F8 KG b
end Kerb
/- Chapters 2, 4, 7, 10, 15 and 20, in plain words: lifetimes, boxes, authenticators, requests, caches, clients. -/
namespace Kerb
open Go Go.Abs
def ck.s6(p q:ck):Bool:=p.name==q.name&&(p.inst==q.inst&&p.aC==q.aC)
def YW(aC target:Bytes):ck:=⟨[107,114,98,116,103,116],target,aC⟩
def T9(cH bZ:Int):Int:=if within cH 4294967295&&within bZ 255 then cH+300*(bZ+1) else 0
def Ds(a b fJ:Int):Bool:=within a 4294967295&&within b 4294967295&&within fJ 4294967295&&decide (a-b<=fJ)&&decide (b-a<=fJ)
def je(kind k:Int)(body:Bytes):rK :=
 if !isKind kind then⟨[],104⟩ else if !bW k then⟨[],10⟩ else if 1000<body.length then⟨[],105⟩
 else⟨[66,Zj kind.toNat]++keyBytes k++aL body.length 2 Zz++body,0⟩
structure Y3 where
 kind:Int
 key:Int
 body:Bytes
structure VM where
 box:Y3
 n:Int
 err:Int
def vh:Y3:=⟨0,0,[]⟩
def kr(b:Bytes):Nat:=(b.getD 10 0).toNat*256+(b.getD 11 0).toNat
def bj(b:Bytes):VM :=
 if b.length<12 then⟨vh,0,101⟩
 else if b.getD 0 0≠66\/isKind ((b.getD 1 0).toNat:Int)=Zz\/(cR (cut b 2 8)).2=Zz\/1000<kr b then⟨vh,0,100⟩
 else if b.length<12+kr b then⟨vh,0,101⟩
 else⟨⟨((b.getD 1 0).toNat:Int),(cR (cut b 2 8)).1,cut b 12 (kr b)⟩,((12+kr b:Nat):Int),0⟩
def jS(b:Bytes)(kind k:Int):Bytes×Bool :=
 if (bj b).err≠0\/(bj b).n≠b.length\/(bj b).box.kind≠kind\/(bj b).box.key≠k then([],Zz) else((bj b).box.body,Zb)
structure qk where
 client:ck
 c9:Int
 tick:Int
 time:Int
def qk.check(a:qk):Int :=
 if !a.client.valid then 103 else if !(within a.c9 4294967295&&within a.tick 199&&within a.time 4294967295) then 104 else 0
def eM(a:qk)(little:Bool):rK :=
 if a.check≠0 then⟨[],a.check⟩
 else⟨pad (dI (aL (cond little 1 0) 1 Zz) a.client++aL a.c9 4 little++aL a.tick 1 Zz++aL a.time 4 little),0⟩
def jD(a:qk)(little:Bool)(k:Int):rK :=
 if (eM a little).err≠0 then⟨[],(eM a little).err⟩ else je 2 k (eM a little).val
structure df where
 little:Bool
 dx:Bool
 bI:Int
 aC:Bytes
 aE:Bytes
 eS:Bytes
def bD(r:df):rK :=
 if !fD r.aC then⟨[],103⟩
 else if !within r.bI 255 then⟨[],104⟩
 else if 255<r.aE.length\/255<r.eS.length then⟨[],105⟩
 else⟨cT (header (cond r.dx 4 3) r.little++aL r.bI 1 Zz) r.aC++aL r.aE.length 1 Zz++aL r.eS.length 1 Zz++r.aE++r.eS,0⟩
structure fy where
 ap:df
 time:Int
 bZ:Int
 service:Bytes
 inst:Bytes
def dV(r:fy):rK :=
 if r.ap.dx then⟨[],100⟩
 else if (bD r.ap).err≠0 then⟨[],(bD r.ap).err⟩
 else if !(validName r.service&&dg r.inst) then⟨[],103⟩
 else if !(within r.time 4294967295&&within r.bZ 255) then⟨[],104⟩
 else⟨cT (cT ((bD r.ap).val++aL r.time 4 r.ap.little++aL r.bZ 1 Zz) r.service) r.inst,0⟩
structure h_ where
 service:ck
 af:Int
 bZ:Int
 bI:Int
 cH:Int
 aE:Bytes
def h_.av(c:h_):AV := .agg [.str c.service.name,.str c.service.inst,.str c.service.aC,.int .u64 c.af,.int .i64 c.bZ,.int .i64 c.bI,.int .i64 c.cH,.bs c.aE]
def n8:h_:=⟨cX,0,0,0,0,[]⟩
def h_.ok(c:h_):Prop:=c.service.name.length<=9223372036854775807/\c.service.inst.length<=9223372036854775807/\c.service.aC.length<=9223372036854775807/\0<=c.af/\c.af<18446744073709551616/\c.aE.length<=9223372036854775807
def LA(c:h_):Int :=
 if !c.service.valid then 103 else if !bW c.af then 10
 else if !(within c.bZ 255&&within c.bI 255&&within c.cH 4294967295) then 104
 else if 255<c.aE.length then 105 else 0
def GW:List h_->List h_->Int
 | _,[]=>0
 | seen,c::r=>if LA c≠0 then LA c else if seen.any (fun d=>d.service.s6 c.service) then 107 else GW (seen++[c]) r
structure Cache where
 owner:ck
 qx:List h_
def AO:Cache:=⟨cX,[]⟩
def Cache.err(c:Cache):Int:=if !c.owner.valid then 103 else if 20<c.qx.length then 106 else GW [] c.qx
def JR(l:List h_)(s:ck):Nat:=l.findIdx fun d=>d.service.s6 s
def m7(l:List h_)(s:ck):h_×Bool:=if JR l s<l.length then(l.getD (JR l s) n8,Zb) else(n8,Zz)
def h_.expired(c:h_)(now:Int):Bool:=decide (T9 c.cH c.bZ<now)
def oV(l:List h_)(s:ck)(now:Int):Gu h_ :=
 if (m7 l s).2=Zz then⟨n8,76⟩ else if (m7 l s).1.expired now then⟨n8,26⟩ else⟨(m7 l s).1,0⟩
def zy(c:Cache)(x:h_):Gu Cache :=
 if c.err≠0 then⟨AO,c.err⟩
 else if Cache.err ⟨c.owner,[x]⟩≠0 then⟨AO,Cache.err ⟨c.owner,[x]⟩⟩
 else if 20<=(c.qx.filter fun d => !d.service.s6 x.service).length then⟨AO,106⟩
 else⟨⟨c.owner,(c.qx.filter fun d => !d.service.s6 x.service)++[x]⟩,0⟩
structure Client where
 me:ck
 address:Int
 fJ:Int
 little:Bool
 cache:Cache
 wait:Int
 wanted:ck
 af:Int
 time:Int
 bZ:Int
 c9:Int
 tick:Int
def Cache.av(c:Cache):AV := .agg [.str c.owner.name,.str c.owner.inst,.str c.owner.aC,.sl 8 (c.qx.map h_.av)]
def Client.av(c:Client):AV := .agg [.str c.me.name,.str c.me.inst,.str c.me.aC,.int .i64 c.address,.int .i64 c.fJ,.bool c.little,.str c.cache.owner.name,.str c.cache.owner.inst,.str c.cache.owner.aC,.sl 8 (c.cache.qx.map h_.av),.int .i64 c.wait,.str c.wanted.name,.str c.wanted.inst,.str c.wanted.aC,.int .u64 c.af,.int .i64 c.time,.int .i64 c.bZ,.int .i64 c.c9,.int .i64 c.tick]
def QR:Client:=⟨cX,0,0,false,AO,0,cX,0,0,0,0,0⟩
def Client.idle(c:Client):Client:=⟨c.me,c.address,c.fJ,c.little,c.cache,0,cX,0,0,0,0,0⟩
def Client.err(c:Client):Int :=
 if !c.me.valid then 103
 else if !(within c.address 4294967295&&within c.fJ 4294967295) then 104
 else if !(decide (0<=c.wait)&&decide (c.wait<=3)) then 104
 else if c.cache.err≠0 then c.cache.err
 else if !c.cache.owner.s6 c.me then 103 else 0
def pN(me service:ck):ck:=YW me.aC service.aC
structure aiK where
 c:Client
 msg:Bytes
 err:Int
structure ZD where
 val:df
 err:Int
def tn:df:=⟨false,false,0,[],[],[]⟩
def Pf(c:Client)(x:h_)(XL:Bool)(a:qk):ZD :=
 if (jD a c.little x.af).err≠0 then⟨tn,(jD a c.little x.af).err⟩
 else⟨⟨c.little,XL,x.bI,x.service.aC,x.aE,(jD a c.little x.af).val⟩,0⟩
structure VP where
 c:Client
 msg:Bytes
 MZ:h_
 eS:Bytes
 err:Int
def zf(e:Int):VP:=⟨QR,[],n8,[],e⟩
def AW(c:Client)(s:ck)(XL:Bool)(c9 now tick:Int):VP :=
 if c.err≠0 then zf 108
 else if !s.valid then zf 103
 else if !(within now 4294967295&&within tick 199&&within c9 4294967295) then zf 104
 else
  let x:=oV c.cache.qx s now
  if x.err≠0 then zf x.err else
  let r:=Pf c x.val XL ⟨c.me,c9,tick,now⟩
  if r.err≠0 then zf r.err else
  let m:=bD r.val
  if m.err≠0 then zf m.err else
  ⟨cond XL { c.idle with wait:=3,wanted:=s,af:=x.val.af,time:=now,c9:=c9,tick:=tick } c,m.val,x.val,r.val.eS,0⟩
def h_.same(a b:h_):Bool:=a.service.s6 b.service&&a.af==b.af&&a.bZ==b.bZ&&a.bI==b.bI&&a.cH==b.cH&&a.aE==b.aE
def Ey:List h_->List h_->Bool
 | [],[]=>Zb
 | a::r,b::q=>a.same b&&Ey r q
 | _,_=>Zz
def Cache.same(a b:Cache):Bool:=a.owner.s6 b.owner&&Ey a.qx b.qx
def Client.same(a b:Client):Bool:=a.me.s6 b.me&&a.address==b.address&&a.fJ==b.fJ&&a.little==b.little&&a.cache.same b.cache&&a.wait==b.wait&&a.wanted.s6 b.wanted&&a.af==b.af&&a.time==b.time&&a.bZ==b.bZ&&a.c9==b.c9&&a.tick==b.tick
theorem G_{l:List h_}{s:ck}(h:(m7 l s).2=Zb):(m7 l s).1∈l:=by
 unfold m7 at h ⊢;split at h
 ·rename_i g;rw[Qa1 g];simp[Zu,g]
 ·cases h
theorem mX(r:df):(bD r).val.length<=1000:=by
 unfold bD;split
 ·simp
 rename_i h1;split
 ·simp
 split
 ·simp
 rename_i h3;have l1:=iL (s:=r.aC) (by simpa using h1);have g:=bu (cond r.dx 4 3) r.little;simp[c7,aw];omega
theorem Eh:n8.ok:=by simp[h_.ok,n8,cX]
theorem TE{cs:List h_}(h:∀ c∈cs,c.ok)(s:ck)(now:Int):(oV cs s now).val.ok:=by
 unfold oV;split
 ·exact Eh
 rename_i h1;split
 ·exact Eh
 exact h _ (G_ (by simpa using h1))
def Client.mN(c:Client):Prop :=
 (c.me.name.length<=9223372036854775807/\c.me.inst.length<=9223372036854775807/\c.me.aC.length<=9223372036854775807) /\
 (c.cache.owner.name.length<=9223372036854775807/\c.cache.owner.inst.length<=9223372036854775807/\c.cache.owner.aC.length<=9223372036854775807) /\
 (∀ x∈c.cache.qx,x.ok)/\c.cache.qx.length<=1000000
theorem ck.G4(p:ck):p.s6 p=Zb:=by simp[ck.s6]
end Kerb
/- Clients: what the statements of chapter 20 lean on. -/
namespace Kerb
open Go Go.Abs
end Kerb
/- Chapter 20: what a client makes of replies and answers. -/
namespace Kerb
open Go Go.Abs
structure Rcv where
 c:Client
 MZ:h_
 err:Int
def F'(c:Client)(k:Int):Int:=if c.wait=2 then(m7 c.cache.qx (pN c.me c.wanted)).1.af else k
def tM(c:Client)(k:Int)(msg:Bytes):Lh :=
 if (bJ msg).err≠0 then⟨rH,(bJ msg).err⟩
 else if !(bJ msg).val.client.s6 c.me || !((bJ msg).val.time==c.time) then⟨rH,63⟩
 else if c.wait=2/\(m7 c.cache.qx (pN c.me c.wanted)).2=Zz then⟨rH,76⟩
 else if (jS (bJ msg).val.cQ 3 (F' c k)).2=Zz then⟨rH,62⟩
 else if (bU (jS (bJ msg).val.cQ 3 (F' c k)).1 (bJ msg).val.little).err≠0 \/
   (bU (jS (bJ msg).val.cQ 3 (F' c k)).1 (bJ msg).val.little).val.service.s6 c.wanted=Zz then⟨rH,63⟩
 else⟨(bU (jS (bJ msg).val.cQ 3 (F' c k)).1 (bJ msg).val.little).val,0⟩
def vl(p:fY):h_:=⟨p.service,p.af,p.bZ,p.bI,p.time,p.aE⟩
def ael(c:Client)(k:Int)(msg:Bytes)(now:Int):Rcv :=
 if c.err≠0\/(c.wait≠1/\c.wait≠2) then⟨c,n8,108⟩
 else if (uM msg).err=0 then
  if (uM msg).val.client.s6 c.me=Zz then⟨c,n8,63⟩ else⟨c.idle,n8,(uM msg).val.code⟩
 else if (tM c k msg).err≠0 then⟨c,n8,(tM c k msg).err⟩
 else if Ds (tM c k msg).val.time now c.fJ=Zz then⟨c,n8,37⟩
 else if (zy c.cache (vl (tM c k msg).val)).err≠0 then⟨c,n8,(zy c.cache (vl (tM c k msg).val)).err⟩
 else⟨{ c.idle with cache:=(zy c.cache (vl (tM c k msg).val)).val },vl (tM c k msg).val,0⟩
def M1(client service:ck)(af nF:Int)(little:Bool)(time now bZ:Int):Bytes :=
 (bK ⟨little,client,time,0,0,(je 3 nF (bO ⟨af,service,bZ,2,[1,2,3],now⟩ little).val).val⟩).val
structure Jw where
 kind:UInt8
 client:UInt8
 service:UInt8
 time:UInt8
 now:UInt8
 little:Bool
 nF:UInt8
 how:Int
def Jw.av(x:Jw):AV := .agg [.u8 x.kind,.u8 x.client,.u8 x.service,.u8 x.time,.u8 x.now,.bool x.little,.u8 x.nF,.int .u16 x.how]
structure O4 where
 c9:Int
 tick:Int
 time:Int
def jL(m:O4)(little:Bool):rK :=
 if !(within m.c9 4294967295&&within m.tick 199&&within m.time 4294967295) then⟨[],104⟩
 else⟨pad (aL (cond little 1 0) 1 Zz++aL m.c9 4 little++aL m.tick 1 Zz++aL m.time 4 little),0⟩
theorem PE(b:Bytes):List.drop (Zk 2) (List.take (Zk 10) b)=cut b 2 8:=by
 show List.drop 2 (List.take 10 b)=List.take 8 (List.drop 2 b);rw[List.drop_take]
theorem PD(b:Bytes)(n:Nat):List.drop (Zk 12) (List.take (Zk (12+(n:Int))) b)=cut b 12 n:=by
 have e:Zk (12+(n:Int))=12+n:=by omega
 rw[e];show List.drop 12 (List.take (12+n) b)=List.take n (List.drop 12 b);rw[List.drop_take];congr 1;omega
theorem AD(b:Bytes)(p n:Int):(cut b p n).length<=b.length:=by unfold cut;simp;omega
theorem Mn(x y:UInt8):Zf .i64 (↑(BitVec.toNat (BitVec.ofInt (Zv .i64) (Zf .i64 (Zf .i64 (↑x.toNat:Int)*(2:Int) ^ min (Zk (8:Int)) (Zv .i64))) ||| BitVec.ofInt (Zv .i64) (Zf .i64 (↑y.toNat:Int)))):Int)=((x.toNat*256+y.toNat:Nat):Int):=by
 have hx:=x.toNat_lt;have hy:=y.toNat_lt;have e1:(2:Int) ^ min (Zk (8:Int)) (Zv .i64)=256:=by decide
 rw[e1,wrap_i64 (n:=(x.toNat:Int)) (by omega) (by omega),wrap_i64 (n:=(y.toNat:Int)) (by omega) (by omega),wrap_i64 (n:=(x.toNat:Int)*256) (by omega) (by omega)];have e2:BitVec.toNat (BitVec.ofInt (Zv .i64) ((x.toNat:Int)*256) ||| BitVec.ofInt (Zv .i64) (y.toNat:Int))=x.toNat*256+y.toNat:=by
  rw[BitVec.toNat_or];have f1:(BitVec.ofInt (Zv .i64) ((x.toNat:Int)*256)).toNat=2 ^ 8*x.toNat:=by
   rw[BitVec.toNat_ofInt];show(((x.toNat:Int)*256) % ((2 ^ 64:Nat):Int)).toNat=_;rw[Int.emod_eq_of_lt (by omega) (by omega)];omega
  have f2:(BitVec.ofInt (Zv .i64) (y.toNat:Int)).toNat=y.toNat:=by
   rw[BitVec.toNat_ofInt];show((y.toNat:Int) % ((2 ^ 64:Nat):Int)).toNat=_;rw[Int.emod_eq_of_lt (by omega) (by omega)];omega
  rw[f1,f2,<-Zd (by omega)];omega
 rw[e2,wrap_i64 (by omega) (by omega)]
theorem EW(x:UInt8):Zf .i64 (↑x.toNat:Int)=(x.toNat:Int):=by
 have hx:=x.toNat_lt;exact wrap_i64 (by omega) (by omega)
end Kerb
namespace Kerb
open Go Go.Abs
end Kerb
namespace Kerb
open Go Go.Abs
def m8(x:UInt8):UInt8:=Zj (Zk (Int.tmod (↑x.toNat:Int) (↑(8:UInt8).toNat:Int)))
def d8(x:UInt8):Int:=Zf .i64 (↑(Zj (Zk (Zf .u8 (Int.tdiv (↑x.toNat:Int) (↑(8:UInt8).toNat:Int))))).toNat:Int)
def Jw.me(x:Jw)(c:Client):ck:=cond (m8 x.client==7) (user (d8 x.client)) c.me
def Jw.wanted(x:Jw)(c:Client):ck:=cond (m8 x.service==7) (Kerb.service (d8 x.service)) c.wanted
def Jw.at'(x:Jw)(c:Client):Int:=cond (m8 x.time==7) (Zf .i64 (↑x.time.toNat:Int)) c.time
def Jw.key(x:Jw)(k:Int):Int:=cond (m8 x.nF==7) (af (d8 x.nF)) k
def Jw.code(x:Jw):Int:=Zf .i64 (↑(Zj (Zk (Zf .u8 ((↑(1:UInt8).toNat:Int)+(↑(Zj (Zk (Zf .u8 (Int.tdiv (↑x.kind.toNat:Int) (↑(8:UInt8).toNat:Int))))).toNat:Int))))).toNat:Int)
def Jw.rep(x:Jw)(c:Client)(k:Int):Bytes :=
 M1 (x.me c) (x.wanted c) (af 50) (x.key k) x.little (x.at' c) (Zf .i64 (1000+Zf .i64 (Zf .i64 (↑x.now.toNat:Int)*4))) 100
def Jw.text(x:Jw)(c:Client)(k:Int):Bytes :=
 cond (m8 x.kind==7) (mz ⟨x.little,x.me c,9,x.code,[]⟩).val (cond (m8 x.kind==6) (wF (x.rep c k) x.how) (x.rep c k))
end Kerb
namespace Kerb
open Go Go.Abs
def fY.ok(p:fY):Prop:=(vl p).ok/\p.aE.length<=255
end Kerb
namespace Kerb
open Go Go.Abs
end Kerb
/- Chapters 10, 18, 20: the answer of a service, and what a client makes of it. -/
namespace Kerb
open Go Go.Abs
theorem FZ{kd k:Int}{body:Bytes}(h0:0<=k)(h1:k<18446744073709551616)(h:(je kd k body).err=0):jS (je kd k body).val kd k=(body,Zb):=by
 unfold je at h ⊢;cases hk:isKind kd
 ·simp[hk] at h
 rw[Qa0 (by simp[hk])] at h ⊢;cases hv:bW k
 ·simp[hv] at h
 rw[Qa0 (by simp[hv])] at h ⊢;by_cases hl:1000<body.length
 ·rw[Qa1 hl] at h;cases h
 rw[Qa0 hl];have bG:1<=kd/\kd<=10:=by simpa [isKind] using hk
 generalize hb:[66,Zj kd.toNat]++keyBytes k++aL body.length 2 Zz++body=b;have ug:=ay k;have Nr:=aw body.length 2 Zz;have hlen:b.length=12+body.length:=by rw[<-hb];simp[ug,Nr];omega
 have g0:b.getD 0 0=66:=by rw[<-hb];rfl
 have g1:((b.getD 1 0).toNat:Int)=kd:=by
  rw[<-hb];show((Zj kd.toNat).toNat:Int)=kd;rw[UInt8.toNat_ofNat'];omega
 have g2:cut b 2 8=keyBytes k:=by
  rw[<-hb];unfold cut;rw[Zg,Zg];show List.take 8 (keyBytes k++(aL body.length 2 Zz++body))=keyBytes k;rw[List.take_append_of_le_length (by omega),List.take_of_length_le (by omega)]
 have g3:kr b=body.length:=by
  have e:b=([66,Zj kd.toNat]++keyBytes k)++(aL body.length 2 Zz++body):=by rw[<-hb];simp
  have hp:([66,Zj kd.toNat]++keyBytes k).length=10:=by simp[ug]
  have ON:b.getD 10 0=(aL (body.length:Int) 2 Zz).getD 0 0:=by
   rw[e,Zu,List.getElem?_append_right (by omega),hp,List.getElem?_append_left (by omega),<-Zu]
  have a11:b.getD 11 0=(aL (body.length:Int) 2 Zz).getD 1 0:=by
   rw[e,Zu,List.getElem?_append_right (by omega),hp,List.getElem?_append_left (by omega),<-Zu]
  unfold kr;rw[ON,a11,zn _ _ _ (by omega),zn _ _ _ (by omega)];simp only[gT,Qa7,UInt8.toNat_ofNat'];omega
 have g4:cut b 12 (body.length:Nat)=body:=by
  have e:b=([66,Zj kd.toNat]++keyBytes k++aL body.length 2 Zz)++body:=by rw[<-hb]
  have hp:([66,Zj kd.toNat]++keyBytes k++aL body.length 2 Zz).length=12:=by simp[ug,Nr]
  unfold cut;rw[e,show Zk 12=([66,Zj kd.toNat]++keyBytes k++aL body.length 2 Zz).length by rw[hp];rfl,List.drop_left];simp
 have hr:bj b=⟨⟨kd,k,body⟩,((12+body.length:Nat):Int),0⟩:=by
  unfold bj;rw[Qa0 (by omega),g0,g1,g2,g3,fL h0 h1 hv,Qa0 (by simp[hk];omega),Qa0 (by omega),g4]
 unfold jS;rw[hr,Qa0 (by simp;omega)]
def dC(s:Bytes)(li:Bool):rK :=
 if 1012<s.length then⟨[],105⟩ else⟨header 8 li++aL s.length 2 li++s,0⟩
def yl(b:Bytes)(li:Bool):Bytes:=let n:=get b 2 2 li;(bytes b n.next n.val).val
def yj(b:Bytes)(li:Bool):Rd Bytes :=
 let n:=dJ b 2 li 2 Zz
 dz b n.val n.pos n.bad
structure VJ where
 val:Bytes
 little:Bool
 err:Int
def j_(b:Bytes):VJ :=
 if (bh b [8]).2≠0 then⟨[],Zz,(bh b [8]).2⟩
 else if (eJ [] (fun s=>dC s (bh b [8]).1) (fun b'=>(yl b' (bh b [8]).1,Zz)) b).err=0 then
  ⟨(eJ [] (fun s=>dC s (bh b [8]).1) (fun b'=>(yl b' (bh b [8]).1,Zz)) b).val,(bh b [8]).1,0⟩ else⟨[],Zz,100⟩
theorem Pd{s:Bytes}{li:Bool}(h:(dC s li).err=0):(dC s li).val=header 8 li++(aL s.length 2 li++(s++[]))/\s.length<=1012:=by grind [dC]
theorem DY(li:Bool):(header 8 li).length=2:=by cases li<;>rfl
theorem GG{s:Bytes}{li:Bool}(h:(dC s li).err=0):get (dC s li).val 2 2 li=⟨s.length,4,0⟩/\∃ q,bytes (dC s li).val 4 s.length=⟨s,q,0⟩:=by
 obtain⟨hz,hs⟩:=Pd h;have p0:=(At.start (dC s li).val).as hz;have p1:=p0.skip;rw[DY] at p1;obtain⟨e1,p2⟩:=p1.get (.inr (.inl rfl)) (by omega) (by omega);obtain⟨e2,_⟩:=p2.bytes (n:=s.length) rfl;exact⟨e1,_,e2⟩
theorem F7{s:Bytes}{li:Bool}(h:(dC s li).err=0):yl (dC s li).val li=s:=by
 obtain⟨e1,q,e2⟩:=GG h;unfold yl;simp only[e1,e2]
theorem Cq{s:Bytes}{li:Bool}(h:(dC s li).err=0):(yj (dC s li).val li).val=s/\(yj (dC s li).val li).bad=Zz:=by
 obtain⟨e1,q,e2⟩:=GG h;unfold yj dJ dz;simp[e1,e2]
theorem GX(b:Bytes)(li:Bool):eJ [] (fun s=>dC s li) (fun b'=>(yl b' li,Zz)) b=eJ [] (fun s=>dC s li) (fun b'=>((yj b' li).val,(yj b' li).bad)) b :=
 iD (P:=fun _=>True) (fun _ _ h=>by simp only[F7 h]) (fun r _ h=>Prod.ext (Cq h).1 (Cq h).2) (fun _=>trivial) (fun _=>trivial) b
def x9(n:Int):Int:=(n+1) % 4294967296
def DF(af c9 time tick:Int)(li:Bool):rK :=
 if (jL ⟨x9 c9,tick,time⟩ li).err≠0 then⟨[],(jL ⟨x9 c9,tick,time⟩ li).err⟩
 else if (je 4 af (jL ⟨x9 c9,tick,time⟩ li).val).err≠0 then⟨[],(je 4 af (jL ⟨x9 c9,tick,time⟩ li).val).err⟩
 else dC (je 4 af (jL ⟨x9 c9,tick,time⟩ li).val).val li
structure aex where
 c:Client
 err:Int
theorem a_(b:Bytes):(j_ b).val.length<=1012:=by
 unfold j_;split
 ·simp
 split
 ·rename_i h0 h;unfold eJ at h ⊢;split at h
  ·cases h
  ·rename_i h2;rw[Qa0 h2];exact(Pd (Decidable.byContradiction fun x=>h2 (.inr (.inl x)))).2
 ·simp
end Kerb
/- Chapter 20: clients stay without an error. -/
namespace Kerb
open Go Go.Abs
theorem ck.pL{p q:ck}:p.s6 q=Zb↔p=q:=by
 constructor
 ·intro h;obtain⟨a,b,c⟩:=p;obtain⟨d,e,f⟩:=q;simp only[ck.s6,Zy,Qb1] at h;obtain⟨rfl,rfl,rfl⟩:=h;rfl
 ·rintro rfl;exact ck.G4 p
instance:DecidableEq ck:=fun p q=>if h:p.s6 q=Zb then isTrue (ck.pL.1 h) else isFalse fun g=>h (ck.pL.2 g)
def acz:List ck:=[service 0,service 1,service 2,service 3,service 4,service 5,service 6,service 7,service 8]
end Kerb
/- Clients that receive: lengths stay small. -/
namespace Kerb
open Go.Abs Go
end Kerb
namespace Go.Abs
end Go.Abs
/- Chapter 20: a client that waits for an answer gets it. -/
namespace Kerb
open Go Go.Abs
theorem lm(m:O4)(li:Bool):(jL m li).val.length<=16:=by
 unfold jL;split
 ·simp
 ·rw[rz];simp[aw]
theorem oz(s:Bytes)(li:Bool):(dC s li).val.length<=2000:=by
 unfold dC;split
 ·simp
 ·simp[aw,DY];omega
end Kerb
