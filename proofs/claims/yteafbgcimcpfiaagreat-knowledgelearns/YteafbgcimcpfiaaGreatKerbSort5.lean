/- What the functions compute, in plain words: no program here. -/
import Derived.Test.YteafbgcimcpfiaaGreatAbsStep
import Derived.Sort.AssemblyPlain
set_option linter.all false
open Go.IntKind renaming i64->AI,u64->AT
open Go.IntKind renaming i64->Zz,wrap->Zy,u64->Zq,bits->Yz,signed->Yj
open Int renaming toNat->Zx,toNat_natCast->Zk,eq_ofNat_of_zero_le->Yu,tmod_eq_emod_of_nonneg->Yp,fdiv_eq_ediv_of_nonneg->Xz
open Bool renaming false->Zw,and_eq_true->Zp,true->Zf,not_eq_false->Zb,not_eq_true'->Zn
open Go.Abs.AV renaming int->Zv,aw->Zg,undef->Zh,aH->Yy,bool->Yd
open List renaming length->Zu,getD->Zd,getD_eq_getElem?_getD->Yk,set->Yf
open Decidable renaming decide->Zj
open Nat renaming blt->Zm,mod_eq_of_lt->Yv,pow_le_pow_right->Yb,two_pow_add_eq_or_of_lt->Yh
open Sum renaming inr->Yx,inl->Ym
open Go.Abs.Ex renaming exit->Yw
open Option renaming some->Yq
open UInt8 renaming ofNat->Yg
open Array renaming setIfInBounds->Yn,size_setIfInBounds->Xy
namespace Kerb
open Go.Abs in
abbrev Bytes:=List UInt8
def okB(bad:Bytes)(c:UInt8):Bool := !Zj (c.toNat<33) && !Zj (126<c.toNat) && !bad.contains c
def eW(s bad:Bytes):Bool:=s.all (okB bad)
def cA(s:Bytes):Bool:=Zj (s.length<=39)&&eW s [64]
def validName(s:Bytes):Bool := !s.isEmpty&&Zj (s.length<=39)&&eW s [46,64]
def dO(s:Bytes):Bool := !s.isEmpty&&cA s
structure bn where
 name:Bytes
 inst:Bytes
 aK:Bytes
def bn.valid(p:bn):Bool:=validName p.name&&cA p.inst&&dO p.aK
def within(n m:Int):Bool:=Zj (0<=n)&&Zj (n<=m)
def indexOf(c:UInt8):Bytes->Int
 | [] => -1
 | x::r=>if x==c then 0 else if indexOf c r<0 then -1 else indexOf c r+1
def fa(n:Int)(i:Nat):UInt8:=Yg ((n / 2 ^ (8*i)) % 256).toNat
def aJ(n:Int)(k:Nat)(By:Bool):Bytes:=cond By ((List.range k).map (fa n)) ((List.range k).map λi=>fa n (k-1-i))
def bz(b s:Bytes):Bytes:=b++s++[0]
def cW(b:Bytes)(p:bn):Bytes:=bz (bz (bz b p.name) p.inst) p.aK
def room(b:Bytes)(pos n:Int):Int :=
 if pos<0\/(b.length:Int)<pos\/n<0 then 104 else if (b.length:Int)-pos<n then 101 else 0
def jU(l:Bytes):Int:=l.foldl (λn c=>n*256+c.toNat) 0
def cut(b:Bytes)(pos n:Int):Bytes:=(b.drop pos.toNat).take n.toNat
structure Got where
 val:Int
 next:Int
 err:Int
def get(b:Bytes)(pos k:Int)(By:Bool):Got :=
 if room b pos k=0 then⟨jU (cond By (cut b pos k).reverse (cut b pos k)),pos+k,0⟩ else⟨0,0,room b pos k⟩
structure mM where
 val:Bytes
 next:Int
 err:Int
def bytes(b:Bytes)(pos n:Int):mM :=
 if room b pos n=0 then⟨cut b pos n,pos+n,0⟩ else⟨[],0,room b pos n⟩
def text(b:Bytes)(pos:Int):mM :=
 if room b pos 0=0 then
  if 0<=indexOf 0 ((b.drop pos.toNat).take 40) then⟨((b.drop pos.toNat).take 40).take (indexOf 0 ((b.drop pos.toNat).take 40)).toNat,pos+indexOf 0 ((b.drop pos.toNat).take 40)+1,0⟩
  else if ((b.drop pos.toNat).take 40).length=40 then⟨[],0,105⟩ else⟨[],0,101⟩
 else⟨[],0,104⟩
structure XS where
 val:bn
 next:Int
 err:Int
def dF:bn:=⟨[],[],[]⟩
def gM(b:Bytes)(pos:Int):XS :=
 if (text b pos).err≠0 then⟨dF,0,(text b pos).err⟩
 else if (text b (text b pos).next).err≠0 then⟨dF,0,(text b (text b pos).next).err⟩
 else if (text b (text b (text b pos).next).next).err≠0 then⟨dF,0,(text b (text b (text b pos).next).next).err⟩
 else if bn.valid ⟨(text b pos).val,(text b (text b pos).next).val,(text b (text b (text b pos).next).next).val⟩ then
  ⟨⟨(text b pos).val,(text b (text b pos).next).val,(text b (text b (text b pos).next).next).val⟩,(text b (text b (text b pos).next).next).next,0⟩
 else⟨dF,0,103⟩
def isKind(k:Int):Bool:=Zj (1<=k)&&Zj (k<=10)
def header(k:Int)(By:Bool):Bytes:=cond (isKind k) [4,Yg (2*k.toNat+cond By 1 0)] []
structure Head where
 kind:Int
 By:Bool
 err:Int
def bj(b:Bytes):Head :=
 if b.length<2 then⟨0,Zw,101⟩ else if b.getD 0 0≠4 then⟨0,Zw,39⟩
 else if isKind ((b.getD 1 0).toNat / 2:Nat) then⟨((b.getD 1 0).toNat / 2:Nat),Zj ((b.getD 1 0).toNat % 2=1),0⟩ else⟨0,Zw,40⟩
structure kF where
 By:Bool
 BY:bn
 time:Int
 bS:Int
 service:Bytes
 inst:Bytes
structure ll where
 val:Bytes
 err:Int
def qV(r:kF):ll :=
 if !(r.BY.valid&&validName r.service&&cA r.inst) then⟨[],103⟩
 else if !(within r.time 4294967295&&within r.bS 255) then⟨[],104⟩
 else⟨bz (bz (cW (header 1 r.By) r.BY++aJ r.time 4 r.By++aJ r.bS 1 Zw) r.service) r.inst,0⟩
def aM(b:Bytes)(kinds:List Int):Bool×Int :=
 if (bj b).err≠0 then(Zw,(bj b).err) else if kinds.contains (bj b).kind then((bj b).By,0) else(Zw,40)
structure Uw where
 val:kF
 err:Int
def Ui:kF:=⟨false,dF,0,0,[],[]⟩
def uS(b:Bytes):kF :=
 let li:=(aM b [1]).1
 let p:=gM b 2
 let t:=get b p.next 4 li
 let l:=get b t.next 1 Zw
 let s:=text b l.next
 ⟨li,p.val,t.val,l.val,s.val,(text b s.next).val⟩
def gT(b:Bytes):Uw :=
 if (aM b [1]).2≠0 then⟨Ui,(aM b [1]).2⟩
 else if (qV (uS b)).err≠0\/(qV (uS b)).val≠b then⟨Ui,100⟩
 else⟨uS b,0⟩
def aK(n:Int):Bytes:=if n % 3=0 then[65,84,72] else if n % 3=1 then[66,79,83] else[67,65,77]
def user(n:Int):bn:=⟨if n % 3=0 then[97,110,110] else if n % 3=1 then[98,111,98] else[99,97,116],[],aK (n / 3)⟩
def service(n:Int):bn:=if n % 3=0 then⟨[109,97,105,108],[],aK (n / 3)⟩ else if n % 3=1 then⟨[110,102,115],[104,111,109,101],aK (n / 3)⟩ else⟨[107,114,98,116,103,116],[65,84,72],aK (n / 3)⟩
def ax(n:Int):Int:=Go.IntKind.wrap AT ((BitVec.ofInt (Go.IntKind.bits AT) 144115188075855872 ||| BitVec.ofInt (Go.IntKind.bits AT) (Go.IntKind.wrap AT (Go.IntKind.wrap AI (1+n)))).toNat:Int)
def next(l:Bytes)(pos n:Int):Int:=if (l.length:Int)<=pos\/n<=0 then 0 else((l.getD pos.toNat 0).toNat:Int) % n
def dS(l:Bytes)(pos n:Int):Int:=((if (l.length:Int)<=pos\/n<=0 then pos else pos+1).toNat:Int)
structure dU where
 By:Bool
 BY:bn
 address:Int
 ax:Int
 bS:Int
 cL:Int
 service:Bytes
 inst:Bytes
def gi(n:Int):bn:=⟨List.replicate (if n=0 then 39 else 38) 110,List.replicate (if n=0 then 39 else 38) 110,List.replicate (if n=0 then 39 else 38) 110⟩
def tp1(l:Bytes):Int:=dS l 0 2
def tp2(l:Bytes):Int:=dS l (tp1 l) 9
def tp3(l:Bytes):Int:=dS l (tp2 l) 9
def tp4(l:Bytes):Int:=dS l (tp3 l) 256
def tp5(l:Bytes):Int:=dS l (tp4 l) 200
def tp6(l:Bytes):Int:=dS l (tp5 l) 256
def tp7(l:Bytes):Int:=dS l (tp6 l) 256
def Ur(l:Bytes):Int:=dS l (tp7 l) 9
def tp9(l:Bytes):Int:=dS l (Ur l) 7
def aaY(l:Bytes):Int:=dS l (tp9 l) 3
def W6(l:Bytes):Int:=dS l (aaY l) 3
def tq(l:Bytes):Int:=cond (next l (Ur l) 7==6) (W6 l) (tp9 l)
def aG(l:Bytes):dU :=
  { By:=next l 0 2==1
    BY:=cond (next l (tq l) 9==8) (gi (next l (dS l (tq l) 9) 2)) (user (next l (tp1 l) 9))
    address:=cond (next l (Ur l) 7==6) (Go.IntKind.wrap AI (4294967295-next l (tp9 l) 3)) (next l (tp4 l) 200)
    ax:=ax (next l (tp2 l) 9)
    bS:=next l (tp3 l) 256
    cL:=cond (next l (Ur l) 7==6) (Go.IntKind.wrap AI (4294967295-next l (aaY l) 3)) (Go.IntKind.wrap AI (Go.IntKind.wrap AI (next l (tp5 l) 256*150)+next l (tp6 l) 256))
    service:=cond (next l (tq l) 9==8) (gi 0).name (Kerb.service (next l (tp7 l) 9)).name
    inst:=cond (next l (tq l) 9==8) (gi 0).inst (Kerb.service (next l (tp7 l) 9)).inst }
def nf(k:Int):Int:=k / 72057594037927936
def mC(k:Int):Int:=k % 72057594037927936
def pf(c:Int):Bool:=c==1||c==2
def na(n:Int):Bool:=Zj (1<=n)&&Zj (n<=4294967295)
def bB(k:Int):Bool:=pf (nf k)&&na (mC k)
def keyBytes(k:Int):Bytes:=(List.range 8).map λi=>fa k (7-i)
def cK(b:Bytes):Int×Bool:=if b.length=8/\bB (jU b)=Zf then(jU b,Zf) else(0,Zw)
def pad(b:Bytes):Bytes:=b++List.replicate ((8-b.length % 8) % 8) 0
structure jN where
 By:Bool
 BY:bn
 time:Int
 cJ:Int
 bt:Int
 cI:Bytes
def bg(r:jN):ll :=
 if !r.BY.valid then⟨[],103⟩
 else if !(within r.time 4294967295&&within r.cJ 4294967295&&within r.bt 255) then⟨[],104⟩
 else if 1012<r.cI.length then⟨[],105⟩
 else⟨cW (header 2 r.By) r.BY++aJ r.time 4 r.By++aJ 1 1 Zw++aJ r.cJ 4 r.By++aJ r.bt 1 Zw++aJ r.cI.length 2 r.By++r.cI,0⟩
structure OE where
 val:jN
 err:Int
def FY:jN:=⟨false,dF,0,0,0,[]⟩
def jt(b:Bytes):jN :=
 let li:=(aM b [2]).1
 let p:=gM b 2
 let t:=get b p.next 4 li
 let o:=get b t.next 1 Zw
 let e:=get b o.next 4 li
 let k:=get b e.next 1 Zw
 let n:=get b k.next 2 li
 ⟨li,p.val,t.val,e.val,k.val,(bytes b n.next n.val).val⟩
def bm(b:Bytes):OE :=
 if (aM b [2]).2≠0 then⟨FY,(aM b [2]).2⟩
 else if (bg (jt b)).err≠0\/(bg (jt b)).val≠b then⟨FY,100⟩
 else⟨jt b,0⟩
structure fU where
 ax:Int
 service:bn
 bS:Int
 bt:Int
 aG:Bytes
 time:Int
def bp(p:fU)(By:Bool):ll :=
 if !bB p.ax then⟨[],10⟩
 else if !p.service.valid then⟨[],103⟩
 else if !(within p.bS 255&&within p.bt 255&&within p.time 4294967295) then⟨[],104⟩
 else if 255<p.aG.length then⟨[],105⟩
 else⟨pad (cW (aJ (cond By 1 0) 1 Zw++keyBytes p.ax) p.service++aJ p.bS 1 Zw++aJ p.bt 1 Zw++aJ p.aG.length 1 Zw++p.aG++aJ p.time 4 By),0⟩
structure Lw where
 val:fU
 err:Int
def sS:fU:=⟨0,dF,0,0,[],0⟩
def js(b:Bytes)(By:Bool):fU :=
 let raw:=bytes b 1 8
 let p:=gM b raw.next
 let l:=get b p.next 1 Zw
 let k:=get b l.next 1 Zw
 let n:=get b k.next 1 Zw
 let t:=bytes b n.next n.val
 ⟨(cK raw.val).1,p.val,l.val,k.val,t.val,(get b t.next 4 By).val⟩
def bu(b:Bytes)(By:Bool):Lw :=
 if (bp (js b By) By).err≠0\/(bp (js b By) By).val≠b then⟨sS,100⟩
 else⟨js b By,0⟩
structure sk where
 By:Bool
 BY:bn
 time:Int
 code:Int
 text:Bytes
def qB(r:sk):ll :=
 if !r.BY.valid then⟨[],103⟩
 else if !(within r.time 4294967295&&Zj (1<=r.code)&&Zj (r.code<=99)) then⟨[],104⟩
 else if 39<r.text.length then⟨[],105⟩
 else if 0∈r.text then⟨[],100⟩
 else⟨bz (cW (header 5 r.By) r.BY++aJ r.time 4 r.By++aJ r.code 4 r.By) r.text,0⟩
structure Uv where
 val:sk
 err:Int
def Uh:sk:=⟨false,dF,0,0,[]⟩
def zL(b:Bytes):sk :=
 let li:=(aM b [5]).1
 let p:=gM b 2
 let t:=get b p.next 4 li
 let c:=get b t.next 4 li
 ⟨li,p.val,t.val,c.val,(text b c.next).val⟩
def ub(b:Bytes):Uv :=
 if (aM b [5]).2≠0 then⟨Uh,(aM b [5]).2⟩
 else if (qB (zL b)).err≠0\/(qB (zL b)).val≠b then⟨Uh,100⟩
 else⟨zL b,0⟩
structure Xa where
 p:bn
 pos:Int
 bad:Bool
def dN(b:Bytes)(pos:Int)(bad:Bool):Xa :=
 let a:=text b pos
 let p1:=cond (bad || !(a.err==0)) pos a.next
 let b1:=bad || !(a.err==0)
 let c:=text b p1
 let p2:=cond (b1 || !(c.err==0)) p1 c.next
 let b2:=b1 || !(c.err==0)
 let d:=text b p2
 ⟨⟨a.val,c.val,d.val⟩,cond (b2 || !(d.err==0)) p2 d.next,b2 || !(d.err==0)⟩
def px(b:Bytes)(how:Int):Int:=Int.tmod (Go.IntKind.wrap AI (Go.IntKind.wrap .u16 (Int.tdiv how 8))) (b.length:Int)
def tD(b:Bytes)(how:Int):Bytes :=
 if b=[] then[] else
 if Int.tmod how 4=0 then b.set (px b how).toNat (Yg (Zx (Go.IntKind.wrap .u8 ((BitVec.ofInt (Go.IntKind.bits .u8) ((b.getD (px b how).toNat 0).toNat:Int) ^^^ BitVec.ofInt (Go.IntKind.bits .u8) ((Yg (Zx (Go.IntKind.wrap .u8 (((1:UInt8).toNat:Int)*(2:Int) ^ min (Zx (Go.IntKind.wrap AT (Int.tmod how 7))) 8)))).toNat:Int)).toNat:Int))))
 else if Int.tmod how 4=1 then b.take (px b how).toNat++b.drop (Zx (Go.IntKind.wrap AI (px b how+1)))
 else if Int.tmod how 4=2 then b++[Yg (Zx (Go.IntKind.wrap .u8 how))]
 else b
def texts:List Bytes:=[[99,108,105,101,110,116,32,101,120,112,105,114,101,100],[115,101,114,118,105,99,101,32,101,120,112,105,114,101,100],[110,111,32,108,105,102,101,116,105,109,101,32,108,101,102,116],[112,114,111,116,111,99,111,108,32,118,101,114,115,105,111,110],[110,111,116,32,97,32,99,108,105,101,110,116],[110,111,116,32,97,32,115,101,114,118,105,99,101],[98,121,116,101,32,111,114,100,101,114],[112,114,105,110,99,105,112,97,108,32,117,110,107,110,111,119,110],[112,114,105,110,99,105,112,97,108,32,110,111,116,32,117,110,105,113,117,101],[110,111,32,107,101,121]]
def refused:Bytes:=[114,101,113,117,101,115,116,32,114,101,102,117,115,101,100]
def message(code:Int):Bytes:=if code<1\/10<code then refused else texts.getD (code-1).toNat []
structure Rd (O:Type) where
 val:O
 pos:Int
 bad:Bool
def dK(b:Bytes)(k:Int)(li:Bool)(pos:Int)(bad:Bool):Rd Int:=⟨(get b pos k li).val,cond (bad || !((get b pos k li).err==0)) pos (get b pos k li).next,bad || !((get b pos k li).err==0)⟩
def nE(b:Bytes)(pos:Int)(bad:Bool):Rd Bytes:=⟨(text b pos).val,cond (bad || !((text b pos).err==0)) pos (text b pos).next,bad || !((text b pos).err==0)⟩
def dw(b:Bytes)(n:Int)(pos:Int)(bad:Bool):Rd Bytes:=⟨(bytes b pos n).val,cond (bad || !((bytes b pos n).err==0)) pos (bytes b pos n).next,bad || !((bytes b pos n).err==0)⟩
def kj(b:Bytes):Rd jN :=
 let li:=(aM b [2]).1
 let p:=dN b 2 Zw
 let t:=dK b 4 li p.pos p.bad
 let o:=dK b 1 Zw t.pos t.bad
 let e:=dK b 4 li o.pos o.bad
 let k:=dK b 1 Zw e.pos e.bad
 let n:=dK b 2 li k.pos k.bad
 let s:=dw b n.val n.pos n.bad
 ⟨⟨li,p.p,t.val,e.val,k.val,s.val⟩,s.pos,s.bad⟩
def lR(b:Bytes)(By:Bool):Rd fU :=
 let o:=dK b 1 Zw 0 Zw
 let raw:=dw b 8 o.pos o.bad
 let p:=dN b raw.pos raw.bad
 let l:=dK b 1 Zw p.pos p.bad
 let k:=dK b 1 Zw l.pos l.bad
 let n:=dK b 1 Zw k.pos k.bad
 let t:=dw b n.val n.pos n.bad
 let m:=dK b 4 By t.pos t.bad
 ⟨⟨(cK raw.val).1,p.p,l.val,k.val,t.val,m.val⟩,m.pos,m.bad⟩
end Kerb
/- Plain facts on what the functions compute. -/
namespace Kerb
open Go Go.Abs
theorem cF{n:Nat}(h:n<=140737488355328):Go.Abs.room n 1=Zf:=by
 simp[Go.Abs.room];omega
theorem ou{s:Bytes}{i:Nat}(h:i<s.length):s.drop i=s.getD i 0::s.drop (i+1):=by
 rw[List.drop_eq_getElem_cons h];simp[h]
theorem p8(c:UInt8):∀ l:Bytes,(0<=indexOf c l)↔c∈l
 | []=>by simp[indexOf]
 | x::r=>by
  have ih:=p8 c r;unfold indexOf;by_cases h:x=c
  .subst h;simp
  .have h1:(x==c)=Zw:=by simpa using h
   rw[h1,List.mem_cons,<-ih];have h3:¬ c=x:=λe=>h e.symm;simp only[Bool.false_eq_true,if_false,h3,false_or];split<;>omega
theorem EU(l:Bytes)(c:UInt8):jU (l++[c])=jU l*256+c.toNat:=by simp[jU]
theorem vI{l:Bytes}{i:Nat}(h:i<l.length):jU (l.take (i+1))=jU (l.take i)*256+(l.getD i 0).toNat:=by
 rw[List.take_succ_eq_append_getElem h,EU];simp[h]
theorem C2(l:Bytes):∃ m:Nat,jU l=m/\m<256 ^ l.length:=by
 have key:∀ (n:Nat) (l:Bytes),l.length=n->∃ m:Nat,jU l=m/\m<256 ^ n:=by
  intro n;induction n with
  | zero=>intro l h;have:=List.eq_nil_of_length_eq_zero h;subst this;exact⟨0,rfl,by simp⟩
  | succ n ih =>
   intro l h;have ii:l≠[]:=λe=>by subst e;simp at h
   obtain⟨m,h1,h2⟩:=ih l.dropLast (by simp[h]);refine⟨m*256+(l.getLast ii).toNat,?_,?_⟩
   .have e:=List.dropLast_concat_getLast ii;rw[<-Qb5 jU e,EU,h1];omega
   .have:=(l.getLast ii).toNat_lt;rw[Nat.pow_succ];omega
 exact key _ l rfl
theorem Gy{l:Bytes}(h:l.length<=4):0<=jU l/\jU l<4294967296:=by
 obtain⟨m,h1,h2⟩:=C2 l;have:256 ^ l.length<=256 ^ 4:=Yb (by omega) h;rw[h1];omega
theorem AW{n:Int}(c:UInt8)(h0:0<=n)(h1:n<1099511627776):Zy AI ((BitVec.ofInt (Yz AI) (Zy AI (n*2 ^ min (Zx 8) (Yz AI))) ||| BitVec.ofInt (Yz AI) (Zy AI (c.toNat:Int))).toNat:Int)=n*256+c.toNat:=by
 obtain⟨m,rfl⟩:=Yu h0;have hc:=c.toNat_lt;have e1:((m:Int)*2 ^ min (Zx 8) (Yz AI))=((2 ^ 8*m:Nat):Int):=by
  have:min (Zx 8) (Yz AI)=8:=by decide
  rw[this];omega
 rw[e1,wrap_i64 (n:=((2 ^ 8*m:Nat):Int)) (by omega) (by omega),wrap_i64 (n:=(c.toNat:Int)) (by omega) (by omega)];have hb:Yz AI=64:=rfl;rw[hb];have e2:(BitVec.ofInt 64 ((2 ^ 8*m:Nat):Int) ||| BitVec.ofInt 64 ((c.toNat:Nat):Int)).toNat=2 ^ 8*m+c.toNat:=by
  rw[BitVec.ofInt_natCast,BitVec.ofInt_natCast,BitVec.toNat_or,BitVec.toNat_ofNat,BitVec.toNat_ofNat,Yv (by omega),Yv (by omega)];exact(Yh hc m).symm
 rw[e2,wrap_i64 (by omega) (by omega)];omega
theorem iB{b:Bytes}{pos n:Int}:room b pos n=0↔0<=pos/\pos<=b.length/\0<=n/\n<=b.length-pos:=by
 unfold room;split
 .omega
 .split<;>omega
theorem jd{b:Bytes}{pos n:Int}(h:room b pos n=0):(cut b pos n).length=n.toNat:=by
 obtain⟨h1,h2,h3,h4⟩:=iB.1 h;simp[cut];omega
theorem xU{l:Bytes}{i:Nat}(h:i<l.length):l.reverse.getD i 0=l.getD (l.length-1-i) 0:=by
 simp[Yk,List.getElem?_reverse h]
theorem Hc{b:Bytes}{pos n:Int}{i:Nat}(h:i<n.toNat):(cut b pos n).getD i 0=b.getD (pos.toNat+i) 0:=by
 simp[cut,Yk,h]
def vP(n:Int)(m:Nat):UInt8:=Yg (Zx (Zy .u8 (Int.fdiv n (2 ^ m))))
theorem wrap_u8(x:Int):Zy .u8 x=x % 256:=by
 simp[Zy,Yj,Yz]
theorem wrap_u64(x:Int):Zy AT x=x % 18446744073709551616:=by
 simp[Zy,Yj,Yz]
theorem tT(n:Int)(m:Nat):vP n m=Yg ((n / 2 ^ m) % 256).toNat:=by grind [wrap_u8,vP]
theorem Ut(n:Int){i:Nat}(h:i<4):Yg (Zx (Zy .u8 (Int.fdiv (Zy AT n) (2 ^ (8*i)))))=fa n i:=by
 unfold fa;rw[wrap_u8,wrap_u64,Xz _ (Int.le_of_lt (Int.pow_pos (by omega)))];have h4:i=0\/i=1\/i=2\/i=3:=by omega
 have e:n % 18446744073709551616 / 2 ^ (8*i) % 256=n / 2 ^ (8*i) % 256:=by
  rcases h4 with rfl | rfl | rfl | rfl<;>simp<;>omega
 rw[e]
theorem ai(n:Int)(k:Nat)(l:Bool):(aJ n k l).length=k:=by cases l<;>simp[aJ]
theorem NR(n:Int)(k:Nat)(l:Bool){i:Nat}(h:i<k):(aJ n k l).getD i 0=fa n (cond l i (k-1-i)):=by
 cases l<;>simp[aJ,Yk,h]
theorem vi{l:Bytes}{i:Nat}(h:i<l.length):l.take (i+1)=l.take i++[l.getD i 0]:=by
 rw[List.take_succ_eq_append_getElem h];simp[h]
theorem Bc:∀ {els:List AV} {i:Nat},SG els=Zf->i<els.length->∃ l,els.getD i .undef = .bs l/\tX (els.take (i+1))=tX (els.take i)++l/\(tX (els.take i)).length+l.length<=(tX els).length
 | [],i,_,h=>by simp at h
 | x::r,i,ha,h=>by
  cases x<;>simp only[SG] at ha<;>try (cases ha;done)
  rename_i l;cases i with
  | zero=>exact⟨l,by simp,by simp[tX],by simp[tX]⟩
  | succ i =>
   obtain⟨l',h1,h2,h3⟩:=Bc (i:=i) ha (by simpa using h);refine⟨l',by simpa using h1,?_,?_⟩
   .simp only[List.take_succ_cons,tX] at h2 ⊢;rw[h2,List.append_assoc]
   .simp only[List.take_succ_cons,tX,List.length_append];omega
theorem xq{x:AV}{r:List AV}(h:o8 (x::r)=Zf):∃ n,x = .int AI n/\o8 r=Zf:=by
 unfold o8 at h;split at h
 .rename_i he;cases he
 .rename_i he;cases he;exact⟨_,rfl,h⟩
 .cases h
theorem BJ:∀ {els:List AV} {i:Nat},o8 els=Zf->i<els.length->∃ n,els.getD i .undef = .int AI n/\(iP els).drop i=n::(iP els).drop (i+1)
 | [],i,_,h=>by simp at h
 | x::r,i,ha,h=>by
  obtain⟨n,rfl,Sq⟩:=xq ha;cases i with
  | zero=>exact⟨n,by simp,by simp[iP]⟩
  | succ i =>
   obtain⟨m,h1,h2⟩:=BJ (i:=i) Sq (by simpa using h);exact⟨m,by simpa using h1,by simpa [iP] using h2⟩
theorem BK:∀ {els:List AV},o8 els=Zf->(iP els).length=els.length
 | [],_=>rfl
 | x::r,ha=>by
  obtain⟨n,rfl,Sq⟩:=xq ha;simp[iP,BK Sq]
theorem BD(c:UInt8):∀ l:Bytes,-1<=indexOf c l/\(0<=indexOf c l->indexOf c l<l.length)/\indexOf c l<=l.length
 | []=>by simp[indexOf]
 | x::r=>by
  have ih:=BD c r;unfold indexOf;simp only[List.length_cons];split
  .omega
  .split<;>omega
theorem gU{s:Bytes}(h:cA s=Zf):s.length<=39:=by
 simp only[cA,Zp,Qa2] at h;exact h.1
theorem iu{s:Bytes}(h:validName s=Zf):s.length<=39:=by
 simp only[validName,Zp,Qa2] at h;exact h.1.2
theorem gm{s:Bytes}(h:dO s=Zf):s.length<=39:=by
 simp only[dO,Zp] at h;exact gU h.2
theorem cV{p:bn}(h:p.valid=Zf):p.name.length<=39/\p.inst.length<=39/\p.aK.length<=39:=by
 simp only[bn.valid,Zp] at h;exact⟨iu h.1.1,gU h.1.2,gm h.2⟩
theorem kR(k:Int)(l:Bool):(header k l).length<=2:=by
 unfold header;cases isKind k<;>simp
theorem cf(b s:Bytes):(bz b s).length=b.length+s.length+1:=by simp[bz];omega
theorem ar(b:Bytes)(p:bn):(cW b p).length=b.length+p.name.length+p.inst.length+p.aK.length+3:=by
 simp[cW,cf];omega
theorem fX(b:Bytes)(pos:Int):(text b pos).val.length<=40:=by
 unfold text;split
 .split
  .simp;omega
  .split<;>simp
 .simp
theorem qf(b:Bytes)(pos:Int):(gM b pos).val.name.length<=40/\(gM b pos).val.inst.length<=40/\(gM b pos).val.aK.length<=40:=by
 unfold gM;split
 .simp[dF]
 split
 .simp[dF]
 split
 .simp[dF]
 split
 .exact⟨fX _ _,fX _ _,fX _ _⟩
 .simp[dF]
theorem AP(l:Bytes)(p n:Int):0<=next l p n/\next l p n<=255/\(0<n->next l p n<n):=by
 unfold next
 have hb:=(l.getD p.toNat 0).toNat_lt;split
 .omega
 .have h0:0<n:=by omega
  have h1:=Int.emod_nonneg ((l.getD p.toNat 0).toNat:Int) (by omega:n≠0);have h2:=Int.emod_lt_of_pos ((l.getD p.toNat 0).toNat:Int) h0;have h3:((l.getD p.toNat 0).toNat:Int) % n<=((l.getD p.toNat 0).toNat:Int):=by
   rcases Int.lt_or_le ((l.getD p.toNat 0).toNat:Int) n with h | h
   .rw[Int.emod_eq_of_lt (by omega) h];omega
   .omega
  omega
theorem Ib(l:Bytes)(p n:Int):Zj ((0:Int)<=dS l p n)=Zf:=Qa4 (Int.natCast_nonneg _)
theorem Ic(l:Bytes)(p n:Int):Zj ((0:Int)<=next l p n)=Zf:=by simpa using (AP l p n).1
theorem B5(l:Bytes)(p n:Int):Zj (next l p n<=4611686018427387904)=Zf:=by have:=(AP l p n).2.1;simp;omega
theorem FU(l:Bytes)(p n:Int):Zj (next l p n<=1000)=Zf:=by have:=(AP l p n).2.1;simp;omega
theorem Nz(l:Bytes)(p:Int):Zj (next l p 2<=1)=Zf:=by have:=(AP l p 2).2.2 (by omega);simp;omega
theorem Ab(n:Int):(gi n).name.length<=39/\(gi n).inst.length<=39/\(gi n).aK.length<=39:=by
 unfold gi;by_cases h:n=0<;>simp[h]
theorem zM(n:Int):(aK n).length=3:=by
 unfold aK;split
 .rfl
 .split<;>rfl
theorem yT(n:Int):(user n).name.length<=39/\(user n).inst.length<=39/\(user n).aK.length<=39:=by grind [user,zM]
theorem Am(n:Int):(service n).name.length<=39/\(service n).inst.length<=39/\(service n).aK.length<=39:=by
 unfold service;split
 .simp[zM]
 .split<;>simp[zM]
theorem CY(l:Bytes):(aG l).BY.name.length<=39/\(aG l).BY.inst.length<=39/\(aG l).BY.aK.length<=39/\(aG l).service.length<=39/\(aG l).inst.length<=39:=by
 simp only[aG];cases next l (tq l) 9==8<;>simp only[Qa6,Qa7]
 .have h1:=yT (next l (tp1 l) 9);have h2:=Am (next l (tp7 l) 9);omega
 .have h1:=Ab (next l (dS l (tq l) 9) 2);have h2:=Ab 0;omega
theorem pZ{c:UInt8}:∀ {s q:Bytes},c ∉ s->indexOf c (s++c::q)=s.length
 | [],q,_=>by simp[indexOf]
 | x::s,q,h=>by
  have hx:(x==c)=Zw:=by
   have:x≠c:=λe=>h (by simp[e]);simpa using this
  have ih:=pZ (q:=q) (c:=c) (s:=s) λhm=>h (by simp[hm]);simp only[List.cons_append,indexOf,hx,Bool.false_eq_true,if_false,ih,List.length_cons];rw[Qa0 (by omega)];omega
theorem AY{b pre s post:Bytes}{pos:Int}(hb:b=pre++(s++0::post))(hp:pos=pre.length)(hs:s.length<=39)(h0:(0:UInt8) ∉ s):text b pos=⟨s,pos+s.length+1,0⟩:=by
 have hr:room b pos 0=0:=iB.2 (by subst hb;simp;omega);have hd:b.drop pos.toNat=s++0::post:=by subst hb;subst hp;simp
 have ht:(s++0::post).take 40=s++0::post.take (39-s.length):=by
  rw[List.take_append,List.take_of_length_le (by omega),show 40-s.length=(39-s.length)+1 by omega,List.take_succ_cons]
 unfold text;rw[Qa1 hr,hd,ht,pZ h0,Qa1 (by omega)];simp
theorem AR{s bad:Bytes}(h:eW s bad=Zf):(0:UInt8) ∉ s:=by
 intro hm;have:=List.all_eq_true.1 h 0 hm;simp[okB] at this
theorem nH{s:Bytes}(h:cA s=Zf):(0:UInt8) ∉ s:=by
 simp only[cA,Zp] at h;exact AR h.2
theorem qn{s:Bytes}(h:validName s=Zf):(0:UInt8) ∉ s:=by
 simp only[validName,Zp] at h;exact AR h.2
theorem oU{s:Bytes}(h:dO s=Zf):(0:UInt8) ∉ s:=by
 simp only[dO,Zp] at h;exact nH h.2
theorem yu{b pre post:Bytes}{p:bn}{pos:Int}(hb:b=pre++(p.name++0::(p.inst++0::(p.aK++0::post))))(hp:pos=pre.length)(hv:p.valid=Zf) :
  gM b pos=⟨p,pos+p.name.length+p.inst.length+p.aK.length+3,0⟩:=by
 have hl:=cV hv;have BB:=hv;simp only[bn.valid,Zp] at BB;have h1:=AY hb hp hl.1 (qn BB.1.1);have h2:=AY (b:=b) (pre:=pre++(p.name++[0])) (s:=p.inst) (post:=p.aK++0::post) (pos:=pos+p.name.length+1) (by rw[hb];simp) (by rw[hp];simp;omega) hl.2.1 (nH BB.1.2);have h3:=AY (b:=b) (pre:=pre++(p.name++[0])++(p.inst++[0])) (s:=p.aK) (post:=post) (pos:=pos+p.name.length+1+p.inst.length+1) (by rw[hb];simp) (by rw[hp];simp;omega) hl.2.2 (oU BB.2);unfold gM;simp only[h1,h2,h3];have e:bn.mk p.name p.inst p.aK=p:=rfl;simp only[e,hv,ne_eq,not_true_eq_false,if_false,if_true];congr 1;omega
theorem pM(n:Int)(i:Nat):((fa n i).toNat:Int)=n / 2 ^ (8*i) % 256:=by
 unfold fa;have h1:=Int.emod_nonneg (n / 2 ^ (8*i)) (by omega:(256:Int)≠0);have h2:=Int.emod_lt_of_pos (n / 2 ^ (8*i)) (by omega:(0:Int)<256);rw[UInt8.toNat_ofNat_of_lt' (by show _<256;omega)];omega
theorem TS{n:Int}{k:Nat}{By:Bool}(hk:k=1\/k=2\/k=4)(h0:0<=n)(h1:n<256 ^ k):jU (cond By (aJ n k By).reverse (aJ n k By))=n:=by
 have e0:=pM n 0;have e1:=pM n 1;have e2:=pM n 2;have e3:=pM n 3;simp only[Nat.mul_zero,Nat.mul_one,Int.pow_zero,Int.ediv_one] at e0 e1 e2 e3;rcases hk with rfl | rfl | rfl
 .have hv:jU (cond By (aJ n 1 By).reverse (aJ n 1 By))=((fa n 0).toNat:Int):=by cases By<;>simp[aJ,jU,List.range_succ]
  rw[hv,e0];simp at h1;omega
 .have hv:jU (cond By (aJ n 2 By).reverse (aJ n 2 By))=((fa n 1).toNat:Int)*256+((fa n 0).toNat:Int):=by cases By<;>simp[aJ,jU,List.range_succ]
  rw[hv,e0,e1];simp at h1 ⊢;omega
 .have hv:jU (cond By (aJ n 4 By).reverse (aJ n 4 By))=((((fa n 3).toNat:Int)*256+((fa n 2).toNat:Int))*256+((fa n 1).toNat:Int))*256+((fa n 0).toNat:Int):=by cases By<;>simp[aJ,jU,List.range_succ]
  rw[hv,e0,e1,e2,e3];simp at h1 ⊢;omega
theorem get_at{b pre post:Bytes}{pos n:Int}{k:Nat}{By:Bool}(hb:b=pre++(aJ n k By++post))(hp:pos=pre.length)(hk:k=1\/k=2\/k=4)(h0:0<=n)(h1:n<256 ^ k) :
  get b pos k By=⟨n,pos+k,0⟩:=by
 have hl:=ai n k By;have hr:room b pos k=0:=iB.2 (by subst hb;simp[hl];omega);have hc:cut b pos k=aJ n k By:=by
  subst hb;subst hp;simp only[cut,Zk,List.drop_left];rw[List.take_append_of_le_length (by omega),List.take_of_length_le (by omega)]
 unfold get;rw[Qa1 hr,hc,TS hk h0 h1]
theorem DE(c:UInt8)(post:Bytes):bj (4::c::post)=if isKind (c.toNat / 2:Nat) then⟨(c.toNat / 2:Nat),Zj (c.toNat % 2=1),0⟩ else⟨0,Zw,40⟩:=by
 unfold bj;rw[Qa0 (by simp),Qa0 (by simp)];rfl
theorem z3{k:Int}(h1:1<=k)(h2:k<=10)(By:Bool)(post:Bytes):bj (header k By++post)=⟨k,By,0⟩:=by
 have hk:k=1\/k=2\/k=3\/k=4\/k=5\/k=6\/k=7\/k=8\/k=9\/k=10:=by omega
 rcases hk with rfl | rfl | rfl | rfl | rfl | rfl | rfl | rfl | rfl | rfl<;>cases By<;>exact DE _ post
theorem D1{k:Int}(h1:1<=k)(h2:k<=10)(By:Bool)(post:Bytes):aM (header k By++post) [k]=(By,0):=by
 unfold aM;rw[z3 h1 h2];simp
theorem z0{k:Int}(h1:1<=k)(h2:k<=10)(By:Bool):(header k By).length=2:=by
 have:isKind k=Zf:=by simp[isKind,h1,h2]
 simp[header,this]
theorem pN{b pre s post:Bytes}{pos n:Int}(hb:b=pre++(s++post))(hp:pos=pre.length)(hn:n=s.length):bytes b pos n=⟨s,pos+n,0⟩:=by
 have hr:room b pos n=0:=iB.2 (by subst hb;simp;omega);have hc:cut b pos n=s:=by
  subst hb;subst hp;subst hn;simp[cut]
 unfold bytes;rw[Qa1 hr,hc]
theorem Aw(r:jN):(bg r).val.length<=2000:=by
 unfold bg;split
 .simp
 split
 .simp
 split
 .simp
 rename_i g1 g2 g3;simp only[Zn,Zb] at g1;have h1:=cV g1;have h4:=kR 2 r.By;simp only[ar,ai,List.length_append];omega
theorem KX{r:jN}(h:(bg r).err=0):bm (bg r).val=⟨r,0⟩:=by
 unfold bg at h;split at h
 .cases h
 split at h
 .cases h
 split at h
 .cases h
 rename_i g1 g2 g3;have hval:(bg r).val=cW (header 2 r.By) r.BY++aJ r.time 4 r.By++aJ 1 1 Zw++aJ r.cJ 4 r.By++aJ r.bt 1 Zw++aJ r.cI.length 2 r.By++r.cI:=by
  unfold bg;rw[Qa0 g1,Qa0 g2,Qa0 g3]
 have Px:(bg r).err=0:=by unfold bg;rw[Qa0 g1,Qa0 g2,Qa0 g3]
 simp only[Zn,Zb,Zp] at g1 g2;obtain⟨⟨w1,w2⟩,w3⟩:=g2;simp only[within,Zp,Qa2] at w1 w2 w3;obtain⟨b,hb⟩:∃ b,b=(bg r).val:=⟨_,rfl⟩;have vt:b=header 2 r.By++(r.BY.name++0::(r.BY.inst++0::(r.BY.aK++0::(aJ r.time 4 r.By++(aJ 1 1 Zw++(aJ r.cJ 4 r.By++(aJ r.bt 1 Zw++(aJ r.cI.length 2 r.By++r.cI)))))))):=by
  rw[hb,hval];simp[bz,cW]
 rw[<-hb];have hh:aM b [2]=(r.By,0):=by rw[vt];exact D1 (by omega) (by omega) _ _
 have l2:=z0 (k:=2) (by omega) (by omega) r.By;have hp:=yu (pos:=2) vt (by rw[l2];rfl) g1;obtain⟨q0,PF⟩:∃ q:Int,q=2+r.BY.name.length+r.BY.inst.length+r.BY.aK.length+3:=⟨_,rfl⟩;rw[<-PF] at hp;obtain⟨nt,uD⟩:∃ p,p=header 2 r.By++(r.BY.name++0::(r.BY.inst++0::(r.BY.aK++[0]))):=⟨_,rfl⟩;have ja:q0=nt.length:=by rw[PF,uD];simp[l2];omega
 have ow:b=nt++(aJ r.time 4 r.By++(aJ 1 1 Zw++(aJ r.cJ 4 r.By++(aJ r.bt 1 Zw++(aJ r.cI.length 2 r.By++r.cI))))):=by rw[vt,uD];simp
 have ht:get b q0 4 r.By=⟨r.time,q0+4,0⟩:=get_at (k:=4) ow ja (by omega) w1.1 (by omega);have ho:get b (q0+4) 1 Zw=⟨1,q0+4+1,0⟩:=get_at (k:=1) (n:=1) (pre:=nt++aJ r.time 4 r.By) (post:=aJ r.cJ 4 r.By++(aJ r.bt 1 Zw++(aJ r.cI.length 2 r.By++r.cI))) (by rw[ow];simp) (by simp[ai,ja]) (by omega) (by omega) (by omega);have he:get b (q0+4+1) 4 r.By=⟨r.cJ,q0+4+1+4,0⟩:=get_at (k:=4) (n:=r.cJ) (pre:=nt++aJ r.time 4 r.By++aJ 1 1 Zw) (post:=aJ r.bt 1 Zw++(aJ r.cI.length 2 r.By++r.cI)) (by rw[ow];simp) (by simp[ai,ja];omega) (by omega) w2.1 (by omega);have hk:get b (q0+4+1+4) 1 Zw=⟨r.bt,q0+4+1+4+1,0⟩:=get_at (k:=1) (n:=r.bt) (pre:=nt++aJ r.time 4 r.By++aJ 1 1 Zw++aJ r.cJ 4 r.By) (post:=aJ r.cI.length 2 r.By++r.cI) (by rw[ow];simp) (by simp[ai,ja];omega) (by omega) w3.1 (by omega);have hn:get b (q0+4+1+4+1) 2 r.By=⟨r.cI.length,q0+4+1+4+1+2,0⟩:=get_at (k:=2) (n:=r.cI.length) (pre:=nt++aJ r.time 4 r.By++aJ 1 1 Zw++aJ r.cJ 4 r.By++aJ r.bt 1 Zw) (post:=r.cI) (by rw[ow];simp) (by simp[ai,ja];omega) (by omega) (by omega) (by omega);have hs:bytes b (q0+4+1+4+1+2) r.cI.length=⟨r.cI,_,0⟩:=pN (pre:=nt++aJ r.time 4 r.By++aJ 1 1 Zw++aJ r.cJ 4 r.By++aJ r.bt 1 Zw++aJ r.cI.length 2 r.By) (post:=[]) (by rw[ow];simp) (by simp[ai,ja];omega) rfl;have PG:jt b=r:=by
  unfold jt;simp only[hh,hp,ht,ho,he,hk,hn,hs]
 unfold bm;rw[hh,PG,Px,<-hb];simp
theorem PS{k:Int}(h0:0<=k)(h1:k<18446744073709551616):Zy AI (Int.fdiv k ((2:Int) ^ min (Zx (56:Int)) (Yz AT)))=nf k:=by
 have e:min (Zx (56:Int)) (Yz AT)=56:=by decide
 rw[e,Xz _ (Int.le_of_lt (Int.pow_pos (by omega)))];unfold nf;have e2:(2:Int) ^ 56=72057594037927936:=by decide
 rw[e2,wrap_i64 (by omega) (by omega)]
theorem PT{k:Int}(h0:0<=k)(h1:k<18446744073709551616):Zy AI (Zy AT (((BitVec.ofInt (Yz AT) k &&& BitVec.ofInt (Yz AT) (72057594037927935:Int)).toNat:Nat):Int))=mC k:=by
 obtain⟨m,rfl⟩:=Yu h0;have hb:Yz AT=64:=rfl;have e2:(BitVec.ofInt 64 ((m:Nat):Int) &&& BitVec.ofInt 64 (72057594037927935:Int)).toNat=m % 72057594037927936:=by
  have e3:BitVec.ofInt 64 (72057594037927935:Int)=BitVec.ofNat 64 (2 ^ 56-1):=by decide
  rw[BitVec.ofInt_natCast,e3,BitVec.toNat_and,BitVec.toNat_ofNat,BitVec.toNat_ofNat,Yv (by omega),Yv (by decide),Nat.and_two_pow_sub_one_eq_mod]
 rw[hb,e2,wrap_u64];unfold mC;rw[wrap_i64 (by omega) (by omega)];omega
theorem PU{c n:Int}(hc:c=1\/c=2)(h0:1<=n)(h1:n<=4294967295):Zy AT (((BitVec.ofInt (Yz AT) (Zy AT (Zy AT c*(2:Int) ^ min (Zx (56:Int)) (Yz AT))) ||| BitVec.ofInt (Yz AT) (Zy AT n)).toNat:Nat):Int)=c*72057594037927936+n:=by
 have e:min (Zx (56:Int)) (Yz AT)=56:=by decide
 have hb:Yz AT=64:=rfl;obtain⟨m,rfl⟩:=Yu (by omega:0<=n);obtain⟨d,rfl⟩:=Yu (by omega:0<=c);have e2:(2:Int) ^ 56=72057594037927936:=by decide
 rw[e,e2,wrap_u64,wrap_u64,wrap_u64,wrap_u64,hb];have q1:((d:Int) % 18446744073709551616*72057594037927936) % 18446744073709551616=((2 ^ 56*d:Nat):Int):=by omega
 have q2:((m:Int) % 18446744073709551616)=((m:Nat):Int):=by omega
 rw[q1,q2];have e3:(BitVec.ofInt 64 ((2 ^ 56*d:Nat):Int) ||| BitVec.ofInt 64 ((m:Nat):Int)).toNat=2 ^ 56*d+m:=by
  rw[BitVec.ofInt_natCast,BitVec.ofInt_natCast,BitVec.toNat_or,BitVec.toNat_ofNat,BitVec.toNat_ofNat,Yv (by omega),Yv (by omega)];exact(Yh (by omega) d).symm
 rw[e3];omega
theorem IL{n:Int}(c:UInt8)(h0:0<=n)(h1:n<72057594037927936):Zy AT ((BitVec.ofInt (Yz AT) (Zy AT (n*2 ^ min (Zx 8) (Yz AT))) ||| BitVec.ofInt (Yz AT) (Zy AT (c.toNat:Int))).toNat:Int)=n*256+c.toNat:=by
 obtain⟨m,rfl⟩:=Yu h0;have hc:=c.toNat_lt;have e:min (Zx 8) (Yz AT)=8:=by decide
 have hb:Yz AT=64:=rfl;rw[e,wrap_u64,wrap_u64,wrap_u64,hb];have q1:((m:Int)*2 ^ 8) % 18446744073709551616=((2 ^ 8*m:Nat):Int):=by omega
 have q2:((c.toNat:Int) % 18446744073709551616)=((c.toNat:Nat):Int):=by omega
 rw[q1,q2];have e2:(BitVec.ofInt 64 ((2 ^ 8*m:Nat):Int) ||| BitVec.ofInt 64 ((c.toNat:Nat):Int)).toNat=2 ^ 8*m+c.toNat:=by
  rw[BitVec.ofInt_natCast,BitVec.ofInt_natCast,BitVec.toNat_or,BitVec.toNat_ofNat,BitVec.toNat_ofNat,Yv (by omega),Yv (by omega)];exact(Yh hc m).symm
 rw[e2];omega
theorem Tk(k:Int):nf k*72057594037927936+mC k=k:=by
 unfold nf mC;omega
theorem C1{l:Bytes}(h:l.length<=8):0<=jU l/\jU l<18446744073709551616:=by
 obtain⟨m,h1,h2⟩:=C2 l;have:256 ^ l.length<=256 ^ 8:=Yb (by omega) h;rw[h1];omega
theorem JL{l:Bytes}(h:l.length<=7):0<=jU l/\jU l<72057594037927936:=by
 obtain⟨m,h1,h2⟩:=C2 l;have:256 ^ l.length<=256 ^ 7:=Yb (by omega) h;rw[h1];omega
theorem aj(k:Int):(keyBytes k).length=8:=by simp[keyBytes]
theorem FG{k:Int}(h0:0<=k)(h1:k<18446744073709551616):jU (keyBytes k)=k:=by
 have hv:jU (keyBytes k)=(((((((((fa k 7).toNat:Int)*256+((fa k 6).toNat:Int))*256+((fa k 5).toNat:Int))*256+((fa k 4).toNat:Int))*256+((fa k 3).toNat:Int))*256+((fa k 2).toNat:Int))*256+((fa k 1).toNat:Int))*256+((fa k 0).toNat:Int)):=by simp[keyBytes,jU,List.range_succ]
 have st:∀ i,k / 2 ^ (8*(i+1))=k / 2 ^ (8*i) / 256:=λi=>by
  rw[show 8*(i+1)=8*i+8 by omega,Int.pow_add,Int.ediv_ediv_of_nonneg (Int.le_of_lt (Int.pow_pos (by omega)))];rfl
 have ev:∀ i,((fa k i).toNat:Int)=k / 2 ^ (8*i)-256*(k / 2 ^ (8*(i+1))):=λi=>by
  rw[pM,st];have:=Int.emod_add_mul_ediv (k / 2 ^ (8*i)) 256;omega
 have z:k / 2 ^ (8*(7+1))=0:=Int.ediv_eq_zero_of_lt h0 (by simpa using h1);have o:k / 2 ^ (8*0)=k:=by simp
 have e0:=ev 0;have e1:=ev 1;have e2:=ev 2;have e3:=ev 3;have e4:=ev 4;have e5:=ev 5;have e6:=ev 6;have e7:=ev 7;rw[z] at e7;rw[o] at e0;clear ev st;rw[hv,e0,e1,e2,e3,e4,e5,e6,e7];simp only[Nat.reduceAdd];generalize k / 2 ^ (8*7)=k7;generalize k / 2 ^ (8*6)=k6;generalize k / 2 ^ (8*5)=k5;generalize k / 2 ^ (8*4)=k4;generalize k / 2 ^ (8*3)=k3;generalize k / 2 ^ (8*2)=k2;generalize k / 2 ^ (8*1)=k1;omega
theorem ga{k:Int}(h0:0<=k)(h1:k<18446744073709551616)(hv:bB k=Zf):cK (keyBytes k)=(k,Zf):=by
 unfold cK;rw[FG h0 h1,Qa1 ⟨aj k,hv⟩]
theorem dV(b:Bytes):0<=(cK b).1/\(cK b).1<18446744073709551616:=by
 unfold cK;split
 .rename_i h;exact C1 (by omega)
 .simp
theorem gN(b:Bytes)(pos n:Int):(bytes b pos n).val.length<=b.length:=by
 unfold bytes;split
 .simp[cut];omega
 .simp
theorem vy(b:Bytes):(pad b).length=b.length+(8-b.length % 8) % 8:=by simp[pad]
theorem Wl{n:Nat}(h:n<=70368744177664):Int.tmod (Zy AI ((8:Int)-Int.tmod (n:Int) 8)) 8=(((8-n % 8) % 8:Nat):Int):=by
 rw[Yp (a:=(n:Int)) (by omega),wrap_i64 (by omega) (by omega),Yp (by omega)];omega
theorem Bi(r:fU)(By:Bool):(bp r By).val.length<=392:=by
 unfold bp;split
 .simp
 split
 .simp
 split
 .simp
 split
 .simp
 rename_i g0 g1 g2 g3;simp only[Zn,Zb] at g1;have h1:=cV g1;simp only[vy,ar,ai,aj,List.length_append];omega
theorem ul{r:fU}{By:Bool}(h:(bp r By).err=0) :
  bB r.ax=Zf/\r.service.valid=Zf/\(0<=r.bS/\r.bS<=255)/\(0<=r.bt/\r.bt<=255)/\(0<=r.time/\r.time<=4294967295)/\r.aG.length<=255 /\
  (bp r By).val=pad (cW (aJ (cond By 1 0) 1 Zw++keyBytes r.ax) r.service++aJ r.bS 1 Zw++aJ r.bt 1 Zw++aJ r.aG.length 1 Zw++r.aG++aJ r.time 4 By):=by
 unfold bp at h;split at h
 .cases h
 split at h
 .cases h
 split at h
 .cases h
 split at h
 .cases h
 rename_i g0 g1 g2 g3;have hval:(bp r By).val=pad (cW (aJ (cond By 1 0) 1 Zw++keyBytes r.ax) r.service++aJ r.bS 1 Zw++aJ r.bt 1 Zw++aJ r.aG.length 1 Zw++r.aG++aJ r.time 4 By):=by
  unfold bp;rw[Qa0 g0,Qa0 g1,Qa0 g2,Qa0 g3]
 simp only[Zn,Zb,Zp] at g0 g1 g2;obtain⟨⟨w1,w2⟩,w3⟩:=g2;simp only[within,Zp,Qa2] at w1 w2 w3;exact⟨g0,g1,w1,w2,w3,by omega,hval⟩
theorem Wo(l:Bool):aJ (cond l 1 0) 1 Zw=[cond l 1 0]:=by cases l<;>rfl
theorem NN{r:fU}{By:Bool}(z7:0<=r.ax)(lh:r.ax<18446744073709551616)(h:(bp r By).err=0):bu (bp r By).val By=⟨r,0⟩:=by
 have Px:=h;obtain⟨g0,g1,w1,w2,w3,w4,hval⟩:=ul h;obtain⟨b,hb⟩:∃ b,b=(bp r By).val:=⟨_,rfl⟩;obtain⟨z,hz⟩:∃ z,b=[cond By 1 0]++(keyBytes r.ax++(r.service.name++0::(r.service.inst++0::(r.service.aK++0::(aJ r.bS 1 Zw++(aJ r.bt 1 Zw++(aJ r.aG.length 1 Zw++(r.aG++(aJ r.time 4 By++z))))))))):=by
  rw[hb,hval,Wo];exact⟨List.replicate _ 0,by simp only[pad,bz,cW,List.append_assoc,List.cons_append,List.nil_append];rfl⟩
 rw[<-hb];have l8:=aj r.ax;have VN:bytes b 1 8=⟨keyBytes r.ax,1+8,0⟩:=pN hz rfl (by rw[l8];rfl);have Tc:=ga z7 lh g0;have hp:gM b (1+8)=_:=yu (pos:=1+8) (b:=b) (pre:=[cond By 1 0]++keyBytes r.ax) (p:=r.service) (by rw[hz];simp;rfl) (by simp[l8]) g1;obtain⟨q0,PF⟩:∃ q:Int,q=1+8+r.service.name.length+r.service.inst.length+r.service.aK.length+3:=⟨_,rfl⟩;rw[<-PF] at hp;obtain⟨nt,uD⟩:∃ p,p=[cond By 1 0]++(keyBytes r.ax++(r.service.name++0::(r.service.inst++0::(r.service.aK++[0])))):=⟨_,rfl⟩;have ja:q0=nt.length:=by rw[PF,uD];simp[l8];omega
 have ow:b=nt++(aJ r.bS 1 Zw++(aJ r.bt 1 Zw++(aJ r.aG.length 1 Zw++(r.aG++(aJ r.time 4 By++z))))):=by rw[hz,uD];simp
 have hl:get b q0 1 Zw=⟨r.bS,q0+1,0⟩:=get_at (k:=1) ow ja (by omega) w1.1 (by omega);have hk:get b (q0+1) 1 Zw=⟨r.bt,q0+1+1,0⟩:=get_at (k:=1) (n:=r.bt) (pre:=nt++aJ r.bS 1 Zw) (post:=aJ r.aG.length 1 Zw++(r.aG++(aJ r.time 4 By++z))) (by rw[ow];simp) (by simp[ai,ja]) (by omega) w2.1 (by omega);have hn:get b (q0+1+1) 1 Zw=⟨r.aG.length,q0+1+1+1,0⟩:=get_at (k:=1) (n:=r.aG.length) (pre:=nt++aJ r.bS 1 Zw++aJ r.bt 1 Zw) (post:=r.aG++(aJ r.time 4 By++z)) (by rw[ow];simp) (by simp[ai,ja];omega) (by omega) (by omega) (by omega);have ht:bytes b (q0+1+1+1) r.aG.length=⟨r.aG,q0+1+1+1+r.aG.length,0⟩:=pN (pre:=nt++aJ r.bS 1 Zw++aJ r.bt 1 Zw++aJ r.aG.length 1 Zw) (post:=aJ r.time 4 By++z) (by rw[ow];simp) (by simp[ai,ja];omega) rfl;have hs:get b (q0+1+1+1+r.aG.length) 4 By=⟨r.time,q0+1+1+1+r.aG.length+4,0⟩:=get_at (k:=4) (n:=r.time) (pre:=nt++aJ r.bS 1 Zw++aJ r.bt 1 Zw++aJ r.aG.length 1 Zw++r.aG) (post:=z) (by rw[ow];simp) (by simp[ai,ja];omega) (by omega) w3.1 (by omega);have PG:js b By=r:=by
  unfold js;simp only[VN,Tc,hp,hl,hk,hn,ht,hs]
 unfold bu;rw[PG,Px,<-hb];simp
theorem cl{b:Bytes}{k pos n nx:Int}{li:Bool}(h:get b pos k li=⟨n,nx,0⟩):dK b k li pos Zw=⟨n,nx,Zw⟩:=by
 unfold dK;rw[h];rfl
theorem rX{b s:Bytes}{pos nx:Int}(h:text b pos=⟨s,nx,0⟩):nE b pos Zw=⟨s,nx,Zw⟩:=by
 unfold nE;rw[h];rfl
theorem eE{b s:Bytes}{pos n nx:Int}(h:bytes b pos n=⟨s,nx,0⟩):dw b n pos Zw=⟨s,nx,Zw⟩:=by
 unfold dw;rw[h];rfl
theorem lD{b:Bytes}{p:bn}{pos nx:Int}(h:gM b pos=⟨p,nx,0⟩):dN b pos Zw=⟨p,nx,Zw⟩:=by
 unfold gM at h;by_cases h1:(text b pos).err=0;case neg=>rw[Qa1 h1] at h;simp at h;exact absurd h.2.2 h1
 rw[Qa0 (by simpa using h1)] at h;by_cases h2:(text b (text b pos).next).err=0;case neg=>rw[Qa1 h2] at h;simp at h;exact absurd h.2.2 h2
 rw[Qa0 (by simpa using h2)] at h;by_cases h3:(text b (text b (text b pos).next).next).err=0;case neg=>rw[Qa1 h3] at h;simp at h;exact absurd h.2.2 h3
 rw[Qa0 (by simpa using h3)] at h;split at h
 .simp only[XS.mk.injEq,Qa8] at h;obtain⟨rfl,rfl⟩:=h;unfold dN;simp[h1,h2,h3]
 .simp at h
theorem KW{r:jN}(h:(bg r).err=0):(kj (bg r).val).val=r/\(kj (bg r).val).bad=Zw:=by
 unfold bg at h;split at h
 .cases h
 split at h
 .cases h
 split at h
 .cases h
 rename_i g1 g2 g3;have hval:(bg r).val=cW (header 2 r.By) r.BY++aJ r.time 4 r.By++aJ 1 1 Zw++aJ r.cJ 4 r.By++aJ r.bt 1 Zw++aJ r.cI.length 2 r.By++r.cI:=by
  unfold bg;rw[Qa0 g1,Qa0 g2,Qa0 g3]
 have Px:(bg r).err=0:=by unfold bg;rw[Qa0 g1,Qa0 g2,Qa0 g3]
 simp only[Zn,Zb,Zp] at g1 g2;obtain⟨⟨w1,w2⟩,w3⟩:=g2;simp only[within,Zp,Qa2] at w1 w2 w3;obtain⟨b,hb⟩:∃ b,b=(bg r).val:=⟨_,rfl⟩;have vt:b=header 2 r.By++(r.BY.name++0::(r.BY.inst++0::(r.BY.aK++0::(aJ r.time 4 r.By++(aJ 1 1 Zw++(aJ r.cJ 4 r.By++(aJ r.bt 1 Zw++(aJ r.cI.length 2 r.By++r.cI)))))))):=by
  rw[hb,hval];simp[bz,cW]
 rw[<-hb];have hh:aM b [2]=(r.By,0):=by rw[vt];exact D1 (by omega) (by omega) _ _
 have l2:=z0 (k:=2) (by omega) (by omega) r.By;have hp:=yu (pos:=2) vt (by rw[l2];rfl) g1;obtain⟨q0,PF⟩:∃ q:Int,q=2+r.BY.name.length+r.BY.inst.length+r.BY.aK.length+3:=⟨_,rfl⟩;rw[<-PF] at hp;obtain⟨nt,uD⟩:∃ p,p=header 2 r.By++(r.BY.name++0::(r.BY.inst++0::(r.BY.aK++[0]))):=⟨_,rfl⟩;have ja:q0=nt.length:=by rw[PF,uD];simp[l2];omega
 have ow:b=nt++(aJ r.time 4 r.By++(aJ 1 1 Zw++(aJ r.cJ 4 r.By++(aJ r.bt 1 Zw++(aJ r.cI.length 2 r.By++r.cI))))):=by rw[vt,uD];simp
 have ht:get b q0 4 r.By=⟨r.time,q0+4,0⟩:=get_at (k:=4) ow ja (by omega) w1.1 (by omega);have ho:get b (q0+4) 1 Zw=⟨1,q0+4+1,0⟩:=get_at (k:=1) (n:=1) (pre:=nt++aJ r.time 4 r.By) (post:=aJ r.cJ 4 r.By++(aJ r.bt 1 Zw++(aJ r.cI.length 2 r.By++r.cI))) (by rw[ow];simp) (by simp[ai,ja]) (by omega) (by omega) (by omega);have he:get b (q0+4+1) 4 r.By=⟨r.cJ,q0+4+1+4,0⟩:=get_at (k:=4) (n:=r.cJ) (pre:=nt++aJ r.time 4 r.By++aJ 1 1 Zw) (post:=aJ r.bt 1 Zw++(aJ r.cI.length 2 r.By++r.cI)) (by rw[ow];simp) (by simp[ai,ja];omega) (by omega) w2.1 (by omega);have hk:get b (q0+4+1+4) 1 Zw=⟨r.bt,q0+4+1+4+1,0⟩:=get_at (k:=1) (n:=r.bt) (pre:=nt++aJ r.time 4 r.By++aJ 1 1 Zw++aJ r.cJ 4 r.By) (post:=aJ r.cI.length 2 r.By++r.cI) (by rw[ow];simp) (by simp[ai,ja];omega) (by omega) w3.1 (by omega);have hn:get b (q0+4+1+4+1) 2 r.By=⟨r.cI.length,q0+4+1+4+1+2,0⟩:=get_at (k:=2) (n:=r.cI.length) (pre:=nt++aJ r.time 4 r.By++aJ 1 1 Zw++aJ r.cJ 4 r.By++aJ r.bt 1 Zw) (post:=r.cI) (by rw[ow];simp) (by simp[ai,ja];omega) (by omega) (by omega) (by omega);have hs:bytes b (q0+4+1+4+1+2) r.cI.length=⟨r.cI,_,0⟩:=pN (pre:=nt++aJ r.time 4 r.By++aJ 1 1 Zw++aJ r.cJ 4 r.By++aJ r.bt 1 Zw++aJ r.cI.length 2 r.By) (post:=[]) (by rw[ow];simp) (by simp[ai,ja];omega) rfl;unfold kj;simp only[hh,lD hp,cl ht,cl ho,cl he,cl hk,cl hn,eE hs];exact⟨trivial,trivial⟩
theorem Iy{b:Bytes}(hh:(aM b [2]).2=0):bm b=if (kj b).bad=Zf\/(bg (kj b).val).err≠0\/(bg (kj b).val).val≠b then⟨FY,100⟩ else⟨(kj b).val,0⟩:=by
 by_cases h:(kj b).bad=Zf\/(bg (kj b).val).err≠0\/(bg (kj b).val).val≠b
 .rw[Qa1 h];unfold bm;rw[Qa0 (by simpa using hh)];by_cases g:(bg (jt b)).err≠0\/(bg (jt b)).val≠b
  .rw[Qa1 g]
  .exfalso;have g1:(bg (jt b)).err=0:=Decidable.byContradiction λx=>g (.inl x);have g2:(bg (jt b)).val=b:=Decidable.byContradiction λx=>g (.inr x);obtain⟨qF,n7⟩:=KW g1;rw[g2] at qF n7;rw[qF,n7,g1,g2] at h;simp at h
 .rw[Qa0 h];have g1:(bg (kj b).val).err=0:=Decidable.byContradiction λx=>h (.inr (.inl x));have g2:(bg (kj b).val).val=b:=Decidable.byContradiction λx=>h (.inr (.inr x));have:=KX g1;rw[g2] at this;exact this
theorem k9(b:Bytes)(pos:Int)(bad:Bool):(dN b pos bad).p.name.length<=40/\(dN b pos bad).p.inst.length<=40/\(dN b pos bad).p.aK.length<=40 :=
 ⟨fX _ _,fX _ _,fX _ _⟩
theorem NY{r:fU}{By:Bool}(z7:0<=r.ax)(lh:r.ax<18446744073709551616)(h:(bp r By).err=0):(lR (bp r By).val By).val=r/\(lR (bp r By).val By).bad=Zw:=by
 have Px:=h;obtain⟨g0,g1,w1,w2,w3,w4,hval⟩:=ul h;obtain⟨b,hb⟩:∃ b,b=(bp r By).val:=⟨_,rfl⟩;obtain⟨z,hz⟩:∃ z,b=[cond By 1 0]++(keyBytes r.ax++(r.service.name++0::(r.service.inst++0::(r.service.aK++0::(aJ r.bS 1 Zw++(aJ r.bt 1 Zw++(aJ r.aG.length 1 Zw++(r.aG++(aJ r.time 4 By++z))))))))):=by
  rw[hb,hval,Wo];exact⟨List.replicate _ 0,by simp only[pad,bz,cW,List.append_assoc,List.cons_append,List.nil_append];rfl⟩
 rw[<-hb];have l8:=aj r.ax;have VN:bytes b 1 8=⟨keyBytes r.ax,1+8,0⟩:=pN hz rfl (by rw[l8];rfl);have Tc:=ga z7 lh g0;have hp:gM b (1+8)=_:=yu (pos:=1+8) (b:=b) (pre:=[cond By 1 0]++keyBytes r.ax) (p:=r.service) (by rw[hz];simp;rfl) (by simp[l8]) g1;obtain⟨q0,PF⟩:∃ q:Int,q=1+8+r.service.name.length+r.service.inst.length+r.service.aK.length+3:=⟨_,rfl⟩;rw[<-PF] at hp;obtain⟨nt,uD⟩:∃ p,p=[cond By 1 0]++(keyBytes r.ax++(r.service.name++0::(r.service.inst++0::(r.service.aK++[0])))):=⟨_,rfl⟩;have ja:q0=nt.length:=by rw[PF,uD];simp[l8];omega
 have ow:b=nt++(aJ r.bS 1 Zw++(aJ r.bt 1 Zw++(aJ r.aG.length 1 Zw++(r.aG++(aJ r.time 4 By++z))))):=by rw[hz,uD];simp
 have hl:get b q0 1 Zw=⟨r.bS,q0+1,0⟩:=get_at (k:=1) ow ja (by omega) w1.1 (by omega);have hk:get b (q0+1) 1 Zw=⟨r.bt,q0+1+1,0⟩:=get_at (k:=1) (n:=r.bt) (pre:=nt++aJ r.bS 1 Zw) (post:=aJ r.aG.length 1 Zw++(r.aG++(aJ r.time 4 By++z))) (by rw[ow];simp) (by simp[ai,ja]) (by omega) w2.1 (by omega);have hn:get b (q0+1+1) 1 Zw=⟨r.aG.length,q0+1+1+1,0⟩:=get_at (k:=1) (n:=r.aG.length) (pre:=nt++aJ r.bS 1 Zw++aJ r.bt 1 Zw) (post:=r.aG++(aJ r.time 4 By++z)) (by rw[ow];simp) (by simp[ai,ja];omega) (by omega) (by omega) (by omega);have ht:bytes b (q0+1+1+1) r.aG.length=⟨r.aG,q0+1+1+1+r.aG.length,0⟩:=pN (pre:=nt++aJ r.bS 1 Zw++aJ r.bt 1 Zw++aJ r.aG.length 1 Zw) (post:=aJ r.time 4 By++z) (by rw[ow];simp) (by simp[ai,ja];omega) rfl;have hs:get b (q0+1+1+1+r.aG.length) 4 By=⟨r.time,q0+1+1+1+r.aG.length+4,0⟩:=get_at (k:=4) (n:=r.time) (pre:=nt++aJ r.bS 1 Zw++aJ r.bt 1 Zw++aJ r.aG.length 1 Zw++r.aG) (post:=z) (by rw[ow];simp) (by simp[ai,ja];omega) (by omega) w3.1 (by omega);have ho:get b 0 1 Zw=⟨cond By 1 0,1,0⟩:=by
  have:=get_at (b:=b) (pre:=[]) (pos:=0) (n:=cond By 1 0) (k:=1) (By:=Zw) (post:=keyBytes r.ax++(r.service.name++0::(r.service.inst++0::(r.service.aK++0::(aJ r.bS 1 Zw++(aJ r.bt 1 Zw++(aJ r.aG.length 1 Zw++(r.aG++(aJ r.time 4 By++z))))))))) (by rw[Wo];exact hz) rfl (by omega) (by cases By<;>simp) (by cases By<;>simp);exact this
 unfold lR;simp only[cl ho,eE VN,Tc,lD hp,cl hl,cl hk,cl hn,eE ht,cl hs];exact⟨trivial,trivial⟩
theorem Ai(b:Bytes)(By:Bool):0<=(js b By).ax/\(js b By).ax<18446744073709551616:=dV _
theorem Ew(b:Bytes)(By:Bool):0<=(lR b By).val.ax/\(lR b By).val.ax<18446744073709551616:=dV _
theorem KV(b:Bytes)(li:Bool):bu b li=if (lR b li).bad=Zf\/(bp (lR b li).val li).err≠0\/(bp (lR b li).val li).val≠b then⟨sS,100⟩ else⟨(lR b li).val,0⟩:=by
 by_cases h:(lR b li).bad=Zf\/(bp (lR b li).val li).err≠0\/(bp (lR b li).val li).val≠b
 .rw[Qa1 h];unfold bu;by_cases g:(bp (js b li) li).err≠0\/(bp (js b li) li).val≠b
  .rw[Qa1 g]
  .exfalso;have g1:(bp (js b li) li).err=0:=Decidable.byContradiction λx=>g (.inl x);have g2:(bp (js b li) li).val=b:=Decidable.byContradiction λx=>g (.inr x);obtain⟨qF,n7⟩:=NY (Ai b li).1 (Ai b li).2 g1;rw[g2] at qF n7;rw[qF,n7,g1,g2] at h;simp at h
 .rw[Qa0 h];have g1:(bp (lR b li).val li).err=0:=Decidable.byContradiction λx=>h (.inr (.inl x));have g2:(bp (lR b li).val li).val=b:=Decidable.byContradiction λx=>h (.inr (.inr x));have:=NN (Ew b li).1 (Ew b li).2 g1;rw[g2] at this;exact this
theorem wrap_u16(x:Int):Zy .u16 x=x % 65536:=by
 rw[Zy];rfl
theorem Lm{b:Bytes}{how:Int}(h0:0<=how)(h1:how<=65535)(hb:0<b.length):0<=px b how/\px b how<b.length:=by
 unfold px;rw[Int.tdiv_eq_ediv_of_nonneg h0,wrap_u16,wrap_i64 (by omega) (by omega),Yp (by omega)];exact⟨Int.emod_nonneg _ (by omega),Int.emod_lt_of_pos _ (by omega)⟩
theorem Oo(b:Bytes)(how:Int):(tD b how).length<=2*b.length+1:=by grind [tD]
end Kerb
/- Reading what was written: a place in a text, and what is behind it. -/
namespace Kerb
open Go Go.Abs
def At(b:Bytes)(pos:Int)(rest:Bytes):Prop:=∃ pre:Bytes,b=pre++rest/\pos=pre.length
theorem At.start(b:Bytes):At b 0 b:=⟨[],rfl,rfl⟩
theorem At.skip{b s rest:Bytes}{pos:Int}(h:At b pos (s++rest)):At b (pos+s.length) rest:=by
 obtain⟨pre,rfl,rfl⟩:=h;exact⟨pre++s,by simp,by simp⟩
theorem At.to{b rest:Bytes}{pos q:Int}(h:At b pos rest)(e:pos=q):At b q rest:=e ▸ h
theorem At.as{b rest Um:Bytes}{pos:Int}(h:At b pos rest)(e:rest=Um):At b pos Um:=e ▸ h
theorem At.get{b rest:Bytes}{pos n:Int}{k:Nat}{li:Bool}(h:At b pos (aJ n k li++rest))(hk:k=1\/k=2\/k=4)(h0:0<=n)(h1:n<256 ^ k) :
  Kerb.get b pos k li=⟨n,pos+k,0⟩/\At b (pos+k) rest:=by
 have hs:=h.skip;rw[ai] at hs;obtain⟨pre,hb,hp⟩:=h;exact⟨get_at hb hp hk h0 h1,hs⟩
theorem At.bytes{b s rest:Bytes}{pos n:Int}(h:At b pos (s++rest))(hn:n=s.length):Kerb.bytes b pos n=⟨s,pos+n,0⟩/\At b (pos+n) rest:=by
 have hs:=h.skip;obtain⟨pre,hb,hp⟩:=h;exact⟨pN hb hp hn,hn ▸ hs⟩
theorem At.text{b s rest:Bytes}{pos:Int}(h:At b pos (s++0::rest))(hs:s.length<=39)(h0:(0:UInt8) ∉ s):Kerb.text b pos=⟨s,pos+s.length+1,0⟩/\At b (pos+s.length+1) rest:=by
 have h2:At b (pos+s.length) ([0]++rest):=h.skip;have h3:=h2.skip;obtain⟨pre,hb,hp⟩:=h;exact⟨AY hb hp hs h0,h3⟩
theorem At.gM{b rest:Bytes}{p:bn}{pos:Int}(h:At b pos (p.name++0::(p.inst++0::(p.aK++0::rest))))(hv:p.valid=Zf) :
  ∃ q,Kerb.gM b pos=⟨p,q,0⟩/\At b q rest:=by
 obtain⟨pre,hb,hp⟩:=h;have:=yu hb hp hv;refine⟨_,this,pre++(p.name++0::(p.inst++0::(p.aK++[0]))),by rw[hb];simp,?_⟩;rw[hp];simp;omega
end Kerb
/- Chapter 22: messages of kaservers, in plain words. -/
namespace Kerb
open Go Go.Abs
structure dk where
 op:Int
 user:bn
 bt:Int
 aK:Bytes
 aG:Bytes
 service:Bytes
 inst:Bytes
 box:Bytes
def bn.Ax(p:bn):Bool:=p.name==[]&&(p.inst==[]&&p.aK==[])
def nc(n:Int):Bool:=n==1||(n==2||n==3)
def uH(op:Int):Bytes:=header 9 Zw++aJ op 1 Zw
def dQ(b:Bytes)(t:Bytes):Bytes:=b++aJ t.length 2 Zw++t
def kh(b:Bytes)(t:Bytes):Bytes:=b++aJ t.length 1 Zw++t
def aP(r:dk):ll :=
 if !nc r.op then⟨[],40⟩
 else if r.op==2 then
  if !(dO r.aK&&validName r.service&&cA r.inst) then⟨[],103⟩
  else if !within r.bt 255 then⟨[],104⟩
  else if 255<r.aG.length\/1012<r.box.length then⟨[],105⟩
  else if !r.user.Ax then⟨[],108⟩
  else⟨dQ (bz (bz (kh (bz (uH r.op++aJ r.bt 1 Zw) r.aK) r.aG) r.service) r.inst) r.box,0⟩
 else
  if !r.user.valid then⟨[],103⟩
  else if 1012<r.box.length then⟨[],105⟩
  else if r.bt≠0\/r.aK≠[]\/r.aG≠[]\/r.service≠[]\/r.inst≠[] then⟨[],108⟩
  else⟨dQ (cW (uH r.op) r.user) r.box,0⟩
def oy:dk:=⟨0,dF,0,[],[],[],[],[]⟩
structure GG (O:Type) where
 val:O
 err:Int
def eN{O:Type}(no:O)(enc:O->ll)(rd:Bytes->O×Bool)(b:Bytes):GG O :=
 if (rd b).2=Zf\/(enc (rd b).1).err≠0\/(enc (rd b).1).val≠b then⟨no,100⟩ else⟨(rd b).1,0⟩
theorem iG{O:Type}{no:O}{enc:O->ll}{P:O->Prop}{rd1 rd2:Bytes->O×Bool}(h1:∀ r,P r->(enc r).err=0->rd1 (enc r).val=(r,Zw))(h2:∀ r,P r->(enc r).err=0->rd2 (enc r).val=(r,Zw))
  (p1:∀ b,P (rd1 b).1) (p2:∀ b,P (rd2 b).1) (b:Bytes):eN no enc rd1 b=eN no enc rd2 b:=by grind [eN]
def gL(b:Bytes)(k:Int)(pos:Int)(bad:Bool):Rd Int :=
 cond (bad || !((get b pos k Zw).err==0)) ⟨0,pos,Zf⟩ ⟨(get b pos k Zw).val,(get b pos k Zw).next,Zw⟩
def mF(b:Bytes)(pos:Int)(bad:Bool):Rd Bytes :=
 cond (bad || !((text b pos).err==0)) ⟨[],pos,Zf⟩ ⟨(text b pos).val,(text b pos).next,Zw⟩
def dM(b:Bytes)(n:Int)(pos:Int)(bad:Bool):Rd Bytes :=
 cond (bad || !((bytes b pos n).err==0)) ⟨[],pos,Zf⟩ ⟨(bytes b pos n).val,(bytes b pos n).next,Zw⟩
def nr(b:Bytes)(pos:Int)(bad:Bool):Rd bn :=
 cond (bad || !((gM b pos).err==0)) ⟨dF,pos,Zf⟩ ⟨(gM b pos).val,(gM b pos).next,Zw⟩
def zG(b:Bytes)(pos:Int)(bad:Bool):Rd Int :=
 ⟨cond (cK (dM b 8 pos bad).val).2 (cK (dM b 8 pos bad).val).1 0,(dM b 8 pos bad).pos,(dM b 8 pos bad).bad || !(cK (dM b 8 pos bad).val).2⟩
def F8(b:Bytes):Rd dk :=
  let o:=gL b 1 2 Zw
  cond (o.val==2)
    (let k:=gL b 1 o.pos o.bad
     let r:=mF b k.pos k.bad
     let n:=gL b 1 r.pos r.bad
     let t:=dM b n.val n.pos n.bad
     let s:=mF b t.pos t.bad
     let i:=mF b s.pos s.bad
     let m:=gL b 2 i.pos i.bad
     let x:=dM b m.val m.pos m.bad
     ⟨⟨o.val,dF,k.val,r.val,t.val,s.val,i.val,x.val⟩,x.pos,x.bad⟩)
    (let u:=nr b o.pos o.bad
     let m:=gL b 2 u.pos u.bad
     let x:=dM b m.val m.pos m.bad
     ⟨⟨o.val,u.val,0,[],[],[],[],x.val⟩,x.pos,x.bad⟩)
def j5(b:Bytes):dk×Bool:=((F8 b).val,(F8 b).bad)
def aV(b:Bytes):GG dk :=
 if (aM b [9]).2≠0 then⟨oy,(aM b [9]).2⟩ else eN oy aP j5 b
structure iI where
 op:Int
 code:Int
 box:Bytes
def bw(r:iI):ll :=
 if !nc r.op then⟨[],40⟩
 else if !within r.code 99 then⟨[],104⟩
 else if 1012<r.box.length then⟨[],105⟩
 else if r.code≠0/\r.box≠[] then⟨[],108⟩
 else⟨dQ (uH (r.op+128)++aJ r.code 1 Zw) r.box,0⟩
def mD:iI:=⟨0,0,[]⟩
def Wi(b:Bytes):Rd iI :=
 let o:=gL b 1 2 Zw
 let c:=gL b 1 o.pos o.bad
 let m:=gL b 2 c.pos c.bad
 let x:=dM b m.val m.pos m.bad
 ⟨⟨o.val-128,c.val,x.val⟩,x.pos,x.bad⟩
def pC(b:Bytes):iI×Bool:=((Wi b).val,(Wi b).bad)
def cD(b:Bytes):GG iI :=
 if (aM b [9]).2≠0 then⟨mD,(aM b [9]).2⟩ else eN mD bw pC b
def vM:Bytes:=[103,84,71,83]
def zu:Bytes:=[116,103,115,84]
def ly:Bytes:=[103,84,75,84]
def p_:Bytes:=[116,107,116,71]
def fO:Bytes:=[67,80,87,108]
def lH:Bytes:=[67,80,87,100]
structure eQ where
 label:Bytes
 time:Int
 start:Int
 stop:Int
 new:Int
def jG(l:Bytes):Bool:=l==vM||l==ly
def aR(s:eQ):ll :=
 if !jG s.label && !(s.label==fO) then⟨[],80⟩
 else if !within s.time 4294967295 then⟨[],104⟩
 else if jG s.label then
  if !(within s.start 4294967295&&within s.stop 4294967295) then⟨[],104⟩
  else if s.new≠0 then⟨[],108⟩
  else⟨pad (s.label++aJ s.time 4 Zw++aJ s.start 4 Zw++aJ s.stop 4 Zw),0⟩
 else
  if !bB s.new then⟨[],10⟩
  else if s.start≠0\/s.stop≠0 then⟨[],108⟩
  else⟨pad (s.label++aJ s.time 4 Zw++keyBytes s.new),0⟩
def n9:eQ:=⟨[],0,0,0,0⟩
def Ir(b:Bytes):Rd eQ :=
  let l:=dM b 4 0 Zw
  let t:=gL b 4 l.pos l.bad
  cond (jG l.val)
    (let s:=gL b 4 t.pos t.bad
     let e:=gL b 4 s.pos s.bad
     ⟨⟨l.val,t.val,s.val,e.val,0⟩,e.pos,e.bad⟩)
    (let k:=zG b t.pos t.bad
     ⟨⟨l.val,t.val,0,0,k.val⟩,k.pos,k.bad⟩)
def iY(b:Bytes):eQ×Bool:=((Ir b).val,(Ir b).bad)
def cE(b:Bytes):GG eQ:=eN n9 aR iY b
structure fT where
 label:Bytes
 time:Int
 ax:Int
 start:Int
 stop:Int
 bt:Int
 service:bn
 aG:Bytes
def ez(l:Bytes):Bool:=l==zu||l==p_
def aZ(a:fT):ll :=
 if !ez a.label && !(a.label==lH) then⟨[],80⟩
 else if !within a.time 4294967295 then⟨[],104⟩
 else if ez a.label then
  if !bB a.ax then⟨[],10⟩
  else if !(within a.start 4294967295&&within a.stop 4294967295&&within a.bt 255) then⟨[],104⟩
  else if !a.service.valid then⟨[],103⟩
  else if 255<a.aG.length then⟨[],105⟩
  else⟨pad (kh (cW (a.label++aJ a.time 4 Zw++keyBytes a.ax++aJ a.start 4 Zw++aJ a.stop 4 Zw++aJ a.bt 1 Zw) a.service) a.aG),0⟩
 else if a.ax≠0\/a.start≠0\/a.stop≠0\/a.bt≠0\/a.service.Ax=Zw\/a.aG≠[] then⟨[],108⟩
 else⟨pad (a.label++aJ a.time 4 Zw),0⟩
def n8:fT:=⟨[],0,0,0,0,0,dF,[]⟩
def DA(b:Bytes):Rd fT :=
  let l:=dM b 4 0 Zw
  let t:=gL b 4 l.pos l.bad
  cond (ez l.val)
    (let k:=zG b t.pos t.bad
     let s:=gL b 4 k.pos k.bad
     let e:=gL b 4 s.pos s.bad
     let v:=gL b 1 e.pos e.bad
     let p:=nr b v.pos v.bad
     let n:=gL b 1 p.pos p.bad
     let x:=dM b n.val n.pos n.bad
     ⟨⟨l.val,t.val,k.val,s.val,e.val,v.val,p.val,x.val⟩,x.pos,x.bad⟩)
    ⟨⟨l.val,t.val,0,0,0,0,dF,[]⟩,t.pos,t.bad⟩
def iX(b:Bytes):fT×Bool:=((DA b).val,(DA b).bad)
def bc(b:Bytes):GG fT:=eN n8 aZ iX b
end Kerb
namespace Kerb
structure Ask where
 op:UInt8
 user:UInt8
 bt:UInt8
 service:UInt8
 label:UInt8
 time:Int
 start:Int
 stop:Int
 key:UInt8
 aG:Bytes
 box:Bytes
 extra:UInt8
def oR(x:UInt8):Int:=(x.toNat:Int)
def Ask.Ul(a:Ask):Int:=1+oR a.op % 3
def Ask.ex(a:Ask):Nat:=a.extra.toNat % 16
def Ask.base(a:Ask):dk :=
 if a.Ul=2 then⟨2,dF,oR a.bt,(Kerb.service (oR a.service)).aK,a.aG,(Kerb.service (oR a.service)).name,(Kerb.service (oR a.service)).inst,a.box.take 900⟩
 else⟨a.Ul,Kerb.user (oR a.user),0,[],[],[],[],a.box.take 900⟩
def tL(n:Int):Int:=Go.IntKind.wrap AT ((BitVec.ofInt (Go.IntKind.bits AT) 72057594037927936 ||| BitVec.ofInt (Go.IntKind.bits AT) (Go.IntKind.wrap AT (Go.IntKind.wrap AI (1+n)))).toNat:Int)
def Ask.lab(l0 l1 l2 l3:Bytes)(a:Ask):Bytes:=if a.label.toNat % 4=0 then l0 else if a.label.toNat % 4=1 then l1 else if a.label.toNat % 4=2 then l2 else l3
def Ask.K5(a:Ask):eQ :=
 let l:=a.lab vM ly fO lH
 let new:=if l=fO\/a.ex=10 then tL (oR a.key) else 0
 if l≠fO\/a.ex=9 then⟨l,a.time,a.start,a.stop,new⟩ else⟨l,a.time,0,0,new⟩
def Ask.answer(a:Ask):fT :=
 let l:=a.lab zu p_ lH vM
 if l=lH/\a.ex≠8 then⟨l,a.time,0,0,0,0,dF,[]⟩
 else⟨l,a.time,ax (oR a.key),a.start,a.stop,oR a.bt,Kerb.service (oR a.service),a.aG⟩
end Kerb
/- Chapter 22: what is written is read as it was. -/
namespace Kerb
open Go Go.Abs
theorem At.mW{b rest:Bytes}{pos n:Int}{li:Bool}(h:At b pos (aJ n 1 li++rest))(h0:0<=n)(h1:n<=255):Kerb.get b pos 1 li=⟨n,pos+1,0⟩/\At b (pos+1) rest :=
 h.get (k:=1) (.inl rfl) h0 (by omega)
theorem At.Hu{b rest:Bytes}{pos n:Int}{li:Bool}(h:At b pos (aJ n 2 li++rest))(h0:0<=n)(h1:n<=65535):Kerb.get b pos 2 li=⟨n,pos+2,0⟩/\At b (pos+2) rest :=
 h.get (k:=2) (.inr (.inl rfl)) h0 (by omega)
theorem At.nY{b rest:Bytes}{pos n:Int}{li:Bool}(h:At b pos (aJ n 4 li++rest))(h0:0<=n)(h1:n<=4294967295):Kerb.get b pos 4 li=⟨n,pos+4,0⟩/\At b (pos+4) rest :=
 h.get (k:=4) (.inr (.inr rfl)) h0 (by omega)
theorem il{b:Bytes}{k pos n nx:Int}(h:get b pos k Zw=⟨n,nx,0⟩):gL b k pos Zw=⟨n,nx,Zw⟩:=by unfold gL;rw[h];rfl
theorem Ca{b s:Bytes}{pos nx:Int}(h:text b pos=⟨s,nx,0⟩):mF b pos Zw=⟨s,nx,Zw⟩:=by unfold mF;rw[h];rfl
theorem jZ{b s:Bytes}{pos n nx:Int}(h:bytes b pos n=⟨s,nx,0⟩):dM b n pos Zw=⟨s,nx,Zw⟩:=by unfold dM;rw[h];rfl
theorem Iq{b:Bytes}{p:bn}{pos nx:Int}(h:gM b pos=⟨p,nx,0⟩):nr b pos Zw=⟨p,nx,Zw⟩:=by unfold nr;rw[h];rfl
theorem Mk{b:Bytes}{k pos nx:Int}(h:bytes b pos 8=⟨keyBytes k,nx,0⟩)(h0:0<=k)(h1:k<18446744073709551616)(hv:bB k=Zf):zG b pos Zw=⟨k,nx,Zw⟩:=by
 unfold zG;rw[jZ h];simp only[ga h0 h1 hv];rfl
theorem within_iff{n m:Int}:within n m=Zf↔0<=n/\n<=m:=by simp[within]
theorem HV{p:bn}:p.Ax=Zf↔p=dF:=by
 obtain⟨a,b,c⟩:=p;simp[bn.Ax,dF]
theorem x9{n:Int}:nc n=Zf↔n=1\/n=2\/n=3:=by simp[nc]
theorem Pv:header 9 Zw=[4,18]:=by decide
theorem pd{r:dk}(h:(aP r).err=0) :
  (r.op=2/\dO r.aK=Zf/\validName r.service=Zf/\cA r.inst=Zf/\(0<=r.bt/\r.bt<=255)/\r.aG.length<=255/\r.box.length<=1012/\r.user=dF /\
   (aP r).val=header 9 Zw++(aJ r.op 1 Zw++(aJ r.bt 1 Zw++(r.aK++0::(aJ r.aG.length 1 Zw++(r.aG++(r.service++0::(r.inst++0::(aJ r.box.length 2 Zw++(r.box++[])))))))))) \/
  ((r.op=1\/r.op=3)/\r.user.valid=Zf/\r.box.length<=1012/\r.bt=0/\r.aK=[]/\r.aG=[]/\r.service=[]/\r.inst=[] /\
   (aP r).val=header 9 Zw++(aJ r.op 1 Zw++(r.user.name++0::(r.user.inst++0::(r.user.aK++0::(aJ r.box.length 2 Zw++(r.box++[]))))))):=by
 unfold aP at h ⊢;split at h
 .cases h
 rename_i g0;rw[Qa0 g0];simp only[Zn,Zb,x9] at g0;split at h
 .rename_i g1;rw[Qa1 g1];split at h
  .cases h
  rename_i g2;rw[Qa0 g2];split at h
  .cases h
  rename_i g3;rw[Qa0 g3];split at h
  .cases h
  rename_i g4;rw[Qa0 g4];split at h
  .cases h
  rename_i g5;rw[Qa0 g5];simp only[Zn,Zb,Zp,within_iff,HV] at g2 g3 g5;refine .inl ⟨by simpa using g1,g2.1.1,g2.1.2,g2.2,g3,by omega,by omega,g5,?_⟩;simp[dQ,bz,kh,uH]
 .rename_i g1;rw[Qa0 g1];split at h
  .cases h
  rename_i g2;rw[Qa0 g2];split at h
  .cases h
  rename_i g3;rw[Qa0 g3];split at h
  .cases h
  rename_i g4;rw[Qa0 g4];simp only[Zn,Zb,Zp] at g2;simp only[ne_eq,not_or,Decidable.not_not] at g4;have g1':¬ r.op=2:=by simpa using g1
  refine .inr ⟨by omega,g2,by omega,g4.1,g4.2.1,g4.2.2.1,g4.2.2.2.1,g4.2.2.2.2,?_⟩;simp[dQ,bz,cW,uH]
theorem Kw{r:dk}(h:(aP r).err=0):j5 (aP r).val=(r,Zw):=by
 have hi:=pd h;generalize (aP r).val=b at hi;obtain⟨op,⟨un,ui,ur⟩,bt,aK,aG,service,inst,box⟩:=r;simp only at hi;rcases hi with⟨ho,v1,v2,v3,hk,ht,hb,hu,hv⟩ | ⟨ho,v1,hb,hk,hr,ht,hs,hn,hv⟩
 .have a0:At b 2 _:=⟨header 9 Zw,hv,by decide⟩;obtain⟨e1,a1⟩:=a0.mW (by omega) (by omega);obtain⟨e2,a2⟩:=a1.mW hk.1 hk.2;obtain⟨e3,a3⟩:=a2.text (gm v1) (oU v1);obtain⟨e4,a4⟩:=a3.mW (by omega) (by omega);obtain⟨e5,a5⟩:=a4.bytes rfl;obtain⟨e6,a6⟩:=a5.text (iu v2) (qn v2);obtain⟨e7,a7⟩:=a6.text (gU v3) (nH v3);obtain⟨e8,a8⟩:=a7.Hu (by omega) (by omega);obtain⟨e9,a9⟩:=a8.bytes rfl;unfold j5 F8;simp only[il e1,il e2,Ca e3,il e4,jZ e5,Ca e6,Ca e7,il e8,jZ e9,ho,Qb2,Qa6];rw[hu]
 .have a0:At b 2 _:=⟨header 9 Zw,hv,by decide⟩;obtain⟨e1,a1⟩:=a0.mW (by omega) (by omega);obtain⟨q,e2,a2⟩:=At.gM (p:=⟨un,ui,ur⟩) a1 v1;obtain⟨e8,a8⟩:=a2.Hu (by omega) (by omega);obtain⟨e9,a9⟩:=a8.bytes rfl;have h2:(op==2)=Zw:=by simp;omega
  unfold j5 F8;simp only[il e1,h2,Qa7,Iq e2,il e8,jZ e9];subst hk hr ht hs hn;rfl
theorem Fk(r:dk):(aP r).val.length<=2000:=by
 by_cases h:(aP r).err=0
 .rcases pd h with⟨ho,v1,v2,v3,hk,ht,hb,hu,hv⟩ | ⟨ho,v1,hb,hk,hr,ht,hs,hn,hv⟩
  .have l1:=gm v1;have l2:=iu v2;have l3:=gU v3;rw[hv,Pv];simp[ai];omega
  .have l1:=cV v1;rw[hv,Pv];simp[ai];omega
 .unfold aP at h ⊢;repeat' split
  all_goals first | simp | skip
  all_goals exfalso;simp_all
theorem sF{r:iI}(h:(bw r).err=0):(1<=r.op/\r.op<=3)/\(0<=r.code/\r.code<=99)/\r.box.length<=1012/\(bw r).val=header 9 Zw++(aJ (r.op+128) 1 Zw++(aJ r.code 1 Zw++(aJ r.box.length 2 Zw++(r.box++[])))):=by
 unfold bw at h ⊢;split at h
 .cases h
 rename_i g0;rw[Qa0 g0];simp only[Zn,Zb,x9] at g0;split at h
 .cases h
 rename_i g1;rw[Qa0 g1];simp only[Zn,Zb,within_iff] at g1;split at h
 .cases h
 rename_i g2;rw[Qa0 g2];split at h
 .cases h
 rename_i g3;rw[Qa0 g3];exact⟨by omega,g1,by omega,by simp[dQ,uH]⟩
theorem Kv{r:iI}(h:(bw r).err=0):pC (bw r).val=(r,Zw):=by
 obtain⟨ho,hc,hb,hv⟩:=sF h;generalize (bw r).val=b at hv;have a0:At b 2 _:=⟨header 9 Zw,hv,by decide⟩;obtain⟨e1,a1⟩:=a0.mW (by omega) (by omega);obtain⟨e2,a2⟩:=a1.mW (by omega) (by omega);obtain⟨e3,a3⟩:=a2.Hu (by omega) (by omega);obtain⟨e4,a4⟩:=a3.bytes rfl;unfold pC Wi;simp only[il e1,il e2,il e3,jZ e4];rw[show r.op+128-128=r.op by omega]
theorem Fj(r:iI):(bw r).val.length<=2000:=by
 by_cases h:(bw r).err=0
 .obtain⟨ho,hc,hb,hv⟩:=sF h;rw[hv,Pv];simp[ai];omega
 .unfold bw at h ⊢;repeat' split
  all_goals first | simp | skip
  all_goals exfalso;simp_all
theorem qe(b:Bytes):∃ z,pad b=b++z/\z.length<=7:=⟨_,rfl,by simp;omega⟩
theorem EQ{l:Bytes}:jG l=Zf↔l=vM\/l=ly:=by simp[jG]
theorem yP{l:Bytes}:ez l=Zf↔l=zu\/l=p_:=by simp[ez]
theorem pe{s:eQ}(h:(aR s).err=0):(0<=s.time/\s.time<=4294967295) /\
    ((jG s.label=Zf/\s.label.length=4/\(0<=s.start/\s.start<=4294967295)/\(0<=s.stop/\s.stop<=4294967295)/\s.new=0/\∃ z,(aR s).val=s.label++(aJ s.time 4 Zw++(aJ s.start 4 Zw++(aJ s.stop 4 Zw++z)))/\z.length<=7) \/
     (s.label=fO/\bB s.new=Zf/\s.start=0/\s.stop=0/\∃ z,(aR s).val=s.label++(aJ s.time 4 Zw++(keyBytes s.new++z))/\z.length<=7)):=by
  unfold aR at h ⊢;split at h
  . cases h
  rename_i g0;rw[Qa0 g0];split at h
  . cases h
  rename_i g1;rw[Qa0 g1];simp only[Zn,Zb,within_iff] at g1;refine⟨g1,?_⟩;split at h
  . rename_i g2
    rw[Qa1 g2];split at h
    . cases h
    rename_i g3;rw[Qa0 g3];split at h
    . cases h
    rename_i g4;rw[Qa0 g4];simp only[Zn,Zb,Zp,within_iff] at g3;obtain⟨z,hz,hl⟩:=qe (s.label++aJ s.time 4 Zw++aJ s.start 4 Zw++aJ s.stop 4 Zw);refine .inl ⟨g2,?_,g3.1,g3.2,Decidable.byContradiction g4,z,?_,hl⟩
    . rcases EQ.1 g2 with e | e<;>rw[e]<;>rfl
    . show pad _=_
      rw[hz];simp
  . rename_i g2
    rw[Qa0 g2];split at h
    . cases h
    rename_i g3;rw[Qa0 g3];split at h
    . cases h
    rename_i g4;rw[Qa0 g4];obtain⟨z,hz,hl⟩:=qe (s.label++aJ s.time 4 Zw++keyBytes s.new);have g2':jG s.label=Zw:=by simpa using g2
    refine .inr ⟨by simpa [g2'] using g0,by simpa using g3,by omega,by omega,z,?_,hl⟩;show pad _=_;rw[hz];simp
theorem Kx{s:eQ}(h0:0<=s.new)(h1:s.new<18446744073709551616)(h:(aR s).err=0):iY (aR s).val=(s,Zw):=by
 have hi:=pe h;generalize (aR s).val=b at hi;obtain⟨label,time,start,stop,new⟩:=s;simp only at hi h0 h1;obtain⟨ht,⟨hl,Oz,hs,he,hn,z,hv,_⟩ | ⟨hl,hk,hs,he,z,hv,_⟩⟩:=hi
 .have a0:At b 0 (label++_):=(At.start b).as hv;obtain⟨e1,a1⟩:=a0.bytes (n:=4) (by rw[Oz];rfl);obtain⟨e2,a2⟩:=a1.nY ht.1 ht.2;obtain⟨e3,a3⟩:=a2.nY hs.1 hs.2;obtain⟨e4,a4⟩:=a3.nY he.1 he.2;unfold iY Ir;simp only[jZ e1,il e2,hl,Qa6,il e3,il e4];rw[hn]
 .have a0:At b 0 (label++_):=(At.start b).as hv;obtain⟨e1,a1⟩:=a0.bytes (n:=4) (by rw[hl];rfl);obtain⟨e2,a2⟩:=a1.nY ht.1 ht.2;obtain⟨e3,a3⟩:=a2.bytes (n:=8) (by rw[aj];rfl);have Zt:jG label=Zw:=by rw[hl];decide
  unfold iY Ir;simp only[jZ e1,il e2,Zt,Qa7,Mk e3 h0 h1 hk];rw[hs,he]
theorem xK(s:eQ):(aR s).val.length<=100:=by
 by_cases h:(aR s).err=0
 .obtain⟨ht,⟨hl,Oz,hs,he,hn,z,hv,_⟩ | ⟨hl,hk,hs,he,z,hv,_⟩⟩:=pe h
  .rw[hv];simp[ai];omega
  .rw[hv,hl];simp[ai,aj,fO];omega
 .unfold aR at h ⊢;repeat' split
  all_goals first | simp | skip
  all_goals exfalso;simp_all
theorem pc{a:fT}(h:(aZ a).err=0):(0<=a.time/\a.time<=4294967295) /\
    ((ez a.label=Zf/\a.label.length=4/\bB a.ax=Zf/\(0<=a.start/\a.start<=4294967295)/\(0<=a.stop/\a.stop<=4294967295)/\(0<=a.bt/\a.bt<=255)/\a.service.valid=Zf/\a.aG.length<=255 /\
        (aZ a).val=pad (a.label++(aJ a.time 4 Zw++(keyBytes a.ax++(aJ a.start 4 Zw++(aJ a.stop 4 Zw++(aJ a.bt 1 Zw++(a.service.name++0::(a.service.inst++0::(a.service.aK++0::(aJ a.aG.length 1 Zw++a.aG))))))))))) \/
     (a.label=lH/\a.ax=0/\a.start=0/\a.stop=0/\a.bt=0/\a.service=dF/\a.aG=[]/\(aZ a).val=pad (a.label++aJ a.time 4 Zw))):=by
  unfold aZ at h ⊢;split at h
  . cases h
  rename_i g0;rw[Qa0 g0];split at h
  . cases h
  rename_i g1;rw[Qa0 g1];simp only[Zn,Zb,within_iff] at g1;refine⟨g1,?_⟩;split at h
  . rename_i g2
    rw[Qa1 g2];split at h
    . cases h
    rename_i g3;rw[Qa0 g3];split at h
    . cases h
    rename_i g4;rw[Qa0 g4];split at h
    . cases h
    rename_i g5;rw[Qa0 g5];split at h
    . cases h
    rename_i g6;rw[Qa0 g6];simp only[Zn,Zb,Zp,within_iff] at g3 g4 g5;refine .inl ⟨g2,?_,g3,g4.1.1,g4.1.2,g4.2,g5,by omega,?_⟩
    . rcases yP.1 g2 with e | e<;>rw[e]<;>rfl
    . show pad _=pad _
      congr 1;simp[kh,cW,bz]
  . rename_i g2
    rw[Qa0 g2];split at h
    . cases h
    rename_i g3;rw[Qa0 g3];have g2':ez a.label=Zw:=by simpa using g2
    simp only[ne_eq,not_or,Decidable.not_not,Zb,HV] at g3;exact .inr ⟨by simpa [g2'] using g0,g3.1,g3.2.1,g3.2.2.1,g3.2.2.2.1,g3.2.2.2.2.1,g3.2.2.2.2.2,rfl⟩
theorem Ku{a:fT}(h0:0<=a.ax)(h1:a.ax<18446744073709551616)(h:(aZ a).err=0):iX (aZ a).val=(a,Zw):=by
 have hi:=pc h;generalize (aZ a).val=b at hi;obtain⟨label,time,ax,start,stop,bt,⟨sn,si,sr⟩,aG⟩:=a;simp only at hi h0 h1;obtain⟨ht,⟨hl,Oz,hk,hs,he,hv,hp,hx,hb⟩ | ⟨hl,hk,hs,he,hv,hp,hx,hb⟩⟩:=hi
 .obtain⟨z,hz,_⟩:=qe (label++(aJ time 4 Zw++(keyBytes ax++(aJ start 4 Zw++(aJ stop 4 Zw++(aJ bt 1 Zw++(sn++0::(si++0::(sr++0::(aJ aG.length 1 Zw++aG))))))))));have a0:At b 0 (label++(aJ time 4 Zw++(keyBytes ax++(aJ start 4 Zw++(aJ stop 4 Zw++(aJ bt 1 Zw++(sn++0::(si++0::(sr++0::(aJ aG.length 1 Zw++(aG++z))))))))))):=(At.start b).as (by rw[hb,hz];simp);obtain⟨e1,a1⟩:=a0.bytes (n:=4) (by rw[Oz];rfl);obtain⟨e2,a2⟩:=a1.nY ht.1 ht.2;obtain⟨e3,a3⟩:=a2.bytes (n:=8) (by rw[aj];rfl);obtain⟨e4,a4⟩:=a3.nY hs.1 hs.2;obtain⟨e5,a5⟩:=a4.nY he.1 he.2;obtain⟨e6,a6⟩:=a5.mW hv.1 hv.2;obtain⟨q,e7,a7⟩:=At.gM (p:=⟨sn,si,sr⟩) a6 hp;obtain⟨e8,a8⟩:=a7.mW (by omega) (by omega);obtain⟨e9,a9⟩:=a8.bytes rfl;unfold iX DA;simp only[jZ e1,il e2,hl,Qa6,Mk e3 h0 h1 hk,il e4,il e5,il e6,Iq e7,il e8,jZ e9]
 .obtain⟨z,hz,_⟩:=qe (label++aJ time 4 Zw);have a0:At b 0 (label++(aJ time 4 Zw++z)):=(At.start b).as (by rw[hb,hz];simp);obtain⟨e1,a1⟩:=a0.bytes (n:=4) (by rw[hl];rfl);obtain⟨e2,a2⟩:=a1.nY ht.1 ht.2;have Zt:ez label=Zw:=by rw[hl];decide
  unfold iX DA;simp only[jZ e1,il e2,Zt,Qa7];rw[hk,hs,he,hv,hp,hx]
theorem xJ(a:fT):(aZ a).val.length<=408:=by
 by_cases h:(aZ a).err=0
 .obtain⟨ht,⟨hl,Oz,hk,hs,he,hv,hp,hx,hb⟩ | ⟨hl,hk,hs,he,hv,hp,hx,hb⟩⟩:=pc h
  .have l1:=cV hp;rw[hb,vy];simp[ai,aj];omega
  .rw[hb,vy,hl];simp[ai,lH]
 .unfold aZ at h ⊢;repeat' split
  all_goals first | simp | skip
  all_goals exfalso;simp_all
theorem od(b:Bytes)(n pos:Int)(bad:Bool):(dM b n pos bad).val.length<=b.length:=by
 unfold dM;cases bad || !((bytes b pos n).err==0)
 .exact gN b pos n
 .exact Nat.zero_le _
theorem Hl{r:dk}(h:(aP r).err≠0):(aP r).val=[]:=by grind [aP]
theorem c9{O:Type}{no:O}{enc:O->ll}{rd:Bytes->O×Bool}{b:Bytes}(R:O)(bad:Bool)(h:rd b=(R,bad)){J:Type}(f:O->Int->J) :
  aE bad (Yq (f no 100)) (aE (!((enc R).err==0)) (Yq (f no 100)) (aE (!((enc R).val==b)) (Yq (f no 100)) (Yq (f R 0))))=Yq (f (eN no enc rd b).val (eN no enc rd b).err):=by
 unfold eN;rw[h];cases bad;case true=>rw[Qa1 (.inl rfl)];rfl
 rw[aF];by_cases h1:(enc R).err=0
 .rw[ah (by simp[h1])];by_cases h2:(enc R).val=b
  .rw[ah (by simp[h2]),Qa0 (by simp[h1,h2])]
  .rw[af (by simpa using h2),Qa1 (.inr (.inr h2))]
 .rw[af (by simpa using h1),Qa1 (.inr (.inl h1))]
theorem Fs(b:Bytes)(pos k:Int)(li:Bool)(hk:k<=4):0<=(get b pos k li).val/\(get b pos k li).val<4294967296:=by
 unfold get;split
 .rename_i h;have:=jd h;exact Gy (by cases li<;>simp[this]<;>omega)
 .simp
theorem Tx(b:Bytes)(k pos:Int)(bad:Bool)(hk:k<=4):0<=(gL b k pos bad).val/\(gL b k pos bad).val<4294967296:=by
 unfold gL;cases bad || !((get b pos k Zw).err==0)
 .exact Fs b pos k Zw hk
 .simp
theorem NM(b:Bytes)(pos:Int)(bad:Bool):(mF b pos bad).val.length<=40:=by
 unfold mF;cases bad || !((text b pos).err==0)
 .exact fX b pos
 .exact Nat.zero_le _
theorem Er(b:Bytes)(pos:Int)(bad:Bool):(nr b pos bad).val.name.length<=40/\(nr b pos bad).val.inst.length<=40/\(nr b pos bad).val.aK.length<=40:=by
 unfold nr;cases bad || !((gM b pos).err==0)
 .exact qf b pos
 .exact⟨Nat.zero_le _,Nat.zero_le _,Nat.zero_le _⟩
theorem vx(b:Bytes)(pos:Int)(bad:Bool):0<=(zG b pos bad).val/\(zG b pos bad).val<18446744073709551616:=by
 unfold zG;simp only;cases (cK (dM b 8 pos bad).val).2
 .simp
 .exact dV _
theorem Mv(x:UInt8)(k:Nat)(hk:0<k):Zx (Int.tmod (x.toNat:Int) (k:Int))=x.toNat % k:=by
 rw[Yp (by omega)];omega
theorem To(n:Int):0<=tL n/\tL n<18446744073709551616:=by
 unfold tL;rw[wrap_u64];omega
theorem An(n:Int):0<=ax n/\ax n<18446744073709551616:=by
 unfold ax;rw[wrap_u64];omega
theorem Hm{r:eQ}(h:(aR r).err≠0):(aR r).val=[]:=by grind [aR]
theorem Fl{s:eQ}(h:(aR s).err=0) :
  (jG s.label=Zf/\(aR s).val=pad (s.label++aJ s.time 4 Zw++aJ s.start 4 Zw++aJ s.stop 4 Zw))\/(jG s.label=Zw/\(aR s).val=pad (s.label++aJ s.time 4 Zw++keyBytes s.new)):=by grind [aR]
theorem Hk{r:fT}(h:(aZ r).err≠0):(aZ r).val=[]:=by grind [aZ]
end Kerb
/- Chapter 22: what the reader of the reference reads. -/
namespace Kerb
open Go Go.Abs
def NV(b:Bytes):Rd dk :=
  let o:=dK b 1 Zw 2 Zw
  cond (o.val==1||o.val==3)
    (let u:=dN b o.pos o.bad
     let m:=dK b 2 Zw u.pos u.bad
     let x:=dw b m.val m.pos m.bad
     ⟨⟨o.val,u.p,0,[],[],[],[],x.val⟩,x.pos,x.bad⟩)
    (let k:=dK b 1 Zw o.pos o.bad
     let r:=nE b k.pos k.bad
     let n:=dK b 1 Zw r.pos r.bad
     let t:=dw b n.val n.pos n.bad
     let s:=nE b t.pos t.bad
     let i:=nE b s.pos s.bad
     let m:=dK b 2 Zw i.pos i.bad
     let x:=dw b m.val m.pos m.bad
     ⟨⟨o.val,dF,k.val,r.val,t.val,s.val,i.val,x.val⟩,x.pos,x.bad⟩)
def pq(b:Bytes):dk×Bool:=((NV b).val,(NV b).bad)
def Wt(b:Bytes):Rd iI :=
 let o:=dK b 1 Zw 2 Zw
 let c:=dK b 1 Zw o.pos o.bad
 let m:=dK b 2 Zw c.pos c.bad
 let x:=dw b m.val m.pos m.bad
 ⟨⟨o.val-128,c.val,x.val⟩,x.pos,x.bad⟩
def yw(b:Bytes):iI×Bool:=((Wt b).val,(Wt b).bad)
def KR(b:Bytes):Rd eQ :=
  let l:=dw b 4 0 Zw
  let t:=dK b 4 Zw l.pos l.bad
  cond (l.val==fO)
    (let k:=dw b 8 t.pos t.bad
     ⟨⟨l.val,t.val,0,0,(cK k.val).1⟩,k.pos,k.bad⟩)
    (let s:=dK b 4 Zw t.pos t.bad
     let e:=dK b 4 Zw s.pos s.bad
     ⟨⟨l.val,t.val,s.val,e.val,0⟩,e.pos,e.bad⟩)
def nD(b:Bytes):eQ×Bool:=((KR b).val,(KR b).bad)
def KQ(b:Bytes):Rd fT :=
  let l:=dw b 4 0 Zw
  let t:=dK b 4 Zw l.pos l.bad
  cond (l.val==lH)
    ⟨⟨l.val,t.val,0,0,0,0,dF,[]⟩,t.pos,t.bad⟩
    (let k:=dw b 8 t.pos t.bad
     let s:=dK b 4 Zw k.pos k.bad
     let e:=dK b 4 Zw s.pos s.bad
     let v:=dK b 1 Zw e.pos e.bad
     let p:=dN b v.pos v.bad
     let n:=dK b 1 Zw p.pos p.bad
     let x:=dw b n.val n.pos n.bad
     ⟨⟨l.val,t.val,(cK k.val).1,s.val,e.val,v.val,p.p,x.val⟩,x.pos,x.bad⟩)
def nC(b:Bytes):fT×Bool:=((KQ b).val,(KQ b).bad)
theorem NW{r:dk}(h:(aP r).err=0):pq (aP r).val=(r,Zw):=by
 have hi:=pd h;generalize (aP r).val=b at hi;obtain⟨op,⟨un,ui,ur⟩,bt,aK,aG,service,inst,box⟩:=r;simp only at hi;rcases hi with⟨ho,v1,v2,v3,hk,ht,hb,hu,hv⟩ | ⟨ho,v1,hb,hk,hr,ht,hs,hn,hv⟩
 .have a0:At b 2 _:=⟨header 9 Zw,hv,by decide⟩;obtain⟨e1,a1⟩:=a0.mW (by omega) (by omega);obtain⟨e2,a2⟩:=a1.mW hk.1 hk.2;obtain⟨e3,a3⟩:=a2.text (gm v1) (oU v1);obtain⟨e4,a4⟩:=a3.mW (by omega) (by omega);obtain⟨e5,a5⟩:=a4.bytes rfl;obtain⟨e6,a6⟩:=a5.text (iu v2) (qn v2);obtain⟨e7,a7⟩:=a6.text (gU v3) (nH v3);obtain⟨e8,a8⟩:=a7.Hu (by omega) (by omega);obtain⟨e9,a9⟩:=a8.bytes rfl;have h2:(op==1||op==3)=Zw:=by simp;omega
  unfold pq NV;simp only[cl e1,h2,Qa7,cl e2,rX e3,cl e4,eE e5,rX e6,rX e7,cl e8,eE e9];rw[hu]
 .have a0:At b 2 _:=⟨header 9 Zw,hv,by decide⟩;obtain⟨e1,a1⟩:=a0.mW (by omega) (by omega);obtain⟨q,e2,a2⟩:=At.gM (p:=⟨un,ui,ur⟩) a1 v1;obtain⟨e8,a8⟩:=a2.Hu (by omega) (by omega);obtain⟨e9,a9⟩:=a8.bytes rfl;have h2:(op==1||op==3)=Zf:=by simp;omega
  unfold pq NV;simp only[cl e1,h2,Qa6,lD e2,cl e8,eE e9];subst hk hr ht hs hn;rfl
theorem NU{r:iI}(h:(bw r).err=0):yw (bw r).val=(r,Zw):=by
 obtain⟨ho,hc,hb,hv⟩:=sF h;generalize (bw r).val=b at hv;have a0:At b 2 _:=⟨header 9 Zw,hv,by decide⟩;obtain⟨e1,a1⟩:=a0.mW (by omega) (by omega);obtain⟨e2,a2⟩:=a1.mW (by omega) (by omega);obtain⟨e3,a3⟩:=a2.Hu (by omega) (by omega);obtain⟨e4,a4⟩:=a3.bytes rfl;unfold yw Wt;simp only[cl e1,cl e2,cl e3,eE e4];rw[show r.op+128-128=r.op by omega]
theorem NX{s:eQ}(h0:0<=s.new)(h1:s.new<18446744073709551616)(h:(aR s).err=0):nD (aR s).val=(s,Zw):=by
 have hi:=pe h;generalize (aR s).val=b at hi;obtain⟨label,time,start,stop,new⟩:=s;simp only at hi h0 h1;obtain⟨ht,⟨hl,Oz,hs,he,hn,z,hv,_⟩ | ⟨hl,hk,hs,he,z,hv,_⟩⟩:=hi
 .have a0:At b 0 (label++_):=(At.start b).as hv;obtain⟨e1,a1⟩:=a0.bytes (n:=4) (by rw[Oz];rfl);obtain⟨e2,a2⟩:=a1.nY ht.1 ht.2;obtain⟨e3,a3⟩:=a2.nY hs.1 hs.2;obtain⟨e4,a4⟩:=a3.nY he.1 he.2;have tn:(label==fO)=Zw:=by
   rcases EQ.1 hl with e | e<;>rw[e]<;>decide
  unfold nD KR;simp only[eE e1,cl e2,tn,Qa7,cl e3,cl e4];rw[hn]
 .have a0:At b 0 (label++_):=(At.start b).as hv;obtain⟨e1,a1⟩:=a0.bytes (n:=4) (by rw[hl];rfl);obtain⟨e2,a2⟩:=a1.nY ht.1 ht.2;obtain⟨e3,a3⟩:=a2.bytes (n:=8) (by rw[aj];rfl);have tn:(label==fO)=Zf:=by rw[hl];decide
  unfold nD KR;simp only[eE e1,cl e2,tn,Qa6,eE e3,ga h0 h1 hk];rw[hs,he]
theorem NT{a:fT}(h0:0<=a.ax)(h1:a.ax<18446744073709551616)(h:(aZ a).err=0):nC (aZ a).val=(a,Zw):=by
 have hi:=pc h;generalize (aZ a).val=b at hi;obtain⟨label,time,ax,start,stop,bt,⟨sn,si,sr⟩,aG⟩:=a;simp only at hi h0 h1;obtain⟨ht,⟨hl,Oz,hk,hs,he,hv,hp,hx,hb⟩ | ⟨hl,hk,hs,he,hv,hp,hx,hb⟩⟩:=hi
 .obtain⟨z,hz,_⟩:=qe (label++(aJ time 4 Zw++(keyBytes ax++(aJ start 4 Zw++(aJ stop 4 Zw++(aJ bt 1 Zw++(sn++0::(si++0::(sr++0::(aJ aG.length 1 Zw++aG))))))))));have a0:At b 0 (label++(aJ time 4 Zw++(keyBytes ax++(aJ start 4 Zw++(aJ stop 4 Zw++(aJ bt 1 Zw++(sn++0::(si++0::(sr++0::(aJ aG.length 1 Zw++(aG++z))))))))))):=(At.start b).as (by rw[hb,hz];simp);obtain⟨e1,a1⟩:=a0.bytes (n:=4) (by rw[Oz];rfl);obtain⟨e2,a2⟩:=a1.nY ht.1 ht.2;obtain⟨e3,a3⟩:=a2.bytes (n:=8) (by rw[aj];rfl);obtain⟨e4,a4⟩:=a3.nY hs.1 hs.2;obtain⟨e5,a5⟩:=a4.nY he.1 he.2;obtain⟨e6,a6⟩:=a5.mW hv.1 hv.2;obtain⟨q,e7,a7⟩:=At.gM (p:=⟨sn,si,sr⟩) a6 hp;obtain⟨e8,a8⟩:=a7.mW (by omega) (by omega);obtain⟨e9,a9⟩:=a8.bytes rfl;have Ua:(label==lH)=Zw:=by
   rcases yP.1 hl with e | e<;>rw[e]<;>decide
  unfold nC KQ;simp only[eE e1,cl e2,Ua,Qa7,eE e3,ga h0 h1 hk,cl e4,cl e5,cl e6,lD e7,cl e8,eE e9]
 .obtain⟨z,hz,_⟩:=qe (label++aJ time 4 Zw);have a0:At b 0 (label++(aJ time 4 Zw++z)):=(At.start b).as (by rw[hb,hz];simp);obtain⟨e1,a1⟩:=a0.bytes (n:=4) (by rw[hl];rfl);obtain⟨e2,a2⟩:=a1.nY ht.1 ht.2;have Ua:(label==lH)=Zf:=by rw[hl];decide
  unfold nC KQ;simp only[eE e1,cl e2,Ua,Qa6];rw[hk,hs,he,hv,hp,hx]
theorem J'(b:Bytes):eN oy aP j5 b=eN oy aP pq b :=
 iG (P:=λ_=>True) (λ_ _ h=>Kw h) (λ_ _ h=>NW h) (λ_=>trivial) (λ_=>trivial) b
theorem J_(b:Bytes):eN mD bw pC b=eN mD bw yw b :=
 iG (P:=λ_=>True) (λ_ _ h=>Kv h) (λ_ _ h=>NU h) (λ_=>trivial) (λ_=>trivial) b
theorem Gf(b:Bytes):0<=(iY b).1.new/\(iY b).1.new<18446744073709551616:=by
 unfold iY Ir;dsimp only;cases jG (dM b 4 0 Zw).val
 .exact vx _ _ _
 .simp
theorem KU(b:Bytes):0<=(nD b).1.new/\(nD b).1.new<18446744073709551616:=by
 unfold nD KR;dsimp only;cases (dw b 4 0 Zw).val==fO
 .simp
 .exact dV _
theorem Ka(b:Bytes):cE b=eN n9 aR nD b :=
 iG (P:=λs=>0<=s.new/\s.new<18446744073709551616) (λ_ p h=>Kx p.1 p.2 h) (λ_ p h=>NX p.1 p.2 h) Gf KU b
theorem Ge(b:Bytes):0<=(iX b).1.ax/\(iX b).1.ax<18446744073709551616:=by
 unfold iX DA;dsimp only;cases ez (dM b 4 0 Zw).val
 .simp
 .exact vx _ _ _
theorem KT(b:Bytes):0<=(nC b).1.ax/\(nC b).1.ax<18446744073709551616:=by
 unfold nC KQ;dsimp only;cases (dw b 4 0 Zw).val==lH
 .exact dV _
 .simp
theorem J9(b:Bytes):bc b=eN n8 aZ nC b :=
 iG (P:=λs=>0<=s.ax/\s.ax<18446744073709551616) (λ_ p h=>Ku p.1 p.2 h) (λ_ p h=>NT p.1 p.2 h) Ge KT b
end Kerb
/- Sorting a row of keys: the words. -/
namespace Kerb
open Go Go.Abs
def eJ(els:List AV):List Int:=els.map λ| .int _ n=>n | _=>0
def dl(els:List AV):Bool:=els.all λ| .int AT _=>Zf | _=>Zw
def df(els:List AV):Array Int:=(eJ els).toArray
def back(d:Array Int):List AV:=d.toList.map (Zv AT)
def HD(h:Go.Sort.Hint):Int:=match h with | .unknown=>0 | .increasing=>1 | .decreasing=>2
def Lt(x:Int):Int:=((Go.Sort.xorNext (UInt64.ofNat x.toNat)).toNat:Int)
noncomputable def ok(_:Int):Bool := @decide True (Classical.propDecidable True)
theorem F6(x:Int):ok x=Zf:=by
 unfold ok;exact @Qa4 True (Classical.propDecidable True) trivial
def nn(a:Int):Bool:=Zj (0<=a)
def order2(els:List AV)(a b s:Int):Nat×Nat×Nat:=Go.Sort.order2 Go.Sort.ltInt (df els) a.toNat b.toNat s.toNat
def median(els:List AV)(a b c s:Int):Nat×Nat:=Go.Sort.median Go.Sort.ltInt (df els) a.toNat b.toNat c.toNat s.toNat
def FT(els:List AV)(a s:Int):Nat×Nat:=Go.Sort.medianAdjacent Go.Sort.ltInt (df els) a.toNat s.toNat
def Iw(els:List AV)(a b:Int):Nat×Go.Sort.Hint:=Go.Sort.choosePivot Go.Sort.ltInt (df els) a.toNat b.toNat
def AM(els:List AV)(a b:Int):List AV:=back (Go.Sort.insertionSort Go.Sort.ltInt (df els) a.toNat b.toNat)
def LW(els:List AV)(a b:Int):List AV:=back (Go.Sort.heapSort Go.Sort.ltInt (df els) a.toNat b.toNat)
def TC(els:List AV)(a b:Int):List AV:=back (Go.Sort.reverseRange (df els) a.toNat b.toNat)
def E8(els:List AV)(a b:Int):List AV:=back (Go.Sort.breakPatterns (df els) a.toNat b.toNat)
def yq(els:List AV)(a b:Int):List AV×Bool:=(back (Go.Sort.partialInsertionSort Go.Sort.ltInt (df els) a.toNat b.toNat).1,(Go.Sort.partialInsertionSort Go.Sort.ltInt (df els) a.toNat b.toNat).2)
def part(els:List AV)(a b p:Int):Nat×Bool×List AV:=((Go.Sort.partition Go.Sort.ltInt (df els) a.toNat b.toNat p.toNat).1,(Go.Sort.partition Go.Sort.ltInt (df els) a.toNat b.toNat p.toNat).2.1,back (Go.Sort.partition Go.Sort.ltInt (df els) a.toNat b.toNat p.toNat).2.2)
def F9(els:List AV)(a b p:Int):Nat×List AV:=((Go.Sort.partitionEqual Go.Sort.ltInt (df els) a.toNat b.toNat p.toNat).1,back (Go.Sort.partitionEqual Go.Sort.ltInt (df els) a.toNat b.toNat p.toNat).2)
def sift(els:List AV)(lo hi first:Int):List AV:=back (Go.Sort.siftDown Go.Sort.ltInt hi.toNat first.toNat lo.toNat (df els))
def Qm(els:List AV)(a b l:Int):List AV:=back (Go.Sort.pdq Go.Sort.ltInt (df els) a.toNat b.toNat l.toNat Zf Zf)
def Ao(els:List AV):List AV:=back (Go.Sort.sort Go.Sort.ltInt (df els))
def Tm(x:Int):Int:=(Go.Sort.bitsLen x.toNat:Int)
def Qn(n:Int):Int:=((1 <<< Go.Sort.bitsLen n.toNat:Nat):Int)
theorem aY(d:Array Int):(back d).length=d.size:=by simp[back]
theorem pK{d:Array Int}{i:Nat}(h:i<d.size):(back d).getD i .undef = .int AT d[i]! := by
 simp[back,Zd,h]
theorem O0(d:Array Int)(i:Nat)(v:Int):(back d).set i (.int AT v)=back (d.setIfInBounds i v):=by
 simp[back,List.map_set]
theorem fq(d:Array Int):df (back d)=d:=by
 apply Array.ext';simp[df,back,eJ,Function.comp_def]
theorem GZ{els:List AV}(h:dl els=Zf):back (df els)=els:=by
 simp only[back,df,eJ,List.map_map];rw[show(els.map (Zv AT∘λ| .int _ n=>n | _=>0))=els.map id from List.map_congr_left λa ha=> ?_,List.map_id];simp only[dl,List.all_eq_true] at h;have:=h a ha;split at this
 .rfl
 .cases this
theorem nq{els:List AV}(h:dl els=Zf):∃ d,els=back d/\df els=d:=⟨df els,(GZ h).symm,rfl⟩
theorem swp_size(d:Array Int)(i j:Nat):(Go.Sort.swp d i j).size=d.size:=by simp[Go.Sort.swp]
theorem iw{n:Int}(h1 : -9223372036854775808<=n)(h2:n<9223372036854775808):Zy AI n=n:=by
 unfold Zy;simp[Yz,Yj];omega
theorem rd{O:Type}{d:Array Int}{n:Nat}(hn:n<d.size)(f:Int->Option O):aB (Zj ((0:Int)<=(n:Int))&&Zj ((n:Int)<((back d).length:Int))&&Zf) (aB (Zm (Zx (n:Int)) (back d).length&&Zf) (Zg AT (Zd (back d) (Zx (n:Int)) .undef) f))=f d[n]! := by
 rw[ae (by simp[aY];omega),ae (by simp[aY];omega),Zk,pK hn,dx]
theorem wr{O:Type}{d:Array Int}{n:Nat}(hn:n<d.size){c:Bool}(hc:c=Zf)(X:Option O):aB (Zj ((0:Int)<=(n:Int))&&Zj ((n:Int)<((back d).length:Int))&&Zf) (aB (Zm (Zx (n:Int)) (back d).length&&Zf) (Zg AT (Zd (back d) (Zx (n:Int)) .undef) λ_=>aB c X))=X:=by
 rw[rd hn,ae hc]
theorem dy(d:Array Int)(n:Nat)(v:Int):(back d).set (Zx (n:Int)) (.int AT v)=back (d.setIfInBounds n v):=by rw[Zk,O0]
theorem sw{O:Type}{d:Array Int}{p q:Nat}(hp:p<d.size)(hq:q<d.size)(X:List AV->Option O) :
  aB (Zj ((0:Int)<=(q:Int))&&Zj ((q:Int)<((back d).length:Int))&&Zf) (aB (Zm (Zx (q:Int)) (back d).length&&Zf) (Zg AT (Zd (back d) (Zx (q:Int)) .undef) λx=>aB (Zj ((0:Int)<=(p:Int))&&Zj ((p:Int)<((back d).length:Int))&&Zf) (aB (Zm (Zx (p:Int)) (back d).length&&Zf) (Zg AT (Zd (back d) (Zx (p:Int)) .undef) λy=>aB (Zj ((0:Int)<=(p:Int))&&Zj ((p:Int)<((back d).length:Int))&&Zf) (aB (Zm (Zx (p:Int)) (back d).length&&Zf) (Zg AT (Zd (back d) (Zx (p:Int)) .undef) λ_=>aB (Zu [Zv AT x]==nat_lit 1&&Zf&&Zf&&Zf&&Zm (Zx (p:Int)) (Zu (back d))) (aB (Zj ((0:Int)<=(q:Int))&&Zj ((q:Int)<(((back d).set (Zx (p:Int)) (.int AT x)).length:Int))&&Zf) (aB (Zm (Zx (q:Int)) ((back d).set (Zx (p:Int)) (.int AT x)).length&&Zf) (Zg AT (Zd ((back d).set (Zx (p:Int)) (.int AT x)) (Zx (q:Int)) .undef) λ_=>aB (Zu [Zv AT y]==nat_lit 1&&Zf&&Zf&&Zf&&Zm (Zx (q:Int)) (Zu ((back d).set (Zx (p:Int)) (.int AT x)))) (X (((back d).set (Zx (p:Int)) (.int AT x)).set (Zx (q:Int)) (.int AT y))))))))))))=X (back (Go.Sort.swp d p q)):=by
 rw[rd hq,rd hp,wr hp (by simp[aY];exact hp),dy,wr (by rw[Xy];exact hq) (by simp[aY];exact hq),dy];rfl
theorem eo(d:Array Int):dl (back d)=Zf:=by simp[dl,back]
theorem N4{lt:Int->Int->Bool}{hi f:Nat}:∀ (n root:Nat) (d:Array Int),hi-root<=n->(Go.Sort.siftDown lt hi f root d).size=d.size:=by
 intro n;induction n with
 | zero =>
  intro root d h;unfold Go.Sort.siftDown;rw[dif_pos (by omega)]
 | succ n ih =>
  intro root d h;unfold Go.Sort.siftDown;split
  .rfl
  .split
   .split
    .rfl
    .split
     .rw[ih _ _ (by omega),swp_size]
     .rfl
   .split
    .rfl
    .rw[ih _ _ (by omega),swp_size]
theorem wk{lt:Int->Int->Bool}{hi f root:Nat}{d:Array Int}:(Go.Sort.siftDown lt hi f root d).size=d.size:=N4 _ root d (Nat.le_refl _)
theorem rU{lt:Int->Int->Bool}{d:Array Int}{a b s n:Nat}(ha:a<n)(hb:b<n):(Go.Sort.order2 lt d a b s).1<n/\(Go.Sort.order2 lt d a b s).2.1<n/\(Go.Sort.order2 lt d a b s).2.2<=s+1:=by
 unfold Go.Sort.order2;split<;>simp only<;>omega
theorem Nv{lt:Int->Int->Bool}{d:Array Int}{a b c s n:Nat}(ha:a<n)(hb:b<n)(hc:c<n):(Go.Sort.median lt d a b c s).1<n/\(Go.Sort.median lt d a b c s).2<=s+3:=by
 unfold Go.Sort.median;have h1:=rU (lt:=lt) (d:=d) (s:=s) ha hb;have h2:=rU (lt:=lt) (d:=d) (s:=(Go.Sort.order2 lt d a b s).2.2) h1.2.1 hc;have h3:=rU (lt:=lt) (d:=d) (s:=(Go.Sort.order2 lt d (Go.Sort.order2 lt d a b s).2.1 c (Go.Sort.order2 lt d a b s).2.2).2.2) h1.1 h2.1;exact⟨h3.2.1,by dsimp only;omega⟩
end Kerb
/- The scans of the partitions. -/
namespace Kerb
open Go Go.Abs
abbrev mJ(d:Array Int)(a i j:Nat):List AV:=[Yy (back d),Zv AI (a:Int),Zv AI (i:Int),Zv AI (j:Int)]
theorem aa1{step:List AV->Option (List AV ⊕ (Ex×List AV))}{p:Int->Bool}{d:Array Int}{a j e:Nat}
  (h:∀ i,i<=j->step (mJ d a i j)=if p d[i]! = Zf then Yq (.inl (mJ d a (i+1) j)) else Yq (.inr (.exit e,mJ d a i j)))
  (h2:∀ i,j<i->step (mJ d a i j)=Yq (.inr (.exit e,mJ d a i j))):∀ (m i:Nat),j+1-i=m->∃ n,eU step n (mJ d a i j)=Yq (.exit e,mJ d a (Go.Sort.scanUp p d j i) j):=by
 intro m;induction m with
 | zero =>
  intro i hi;refine⟨1,?_⟩;unfold eU;rw[h2 i (by omega)];unfold Go.Sort.scanUp;rw[Qa0 (by simp;omega)]
 | succ m ih =>
  intro i hi;by_cases hp:p d[i]! = Zf
  .obtain⟨n,hn⟩:=ih (i+1) (by omega);refine⟨n+1,?_⟩;unfold eU;rw[h i (by omega),Qa1 hp];unfold Go.Sort.scanUp;rw[Qa1 (by simp[hp];omega)];exact hn
  .refine⟨1,?_⟩;unfold eU;rw[h i (by omega),Qa0 hp];unfold Go.Sort.scanUp;rw[Qa0 (by simp[hp])]
theorem O_{step:List AV->Option (List AV ⊕ (Ex×List AV))}{p:Int->Bool}{d:Array Int}{a i e:Nat}
  (h:∀ j,i<=j+1->j+1<d.size->step (mJ d a i (j+1))=if p d[j+1]! = Zf then Yq (.inl (mJ d a i j)) else Yq (.inr (.exit e,mJ d a i (j+1))))
  (h2:∀ j,j<i->step (mJ d a i j)=Yq (.inr (.exit e,mJ d a i j))) (hi:1<=i):∀ (j:Nat),j<d.size->∃ n,eU step n (mJ d a i j)=Yq (.exit e,mJ d a i (Go.Sort.scanDown p d i j)):=by
 intro j;induction j with
 | zero =>
  intro hj;refine⟨1,?_⟩;unfold eU;rw[h2 0 (by omega)];rfl
 | succ j ih =>
  intro hj;by_cases hc:i<=j+1
  .by_cases hp:p d[j+1]! = Zf
   .obtain⟨n,hn⟩:=ih (by omega);refine⟨n+1,?_⟩;unfold eU;rw[h j hc hj,Qa1 hp];unfold Go.Sort.scanDown;rw[Qa1 (by simp[hp];omega)];exact hn
   .refine⟨1,?_⟩;unfold eU;rw[h j hc hj,Qa0 hp];unfold Go.Sort.scanDown;rw[Qa0 (by simp[hp])]
  .refine⟨1,?_⟩;unfold eU;rw[h2 _ (by omega)];unfold Go.Sort.scanDown;rw[Qa0 (by simp;omega)]
theorem Mw{J:Type}{d:Array Int}{a i j e:Nat}{K:Ex×List AV->Option J}(ha:a<d.size)(hj:j<d.size)(hi:1<=i)(hs:d.size<=1152921504606846976):Option.bind (bD (λ(st:List AV)=>aA st λ(x:AV) (r:List AV)=>AV.aX x λ(y:List AV)=>aA r λ(x:AV) (r:List AV)=>Zg Zz x λ(n:Int)=>aA r λ(x:AV) (r:List AV)=>Zg Zz x λ(bU:Int)=>aA r λ(x:AV) (r:List AV)=>Zg Zz x λ(bO:Int)=>ak r (aE (Zj (bU<=bO)) (aB (Zj ((0:Int)<=bU)&&Zj (bU<(↑(Zu y):Int))&&Zf) (aB (Zm (Zx bU) (Zu y)&&Zf) (Zg Zq (Zd y (Zx bU) Zh) λ(fI:Int)=>(aB (Zj ((0:Int)<=n)&&Zj (n<(↑(Zu y):Int))&&Zf) (aB (Zm (Zx n) (Zu y)&&Zf) (Zg Zq (Zd y (Zx n) Zh) λ(fZ:Int)=>aE (Zj (fI<fZ)) (Yq (Ym [Yy y,Zv Zz n,Zv Zz (Zy Zz (bU+(1:Int))),Zv Zz bO])) (Yq (Yx (Yw e,[Yy y,Zv Zz n,Zv Zz bU,Zv Zz bO]))))))))) (Yq (Yx (Yw e,[Yy y,Zv Zz n,Zv Zz bU,Zv Zz bO]))))) [Yy (back d),Zv AI (a:Int),Zv AI (i:Int),Zv AI (j:Int)]) K=K (.exit e,[Yy (back d),Zv AI (a:Int),Zv AI (Go.Sort.scanUp (λx=>Go.Sort.ltInt x d[a]!) d j i:Int),Zv AI (j:Int)]):=by
 suffices h:∃ n,eU (λ(st:List AV)=>aA st λ(x:AV) (r:List AV)=>AV.aX x λ(y:List AV)=>aA r λ(x:AV) (r:List AV)=>Zg Zz x λ(n:Int)=>aA r λ(x:AV) (r:List AV)=>Zg Zz x λ(bU:Int)=>aA r λ(x:AV) (r:List AV)=>Zg Zz x λ(bO:Int)=>ak r (aE (Zj (bU<=bO)) (aB (Zj ((0:Int)<=bU)&&Zj (bU<(↑(Zu y):Int))&&Zf) (aB (Zm (Zx bU) (Zu y)&&Zf) (Zg Zq (Zd y (Zx bU) Zh) λ(fI:Int)=>(aB (Zj ((0:Int)<=n)&&Zj (n<(↑(Zu y):Int))&&Zf) (aB (Zm (Zx n) (Zu y)&&Zf) (Zg Zq (Zd y (Zx n) Zh) λ(fZ:Int)=>aE (Zj (fI<fZ)) (Yq (Ym [Yy y,Zv Zz n,Zv Zz (Zy Zz (bU+(1:Int))),Zv Zz bO])) (Yq (Yx (Yw e,[Yy y,Zv Zz n,Zv Zz bU,Zv Zz bO]))))))))) (Yq (Yx (Yw e,[Yy y,Zv Zz n,Zv Zz bU,Zv Zz bO]))))) n (mJ d a i j)=Yq (.exit e,mJ d a (Go.Sort.scanUp (λx=>Go.Sort.ltInt x d[a]!) d j i) j) by
  obtain⟨n,hn⟩:=h;exact Qb5 (Option.bind · K) (ni hn)
 refine aa1 (e:=e) (p:=(λx=>Go.Sort.ltInt x d[a]!)) (d:=d) (a:=a) (j:=j) (step:=λ(st:List AV)=>aA st λ(x:AV) (r:List AV)=>AV.aX x λ(y:List AV)=>aA r λ(x:AV) (r:List AV)=>Zg Zz x λ(n:Int)=>aA r λ(x:AV) (r:List AV)=>Zg Zz x λ(bU:Int)=>aA r λ(x:AV) (r:List AV)=>Zg Zz x λ(bO:Int)=>ak r (aE (Zj (bU<=bO)) (aB (Zj ((0:Int)<=bU)&&Zj (bU<(↑(Zu y):Int))&&Zf) (aB (Zm (Zx bU) (Zu y)&&Zf) (Zg Zq (Zd y (Zx bU) Zh) λ(fI:Int)=>(aB (Zj ((0:Int)<=n)&&Zj (n<(↑(Zu y):Int))&&Zf) (aB (Zm (Zx n) (Zu y)&&Zf) (Zg Zq (Zd y (Zx n) Zh) λ(fZ:Int)=>aE (Zj (fI<fZ)) (Yq (Ym [Yy y,Zv Zz n,Zv Zz (Zy Zz (bU+(1:Int))),Zv Zz bO])) (Yq (Yx (Yw e,[Yy y,Zv Zz n,Zv Zz bU,Zv Zz bO]))))))))) (Yq (Yx (Yw e,[Yy y,Zv Zz n,Zv Zz bU,Zv Zz bO]))))) ?_ ?_ _ i rfl
 .intro i hc;have h1:i<d.size:=by omega
  dsimp only[mJ];simp only[↓bX,↓cH,↓dx,↓dC];rw[af (by simp;omega),Kerb.rd h1,Kerb.rd ha];by_cases h:d[i]! < d[a]!
  .rw[af (by simp[h]),Qa1 (by simp[Go.Sort.ltInt,h]),show Zy AI ((i:Int)+1)=((i+1:Nat):Int) from Kerb.iw (by omega) (by omega)]
  .rw[ah (by simp[h]),Qa0 (by simp[Go.Sort.ltInt,h])]
 .intro i hc;dsimp only[mJ];simp only[↓bX,↓cH,↓dx,↓dC];rw[ah (by simp;omega)]
theorem aa0{J:Type}{d:Array Int}{a i j e:Nat}{K:Ex×List AV->Option J}(ha:a<d.size)(hj:j<d.size)(hi:1<=i)(hs:d.size<=1152921504606846976):Option.bind (bD (λ(st:List AV)=>aA st λ(x:AV) (r:List AV)=>AV.aX x λ(y:List AV)=>aA r λ(x:AV) (r:List AV)=>Zg Zz x λ(n:Int)=>aA r λ(x:AV) (r:List AV)=>Zg Zz x λ(bU:Int)=>aA r λ(x:AV) (r:List AV)=>Zg Zz x λ(bO:Int)=>ak r (aE (Zj (bU<=bO)) (aB (Zj ((0:Int)<=n)&&Zj (n<(↑(Zu y):Int))&&Zf) (aB (Zm (Zx n) (Zu y)&&Zf) (Zg Zq (Zd y (Zx n) Zh) λ(fI:Int)=>(aB (Zj ((0:Int)<=bU)&&Zj (bU<(↑(Zu y):Int))&&Zf) (aB (Zm (Zx bU) (Zu y)&&Zf) (Zg Zq (Zd y (Zx bU) Zh) λ(fZ:Int)=>aE (!Zj (fI<fZ)) (Yq (Ym [Yy y,Zv Zz n,Zv Zz (Zy Zz (bU+(1:Int))),Zv Zz bO])) (Yq (Yx (Yw e,[Yy y,Zv Zz n,Zv Zz bU,Zv Zz bO]))))))))) (Yq (Yx (Yw e,[Yy y,Zv Zz n,Zv Zz bU,Zv Zz bO]))))) [Yy (back d),Zv AI (a:Int),Zv AI (i:Int),Zv AI (j:Int)]) K=K (.exit e,[Yy (back d),Zv AI (a:Int),Zv AI (Go.Sort.scanUp (λx => !Go.Sort.ltInt d[a]! x) d j i:Int),Zv AI (j:Int)]):=by
 suffices h:∃ n,eU (λ(st:List AV)=>aA st λ(x:AV) (r:List AV)=>AV.aX x λ(y:List AV)=>aA r λ(x:AV) (r:List AV)=>Zg Zz x λ(n:Int)=>aA r λ(x:AV) (r:List AV)=>Zg Zz x λ(bU:Int)=>aA r λ(x:AV) (r:List AV)=>Zg Zz x λ(bO:Int)=>ak r (aE (Zj (bU<=bO)) (aB (Zj ((0:Int)<=n)&&Zj (n<(↑(Zu y):Int))&&Zf) (aB (Zm (Zx n) (Zu y)&&Zf) (Zg Zq (Zd y (Zx n) Zh) λ(fI:Int)=>(aB (Zj ((0:Int)<=bU)&&Zj (bU<(↑(Zu y):Int))&&Zf) (aB (Zm (Zx bU) (Zu y)&&Zf) (Zg Zq (Zd y (Zx bU) Zh) λ(fZ:Int)=>aE (!Zj (fI<fZ)) (Yq (Ym [Yy y,Zv Zz n,Zv Zz (Zy Zz (bU+(1:Int))),Zv Zz bO])) (Yq (Yx (Yw e,[Yy y,Zv Zz n,Zv Zz bU,Zv Zz bO]))))))))) (Yq (Yx (Yw e,[Yy y,Zv Zz n,Zv Zz bU,Zv Zz bO]))))) n (mJ d a i j)=Yq (.exit e,mJ d a (Go.Sort.scanUp (λx => !Go.Sort.ltInt d[a]! x) d j i) j) by
  obtain⟨n,hn⟩:=h;exact Qb5 (Option.bind · K) (ni hn)
 refine aa1 (e:=e) (p:=(λx => !Go.Sort.ltInt d[a]! x)) (d:=d) (a:=a) (j:=j) (step:=λ(st:List AV)=>aA st λ(x:AV) (r:List AV)=>AV.aX x λ(y:List AV)=>aA r λ(x:AV) (r:List AV)=>Zg Zz x λ(n:Int)=>aA r λ(x:AV) (r:List AV)=>Zg Zz x λ(bU:Int)=>aA r λ(x:AV) (r:List AV)=>Zg Zz x λ(bO:Int)=>ak r (aE (Zj (bU<=bO)) (aB (Zj ((0:Int)<=n)&&Zj (n<(↑(Zu y):Int))&&Zf) (aB (Zm (Zx n) (Zu y)&&Zf) (Zg Zq (Zd y (Zx n) Zh) λ(fI:Int)=>(aB (Zj ((0:Int)<=bU)&&Zj (bU<(↑(Zu y):Int))&&Zf) (aB (Zm (Zx bU) (Zu y)&&Zf) (Zg Zq (Zd y (Zx bU) Zh) λ(fZ:Int)=>aE (!Zj (fI<fZ)) (Yq (Ym [Yy y,Zv Zz n,Zv Zz (Zy Zz (bU+(1:Int))),Zv Zz bO])) (Yq (Yx (Yw e,[Yy y,Zv Zz n,Zv Zz bU,Zv Zz bO]))))))))) (Yq (Yx (Yw e,[Yy y,Zv Zz n,Zv Zz bU,Zv Zz bO]))))) ?_ ?_ _ i rfl
 .intro i hc;have h1:i<d.size:=by omega
  dsimp only[mJ];simp only[↓bX,↓cH,↓dx,↓dC];rw[af (by simp;omega),Kerb.rd ha,Kerb.rd h1];by_cases h:d[a]! < d[i]!
  .rw[ah (by simp[h]),Qa0 (by simp[Go.Sort.ltInt,h])]
  .rw[af (by simp[h]),Qa1 (by simp[Go.Sort.ltInt,h]),show Zy AI ((i:Int)+1)=((i+1:Nat):Int) from Kerb.iw (by omega) (by omega)]
 .intro i hc;dsimp only[mJ];simp only[↓bX,↓cH,↓dx,↓dC];rw[ah (by simp;omega)]
theorem DU{J:Type}{d:Array Int}{a i j e:Nat}{K:Ex×List AV->Option J}(ha:a<d.size)(hj:j<d.size)(hi:1<=i)(hs:d.size<=1152921504606846976):Option.bind (bD (λ(st:List AV)=>aA st λ(x:AV) (r:List AV)=>AV.aX x λ(y:List AV)=>aA r λ(x:AV) (r:List AV)=>Zg Zz x λ(n:Int)=>aA r λ(x:AV) (r:List AV)=>Zg Zz x λ(bU:Int)=>aA r λ(x:AV) (r:List AV)=>Zg Zz x λ(bO:Int)=>ak r (aE (Zj (bU<=bO)) (aB (Zj ((0:Int)<=bO)&&Zj (bO<(↑(Zu y):Int))&&Zf) (aB (Zm (Zx bO) (Zu y)&&Zf) (Zg Zq (Zd y (Zx bO) Zh) λ(fI:Int)=>(aB (Zj ((0:Int)<=n)&&Zj (n<(↑(Zu y):Int))&&Zf) (aB (Zm (Zx n) (Zu y)&&Zf) (Zg Zq (Zd y (Zx n) Zh) λ(fZ:Int)=>aE (!Zj (fI<fZ)) (Yq (Ym [Yy y,Zv Zz n,Zv Zz bU,Zv Zz (Zy Zz (bO-(1:Int)))])) (Yq (Yx (Yw e,[Yy y,Zv Zz n,Zv Zz bU,Zv Zz bO]))))))))) (Yq (Yx (Yw e,[Yy y,Zv Zz n,Zv Zz bU,Zv Zz bO]))))) [Yy (back d),Zv AI (a:Int),Zv AI (i:Int),Zv AI (j:Int)]) K=K (.exit e,[Yy (back d),Zv AI (a:Int),Zv AI (i:Int),Zv AI (Go.Sort.scanDown (λx => !Go.Sort.ltInt x d[a]!) d i j:Int)]):=by
 suffices h:∃ n,eU (λ(st:List AV)=>aA st λ(x:AV) (r:List AV)=>AV.aX x λ(y:List AV)=>aA r λ(x:AV) (r:List AV)=>Zg Zz x λ(n:Int)=>aA r λ(x:AV) (r:List AV)=>Zg Zz x λ(bU:Int)=>aA r λ(x:AV) (r:List AV)=>Zg Zz x λ(bO:Int)=>ak r (aE (Zj (bU<=bO)) (aB (Zj ((0:Int)<=bO)&&Zj (bO<(↑(Zu y):Int))&&Zf) (aB (Zm (Zx bO) (Zu y)&&Zf) (Zg Zq (Zd y (Zx bO) Zh) λ(fI:Int)=>(aB (Zj ((0:Int)<=n)&&Zj (n<(↑(Zu y):Int))&&Zf) (aB (Zm (Zx n) (Zu y)&&Zf) (Zg Zq (Zd y (Zx n) Zh) λ(fZ:Int)=>aE (!Zj (fI<fZ)) (Yq (Ym [Yy y,Zv Zz n,Zv Zz bU,Zv Zz (Zy Zz (bO-(1:Int)))])) (Yq (Yx (Yw e,[Yy y,Zv Zz n,Zv Zz bU,Zv Zz bO]))))))))) (Yq (Yx (Yw e,[Yy y,Zv Zz n,Zv Zz bU,Zv Zz bO]))))) n (mJ d a i j)=Yq (.exit e,mJ d a i (Go.Sort.scanDown (λx => !Go.Sort.ltInt x d[a]!) d i j)) by
  obtain⟨n,hn⟩:=h;exact Qb5 (Option.bind · K) (ni hn)
 refine O_ (e:=e) (p:=(λx => !Go.Sort.ltInt x d[a]!)) (d:=d) (a:=a) (i:=i) (step:=λ(st:List AV)=>aA st λ(x:AV) (r:List AV)=>AV.aX x λ(y:List AV)=>aA r λ(x:AV) (r:List AV)=>Zg Zz x λ(n:Int)=>aA r λ(x:AV) (r:List AV)=>Zg Zz x λ(bU:Int)=>aA r λ(x:AV) (r:List AV)=>Zg Zz x λ(bO:Int)=>ak r (aE (Zj (bU<=bO)) (aB (Zj ((0:Int)<=bO)&&Zj (bO<(↑(Zu y):Int))&&Zf) (aB (Zm (Zx bO) (Zu y)&&Zf) (Zg Zq (Zd y (Zx bO) Zh) λ(fI:Int)=>(aB (Zj ((0:Int)<=n)&&Zj (n<(↑(Zu y):Int))&&Zf) (aB (Zm (Zx n) (Zu y)&&Zf) (Zg Zq (Zd y (Zx n) Zh) λ(fZ:Int)=>aE (!Zj (fI<fZ)) (Yq (Ym [Yy y,Zv Zz n,Zv Zz bU,Zv Zz (Zy Zz (bO-(1:Int)))])) (Yq (Yx (Yw e,[Yy y,Zv Zz n,Zv Zz bU,Zv Zz bO]))))))))) (Yq (Yx (Yw e,[Yy y,Zv Zz n,Zv Zz bU,Zv Zz bO]))))) ?_ ?_ hi j hj
 .intro j hc uA;have h1:(j+1)<d.size:=by omega
  dsimp only[mJ];simp only[↓bX,↓cH,↓dx,↓dC];rw[af (by simp;omega),Kerb.rd h1,Kerb.rd ha];by_cases h:d[j+1]! < d[a]!
  .rw[ah (by simp[h]),Qa0 (by simp[Go.Sort.ltInt,h])]
  .rw[af (by simp[h]),Qa1 (by simp[Go.Sort.ltInt,h]),show Zy AI (((j+1:Nat):Int)-1)=(j:Int) from(Kerb.iw (by omega) (by omega)).trans (by omega)]
 .intro j hc;dsimp only[mJ];simp only[↓bX,↓cH,↓dx,↓dC];rw[ah (by simp;omega)]
theorem S0{J:Type}{d:Array Int}{a i j e:Nat}{K:Ex×List AV->Option J}(ha:a<d.size)(hj:j<d.size)(hi:1<=i)(hs:d.size<=1152921504606846976):Option.bind (bD (λ(st:List AV)=>aA st λ(x:AV) (r:List AV)=>AV.aX x λ(y:List AV)=>aA r λ(x:AV) (r:List AV)=>Zg Zz x λ(n:Int)=>aA r λ(x:AV) (r:List AV)=>Zg Zz x λ(bU:Int)=>aA r λ(x:AV) (r:List AV)=>Zg Zz x λ(bO:Int)=>ak r (aE (Zj (bU<=bO)) (aB (Zj ((0:Int)<=n)&&Zj (n<(↑(Zu y):Int))&&Zf) (aB (Zm (Zx n) (Zu y)&&Zf) (Zg Zq (Zd y (Zx n) Zh) λ(fI:Int)=>(aB (Zj ((0:Int)<=bO)&&Zj (bO<(↑(Zu y):Int))&&Zf) (aB (Zm (Zx bO) (Zu y)&&Zf) (Zg Zq (Zd y (Zx bO) Zh) λ(fZ:Int)=>aE (Zj (fI<fZ)) (Yq (Ym [Yy y,Zv Zz n,Zv Zz bU,Zv Zz (Zy Zz (bO-(1:Int)))])) (Yq (Yx (Yw e,[Yy y,Zv Zz n,Zv Zz bU,Zv Zz bO]))))))))) (Yq (Yx (Yw e,[Yy y,Zv Zz n,Zv Zz bU,Zv Zz bO]))))) [Yy (back d),Zv AI (a:Int),Zv AI (i:Int),Zv AI (j:Int)]) K=K (.exit e,[Yy (back d),Zv AI (a:Int),Zv AI (i:Int),Zv AI (Go.Sort.scanDown (λx=>Go.Sort.ltInt d[a]! x) d i j:Int)]):=by
 suffices h:∃ n,eU (λ(st:List AV)=>aA st λ(x:AV) (r:List AV)=>AV.aX x λ(y:List AV)=>aA r λ(x:AV) (r:List AV)=>Zg Zz x λ(n:Int)=>aA r λ(x:AV) (r:List AV)=>Zg Zz x λ(bU:Int)=>aA r λ(x:AV) (r:List AV)=>Zg Zz x λ(bO:Int)=>ak r (aE (Zj (bU<=bO)) (aB (Zj ((0:Int)<=n)&&Zj (n<(↑(Zu y):Int))&&Zf) (aB (Zm (Zx n) (Zu y)&&Zf) (Zg Zq (Zd y (Zx n) Zh) λ(fI:Int)=>(aB (Zj ((0:Int)<=bO)&&Zj (bO<(↑(Zu y):Int))&&Zf) (aB (Zm (Zx bO) (Zu y)&&Zf) (Zg Zq (Zd y (Zx bO) Zh) λ(fZ:Int)=>aE (Zj (fI<fZ)) (Yq (Ym [Yy y,Zv Zz n,Zv Zz bU,Zv Zz (Zy Zz (bO-(1:Int)))])) (Yq (Yx (Yw e,[Yy y,Zv Zz n,Zv Zz bU,Zv Zz bO]))))))))) (Yq (Yx (Yw e,[Yy y,Zv Zz n,Zv Zz bU,Zv Zz bO]))))) n (mJ d a i j)=Yq (.exit e,mJ d a i (Go.Sort.scanDown (λx=>Go.Sort.ltInt d[a]! x) d i j)) by
  obtain⟨n,hn⟩:=h;exact Qb5 (Option.bind · K) (ni hn)
 refine O_ (e:=e) (p:=(λx=>Go.Sort.ltInt d[a]! x)) (d:=d) (a:=a) (i:=i) (step:=λ(st:List AV)=>aA st λ(x:AV) (r:List AV)=>AV.aX x λ(y:List AV)=>aA r λ(x:AV) (r:List AV)=>Zg Zz x λ(n:Int)=>aA r λ(x:AV) (r:List AV)=>Zg Zz x λ(bU:Int)=>aA r λ(x:AV) (r:List AV)=>Zg Zz x λ(bO:Int)=>ak r (aE (Zj (bU<=bO)) (aB (Zj ((0:Int)<=n)&&Zj (n<(↑(Zu y):Int))&&Zf) (aB (Zm (Zx n) (Zu y)&&Zf) (Zg Zq (Zd y (Zx n) Zh) λ(fI:Int)=>(aB (Zj ((0:Int)<=bO)&&Zj (bO<(↑(Zu y):Int))&&Zf) (aB (Zm (Zx bO) (Zu y)&&Zf) (Zg Zq (Zd y (Zx bO) Zh) λ(fZ:Int)=>aE (Zj (fI<fZ)) (Yq (Ym [Yy y,Zv Zz n,Zv Zz bU,Zv Zz (Zy Zz (bO-(1:Int)))])) (Yq (Yx (Yw e,[Yy y,Zv Zz n,Zv Zz bU,Zv Zz bO]))))))))) (Yq (Yx (Yw e,[Yy y,Zv Zz n,Zv Zz bU,Zv Zz bO]))))) ?_ ?_ hi j hj
 .intro j hc uA;have h1:(j+1)<d.size:=by omega
  dsimp only[mJ];simp only[↓bX,↓cH,↓dx,↓dC];rw[af (by simp;omega),Kerb.rd ha,Kerb.rd h1];by_cases h:d[a]! < d[j+1]!
  .rw[af (by simp[h]),Qa1 (by simp[Go.Sort.ltInt,h]),show Zy AI (((j+1:Nat):Int)-1)=(j:Int) from(Kerb.iw (by omega) (by omega)).trans (by omega)]
  .rw[ah (by simp[h]),Qa0 (by simp[Go.Sort.ltInt,h])]
 .intro j hc;dsimp only[mJ];simp only[↓bX,↓cH,↓dx,↓dC];rw[ah (by simp;omega)]
theorem Cc(d:Array Int)(a b p:Nat):part (back d) (a:Int) (b:Int) (p:Int)=((Go.Sort.partition Go.Sort.ltInt d a b p).1,(Go.Sort.partition Go.Sort.ltInt d a b p).2.1,back (Go.Sort.partition Go.Sort.ltInt d a b p).2.2):=by
 simp only[part,fq,Zk]
theorem wT(d:Array Int)(a b p:Nat):F9 (back d) (a:Int) (b:Int) (p:Int)=((Go.Sort.partitionEqual Go.Sort.ltInt d a b p).1,back (Go.Sort.partitionEqual Go.Sort.ltInt d a b p).2):=by
 simp only[F9,fq,Zk]
theorem zA{lt:Int->Int->Bool}{d:Array Int}{a s n:Nat}(ha:a+1<n):(Go.Sort.medianAdjacent lt d a s).1<n/\(Go.Sort.medianAdjacent lt d a s).2<=s+3:=by
 unfold Go.Sort.medianAdjacent;exact Nv (by omega) (by omega) ha
theorem HE{J:Type}(f:Int->Option J)(n:Nat):aE ((n:Int)==(0:Int)) (f 1) (aE ((n:Int)==(12:Int)) (f 2) (f 0))=f (HD (if n=0 then Go.Sort.Hint.increasing else if n=12 then Go.Sort.Hint.decreasing else Go.Sort.Hint.unknown)):=by
 by_cases h:n=0
 .subst h;rfl
 .rw[ah (by simpa using h),Qa0 h];by_cases h2:n=12
  .subst h2;rfl
  .rw[ah (by simp;omega),Qa0 h2];rfl
end Kerb
/- The loops of the sort that stops early (printed by mksort3.py). -/
namespace Kerb
open Go Go.Abs
theorem Gr{d:Array Int}{A s:Int}{bb:Bool}{b e:Nat}(hb:b<=d.size)(hs:d.size<=1152921504606846976):∀ (m i:Nat),b-i=m->1<=i->i<=b->bD (λ(st:List AV)=>aA st λ(x:AV) (r:List AV)=>AV.aX x λ(y:List AV)=>aA r λ(x:AV) (r:List AV)=>Zg Zz x λ(n:Int)=>aA r λ(x:AV) (r:List AV)=>Zg Zz x λ(bU:Int)=>aA r λ(x:AV) (r:List AV)=>Zg Zz x λ(bO:Int)=>aA r λ(x:AV) (r:List AV)=>Zg Zz x λ(fI:Int)=>aA r λ(x:AV) (r:List AV)=>AV.dd x λ(b:Bool)=>ak r (aE (Zj (bO<bU)) (aB (Zj ((0:Int)<=bO)&&Zj (bO<(↑(Zu y):Int))&&Zf) (aB (Zm (Zx bO) (Zu y)&&Zf) (Zg Zq (Zd y (Zx bO) Zh) λ(fZ:Int)=>aB (Zj ((0:Int)<=Zy Zz (bO-(1:Int)))&&Zj (Zy Zz (bO-(1:Int))<(↑(Zu y):Int))&&Zf) (aB (Zm (Zx (Zy Zz (bO-(1:Int)))) (Zu y)&&Zf) (Zg Zq (Zd y (Zx (Zy Zz (bO-(1:Int)))) Zh) λ(iN:Int)=>aE (!Zj (fZ<iN)) (Yq (Ym [Yy y,Zv Zz n,Zv Zz bU,Zv Zz (Zy Zz (bO+(1:Int))),Zv Zz fI,Yd b])) (Yq (Yx (Yw e,[Yy y,Zv Zz n,Zv Zz bU,Zv Zz bO,Zv Zz fI,Yd b])))))))) (Yq (Yx (Yw e,[Yy y,Zv Zz n,Zv Zz bU,Zv Zz bO,Zv Zz fI,Yd b]))))) [Yy (back d),Zv AI A,Zv AI (b:Int),Zv AI (i:Int),Zv AI s,Yd bb]=Yq (.exit e,[Yy (back d),Zv AI A,Zv AI (b:Int),Zv AI (Go.Sort.scanSorted Go.Sort.ltInt d b i:Int),Zv AI s,Yd bb]):=by
 suffices h:∀ (m i:Nat),b-i=m->1<=i->i<=b->∃ n,eU (λ(st:List AV)=>aA st λ(x:AV) (r:List AV)=>AV.aX x λ(y:List AV)=>aA r λ(x:AV) (r:List AV)=>Zg Zz x λ(n:Int)=>aA r λ(x:AV) (r:List AV)=>Zg Zz x λ(bU:Int)=>aA r λ(x:AV) (r:List AV)=>Zg Zz x λ(bO:Int)=>aA r λ(x:AV) (r:List AV)=>Zg Zz x λ(fI:Int)=>aA r λ(x:AV) (r:List AV)=>AV.dd x λ(b:Bool)=>ak r (aE (Zj (bO<bU)) (aB (Zj ((0:Int)<=bO)&&Zj (bO<(↑(Zu y):Int))&&Zf) (aB (Zm (Zx bO) (Zu y)&&Zf) (Zg Zq (Zd y (Zx bO) Zh) λ(fZ:Int)=>aB (Zj ((0:Int)<=Zy Zz (bO-(1:Int)))&&Zj (Zy Zz (bO-(1:Int))<(↑(Zu y):Int))&&Zf) (aB (Zm (Zx (Zy Zz (bO-(1:Int)))) (Zu y)&&Zf) (Zg Zq (Zd y (Zx (Zy Zz (bO-(1:Int)))) Zh) λ(iN:Int)=>aE (!Zj (fZ<iN)) (Yq (Ym [Yy y,Zv Zz n,Zv Zz bU,Zv Zz (Zy Zz (bO+(1:Int))),Zv Zz fI,Yd b])) (Yq (Yx (Yw e,[Yy y,Zv Zz n,Zv Zz bU,Zv Zz bO,Zv Zz fI,Yd b])))))))) (Yq (Yx (Yw e,[Yy y,Zv Zz n,Zv Zz bU,Zv Zz bO,Zv Zz fI,Yd b]))))) n [Yy (back d),Zv AI A,Zv AI (b:Int),Zv AI (i:Int),Zv AI s,Yd bb]=Yq (.exit e,[Yy (back d),Zv AI A,Zv AI (b:Int),Zv AI (Go.Sort.scanSorted Go.Sort.ltInt d b i:Int),Zv AI s,Yd bb]) by
  intro m i h1 h2 h3;obtain⟨n,hn⟩:=h m i h1 h2 h3;exact ni hn
 intro m;induction m with
 | zero =>
  intro i hi h1 h2;refine⟨1,?_⟩;unfold eU;simp only[↓bX,↓cH,↓dx,↓dR,↓dC];rw[ah (by simp;omega)];unfold Go.Sort.scanSorted;rw[Qa0 (by simp;omega)]
 | succ m ih =>
  intro i hi h1 h2;obtain⟨k,rfl⟩:∃ k,i=k+1:=⟨i-1,by omega⟩;have g1:k+1<d.size:=by omega
  have g2:k<d.size:=by omega
  by_cases h:d[k+1]! < d[k]!
  .refine⟨1,?_⟩;unfold eU;simp only[↓bX,↓cH,↓dx,↓dR,↓dC];rw[af (by simp;omega),Kerb.rd g1,show Zy AI (((k+1:Nat):Int)-1)=((k:Nat):Int) from(Kerb.iw (by omega) (by omega)).trans (by omega),Kerb.rd g2,ah (by simp[h])];unfold Go.Sort.scanSorted;rw[Qa0 (by simp[Go.Sort.ltInt,h])]
  .obtain⟨n,hn⟩:=ih (k+1+1) (by omega) (by omega) (by omega);refine⟨n+1,?_⟩;unfold eU;simp only[↓bX,↓cH,↓dx,↓dR,↓dC];rw[af (by simp;omega),Kerb.rd g1,show Zy AI (((k+1:Nat):Int)-1)=((k:Nat):Int) from(Kerb.iw (by omega) (by omega)).trans (by omega),Kerb.rd g2,af (by simp[h])];unfold Go.Sort.scanSorted;rw[Qa1 (by simp[Go.Sort.ltInt,h];omega),show Zy AI (((k+1:Nat):Int)+1)=((k+1+1:Nat):Int) from(Kerb.iw (by omega) (by omega)).trans (by omega)];exact hn
theorem IK{A B I s:Int}{bb:Bool}{e:Nat}:∀ (j:Nat) (d:Array Int),j<d.size->d.size<=1152921504606846976->∃ m,bD (λ(st:List AV)=>aA st λ(x:AV) (r:List AV)=>AV.aX x λ(y:List AV)=>aA r λ(x:AV) (r:List AV)=>Zg Zz x λ(n:Int)=>aA r λ(x:AV) (r:List AV)=>Zg Zz x λ(gJ:Int)=>aA r λ(x:AV) (r:List AV)=>Zg Zz x λ(jA:Int)=>aA r λ(x:AV) (r:List AV)=>Zg Zz x λ(gO:Int)=>aA r λ(x:AV) (r:List AV)=>Zg Zz x λ(bI:Int)=>aA r λ(x:AV) (r:List AV)=>AV.dd x λ(b:Bool)=>ak r (aE (Zj (bI>=(1:Int))) (aB (Zj ((0:Int)<=bI)&&Zj (bI<(↑(Zu y):Int))&&Zf) (aB (Zm (Zx bI) (Zu y)&&Zf) (Zg Zq (Zd y (Zx bI) Zh) λ(jg:Int)=>aB (Zj ((0:Int)<=Zy Zz (bI-(1:Int)))&&Zj (Zy Zz (bI-(1:Int))<(↑(Zu y):Int))&&Zf) (aB (Zm (Zx (Zy Zz (bI-(1:Int)))) (Zu y)&&Zf) (Zg Zq (Zd y (Zx (Zy Zz (bI-(1:Int)))) Zh) λ(gj:Int)=>aE (!Zj (jg<gj)) (Yq (Yx (Yw e,[Yy y,Zv Zz n,Zv Zz gJ,Zv Zz jA,Zv Zz gO,Zv Zz bI,Yd b]))) (aB (Zj ((0:Int)<=Zy Zz (bI-(1:Int)))&&Zj (Zy Zz (bI-(1:Int))<(↑(Zu y):Int))&&Zf) (aB (Zm (Zx (Zy Zz (bI-(1:Int)))) (Zu y)&&Zf) (Zg Zq (Zd y (Zx (Zy Zz (bI-(1:Int)))) Zh) λ(dW:Int)=>aB (Zj ((0:Int)<=bI)&&Zj (bI<(↑(Zu y):Int))&&Zf) (aB (Zm (Zx bI) (Zu y)&&Zf) (Zg Zq (Zd y (Zx bI) Zh) λ(bT:Int)=>aB (Zj ((0:Int)<=bI)&&Zj (bI<(↑(Zu y):Int))&&Zf) (aB (Zm (Zx bI) (Zu y)&&Zf) (Zg Zq (Zd y (Zx bI) Zh) λ(ra:Int)=>aB (Zu [Zv Zq dW]==nat_lit 1&&Zf&&Zf&&Zf&&Zm (Zx bI) (Zu y)) (aB (Zj ((0:Int)<=Zy Zz (bI-(1:Int)))&&Zj (Zy Zz (bI-(1:Int))<(↑(Zu (Yf y (Zx bI) (Zv Zq dW))):Int))&&Zf) (aB (Zm (Zx (Zy Zz (bI-(1:Int)))) (Zu (Yf y (Zx bI) (Zv Zq dW)))&&Zf) (Zg Zq (Zd (Yf y (Zx bI) (Zv Zq dW)) (Zx (Zy Zz (bI-(1:Int)))) Zh) λ(re:Int)=>aB (Zu [Zv Zq bT]==nat_lit 1&&Zf&&Zf&&Zf&&Zm (Zx (Zy Zz (bI-(1:Int)))) (Zu (Yf y (Zx bI) (Zv Zq dW)))) (Yq (Ym [Yy (Yf (Yf y (Zx bI) (Zv Zq dW)) (Zx (Zy Zz (bI-(1:Int)))) (Zv Zq bT)),Zv Zz n,Zv Zz gJ,Zv Zz jA,Zv Zz gO,Zv Zz (Zy Zz (bI-(1:Int))),Yd b]))))))))))))))))) (Yq (Yx (Yw e,[Yy y,Zv Zz n,Zv Zz gJ,Zv Zz jA,Zv Zz gO,Zv Zz bI,Yd b]))))) [Yy (back d),Zv AI A,Zv AI B,Zv AI I,Zv AI s,Zv AI (j:Int),Yd bb]=Yq (.exit e,[Yy (back (Go.Sort.shiftDown Go.Sort.ltInt j d)),Zv AI A,Zv AI B,Zv AI I,Zv AI s,Zv AI m,Yd bb]):=by
 suffices h:∀ (j:Nat) (d:Array Int),j<d.size->d.size<=1152921504606846976->∃ m n,eU (λ(st:List AV)=>aA st λ(x:AV) (r:List AV)=>AV.aX x λ(y:List AV)=>aA r λ(x:AV) (r:List AV)=>Zg Zz x λ(n:Int)=>aA r λ(x:AV) (r:List AV)=>Zg Zz x λ(gJ:Int)=>aA r λ(x:AV) (r:List AV)=>Zg Zz x λ(jA:Int)=>aA r λ(x:AV) (r:List AV)=>Zg Zz x λ(gO:Int)=>aA r λ(x:AV) (r:List AV)=>Zg Zz x λ(bI:Int)=>aA r λ(x:AV) (r:List AV)=>AV.dd x λ(b:Bool)=>ak r (aE (Zj (bI>=(1:Int))) (aB (Zj ((0:Int)<=bI)&&Zj (bI<(↑(Zu y):Int))&&Zf) (aB (Zm (Zx bI) (Zu y)&&Zf) (Zg Zq (Zd y (Zx bI) Zh) λ(jg:Int)=>aB (Zj ((0:Int)<=Zy Zz (bI-(1:Int)))&&Zj (Zy Zz (bI-(1:Int))<(↑(Zu y):Int))&&Zf) (aB (Zm (Zx (Zy Zz (bI-(1:Int)))) (Zu y)&&Zf) (Zg Zq (Zd y (Zx (Zy Zz (bI-(1:Int)))) Zh) λ(gj:Int)=>aE (!Zj (jg<gj)) (Yq (Yx (Yw e,[Yy y,Zv Zz n,Zv Zz gJ,Zv Zz jA,Zv Zz gO,Zv Zz bI,Yd b]))) (aB (Zj ((0:Int)<=Zy Zz (bI-(1:Int)))&&Zj (Zy Zz (bI-(1:Int))<(↑(Zu y):Int))&&Zf) (aB (Zm (Zx (Zy Zz (bI-(1:Int)))) (Zu y)&&Zf) (Zg Zq (Zd y (Zx (Zy Zz (bI-(1:Int)))) Zh) λ(dW:Int)=>aB (Zj ((0:Int)<=bI)&&Zj (bI<(↑(Zu y):Int))&&Zf) (aB (Zm (Zx bI) (Zu y)&&Zf) (Zg Zq (Zd y (Zx bI) Zh) λ(bT:Int)=>aB (Zj ((0:Int)<=bI)&&Zj (bI<(↑(Zu y):Int))&&Zf) (aB (Zm (Zx bI) (Zu y)&&Zf) (Zg Zq (Zd y (Zx bI) Zh) λ(ra:Int)=>aB (Zu [Zv Zq dW]==nat_lit 1&&Zf&&Zf&&Zf&&Zm (Zx bI) (Zu y)) (aB (Zj ((0:Int)<=Zy Zz (bI-(1:Int)))&&Zj (Zy Zz (bI-(1:Int))<(↑(Zu (Yf y (Zx bI) (Zv Zq dW))):Int))&&Zf) (aB (Zm (Zx (Zy Zz (bI-(1:Int)))) (Zu (Yf y (Zx bI) (Zv Zq dW)))&&Zf) (Zg Zq (Zd (Yf y (Zx bI) (Zv Zq dW)) (Zx (Zy Zz (bI-(1:Int)))) Zh) λ(re:Int)=>aB (Zu [Zv Zq bT]==nat_lit 1&&Zf&&Zf&&Zf&&Zm (Zx (Zy Zz (bI-(1:Int)))) (Zu (Yf y (Zx bI) (Zv Zq dW)))) (Yq (Ym [Yy (Yf (Yf y (Zx bI) (Zv Zq dW)) (Zx (Zy Zz (bI-(1:Int)))) (Zv Zq bT)),Zv Zz n,Zv Zz gJ,Zv Zz jA,Zv Zz gO,Zv Zz (Zy Zz (bI-(1:Int))),Yd b]))))))))))))))))) (Yq (Yx (Yw e,[Yy y,Zv Zz n,Zv Zz gJ,Zv Zz jA,Zv Zz gO,Zv Zz bI,Yd b]))))) n [Yy (back d),Zv AI A,Zv AI B,Zv AI I,Zv AI s,Zv AI (j:Int),Yd bb]=Yq (.exit e,[Yy (back (Go.Sort.shiftDown Go.Sort.ltInt j d)),Zv AI A,Zv AI B,Zv AI I,Zv AI s,Zv AI m,Yd bb]) by
  intro j d h1 h2;obtain⟨m,n,hn⟩:=h j d h1 h2;exact⟨m,ni hn⟩
 intro j;induction j with
 | zero =>
  intro d h1 h2;refine⟨((0:Nat):Int),1,?_⟩;unfold eU;simp only[↓bX,↓cH,↓dx,↓dR,↓dC];rw[ah (by simp)];rfl
 | succ k ih =>
  intro d h1 h2;have g2:k<d.size:=by omega
  by_cases h:d[k+1]! < d[k]!
  .obtain⟨m,n,hn⟩:=ih (Go.Sort.swp d (k+1) k) (by rw[swp_size];omega) (by rw[swp_size];exact h2);refine⟨m,n+1,?_⟩;unfold eU;simp only[↓bX,↓cH,↓dx,↓dR,↓dC];rw[af (by simp;omega),Kerb.rd h1];simp only[show Zy AI (((k+1:Nat):Int)-1)=((k:Nat):Int) from(Kerb.iw (by omega) (by omega)).trans (by omega)];rw[Kerb.rd g2,ah (by simp[h])];rw[Kerb.rd g2,Kerb.rd h1,Kerb.wr h1 (by simp[Kerb.aY];omega),Kerb.dy,Kerb.wr (by rw[Xy];exact g2) (by simp[Kerb.aY];omega),Kerb.dy,show(Yn (Yn d (k+1) d[k]!) k d[k+1]!)=Go.Sort.swp d (k+1) k from rfl];unfold Go.Sort.shiftDown;rw[Qa0 (by simp[Go.Sort.ltInt,h])];exact hn
  .refine⟨((k+1:Nat):Int),1,?_⟩;unfold eU;simp only[↓bX,↓cH,↓dx,↓dR,↓dC];rw[af (by simp;omega),Kerb.rd h1];simp only[show Zy AI (((k+1:Nat):Int)-1)=((k:Nat):Int) from(Kerb.iw (by omega) (by omega)).trans (by omega)];rw[Kerb.rd g2,af (by simp[h])];unfold Go.Sort.shiftDown;rw[Qa1 (by simp[Go.Sort.ltInt,h])]
theorem ED{A I s:Int}{bb:Bool}{b e:Nat}:∀ (m:Nat) (j:Nat) (d:Array Int),b-j=m->1<=j->j<=b->b<=d.size->d.size<=1152921504606846976->∃ m,bD (λ(st:List AV)=>aA st λ(x:AV) (r:List AV)=>AV.aX x λ(y:List AV)=>aA r λ(x:AV) (r:List AV)=>Zg Zz x λ(n:Int)=>aA r λ(x:AV) (r:List AV)=>Zg Zz x λ(jg:Int)=>aA r λ(x:AV) (r:List AV)=>Zg Zz x λ(gj:Int)=>aA r λ(x:AV) (r:List AV)=>Zg Zz x λ(dW:Int)=>aA r λ(x:AV) (r:List AV)=>Zg Zz x λ(bT:Int)=>aA r λ(x:AV) (r:List AV)=>AV.dd x λ(b:Bool)=>ak r (aE (Zj (bT<jg)) (aB (Zj ((0:Int)<=bT)&&Zj (bT<(↑(Zu y):Int))&&Zf) (aB (Zm (Zx bT) (Zu y)&&Zf) (Zg Zq (Zd y (Zx bT) Zh) λ(ra:Int)=>aB (Zj ((0:Int)<=Zy Zz (bT-(1:Int)))&&Zj (Zy Zz (bT-(1:Int))<(↑(Zu y):Int))&&Zf) (aB (Zm (Zx (Zy Zz (bT-(1:Int)))) (Zu y)&&Zf) (Zg Zq (Zd y (Zx (Zy Zz (bT-(1:Int)))) Zh) λ(re:Int)=>aE (!Zj (ra<re)) (Yq (Yx (Yw e,[Yy y,Zv Zz n,Zv Zz jg,Zv Zz gj,Zv Zz dW,Zv Zz bT,Yd b]))) (aB (Zj ((0:Int)<=Zy Zz (bT-(1:Int)))&&Zj (Zy Zz (bT-(1:Int))<(↑(Zu y):Int))&&Zf) (aB (Zm (Zx (Zy Zz (bT-(1:Int)))) (Zu y)&&Zf) (Zg Zq (Zd y (Zx (Zy Zz (bT-(1:Int)))) Zh) λ(jJ:Int)=>aB (Zj ((0:Int)<=bT)&&Zj (bT<(↑(Zu y):Int))&&Zf) (aB (Zm (Zx bT) (Zu y)&&Zf) (Zg Zq (Zd y (Zx bT) Zh) λ(vN:Int)=>aB (Zj ((0:Int)<=bT)&&Zj (bT<(↑(Zu y):Int))&&Zf) (aB (Zm (Zx bT) (Zu y)&&Zf) (Zg Zq (Zd y (Zx bT) Zh) λ(Qd:Int)=>aB (Zu [Zv Zq jJ]==nat_lit 1&&Zf&&Zf&&Zf&&Zm (Zx bT) (Zu y)) (aB (Zj ((0:Int)<=Zy Zz (bT-(1:Int)))&&Zj (Zy Zz (bT-(1:Int))<(↑(Zu (Yf y (Zx bT) (Zv Zq jJ))):Int))&&Zf) (aB (Zm (Zx (Zy Zz (bT-(1:Int)))) (Zu (Yf y (Zx bT) (Zv Zq jJ)))&&Zf) (Zg Zq (Zd (Yf y (Zx bT) (Zv Zq jJ)) (Zx (Zy Zz (bT-(1:Int)))) Zh) λ(Qe:Int)=>aB (Zu [Zv Zq vN]==nat_lit 1&&Zf&&Zf&&Zf&&Zm (Zx (Zy Zz (bT-(1:Int)))) (Zu (Yf y (Zx bT) (Zv Zq jJ)))) (Yq (Ym [Yy (Yf (Yf y (Zx bT) (Zv Zq jJ)) (Zx (Zy Zz (bT-(1:Int)))) (Zv Zq vN)),Zv Zz n,Zv Zz jg,Zv Zz gj,Zv Zz dW,Zv Zz (Zy Zz (bT+(1:Int))),Yd b]))))))))))))))))) (Yq (Yx (Yw e,[Yy y,Zv Zz n,Zv Zz jg,Zv Zz gj,Zv Zz dW,Zv Zz bT,Yd b]))))) [Yy (back d),Zv AI A,Zv AI (b:Int),Zv AI I,Zv AI s,Zv AI (j:Int),Yd bb]=Yq (.exit e,[Yy (back (Go.Sort.shiftUp Go.Sort.ltInt b j d)),Zv AI A,Zv AI (b:Int),Zv AI I,Zv AI s,Zv AI m,Yd bb]):=by
 suffices h:∀ (m:Nat) (j:Nat) (d:Array Int),b-j=m->1<=j->j<=b->b<=d.size->d.size<=1152921504606846976->∃ m n,eU (λ(st:List AV)=>aA st λ(x:AV) (r:List AV)=>AV.aX x λ(y:List AV)=>aA r λ(x:AV) (r:List AV)=>Zg Zz x λ(n:Int)=>aA r λ(x:AV) (r:List AV)=>Zg Zz x λ(jg:Int)=>aA r λ(x:AV) (r:List AV)=>Zg Zz x λ(gj:Int)=>aA r λ(x:AV) (r:List AV)=>Zg Zz x λ(dW:Int)=>aA r λ(x:AV) (r:List AV)=>Zg Zz x λ(bT:Int)=>aA r λ(x:AV) (r:List AV)=>AV.dd x λ(b:Bool)=>ak r (aE (Zj (bT<jg)) (aB (Zj ((0:Int)<=bT)&&Zj (bT<(↑(Zu y):Int))&&Zf) (aB (Zm (Zx bT) (Zu y)&&Zf) (Zg Zq (Zd y (Zx bT) Zh) λ(ra:Int)=>aB (Zj ((0:Int)<=Zy Zz (bT-(1:Int)))&&Zj (Zy Zz (bT-(1:Int))<(↑(Zu y):Int))&&Zf) (aB (Zm (Zx (Zy Zz (bT-(1:Int)))) (Zu y)&&Zf) (Zg Zq (Zd y (Zx (Zy Zz (bT-(1:Int)))) Zh) λ(re:Int)=>aE (!Zj (ra<re)) (Yq (Yx (Yw e,[Yy y,Zv Zz n,Zv Zz jg,Zv Zz gj,Zv Zz dW,Zv Zz bT,Yd b]))) (aB (Zj ((0:Int)<=Zy Zz (bT-(1:Int)))&&Zj (Zy Zz (bT-(1:Int))<(↑(Zu y):Int))&&Zf) (aB (Zm (Zx (Zy Zz (bT-(1:Int)))) (Zu y)&&Zf) (Zg Zq (Zd y (Zx (Zy Zz (bT-(1:Int)))) Zh) λ(jJ:Int)=>aB (Zj ((0:Int)<=bT)&&Zj (bT<(↑(Zu y):Int))&&Zf) (aB (Zm (Zx bT) (Zu y)&&Zf) (Zg Zq (Zd y (Zx bT) Zh) λ(vN:Int)=>aB (Zj ((0:Int)<=bT)&&Zj (bT<(↑(Zu y):Int))&&Zf) (aB (Zm (Zx bT) (Zu y)&&Zf) (Zg Zq (Zd y (Zx bT) Zh) λ(Qd:Int)=>aB (Zu [Zv Zq jJ]==nat_lit 1&&Zf&&Zf&&Zf&&Zm (Zx bT) (Zu y)) (aB (Zj ((0:Int)<=Zy Zz (bT-(1:Int)))&&Zj (Zy Zz (bT-(1:Int))<(↑(Zu (Yf y (Zx bT) (Zv Zq jJ))):Int))&&Zf) (aB (Zm (Zx (Zy Zz (bT-(1:Int)))) (Zu (Yf y (Zx bT) (Zv Zq jJ)))&&Zf) (Zg Zq (Zd (Yf y (Zx bT) (Zv Zq jJ)) (Zx (Zy Zz (bT-(1:Int)))) Zh) λ(Qe:Int)=>aB (Zu [Zv Zq vN]==nat_lit 1&&Zf&&Zf&&Zf&&Zm (Zx (Zy Zz (bT-(1:Int)))) (Zu (Yf y (Zx bT) (Zv Zq jJ)))) (Yq (Ym [Yy (Yf (Yf y (Zx bT) (Zv Zq jJ)) (Zx (Zy Zz (bT-(1:Int)))) (Zv Zq vN)),Zv Zz n,Zv Zz jg,Zv Zz gj,Zv Zz dW,Zv Zz (Zy Zz (bT+(1:Int))),Yd b]))))))))))))))))) (Yq (Yx (Yw e,[Yy y,Zv Zz n,Zv Zz jg,Zv Zz gj,Zv Zz dW,Zv Zz bT,Yd b]))))) n [Yy (back d),Zv AI A,Zv AI (b:Int),Zv AI I,Zv AI s,Zv AI (j:Int),Yd bb]=Yq (.exit e,[Yy (back (Go.Sort.shiftUp Go.Sort.ltInt b j d)),Zv AI A,Zv AI (b:Int),Zv AI I,Zv AI s,Zv AI m,Yd bb]) by
  intro m j d h1 h2 h3 h4 h5;obtain⟨m,n,hn⟩:=h m j d h1 h2 h3 h4 h5;exact⟨m,ni hn⟩
 intro m;induction m with
 | zero =>
  intro j d h1 h2 h3 h4 h5;refine⟨(j:Int),1,?_⟩;unfold eU;simp only[↓bX,↓cH,↓dx,↓dR,↓dC];rw[ah (by simp;omega)];unfold Go.Sort.shiftUp;rw[Qa0 (by omega)]
 | succ m ih =>
  intro j d h1 h2 h3 h4 h5;obtain⟨k,rfl⟩:∃ k,j=k+1:=⟨j-1,by omega⟩;have g1:k+1<d.size:=by omega
  have g2:k<d.size:=by omega
  by_cases h:d[k+1]! < d[k]!
  .obtain⟨m,n,hn⟩:=ih (k+1+1) (Go.Sort.swp d (k+1) k) (by omega) (by omega) (by omega) (by rw[swp_size];omega) (by rw[swp_size];exact h5);refine⟨m,n+1,?_⟩;unfold eU;simp only[↓bX,↓cH,↓dx,↓dR,↓dC];rw[af (by simp;omega),Kerb.rd g1];simp only[show Zy AI (((k+1:Nat):Int)-1)=((k:Nat):Int) from(Kerb.iw (by omega) (by omega)).trans (by omega)];rw[Kerb.rd g2,ah (by simp[h])];rw[Kerb.rd g2,Kerb.rd g1,Kerb.wr g1 (by simp[Kerb.aY];omega),Kerb.dy,Kerb.wr (by rw[Xy];exact g2) (by simp[Kerb.aY];omega),Kerb.dy,show(Yn (Yn d (k+1) d[k]!) k d[k+1]!)=Go.Sort.swp d (k+1) k from rfl];unfold Go.Sort.shiftUp;rw[Qa1 (by omega),Nat.add_sub_cancel,Qa0 (by simp[Go.Sort.ltInt,h]),show Zy AI (((k+1:Nat):Int)+1)=((k+1+1:Nat):Int) from(Kerb.iw (by omega) (by omega)).trans (by omega)];exact hn
  .refine⟨((k+1:Nat):Int),1,?_⟩;unfold eU;simp only[↓bX,↓cH,↓dx,↓dR,↓dC];rw[af (by simp;omega),Kerb.rd g1];simp only[show Zy AI (((k+1:Nat):Int)-1)=((k:Nat):Int) from(Kerb.iw (by omega) (by omega)).trans (by omega)];rw[Kerb.rd g2,af (by simp[h])];unfold Go.Sort.shiftUp;rw[Qa1 (by omega),Nat.add_sub_cancel,Qa1 (by simp[Go.Sort.ltInt,h])]
theorem uY{lt:Int->Int->Bool}:∀ (j:Nat) (d:Array Int),(Go.Sort.shiftDown lt j d).size=d.size:=by
 intro j;induction j with
 | zero=>intro d;rfl
 | succ k ih =>
  intro d;unfold Go.Sort.shiftDown;split
  .rfl
  .rw[ih,swp_size]
theorem yC{lt:Int->Int->Bool}{b:Nat}:∀ (m j:Nat) (d:Array Int),b-j=m->(Go.Sort.shiftUp lt b j d).size=d.size:=by
 intro m;induction m with
 | zero =>
  intro j d h;unfold Go.Sort.shiftUp;rw[Qa0 (by omega)]
 | succ m ih =>
  intro j d h;unfold Go.Sort.shiftUp;rw[Qa1 (by omega)];split
  .rfl
  .rw[ih _ _ (by omega),swp_size]
theorem DH{lt:Int->Int->Bool}{d:Array Int}{b:Nat}:∀ (m i:Nat),b-i=m->i<=b->i<=Go.Sort.scanSorted lt d b i/\Go.Sort.scanSorted lt d b i<=b:=by
 intro m;induction m with
 | zero =>
  intro i h1 h2;unfold Go.Sort.scanSorted;rw[Qa0 (by simp;omega)];omega
 | succ m ih =>
  intro i h1 h2;unfold Go.Sort.scanSorted;split
  .have:=ih (i+1) (by omega) (by omega);omega
  .omega
end Kerb
/- The sort's pseudo-random number; lengths in bits. -/
namespace Kerb
open Go Go.Abs
theorem W7(v:BitVec 64):Zy AT (v.toNat:Int)=(v.toNat:Int):=by
 unfold Zy;simp[Yz,Yj];have:=v.isLt;omega
theorem aac(v:BitVec 64):BitVec.ofInt 64 (v.toNat:Int)=v:=by
 apply BitVec.eq_of_toNat_eq;simp[BitVec.toNat_ofInt]
theorem shl(v:BitVec 64)(k:Nat)(p:Int)(hp:p=((2 ^ k:Nat):Int)):BitVec.ofInt 64 (Zy AT ((v.toNat:Int)*p))=v <<< k:=by
 subst hp;apply BitVec.eq_of_toNat_eq;rw[show Zy AT ((v.toNat:Int)*((2 ^ k:Nat):Int))=((v.toNat*2 ^ k % 2 ^ 64:Nat):Int) from by
  unfold Zy;rw[Qa0 (by simp[Yj])];rfl]
 rw[BitVec.toNat_ofInt,BitVec.toNat_shiftLeft,Nat.shiftLeft_eq];generalize v.toNat*2 ^ k=m;omega
theorem shr(v:BitVec 64)(k:Nat)(p:Int)(hp:p=((2 ^ k:Nat):Int)):BitVec.ofInt 64 (Int.fdiv (v.toNat:Int) p)=v >>> k:=by
 subst hp;apply BitVec.eq_of_toNat_eq;rw[show Int.fdiv (v.toNat:Int) ((2 ^ k:Nat):Int)=((v.toNat / 2 ^ k:Nat):Int) from by rw[Xz _ (Int.natCast_nonneg _)];rfl];rw[BitVec.toNat_ofInt,BitVec.toNat_ushiftRight,Nat.shiftRight_eq_div_pow];have:=v.isLt;have h2:v.toNat / 2 ^ k<=v.toNat:=Nat.div_le_self _ _;generalize v.toNat / 2 ^ k=m at h2 ⊢;omega
theorem TT(v:BitVec 64):Lt (v.toNat:Int)=((((v ^^^ v <<< 13) ^^^ (v ^^^ v <<< 13) >>> 7) ^^^ ((v ^^^ v <<< 13) ^^^ (v ^^^ v <<< 13) >>> 7) <<< 17).toNat:Int):=by
 unfold Lt;rw[Zk,show UInt64.ofNat v.toNat=UInt64.ofBitVec v from by apply UInt64.eq_of_toBitVec_eq;simp];rfl
theorem P7{n k:Nat}(h:2 ^ k<=n):Nat.log2 n=k+Nat.log2 (n / 2 ^ k):=by
 have hk:0<2 ^ k:=Nat.two_pow_pos k;have hq:n / 2 ^ k≠0:=by
  have:=Nat.div_pos h hk;omega
 have hn:n≠0:=by omega
 have h1:2 ^ (Nat.log2 (n / 2 ^ k))<=n / 2 ^ k:=(Nat.le_log2 hq).mp (Nat.le_refl _);have h2:n / 2 ^ k<2 ^ (Nat.log2 (n / 2 ^ k)+1):=(Nat.log2_lt hq).mp (Nat.lt_succ_self _);generalize Nat.log2 (n / 2 ^ k)=a at h1 h2 ⊢;have h3:k+a<=Nat.log2 n:=(Nat.le_log2 hn).mpr (by
  rw[Nat.pow_add,Nat.mul_comm];exact(Nat.le_div_iff_mul_le hk).mp h1)
 have h4:Nat.log2 n<k+a+1:=(Nat.log2_lt hn).mpr (by
  rw[show k+a+1=(a+1)+k by omega,Nat.pow_add];exact(Nat.div_lt_iff_lt_mul hk).mp h2)
 omega
theorem kK(k:Nat){n:Nat}(h:2 ^ k<=n):Go.Sort.bitsLen n=k+Go.Sort.bitsLen (n / 2 ^ k):=by
 have hk:0<2 ^ k:=Nat.two_pow_pos k;have hq:n / 2 ^ k≠0:=by
  have:=Nat.div_pos h hk;omega
 unfold Go.Sort.bitsLen;rw[Qa0 (by omega),Qa0 hq,P7 h];omega
theorem su(k:Nat){n:Nat}(h:n<2 ^ k):Go.Sort.bitsLen n<=k:=by
 unfold Go.Sort.bitsLen;split
 .omega
 .rename_i h0;exact(Nat.log2_lt h0).mpr h
def FJ:List UInt8:=(List.range 256).map λi=>Yg (Go.Sort.bitsLen i)
theorem KD{m:Nat}(h:m<256):(FJ.getD m 0).toNat=Go.Sort.bitsLen m:=by
 unfold FJ;rw[Yk,List.getElem?_map,List.getElem?_range h];simp only[Option.map_some,Option.getD_some];have:=su 8 (n:=m) (by omega);simp only[UInt8.toNat_ofNat'];omega
theorem oI{T:List UInt8}{m:Nat}{N:Int}(hT:T=FJ)(hm:m<256)(h1:0<=N)(h2:N<=64) :
  aB (Zj ((0:Int)<=((Yg (Zx (Zy .u8 (m:Int)))).toNat:Int))&&Zj (((Yg (Zx (Zy .u8 (m:Int)))).toNat:Int)<(T.length:Int))) (Yq (Zv AI (Zy AI (N+Zy AI ((Zd T (Zx ((Yg (Zx (Zy .u8 (m:Int)))).toNat:Int)) (0:UInt8)).toNat:Int))),([]:aO)))=Yq (Zv AI (N+(Go.Sort.bitsLen m:Int)),[]):=by
 subst hT;have hw:Zy .u8 (m:Int)=(m:Int):=by
  unfold Zy;simp[Yz,Yj];omega
 have hu:(Yg m).toNat=m:=by simp;omega
 rw[hw,Zk,hu,Zk,KD hm];have:=su 8 (n:=m) (by omega);rw[ae (by simp[FJ];omega),iw (n:=(Go.Sort.bitsLen m:Int)) (by omega) (by omega),iw (by omega) (by omega)]
theorem f32(n:Nat):Int.fdiv (n:Int) ((2:Int) ^ min (Zx (32:Int)) (Yz AT))=((n / 2 ^ 32:Nat):Int):=Xz (n:Int) (b:=((2 ^ 32:Nat):Int)) (Int.natCast_nonneg _)
theorem f16(n:Nat):Int.fdiv (n:Int) ((2:Int) ^ min (Zx (16:Int)) (Yz AT))=((n / 2 ^ 16:Nat):Int):=Xz (n:Int) (b:=((2 ^ 16:Nat):Int)) (Int.natCast_nonneg _)
theorem f8(n:Nat):Int.fdiv (n:Int) ((2:Int) ^ min (Zx (8:Int)) (Yz AT))=((n / 2 ^ 8:Nat):Int):=Xz (n:Int) (b:=((2 ^ 8:Nat):Int)) (Int.natCast_nonneg _)
theorem BR(n:Nat):Tm (n:Int)=(Go.Sort.bitsLen n:Int):=by unfold Tm;rw[Zk]
theorem Sm(v:BitVec 64) :
  Zy AT ((BitVec.toNat (BitVec.ofInt 64 (Zy AT ((BitVec.toNat (BitVec.ofInt 64 (Zy AT ((BitVec.toNat (BitVec.ofInt 64 (v.toNat:Int) ^^^ BitVec.ofInt 64 (Zy AT ((v.toNat:Int)*(2:Int) ^ min (Zx (13:Int)) 64)))):Int)) ^^^ BitVec.ofInt 64 (Int.fdiv (Zy AT ((BitVec.toNat (BitVec.ofInt 64 (v.toNat:Int) ^^^ BitVec.ofInt 64 (Zy AT ((v.toNat:Int)*(2:Int) ^ min (Zx (13:Int)) 64)))):Int)) ((2:Int) ^ min (Zx (7:Int)) 64)))):Int)) ^^^ BitVec.ofInt 64 (Zy AT (Zy AT ((BitVec.toNat (BitVec.ofInt 64 (Zy AT ((BitVec.toNat (BitVec.ofInt 64 (v.toNat:Int) ^^^ BitVec.ofInt 64 (Zy AT ((v.toNat:Int)*(2:Int) ^ min (Zx (13:Int)) 64)))):Int)) ^^^ BitVec.ofInt 64 (Int.fdiv (Zy AT ((BitVec.toNat (BitVec.ofInt 64 (v.toNat:Int) ^^^ BitVec.ofInt 64 (Zy AT ((v.toNat:Int)*(2:Int) ^ min (Zx (13:Int)) 64)))):Int)) ((2:Int) ^ min (Zx (7:Int)) 64)))):Int)*(2:Int) ^ min (Zx (17:Int)) 64)))):Int)=Lt (v.toNat:Int):=by
 rw[aac v,shl v 13 ((2:Int) ^ min (Zx (13:Int)) 64) rfl];simp only[W7,aac];rw[shr _ 7 ((2:Int) ^ min (Zx (7:Int)) 64) rfl];rw[shl _ 17 ((2:Int) ^ min (Zx (17:Int)) 64) rfl,TT]
theorem Sl(r:UInt64):Lt (r.toNat:Int)=((Go.Sort.xorNext r).toNat:Int):=by
 unfold Lt;rw[Zk,UInt64.ofNat_toNat]
theorem Ow{n:Int}(h1:0<=n)(h2:n<18446744073709551616):Zy AT n=n:=by
 unfold Zy;simp[Yz,Yj];omega
theorem SH(r:UInt64){m:Nat}(h1:1<=m)(h2:m<=4611686018427387904):Zy AI (Zy AT ((BitVec.toNat (BitVec.ofInt 64 (r.toNat:Int) &&& BitVec.ofInt 64 (Zy AT ((m:Int)-(1:Int)))):Int)))=((r.toNat &&& (m-1):Nat):Int):=by
 have hr:=r.toNat_lt;rw[Ow (n:=(m:Int)-1) (by omega) (by omega),BitVec.toNat_and,BitVec.toNat_ofInt,BitVec.toNat_ofInt];rw[show((r.toNat:Int) % ((2 ^ 64:Nat):Int)).toNat=r.toNat by omega,show(((m:Int)-1) % ((2 ^ 64:Nat):Int)).toNat=m-1 by omega];have:r.toNat &&& (m-1)<=m-1:=Nat.and_le_right;rw[Ow (by omega) (by omega),iw (by omega) (by omega)]
theorem Tz{n:Nat}(h:n≠0):1<=1 <<< Go.Sort.bitsLen n/\1 <<< Go.Sort.bitsLen n<=2*n:=by
 rw[Nat.one_shiftLeft];have:=Nat.two_pow_pos (Go.Sort.bitsLen n);refine⟨this,?_⟩;unfold Go.Sort.bitsLen;rw[Qa0 h,Nat.pow_succ];have:=(Nat.le_log2 h).mp (Nat.le_refl _);omega
theorem NA{n:Nat}(h:n<=4611686018427387904):Zy AT ((1:Int)*(2:Int) ^ min (Zx ((Go.Sort.bitsLen n:Nat):Int)) 64)=Qn (n:Int):=by
 unfold Qn;have:=su 63 (n:=n) (by omega);rw[Zk,Zk,Nat.one_shiftLeft,show min (Go.Sort.bitsLen n) 64=Go.Sort.bitsLen n by omega,Int.one_mul];have h2:2 ^ Go.Sort.bitsLen n<=2 ^ 63:=Yb (by omega) this;rw[show((2:Int) ^ Go.Sort.bitsLen n)=((2 ^ Go.Sort.bitsLen n:Nat):Int) from by simp];generalize 2 ^ Go.Sort.bitsLen n=q at h2 ⊢;exact Ow (by omega) (by omega)
theorem Qo(n:Nat):Qn (n:Int)=((1 <<< Go.Sort.bitsLen n:Nat):Int):=by
 unfold Qn;rw[Zk]
def Ox(a l m idx:Nat)(d:Array Int):Nat->UInt64×Array Int
 | 0=>(UInt64.ofNat l,d)
 | k+1=>Go.Sort.breakStep a l m (Ox a l m idx d k) (idx+k)
theorem G2(a l m idx:Nat)(d:Array Int):∀ k,(Ox a l m idx d k).2.size=d.size
 | 0=>rfl
 | k+1=>by
  unfold Ox Go.Sort.breakStep;dsimp only;rw[swp_size,G2 a l m idx d k]
end Kerb
/- The sort: one round of the outermost loop. -/
namespace Kerb
open Go Go.Abs Go.Sort
theorem xP{O J:Type}{X:Option O}{v:O}{K:O->Option J}{Q:J->Prop}(h:X=Yq v)(hk:∃ y,K v=Yq y/\Q y):∃ y,Option.bind X K=Yq y/\Q y:=by
 rw[h];exact hk
theorem tu{a b:Nat}:∀ (s i:Nat) (d:Array Int),(partialIns ltInt a b s i d).1.size=d.size:=by
 intro s;induction s with
 | zero=>intro i d;rfl
 | succ s ih =>
  intro i d;rw[partialIns_succ];split
  .rfl
  .split
   .rfl
   .rw[ih];unfold fixUp fixDown;have h1:∀ (c:Prop) [Decidable c] (x:Array Int) (j:Nat),(if c then shiftDown ltInt j x else x).size=x.size:=λc _ x j=>by
     split
     .rw[uY]
     .rfl
    have h2:∀ (c:Prop) [Decidable c] (x:Array Int) (j:Nat),(if c then shiftUp ltInt b j x else x).size=x.size:=λc _ x j=>by
     split
     .rw[yC _ _ _ rfl]
     .rfl
    rw[h2,h1,Kerb.swp_size]
theorem sV{d:Array Int}{a b p:Nat}(h1:a<=p)(h2:p<b)(h3:b<=d.size):a<=(partition ltInt d a b p).1/\(partition ltInt d a b p).1<b/\(partition ltInt d a b p).2.2.size=d.size:=by
 obtain⟨q1,q2,q3,_⟩:=partition_holds ltInt swo_ltInt d a b p h1 h2 h3;exact⟨q1,q2,q3.1⟩
theorem pn{d:Array Int}{a b p:Nat}(h1:a<=p)(h2:p<b)(h3:b<=d.size):a<(partitionEqual ltInt d a b p).1/\(partitionEqual ltInt d a b p).1<=b/\(partitionEqual ltInt d a b p).2.size=d.size:=by
 have hs:=Kerb.swp_size d a p;obtain⟨q1,q2,q3,_⟩:=partEqLoop_spec (lt:=ltInt) a b _ (a+1) (b-1) (swp d a p) (Nat.le_refl _) (by omega) (by omega) (by omega) (by omega) (λt h4 h5=>by omega) (λt h4 h5=>by omega);exact⟨q1,q2,q3.1.trans hs⟩
theorem HU{d:Array Int}{a b:Nat}(h1:a<=b)(h2:b<=d.size):(insertionSort ltInt d a b).size=d.size:=(insertionSort_holds swo_ltInt d a b h1 h2).1.1
theorem M5{d:Array Int}{a b:Nat}(h1:a<=b)(h2:b<=d.size):(heapSort ltInt d a b).size=d.size:=(heapSort_holds swo_ltInt d a b h1 h2).1.1
theorem Ba{d:Array Int}{a b:Nat}(h1:a<=b)(h2:b<=d.size):(breakPatterns d a b).size=d.size:=(breakPatterns_holds d a b h1 h2).1
theorem IF{d:Array Int}{a b:Nat}(h1:a<=b)(h2:b<=d.size):(reverseRange d a b).size=d.size:=(reverseRange_holds d a b h1 h2).1
def Se(d3:Array Int)(a b l pv:Nat)(wB wP:Bool):Array Int :=
 if a>0 && !ltInt d3[a-1]! d3[pv]! then
  match partitionEqual ltInt d3 a b pv with
  | (mid,d4)=>if _h:a<mid/\mid<=b then pdq ltInt d4 mid b l wB wP else d4
 else
  match partition ltInt d3 a b pv with
  | (mid,ap,d4) =>
   if _h:a<=mid/\mid<b then
    if mid-a<b-mid then
     pdq ltInt (pdq ltInt d4 a mid l Zf Zf) (mid+1) b l (Zj (mid-a>=(b-a) / 8)) ap
    else
     pdq ltInt (pdq ltInt d4 (mid+1) b l Zf Zf) a mid l (Zj (b-mid>=(b-a) / 8)) ap
   else d4
def V8(d2:Array Int)(a b l pv:Nat)(hint:Hint)(wB wP:Bool):Array Int :=
 if (if wB&&wP&&hint = .increasing then partialInsertionSort ltInt d2 a b else(d2,Zw)).2 then(if wB&&wP&&hint = .increasing then partialInsertionSort ltInt d2 a b else(d2,Zw)).1
 else Se (if wB&&wP&&hint = .increasing then partialInsertionSort ltInt d2 a b else(d2,Zw)).1 a b l pv wB wP
def Pw(d1:Array Int)(a b l:Nat)(wB wP:Bool):Array Int :=
 V8 (if (choosePivot ltInt d1 a b).2 = .decreasing then reverseRange d1 a b else d1) a b l (if (choosePivot ltInt d1 a b).2 = .decreasing then(b-1)-((choosePivot ltInt d1 a b).1-a) else(choosePivot ltInt d1 a b).1) (if (choosePivot ltInt d1 a b).2 = .decreasing then Hint.increasing else(choosePivot ltInt d1 a b).2) wB wP
theorem zJ(d:Array Int)(a b l:Nat)(wB wP:Bool):pdq ltInt d a b l wB wP =
  if b-a<=12 then insertionSort ltInt d a b else
  if l=0 then heapSort ltInt d a b else
  Pw (if !wB then breakPatterns d a b else d) a b (if !wB then l-1 else l) wB wP:=by
 rw[pdq];rfl
theorem CX{d3:Array Int}{a b l pv:Nat}{wB wP:Bool}(h1:a<=pv)(h2:pv<b)(h3:b<=d3.size):Se d3 a b l pv wB wP =
  if (Zj (a>0) && !ltInt d3[a-1]! d3[pv]!)=Zf then pdq ltInt (partitionEqual ltInt d3 a b pv).2 (partitionEqual ltInt d3 a b pv).1 b l wB wP
  else if (partition ltInt d3 a b pv).1-a<b-(partition ltInt d3 a b pv).1 then
   pdq ltInt (pdq ltInt (partition ltInt d3 a b pv).2.2 a (partition ltInt d3 a b pv).1 l Zf Zf) ((partition ltInt d3 a b pv).1+1) b l (Zj ((partition ltInt d3 a b pv).1-a>=(b-a) / 8)) (partition ltInt d3 a b pv).2.1
  else pdq ltInt (pdq ltInt (partition ltInt d3 a b pv).2.2 ((partition ltInt d3 a b pv).1+1) b l Zf Zf) a (partition ltInt d3 a b pv).1 l (Zj (b-(partition ltInt d3 a b pv).1>=(b-a) / 8)) (partition ltInt d3 a b pv).2.1:=by
 unfold Se;have e:=pn h1 h2 h3;have p:=sV h1 h2 h3;generalize partitionEqual ltInt d3 a b pv=x at e ⊢;generalize partition ltInt d3 a b pv=y at p ⊢;obtain⟨mid,d4⟩:=x;obtain⟨m,ap,d5⟩:=y;dsimp only at e p ⊢;rw[dif_pos (show a<mid/\mid<=b from⟨e.1,e.2.1⟩),dif_pos (show a<=m/\m<b from⟨p.1,p.2.1⟩)]
theorem uQ:∀ (n:Nat) (d:Array Int) (a b l:Nat) (wB wP:Bool),b-a<=n->a<=b->b<=d.size->(pdq ltInt d a b l wB wP).size=d.size:=by
 intro n;induction n with
 | zero =>
  intro d a b l wB wP h1 h2 h3;rw[zJ,Qa1 (by omega),HU h2 h3]
 | succ n ih =>
  intro d a b l wB wP h1 h2 h3;rw[zJ];by_cases YK:b-a<=12
  .rw[Qa1 YK,HU h2 h3]
  rw[Qa0 YK];by_cases hl:l=0
  .rw[Qa1 hl,M5 h2 h3]
  rw[Qa0 hl];have s1:(if (!wB)=Zf then breakPatterns d a b else d).size=d.size:=by
   split
   .exact Ba h2 h3
   .rfl
  generalize (if (!wB)=Zf then breakPatterns d a b else d)=d1 at s1 ⊢;generalize (if (!wB)=Zf then l-1 else l)=l1;unfold Pw;have hc:=choosePivot_holds ltInt d1 a b (by omega);generalize choosePivot ltInt d1 a b=c at hc ⊢;have s2:(if c.2 = .decreasing then reverseRange d1 a b else d1).size=d.size:=by
   split
   .rw[IF h2 (by omega),s1]
   .exact s1
  generalize (if c.2 = .decreasing then reverseRange d1 a b else d1)=d2 at s2 ⊢;have hp:a<=(if c.2 = .decreasing then(b-1)-(c.1-a) else c.1)/\(if c.2 = .decreasing then(b-1)-(c.1-a) else c.1)<b:=by
   split<;>omega
  generalize (if c.2 = .decreasing then(b-1)-(c.1-a) else c.1)=pv at hp ⊢;generalize (if c.2 = .decreasing then Hint.increasing else c.2)=hint;unfold V8;have s3:(if (wB&&wP&&Zj (hint = .increasing))=Zf then partialInsertionSort ltInt d2 a b else(d2,Zw)).1.size=d.size:=by
   split
   .unfold partialInsertionSort;rw[tu,s2]
   .exact s2
  generalize (if (wB&&wP&&Zj (hint = .increasing))=Zf then partialInsertionSort ltInt d2 a b else(d2,Zw))=pi at s3 ⊢;by_cases hpi:pi.2=Zf
  .rw[Qa1 hpi];exact s3
  rw[Qa0 hpi,CX hp.1 hp.2 (by omega)];have e:=pn hp.1 hp.2 (show b<=pi.1.size by omega);have p:=sV hp.1 hp.2 (show b<=pi.1.size by omega);generalize partitionEqual ltInt pi.1 a b pv=x at e ⊢;generalize partition ltInt pi.1 a b pv=y at p ⊢;split
  .rw[ih _ _ _ _ _ _ (by omega) (by omega) (by omega)];omega
  .have hL:=ih y.2.2 a y.1 l1 Zf Zf (by omega) (by omega) (by omega);have hR:=ih y.2.2 (y.1+1) b l1 Zf Zf (by omega) (by omega) (by omega);split
   .rw[ih _ _ _ _ _ _ (by omega) (by omega) (by omega)];omega
   .rw[ih _ _ _ _ _ _ (by omega) (by omega) (by omega)];omega
theorem rV(d:Array Int)(a b l:Nat):Qm (back d) (a:Int) (b:Int) (l:Int)=back (pdq ltInt d a b l Zf Zf):=by
 simp only[Qm,fq,Zk]
theorem PP(d:Array Int)(a b:Nat):AM (back d) (a:Int) (b:Int)=back (insertionSort ltInt d a b):=by
 simp only[AM,fq,Zk]
theorem M4(d:Array Int)(a b:Nat):LW (back d) (a:Int) (b:Int)=back (heapSort ltInt d a b):=by
 simp only[LW,fq,Zk]
theorem J4(d:Array Int)(a b:Nat):E8 (back d) (a:Int) (b:Int)=back (breakPatterns d a b):=by
 simp only[E8,fq,Zk]
theorem QA(d:Array Int)(a b:Nat):TC (back d) (a:Int) (b:Int)=back (reverseRange d a b):=by
 simp only[TC,fq,Zk]
theorem NQ(d:Array Int)(a b:Nat):Iw (back d) (a:Int) (b:Int)=choosePivot ltInt d a b:=by
 simp only[Iw,fq,Zk]
theorem Is(d:Array Int)(a b:Nat):yq (back d) (a:Int) (b:Int)=(back (partialInsertionSort ltInt d a b).1,(partialInsertionSort ltInt d a b).2):=by
 simp only[yq,fq,Zk]
theorem M7(h:Hint):(HD h==(2:Int))=Zj (h = .decreasing):=by cases h<;>rfl
theorem M8(h:Hint):(HD h==(1:Int))=Zj (h = .increasing):=by cases h<;>rfl
def Dc(l:List AV)(k:Int):List AV:=Ao (l++[.int AT k])
def num(l:List AV)(i:Nat):Int:=match l.getD i .undef with | .int _ n=>n | _=>0
def MD(l:List AV):Bool:=(List.range (l.length-1)).all λi=>Zj (num l i<num l (i+1))
theorem OX{d:Array Int}(h:MD (back d)=Zf){i:Nat}(hi:i+1<d.size):d[i]! < d[i+1]! := by
 simp only[MD,List.all_eq_true,List.mem_range,aY,Qa2] at h;have:=h i (by omega);simp only[num,pK hi,pK (show i<d.size by omega)] at this;exact this
theorem Mp{n:Nat}(h:n<=1000000000000):Go.Abs.room n 8=Zf:=by
 simp[Go.Abs.room];omega
theorem all_join{l:List AV}{k:Int}(h:dl l=Zf):dl (l++[.int AT k])=Zf:=by
 simp only[dl,List.all_append,Zp] at h ⊢;exact⟨h,rfl⟩
theorem MB(l:List AV)(k:Int):∃ d,Dc l k=back d:=⟨_,rfl⟩
theorem OQ{l:List AV}{k:Int}(h:dl l=Zf):(Dc l k).length=l.length+1:=by
 unfold Dc Ao Go.Sort.sort;rw[aY,uQ _ _ _ _ _ _ _ (Nat.le_refl _) (by omega) (Nat.le_refl _)];simp[df,eJ]
theorem La(d:Array Int):Ao (back d)=back (pdq ltInt d 0 d.size (Go.Sort.bitsLen d.size) Zf Zf):=by
 unfold Ao Go.Sort.sort;rw[fq]
theorem Od(d:Array Int):Qm (back d) (0:Int) (d.size:Int) (Go.Sort.bitsLen d.size:Int)=Ao (back d):=by
 rw[La];exact rV d 0 d.size (Go.Sort.bitsLen d.size)
theorem V7{d:Array Int}(h:(d.size:Int)<=1152921504606846976):Go.Sort.bitsLen d.size<=64:=su 64 (Nat.lt_of_le_of_lt (m:=1152921504606846976) (by omega) (by decide))
end Kerb
