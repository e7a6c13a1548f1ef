/- What the functions compute, in plain words: no program here. -/
import Derived.Test.YtmipfdjcnkljnaaAbsPlain
namespace Kerb
open Go.Abs in
abbrev Bytes:=List UInt8
def okB (bad:Bytes) (c:UInt8):Bool := !decide (c.toNat<33) && !decide (126<c.toNat) && !bad.contains c
def printable (s bad:Bytes):Bool:=s.all (okB bad)
def validInst (s:Bytes):Bool:=decide (s.length≤39)&&printable s [64]
def validName (s:Bytes):Bool := !s.isEmpty&&decide (s.length≤39)&&printable s [46,64]
def validRealm (s:Bytes):Bool := !s.isEmpty&&validInst s
structure Prin where
 name:Bytes
 inst:Bytes
 realm:Bytes
def Prin.valid (p:Prin):Bool:=validName p.name&&validInst p.inst&&validRealm p.realm
def within (n m:Int):Bool:=decide (0≤n)&&decide (n≤m)
def indexOf (c:UInt8):Bytes→Int
 | [] => -1
 | x::r=>if x==c then 0 else if indexOf c r<0 then -1 else indexOf c r+1
def byteAt (n:Int) (i:Nat):UInt8:=UInt8.ofNat ((n / 2 ^ (8*i)) % 256).toNat
def putN (n:Int) (k:Nat) (little:Bool):Bytes:=cond little ((List.range k).map (byteAt n)) ((List.range k).map fun i=>byteAt n (k-1-i))
def putText (b s:Bytes):Bytes:=b++s++[0]
def putPrin (b:Bytes) (p:Prin):Bytes:=putText (putText (putText b p.name) p.inst) p.realm
def room (b:Bytes) (pos n:Int):Int :=
 if pos<0∨(b.length:Int)<pos∨n<0 then 104 else if (b.length:Int)-pos<n then 101 else 0
def valB (l:Bytes):Int:=l.foldl (fun n c=>n*256+c.toNat) 0
def cut (b:Bytes) (pos n:Int):Bytes:=(b.drop pos.toNat).take n.toNat
structure Got where
 val:Int
 next:Int
 err:Int
def get (b:Bytes) (pos k:Int) (little:Bool):Got :=
 if room b pos k=0 then ⟨valB (cond little (cut b pos k).reverse (cut b pos k)),pos+k,0⟩ else ⟨0,0,room b pos k⟩
structure GotB where
 val:Bytes
 next:Int
 err:Int
def bytes (b:Bytes) (pos n:Int):GotB :=
 if room b pos n=0 then ⟨cut b pos n,pos+n,0⟩ else ⟨[],0,room b pos n⟩
def text (b:Bytes) (pos:Int):GotB :=
 if room b pos 0=0 then
  if 0≤indexOf 0 ((b.drop pos.toNat).take 40) then ⟨((b.drop pos.toNat).take 40).take (indexOf 0 ((b.drop pos.toNat).take 40)).toNat,pos+indexOf 0 ((b.drop pos.toNat).take 40)+1,0⟩
  else if ((b.drop pos.toNat).take 40).length=40 then ⟨[],0,105⟩ else ⟨[],0,101⟩
 else ⟨[],0,104⟩
structure GotP where
 val:Prin
 next:Int
 err:Int
def noPrin:Prin:=⟨[],[],[]⟩
def prin (b:Bytes) (pos:Int):GotP :=
 if (text b pos).err≠0 then ⟨noPrin,0,(text b pos).err⟩
 else if (text b (text b pos).next).err≠0 then ⟨noPrin,0,(text b (text b pos).next).err⟩
 else if (text b (text b (text b pos).next).next).err≠0 then ⟨noPrin,0,(text b (text b (text b pos).next).next).err⟩
 else if Prin.valid ⟨(text b pos).val,(text b (text b pos).next).val,(text b (text b (text b pos).next).next).val⟩ then
  ⟨⟨(text b pos).val,(text b (text b pos).next).val,(text b (text b (text b pos).next).next).val⟩,(text b (text b (text b pos).next).next).next,0⟩
 else ⟨noPrin,0,103⟩
def isKind (k:Int):Bool:=decide (1≤k)&&decide (k≤10)
def header (k:Int) (little:Bool):Bytes:=cond (isKind k) [4,UInt8.ofNat (2*k.toNat+cond little 1 0)] []
structure Head where
 kind:Int
 little:Bool
 err:Int
def readHead (b:Bytes):Head :=
 if b.length<2 then ⟨0,false,101⟩ else if b.getD 0 0≠4 then ⟨0,false,39⟩
 else if isKind ((b.getD 1 0).toNat / 2:Nat) then ⟨((b.getD 1 0).toNat / 2:Nat),decide ((b.getD 1 0).toNat % 2=1),0⟩ else ⟨0,false,40⟩
structure KdcRequest where
 little:Bool
 client:Prin
 time:Int
 life:Int
 service:Bytes
 inst:Bytes
structure Enc where
 val:Bytes
 err:Int
def encodeRequest (r:KdcRequest):Enc :=
 if !(r.client.valid&&validName r.service&&validInst r.inst) then ⟨[],103⟩
 else if !(within r.time 4294967295&&within r.life 255) then ⟨[],104⟩
 else ⟨putText (putText (putPrin (header 1 r.little) r.client++putN r.time 4 r.little++putN r.life 1 false) r.service) r.inst,0⟩
def headIs (b:Bytes) (kinds:List Int):Bool×Int :=
 if (readHead b).err≠0 then (false,(readHead b).err) else if kinds.contains (readHead b).kind then ((readHead b).little,0) else (false,40)
structure DecReq where
 val:KdcRequest
 err:Int
def realm (n:Int):Bytes:=if n % 3=0 then [65,84,72] else if n % 3=1 then [66,79,83] else [67,65,77]
def user (n:Int):Prin:=⟨if n % 3=0 then [97,110,110] else if n % 3=1 then [98,111,98] else [99,97,116],[],realm (n / 3)⟩
def service (n:Int):Prin:=if n % 3=0 then ⟨[109,97,105,108],[],realm (n / 3)⟩ else if n % 3=1 then ⟨[110,102,115],[104,111,109,101],realm (n / 3)⟩ else ⟨[107,114,98,116,103,116],[65,84,72],realm (n / 3)⟩
def session (n:Int):Int:=Go.IntKind.wrap .u64 ((BitVec.ofInt (Go.IntKind.bits .u64) 144115188075855872 ||| BitVec.ofInt (Go.IntKind.bits .u64) (Go.IntKind.wrap .u64 (Go.IntKind.wrap .i64 (1+n)))).toNat:Int)
def next (l:Bytes) (pos n:Int):Int:=if (l.length:Int)≤pos∨n≤0 then 0 else ((l.getD pos.toNat 0).toNat:Int) % n
def nextPos (l:Bytes) (pos n:Int):Int:=((if (l.length:Int)≤pos∨n≤0 then pos else pos+1).toNat:Int)
structure Ticket where
 little:Bool
 client:Prin
 address:Int
 session:Int
 life:Int
 issued:Int
 service:Bytes
 inst:Bytes
def longest (n:Int):Prin:=⟨List.replicate (if n=0 then 39 else 38) 110,List.replicate (if n=0 then 39 else 38) 110,List.replicate (if n=0 then 39 else 38) 110⟩
def tp1 (l:Bytes):Int:=nextPos l 0 2
def tp2 (l:Bytes):Int:=nextPos l (tp1 l) 9
def tp3 (l:Bytes):Int:=nextPos l (tp2 l) 9
def tp4 (l:Bytes):Int:=nextPos l (tp3 l) 256
def tp5 (l:Bytes):Int:=nextPos l (tp4 l) 200
def tp6 (l:Bytes):Int:=nextPos l (tp5 l) 256
def tp7 (l:Bytes):Int:=nextPos l (tp6 l) 256
def tp8 (l:Bytes):Int:=nextPos l (tp7 l) 9
def tp9 (l:Bytes):Int:=nextPos l (tp8 l) 7
def tp10 (l:Bytes):Int:=nextPos l (tp9 l) 3
def tp11 (l:Bytes):Int:=nextPos l (tp10 l) 3
def tq (l:Bytes):Int:=cond (next l (tp8 l) 7==6) (tp11 l) (tp9 l)
def ticket (l:Bytes):Ticket :=
  { little:=next l 0 2==1
    client:=cond (next l (tq l) 9==8) (longest (next l (nextPos l (tq l) 9) 2)) (user (next l (tp1 l) 9))
    address:=cond (next l (tp8 l) 7==6) (Go.IntKind.wrap .i64 (4294967295-next l (tp9 l) 3)) (next l (tp4 l) 200)
    session:=session (next l (tp2 l) 9)
    life:=next l (tp3 l) 256
    issued:=cond (next l (tp8 l) 7==6) (Go.IntKind.wrap .i64 (4294967295-next l (tp10 l) 3)) (Go.IntKind.wrap .i64 (Go.IntKind.wrap .i64 (next l (tp5 l) 256*150)+next l (tp6 l) 256))
    service:=cond (next l (tq l) 9==8) (longest 0).name (Kerb.service (next l (tp7 l) 9)).name
    inst:=cond (next l (tq l) 9==8) (longest 0).inst (Kerb.service (next l (tp7 l) 9)).inst }
def keyClass (k:Int):Int:=k / 72057594037927936
def keySerial (k:Int):Int:=k % 72057594037927936
def isClass (c:Int):Bool:=c==1||c==2
def isSerial (n:Int):Bool:=decide (1≤n)&&decide (n≤4294967295)
def keyValid (k:Int):Bool:=isClass (keyClass k)&&isSerial (keySerial k)
def keyBytes (k:Int):Bytes:=(List.range 8).map fun i=>byteAt k (7-i)
def keyRead (b:Bytes):Int×Bool:=if b.length=8∧keyValid (valB b)=true then (valB b,true) else (0,false)
def pad (b:Bytes):Bytes:=b++List.replicate ((8-b.length % 8) % 8) 0
structure KdcReply where
 little:Bool
 client:Prin
 time:Int
 expires:Int
 kvno:Int
 sealed:Bytes
def encodeReply (r:KdcReply):Enc :=
 if !r.client.valid then ⟨[],103⟩
 else if !(within r.time 4294967295&&within r.expires 4294967295&&within r.kvno 255) then ⟨[],104⟩
 else if 1012<r.sealed.length then ⟨[],105⟩
 else ⟨putPrin (header 2 r.little) r.client++putN r.time 4 r.little++putN 1 1 false++putN r.expires 4 r.little++putN r.kvno 1 false++putN r.sealed.length 2 r.little++r.sealed,0⟩
structure DecReply where
 val:KdcReply
 err:Int
def noReply:KdcReply:=⟨false,noPrin,0,0,0,[]⟩
def readReply (b:Bytes):KdcReply :=
 let li:=(headIs b [2]).1
 let p:=prin b 2
 let t:=get b p.next 4 li
 let o:=get b t.next 1 false
 let e:=get b o.next 4 li
 let k:=get b e.next 1 false
 let n:=get b k.next 2 li
 ⟨li,p.val,t.val,e.val,k.val,(bytes b n.next n.val).val⟩
def decodeReply (b:Bytes):DecReply :=
 if (headIs b [2]).2≠0 then ⟨noReply,(headIs b [2]).2⟩
 else if (encodeReply (readReply b)).err≠0∨(encodeReply (readReply b)).val≠b then ⟨noReply,100⟩
 else ⟨readReply b,0⟩
structure ReplyPart where
 session:Int
 service:Prin
 life:Int
 kvno:Int
 ticket:Bytes
 time:Int
def encodePart (p:ReplyPart) (little:Bool):Enc :=
 if !keyValid p.session then ⟨[],10⟩
 else if !p.service.valid then ⟨[],103⟩
 else if !(within p.life 255&&within p.kvno 255&&within p.time 4294967295) then ⟨[],104⟩
 else if 255<p.ticket.length then ⟨[],105⟩
 else ⟨pad (putPrin (putN (cond little 1 0) 1 false++keyBytes p.session) p.service++putN p.life 1 false++putN p.kvno 1 false++putN p.ticket.length 1 false++p.ticket++putN p.time 4 little),0⟩
structure DecPart where
 val:ReplyPart
 err:Int
def noPart:ReplyPart:=⟨0,noPrin,0,0,[],0⟩
def readPart (b:Bytes) (little:Bool):ReplyPart :=
 let raw:=bytes b 1 8
 let p:=prin b raw.next
 let l:=get b p.next 1 false
 let k:=get b l.next 1 false
 let n:=get b k.next 1 false
 let t:=bytes b n.next n.val
 ⟨(keyRead raw.val).1,p.val,l.val,k.val,t.val,(get b t.next 4 little).val⟩
def decodePart (b:Bytes) (little:Bool):DecPart :=
 if (encodePart (readPart b little) little).err≠0∨(encodePart (readPart b little) little).val≠b then ⟨noPart,100⟩
 else ⟨readPart b little,0⟩
structure ErrorReply where
 little:Bool
 client:Prin
 time:Int
 code:Int
 text:Bytes
def encodeError (r:ErrorReply):Enc :=
 if !r.client.valid then ⟨[],103⟩
 else if !(within r.time 4294967295&&decide (1≤r.code)&&decide (r.code≤99)) then ⟨[],104⟩
 else if 39<r.text.length then ⟨[],105⟩
 else if 0∈r.text then ⟨[],100⟩
 else ⟨putText (putPrin (header 5 r.little) r.client++putN r.time 4 r.little++putN r.code 4 r.little) r.text,0⟩
structure DecErr where
 val:ErrorReply
 err:Int
def noErr:ErrorReply:=⟨false,noPrin,0,0,[]⟩
def readError (b:Bytes):ErrorReply :=
 let li:=(headIs b [5]).1
 let p:=prin b 2
 let t:=get b p.next 4 li
 let c:=get b t.next 4 li
 ⟨li,p.val,t.val,c.val,(text b c.next).val⟩
def decodeError (b:Bytes):DecErr :=
 if (headIs b [5]).2≠0 then ⟨noErr,(headIs b [5]).2⟩
 else if (encodeError (readError b)).err≠0∨(encodeError (readError b)).val≠b then ⟨noErr,100⟩
 else ⟨readError b,0⟩
structure RdP where
 p:Prin
 pos:Int
 bad:Bool
def spoilAt (b:Bytes) (how:Int):Int:=Int.tmod (Go.IntKind.wrap .i64 (Go.IntKind.wrap .u16 (Int.tdiv how 8))) (b.length:Int)
def spoil (b:Bytes) (how:Int):Bytes :=
 if b=[] then [] else
 if Int.tmod how 4=0 then b.set (spoilAt b how).toNat (UInt8.ofNat (Int.toNat (Go.IntKind.wrap .u8 ((BitVec.ofInt (Go.IntKind.bits .u8) ((b.getD (spoilAt b how).toNat 0).toNat:Int) ^^^ BitVec.ofInt (Go.IntKind.bits .u8) ((UInt8.ofNat (Int.toNat (Go.IntKind.wrap .u8 (((1:UInt8).toNat:Int)*(2:Int) ^ min (Int.toNat (Go.IntKind.wrap .u64 (Int.tmod how 7))) 8)))).toNat:Int)).toNat:Int))))
 else if Int.tmod how 4=1 then b.take (spoilAt b how).toNat++b.drop (Int.toNat (Go.IntKind.wrap .i64 (spoilAt b how+1)))
 else if Int.tmod how 4=2 then b++[UInt8.ofNat (Int.toNat (Go.IntKind.wrap .u8 how))]
 else b
structure Rd (α:Type) where
 val:α
 pos:Int
 bad:Bool
end Kerb
