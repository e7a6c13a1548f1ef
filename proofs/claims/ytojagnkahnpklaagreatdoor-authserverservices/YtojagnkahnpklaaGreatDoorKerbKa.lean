/- Chapter 22: messages of kaservers, in plain words. -/
import Derived.Test.YtojagnkahnpklaaGreatDoorKerbAt
namespace Kerb
open Go Go.Abs
set_option linter.unusedVariables false
structure KaRequest where
 op:Int
 user:Prin
 kvno:Int
 realm:Bytes
 ticket:Bytes
 service:Bytes
 inst:Bytes
 box:Bytes
def Prin.isNo (p:Prin):Bool:=p.name==[]&&(p.inst==[]&&p.realm==[])
def kaOp (n:Int):Bool:=n==1||(n==2||n==3)
def kaHead (op:Int):Bytes:=header 9 false++putN op 1 false
def putBox (b:Bytes) (t:Bytes):Bytes:=b++putN t.length 2 false++t
def putTick (b:Bytes) (t:Bytes):Bytes:=b++putN t.length 1 false++t
def encodeKaRequest (r:KaRequest):Enc :=
 if !kaOp r.op then ⟨[],40⟩
 else if r.op==2 then
  if !(validRealm r.realm&&validName r.service&&validInst r.inst) then ⟨[],103⟩
  else if !within r.kvno 255 then ⟨[],104⟩
  else if 255<r.ticket.length∨1012<r.box.length then ⟨[],105⟩
  else if !r.user.isNo then ⟨[],108⟩
  else ⟨putBox (putText (putText (putTick (putText (kaHead r.op++putN r.kvno 1 false) r.realm) r.ticket) r.service) r.inst) r.box,0⟩
 else
  if !r.user.valid then ⟨[],103⟩
  else if 1012<r.box.length then ⟨[],105⟩
  else if r.kvno≠0∨r.realm≠[]∨r.ticket≠[]∨r.service≠[]∨r.inst≠[] then ⟨[],108⟩
  else ⟨putBox (putPrin (kaHead r.op) r.user) r.box,0⟩
structure Dec (α:Type) where
 val:α
 err:Int
def decBy {α:Type} (no:α) (enc:α→Enc) (rd:Bytes→α×Bool) (b:Bytes):Dec α :=
 if (rd b).2=true∨(enc (rd b).1).err≠0∨(enc (rd b).1).val≠b then ⟨no,100⟩ else ⟨(rd b).1,0⟩
structure KaReply where
 op:Int
 code:Int
 box:Bytes
def lGet:Bytes:=[103,84,71,83]
def lGot:Bytes:=[116,103,115,84]
def lTicket:Bytes:=[103,84,75,84]
def lGiven:Bytes:=[116,107,116,71]
def lChange:Bytes:=[67,80,87,108]
def lDone:Bytes:=[67,80,87,100]
structure KaSecret where
 label:Bytes
 time:Int
 start:Int
 stop:Int
 new:Int
def timed (l:Bytes):Bool:=l==lGet||l==lTicket
def encodeKaSecret (s:KaSecret):Enc :=
 if !timed s.label && !(s.label==lChange) then ⟨[],80⟩
 else if !within s.time 4294967295 then ⟨[],104⟩
 else if timed s.label then
  if !(within s.start 4294967295&&within s.stop 4294967295) then ⟨[],104⟩
  else if s.new≠0 then ⟨[],108⟩
  else ⟨pad (s.label++putN s.time 4 false++putN s.start 4 false++putN s.stop 4 false),0⟩
 else
  if !keyValid s.new then ⟨[],10⟩
  else if s.start≠0∨s.stop≠0 then ⟨[],108⟩
  else ⟨pad (s.label++putN s.time 4 false++keyBytes s.new),0⟩
structure KaAnswer where
 label:Bytes
 time:Int
 session:Int
 start:Int
 stop:Int
 kvno:Int
 service:Prin
 ticket:Bytes
end Kerb
namespace Kerb
structure Ask where
 op:UInt8
 user:UInt8
 kvno:UInt8
 service:UInt8
 label:UInt8
 time:Int
 start:Int
 stop:Int
 key:UInt8
 ticket:Bytes
 box:Bytes
 extra:UInt8
def u8i (x:UInt8):Int:=(x.toNat:Int)
def Ask.reqOp (a:Ask):Int:=1+u8i a.op % 3
def Ask.ex (a:Ask):Nat:=a.extra.toNat % 16
def Ask.base (a:Ask):KaRequest :=
 if a.reqOp=2 then ⟨2,noPrin,u8i a.kvno,(Kerb.service (u8i a.service)).realm,a.ticket,(Kerb.service (u8i a.service)).name,(Kerb.service (u8i a.service)).inst,a.box.take 900⟩
 else ⟨a.reqOp,Kerb.user (u8i a.user),0,[],[],[],[],a.box.take 900⟩
def long (n:Int):Int:=Go.IntKind.wrap .u64 ((BitVec.ofInt (Go.IntKind.bits .u64) 72057594037927936 ||| BitVec.ofInt (Go.IntKind.bits .u64) (Go.IntKind.wrap .u64 (Go.IntKind.wrap .i64 (1+n)))).toNat:Int)
def Ask.lab (l0 l1 l2 l3:Bytes) (a:Ask):Bytes:=if a.label.toNat % 4=0 then l0 else if a.label.toNat % 4=1 then l1 else if a.label.toNat % 4=2 then l2 else l3
def Ask.secret (a:Ask):KaSecret :=
 let l:=a.lab lGet lTicket lChange lDone
 let new:=if l=lChange∨a.ex=10 then long (u8i a.key) else 0
 if l≠lChange∨a.ex=9 then ⟨l,a.time,a.start,a.stop,new⟩ else ⟨l,a.time,0,0,new⟩
def Ask.answer (a:Ask):KaAnswer :=
 let l:=a.lab lGot lGiven lDone lGet
 if l=lDone∧a.ex≠8 then ⟨l,a.time,0,0,0,0,noPrin,[]⟩
 else ⟨l,a.time,session (u8i a.key),a.start,a.stop,u8i a.kvno,Kerb.service (u8i a.service),a.ticket⟩
end Kerb
