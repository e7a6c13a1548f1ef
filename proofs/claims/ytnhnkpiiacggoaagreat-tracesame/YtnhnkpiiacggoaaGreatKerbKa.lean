/- Chapter 22: messages of kaservers, in plain words. -/
import Derived.Test.YtnhnkpiiacggoaaGreatKerbAt
namespace Kerb
open Go Go.Abs
set_option linter.unusedVariables false
structure KaRequest where
 op:Int
 user:Prin
 kvno:Int
 realm:Bytes
 ticket:Bytes
 service:Bytes
 inst:Bytes
 box:Bytes
def kaOp (n:Int):Bool:=n==1||(n==2||n==3)
structure Dec (α:Type) where
 val:α
 err:Int
def decBy {α:Type} (no:α) (enc:α→Enc) (rd:Bytes→α×Bool) (b:Bytes):Dec α :=
 if (rd b).2=true∨(enc (rd b).1).err≠0∨(enc (rd b).1).val≠b then ⟨no,100⟩ else ⟨(rd b).1,0⟩
structure KaReply where
 op:Int
 code:Int
 box:Bytes
def lGet:Bytes:=[103,84,71,83]
def lGot:Bytes:=[116,103,115,84]
def lGiven:Bytes:=[116,107,116,71]
def lDone:Bytes:=[67,80,87,100]
structure KaSecret where
 label:Bytes
 time:Int
 start:Int
 stop:Int
 new:Int
structure KaAnswer where
 label:Bytes
 time:Int
 session:Int
 start:Int
 stop:Int
 kvno:Int
 service:Prin
 ticket:Bytes
end Kerb
namespace Kerb
structure Ask where
 op:UInt8
 user:UInt8
 kvno:UInt8
 service:UInt8
 label:UInt8
 time:Int
 start:Int
 stop:Int
 key:UInt8
 ticket:Bytes
 box:Bytes
 extra:UInt8
def u8i (x:UInt8):Int:=(x.toNat:Int)
def Ask.reqOp (a:Ask):Int:=1+u8i a.op % 3
def Ask.ex (a:Ask):Nat:=a.extra.toNat % 16
def Ask.base (a:Ask):KaRequest :=
 if a.reqOp=2 then ⟨2,noPrin,u8i a.kvno,(Kerb.service (u8i a.service)).realm,a.ticket,(Kerb.service (u8i a.service)).name,(Kerb.service (u8i a.service)).inst,a.box.take 900⟩
 else ⟨a.reqOp,Kerb.user (u8i a.user),0,[],[],[],[],a.box.take 900⟩
def long (n:Int):Int:=Go.IntKind.wrap .u64 ((BitVec.ofInt (Go.IntKind.bits .u64) 72057594037927936 ||| BitVec.ofInt (Go.IntKind.bits .u64) (Go.IntKind.wrap .u64 (Go.IntKind.wrap .i64 (1+n)))).toNat:Int)
def Ask.lab (l0 l1 l2 l3:Bytes) (a:Ask):Bytes:=if a.label.toNat % 4=0 then l0 else if a.label.toNat % 4=1 then l1 else if a.label.toNat % 4=2 then l2 else l3
def Ask.answer (a:Ask):KaAnswer :=
 let l:=a.lab lGot lGiven lDone lGet
 if l=lDone∧a.ex≠8 then ⟨l,a.time,0,0,0,0,noPrin,[]⟩
 else ⟨l,a.time,session (u8i a.key),a.start,a.stop,u8i a.kvno,Kerb.service (u8i a.service),a.ticket⟩
end Kerb
