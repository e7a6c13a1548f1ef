/- Chapter 22: messages of kaservers, in plain words. -/
import Derived.Test.YtmipfdjcnkljnaaKerbAt
namespace Kerb
open Go Go.Abs
set_option linter.unusedVariables false
structure KaRequest where
 op:Int
 user:Prin
 kvno:Int
 realm:Bytes
 ticket:Bytes
 service:Bytes
 inst:Bytes
 box:Bytes
structure Dec (α:Type) where
 val:α
 err:Int
structure KaReply where
 op:Int
 code:Int
 box:Bytes
structure KaSecret where
 label:Bytes
 time:Int
 start:Int
 stop:Int
 new:Int
structure KaAnswer where
 label:Bytes
 time:Int
 session:Int
 start:Int
 stop:Int
 kvno:Int
 service:Prin
 ticket:Bytes
end Kerb
namespace Kerb
structure Ask where
 op:UInt8
 user:UInt8
 kvno:UInt8
 service:UInt8
 label:UInt8
 time:Int
 start:Int
 stop:Int
 key:UInt8
 ticket:Bytes
 box:Bytes
 extra:UInt8
def u8i (x:UInt8):Int:=(x.toNat:Int)
def Ask.reqOp (a:Ask):Int:=1+u8i a.op % 3
def Ask.ex (a:Ask):Nat:=a.extra.toNat % 16
def Ask.base (a:Ask):KaRequest :=
 if a.reqOp=2 then ⟨2,noPrin,u8i a.kvno,(Kerb.service (u8i a.service)).realm,a.ticket,(Kerb.service (u8i a.service)).name,(Kerb.service (u8i a.service)).inst,a.box.take 900⟩
 else ⟨a.reqOp,Kerb.user (u8i a.user),0,[],[],[],[],a.box.take 900⟩
end Kerb
