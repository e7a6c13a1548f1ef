/- Chapter 20: what a client makes of replies and answers. -/
import Derived.Test.YtmipfdjcnkljnaaKerbCli2
namespace Kerb
open Go Go.Abs
set_option linter.unusedVariables false
structure Rcv where
 c:Client
 cred:Cred
 err:Int
def repKey (c:Client) (k:Int):Int:=if c.wait=2 then (getCred c.cache.creds (granter c.me c.wanted)).1.session else k
def readRep (c:Client) (k:Int) (msg:Bytes):DecPart :=
 if (decodeReply msg).err≠0 then ⟨noPart,(decodeReply msg).err⟩
 else if !(decodeReply msg).val.client.eqb c.me || !((decodeReply msg).val.time==c.time) then ⟨noPart,63⟩
 else if c.wait=2∧(getCred c.cache.creds (granter c.me c.wanted)).2=false then ⟨noPart,76⟩
 else if (openBox (decodeReply msg).val.sealed 3 (repKey c k)).2=false then ⟨noPart,62⟩
 else if (decodePart (openBox (decodeReply msg).val.sealed 3 (repKey c k)).1 (decodeReply msg).val.little).err≠0 ∨
   (decodePart (openBox (decodeReply msg).val.sealed 3 (repKey c k)).1 (decodeReply msg).val.little).val.service.eqb c.wanted=false then ⟨noPart,63⟩
 else ⟨(decodePart (openBox (decodeReply msg).val.sealed 3 (repKey c k)).1 (decodeReply msg).val.little).val,0⟩
def partCred (p:ReplyPart):Cred:=⟨p.service,p.session,p.life,p.kvno,p.time,p.ticket⟩
def receive (c:Client) (k:Int) (msg:Bytes) (now:Int):Rcv :=
 if c.err≠0∨(c.wait≠1∧c.wait≠2) then ⟨c,noCred,108⟩
 else if (decodeError msg).err=0 then
  if (decodeError msg).val.client.eqb c.me=false then ⟨c,noCred,63⟩ else ⟨c.idle,noCred,(decodeError msg).val.code⟩
 else if (readRep c k msg).err≠0 then ⟨c,noCred,(readRep c k msg).err⟩
 else if near (readRep c k msg).val.time now c.skew=false then ⟨c,noCred,37⟩
 else if (storeCred c.cache (partCred (readRep c k msg).val)).err≠0 then ⟨c,noCred,(storeCred c.cache (partCred (readRep c k msg).val)).err⟩
 else ⟨{ c.idle with cache:=(storeCred c.cache (partCred (readRep c k msg).val)).val },partCred (readRep c k msg).val,0⟩
def dataReply (client service:Prin) (session sealer:Int) (little:Bool) (time now life:Int):Bytes :=
 (encodeReply ⟨little,client,time,0,0,(makeBox 3 sealer (encodePart ⟨session,service,life,2,[1,2,3],now⟩ little).val).val⟩).val
structure Ans where
 kind:UInt8
 client:UInt8
 service:UInt8
 time:UInt8
 now:UInt8
 little:Bool
 sealer:UInt8
 how:Int
def Ans.av (x:Ans):AV := .agg [.u8 x.kind,.u8 x.client,.u8 x.service,.u8 x.time,.u8 x.now,.bool x.little,.u8 x.sealer,.int .u16 x.how]
structure Mutual where
 checksum:Int
 tick:Int
 time:Int
end Kerb
namespace Kerb
open Go Go.Abs
end Kerb
namespace Kerb
open Go Go.Abs
def m8 (x:UInt8):UInt8:=UInt8.ofNat (Int.toNat (Int.tmod (↑x.toNat:Int) (↑(8:UInt8).toNat:Int)))
def d8 (x:UInt8):Int:=IntKind.wrap .i64 (↑(UInt8.ofNat (Int.toNat (IntKind.wrap .u8 (Int.tdiv (↑x.toNat:Int) (↑(8:UInt8).toNat:Int))))).toNat:Int)
def Ans.me (x:Ans) (c:Client):Prin:=cond (m8 x.client==7) (user (d8 x.client)) c.me
def Ans.wanted (x:Ans) (c:Client):Prin:=cond (m8 x.service==7) (Kerb.service (d8 x.service)) c.wanted
def Ans.at' (x:Ans) (c:Client):Int:=cond (m8 x.time==7) (IntKind.wrap .i64 (↑x.time.toNat:Int)) c.time
def Ans.key (x:Ans) (k:Int):Int:=cond (m8 x.sealer==7) (session (d8 x.sealer)) k
def Ans.code (x:Ans):Int:=IntKind.wrap .i64 (↑(UInt8.ofNat (Int.toNat (IntKind.wrap .u8 ((↑(1:UInt8).toNat:Int)+(↑(UInt8.ofNat (Int.toNat (IntKind.wrap .u8 (Int.tdiv (↑x.kind.toNat:Int) (↑(8:UInt8).toNat:Int))))).toNat:Int))))).toNat:Int)
def Ans.rep (x:Ans) (c:Client) (k:Int):Bytes :=
 dataReply (x.me c) (x.wanted c) (session 50) (x.key k) x.little (x.at' c) (IntKind.wrap .i64 (1000+IntKind.wrap .i64 (IntKind.wrap .i64 (↑x.now.toNat:Int)*4))) 100
def Ans.text (x:Ans) (c:Client) (k:Int):Bytes :=
 cond (m8 x.kind==7) (encodeError ⟨x.little,x.me c,9,x.code,[]⟩).val (cond (m8 x.kind==6) (spoil (x.rep c k) x.how) (x.rep c k))
theorem user_dec (n:Int):(user n).name.length≤9223372036854775807∧(user n).inst.length≤9223372036854775807∧(user n).realm.length≤9223372036854775807:=by
 have:=user_len n;omega
end Kerb
namespace Kerb
open Go Go.Abs
def ReplyPart.ok (p:ReplyPart):Prop:=(partCred p).ok∧p.ticket.length≤255
end Kerb
namespace Kerb
open Go Go.Abs
end Kerb
