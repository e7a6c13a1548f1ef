/- Chapter 24: clients of kaservers, in plain words. -/
import Derived.Test.YtaikjfcgemjghaaGreatKerbCli3
namespace Kerb
open Go Go.Abs
set_option linter.unusedVariables false
def kaNext (n:Int):Int:=(n+1) % 4294967296
structure KaWait where
 op:Int
 time:Int
 start:Int
 stop:Int
 service:Prin
 session:Int
 new:Int
def noWait:KaWait:=⟨0,0,0,0,noPrin,0,0⟩
def kaSend (r:KaRequest) (s:KaSecret) (k:Int):Enc :=
 if (encodeKaSecret s).err≠0 then ⟨[],(encodeKaSecret s).err⟩
 else if (makeBox 7 k (encodeKaSecret s).val).err≠0 then ⟨[],(makeBox 7 k (encodeKaSecret s).val).err⟩
 else encodeKaRequest { r with box:=(makeBox 7 k (encodeKaSecret s).val).val }
def kaEnd (now life:Int):Int:=imin (tEnd now life) 4294967295
structure KaSent where
 w:KaWait
 msg:Bytes
 err:Int
def kaAuth (c:Client) (k life now:Int):KaSent :=
 if c.err≠0 then ⟨noWait,[],108⟩
 else if !(within now 4294967295&&within life 255) then ⟨noWait,[],104⟩
 else if !keyValid k then ⟨noWait,[],10⟩
 else if (kaSend ⟨1,c.me,0,[],[],[],[],[]⟩ ⟨lGet,now,now,kaEnd now life,0⟩ k).err≠0 then ⟨noWait,[],(kaSend ⟨1,c.me,0,[],[],[],[],[]⟩ ⟨lGet,now,now,kaEnd now life,0⟩ k).err⟩
 else ⟨⟨1,now,now,kaEnd now life,tgs c.me.realm c.me.realm,0,0⟩,(kaSend ⟨1,c.me,0,[],[],[],[],[]⟩ ⟨lGet,now,now,kaEnd now life,0⟩ k).val,0⟩
def kaTicket (c:Client) (s:Prin) (life now:Int):KaSent :=
 if c.err≠0 then ⟨noWait,[],108⟩
 else if !(s.valid&&s.realm==c.me.realm) then ⟨noWait,[],103⟩
 else if !(within now 4294967295&&within life 255) then ⟨noWait,[],104⟩
 else
  let x:=liveCred c.cache.creds (tgs c.me.realm c.me.realm) now
  if x.err≠0 then ⟨noWait,[],x.err⟩ else
  let m:=kaSend ⟨2,noPrin,x.val.kvno,c.me.realm,x.val.ticket,s.name,s.inst,[]⟩ ⟨lTicket,now,now,kaEnd now life,0⟩ x.val.session
  if m.err≠0 then ⟨noWait,[],m.err⟩ else ⟨⟨2,now,now,kaEnd now life,s,x.val.session,0⟩,m.val,0⟩
def kaLabel (op:Int):Bytes:=if op=1 then lGot else if op=2 then lGiven else if op=3 then lDone else []
def fromSec (n:Int):Int:=imin (Int.tdiv n 300-1) 255
def kaCred (a:KaAnswer):Cred:=⟨a.service,a.session,fromSec (a.stop-a.start),a.kvno,a.start,a.ticket⟩
structure KaGot where
 c:Client
 w:KaWait
 cred:Cred
 err:Int
def kaFits (w:KaWait) (A:Dec KaAnswer):Bool:=A.err==0&&(A.val.label==kaLabel w.op&&(A.val.time==kaNext w.time&&A.val.service.eqb w.service))
def kaKey (w:KaWait) (k:Int):Int:=if w.op=2 then w.session else k
def kaOpen (w:KaWait) (k:Int) (b:Bytes):Dec KaAnswer :=
 if (openBox b 8 (kaKey w k)).2=false then ⟨noKaAnswer,62⟩
 else if kaFits w (decodeKaAnswer (openBox b 8 (kaKey w k)).1)=false then ⟨noKaAnswer,63⟩
 else ⟨(decodeKaAnswer (openBox b 8 (kaKey w k)).1).val,0⟩
def kaReceive (c:Client) (w:KaWait) (k:Int) (msg:Bytes):KaGot :=
 if c.err≠0∨kaOp w.op=false then ⟨c,w,noCred,108⟩
 else if (decodeKaReply msg).err≠0 then ⟨c,w,noCred,(decodeKaReply msg).err⟩
 else if (decodeKaReply msg).val.op≠w.op then ⟨c,w,noCred,63⟩
 else if (decodeKaReply msg).val.code≠0 then ⟨c,noWait,noCred,(decodeKaReply msg).val.code⟩
 else if (kaOpen w k (decodeKaReply msg).val.box).err≠0 then ⟨c,w,noCred,(kaOpen w k (decodeKaReply msg).val.box).err⟩
 else if w.op=3 then ⟨c,noWait,noCred,0⟩
 else if (kaOpen w k (decodeKaReply msg).val.box).val.stop-(kaOpen w k (decodeKaReply msg).val.box).val.start<300 then ⟨c,w,noCred,3⟩
 else if (storeCred c.cache (kaCred (kaOpen w k (decodeKaReply msg).val.box).val)).err≠0 then ⟨c,w,noCred,(storeCred c.cache (kaCred (kaOpen w k (decodeKaReply msg).val.box).val)).err⟩
 else ⟨{ c with cache:=(storeCred c.cache (kaCred (kaOpen w k (decodeKaReply msg).val.box).val)).val },noWait,kaCred (kaOpen w k (decodeKaReply msg).val.box).val,0⟩
def tgtCred (c:Client) (life:Int):Cred:=⟨granter c.me c.me,session 60,life,6,1000,[1,2,3]⟩
def kacBase (who:UInt8) (l:Bytes):Client:={ (newClient (user (u8i who)) 1 300 false).val with cache:=dataCache (l.take 300) (u8i who) }
def kacPerson (who:UInt8) (l:Bytes) (tgt:Bool) (life:UInt8):Client :=
 cond tgt { kacBase who l with cache:=(storeCred (kacBase who l).cache (tgtCred (kacBase who l) (u8i life))).val } (kacBase who l)
structure KacAns where
 op:UInt8
 label:UInt8
 time:UInt8
 service:UInt8
 key:UInt8
 code:UInt8
 start:Int
 stop:Int
 how:Int
end Kerb
