/- Chapter 22: messages of kaservers, in plain words. -/
import Derived.Test.YtmdppipjjnfanaaGreatDoorKerbAt
namespace Kerb
open Go Go.Abs
set_option linter.unusedVariables false
structure KaRequest where
 op:Int
 user:Prin
 kvno:Int
 realm:Bytes
 ticket:Bytes
 service:Bytes
 inst:Bytes
 box:Bytes
def Prin.isNo (p:Prin):Bool:=p.name==[]&&(p.inst==[]&&p.realm==[])
def kaOp (n:Int):Bool:=n==1||(n==2||n==3)
def kaHead (op:Int):Bytes:=header 9 false++putN op 1 false
def putBox (b:Bytes) (t:Bytes):Bytes:=b++putN t.length 2 false++t
def putTick (b:Bytes) (t:Bytes):Bytes:=b++putN t.length 1 false++t
def encodeKaRequest (r:KaRequest):Enc :=
 if !kaOp r.op then ⟨[],40⟩
 else if r.op==2 then
  if !(validRealm r.realm&&validName r.service&&validInst r.inst) then ⟨[],103⟩
  else if !within r.kvno 255 then ⟨[],104⟩
  else if 255<r.ticket.length∨1012<r.box.length then ⟨[],105⟩
  else if !r.user.isNo then ⟨[],108⟩
  else ⟨putBox (putText (putText (putTick (putText (kaHead r.op++putN r.kvno 1 false) r.realm) r.ticket) r.service) r.inst) r.box,0⟩
 else
  if !r.user.valid then ⟨[],103⟩
  else if 1012<r.box.length then ⟨[],105⟩
  else if r.kvno≠0∨r.realm≠[]∨r.ticket≠[]∨r.service≠[]∨r.inst≠[] then ⟨[],108⟩
  else ⟨putBox (putPrin (kaHead r.op) r.user) r.box,0⟩
structure Dec (α:Type) where
 val:α
 err:Int
def decBy {α:Type} (no:α) (enc:α→Enc) (rd:Bytes→α×Bool) (b:Bytes):Dec α :=
 if (rd b).2=true∨(enc (rd b).1).err≠0∨(enc (rd b).1).val≠b then ⟨no,100⟩ else ⟨(rd b).1,0⟩
theorem decBy_same {α:Type} {no:α} {enc:α→Enc} {P:α→Prop} {rd1 rd2:Bytes→α×Bool} (h1:∀ r,P r→(enc r).err=0→rd1 (enc r).val=(r,false)) (h2:∀ r,P r→(enc r).err=0→rd2 (enc r).val=(r,false))
  (p1:∀ b,P (rd1 b).1) (p2:∀ b,P (rd2 b).1) (b:Bytes):decBy no enc rd1 b=decBy no enc rd2 b:=by
 obtain ⟨a,c⟩:=dec_same h1 h2 p1 p2 b
 unfold decBy
 by_cases h:(rd1 b).2=true∨(enc (rd1 b).1).err≠0∨(enc (rd1 b).1).val≠b
 ·rw [if_pos h,if_pos (a.1 h)]
 ·rw [if_neg h,if_neg (mt a.2 h),c h]
theorem decBy_back {α:Type} {no:α} {enc:α→Enc} {rd:Bytes→α×Bool} {r:α} (h:rd (enc r).val=(r,false)) (he:(enc r).err=0):decBy no enc rd (enc r).val=⟨r,0⟩:=by
 unfold decBy
 rw [h,if_neg (by simp [he])]
def pGet (b:Bytes) (k:Int) (pos:Int) (bad:Bool):Rd Int :=
 cond (bad || !((get b pos k false).err==0)) ⟨0,pos,true⟩ ⟨(get b pos k false).val,(get b pos k false).next,false⟩
def pBytes (b:Bytes) (n:Int) (pos:Int) (bad:Bool):Rd Bytes :=
 cond (bad || !((bytes b pos n).err==0)) ⟨[],pos,true⟩ ⟨(bytes b pos n).val,(bytes b pos n).next,false⟩
def pPrin (b:Bytes) (pos:Int) (bad:Bool):Rd Prin :=
 cond (bad || !((prin b pos).err==0)) ⟨noPrin,pos,true⟩ ⟨(prin b pos).val,(prin b pos).next,false⟩
def pKey (b:Bytes) (pos:Int) (bad:Bool):Rd Int :=
 ⟨cond (keyRead (pBytes b 8 pos bad).val).2 (keyRead (pBytes b 8 pos bad).val).1 0,(pBytes b 8 pos bad).pos,(pBytes b 8 pos bad).bad || !(keyRead (pBytes b 8 pos bad).val).2⟩
structure KaReply where
 op:Int
 code:Int
 box:Bytes
def encodeKaReply (r:KaReply):Enc :=
 if !kaOp r.op then ⟨[],40⟩
 else if !within r.code 99 then ⟨[],104⟩
 else if 1012<r.box.length then ⟨[],105⟩
 else if r.code≠0∧r.box≠[] then ⟨[],108⟩
 else ⟨putBox (kaHead (r.op+128)++putN r.code 1 false) r.box,0⟩
def noKaReply:KaReply:=⟨0,0,[]⟩
def pRep (b:Bytes):Rd KaReply :=
 let o:=pGet b 1 2 false
 let c:=pGet b 1 o.pos o.bad
 let m:=pGet b 2 c.pos c.bad
 let x:=pBytes b m.val m.pos m.bad
 ⟨⟨o.val-128,c.val,x.val⟩,x.pos,x.bad⟩
def readKaRep (b:Bytes):KaReply×Bool:=((pRep b).val,(pRep b).bad)
def decodeKaReply (b:Bytes):Dec KaReply :=
 if (headIs b [9]).2≠0 then ⟨noKaReply,(headIs b [9]).2⟩ else decBy noKaReply encodeKaReply readKaRep b
def lGet:Bytes:=[103,84,71,83]
def lGot:Bytes:=[116,103,115,84]
def lTicket:Bytes:=[103,84,75,84]
def lGiven:Bytes:=[116,107,116,71]
def lChange:Bytes:=[67,80,87,108]
def lDone:Bytes:=[67,80,87,100]
structure KaSecret where
 label:Bytes
 time:Int
 start:Int
 stop:Int
 new:Int
def timed (l:Bytes):Bool:=l==lGet||l==lTicket
def encodeKaSecret (s:KaSecret):Enc :=
 if !timed s.label && !(s.label==lChange) then ⟨[],80⟩
 else if !within s.time 4294967295 then ⟨[],104⟩
 else if timed s.label then
  if !(within s.start 4294967295&&within s.stop 4294967295) then ⟨[],104⟩
  else if s.new≠0 then ⟨[],108⟩
  else ⟨pad (s.label++putN s.time 4 false++putN s.start 4 false++putN s.stop 4 false),0⟩
 else
  if !keyValid s.new then ⟨[],10⟩
  else if s.start≠0∨s.stop≠0 then ⟨[],108⟩
  else ⟨pad (s.label++putN s.time 4 false++keyBytes s.new),0⟩
structure KaAnswer where
 label:Bytes
 time:Int
 session:Int
 start:Int
 stop:Int
 kvno:Int
 service:Prin
 ticket:Bytes
def ticketed (l:Bytes):Bool:=l==lGot||l==lGiven
def encodeKaAnswer (a:KaAnswer):Enc :=
 if !ticketed a.label && !(a.label==lDone) then ⟨[],80⟩
 else if !within a.time 4294967295 then ⟨[],104⟩
 else if ticketed a.label then
  if !keyValid a.session then ⟨[],10⟩
  else if !(within a.start 4294967295&&within a.stop 4294967295&&within a.kvno 255) then ⟨[],104⟩
  else if !a.service.valid then ⟨[],103⟩
  else if 255<a.ticket.length then ⟨[],105⟩
  else ⟨pad (putTick (putPrin (a.label++putN a.time 4 false++keyBytes a.session++putN a.start 4 false++putN a.stop 4 false++putN a.kvno 1 false) a.service) a.ticket),0⟩
 else if a.session≠0∨a.start≠0∨a.stop≠0∨a.kvno≠0∨a.service.isNo=false∨a.ticket≠[] then ⟨[],108⟩
 else ⟨pad (a.label++putN a.time 4 false),0⟩
def noKaAnswer:KaAnswer:=⟨[],0,0,0,0,0,noPrin,[]⟩
def pAns (b:Bytes):Rd KaAnswer :=
  let l:=pBytes b 4 0 false
  let t:=pGet b 4 l.pos l.bad
  cond (ticketed l.val)
    (let k:=pKey b t.pos t.bad
     let s:=pGet b 4 k.pos k.bad
     let e:=pGet b 4 s.pos s.bad
     let v:=pGet b 1 e.pos e.bad
     let p:=pPrin b v.pos v.bad
     let n:=pGet b 1 p.pos p.bad
     let x:=pBytes b n.val n.pos n.bad
     ⟨⟨l.val,t.val,k.val,s.val,e.val,v.val,p.val,x.val⟩,x.pos,x.bad⟩)
    ⟨⟨l.val,t.val,0,0,0,0,noPrin,[]⟩,t.pos,t.bad⟩
def readKaAns (b:Bytes):KaAnswer×Bool:=((pAns b).val,(pAns b).bad)
def decodeKaAnswer (b:Bytes):Dec KaAnswer:=decBy noKaAnswer encodeKaAnswer readKaAns b
end Kerb
namespace Kerb
structure Ask where
 op:UInt8
 user:UInt8
 kvno:UInt8
 service:UInt8
 label:UInt8
 time:Int
 start:Int
 stop:Int
 key:UInt8
 ticket:Bytes
 box:Bytes
 extra:UInt8
def u8i (x:UInt8):Int:=(x.toNat:Int)
def Ask.reqOp (a:Ask):Int:=1+u8i a.op % 3
def Ask.ex (a:Ask):Nat:=a.extra.toNat % 16
def Ask.base (a:Ask):KaRequest :=
 if a.reqOp=2 then ⟨2,noPrin,u8i a.kvno,(Kerb.service (u8i a.service)).realm,a.ticket,(Kerb.service (u8i a.service)).name,(Kerb.service (u8i a.service)).inst,a.box.take 900⟩
 else ⟨a.reqOp,Kerb.user (u8i a.user),0,[],[],[],[],a.box.take 900⟩
def long (n:Int):Int:=Go.IntKind.wrap .u64 ((BitVec.ofInt (Go.IntKind.bits .u64) 72057594037927936 ||| BitVec.ofInt (Go.IntKind.bits .u64) (Go.IntKind.wrap .u64 (Go.IntKind.wrap .i64 (1+n)))).toNat:Int)
def Ask.lab (l0 l1 l2 l3:Bytes) (a:Ask):Bytes:=if a.label.toNat % 4=0 then l0 else if a.label.toNat % 4=1 then l1 else if a.label.toNat % 4=2 then l2 else l3
def Ask.secret (a:Ask):KaSecret :=
 let l:=a.lab lGet lTicket lChange lDone
 let new:=if l=lChange∨a.ex=10 then long (u8i a.key) else 0
 if l≠lChange∨a.ex=9 then ⟨l,a.time,a.start,a.stop,new⟩ else ⟨l,a.time,0,0,new⟩
def Ask.answer (a:Ask):KaAnswer :=
 let l:=a.lab lGot lGiven lDone lGet
 if l=lDone∧a.ex≠8 then ⟨l,a.time,0,0,0,0,noPrin,[]⟩
 else ⟨l,a.time,session (u8i a.key),a.start,a.stop,u8i a.kvno,Kerb.service (u8i a.service),a.ticket⟩
end Kerb
