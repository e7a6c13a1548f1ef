/- Chapters 7, 10, 13, 16, 18: what is decoded, keys of services, replay caches, services that verify. -/
import Derived.Test.YtnhnkpiiacggoaaGreatKerbCli6
import Derived.Test.YtnhnkpiiacggoaaGreatKerbDb
import Derived.Test.YtnhnkpiiacggoaaGreatKerbTkt
import Derived.Test.YtnhnkpiiacggoaaGreatKerbSrv
namespace Kerb
open Go Go.Abs
set_option linter.unusedVariables false
def noAuth:Auth:=⟨noPrin,0,0,0⟩
def readAuth (b:Bytes) (li:Bool):Auth :=
 let p:=prin b 1
 let c:=get b p.next 4 li
 let t:=get b c.next 1 false
 ⟨p.val,c.val,t.val,(get b t.next 4 li).val⟩
def decodeAuth (b:Bytes) (li:Bool):Dec Auth:=decBy noAuth (fun a=>encodeAuth a li) (fun b=>(readAuth b li,false)) b
def openAuth (b:Bytes) (li:Bool) (k:Int):Dec Auth :=
 if (openBox b 2 k).2=false then ⟨noAuth,31⟩
 else if (decodeAuth (openBox b 2 k).1 li).err≠0 then ⟨noAuth,31⟩ else ⟨(decodeAuth (openBox b 2 k).1 li).val,0⟩
structure GotAp where
 val:ApRequest
 next:Int
theorem getD_row {α:Type} {av:α→AV} {d:α} {cs:List α} {i:Nat} (h:i<cs.length):(cs.map av).getD i .undef=av (cs.getD i d):=by
 simp [List.getD_eq_getElem?_getD,h]
theorem mem_row {α:Type} {d:α} {cs:List α} {i:Nat} (h:i<cs.length):cs.getD i d∈cs:=by
 simp [List.getD_eq_getElem?_getD,h]
structure SKey where
 service:Prin
 kvno:Int
 key:Int
def noSKey:SKey:=⟨noPrin,0,0⟩
def SKey.av (c:SKey):AV := .agg [.str c.service.name,.str c.service.inst,.str c.service.realm,.int .i64 c.kvno,.int .u64 c.key]
def SKey.ok (c:SKey):Prop:=c.service.name.length≤9223372036854775807∧c.service.inst.length≤9223372036854775807∧c.service.realm.length≤9223372036854775807∧isI64 c.kvno=true∧isU64 c.key=true
def SKey.eqb (a b:SKey):Bool:=a.service.name==b.service.name&&(a.service.inst==b.service.inst&&(a.service.realm==b.service.realm&&(a.kvno==b.kvno&&a.key==b.key)))
def SKey.is (p:Prin) (v:Int) (x:SKey):Bool:=x.service.eqb p&&x.kvno==v
def skAt (l:List SKey) (p:Prin) (v:Int):Nat:=l.findIdx (SKey.is p v)
def skFind (l:List SKey) (p:Prin) (v:Int):Int×Bool:=if skAt l p v<l.length then ((l.getD (skAt l p v) noSKey).key,true) else (0,false)
def SKey.err (x:SKey):Int:=if !x.service.valid then 103 else if !within x.kvno 255 then 104 else if !keyValid x.key then 10 else 0
def skErrs:List SKey→List SKey→Int
 | _,[]=>0
 | seen,c::r=>if c.err≠0 then c.err else if seen.any (SKey.is c.service c.kvno) then 107 else skErrs (seen++[c]) r
def skErr (l:List SKey):Int:=if 60<l.length then 106 else skErrs [] l
def sameSKeys:List SKey→List SKey→Bool
 | [],[]=>true
 | a::l,b::r=>a.eqb b&&sameSKeys l r
 | _,_=>false
structure Mark where
 client:Prin
 time:Int
 tick:Int
def Mark.av (m:Mark):AV := .agg [.str m.client.name,.str m.client.inst,.str m.client.realm,.int .i64 m.time,.int .i64 m.tick]
def Mark.ok (m:Mark):Prop:=m.client.name.length≤9223372036854775807∧m.client.inst.length≤9223372036854775807∧m.client.realm.length≤9223372036854775807∧isI64 m.time=true∧isI64 m.tick=true
def Mark.eqb (a b:Mark):Bool:=a.client.name==b.client.name&&(a.client.inst==b.client.inst&&(a.client.realm==b.client.realm&&(a.time==b.time&&a.tick==b.tick)))
def hasMark (l:List Mark) (m:Mark):Bool:=l.any fun x=>x.eqb m
structure RCache where
 size:Int
 floor:Int
 marks:List Mark
def noRC:RCache:=⟨0,0,[]⟩
def Mark.err (floor:Int) (m:Mark):Int :=
 if !m.client.valid then 103 else if !(decide (floor≤m.time)&&decide (m.time≤4294967295)&&within m.tick 199) then 104 else 0
def marksErr (floor:Int):List Mark→List Mark→Int
 | _,[]=>0
 | seen,c::r=>if c.err floor≠0 then c.err floor else if hasMark seen c then 107 else marksErr floor (seen++[c]) r
def RCache.err (r:RCache):Int :=
 if !(decide (1≤r.size)&&decide (r.size≤40)&&within r.floor 4294967295) then 104 else if r.size<r.marks.length then 106 else marksErr r.floor [] r.marks
def freshMarks (r:RCache) (now skew:Int):List Mark:=r.marks.filter fun x=>decide (imax r.floor (now-skew)≤x.time)
def addMark (r:RCache) (m:Mark) (now skew:Int):Dec RCache :=
 if r.err≠0 then ⟨noRC,108⟩ else if !m.client.valid then ⟨noRC,103⟩ else if !within m.tick 199 then ⟨noRC,104⟩
 else if near m.time now skew=false∨m.time<r.floor then ⟨noRC,37⟩ else if hasMark r.marks m then ⟨noRC,34⟩
 else if r.size≤(freshMarks r now skew).length then ⟨noRC,82⟩
 else ⟨⟨r.size,imax r.floor (now-skew),freshMarks r now skew++[m]⟩,0⟩
def sameMarks:List Mark→List Mark→Bool
 | [],[]=>true
 | a::l,b::r=>a.eqb b&&sameMarks l r
 | _,_=>false
def RCache.same (a b:RCache):Bool:=a.size==b.size&&(a.floor==b.floor&&sameMarks a.marks b.marks)
structure Server where
 me:Prin
 keys:List SKey
 replay:RCache
 skew:Int
structure Accepted where
 client:Prin
 session:Int
 address:Int
 checksum:Int
 time:Int
 tick:Int
 issued:Int
 life:Int
 ticket:Bytes
 auth:Bytes
def noAccepted:Accepted:=⟨noPrin,0,0,0,0,0,0,0,[],[]⟩
def Server.err (s:Server):Int :=
 if !s.me.valid then 103 else if skErr s.keys≠0 then skErr s.keys else if s.replay.err≠0 then s.replay.err else if !within s.skew 4294967295 then 104 else 0
structure Opened where
 ticket:Ticket
 auth:Auth
 err:Int
def ticketFor (t:Ticket) (realm:Bytes):Prin:=⟨t.service,t.inst,realm⟩
def openReq (s:Server) (r:ApRequest):Opened :=
 if r.realm≠s.me.realm then ⟨noTicket,noAuth,35⟩
 else if (skFind s.keys s.me r.kvno).2=false then ⟨noTicket,noAuth,35⟩
 else if (openTicket r.ticket (skFind s.keys s.me r.kvno).1).err=7 then ⟨noTicket,noAuth,7⟩
 else if (openTicket r.ticket (skFind s.keys s.me r.kvno).1).err≠0 then ⟨noTicket,noAuth,31⟩
 else if (ticketFor (openTicket r.ticket (skFind s.keys s.me r.kvno).1).val s.me.realm).eqb s.me=false then ⟨noTicket,noAuth,35⟩
 else if (openAuth r.auth r.little (openTicket r.ticket (skFind s.keys s.me r.kvno).1).val.session).err≠0 then ⟨noTicket,noAuth,31⟩
 else ⟨(openTicket r.ticket (skFind s.keys s.me r.kvno).1).val,(openAuth r.auth r.little (openTicket r.ticket (skFind s.keys s.me r.kvno).1).val.session).val,0⟩
def judge (t:Ticket) (a:Auth) (src now skew:Int):Int :=
 if t.client.eqb a.client=false then 36 else if src≠t.address then 38 else if near a.time now skew=false then 37 else stateErr t.issued t.life now skew
def markOf (a:Auth):Mark:=⟨a.client,a.time,a.tick⟩
structure Verified where
 s:Server
 a:Accepted
 err:Int
def verify (s:Server) (r:ApRequest) (src now:Int):Verified :=
 if s.err≠0 then ⟨s,noAccepted,108⟩
 else if (openReq s r).err≠0 then ⟨s,noAccepted,(openReq s r).err⟩
 else if judge (openReq s r).ticket (openReq s r).auth src now s.skew≠0 then ⟨s,noAccepted,judge (openReq s r).ticket (openReq s r).auth src now s.skew⟩
 else if (addMark s.replay (markOf (openReq s r).auth) now s.skew).err≠0 then ⟨s,noAccepted,(addMark s.replay (markOf (openReq s r).auth) now s.skew).err⟩
 else ⟨⟨s.me,s.keys,(addMark s.replay (markOf (openReq s r).auth) now s.skew).val,s.skew⟩,⟨(openReq s r).ticket.client,(openReq s r).ticket.session,(openReq s r).ticket.address,(openReq s r).auth.checksum,(openReq s r).auth.time,(openReq s r).auth.tick,(openReq s r).ticket.issued,(openReq s r).ticket.life,r.ticket,r.auth⟩,0⟩
structure VRead where
 s:Server
 a:Accepted
 answer:Bytes
 err:Int
def Accepted.same (a b:Accepted):Bool:=a.client.eqb b.client&&a.session==b.session&&a.address==b.address&&a.checksum==b.checksum&&a.time==b.time&&a.tick==b.tick&&a.issued==b.issued&&a.life==b.life&&a.ticket==b.ticket&&a.auth==b.auth
def Server.same (a b:Server):Bool:=a.me.eqb b.me&&a.skew==b.skew&&sameSKeys a.keys b.keys&&a.replay.same b.replay
end Kerb
