/- Chapters 7, 10, 13, 16, 18: what is decoded, keys of services, replay caches, services that verify. -/
import Derived.Test.YtmipfdjcnkljnaaGreatKerbCli6
import Derived.Test.YtmipfdjcnkljnaaGreatKerbDb
import Derived.Test.YtmipfdjcnkljnaaGreatKerbTkt
import Derived.Test.YtmipfdjcnkljnaaGreatKerbSrv
import Derived.Test.YtmipfdjcnkljnaaGreatKerbSrvB
namespace Kerb
open Go Go.Abs
set_option linter.unusedVariables false
def noAuth:Auth:=⟨noPrin,0,0,0⟩
def readAuth (b:Bytes) (li:Bool):Auth :=
 let p:=prin b 1
 let c:=get b p.next 4 li
 let t:=get b c.next 1 false
 ⟨p.val,c.val,t.val,(get b t.next 4 li).val⟩
def rdAuth (b:Bytes) (li:Bool):Rd Auth :=
 let o:=rdGet b 1 false 0 false
 let p:=rdPrin b o.pos o.bad
 let c:=rdGet b 4 li p.pos p.bad
 let t:=rdGet b 1 false c.pos c.bad
 let m:=rdGet b 4 li t.pos t.bad
 ⟨⟨p.p,c.val,t.val,m.val⟩,m.pos,m.bad⟩
def decodeAuth (b:Bytes) (li:Bool):Dec Auth:=decBy noAuth (fun a=>encodeAuth a li) (fun b=>(readAuth b li,false)) b
def openAuth (b:Bytes) (li:Bool) (k:Int):Dec Auth :=
 if (openBox b 2 k).2=false then ⟨noAuth,31⟩
 else if (decodeAuth (openBox b 2 k).1 li).err≠0 then ⟨noAuth,31⟩ else ⟨(decodeAuth (openBox b 2 k).1 li).val,0⟩
theorem auth_at {a:Auth} {li:Bool} (h:(encodeAuth a li).err=0):∃ z:Bytes,(encodeAuth a li).val=putN (cond li 1 0) 1 false++(a.client.name++0::(a.client.inst++0::(a.client.realm++0::(putN a.checksum 4 li++(putN a.tick 1 false++(putN a.time 4 li++z)))))) ∧
  a.client.valid=true∧(0≤a.checksum∧a.checksum≤4294967295)∧(0≤a.tick∧a.tick≤199)∧0≤a.time∧a.time≤4294967295:=by
 unfold encodeAuth at h ⊢
 by_cases h1:a.check=0
 case neg=>rw [if_pos h1] at h;exact absurd h h1
 rw [if_neg (by simpa using h1)]
 unfold Auth.check at h1
 split at h1
 ·cases h1
 rename_i hv
 split at h1
 ·cases h1
 rename_i hw
 simp only [Bool.not_eq_true',Bool.not_eq_false,Bool.and_eq_true,within_iff] at hv hw
 refine ⟨_,by unfold pad putPrin putText;simp only [List.append_assoc,List.singleton_append,List.cons_append,List.nil_append];rfl,hv,hw.1.1,hw.1.2,hw.2⟩
theorem readAuth_back {a:Auth} {li:Bool} (h:(encodeAuth a li).err=0):readAuth (encodeAuth a li).val li=a:=by
 obtain ⟨z,hz,hv,⟨a0,a1⟩,⟨b0,b1⟩,c0,c1⟩:=auth_at h
 have p0:=(At.start (encodeAuth a li).val).as hz
 have p1:=p0.skip
 rw [putN_len] at p1
 obtain ⟨q,e0,p2⟩:=p1.prin hv
 obtain ⟨e1,p3⟩:=p2.get4 a0 a1
 obtain ⟨e2,p4⟩:=p3.get1 b0 (by omega)
 obtain ⟨e3,_⟩:=p4.get4 c0 c1
 unfold readAuth
 have e0':prin (encodeAuth a li).val 1=⟨a.client,q,0⟩:=e0
 simp only [e0',e1,e2,e3]
theorem rdAuth_back {a:Auth} {li:Bool} (h:(encodeAuth a li).err=0):(rdAuth (encodeAuth a li).val li).val=a∧(rdAuth (encodeAuth a li).val li).bad=false:=by
 obtain ⟨z,hz,hv,⟨a0,a1⟩,⟨b0,b1⟩,c0,c1⟩:=auth_at h
 have p0:=(At.start (encodeAuth a li).val).as hz
 obtain ⟨ez,p1⟩:=p0.get1 (by cases li<;>decide) (by cases li<;>decide)
 obtain ⟨q,e0,p2⟩:=p1.prin hv
 obtain ⟨e1,p3⟩:=p2.get4 a0 a1
 obtain ⟨e2,p4⟩:=p3.get1 b0 (by omega)
 obtain ⟨e3,_⟩:=p4.get4 c0 c1
 unfold rdAuth rdGet
 simp only [ez,BEq.rfl,Bool.not_true,Bool.false_or,cond_false]
 rw [show rdPrin (encodeAuth a li).val (0+1) false=⟨a.client,q,false⟩ from rdPrin_at e0]
 simp only [e1,e2,e3,BEq.rfl,Bool.not_true,Bool.false_or,cond_false,and_self]
theorem decAuth_ref (b:Bytes) (li:Bool):decodeAuth b li=decBy noAuth (fun a=>encodeAuth a li) (fun b=>((rdAuth b li).val,(rdAuth b li).bad)) b :=
 decBy_same (P:=fun _=>True) (fun _ _ h=>by simp only [readAuth_back h]) (fun r _ h=>Prod.ext (rdAuth_back h).1 (rdAuth_back h).2) (fun _=>trivial) (fun _=>trivial) b
theorem decodeAuth_back {a:Auth} {li:Bool} (h:(encodeAuth a li).err=0):decodeAuth (encodeAuth a li).val li=⟨a,0⟩ :=
 decBy_back (no:=noAuth) (enc:=fun a=>encodeAuth a li) (rd:=fun b=>(readAuth b li,false)) (by simp only [readAuth_back h]) h
structure GotAp where
 val:ApRequest
 next:Int
def readAp (b:Bytes):GotAp :=
 let k:=get b 2 1 false
 let s:=text b k.next
 let n:=get b s.next 1 false
 let m:=get b n.next 1 false
 let t:=bytes b m.next n.val
 let a:=bytes b t.next m.val
 ⟨⟨(readHead b).little,(readHead b).kind==4,k.val,s.val,t.val,a.val⟩,a.next⟩
def rdAp (b:Bytes) (li mtl:Bool):Rd ApRequest :=
 let k:=rdGet b 1 false 2 false
 let s:=rdText b k.pos k.bad
 let n:=rdGet b 1 false s.pos s.bad
 let m:=rdGet b 1 false n.pos n.bad
 let t:=rdBytes b n.val m.pos m.bad
 let a:=rdBytes b m.val t.pos t.bad
 ⟨⟨li,mtl,k.val,s.val,t.val,a.val⟩,a.pos,a.bad⟩
def decodeAp (b:Bytes):Dec ApRequest :=
 if (headIs b [3,4]).2≠0 then ⟨noAp,(headIs b [3,4]).2⟩ else decBy noAp encodeAp (fun b=>((readAp b).val,false)) b
theorem ap_at {r:ApRequest} (h:(encodeAp r).err=0):(encodeAp r).val=header (cond r.mutual_ 4 3) r.little++(putN r.kvno 1 false++(r.realm++0::(putN r.ticket.length 1 false++(putN r.auth.length 1 false++(r.ticket++(r.auth++[])))))) ∧
  (r.realm.length≤39∧(0:UInt8) ∉ r.realm)∧(0≤r.kvno∧r.kvno≤255)∧r.ticket.length≤255∧r.auth.length≤255:=by
 unfold encodeAp at h ⊢
 split at h
 ·cases h
 rename_i h1
 rw [if_neg h1]
 split at h
 ·cases h
 rename_i h2
 rw [if_neg h2]
 split at h
 ·cases h
 rename_i h3
 rw [if_neg h3]
 simp only [Bool.not_eq_true',Bool.not_eq_false,within_iff] at h1 h2
 refine ⟨by unfold putText;simp only [List.append_assoc,List.singleton_append,List.cons_append,List.nil_append,List.append_nil],?_,h2,by omega,by omega⟩
 simp only [validRealm,Bool.and_eq_true] at h1
 exact inst_ok' h1.2 where
 inst_ok' {s:Bytes} (h:validInst s=true):s.length≤39∧(0:UInt8) ∉ s:=by
  simp only [validInst,Bool.and_eq_true,decide_eq_true_eq] at h
  exact ⟨h.1,fun hm=>by
   have:=h.2
   simp only [printable,List.all_eq_true] at this
   exact absurd (this 0 hm) (by decide)⟩
theorem ap_head {r:ApRequest} (z:Bytes):readHead (header (cond r.mutual_ 4 3) r.little++z)=⟨cond r.mutual_ 4 3,r.little,0⟩:=by
 cases r.mutual_<;>exact header_read (by decide) (by decide) _ _
theorem ap_gets {r:ApRequest} (h:(encodeAp r).err=0):∃ q1 q2 q3 q4 q5 q6:Int,get (encodeAp r).val 2 1 false=⟨r.kvno,q1,0⟩∧text (encodeAp r).val q1=⟨r.realm,q2,0⟩∧get (encodeAp r).val q2 1 false=⟨r.ticket.length,q3,0⟩∧get (encodeAp r).val q3 1 false=⟨r.auth.length,q4,0⟩ ∧
  bytes (encodeAp r).val q4 r.ticket.length=⟨r.ticket,q5,0⟩∧bytes (encodeAp r).val q5 r.auth.length=⟨r.auth,q6,0⟩:=by
 obtain ⟨hz,⟨n0,n1⟩,⟨a0,a1⟩,t1,u1⟩:=ap_at h
 have p0:=(At.start (encodeAp r).val).as hz
 have p1:=p0.skip
 rw [show (header (cond r.mutual_ 4 3) r.little).length=2 by cases r.mutual_<;>cases r.little<;>rfl] at p1
 obtain ⟨e1,p2⟩:=p1.get1 a0 a1
 obtain ⟨e2,p3⟩:=p2.text n0 n1
 obtain ⟨e3,p4⟩:=p3.get1 (by omega) (by omega)
 obtain ⟨e4,p5⟩:=p4.get1 (by omega) (by omega)
 obtain ⟨e5,p6⟩:=p5.bytes (n:=r.ticket.length) rfl
 obtain ⟨e6,_⟩:=p6.bytes (n:=r.auth.length) rfl
 exact ⟨_,_,_,_,_,_,e1,e2,e3,e4,e5,e6⟩
theorem readAp_back {r:ApRequest} (h:(encodeAp r).err=0):(readAp (encodeAp r).val).val=r:=by
 obtain ⟨q1,q2,q3,q4,q5,q6,e1,e2,e3,e4,e5,e6⟩:=ap_gets h
 have hh:readHead (encodeAp r).val=⟨cond r.mutual_ 4 3,r.little,0⟩:=by rw [(ap_at h).1];exact ap_head _
 unfold readAp
 simp only [e1,e2,e3,e4,e5,e6,hh]
 have:((cond r.mutual_ 4 3:Int)==4)=r.mutual_:=by cases r.mutual_<;>rfl
 rw [this]
theorem rdAp_back {r:ApRequest} (h:(encodeAp r).err=0):(rdAp (encodeAp r).val (readHead (encodeAp r).val).little ((readHead (encodeAp r).val).kind==4)).val=r∧(rdAp (encodeAp r).val (readHead (encodeAp r).val).little ((readHead (encodeAp r).val).kind==4)).bad=false:=by
 obtain ⟨q1,q2,q3,q4,q5,q6,e1,e2,e3,e4,e5,e6⟩:=ap_gets h
 have hh:readHead (encodeAp r).val=⟨cond r.mutual_ 4 3,r.little,0⟩:=by rw [(ap_at h).1];exact ap_head _
 have:((cond r.mutual_ 4 3:Int)==4)=r.mutual_:=by cases r.mutual_<;>rfl
 unfold rdAp rdGet rdText rdBytes
 simp [e1,e2,e3,e4,e5,e6,hh,this]
theorem decAp_ref (b:Bytes):decBy noAp encodeAp (fun b=>((readAp b).val,false)) b=decBy noAp encodeAp (fun b=>((rdAp b (readHead b).little ((readHead b).kind==4)).val,(rdAp b (readHead b).little ((readHead b).kind==4)).bad)) b :=
 decBy_same (P:=fun _=>True) (fun _ _ h=>by simp only [readAp_back h]) (fun r _ h=>Prod.ext (rdAp_back h).1 (rdAp_back h).2) (fun _=>trivial) (fun _=>trivial) b
theorem headIs_little {b:Bytes} {l:List Int} (h:(headIs b l).2=0):(headIs b l).1=(readHead b).little:=by
 unfold headIs at h ⊢
 split at h
 ·rename_i h1;exact absurd h h1
 rename_i h1
 rw [if_neg h1]
 split at h
 ·rename_i h2
  rw [if_pos h2]
 ·cases h
theorem decodeAp_back {r:ApRequest} (h:(encodeAp r).err=0):decodeAp (encodeAp r).val=⟨r,0⟩:=by
 have hh:readHead (encodeAp r).val=⟨cond r.mutual_ 4 3,r.little,0⟩:=by rw [(ap_at h).1];exact ap_head _
 have hi:(headIs (encodeAp r).val [3,4]).2=0:=by unfold headIs;rw [hh];cases r.mutual_<;>rfl
 unfold decodeAp
 rw [if_neg (by simpa using hi)]
 exact decBy_back (no:=noAp) (enc:=encodeAp) (rd:=fun b=>((readAp b).val,false)) (by simp only [readAp_back h]) h
structure SKey where
 service:Prin
 kvno:Int
 key:Int
def noSKey:SKey:=⟨noPrin,0,0⟩
def SKey.av (c:SKey):AV := .agg [.str c.service.name,.str c.service.inst,.str c.service.realm,.int .i64 c.kvno,.int .u64 c.key]
def SKey.ok (c:SKey):Prop:=c.service.name.length≤9223372036854775807∧c.service.inst.length≤9223372036854775807∧c.service.realm.length≤9223372036854775807∧isI64 c.kvno=true∧isU64 c.key=true
def SKey.eqb (a b:SKey):Bool:=a.service.name==b.service.name&&(a.service.inst==b.service.inst&&(a.service.realm==b.service.realm&&(a.kvno==b.kvno&&a.key==b.key)))
def SKey.is (p:Prin) (v:Int) (x:SKey):Bool:=x.service.eqb p&&x.kvno==v
def skAt (l:List SKey) (p:Prin) (v:Int):Nat:=l.findIdx (SKey.is p v)
def skFind (l:List SKey) (p:Prin) (v:Int):Int×Bool:=if skAt l p v<l.length then ((l.getD (skAt l p v) noSKey).key,true) else (0,false)
def SKey.err (x:SKey):Int:=if !x.service.valid then 103 else if !within x.kvno 255 then 104 else if !keyValid x.key then 10 else 0
def skErrs:List SKey→List SKey→Int
 | _,[]=>0
 | seen,c::r=>if c.err≠0 then c.err else if seen.any (SKey.is c.service c.kvno) then 107 else skErrs (seen++[c]) r
def skErr (l:List SKey):Int:=if 60<l.length then 106 else skErrs [] l
def sameSKeys:List SKey→List SKey→Bool
 | [],[]=>true
 | a::l,b::r=>a.eqb b&&sameSKeys l r
 | _,_=>false
structure Mark where
 client:Prin
 time:Int
 tick:Int
def Mark.av (m:Mark):AV := .agg [.str m.client.name,.str m.client.inst,.str m.client.realm,.int .i64 m.time,.int .i64 m.tick]
def Mark.ok (m:Mark):Prop:=m.client.name.length≤9223372036854775807∧m.client.inst.length≤9223372036854775807∧m.client.realm.length≤9223372036854775807∧isI64 m.time=true∧isI64 m.tick=true
def Mark.eqb (a b:Mark):Bool:=a.client.name==b.client.name&&(a.client.inst==b.client.inst&&(a.client.realm==b.client.realm&&(a.time==b.time&&a.tick==b.tick)))
theorem Mark.eqb_iff {a b:Mark}:a.eqb b=true↔a=b:=by
 obtain ⟨⟨a1,a2,a3⟩,a4,a5⟩:=a
 obtain ⟨⟨b1,b2,b3⟩,b4,b5⟩:=b
 simp [Mark.eqb,and_assoc]
def hasMark (l:List Mark) (m:Mark):Bool:=l.any fun x=>x.eqb m
structure RCache where
 size:Int
 floor:Int
 marks:List Mark
def noRC:RCache:=⟨0,0,[]⟩
def Mark.err (floor:Int) (m:Mark):Int :=
 if !m.client.valid then 103 else if !(decide (floor≤m.time)&&decide (m.time≤4294967295)&&within m.tick 199) then 104 else 0
def marksErr (floor:Int):List Mark→List Mark→Int
 | _,[]=>0
 | seen,c::r=>if c.err floor≠0 then c.err floor else if hasMark seen c then 107 else marksErr floor (seen++[c]) r
def RCache.err (r:RCache):Int :=
 if !(decide (1≤r.size)&&decide (r.size≤40)&&within r.floor 4294967295) then 104 else if r.size<r.marks.length then 106 else marksErr r.floor [] r.marks
def freshMarks (r:RCache) (now skew:Int):List Mark:=r.marks.filter fun x=>decide (imax r.floor (now-skew)≤x.time)
def addMark (r:RCache) (m:Mark) (now skew:Int):Dec RCache :=
 if r.err≠0 then ⟨noRC,108⟩ else if !m.client.valid then ⟨noRC,103⟩ else if !within m.tick 199 then ⟨noRC,104⟩
 else if near m.time now skew=false∨m.time<r.floor then ⟨noRC,37⟩ else if hasMark r.marks m then ⟨noRC,34⟩
 else if r.size≤(freshMarks r now skew).length then ⟨noRC,82⟩
 else ⟨⟨r.size,imax r.floor (now-skew),freshMarks r now skew++[m]⟩,0⟩
def sameMarks:List Mark→List Mark→Bool
 | [],[]=>true
 | a::l,b::r=>a.eqb b&&sameMarks l r
 | _,_=>false
def RCache.same (a b:RCache):Bool:=a.size==b.size&&(a.floor==b.floor&&sameMarks a.marks b.marks)
structure Server where
 me:Prin
 keys:List SKey
 replay:RCache
 skew:Int
structure Accepted where
 client:Prin
 session:Int
 address:Int
 checksum:Int
 time:Int
 tick:Int
 issued:Int
 life:Int
 ticket:Bytes
 auth:Bytes
def noAccepted:Accepted:=⟨noPrin,0,0,0,0,0,0,0,[],[]⟩
def Server.err (s:Server):Int :=
 if !s.me.valid then 103 else if skErr s.keys≠0 then skErr s.keys else if s.replay.err≠0 then s.replay.err else if !within s.skew 4294967295 then 104 else 0
structure Opened where
 ticket:Ticket
 auth:Auth
 err:Int
def ticketFor (t:Ticket) (realm:Bytes):Prin:=⟨t.service,t.inst,realm⟩
def openReq (s:Server) (r:ApRequest):Opened :=
 if r.realm≠s.me.realm then ⟨noTicket,noAuth,35⟩
 else if (skFind s.keys s.me r.kvno).2=false then ⟨noTicket,noAuth,35⟩
 else if (openTicket r.ticket (skFind s.keys s.me r.kvno).1).err=7 then ⟨noTicket,noAuth,7⟩
 else if (openTicket r.ticket (skFind s.keys s.me r.kvno).1).err≠0 then ⟨noTicket,noAuth,31⟩
 else if (ticketFor (openTicket r.ticket (skFind s.keys s.me r.kvno).1).val s.me.realm).eqb s.me=false then ⟨noTicket,noAuth,35⟩
 else if (openAuth r.auth r.little (openTicket r.ticket (skFind s.keys s.me r.kvno).1).val.session).err≠0 then ⟨noTicket,noAuth,31⟩
 else ⟨(openTicket r.ticket (skFind s.keys s.me r.kvno).1).val,(openAuth r.auth r.little (openTicket r.ticket (skFind s.keys s.me r.kvno).1).val.session).val,0⟩
def judge (t:Ticket) (a:Auth) (src now skew:Int):Int :=
 if t.client.eqb a.client=false then 36 else if src≠t.address then 38 else if near a.time now skew=false then 37 else stateErr t.issued t.life now skew
def markOf (a:Auth):Mark:=⟨a.client,a.time,a.tick⟩
structure Verified where
 s:Server
 a:Accepted
 err:Int
def verify (s:Server) (r:ApRequest) (src now:Int):Verified :=
 if s.err≠0 then ⟨s,noAccepted,108⟩
 else if (openReq s r).err≠0 then ⟨s,noAccepted,(openReq s r).err⟩
 else if judge (openReq s r).ticket (openReq s r).auth src now s.skew≠0 then ⟨s,noAccepted,judge (openReq s r).ticket (openReq s r).auth src now s.skew⟩
 else if (addMark s.replay (markOf (openReq s r).auth) now s.skew).err≠0 then ⟨s,noAccepted,(addMark s.replay (markOf (openReq s r).auth) now s.skew).err⟩
 else ⟨⟨s.me,s.keys,(addMark s.replay (markOf (openReq s r).auth) now s.skew).val,s.skew⟩,⟨(openReq s r).ticket.client,(openReq s r).ticket.session,(openReq s r).ticket.address,(openReq s r).auth.checksum,(openReq s r).auth.time,(openReq s r).auth.tick,(openReq s r).ticket.issued,(openReq s r).ticket.life,r.ticket,r.auth⟩,0⟩
structure VRead where
 s:Server
 a:Accepted
 answer:Bytes
 err:Int
def Accepted.same (a b:Accepted):Bool:=a.client.eqb b.client&&a.session==b.session&&a.address==b.address&&a.checksum==b.checksum&&a.time==b.time&&a.tick==b.tick&&a.issued==b.issued&&a.life==b.life&&a.ticket==b.ticket&&a.auth==b.auth
def Server.same (a b:Server):Bool:=a.me.eqb b.me&&a.skew==b.skew&&sameSKeys a.keys b.keys&&a.replay.same b.replay
end Kerb
/- The data of the statements of chapters 18 and 19: cases, servers, keys. -/
namespace Kerb
open Go Go.Abs
set_option linter.unusedVariables false
structure Case where
 client:UInt8
 other:UInt8
 service:UInt8
 realm:UInt8
 little:Bool
 turned:Bool
 mutual_:Bool
 address:UInt8
 src:UInt8
 issued:UInt8
 time:UInt8
 tick:UInt8
 life:UInt8
 checksum:Int
 key:UInt8
 kvno:UInt8
 session:UInt8
 ticket:Int
 auth:Int
def Case.av (c:Case):AV := .agg [.u8 c.client,.u8 c.other,.u8 c.service,.u8 c.realm,.bool c.little,.bool c.turned,.bool c.mutual_,.u8 c.address,.u8 c.src,.u8 c.issued,.u8 c.time,.u8 c.tick,.u8 c.life,.int .u32 c.checksum,.u8 c.key,.u8 c.kvno,.u8 c.session,.int .u16 c.ticket,.int .u16 c.auth]
def isU32 (n:Int):Bool:=decide (0≤n)&&decide (n≤4294967295)
def isU16 (n:Int):Bool:=decide (0≤n)&&decide (n≤65535)
def Case.ok (c:Case):Prop:=isU32 c.checksum=true∧isU16 c.ticket=true∧isU16 c.auth=true
namespace Case
def who (c:Case):Prin:=Kerb.user (u8i c.client % 6)
def me (c:Case):Prin:=Kerb.service (u8i c.service % 6)
def ses (c:Case):Int:=Kerb.session (u8i c.session % 4)
def tkt (c:Case) (m:Prin):Ticket :=
 ⟨c.turned,c.who,u8i c.address % 3,c.ses,u8i c.life / 4,1000+u8i c.issued*8,m.name,if c.service.toNat % 7=6 then [111,116,104,101,114] else m.inst⟩
def au (c:Case):Auth:=⟨if c.other.toNat % 8=7 then Kerb.user (u8i c.other % 6) else c.who,c.checksum,u8i c.tick % 3,1000+u8i c.time*8⟩
def x (c:Case) (m:Prin) (k:Int):Bytes:=(sealTicket (c.tkt m) k).val
def y (c:Case):Bytes:=(sealAuth c.au c.little c.ses).val
def req (c:Case) (m:Prin) (k v:Int):ApRequest :=
  ⟨if c.auth % 16=14 then !c.little else c.little,c.mutual_,if c.kvno.toNat % 16=15 then v+1 else v,if c.realm.toNat % 16=15 then [67,65,77] else m.realm,
   if c.ticket % 16=15 then spoil (c.x m k) (c.ticket / 16) else c.x m k,if c.auth % 16=15 then spoil c.y (c.auth / 16) else c.y⟩
def msg (c:Case) (m:Prin) (k v:Int):Bytes:=(encodeAp (c.req m k v)).val
def server (c:Case) (size skew:UInt8):Server :=
 ⟨c.me,[⟨c.me,1,long 1⟩,⟨c.me,2,long 2⟩,⟨Kerb.user 0,1,long 9⟩],⟨1+u8i size % 40,0,[]⟩,u8i skew*4⟩
end Case
end Kerb
/- The statements of chapter 18, plain: what is accepted. -/
namespace Kerb
open Go Go.Abs
set_option linter.unusedVariables false
structure Added (r:RCache) (m:Mark) (now skew:Int):Prop where
 err:r.err=0
 name:m.client.valid=true
 tick:0≤m.tick∧m.tick≤199
 near:near m.time now skew=true
 floor:r.floor≤m.time
 new:m ∉ r.marks
 room:(freshMarks r now skew).length<r.size
 is:addMark r m now skew=⟨⟨r.size,imax r.floor (now-skew),freshMarks r now skew++[m]⟩,0⟩
theorem hasMark_iff {l:List Mark} {m:Mark}:hasMark l m=true↔m∈l:=by
 unfold hasMark
 rw [List.any_eq_true]
 constructor
 ·rintro ⟨x,hx,he⟩
  rw [← Mark.eqb_iff.1 he];exact hx
 ·intro h
  exact ⟨m,h,Mark.eqb_iff.2 rfl⟩
theorem added {r:RCache} {m:Mark} {now skew:Int} (h:(addMark r m now skew).err=0):Added r m now skew:=by
 unfold addMark at h
 by_cases h1:r.err=0
 case neg=>rw [if_pos h1] at h;cases h
 rw [if_neg (by simpa using h1)] at h
 by_cases h2:m.client.valid=true
 case neg=>rw [if_pos (by simpa using h2)] at h;cases h
 rw [if_neg (by simp [h2])] at h
 by_cases h3:within m.tick 199=true
 case neg=>rw [if_pos (by simpa using h3)] at h;cases h
 rw [if_neg (by simp [h3])] at h
 by_cases h4:near m.time now skew=false∨m.time<r.floor
 ·rw [if_pos h4] at h;cases h
 rw [if_neg h4] at h
 by_cases h5:hasMark r.marks m=true
 ·rw [if_pos h5] at h;cases h
 rw [if_neg h5] at h
 by_cases h6:r.size≤(freshMarks r now skew).length
 ·rw [if_pos h6] at h;cases h
 refine ⟨h1,h2,within_iff.1 h3,?_,by omega,fun hm=>h5 (hasMark_iff.2 hm),by omega,?_⟩
 ·cases hn:near m.time now skew
  ·exact absurd (.inl hn) h4
  ·rfl
 ·unfold addMark
  rw [if_neg (by simpa using h1),if_neg (by simp [h2]),if_neg (by simp [h3]),if_neg h4,if_neg h5,if_neg h6]
structure Taken (s:Server) (r:ApRequest) (src now:Int) (t:Ticket) (a:Auth):Prop where
 err:s.err=0
 realm:r.realm=s.me.realm
 found:(skFind s.keys s.me r.kvno).2=true
 tkt:openTicket r.ticket (skFind s.keys s.me r.kvno).1=⟨t,0⟩
 us:ticketFor t s.me.realm=s.me
 auth:openAuth r.auth r.little t.session=⟨a,0⟩
 client:t.client=a.client
 from_:src=t.address
 near:near a.time now s.skew=true
 state:stateErr t.issued t.life now s.skew=0
 add:Added s.replay (markOf a) now s.skew
 is:verify s r src now=⟨⟨s.me,s.keys,(addMark s.replay (markOf a) now s.skew).val,s.skew⟩,⟨t.client,t.session,t.address,a.checksum,a.time,a.tick,t.issued,t.life,r.ticket,r.auth⟩,0⟩
theorem dec_eta {α:Type} (d:Dec α) (h:d.err=0):d=⟨d.val,0⟩:=by cases d;simp at h;rw [h]
theorem taken {s:Server} {r:ApRequest} {src now:Int} (h:(verify s r src now).err=0):∃ t a,Taken s r src now t a:=by
 have h0:=h
 unfold verify at h
 by_cases h1:s.err=0
 case neg=>rw [if_pos h1] at h;cases h
 rw [if_neg (by simpa using h1)] at h
 by_cases h2:(openReq s r).err=0
 case neg=>rw [if_pos h2] at h;exact absurd h h2
 rw [if_neg (by simpa using h2)] at h
 by_cases h3:judge (openReq s r).ticket (openReq s r).auth src now s.skew=0
 case neg=>rw [if_pos h3] at h;exact absurd h h3
 rw [if_neg (by simpa using h3)] at h
 by_cases h4:(addMark s.replay (markOf (openReq s r).auth) now s.skew).err=0
 case neg=>rw [if_pos h4] at h;exact absurd h h4
 have hv:verify s r src now=⟨⟨s.me,s.keys,(addMark s.replay (markOf (openReq s r).auth) now s.skew).val,s.skew⟩,⟨(openReq s r).ticket.client,(openReq s r).ticket.session,(openReq s r).ticket.address,(openReq s r).auth.checksum,(openReq s r).auth.time,(openReq s r).auth.tick,(openReq s r).ticket.issued,(openReq s r).ticket.life,r.ticket,r.auth⟩,0⟩:=by
  unfold verify
  rw [if_neg (by simpa using h1),if_neg (by simpa using h2),if_neg (by simpa using h3),if_neg (by simpa using h4)]
 have ho:∃ t a,r.realm=s.me.realm∧(skFind s.keys s.me r.kvno).2=true∧openTicket r.ticket (skFind s.keys s.me r.kvno).1=⟨t,0⟩∧ticketFor t s.me.realm=s.me∧openAuth r.auth r.little t.session=⟨a,0⟩∧openReq s r=⟨t,a,0⟩:=by
  unfold openReq at h2 ⊢
  by_cases g1:r.realm=s.me.realm
  case neg=>rw [if_pos g1] at h2;cases h2
  rw [if_neg (by simpa using g1)] at h2 ⊢
  by_cases g2:(skFind s.keys s.me r.kvno).2=false
  ·rw [if_pos g2] at h2;cases h2
  rw [if_neg g2] at h2 ⊢
  by_cases g3:(openTicket r.ticket (skFind s.keys s.me r.kvno).1).err=7
  ·rw [if_pos g3] at h2;cases h2
  rw [if_neg g3] at h2 ⊢
  by_cases g4:(openTicket r.ticket (skFind s.keys s.me r.kvno).1).err=0
  case neg=>rw [if_pos g4] at h2;cases h2
  rw [if_neg (by simpa using g4)] at h2 ⊢
  by_cases g5:(ticketFor (openTicket r.ticket (skFind s.keys s.me r.kvno).1).val s.me.realm).eqb s.me=false
  ·rw [if_pos g5] at h2;cases h2
  rw [if_neg g5] at h2 ⊢
  by_cases g6:(openAuth r.auth r.little (openTicket r.ticket (skFind s.keys s.me r.kvno).1).val.session).err=0
  case neg=>rw [if_pos g6] at h2;cases h2
  rw [if_neg (by simpa using g6)]
  exact ⟨_,_,g1,by simpa using g2,dec_eta _ g4,Prin.eqb_iff.1 (by simpa using g5),dec_eta _ g6,rfl⟩
 obtain ⟨t,a,o1,o2,o3,o4,o5,o6⟩:=ho
 rw [o6] at h3 h4 hv
 dsimp only at h3 h4 hv
 unfold judge at h3
 by_cases j1:t.client.eqb a.client=false
 ·rw [if_pos j1] at h3;cases h3
 rw [if_neg j1] at h3
 by_cases j2:src=t.address
 case neg=>rw [if_pos j2] at h3;cases h3
 rw [if_neg (by simpa using j2)] at h3
 by_cases j3:near a.time now s.skew=false
 ·rw [if_pos j3] at h3;cases h3
 rw [if_neg j3] at h3
 exact ⟨t,a,h1,o1,o2,o3,o4,o5,Prin.eqb_iff.1 (by simpa using j1),j2,by simpa using j3,h3,added h4,hv⟩
namespace Case
end Case
theorem encodeAuth_len {a:Auth} {l:Bool}:(encodeAuth a l).val.length≤150:=by
 unfold encodeAuth
 split
 ·simp
 rename_i h
 have hv:a.client.valid=true:=by
  unfold Auth.check at h
  cases hv:a.client.valid
  ·rw [hv,if_pos (by rfl)] at h;simp at h
  ·rfl
 simp only [Prin.valid,Bool.and_eq_true,validName,validInst,validRealm,decide_eq_true_eq] at hv
 have:=pad_len (putPrin (putN (cond l 1 0) 1 false) a.client++putN a.checksum 4 l++putN a.tick 1 false++putN a.time 4 l)
 simp only [this,List.length_append,putPrin_len,putN_len]
 omega
theorem sealAuth_len (a:Auth) (l:Bool) (k:Int):(sealAuth a l k).val.length≤162:=by
 unfold sealAuth
 split
 ·simp
 ·have:=makeBox_len 2 k (encodeAuth a l).val
  have:=encodeAuth_len (a:=a) (l:=l)
  omega
structure Reached (s:Server):Prop where
 err:s.err=0
 keys:∀ c∈s.keys,c.ok
 marks:∀ c∈s.replay.marks,c.ok
 name:s.me.name.length≤9223372036854775807∧s.me.inst.length≤9223372036854775807∧s.me.realm.length≤9223372036854775807
 lens:s.keys.length≤1000000∧s.replay.marks.length≤1000000
theorem ap_len (r:ApRequest):(encodeAp r).val.length≤600:=by
 by_cases h:(encodeAp r).err=0
 ·obtain ⟨h1,⟨h2,_⟩,_,h3,h4⟩:=ap_at h
  have hh:(header (cond r.mutual_ 4 3) r.little).length=2:=by cases r.mutual_<;>cases r.little<;>rfl
  rw [h1]
  simp only [List.length_append,List.length_cons,List.length_nil,putN_len,hh]
  omega
 ·unfold encodeAp at h ⊢
  split
  ·simp
  rename_i g1
  rw [if_neg g1] at h
  split
  ·simp
  rename_i g2
  rw [if_neg g2] at h
  split
  ·simp
  rename_i g3
  rw [if_neg g3] at h
  exact absurd rfl h
structure Fits (s:Server) (V:Verified) (r:ApRequest) (src now:Int):Prop where
 err:V.err=0
 t1:V.a.time-now≤s.skew
 t2:now-V.a.time≤s.skew
 t3:V.a.issued-s.skew≤now
 t4:now≤V.a.issued+300*(V.a.life+1)+s.skew
 b1:0≤V.a.time∧V.a.time≤4294967295
 b2:0≤V.a.issued∧V.a.issued≤4294967295
 b3:0≤V.a.life∧V.a.life≤255
 b4:0≤s.skew∧s.skew≤4294967295
 b5:0≤now∧now≤4294967295
 src:V.a.address=src
 ticket:V.a.ticket=r.ticket
 auth:V.a.auth=r.auth
 more:V.s.replay.marks.length≤s.replay.marks.length+1
 most:(V.s.replay.marks.length:Int)≤V.s.replay.size
 size:V.s.replay.size=s.replay.size
 ok:V.s.err=0
structure Sound (s:Server):Prop where
 keys:∀ c∈s.keys,c.ok
 marks:∀ c∈s.replay.marks,c.ok
 name:s.me.name.length≤9223372036854775807∧s.me.inst.length≤9223372036854775807∧s.me.realm.length≤9223372036854775807
 lens:s.keys.length≤1000000∧s.replay.marks.length≤1000000
end Kerb
