/- Chapters 7, 10, 13, 16, 18: what is decoded, keys of services, replay caches, services that verify. -/
import Derived.Test.YtkdmekflbaekpaaGreatDoorKerbCli6
import Derived.Test.YtkdmekflbaekpaaGreatDoorKerbDb
import Derived.Test.YtkdmekflbaekpaaGreatDoorKerbTkt
import Derived.Test.YtkdmekflbaekpaaGreatDoorKerbSrv
import Derived.Test.YtkdmekflbaekpaaGreatDoorKerbSrvB
namespace Kerb
open Go Go.Abs
set_option linter.unusedVariables false
def noAuth:Auth:=⟨noPrin,0,0,0⟩
def readAuth (b:Bytes) (li:Bool):Auth :=
 let p:=prin b 1
 let c:=get b p.next 4 li
 let t:=get b c.next 1 false
 ⟨p.val,c.val,t.val,(get b t.next 4 li).val⟩
def decodeAuth (b:Bytes) (li:Bool):Dec Auth:=decBy noAuth (fun a=>encodeAuth a li) (fun b=>(readAuth b li,false)) b
def openAuth (b:Bytes) (li:Bool) (k:Int):Dec Auth :=
 if (openBox b 2 k).2=false then ⟨noAuth,31⟩
 else if (decodeAuth (openBox b 2 k).1 li).err≠0 then ⟨noAuth,31⟩ else ⟨(decodeAuth (openBox b 2 k).1 li).val,0⟩
structure GotAp where
 val:ApRequest
 next:Int
theorem rows_of {α:Type} {av:α→AV} {p:AV→Bool} {ok:α→Prop} (h:∀ a,p a=true→∃ c,a=av c∧ok c):∀ {els:List AV},els.all p=true→∃ cs:List α,els=cs.map av∧∀ c∈cs,ok c
 | [],_=>⟨[],rfl,fun _ h=>by cases h⟩
 | a::r,g=>by
  rw [List.all_cons,Bool.and_eq_true] at g
  obtain ⟨c,rfl,hc⟩:=h a g.1
  obtain ⟨cs,rfl,hcs⟩:=rows_of h g.2
  exact ⟨c::cs,rfl,fun d hd=>by
   rcases List.mem_cons.1 hd with rfl | hd
   ·exact hc
   ·exact hcs d hd⟩
theorem getD_row {α:Type} {av:α→AV} {d:α} {cs:List α} {i:Nat} (h:i<cs.length):(cs.map av).getD i .undef=av (cs.getD i d):=by
 simp [List.getD_eq_getElem?_getD,h]
theorem drop_row {α:Type} {d:α} {cs:List α} {i:Nat} (h:i<cs.length):cs.drop i=cs.getD i d::cs.drop (i+1):=by
 rw [List.drop_eq_getElem_cons h];simp [List.getD_eq_getElem?_getD,h]
theorem take_row {α:Type} {d:α} {cs:List α} {i:Nat} (h:i<cs.length):cs.take (i+1)=cs.take i++[cs.getD i d]:=by
 rw [List.take_succ_eq_append_getElem h];simp [List.getD_eq_getElem?_getD,h]
theorem mem_row {α:Type} {d:α} {cs:List α} {i:Nat} (h:i<cs.length):cs.getD i d∈cs:=by
 simp [List.getD_eq_getElem?_getD,h]
theorem all_rows {α:Type} {av:α→AV} {p:AV→Bool} {ok:α→Prop} (h:∀ c,ok c→p (av c)=true) {cs:List α} (g:∀ c∈cs,ok c):(cs.map av).all p=true:=by
 simp only [List.all_map,List.all_eq_true]
 exact fun c hc=>h c (g c hc)
structure SKey where
 service:Prin
 kvno:Int
 key:Int
def noSKey:SKey:=⟨noPrin,0,0⟩
def SKey.av (c:SKey):AV := .agg [.str c.service.name,.str c.service.inst,.str c.service.realm,.int .i64 c.kvno,.int .u64 c.key]
def SKey.ok (c:SKey):Prop:=c.service.name.length≤9223372036854775807∧c.service.inst.length≤9223372036854775807∧c.service.realm.length≤9223372036854775807∧isI64 c.kvno=true∧isU64 c.key=true
def SKey.eqb (a b:SKey):Bool:=a.service.name==b.service.name&&(a.service.inst==b.service.inst&&(a.service.realm==b.service.realm&&(a.kvno==b.kvno&&a.key==b.key)))
def SKey.is (p:Prin) (v:Int) (x:SKey):Bool:=x.service.eqb p&&x.kvno==v
def skAt (l:List SKey) (p:Prin) (v:Int):Nat:=l.findIdx (SKey.is p v)
def skFind (l:List SKey) (p:Prin) (v:Int):Int×Bool:=if skAt l p v<l.length then ((l.getD (skAt l p v) noSKey).key,true) else (0,false)
def SKey.err (x:SKey):Int:=if !x.service.valid then 103 else if !within x.kvno 255 then 104 else if !keyValid x.key then 10 else 0
def skErrs:List SKey→List SKey→Int
 | _,[]=>0
 | seen,c::r=>if c.err≠0 then c.err else if seen.any (SKey.is c.service c.kvno) then 107 else skErrs (seen++[c]) r
def skErr (l:List SKey):Int:=if 60<l.length then 106 else skErrs [] l
def sameSKeys:List SKey→List SKey→Bool
 | [],[]=>true
 | a::l,b::r=>a.eqb b&&sameSKeys l r
 | _,_=>false
structure Mark where
 client:Prin
 time:Int
 tick:Int
def Mark.av (m:Mark):AV := .agg [.str m.client.name,.str m.client.inst,.str m.client.realm,.int .i64 m.time,.int .i64 m.tick]
def Mark.ok (m:Mark):Prop:=m.client.name.length≤9223372036854775807∧m.client.inst.length≤9223372036854775807∧m.client.realm.length≤9223372036854775807∧isI64 m.time=true∧isI64 m.tick=true
def Mark.eqb (a b:Mark):Bool:=a.client.name==b.client.name&&(a.client.inst==b.client.inst&&(a.client.realm==b.client.realm&&(a.time==b.time&&a.tick==b.tick)))
theorem Mark.eqb_iff {a b:Mark}:a.eqb b=true↔a=b:=by
 obtain ⟨⟨a1,a2,a3⟩,a4,a5⟩:=a
 obtain ⟨⟨b1,b2,b3⟩,b4,b5⟩:=b
 simp [Mark.eqb,and_assoc]
def hasMark (l:List Mark) (m:Mark):Bool:=l.any fun x=>x.eqb m
structure RCache where
 size:Int
 floor:Int
 marks:List Mark
def noRC:RCache:=⟨0,0,[]⟩
def Mark.err (floor:Int) (m:Mark):Int :=
 if !m.client.valid then 103 else if !(decide (floor≤m.time)&&decide (m.time≤4294967295)&&within m.tick 199) then 104 else 0
def marksErr (floor:Int):List Mark→List Mark→Int
 | _,[]=>0
 | seen,c::r=>if c.err floor≠0 then c.err floor else if hasMark seen c then 107 else marksErr floor (seen++[c]) r
def RCache.err (r:RCache):Int :=
 if !(decide (1≤r.size)&&decide (r.size≤40)&&within r.floor 4294967295) then 104 else if r.size<r.marks.length then 106 else marksErr r.floor [] r.marks
def freshMarks (r:RCache) (now skew:Int):List Mark:=r.marks.filter fun x=>decide (imax r.floor (now-skew)≤x.time)
def addMark (r:RCache) (m:Mark) (now skew:Int):Dec RCache :=
 if r.err≠0 then ⟨noRC,108⟩ else if !m.client.valid then ⟨noRC,103⟩ else if !within m.tick 199 then ⟨noRC,104⟩
 else if near m.time now skew=false∨m.time<r.floor then ⟨noRC,37⟩ else if hasMark r.marks m then ⟨noRC,34⟩
 else if r.size≤(freshMarks r now skew).length then ⟨noRC,82⟩
 else ⟨⟨r.size,imax r.floor (now-skew),freshMarks r now skew++[m]⟩,0⟩
def sameMarks:List Mark→List Mark→Bool
 | [],[]=>true
 | a::l,b::r=>a.eqb b&&sameMarks l r
 | _,_=>false
def RCache.same (a b:RCache):Bool:=a.size==b.size&&(a.floor==b.floor&&sameMarks a.marks b.marks)
structure Server where
 me:Prin
 keys:List SKey
 replay:RCache
 skew:Int
structure Accepted where
 client:Prin
 session:Int
 address:Int
 checksum:Int
 time:Int
 tick:Int
 issued:Int
 life:Int
 ticket:Bytes
 auth:Bytes
def noAccepted:Accepted:=⟨noPrin,0,0,0,0,0,0,0,[],[]⟩
def Server.err (s:Server):Int :=
 if !s.me.valid then 103 else if skErr s.keys≠0 then skErr s.keys else if s.replay.err≠0 then s.replay.err else if !within s.skew 4294967295 then 104 else 0
structure Opened where
 ticket:Ticket
 auth:Auth
 err:Int
def ticketFor (t:Ticket) (realm:Bytes):Prin:=⟨t.service,t.inst,realm⟩
def openReq (s:Server) (r:ApRequest):Opened :=
 if r.realm≠s.me.realm then ⟨noTicket,noAuth,35⟩
 else if (skFind s.keys s.me r.kvno).2=false then ⟨noTicket,noAuth,35⟩
 else if (openTicket r.ticket (skFind s.keys s.me r.kvno).1).err=7 then ⟨noTicket,noAuth,7⟩
 else if (openTicket r.ticket (skFind s.keys s.me r.kvno).1).err≠0 then ⟨noTicket,noAuth,31⟩
 else if (ticketFor (openTicket r.ticket (skFind s.keys s.me r.kvno).1).val s.me.realm).eqb s.me=false then ⟨noTicket,noAuth,35⟩
 else if (openAuth r.auth r.little (openTicket r.ticket (skFind s.keys s.me r.kvno).1).val.session).err≠0 then ⟨noTicket,noAuth,31⟩
 else ⟨(openTicket r.ticket (skFind s.keys s.me r.kvno).1).val,(openAuth r.auth r.little (openTicket r.ticket (skFind s.keys s.me r.kvno).1).val.session).val,0⟩
def judge (t:Ticket) (a:Auth) (src now skew:Int):Int :=
 if t.client.eqb a.client=false then 36 else if src≠t.address then 38 else if near a.time now skew=false then 37 else stateErr t.issued t.life now skew
def markOf (a:Auth):Mark:=⟨a.client,a.time,a.tick⟩
structure Verified where
 s:Server
 a:Accepted
 err:Int
def verify (s:Server) (r:ApRequest) (src now:Int):Verified :=
 if s.err≠0 then ⟨s,noAccepted,108⟩
 else if (openReq s r).err≠0 then ⟨s,noAccepted,(openReq s r).err⟩
 else if judge (openReq s r).ticket (openReq s r).auth src now s.skew≠0 then ⟨s,noAccepted,judge (openReq s r).ticket (openReq s r).auth src now s.skew⟩
 else if (addMark s.replay (markOf (openReq s r).auth) now s.skew).err≠0 then ⟨s,noAccepted,(addMark s.replay (markOf (openReq s r).auth) now s.skew).err⟩
 else ⟨⟨s.me,s.keys,(addMark s.replay (markOf (openReq s r).auth) now s.skew).val,s.skew⟩,⟨(openReq s r).ticket.client,(openReq s r).ticket.session,(openReq s r).ticket.address,(openReq s r).auth.checksum,(openReq s r).auth.time,(openReq s r).auth.tick,(openReq s r).ticket.issued,(openReq s r).ticket.life,r.ticket,r.auth⟩,0⟩
def Accepted.reply (a:Accepted) (li:Bool):Enc:=serviceAnswer a.session a.checksum a.time a.tick li
structure VRead where
 s:Server
 a:Accepted
 answer:Bytes
 err:Int
def Accepted.same (a b:Accepted):Bool:=a.client.eqb b.client&&a.session==b.session&&a.address==b.address&&a.checksum==b.checksum&&a.time==b.time&&a.tick==b.tick&&a.issued==b.issued&&a.life==b.life&&a.ticket==b.ticket&&a.auth==b.auth
def Server.same (a b:Server):Bool:=a.me.eqb b.me&&a.skew==b.skew&&sameSKeys a.keys b.keys&&a.replay.same b.replay
end Kerb
/- The data of the statements of chapters 18 and 19: cases, servers, keys. -/
namespace Kerb
open Go Go.Abs
set_option linter.unusedVariables false
structure Case where
 client:UInt8
 other:UInt8
 service:UInt8
 realm:UInt8
 little:Bool
 turned:Bool
 mutual_:Bool
 address:UInt8
 src:UInt8
 issued:UInt8
 time:UInt8
 tick:UInt8
 life:UInt8
 checksum:Int
 key:UInt8
 kvno:UInt8
 session:UInt8
 ticket:Int
 auth:Int
def Case.av (c:Case):AV := .agg [.u8 c.client,.u8 c.other,.u8 c.service,.u8 c.realm,.bool c.little,.bool c.turned,.bool c.mutual_,.u8 c.address,.u8 c.src,.u8 c.issued,.u8 c.time,.u8 c.tick,.u8 c.life,.int .u32 c.checksum,.u8 c.key,.u8 c.kvno,.u8 c.session,.int .u16 c.ticket,.int .u16 c.auth]
def isU32 (n:Int):Bool:=decide (0≤n)&&decide (n≤4294967295)
def isU16 (n:Int):Bool:=decide (0≤n)&&decide (n≤65535)
def Case.ok (c:Case):Prop:=isU32 c.checksum=true∧isU16 c.ticket=true∧isU16 c.auth=true
namespace Case
def who (c:Case):Prin:=Kerb.user (u8i c.client % 6)
def me (c:Case):Prin:=Kerb.service (u8i c.service % 6)
def ses (c:Case):Int:=Kerb.session (u8i c.session % 4)
def tkt (c:Case) (m:Prin):Ticket :=
 ⟨c.turned,c.who,u8i c.address % 3,c.ses,u8i c.life / 4,1000+u8i c.issued*8,m.name,if c.service.toNat % 7=6 then [111,116,104,101,114] else m.inst⟩
def au (c:Case):Auth:=⟨if c.other.toNat % 8=7 then Kerb.user (u8i c.other % 6) else c.who,c.checksum,u8i c.tick % 3,1000+u8i c.time*8⟩
def x (c:Case) (m:Prin) (k:Int):Bytes:=(sealTicket (c.tkt m) k).val
def y (c:Case):Bytes:=(sealAuth c.au c.little c.ses).val
def req (c:Case) (m:Prin) (k v:Int):ApRequest :=
  ⟨if c.auth % 16=14 then !c.little else c.little,c.mutual_,if c.kvno.toNat % 16=15 then v+1 else v,if c.realm.toNat % 16=15 then [67,65,77] else m.realm,
   if c.ticket % 16=15 then spoil (c.x m k) (c.ticket / 16) else c.x m k,if c.auth % 16=15 then spoil c.y (c.auth / 16) else c.y⟩
def msg (c:Case) (m:Prin) (k v:Int):Bytes:=(encodeAp (c.req m k v)).val
def server (c:Case) (size skew:UInt8):Server :=
 ⟨c.me,[⟨c.me,1,long 1⟩,⟨c.me,2,long 2⟩,⟨Kerb.user 0,1,long 9⟩],⟨1+u8i size % 40,0,[]⟩,u8i skew*4⟩
end Case
end Kerb
/- The statements of chapter 18, plain: what is accepted. -/
namespace Kerb
open Go Go.Abs
set_option linter.unusedVariables false
structure Added (r:RCache) (m:Mark) (now skew:Int):Prop where
 err:r.err=0
 name:m.client.valid=true
 tick:0≤m.tick∧m.tick≤199
 near:near m.time now skew=true
 floor:r.floor≤m.time
 new:m ∉ r.marks
 room:(freshMarks r now skew).length<r.size
 is:addMark r m now skew=⟨⟨r.size,imax r.floor (now-skew),freshMarks r now skew++[m]⟩,0⟩
theorem hasMark_iff {l:List Mark} {m:Mark}:hasMark l m=true↔m∈l:=by
 unfold hasMark
 rw [List.any_eq_true]
 constructor
 ·rintro ⟨x,hx,he⟩
  rw [← Mark.eqb_iff.1 he];exact hx
 ·intro h
  exact ⟨m,h,Mark.eqb_iff.2 rfl⟩
theorem added {r:RCache} {m:Mark} {now skew:Int} (h:(addMark r m now skew).err=0):Added r m now skew:=by
 unfold addMark at h
 by_cases h1:r.err=0
 case neg=>rw [if_pos h1] at h;cases h
 rw [if_neg (by simpa using h1)] at h
 by_cases h2:m.client.valid=true
 case neg=>rw [if_pos (by simpa using h2)] at h;cases h
 rw [if_neg (by simp [h2])] at h
 by_cases h3:within m.tick 199=true
 case neg=>rw [if_pos (by simpa using h3)] at h;cases h
 rw [if_neg (by simp [h3])] at h
 by_cases h4:near m.time now skew=false∨m.time<r.floor
 ·rw [if_pos h4] at h;cases h
 rw [if_neg h4] at h
 by_cases h5:hasMark r.marks m=true
 ·rw [if_pos h5] at h;cases h
 rw [if_neg h5] at h
 by_cases h6:r.size≤(freshMarks r now skew).length
 ·rw [if_pos h6] at h;cases h
 refine ⟨h1,h2,within_iff.1 h3,?_,by omega,fun hm=>h5 (hasMark_iff.2 hm),by omega,?_⟩
 ·cases hn:near m.time now skew
  ·exact absurd (.inl hn) h4
  ·rfl
 ·unfold addMark
  rw [if_neg (by simpa using h1),if_neg (by simp [h2]),if_neg (by simp [h3]),if_neg h4,if_neg h5,if_neg h6]
structure Taken (s:Server) (r:ApRequest) (src now:Int) (t:Ticket) (a:Auth):Prop where
 err:s.err=0
 realm:r.realm=s.me.realm
 found:(skFind s.keys s.me r.kvno).2=true
 tkt:openTicket r.ticket (skFind s.keys s.me r.kvno).1=⟨t,0⟩
 us:ticketFor t s.me.realm=s.me
 auth:openAuth r.auth r.little t.session=⟨a,0⟩
 client:t.client=a.client
 from_:src=t.address
 near:near a.time now s.skew=true
 state:stateErr t.issued t.life now s.skew=0
 add:Added s.replay (markOf a) now s.skew
 is:verify s r src now=⟨⟨s.me,s.keys,(addMark s.replay (markOf a) now s.skew).val,s.skew⟩,⟨t.client,t.session,t.address,a.checksum,a.time,a.tick,t.issued,t.life,r.ticket,r.auth⟩,0⟩
theorem dec_eta {α:Type} (d:Dec α) (h:d.err=0):d=⟨d.val,0⟩:=by cases d;simp at h;rw [h]
theorem taken {s:Server} {r:ApRequest} {src now:Int} (h:(verify s r src now).err=0):∃ t a,Taken s r src now t a:=by
 have h0:=h
 unfold verify at h
 by_cases h1:s.err=0
 case neg=>rw [if_pos h1] at h;cases h
 rw [if_neg (by simpa using h1)] at h
 by_cases h2:(openReq s r).err=0
 case neg=>rw [if_pos h2] at h;exact absurd h h2
 rw [if_neg (by simpa using h2)] at h
 by_cases h3:judge (openReq s r).ticket (openReq s r).auth src now s.skew=0
 case neg=>rw [if_pos h3] at h;exact absurd h h3
 rw [if_neg (by simpa using h3)] at h
 by_cases h4:(addMark s.replay (markOf (openReq s r).auth) now s.skew).err=0
 case neg=>rw [if_pos h4] at h;exact absurd h h4
 have hv:verify s r src now=⟨⟨s.me,s.keys,(addMark s.replay (markOf (openReq s r).auth) now s.skew).val,s.skew⟩,⟨(openReq s r).ticket.client,(openReq s r).ticket.session,(openReq s r).ticket.address,(openReq s r).auth.checksum,(openReq s r).auth.time,(openReq s r).auth.tick,(openReq s r).ticket.issued,(openReq s r).ticket.life,r.ticket,r.auth⟩,0⟩:=by
  unfold verify
  rw [if_neg (by simpa using h1),if_neg (by simpa using h2),if_neg (by simpa using h3),if_neg (by simpa using h4)]
 have ho:∃ t a,r.realm=s.me.realm∧(skFind s.keys s.me r.kvno).2=true∧openTicket r.ticket (skFind s.keys s.me r.kvno).1=⟨t,0⟩∧ticketFor t s.me.realm=s.me∧openAuth r.auth r.little t.session=⟨a,0⟩∧openReq s r=⟨t,a,0⟩:=by
  unfold openReq at h2 ⊢
  by_cases g1:r.realm=s.me.realm
  case neg=>rw [if_pos g1] at h2;cases h2
  rw [if_neg (by simpa using g1)] at h2 ⊢
  by_cases g2:(skFind s.keys s.me r.kvno).2=false
  ·rw [if_pos g2] at h2;cases h2
  rw [if_neg g2] at h2 ⊢
  by_cases g3:(openTicket r.ticket (skFind s.keys s.me r.kvno).1).err=7
  ·rw [if_pos g3] at h2;cases h2
  rw [if_neg g3] at h2 ⊢
  by_cases g4:(openTicket r.ticket (skFind s.keys s.me r.kvno).1).err=0
  case neg=>rw [if_pos g4] at h2;cases h2
  rw [if_neg (by simpa using g4)] at h2 ⊢
  by_cases g5:(ticketFor (openTicket r.ticket (skFind s.keys s.me r.kvno).1).val s.me.realm).eqb s.me=false
  ·rw [if_pos g5] at h2;cases h2
  rw [if_neg g5] at h2 ⊢
  by_cases g6:(openAuth r.auth r.little (openTicket r.ticket (skFind s.keys s.me r.kvno).1).val.session).err=0
  case neg=>rw [if_pos g6] at h2;cases h2
  rw [if_neg (by simpa using g6)]
  exact ⟨_,_,g1,by simpa using g2,dec_eta _ g4,Prin.eqb_iff.1 (by simpa using g5),dec_eta _ g6,rfl⟩
 obtain ⟨t,a,o1,o2,o3,o4,o5,o6⟩:=ho
 rw [o6] at h3 h4 hv
 dsimp only at h3 h4 hv
 unfold judge at h3
 by_cases j1:t.client.eqb a.client=false
 ·rw [if_pos j1] at h3;cases h3
 rw [if_neg j1] at h3
 by_cases j2:src=t.address
 case neg=>rw [if_pos j2] at h3;cases h3
 rw [if_neg (by simpa using j2)] at h3
 by_cases j3:near a.time now s.skew=false
 ·rw [if_pos j3] at h3;cases h3
 rw [if_neg j3] at h3
 exact ⟨t,a,h1,o1,o2,o3,o4,o5,Prin.eqb_iff.1 (by simpa using j1),j2,by simpa using j3,h3,added h4,hv⟩
namespace Case
end Case
theorem openTicket_back {t:Ticket} {k:Int} (ht:0≤t.session∧t.session<18446744073709551616) (hk:0≤k∧k<18446744073709551616) (he:(encodeTicket t).err=0) (hv:keyValid k=true):openTicket (sealTicket t k).val k=⟨t,0⟩:=by
 have hs:sealTicket t k=makeBox 1 k (encodeTicket t).val:=by unfold sealTicket;rw [if_neg (by simpa using he)]
 have hl:=encTicket_len t
 have hm:=makeBox_ok (kd:=1) (k:=k) (b:=(encodeTicket t).val) rfl hv (by omega)
 unfold openTicket
 rw [hs,openBox_back hk.1 hk.2 hm.1,if_pos rfl]
 exact ticket_dec ht.1 ht.2 he
structure Reached (s:Server):Prop where
 err:s.err=0
 keys:∀ c∈s.keys,c.ok
 marks:∀ c∈s.replay.marks,c.ok
 name:s.me.name.length≤9223372036854775807∧s.me.inst.length≤9223372036854775807∧s.me.realm.length≤9223372036854775807
 lens:s.keys.length≤1000000∧s.replay.marks.length≤1000000
structure Fits (s:Server) (V:Verified) (r:ApRequest) (src now:Int):Prop where
 err:V.err=0
 t1:V.a.time-now≤s.skew
 t2:now-V.a.time≤s.skew
 t3:V.a.issued-s.skew≤now
 t4:now≤V.a.issued+300*(V.a.life+1)+s.skew
 b1:0≤V.a.time∧V.a.time≤4294967295
 b2:0≤V.a.issued∧V.a.issued≤4294967295
 b3:0≤V.a.life∧V.a.life≤255
 b4:0≤s.skew∧s.skew≤4294967295
 b5:0≤now∧now≤4294967295
 src:V.a.address=src
 ticket:V.a.ticket=r.ticket
 auth:V.a.auth=r.auth
 more:V.s.replay.marks.length≤s.replay.marks.length+1
 most:(V.s.replay.marks.length:Int)≤V.s.replay.size
 size:V.s.replay.size=s.replay.size
 ok:V.s.err=0
structure Sound (s:Server):Prop where
 keys:∀ c∈s.keys,c.ok
 marks:∀ c∈s.replay.marks,c.ok
 name:s.me.name.length≤9223372036854775807∧s.me.inst.length≤9223372036854775807∧s.me.realm.length≤9223372036854775807
 lens:s.keys.length≤1000000∧s.replay.marks.length≤1000000
end Kerb
