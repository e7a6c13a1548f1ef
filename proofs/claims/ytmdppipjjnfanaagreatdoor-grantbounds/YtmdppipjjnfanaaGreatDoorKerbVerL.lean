/- Chapters 7, 10, 13, 16, 18: what is decoded, keys of services, replay caches, services that verify. -/
import Derived.Test.YtmdppipjjnfanaaGreatDoorKerbCli6
import Derived.Test.YtmdppipjjnfanaaGreatDoorKerbDb
import Derived.Test.YtmdppipjjnfanaaGreatDoorKerbTkt
import Derived.Test.YtmdppipjjnfanaaGreatDoorKerbSrv
import Derived.Test.YtmdppipjjnfanaaGreatDoorKerbSrvB
open Bool renaming and_eq_true→Zz
namespace Kerb
open Go Go.Abs
set_option linter.unusedVariables false
def noAuth:Auth:=⟨noPrin,0,0,0⟩
def readAuth (b:Bytes) (li:Bool):Auth :=
 let p:=prin b 1
 let c:=get b p.next 4 li
 let t:=get b c.next 1 false
 ⟨p.val,c.val,t.val,(get b t.next 4 li).val⟩
def decodeAuth (b:Bytes) (li:Bool):Dec Auth:=decBy noAuth (fun a=>encodeAuth a li) (fun b=>(readAuth b li,false)) b
def openAuth (b:Bytes) (li:Bool) (k:Int):Dec Auth :=
 if (openBox b 2 k).2=false then ⟨noAuth,31⟩
 else if (decodeAuth (openBox b 2 k).1 li).err≠0 then ⟨noAuth,31⟩ else ⟨(decodeAuth (openBox b 2 k).1 li).val,0⟩
structure GotAp where
 val:ApRequest
 next:Int
def readAp (b:Bytes):GotAp :=
 let k:=get b 2 1 false
 let s:=text b k.next
 let n:=get b s.next 1 false
 let m:=get b n.next 1 false
 let t:=bytes b m.next n.val
 let a:=bytes b t.next m.val
 ⟨⟨(readHead b).little,(readHead b).kind==4,k.val,s.val,t.val,a.val⟩,a.next⟩
theorem ap_at {r:ApRequest} (h:(encodeAp r).err=0):(encodeAp r).val=header (cond r.mutual_ 4 3) r.little++(putN r.kvno 1 false++(r.realm++0::(putN r.ticket.length 1 false++(putN r.auth.length 1 false++(r.ticket++(r.auth++[])))))) ∧
  (r.realm.length≤39∧(0:UInt8) ∉ r.realm)∧(0≤r.kvno∧r.kvno≤255)∧r.ticket.length≤255∧r.auth.length≤255:=by
 unfold encodeAp at h ⊢
 split at h
 ·cases h
 rename_i h1
 rw [if_neg h1]
 split at h
 ·cases h
 rename_i h2
 rw [if_neg h2]
 split at h
 ·cases h
 rename_i h3
 rw [if_neg h3]
 simp only [Bool.not_eq_true',Bool.not_eq_false,within_iff] at h1 h2
 refine ⟨by unfold putText;simp only [List.append_assoc,List.singleton_append,List.cons_append,List.nil_append,List.append_nil],?_,h2,by omega,by omega⟩
 simp only [validRealm,Zz] at h1
 exact inst_ok' h1.2 where
 inst_ok' {s:Bytes} (h:validInst s=true):s.length≤39∧(0:UInt8) ∉ s:=by
  simp only [validInst,Zz,decide_eq_true_eq] at h
  exact ⟨h.1,fun hm=>by
   have:=h.2
   simp only [printable,List.all_eq_true] at this
   exact absurd (this 0 hm) (by decide)⟩
theorem ap_head {r:ApRequest} (z:Bytes):readHead (header (cond r.mutual_ 4 3) r.little++z)=⟨cond r.mutual_ 4 3,r.little,0⟩:=by
 cases r.mutual_<;>exact header_read (by decide) (by decide) _ _
theorem rows_of {α:Type} {av:α→AV} {p:AV→Bool} {ok:α→Prop} (h:∀ a,p a=true→∃ c,a=av c∧ok c):∀ {els:List AV},els.all p=true→∃ cs:List α,els=cs.map av∧∀ c∈cs,ok c
 | [],_=>⟨[],rfl,fun _ h=>by cases h⟩
 | a::r,g=>by
  rw [List.all_cons,Zz] at g
  obtain ⟨c,rfl,hc⟩:=h a g.1
  obtain ⟨cs,rfl,hcs⟩:=rows_of h g.2
  exact ⟨c::cs,rfl,fun d hd=>by
   rcases List.mem_cons.1 hd with rfl | hd
   ·exact hc
   ·exact hcs d hd⟩
theorem getD_row {α:Type} {av:α→AV} {d:α} {cs:List α} {i:Nat} (h:i<cs.length):(cs.map av).getD i .undef=av (cs.getD i d):=by
 simp [List.getD_eq_getElem?_getD,h]
theorem drop_row {α:Type} {d:α} {cs:List α} {i:Nat} (h:i<cs.length):cs.drop i=cs.getD i d::cs.drop (i+1):=by
 rw [List.drop_eq_getElem_cons h];simp [List.getD_eq_getElem?_getD,h]
theorem take_row {α:Type} {d:α} {cs:List α} {i:Nat} (h:i<cs.length):cs.take (i+1)=cs.take i++[cs.getD i d]:=by
 rw [List.take_succ_eq_append_getElem h];simp [List.getD_eq_getElem?_getD,h]
theorem mem_row {α:Type} {d:α} {cs:List α} {i:Nat} (h:i<cs.length):cs.getD i d∈cs:=by
 simp [List.getD_eq_getElem?_getD,h]
theorem all_rows {α:Type} {av:α→AV} {p:AV→Bool} {ok:α→Prop} (h:∀ c,ok c→p (av c)=true) {cs:List α} (g:∀ c∈cs,ok c):(cs.map av).all p=true:=by
 simp only [List.all_map,List.all_eq_true]
 exact fun c hc=>h c (g c hc)
structure SKey where
 service:Prin
 kvno:Int
 key:Int
def noSKey:SKey:=⟨noPrin,0,0⟩
def SKey.av (c:SKey):AV := .agg [.str c.service.name,.str c.service.inst,.str c.service.realm,.int .i64 c.kvno,.int .u64 c.key]
def toSKey:AV→SKey
 | .agg [.str a,.str b,.str c,.int .i64 v,.int .u64 k]=>⟨⟨a,b,c⟩,v,k⟩
 | _=>noSKey
def isSKey:AV→Bool
 | .agg [.str a,.str b,.str c,.int .i64 v,.int .u64 k]=>decide (a.length≤9223372036854775807)&&decide (b.length≤9223372036854775807)&&decide (c.length≤9223372036854775807)&&decide (-9223372036854775808≤v)&&decide (v≤9223372036854775807)&&decide (0≤k)&&decide (k≤18446744073709551615)
 | _=>false
def SKey.ok (c:SKey):Prop:=c.service.name.length≤9223372036854775807∧c.service.inst.length≤9223372036854775807∧c.service.realm.length≤9223372036854775807∧isI64 c.kvno=true∧isU64 c.key=true
theorem skey_inv (a:AV) (h:isSKey a=true):∃ c:SKey,a=c.av∧c.ok:=by
 unfold isSKey at h
 split at h
 ·rename_i a b c v k
  simp only [Zz,decide_eq_true_eq] at h
  exact ⟨⟨⟨a,b,c⟩,v,k⟩,rfl,h.1.1.1.1.1.1,h.1.1.1.1.1.2,h.1.1.1.1.2,isI64_iff.2 ⟨h.1.1.1.2,h.1.1.2⟩,isU64_iff.2 ⟨h.1.2,Int.lt_of_le_of_lt h.2 (by decide)⟩⟩
 ·cases h
theorem skeys_of {els:List AV} (h:els.all isSKey=true):∃ cs:List SKey,els=cs.map SKey.av∧∀ c∈cs,c.ok:=rows_of skey_inv h
theorem isSKey_of (c:SKey) (h:c.ok):isSKey c.av=true:=by
 obtain ⟨h1,h2,h3,h4,h5⟩:=h
 have h4:=isI64_iff.1 h4
 have h5:=isU64_iff.1 h5
 simp [isSKey,SKey.av,h1,h2,h3,h4,h5]
 omega
theorem skeys_all {cs:List SKey} (h:∀ c∈cs,c.ok):(cs.map SKey.av).all isSKey=true:=all_rows isSKey_of h
theorem map_toSKey (cs:List SKey):(cs.map SKey.av).map toSKey=cs:=by
 rw [List.map_map];exact (List.map_congr_left fun a _=>rfl).trans (List.map_id cs)
def SKey.eqb (a b:SKey):Bool:=a.service.name==b.service.name&&(a.service.inst==b.service.inst&&(a.service.realm==b.service.realm&&(a.kvno==b.kvno&&a.key==b.key)))
def SKey.is (p:Prin) (v:Int) (x:SKey):Bool:=x.service.eqb p&&x.kvno==v
def skAt (l:List SKey) (p:Prin) (v:Int):Nat:=l.findIdx (SKey.is p v)
def skFind (l:List SKey) (p:Prin) (v:Int):Int×Bool:=if skAt l p v<l.length then ((l.getD (skAt l p v) noSKey).key,true) else (0,false)
def SKey.err (x:SKey):Int:=if !x.service.valid then 103 else if !within x.kvno 255 then 104 else if !keyValid x.key then 10 else 0
def skErrs:List SKey→List SKey→Int
 | _,[]=>0
 | seen,c::r=>if c.err≠0 then c.err else if seen.any (SKey.is c.service c.kvno) then 107 else skErrs (seen++[c]) r
def skErr (l:List SKey):Int:=if 60<l.length then 106 else skErrs [] l
def sameSKeys:List SKey→List SKey→Bool
 | [],[]=>true
 | a::l,b::r=>a.eqb b&&sameSKeys l r
 | _,_=>false
theorem skAt_le (l:List SKey) (p:Prin) (v:Int):skAt l p v≤l.length:=List.findIdx_le_length
theorem skAt_lt:∀ (l:List SKey) (p:Prin) (v:Int) (i:Nat),i≤l.length→decide (skAt l p v<i)=(l.take i).any (SKey.is p v)
 | _,_,_,0,_=>by simp
 | [],_,_,i+1,h=>by simp at h
 | c::r,p,v,i+1,h=>by
  have ih:=skAt_lt r p v i (by simpa using h)
  simp only [skAt,List.findIdx_cons,List.take_succ_cons,List.any_cons] at ih ⊢
  cases he:SKey.is p v c
  ·simp only [cond_false,Bool.false_or]
   rw [← ih]
   exact decide_eq_decide.2 (by omega)
  ·simp
theorem skErrs_step {cs:List SKey} {c:SKey} {i:Nat} (h:i<cs.length) (hc:cs.getD i noSKey=c) (hp:skErrs [] cs=skErrs (cs.take i) (cs.drop i)) :
  skErrs [] cs=if c.err≠0 then c.err else if (cs.take i).any (SKey.is c.service c.kvno) then 107 else skErrs (cs.take (i+1)) (cs.drop (i+1)):=by
 rw [hp,drop_row (d:=noSKey) h,take_row (d:=noSKey) h,hc]
 rfl
theorem sameSKeys_len:∀ {l r:List SKey},l.length≠r.length→sameSKeys l r=false
 | [],[],h=>absurd rfl h
 | [],b::r,_=>rfl
 | a::l,[],_=>rfl
 | a::l,b::r,h=>by
  simp only [sameSKeys]
  rw [sameSKeys_len (l:=l) (r:=r) (by simpa using h),Bool.and_false]
theorem sameSKeys_step {l r:List SKey} {i:Nat} (h:i<l.length) (h2:i<r.length):sameSKeys (l.drop i) (r.drop i)=((l.getD i noSKey).eqb (r.getD i noSKey)&&sameSKeys (l.drop (i+1)) (r.drop (i+1))):=by
 rw [drop_row (d:=noSKey) h,drop_row (d:=noSKey) h2];rfl
theorem sameSKeys_refl:∀ l:List SKey,sameSKeys l l=true
 | []=>rfl
 | a::l=>by simp [sameSKeys,SKey.eqb,sameSKeys_refl l]
structure Mark where
 client:Prin
 time:Int
 tick:Int
def noMark:Mark:=⟨noPrin,0,0⟩
def Mark.av (m:Mark):AV := .agg [.str m.client.name,.str m.client.inst,.str m.client.realm,.int .i64 m.time,.int .i64 m.tick]
def toMark:AV→Mark
 | .agg [.str a,.str b,.str c,.int .i64 t,.int .i64 k]=>⟨⟨a,b,c⟩,t,k⟩
 | _=>noMark
def isMark:AV→Bool
 | .agg [.str a,.str b,.str c,.int .i64 t,.int .i64 k]=>decide (a.length≤9223372036854775807)&&decide (b.length≤9223372036854775807)&&decide (c.length≤9223372036854775807)&&decide (-9223372036854775808≤t)&&decide (t≤9223372036854775807)&&decide (-9223372036854775808≤k)&&decide (k≤9223372036854775807)
 | _=>false
def Mark.ok (m:Mark):Prop:=m.client.name.length≤9223372036854775807∧m.client.inst.length≤9223372036854775807∧m.client.realm.length≤9223372036854775807∧isI64 m.time=true∧isI64 m.tick=true
theorem mark_inv (a:AV) (h:isMark a=true):∃ c:Mark,a=c.av∧c.ok:=by
 unfold isMark at h
 split at h
 ·rename_i a b c v k
  simp only [Zz,decide_eq_true_eq] at h
  exact ⟨⟨⟨a,b,c⟩,v,k⟩,rfl,h.1.1.1.1.1.1,h.1.1.1.1.1.2,h.1.1.1.1.2,isI64_iff.2 ⟨h.1.1.1.2,h.1.1.2⟩,isI64_iff.2 ⟨h.1.2,h.2⟩⟩
 ·cases h
theorem marks_of {els:List AV} (h:els.all isMark=true):∃ cs:List Mark,els=cs.map Mark.av∧∀ c∈cs,c.ok:=rows_of mark_inv h
theorem isMark_of (c:Mark) (h:c.ok):isMark c.av=true:=by
 obtain ⟨h1,h2,h3,h4,h5⟩:=h
 have h4:=isI64_iff.1 h4
 have h5:=isI64_iff.1 h5
 simp [isMark,Mark.av,h1,h2,h3,h4,h5]
theorem marks_all {cs:List Mark} (h:∀ c∈cs,c.ok):(cs.map Mark.av).all isMark=true:=all_rows isMark_of h
theorem map_toMark (cs:List Mark):(cs.map Mark.av).map toMark=cs:=by
 rw [List.map_map];exact (List.map_congr_left fun a _=>rfl).trans (List.map_id cs)
def Mark.eqb (a b:Mark):Bool:=a.client.name==b.client.name&&(a.client.inst==b.client.inst&&(a.client.realm==b.client.realm&&(a.time==b.time&&a.tick==b.tick)))
theorem Mark.eqb_iff {a b:Mark}:a.eqb b=true↔a=b:=by
 obtain ⟨⟨a1,a2,a3⟩,a4,a5⟩:=a
 obtain ⟨⟨b1,b2,b3⟩,b4,b5⟩:=b
 simp [Mark.eqb,and_assoc]
def hasMark (l:List Mark) (m:Mark):Bool:=l.any fun x=>x.eqb m
structure RCache where
 size:Int
 floor:Int
 marks:List Mark
def noRC:RCache:=⟨0,0,[]⟩
def Mark.err (floor:Int) (m:Mark):Int :=
 if !m.client.valid then 103 else if !(decide (floor≤m.time)&&decide (m.time≤4294967295)&&within m.tick 199) then 104 else 0
def marksErr (floor:Int):List Mark→List Mark→Int
 | _,[]=>0
 | seen,c::r=>if c.err floor≠0 then c.err floor else if hasMark seen c then 107 else marksErr floor (seen++[c]) r
def RCache.err (r:RCache):Int :=
 if !(decide (1≤r.size)&&decide (r.size≤40)&&within r.floor 4294967295) then 104 else if r.size<r.marks.length then 106 else marksErr r.floor [] r.marks
def freshMarks (r:RCache) (now skew:Int):List Mark:=r.marks.filter fun x=>decide (imax r.floor (now-skew)≤x.time)
def addMark (r:RCache) (m:Mark) (now skew:Int):Dec RCache :=
 if r.err≠0 then ⟨noRC,108⟩ else if !m.client.valid then ⟨noRC,103⟩ else if !within m.tick 199 then ⟨noRC,104⟩
 else if near m.time now skew=false∨m.time<r.floor then ⟨noRC,37⟩ else if hasMark r.marks m then ⟨noRC,34⟩
 else if r.size≤(freshMarks r now skew).length then ⟨noRC,82⟩
 else ⟨⟨r.size,imax r.floor (now-skew),freshMarks r now skew++[m]⟩,0⟩
def sameMarks:List Mark→List Mark→Bool
 | [],[]=>true
 | a::l,b::r=>a.eqb b&&sameMarks l r
 | _,_=>false
def RCache.same (a b:RCache):Bool:=a.size==b.size&&(a.floor==b.floor&&sameMarks a.marks b.marks)
theorem marksErr_step {f:Int} {cs:List Mark} {c:Mark} {i:Nat} (h:i<cs.length) (hc:cs.getD i noMark=c) (hp:marksErr f [] cs=marksErr f (cs.take i) (cs.drop i)) :
  marksErr f [] cs=if c.err f≠0 then c.err f else if hasMark (cs.take i) c then 107 else marksErr f (cs.take (i+1)) (cs.drop (i+1)):=by
 rw [hp,drop_row (d:=noMark) h,take_row (d:=noMark) h,hc]
 rfl
theorem hasMark_step {cs:List Mark} {c m:Mark} {i:Nat} (h:i<cs.length) (hc:cs.getD i noMark=c):hasMark (cs.drop i) m=(c.eqb m||hasMark (cs.drop (i+1)) m):=by
 rw [drop_row (d:=noMark) h,hc];rfl
structure Server where
 me:Prin
 keys:List SKey
 replay:RCache
 skew:Int
structure Accepted where
 client:Prin
 session:Int
 address:Int
 checksum:Int
 time:Int
 tick:Int
 issued:Int
 life:Int
 ticket:Bytes
 auth:Bytes
def noAccepted:Accepted:=⟨noPrin,0,0,0,0,0,0,0,[],[]⟩
def Server.err (s:Server):Int :=
 if !s.me.valid then 103 else if skErr s.keys≠0 then skErr s.keys else if s.replay.err≠0 then s.replay.err else if !within s.skew 4294967295 then 104 else 0
structure Opened where
 ticket:Ticket
 auth:Auth
 err:Int
def ticketFor (t:Ticket) (realm:Bytes):Prin:=⟨t.service,t.inst,realm⟩
def openReq (s:Server) (r:ApRequest):Opened :=
 if r.realm≠s.me.realm then ⟨noTicket,noAuth,35⟩
 else if (skFind s.keys s.me r.kvno).2=false then ⟨noTicket,noAuth,35⟩
 else if (openTicket r.ticket (skFind s.keys s.me r.kvno).1).err=7 then ⟨noTicket,noAuth,7⟩
 else if (openTicket r.ticket (skFind s.keys s.me r.kvno).1).err≠0 then ⟨noTicket,noAuth,31⟩
 else if (ticketFor (openTicket r.ticket (skFind s.keys s.me r.kvno).1).val s.me.realm).eqb s.me=false then ⟨noTicket,noAuth,35⟩
 else if (openAuth r.auth r.little (openTicket r.ticket (skFind s.keys s.me r.kvno).1).val.session).err≠0 then ⟨noTicket,noAuth,31⟩
 else ⟨(openTicket r.ticket (skFind s.keys s.me r.kvno).1).val,(openAuth r.auth r.little (openTicket r.ticket (skFind s.keys s.me r.kvno).1).val.session).val,0⟩
def judge (t:Ticket) (a:Auth) (src now skew:Int):Int :=
 if t.client.eqb a.client=false then 36 else if src≠t.address then 38 else if near a.time now skew=false then 37 else stateErr t.issued t.life now skew
def markOf (a:Auth):Mark:=⟨a.client,a.time,a.tick⟩
structure Verified where
 s:Server
 a:Accepted
 err:Int
def verify (s:Server) (r:ApRequest) (src now:Int):Verified :=
 if s.err≠0 then ⟨s,noAccepted,108⟩
 else if (openReq s r).err≠0 then ⟨s,noAccepted,(openReq s r).err⟩
 else if judge (openReq s r).ticket (openReq s r).auth src now s.skew≠0 then ⟨s,noAccepted,judge (openReq s r).ticket (openReq s r).auth src now s.skew⟩
 else if (addMark s.replay (markOf (openReq s r).auth) now s.skew).err≠0 then ⟨s,noAccepted,(addMark s.replay (markOf (openReq s r).auth) now s.skew).err⟩
 else ⟨⟨s.me,s.keys,(addMark s.replay (markOf (openReq s r).auth) now s.skew).val,s.skew⟩,⟨(openReq s r).ticket.client,(openReq s r).ticket.session,(openReq s r).ticket.address,(openReq s r).auth.checksum,(openReq s r).auth.time,(openReq s r).auth.tick,(openReq s r).ticket.issued,(openReq s r).ticket.life,r.ticket,r.auth⟩,0⟩
def Accepted.reply (a:Accepted) (li:Bool):Enc:=serviceAnswer a.session a.checksum a.time a.tick li
structure VRead where
 s:Server
 a:Accepted
 answer:Bytes
 err:Int
def Accepted.same (a b:Accepted):Bool:=a.client.eqb b.client&&a.session==b.session&&a.address==b.address&&a.checksum==b.checksum&&a.time==b.time&&a.tick==b.tick&&a.issued==b.issued&&a.life==b.life&&a.ticket==b.ticket&&a.auth==b.auth
def Server.same (a b:Server):Bool:=a.me.eqb b.me&&a.skew==b.skew&&sameSKeys a.keys b.keys&&a.replay.same b.replay
theorem noAuth_len:noAuth.client.name.length≤9223372036854775807∧noAuth.client.inst.length≤9223372036854775807∧noAuth.client.realm.length≤9223372036854775807:=by decide
theorem openAuth_len (b:Bytes) (li:Bool) (k:Int):(openAuth b li k).val.client.name.length≤9223372036854775807∧(openAuth b li k).val.client.inst.length≤9223372036854775807∧(openAuth b li k).val.client.realm.length≤9223372036854775807:=by
 unfold openAuth
 split
 ·exact noAuth_len
 split
 ·exact noAuth_len
 unfold decodeAuth decBy
 split
 ·exact noAuth_len
 ·have:=prin_len (openBox b 2 k).1 1
  dsimp only [readAuth]
  omega
theorem openReq_bd (s:Server) (r:ApRequest):((openReq s r).auth.client.name.length≤9223372036854775807∧(openReq s r).auth.client.inst.length≤9223372036854775807∧(openReq s r).auth.client.realm.length≤9223372036854775807)∧(openReq s r).ticket.bd:=by
 unfold openReq
 split
 ·exact ⟨noAuth_len,noTicket_bd⟩
 split
 ·exact ⟨noAuth_len,noTicket_bd⟩
 split
 ·exact ⟨noAuth_len,noTicket_bd⟩
 split
 ·exact ⟨noAuth_len,noTicket_bd⟩
 split
 ·exact ⟨noAuth_len,noTicket_bd⟩
 split
 ·exact ⟨noAuth_len,noTicket_bd⟩
 ·exact ⟨openAuth_len _ _ _,openTicket_bd _ _⟩
theorem verify_bd (s:Server) (r:ApRequest) (src now:Int):0≤(verify s r src now).a.session∧(verify s r src now).a.session<18446744073709551616:=by
 have h0:0≤noAccepted.session∧noAccepted.session<18446744073709551616:=by decide
 unfold verify
 split
 ·exact h0
 split
 ·exact h0
 split
 ·exact h0
 split
 ·exact h0
 ·exact isU64_iff.1 (openReq_bd s r).2.2.2.2
end Kerb
/- The data of the statements of chapters 18 and 19: cases, servers, keys. -/
namespace Kerb
open Go Go.Abs
set_option linter.unusedVariables false
structure Case where
 client:UInt8
 other:UInt8
 service:UInt8
 realm:UInt8
 little:Bool
 turned:Bool
 mutual_:Bool
 address:UInt8
 src:UInt8
 issued:UInt8
 time:UInt8
 tick:UInt8
 life:UInt8
 checksum:Int
 key:UInt8
 kvno:UInt8
 session:UInt8
 ticket:Int
 auth:Int
def noCase:Case:=⟨0,0,0,0,false,false,false,0,0,0,0,0,0,0,0,0,0,0,0⟩
def Case.av (c:Case):AV := .agg [.u8 c.client,.u8 c.other,.u8 c.service,.u8 c.realm,.bool c.little,.bool c.turned,.bool c.mutual_,.u8 c.address,.u8 c.src,.u8 c.issued,.u8 c.time,.u8 c.tick,.u8 c.life,.int .u32 c.checksum,.u8 c.key,.u8 c.kvno,.u8 c.session,.int .u16 c.ticket,.int .u16 c.auth]
def isU32 (n:Int):Bool:=decide (0≤n)&&decide (n≤4294967295)
def isU16 (n:Int):Bool:=decide (0≤n)&&decide (n≤65535)
theorem isU32_iff {n:Int}:isU32 n=true↔0≤n∧n≤4294967295:=by simp [isU32]
theorem isU16_iff {n:Int}:isU16 n=true↔0≤n∧n≤65535:=by simp [isU16]
def Case.ok (c:Case):Prop:=isU32 c.checksum=true∧isU16 c.ticket=true∧isU16 c.auth=true
namespace Case
def who (c:Case):Prin:=Kerb.user (u8i c.client % 6)
def me (c:Case):Prin:=Kerb.service (u8i c.service % 6)
def ses (c:Case):Int:=Kerb.session (u8i c.session % 4)
def tkt (c:Case) (m:Prin):Ticket :=
 ⟨c.turned,c.who,u8i c.address % 3,c.ses,u8i c.life / 4,1000+u8i c.issued*8,m.name,if c.service.toNat % 7=6 then [111,116,104,101,114] else m.inst⟩
def au (c:Case):Auth:=⟨if c.other.toNat % 8=7 then Kerb.user (u8i c.other % 6) else c.who,c.checksum,u8i c.tick % 3,1000+u8i c.time*8⟩
def x (c:Case) (m:Prin) (k:Int):Bytes:=(sealTicket (c.tkt m) k).val
def y (c:Case):Bytes:=(sealAuth c.au c.little c.ses).val
def req (c:Case) (m:Prin) (k v:Int):ApRequest :=
  ⟨if c.auth % 16=14 then !c.little else c.little,c.mutual_,if c.kvno.toNat % 16=15 then v+1 else v,if c.realm.toNat % 16=15 then [67,65,77] else m.realm,
   if c.ticket % 16=15 then spoil (c.x m k) (c.ticket / 16) else c.x m k,if c.auth % 16=15 then spoil c.y (c.auth / 16) else c.y⟩
def msg (c:Case) (m:Prin) (k v:Int):Bytes:=(encodeAp (c.req m k v)).val
def server (c:Case) (size skew:UInt8):Server :=
 ⟨c.me,[⟨c.me,1,long 1⟩,⟨c.me,2,long 2⟩,⟨Kerb.user 0,1,long 9⟩],⟨1+u8i size % 40,0,[]⟩,u8i skew*4⟩
end Case
end Kerb
/- The statements of chapter 18, plain: what is accepted. -/
namespace Kerb
open Go Go.Abs
set_option linter.unusedVariables false
theorem near_iff {a b k:Int}:near a b k=true↔((0≤a∧a≤4294967295)∧(0≤b∧b≤4294967295)∧(0≤k∧k≤4294967295))∧a-b≤k∧b-a≤k:=by
 simp [near,within_iff,and_assoc]
structure Added (r:RCache) (m:Mark) (now skew:Int):Prop where
 err:r.err=0
 name:m.client.valid=true
 tick:0≤m.tick∧m.tick≤199
 near:near m.time now skew=true
 floor:r.floor≤m.time
 new:m ∉ r.marks
 room:(freshMarks r now skew).length<r.size
 is:addMark r m now skew=⟨⟨r.size,imax r.floor (now-skew),freshMarks r now skew++[m]⟩,0⟩
theorem hasMark_iff {l:List Mark} {m:Mark}:hasMark l m=true↔m∈l:=by
 unfold hasMark
 rw [List.any_eq_true]
 constructor
 ·rintro ⟨x,hx,he⟩
  rw [← Mark.eqb_iff.1 he];exact hx
 ·intro h
  exact ⟨m,h,Mark.eqb_iff.2 rfl⟩
theorem added {r:RCache} {m:Mark} {now skew:Int} (h:(addMark r m now skew).err=0):Added r m now skew:=by
 unfold addMark at h
 by_cases h1:r.err=0
 case neg=>rw [if_pos h1] at h;cases h
 rw [if_neg (by simpa using h1)] at h
 by_cases h2:m.client.valid=true
 case neg=>rw [if_pos (by simpa using h2)] at h;cases h
 rw [if_neg (by simp [h2])] at h
 by_cases h3:within m.tick 199=true
 case neg=>rw [if_pos (by simpa using h3)] at h;cases h
 rw [if_neg (by simp [h3])] at h
 by_cases h4:near m.time now skew=false∨m.time<r.floor
 ·rw [if_pos h4] at h;cases h
 rw [if_neg h4] at h
 by_cases h5:hasMark r.marks m=true
 ·rw [if_pos h5] at h;cases h
 rw [if_neg h5] at h
 by_cases h6:r.size≤(freshMarks r now skew).length
 ·rw [if_pos h6] at h;cases h
 refine ⟨h1,h2,within_iff.1 h3,?_,by omega,fun hm=>h5 (hasMark_iff.2 hm),by omega,?_⟩
 ·cases hn:near m.time now skew
  ·exact absurd (.inl hn) h4
  ·rfl
 ·unfold addMark
  rw [if_neg (by simpa using h1),if_neg (by simp [h2]),if_neg (by simp [h3]),if_neg h4,if_neg h5,if_neg h6]
theorem marksErr_iff {f:Int}:∀ {seen cs:List Mark},marksErr f seen cs=0↔(∀ c∈cs,c.err f=0)∧(∀ c∈cs,c ∉ seen)∧cs.Nodup
 | seen,[]=>by simp [marksErr]
 | seen,c::r=>by
  have ih:=marksErr_iff (f:=f) (seen:=seen++[c]) (cs:=r)
  rw [marksErr]
  by_cases h1:c.err f=0
  case neg =>
   rw [if_pos h1]
   exact ⟨fun h=>absurd h h1,fun h=>absurd (h.1 c (List.mem_cons_self ..)) h1⟩
  rw [if_neg (by simpa using h1)]
  by_cases h2:hasMark seen c=true
  ·rw [if_pos h2]
   exact ⟨fun h=>(by cases h),fun h=>absurd (hasMark_iff.1 h2) (h.2.1 c (List.mem_cons_self ..))⟩
  rw [if_neg h2,ih]
  have h3:c ∉ seen:=fun h=>h2 (hasMark_iff.2 h)
  constructor
  ·rintro ⟨a,b,p⟩
   refine ⟨?_,?_,?_⟩
   ·intro x hx
    rcases List.mem_cons.1 hx with rfl | hx
    ·exact h1
    ·exact a x hx
   ·intro x hx
    rcases List.mem_cons.1 hx with rfl | hx
    ·exact h3
    ·exact fun hs=>b x hx (List.mem_append_left _ hs)
   ·exact List.nodup_cons.2 ⟨fun hc=>b c hc (List.mem_append_right _ (List.mem_singleton.2 rfl)),p⟩
  ·rintro ⟨a,b,p⟩
   have p':=List.nodup_cons.1 p
   refine ⟨fun x hx=>a x (List.mem_cons_of_mem _ hx),?_,p'.2⟩
   intro x hx hs
   rcases List.mem_append.1 hs with hs | hs
   ·exact b x (List.mem_cons_of_mem _ hx) hs
   ·rw [List.mem_singleton.1 hs] at hx
    exact p'.1 hx
theorem rcErr_iff {r:RCache}:r.err=0↔(1≤r.size∧r.size≤40)∧(0≤r.floor∧r.floor≤4294967295)∧r.marks.length≤r.size∧(∀ c∈r.marks,c.err r.floor=0)∧r.marks.Nodup:=by
 unfold RCache.err
 by_cases h1:(decide (1≤r.size)&&decide (r.size≤40)&&within r.floor 4294967295)=true
 case neg =>
  rw [if_pos (by rw [show (decide (1≤r.size)&&decide (r.size≤40)&&within r.floor 4294967295)=false from by simpa only [Bool.not_eq_true] using h1];rfl)]
  refine ⟨fun h=>(by cases h),fun h=>absurd ?_ h1⟩
  simp [within_iff,h.1,h.2.1]
 rw [if_neg (by rw [h1];simp)]
 simp only [Zz,decide_eq_true_eq,within_iff] at h1
 by_cases h2:r.size<r.marks.length
 ·rw [if_pos h2]
  refine ⟨fun h=>(by cases h),fun h=> ?_⟩
  have:=h.2.2.1
  omega
 rw [if_neg h2,marksErr_iff]
 constructor
 ·rintro ⟨a,_,b⟩
  exact ⟨h1.1,h1.2,by omega,a,b⟩
 ·rintro ⟨_,_,_,a,b⟩
  exact ⟨a,fun _ _=>List.not_mem_nil,b⟩
theorem markErr_iff {f:Int} {m:Mark}:m.err f=0↔m.client.valid=true∧f≤m.time∧m.time≤4294967295∧(0≤m.tick∧m.tick≤199):=by
 unfold Mark.err
 cases h:m.client.valid
 ·simp
 rw [if_neg (by simp)]
 by_cases h2:(decide (f≤m.time)&&decide (m.time≤4294967295)&&within m.tick 199)=true
 ·rw [if_neg (by rw [h2];simp)]
  simp only [Zz,decide_eq_true_eq,within_iff] at h2
  exact ⟨fun _=>⟨rfl,h2.1.1,h2.1.2,h2.2⟩,fun _=>rfl⟩
 ·rw [if_pos (by rw [show (decide (f≤m.time)&&decide (m.time≤4294967295)&&within m.tick 199)=false from by simpa only [Bool.not_eq_true] using h2];rfl)]
  refine ⟨fun h=>(by cases h),fun h=>absurd ?_ h2⟩
  simp [within_iff,h.2.1,h.2.2.1,h.2.2.2]
theorem imax_ge (a b:Int):a≤imax a b∧b≤imax a b:=by unfold imax;split<;>omega
theorem imax_le {a b c:Int} (h:a≤c) (g:b≤c):imax a b≤c:=by unfold imax;split<;>omega
theorem fresh_mem {r:RCache} {now skew:Int} {m:Mark}:m∈freshMarks r now skew↔m∈r.marks∧imax r.floor (now-skew)≤m.time:=by
 unfold freshMarks;simp
theorem fresh_len (r:RCache) (now skew:Int):(freshMarks r now skew).length≤r.marks.length:=List.length_filter_le _ _
theorem add_err {r:RCache} {m:Mark} {now skew:Int} (h:Added r m now skew):(addMark r m now skew).val.err=0:=by
 have he:=rcErr_iff.1 h.err
 obtain ⟨⟨n1,n2,n3⟩,n4,n5⟩:=near_iff.1 h.near
 rw [h.is,rcErr_iff]
 dsimp only
 have hg:=imax_ge r.floor (now-skew)
 have hle:imax r.floor (now-skew)≤m.time:=imax_le h.floor (by omega)
 refine ⟨he.1,by omega,by have:=h.room;simp;omega,?_,?_⟩
 ·intro c hc
  rcases List.mem_append.1 hc with hc | hc
  ·have hc:=fresh_mem.1 hc
   have e:=markErr_iff.1 (he.2.2.2.1 c hc.1)
   exact markErr_iff.2 ⟨e.1,hc.2,e.2.2⟩
  ·rw [List.mem_singleton.1 hc]
   exact markErr_iff.2 ⟨h.name,hle,n1.2,h.tick⟩
 ·rw [List.nodup_append]
  refine ⟨he.2.2.2.2.filter _,by simp,?_⟩
  intro a ha b hb e
  rw [List.mem_singleton.1 hb] at e
  exact h.new (e ▸ (fresh_mem.1 ha).1)
theorem servErr_iff {s:Server}:s.err=0↔s.me.valid=true∧skErr s.keys=0∧s.replay.err=0∧(0≤s.skew∧s.skew≤4294967295):=by
 unfold Server.err
 cases h1:s.me.valid
 ·simp
 rw [if_neg (by simp)]
 by_cases h2:skErr s.keys=0
 case neg=>rw [if_pos h2];exact ⟨fun h=>absurd h h2,fun h=>absurd h.2.1 h2⟩
 rw [if_neg (by simpa using h2)]
 by_cases h3:s.replay.err=0
 case neg=>rw [if_pos h3];exact ⟨fun h=>absurd h h3,fun h=>absurd h.2.2.1 h3⟩
 rw [if_neg (by simpa using h3)]
 cases h4:within s.skew 4294967295
 ·rw [if_pos (by simp)]
  refine ⟨fun h=>(by cases h),fun h=> ?_⟩
  rw [within_iff.2 h.2.2.2] at h4;cases h4
 ·rw [if_neg (by simp)]
  exact ⟨fun _=>⟨rfl,h2,h3,within_iff.1 h4⟩,fun _=>rfl⟩
structure Taken (s:Server) (r:ApRequest) (src now:Int) (t:Ticket) (a:Auth):Prop where
 err:s.err=0
 realm:r.realm=s.me.realm
 found:(skFind s.keys s.me r.kvno).2=true
 tkt:openTicket r.ticket (skFind s.keys s.me r.kvno).1=⟨t,0⟩
 us:ticketFor t s.me.realm=s.me
 auth:openAuth r.auth r.little t.session=⟨a,0⟩
 client:t.client=a.client
 from_:src=t.address
 near:near a.time now s.skew=true
 state:stateErr t.issued t.life now s.skew=0
 add:Added s.replay (markOf a) now s.skew
 is:verify s r src now=⟨⟨s.me,s.keys,(addMark s.replay (markOf a) now s.skew).val,s.skew⟩,⟨t.client,t.session,t.address,a.checksum,a.time,a.tick,t.issued,t.life,r.ticket,r.auth⟩,0⟩
theorem dec_eta {α:Type} (d:Dec α) (h:d.err=0):d=⟨d.val,0⟩:=by cases d;simp at h;rw [h]
theorem taken {s:Server} {r:ApRequest} {src now:Int} (h:(verify s r src now).err=0):∃ t a,Taken s r src now t a:=by
 have h0:=h
 unfold verify at h
 by_cases h1:s.err=0
 case neg=>rw [if_pos h1] at h;cases h
 rw [if_neg (by simpa using h1)] at h
 by_cases h2:(openReq s r).err=0
 case neg=>rw [if_pos h2] at h;exact absurd h h2
 rw [if_neg (by simpa using h2)] at h
 by_cases h3:judge (openReq s r).ticket (openReq s r).auth src now s.skew=0
 case neg=>rw [if_pos h3] at h;exact absurd h h3
 rw [if_neg (by simpa using h3)] at h
 by_cases h4:(addMark s.replay (markOf (openReq s r).auth) now s.skew).err=0
 case neg=>rw [if_pos h4] at h;exact absurd h h4
 have hv:verify s r src now=⟨⟨s.me,s.keys,(addMark s.replay (markOf (openReq s r).auth) now s.skew).val,s.skew⟩,⟨(openReq s r).ticket.client,(openReq s r).ticket.session,(openReq s r).ticket.address,(openReq s r).auth.checksum,(openReq s r).auth.time,(openReq s r).auth.tick,(openReq s r).ticket.issued,(openReq s r).ticket.life,r.ticket,r.auth⟩,0⟩:=by
  unfold verify
  rw [if_neg (by simpa using h1),if_neg (by simpa using h2),if_neg (by simpa using h3),if_neg (by simpa using h4)]
 have ho:∃ t a,r.realm=s.me.realm∧(skFind s.keys s.me r.kvno).2=true∧openTicket r.ticket (skFind s.keys s.me r.kvno).1=⟨t,0⟩∧ticketFor t s.me.realm=s.me∧openAuth r.auth r.little t.session=⟨a,0⟩∧openReq s r=⟨t,a,0⟩:=by
  unfold openReq at h2 ⊢
  by_cases g1:r.realm=s.me.realm
  case neg=>rw [if_pos g1] at h2;cases h2
  rw [if_neg (by simpa using g1)] at h2 ⊢
  by_cases g2:(skFind s.keys s.me r.kvno).2=false
  ·rw [if_pos g2] at h2;cases h2
  rw [if_neg g2] at h2 ⊢
  by_cases g3:(openTicket r.ticket (skFind s.keys s.me r.kvno).1).err=7
  ·rw [if_pos g3] at h2;cases h2
  rw [if_neg g3] at h2 ⊢
  by_cases g4:(openTicket r.ticket (skFind s.keys s.me r.kvno).1).err=0
  case neg=>rw [if_pos g4] at h2;cases h2
  rw [if_neg (by simpa using g4)] at h2 ⊢
  by_cases g5:(ticketFor (openTicket r.ticket (skFind s.keys s.me r.kvno).1).val s.me.realm).eqb s.me=false
  ·rw [if_pos g5] at h2;cases h2
  rw [if_neg g5] at h2 ⊢
  by_cases g6:(openAuth r.auth r.little (openTicket r.ticket (skFind s.keys s.me r.kvno).1).val.session).err=0
  case neg=>rw [if_pos g6] at h2;cases h2
  rw [if_neg (by simpa using g6)]
  exact ⟨_,_,g1,by simpa using g2,dec_eta _ g4,Prin.eqb_iff.1 (by simpa using g5),dec_eta _ g6,rfl⟩
 obtain ⟨t,a,o1,o2,o3,o4,o5,o6⟩:=ho
 rw [o6] at h3 h4 hv
 dsimp only at h3 h4 hv
 unfold judge at h3
 by_cases j1:t.client.eqb a.client=false
 ·rw [if_pos j1] at h3;cases h3
 rw [if_neg j1] at h3
 by_cases j2:src=t.address
 case neg=>rw [if_pos j2] at h3;cases h3
 rw [if_neg (by simpa using j2)] at h3
 by_cases j3:near a.time now s.skew=false
 ·rw [if_pos j3] at h3;cases h3
 rw [if_neg j3] at h3
 exact ⟨t,a,h1,o1,o2,o3,o4,o5,Prin.eqb_iff.1 (by simpa using j1),j2,by simpa using j3,h3,added h4,hv⟩
theorem stateErr_ok {i l n k:Int} (h:stateErr i l n k=0):(0≤i∧i≤4294967295)∧(0≤l∧l≤255)∧i≤n+k∧n≤i+300*(l+1)+k:=by
 unfold stateErr at h
 split at h
 ·cases h
 rename_i h1
 simp only [Bool.not_eq_true',Bool.not_eq_false,Zz] at h1
 split at h
 ·cases h
 split at h
 ·cases h
 rename_i h2 h3
 have he:tEnd i l=i+300*(l+1):=by unfold tEnd;rw [if_pos (by rw [h1.1.1.1,h1.1.2];rfl)]
 rw [he] at h3
 exact ⟨within_iff.1 h1.1.1.1,within_iff.1 h1.1.2,by omega,by omega⟩
theorem sealed_ticket {t:Ticket} {k k2:Int} {u:Ticket} (ht:0≤t.session∧t.session<18446744073709551616) (hk:0≤k∧k<18446744073709551616) (h:openTicket (sealTicket t k).val k2=⟨u,0⟩):u=t∧k2=k:=by
 have h':(openTicket (sealTicket t k).val k2).err=0:=by rw [h]
 unfold openTicket at h h'
 cases ho:(openBox (sealTicket t k).val 1 k2).2
 ·rw [ho] at h';cases h'
 rw [ho] at h h'
 rw [if_pos rfl] at h h'
 unfold sealTicket at ho h h'
 by_cases he:(encodeTicket t).err=0
 ·rw [if_neg (by simpa using he)] at ho h h'
  obtain ⟨m1,m2⟩:=openBox_made hk.1 hk.2 ho
  rw [m2,ticket_dec ht.1 ht.2 he] at h
  cases h
  exact ⟨rfl,m1⟩
 ·rw [if_pos he,openBox_nil] at ho
  cases ho
namespace Case
theorem ses_bd (c:Case):0≤c.ses∧c.ses<18446744073709551616:=session_bd2 _
end Case
theorem me_cases (c:Case):∃ n:Int,u8i c.service % 6=n∧(n=0∨n=1∨n=2∨n=3∨n=4∨n=5):=⟨_,rfl,by omega⟩
theorem server_keys (c:Case):c.me.valid=true∧skErr [⟨c.me,1,long 1⟩,⟨c.me,2,long 2⟩,⟨user 0,1,long 9⟩]=0∧skFind [⟨c.me,1,long 1⟩,⟨c.me,2,long 2⟩,⟨user 0,1,long 9⟩] c.me 2=(long 2,true):=by
 obtain ⟨n,hn,h⟩:=me_cases c
 unfold Case.me
 rw [hn]
 rcases h with rfl | rfl | rfl | rfl | rfl | rfl<;>exact ⟨by decide +kernel,by decide +kernel,by decide +kernel⟩
theorem server_err (c:Case) (size skew:UInt8):(c.server size skew).err=0:=by
 obtain ⟨h1,h2,_⟩:=server_keys c
 have b1:=u8i_bd size
 have b2:=u8i_bd skew
 rw [servErr_iff]
 refine ⟨h1,h2,?_,?_⟩
 ·rw [rcErr_iff]
  refine ⟨?_,by simp [Case.server],?_,by simp [Case.server],by simp [Case.server]⟩
  ·simp only [Case.server];omega
  ·simp only [Case.server,List.length_nil];omega
 ·simp only [Case.server];omega
theorem encodeAuth_len {a:Auth} {l:Bool}:(encodeAuth a l).val.length≤150:=by
 unfold encodeAuth
 split
 ·simp
 rename_i h
 have hv:a.client.valid=true:=by
  unfold Auth.check at h
  cases hv:a.client.valid
  ·rw [hv,if_pos (by rfl)] at h;simp at h
  ·rfl
 simp only [Prin.valid,Zz,validName,validInst,validRealm,decide_eq_true_eq] at hv
 have:=pad_len (putPrin (putN (cond l 1 0) 1 false) a.client++putN a.checksum 4 l++putN a.tick 1 false++putN a.time 4 l)
 simp only [this,List.length_append,putPrin_len,putN_len]
 omega
theorem sealAuth_len (a:Auth) (l:Bool) (k:Int):(sealAuth a l k).val.length≤162:=by
 unfold sealAuth
 split
 ·simp
 ·have:=makeBox_len 2 k (encodeAuth a l).val
  have:=encodeAuth_len (a:=a) (l:=l)
  omega
structure Reached (s:Server):Prop where
 err:s.err=0
 keys:∀ c∈s.keys,c.ok
 marks:∀ c∈s.replay.marks,c.ok
 name:s.me.name.length≤9223372036854775807∧s.me.inst.length≤9223372036854775807∧s.me.realm.length≤9223372036854775807
 lens:s.keys.length≤1000000∧s.replay.marks.length≤1000000
theorem valid_len62 {p:Prin} (h:p.valid=true):p.name.length≤9223372036854775807∧p.inst.length≤9223372036854775807∧p.realm.length≤9223372036854775807:=by
 simp only [Prin.valid,Zz,validName,validInst,validRealm,decide_eq_true_eq] at h
 omega
theorem markOk {f:Int} {m:Mark} (h:m.err f=0) (hf:0≤f):m.ok:=by
 obtain ⟨h1,h2,h3,h4⟩:=markErr_iff.1 h
 have hv:=valid_len62 h1
 exact ⟨hv.1,hv.2.1,hv.2.2,isI64_iff.2 (by omega),isI64_iff.2 (by omega)⟩
theorem skErr_len {l:List SKey} (h:skErr l=0):l.length≤60:=by
 unfold skErr at h
 split at h
 ·cases h
 ·omega
theorem reached_of {s:Server} (h:s.err=0) (hk:∀ c∈s.keys,c.ok):Reached s:=by
 obtain ⟨h1,h2,h3,h4⟩:=servErr_iff.1 h
 have hr:=rcErr_iff.1 h3
 have:=skErr_len h2
 exact ⟨h,hk,fun c hc=>markOk (hr.2.2.2.1 c hc) hr.2.1.1,valid_len62 h1,by omega,by omega⟩
theorem reached_server (c:Case) (size skew:UInt8):Reached (c.server size skew):=by
 refine reached_of (server_err c size skew) fun k hk=> ?_
 have hv:=valid_len62 (server_keys c).1
 simp only [Case.server,List.mem_cons,List.not_mem_nil,or_false] at hk
 rcases hk with rfl | rfl | rfl
 ·exact ⟨hv.1,hv.2.1,hv.2.2,rfl,isU64_iff.2 (long_bd _)⟩
 ·exact ⟨hv.1,hv.2.1,hv.2.2,rfl,isU64_iff.2 (long_bd _)⟩
 ·exact ⟨by decide +kernel,by decide +kernel,by decide +kernel,rfl,isU64_iff.2 (long_bd _)⟩
theorem ap_len (r:ApRequest):(encodeAp r).val.length≤600:=by
 by_cases h:(encodeAp r).err=0
 ·obtain ⟨h1,⟨h2,_⟩,_,h3,h4⟩:=ap_at h
  have hh:(header (cond r.mutual_ 4 3) r.little).length=2:=by cases r.mutual_<;>cases r.little<;>rfl
  rw [h1]
  simp only [List.length_append,List.length_cons,List.length_nil,putN_len,hh]
  omega
 ·unfold encodeAp at h ⊢
  split
  ·simp
  rename_i g1
  rw [if_neg g1] at h
  split
  ·simp
  rename_i g2
  rw [if_neg g2] at h
  split
  ·simp
  rename_i g3
  rw [if_neg g3] at h
  exact absurd rfl h
structure Fits (s:Server) (V:Verified) (r:ApRequest) (src now:Int):Prop where
 err:V.err=0
 t1:V.a.time-now≤s.skew
 t2:now-V.a.time≤s.skew
 t3:V.a.issued-s.skew≤now
 t4:now≤V.a.issued+300*(V.a.life+1)+s.skew
 b1:0≤V.a.time∧V.a.time≤4294967295
 b2:0≤V.a.issued∧V.a.issued≤4294967295
 b3:0≤V.a.life∧V.a.life≤255
 b4:0≤s.skew∧s.skew≤4294967295
 b5:0≤now∧now≤4294967295
 src:V.a.address=src
 ticket:V.a.ticket=r.ticket
 auth:V.a.auth=r.auth
 more:V.s.replay.marks.length≤s.replay.marks.length+1
 most:(V.s.replay.marks.length:Int)≤V.s.replay.size
 size:V.s.replay.size=s.replay.size
 ok:V.s.err=0
structure Sound (s:Server):Prop where
 keys:∀ c∈s.keys,c.ok
 marks:∀ c∈s.replay.marks,c.ok
 name:s.me.name.length≤9223372036854775807∧s.me.inst.length≤9223372036854775807∧s.me.realm.length≤9223372036854775807
 lens:s.keys.length≤1000000∧s.replay.marks.length≤1000000
theorem Reached.sound {s:Server} (h:Reached s):Sound s:=⟨h.keys,h.marks,h.name,h.lens⟩
end Kerb
