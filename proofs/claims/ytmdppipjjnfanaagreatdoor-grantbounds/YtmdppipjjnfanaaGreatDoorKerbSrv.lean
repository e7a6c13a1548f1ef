/- Chapters 17 and 23: tickets that are granted, the servers of AFS. -/
import Derived.Test.YtmdppipjjnfanaaGreatDoorKerbDb
import Derived.Test.YtmdppipjjnfanaaGreatDoorKerbKac
import Derived.Test.YtmdppipjjnfanaaGreatDoorKerbKaPlain
namespace Kerb
open Go Go.Abs
set_option linter.unusedVariables false
def krbtgt:Bytes:=[107,114,98,116,103,116]
structure Svc where
 key:Int
 kvno:Int
 life:Int
 expires:Int
 err:Int
def svc (d:Db) (cross:List Cross) (n i:Bytes) (now:Int):Svc :=
 if n==krbtgt&&(validRealm i && !(i==d.realm)) then
  (if (findCross cross d.realm i).2 then ⟨(cross.getD (findCross cross d.realm i).1.toNat noCross).key,(cross.getD (findCross cross d.realm i).1.toNat noCross).kvno,255,0,0⟩ else ⟨0,0,0,0,8⟩)
 else if (serviceEnt d n i now).2≠0 then ⟨0,0,0,0,(serviceEnt d n i now).2⟩
 else ⟨(d.entries.getD (serviceEnt d n i now).1.toNat noEntry).key,(d.entries.getD (serviceEnt d n i now).1.toNat noEntry).kvno,(d.entries.getD (serviceEnt d n i now).1.toNat noEntry).maxLife,(d.entries.getD (serviceEnt d n i now).1.toNat noEntry).expires,0⟩
structure Issue where
 kind:Int
 server:Prin
 client:Prin
 service:Prin
 session:Int
 sealer:Int
 granter:Int
 text:Bytes
 issued:Int
 stop:Int
def noIssue:Issue:=⟨0,noPrin,noPrin,noPrin,0,0,0,[],0,0⟩
def Issue.cs (x:Issue):List AV:=[.int .i64 x.kind,.str x.server.name,.str x.server.inst,.str x.server.realm,.str x.client.name,.str x.client.inst,.str x.client.realm,.str x.service.name,.str x.service.inst,.str x.service.realm,.int .u64 x.session,.int .u64 x.sealer,.int .u64 x.granter,.bs x.text,.int .i64 x.issued,.int .i64 x.stop]
def Issue.same (a b:Issue):Bool:=a.kind==b.kind&&(a.server.eqb b.server&&(a.client.eqb b.client&&(a.service.eqb b.service&&(a.session==b.session&&(a.sealer==b.sealer&&(a.granter==b.granter&&(a.text==b.text&&(a.issued==b.issued&&a.stop==b.stop))))))))
structure Granted where
 issue:Issue
 part:ReplyPart
 err:Int
def grantTkt (little:Bool) (client service:Prin) (address now life session:Int):Ticket:=⟨little,client,address,session,life,now,service.name,service.inst⟩
def grant (realm:Bytes) (client service:Prin) (address:Int) (little:Bool) (now life session sealer target kvno:Int):Granted :=
 if (sealTicket (grantTkt little client service address now life session) target).err≠0 then ⟨noIssue,noPart,(sealTicket (grantTkt little client service address now life session) target).err⟩
 else if (encodePart ⟨session,service,life,kvno,(sealTicket (grantTkt little client service address now life session) target).val,now⟩ little).err≠0 then
  ⟨noIssue,noPart,(encodePart ⟨session,service,life,kvno,(sealTicket (grantTkt little client service address now life session) target).val,now⟩ little).err⟩
 else ⟨⟨0,tgs realm realm,client,service,session,sealer,0,(sealTicket (grantTkt little client service address now life session) target).val,now,tEnd now life⟩,⟨session,service,life,kvno,(sealTicket (grantTkt little client service address now life session) target).val,now⟩,0⟩
def refuse (client:Prin) (code now:Int) (little:Bool):Bytes:=(encodeError ⟨little,client,now,code,message code⟩).val
structure KaOut where
 db:Db
 answer:Bytes
 issue:Issue
 ok:Bool
def entAt (d:Db) (i:Int):Entry:=d.entries.getD i.toNat noEntry
theorem makeBox_len (kd k:Int) (b:Bytes):(makeBox kd k b).val.length≤12+b.length:=by
 unfold makeBox
 split
 ·simp
 split
 ·simp
 split
 ·simp
 ·simp [keyBytes_len,putN_len];omega
theorem sealTicket_len (t:Ticket) (k:Int):(sealTicket t k).val.length≤236:=by
 unfold sealTicket
 split
 ·simp
 ·have h1:=makeBox_len 1 k (encodeTicket t).val
  have h2:=encTicket_len t
  omega
def KaSecret.bd (s:KaSecret):Prop:=(0≤s.time∧s.time≤4294967295)∧(0≤s.stop∧s.stop≤4294967295)∧0≤s.new∧s.new<18446744073709551616
def Ticket.bd (t:Ticket):Prop:=t.client.name.length≤40∧t.client.inst.length≤40∧t.client.realm.length≤40∧isU64 t.session=true
theorem noTicket_bd:noTicket.bd:=⟨by decide,by decide,by decide,rfl⟩
theorem decTicket_bd (b:Bytes):(decodeTicket b).val.bd:=by
 unfold decodeTicket
 split
 ·exact noTicket_bd
 unfold decBy
 split
 ·exact noTicket_bd
 ·have h:=prin_len b (get b 0 1 false).next
  exact ⟨h.1,h.2.1,h.2.2,isU64_iff.2 (readTicket_bd b)⟩
theorem openTicket_bd (b:Bytes) (k:Int):(openTicket b k).val.bd:=by
 unfold openTicket
 split
 ·exact decTicket_bd _
 ·exact noTicket_bd
theorem tEnd_i64 (a b:Int):isI64 (tEnd a b)=true:=by
 rw [isI64_iff]
 unfold tEnd
 split
 ·rename_i h
  simp only [Bool.and_eq_true,within_iff] at h
  omega
 ·omega
def Db.ok (d:Db):Prop:=∀ e∈d.entries,e.ok
theorem all_ents {d:Db} (h:d.ok):(d.entries.map Entry.av).all isEntry=true:=ents_all h
def KaRequest.bd (r:KaRequest):Prop:=(r.user.name.length≤40∧r.user.inst.length≤40∧r.user.realm.length≤40∧r.realm.length≤40∧r.service.length≤40∧r.inst.length≤40)∧kaOp r.op=true∧r.ticket.length≤255∧r.box.length≤1012
end Kerb
