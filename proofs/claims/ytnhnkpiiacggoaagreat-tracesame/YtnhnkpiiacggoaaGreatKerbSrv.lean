/- Chapters 17 and 23: tickets that are granted, the servers of AFS. -/
import Derived.Test.YtnhnkpiiacggoaaGreatKerbDb
import Derived.Test.YtnhnkpiiacggoaaGreatKerbKac
import Derived.Test.YtnhnkpiiacggoaaGreatKerbKaPlain
namespace Kerb
open Go Go.Abs
set_option linter.unusedVariables false
structure Svc where
 key:Int
 kvno:Int
 life:Int
 expires:Int
 err:Int
structure Issue where
 kind:Int
 server:Prin
 client:Prin
 service:Prin
 session:Int
 sealer:Int
 granter:Int
 text:Bytes
 issued:Int
 stop:Int
def Issue.cs (x:Issue):List AV:=[.int .i64 x.kind,.str x.server.name,.str x.server.inst,.str x.server.realm,.str x.client.name,.str x.client.inst,.str x.client.realm,.str x.service.name,.str x.service.inst,.str x.service.realm,.int .u64 x.session,.int .u64 x.sealer,.int .u64 x.granter,.bs x.text,.int .i64 x.issued,.int .i64 x.stop]
def Issue.same (a b:Issue):Bool:=a.kind==b.kind&&(a.server.eqb b.server&&(a.client.eqb b.client&&(a.service.eqb b.service&&(a.session==b.session&&(a.sealer==b.sealer&&(a.granter==b.granter&&(a.text==b.text&&(a.issued==b.issued&&a.stop==b.stop))))))))
structure Granted where
 issue:Issue
 part:ReplyPart
 err:Int
structure KaOut where
 db:Db
 answer:Bytes
 issue:Issue
 ok:Bool
def KaSecret.bd (s:KaSecret):Prop:=(0≤s.time∧s.time≤4294967295)∧(0≤s.stop∧s.stop≤4294967295)∧0≤s.new∧s.new<18446744073709551616
def Ticket.bd (t:Ticket):Prop:=t.client.name.length≤40∧t.client.inst.length≤40∧t.client.realm.length≤40∧isU64 t.session=true
def Db.ok (d:Db):Prop:=∀ e∈d.entries,e.ok
def KaRequest.bd (r:KaRequest):Prop:=(r.user.name.length≤40∧r.user.inst.length≤40∧r.user.realm.length≤40∧r.realm.length≤40∧r.service.length≤40∧r.inst.length≤40)∧kaOp r.op=true∧r.ticket.length≤255∧r.box.length≤1012
end Kerb
