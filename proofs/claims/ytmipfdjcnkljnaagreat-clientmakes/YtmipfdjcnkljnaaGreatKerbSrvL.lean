/- The statements of chapter 23, plain: databases stay without an error. -/
import Derived.Test.YtmipfdjcnkljnaaGreatKerbSrvD
namespace Kerb
open Go Go.Abs
set_option linter.unusedVariables false
structure Fine (d d':Db):Prop where
 err:d'.err=0
 ok:d'.ok
 len:d'.entries.length=d.entries.length
 realm:d'.realm=d.realm
theorem Fine.trans {a b c:Db} (h:Fine a b) (g:Fine b c):Fine a c:=⟨g.err,g.ok,g.len.trans h.len,g.realm.trans h.realm⟩
structure Kept (d:Db):Prop where
 err:d.err=0
 ok:d.ok
 all:(d.entries.map Entry.av).all isEntry=true
 len:d.entries.length≤60
 realm:d.realm.length≤39
theorem Entry.eqb_iff {x y:Entry}:(x.name==y.name&&(x.inst==y.inst&&(x.key==y.key&&(x.kvno==y.kvno&&(x.expires==y.expires&&(x.maxLife==y.maxLife&&(x.attr==y.attr&&(x.fails==y.fails&&x.till==y.till))))))))=true↔x=y:=by
 cases x;cases y
 simp
end Kerb
