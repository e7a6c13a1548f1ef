/- Chapters 12 and 14: the principals of a realm, keys between realms. -/
import Derived.Test.YtnhnkpiiacggoaaGreatKerbTkt
namespace Kerb
open Go Go.Abs
set_option linter.unusedVariables false
structure Entry where
 name:Bytes
 inst:Bytes
 key:Int
 kvno:Int
 expires:Int
 maxLife:Int
 attr:Int
 fails:Int
 till:Int
def Entry.av (e:Entry):AV := .agg [.str e.name,.str e.inst,.int .u64 e.key,.int .i64 e.kvno,.int .i64 e.expires,.int .i64 e.maxLife,.int .i64 e.attr,.int .i64 e.fails,.int .i64 e.till]
def isI64 (n:Int):Bool:=decide (-9223372036854775808≤n)&&decide (n≤9223372036854775807)
def isU64 (n:Int):Bool:=decide (0≤n)&&decide (n<18446744073709551616)
def Entry.ok (e:Entry):Prop:=e.name.length≤9223372036854775807∧e.inst.length≤9223372036854775807∧isU64 e.key=true∧isI64 e.kvno=true∧isI64 e.expires=true∧isI64 e.maxLife=true∧isI64 e.attr=true∧isI64 e.fails=true∧isI64 e.till=true
def Entry.err (e:Entry):Int :=
 if !(validName e.name&&validInst e.inst) then 103
 else if e.key≠0∧keyValid e.key=false then 10
 else if !(within e.kvno 255&&(within e.expires 4294967295&&within e.till 4294967295)) then 104
 else if !(within e.maxLife 255&&(within e.attr 3&&within e.fails 20)) then 104 else 0
def Entry.less (a b:Entry):Bool:=Op.bytesLess a.name b.name||(a.name==b.name&&Op.bytesLess a.inst b.inst)
def entriesErr:Option Entry→List Entry→Int
 | _,[]=>0
 | p,e::r=>if e.err≠0 then e.err else if (match p with | some q=>e.less q | none=>false) then 110 else entriesErr (some e) r
structure Db where
 realm:Bytes
 entries:List Entry
def Entry.eqb (a b:Entry):Bool:=a.name==b.name&&(a.inst==b.inst&&(a.key==b.key&&(a.kvno==b.kvno&&(a.expires==b.expires&&(a.maxLife==b.maxLife&&(a.attr==b.attr&&(a.fails==b.fails&&a.till==b.till)))))))
def sameEnts:List Entry→List Entry→Bool
 | [],[]=>true
 | a::l,b::r=>a.eqb b&&sameEnts l r
 | _,_=>false
def Db.same (a b:Db):Bool:=a.realm==b.realm&&sameEnts a.entries b.entries
def Db.err (d:Db):Int:=if !validRealm d.realm then 103 else if 60<d.entries.length then 106 else entriesErr none d.entries
def Entry.named (n i:Bytes) (e:Entry):Bool:=e.name==n&&e.inst==i
structure Cross where
 source:Bytes
 target:Bytes
 kvno:Int
 key:Int
def Cross.av (c:Cross):AV := .agg [.str c.source,.str c.target,.int .i64 c.kvno,.int .u64 c.key]
end Kerb
