/- Chapter 24: lengths and bounds. -/
import Derived.Test.YtkdmekflbaekpaaGreatDoorKerbKac
import Derived.Test.YtkdmekflbaekpaaGreatDoorKerbKaRef
import Derived.Test.YtkdmekflbaekpaaGreatDoorKerbCli5
namespace Kerb
open Go Go.Abs
set_option linter.unusedVariables false
def KaAnswer.ok (a:KaAnswer):Prop:=a.service.valid=true∨a.service=noPrin
def KaAnswer.fine (a:KaAnswer):Prop:=(0≤a.time∧a.time≤4294967295)∧(0≤a.start∧a.start≤4294967295)∧(0≤a.stop∧a.stop≤4294967295)∧a.ticket.length≤255∧(0≤a.session∧a.session<18446744073709551616) ∧
 (a.service.name.length≤39∧a.service.inst.length≤39∧a.service.realm.length≤39)
end Kerb
