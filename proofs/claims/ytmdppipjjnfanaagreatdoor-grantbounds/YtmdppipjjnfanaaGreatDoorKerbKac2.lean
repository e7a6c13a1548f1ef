/- Chapter 24: lengths and bounds. -/
import Derived.Test.YtmdppipjjnfanaaGreatDoorKerbKac
import Derived.Test.YtmdppipjjnfanaaGreatDoorKerbKaRef
import Derived.Test.YtmdppipjjnfanaaGreatDoorKerbCli5
namespace Kerb
open Go Go.Abs
set_option linter.unusedVariables false
def KaAnswer.ok (a:KaAnswer):Prop:=a.service.valid=true∨a.service=noPrin
end Kerb
