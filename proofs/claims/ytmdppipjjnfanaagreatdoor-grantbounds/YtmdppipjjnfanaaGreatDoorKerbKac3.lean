/- Chapter 24: the statements' answers. -/
import Derived.Test.YtmdppipjjnfanaaGreatDoorKerbKac
namespace Kerb
open Go Go.Abs
set_option linter.unusedVariables false
def KacAns.av (x:KacAns):AV := .agg [.u8 x.op,.u8 x.label,.u8 x.time,.u8 x.service,.u8 x.key,.u8 x.code,.int .u16 x.start,.int .u16 x.stop,.int .u16 x.how]
end Kerb
