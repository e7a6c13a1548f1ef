/- Chapter 24: what clients receive, plain. -/
import Derived.Test.YtmdppipjjnfanaaGreatDoorKerbKac3
import Derived.Test.YtmdppipjjnfanaaGreatDoorKerbKac2
namespace Kerb
open Go Go.Abs
set_option linter.unusedVariables false
def KaWait.av (w:KaWait):AV := .agg [.int .i64 w.op,.int .i64 w.time,.int .i64 w.start,.int .i64 w.stop,.str w.service.name,.str w.service.inst,.str w.service.realm,.int .u64 w.session,.int .u64 w.new]
theorem pick3 {P:AV→Prop} {a b c d:AV} {j:Nat} (hj:j<3) (ha:P a) (hb:P b) (hc:P c):P (List.getD [a,b,c] (Int.toNat (j:Int)) d):=by
 rw [Int.toNat_natCast]
 match j,hj with
 | 0,_=>exact ha
 | 1,_=>exact hb
 | 2,_=>exact hc
end Kerb
namespace Go.Abs
end Go.Abs
