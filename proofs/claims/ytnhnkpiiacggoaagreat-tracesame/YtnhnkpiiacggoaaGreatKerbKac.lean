/- Chapter 24: clients of kaservers, in plain words. -/
import Derived.Test.YtnhnkpiiacggoaaGreatKerbCli3
namespace Kerb
open Go Go.Abs
set_option linter.unusedVariables false
structure KaWait where
 op:Int
 time:Int
 start:Int
 stop:Int
 service:Prin
 session:Int
 new:Int
structure KaSent where
 w:KaWait
 msg:Bytes
 err:Int
structure KaGot where
 c:Client
 w:KaWait
 cred:Cred
 err:Int
structure KacAns where
 op:UInt8
 label:UInt8
 time:UInt8
 service:UInt8
 key:UInt8
 code:UInt8
 start:Int
 stop:Int
 how:Int
end Kerb
