/- Chapters 10, 18, 20: the answer of a service, and what a client makes of it. -/
import Derived.Test.YtnhnkpiiacggoaaGreatKerbCli3
namespace Kerb
open Go Go.Abs
set_option linter.unusedVariables false
structure DecAns where
 val:Bytes
 little:Bool
 err:Int
structure GotAns where
 c:Client
 err:Int
end Kerb
