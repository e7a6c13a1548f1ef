/- Chapter 23, plain: when a ticket is given; what the data of the statements says. -/
import Derived.Test.YtojagnkahnpklaaGreatDoorKerbSrvL
import Derived.Test.YtojagnkahnpklaaGreatDoorKerbCli7
import Derived.KernelRfl
namespace Kerb
open Go Go.Abs
set_option linter.unusedVariables false
end Kerb
