/- Chapter 20: a client that waits for an answer gets it. -/
import Derived.Test.YtmdppipjjnfanaaGreatDoorKerbCli5
import Derived.Test.YtmdppipjjnfanaaGreatDoorKerbCli6
namespace Kerb
open Go Go.Abs
set_option linter.unusedVariables false
end Kerb
