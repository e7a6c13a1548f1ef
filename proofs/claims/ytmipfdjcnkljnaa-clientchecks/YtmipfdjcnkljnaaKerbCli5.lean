/- Clients that receive: lengths stay small. -/
import Derived.Test.YtmipfdjcnkljnaaKerbCli4
namespace Kerb
open Go.Abs Go
set_option linter.unusedVariables false
end Kerb
namespace Go.Abs
end Go.Abs
