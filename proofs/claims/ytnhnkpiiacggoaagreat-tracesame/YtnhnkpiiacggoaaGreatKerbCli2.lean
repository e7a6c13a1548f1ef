/- Clients: what the statements of chapter 20 lean on. -/
import Derived.Test.YtnhnkpiiacggoaaGreatKerbCli
namespace Kerb
open Go Go.Abs
set_option linter.unusedVariables false
end Kerb
