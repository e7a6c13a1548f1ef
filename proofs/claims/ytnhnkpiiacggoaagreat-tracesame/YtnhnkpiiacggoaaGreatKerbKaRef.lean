/- Chapter 22: what the reader of the reference reads. -/
import Derived.Test.YtnhnkpiiacggoaaGreatKerbKaPlain
namespace Kerb
open Go Go.Abs
set_option linter.unusedVariables false
end Kerb
