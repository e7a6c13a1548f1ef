/- Clients: what the statements of chapter 20 lean on. -/
import Derived.Test.YtmipfdjcnkljnaaGreatKerbCli
namespace Kerb
open Go Go.Abs
set_option linter.unusedVariables false
theorem good_lenT {c:Client} (h:c.good):decide ((c.cache.creds.map Cred.av).length≤1000000)=true:=by simpa using h.2.2.2
end Kerb
