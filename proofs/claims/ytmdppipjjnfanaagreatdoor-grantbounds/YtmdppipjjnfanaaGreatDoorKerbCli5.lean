/- Clients that receive: lengths stay small. -/
import Derived.Test.YtmdppipjjnfanaaGreatDoorKerbCli4
namespace Kerb
open Go.Abs Go
set_option linter.unusedVariables false
end Kerb
namespace Go.Abs
theorem bind_via {α β:Type} {x:Option α} {f:α→Option β} {r:Option β} (P:α→Prop) (h1:∃ a,x=some a∧P a) (h2:∀ a,P a→f a=r):x.bind f=r:=by
 obtain ⟨a,rfl,h⟩:=h1
 exact h2 a h
end Go.Abs
