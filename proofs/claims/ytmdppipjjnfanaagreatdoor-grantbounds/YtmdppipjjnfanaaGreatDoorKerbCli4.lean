/- Chapter 20: clients stay without an error. -/
import Derived.Test.YtmdppipjjnfanaaGreatDoorKerbCli3
namespace Kerb
open Go Go.Abs
set_option linter.unusedVariables false
theorem Prin.eqb_iff {p q:Prin}:p.eqb q=true↔p=q:=by
 constructor
 ·intro h
  obtain ⟨a,b,c⟩:=p
  obtain ⟨d,e,f⟩:=q
  simp only [Prin.eqb,Bool.and_eq_true,beq_iff_eq] at h
  obtain ⟨rfl,rfl,rfl⟩:=h
  rfl
 ·rintro rfl;exact Prin.eqb_refl p
instance:DecidableEq Prin:=fun p q=>if h:p.eqb q=true then isTrue (Prin.eqb_iff.1 h) else isFalse fun g=>h (Prin.eqb_iff.2 g)
def services:List Prin:=[service 0,service 1,service 2,service 3,service 4,service 5,service 6,service 7,service 8]
end Kerb
