/- Chapter 20: clients stay without an error. -/
import Derived.Test.YtiplnpablmohiaaGreatKerbCli3
namespace Kerb
open Go Go.Abs
set_option linter.unusedVariables false
theorem Prin.eqb_iff {p q:Prin}:p.eqb q=true↔p=q:=by
 constructor
 ·intro h
  obtain ⟨a,b,c⟩:=p
  obtain ⟨d,e,f⟩:=q
  simp only [Prin.eqb,Bool.and_eq_true,beq_iff_eq] at h
  obtain ⟨rfl,rfl,rfl⟩:=h
  rfl
 ·rintro rfl;exact Prin.eqb_refl p
instance:DecidableEq Prin:=fun p q=>if h:p.eqb q=true then isTrue (Prin.eqb_iff.1 h) else isFalse fun g=>h (Prin.eqb_iff.2 g)
def services:List Prin:=[service 0,service 1,service 2,service 3,service 4,service 5,service 6,service 7,service 8]
theorem below9 {n:Int} (h0:0≤n) (h1:n<9):n=0∨n=1∨n=2∨n=3∨n=4∨n=5∨n=6∨n=7∨n=8:=by omega
theorem user_valid (n:Int):(user n).valid=true:=by
 unfold user realm
 split
 ·split
  ·decide +kernel
  split<;>decide +kernel
 split
 ·split
  ·decide +kernel
  split<;>decide +kernel
 ·split
  ·decide +kernel
  split<;>decide +kernel
end Kerb
