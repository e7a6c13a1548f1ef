/- Chapter 20: a client that waits for an answer gets it. -/
import Derived.Test.YtkdmekflbaekpaaGreatDoorKerbCli5
import Derived.Test.YtkdmekflbaekpaaGreatDoorKerbCli6
namespace Kerb
open Go Go.Abs
set_option linter.unusedVariables false
theorem makeBox_ok {kd k:Int} {b:Bytes} (h1:isKind kd=true) (h2:keyValid k=true) (h3:b.length≤1000):(makeBox kd k b).err=0∧(makeBox kd k b).val.length=12+b.length:=by
 unfold makeBox
 rw [h1,h2,if_neg (by simp),if_neg (by simp),if_neg (by omega)]
 refine ⟨rfl,?_⟩
 simp [keyBytes_len,putN_len];omega
end Kerb
