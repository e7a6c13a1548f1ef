/- Chapter 20: a client that waits for an answer gets it. -/
import Derived.Test.YtiplnpablmohiaaGreatKerbCli5
import Derived.Test.YtiplnpablmohiaaGreatKerbCli6
namespace Kerb
open Go Go.Abs
set_option linter.unusedVariables false
theorem encodeMutual_ok {m:Mutual} {li:Bool} (h1:within m.checksum 4294967295=true) (h2:within m.tick 199=true) (h3:within m.time 4294967295=true):(encodeMutual m li).err=0∧(encodeMutual m li).val.length=16:=by
 unfold encodeMutual
 rw [h1,h2,h3,if_neg (by simp)]
 refine ⟨rfl,?_⟩
 rw [pad_len]
 simp [putN_len]
theorem makeBox_ok {kd k:Int} {b:Bytes} (h1:isKind kd=true) (h2:keyValid k=true) (h3:b.length≤1000):(makeBox kd k b).err=0∧(makeBox kd k b).val.length=12+b.length:=by
 unfold makeBox
 rw [h1,h2,if_neg (by simp),if_neg (by simp),if_neg (by omega)]
 refine ⟨rfl,?_⟩
 simp [keyBytes_len,putN_len];omega
theorem encodeMutual_len (m:Mutual) (li:Bool):(encodeMutual m li).val.length≤16:=by
 unfold encodeMutual
 split
 ·simp
 ·rw [pad_len];simp [putN_len]
theorem encodeAns_len (s:Bytes) (li:Bool):(encodeAns s li).val.length≤2000:=by
 unfold encodeAns
 split
 ·simp
 ·simp [putN_len,head8_len];omega
theorem serviceAnswer_len (k c t n:Int) (li:Bool):(serviceAnswer k c t n li).val.length≤2000:=by
 unfold serviceAnswer
 split
 ·simp
 split
 ·simp
 ·exact encodeAns_len _ _
end Kerb
