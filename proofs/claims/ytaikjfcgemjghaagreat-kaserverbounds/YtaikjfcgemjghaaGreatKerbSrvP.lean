/- Chapter 23, plain: when a ticket is given; what the data of the statements says. -/
import Derived.Test.YtaikjfcgemjghaaGreatKerbSrvL
import Derived.Test.YtaikjfcgemjghaaGreatKerbCli7
import Derived.KernelRfl
namespace Kerb
open Go Go.Abs
set_option linter.unusedVariables false
theorem openBox_other {kd k k2:Int} {body:Bytes} (h0:0≤k) (h1:k<18446744073709551616) (h:(makeBox kd k body).err=0) (hne:k≠k2):(openBox (makeBox kd k body).val kd k2).2=false:=by
 have hb:=openBox_back h0 h1 h
 unfold openBox at hb ⊢
 split at hb
 ·cases hb
 rename_i hc
 have hk:(readBox (makeBox kd k body).val).box.key=k:=by
  by_cases hz:(readBox (makeBox kd k body).val).box.key=k
  ·exact hz
  ·exact absurd (.inr (.inr (.inr hz))) hc
 rw [if_pos (.inr (.inr (.inr (by rw [hk];exact hne))))]
theorem grantLife_bd {now want:Int} {l:List Int} (h:(grantLife now want l).2=true):0≤(grantLife now want l).1∧(grantLife now want l).1≤255∧0≤now∧now≤4294967295:=by
 unfold grantLife at h ⊢
 split at h
 ·cases h
 rename_i h1
 rw [if_neg h1]
 split at h
 ·cases h
 rename_i h2
 rw [if_neg h2]
 simp only [Bool.or_eq_true,not_or,Bool.not_eq_true',Bool.not_eq_false,decide_eq_true_eq] at h1
 have hn:=within_iff.1 h1.1
 dsimp only
 generalize least (now+300*(imin want 255+1)) l=q at h2 ⊢
 unfold imin
 split<;>omega
end Kerb
