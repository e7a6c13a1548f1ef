/- Chapter 23, plain: when a ticket is given; what the data of the statements says. -/
import Derived.Test.YtmdppipjjnfanaaGreatDoorKerbSrvL
import Derived.Test.YtmdppipjjnfanaaGreatDoorKerbCli7
import Derived.KernelRfl
namespace Kerb
open Go Go.Abs
set_option linter.unusedVariables false
theorem openBox_other {kd k k2:Int} {body:Bytes} (h0:0≤k) (h1:k<18446744073709551616) (h:(makeBox kd k body).err=0) (hne:k≠k2):(openBox (makeBox kd k body).val kd k2).2=false:=by
 have hb:=openBox_back h0 h1 h
 unfold openBox at hb ⊢
 split at hb
 ·cases hb
 rename_i hc
 have hk:(readBox (makeBox kd k body).val).box.key=k:=by
  by_cases hz:(readBox (makeBox kd k body).val).box.key=k
  ·exact hz
  ·exact absurd (.inr (.inr (.inr hz))) hc
 rw [if_pos (.inr (.inr (.inr (by rw [hk];exact hne))))]
theorem grantLife_bd {now want:Int} {l:List Int} (h:(grantLife now want l).2=true):0≤(grantLife now want l).1∧(grantLife now want l).1≤255∧0≤now∧now≤4294967295:=by
 unfold grantLife at h ⊢
 split at h
 ·cases h
 rename_i h1
 rw [if_neg h1]
 split at h
 ·cases h
 rename_i h2
 rw [if_neg h2]
 simp only [Bool.or_eq_true,not_or,Bool.not_eq_true',Bool.not_eq_false,decide_eq_true_eq] at h1
 have hn:=within_iff.1 h1.1
 dsimp only
 generalize least (now+300*(imin want 255+1)) l=q at h2 ⊢
 unfold imin
 split<;>omega
end Kerb
/- Chapter 23, plain: how long a ticket lasts, and who can open the answer. -/
namespace Kerb
open Go Go.Abs
set_option linter.unusedVariables false
theorem least_mem:∀ (l:List Int) (a e:Int),e∈l→least a l≤e
 | [],a,e,h=>by cases h
 | b::l,a,e,h=>by
  rcases List.mem_cons.1 h with rfl | h
  ·exact Int.le_trans (least_le l (imin a e)) (imin_le a e).2
  ·exact least_mem l (imin a b) e h
theorem grantLife_le {now w:Int} {l:List Int} (h:(grantLife now w l).2=true) {e:Int} (he:e∈l):tEnd now (grantLife now w l).1≤e:=by
 have hb:=grantLife_bd h
 have hm:=least_mem l (now+300*(imin w 255+1)) e he
 unfold tEnd
 rw [within_iff.2 ⟨hb.2.2.1,hb.2.2.2⟩,within_iff.2 ⟨hb.1,hb.2.1⟩]
 simp only [Bool.and_self,if_true]
 unfold grantLife at h ⊢
 split at h
 ·cases h
 rename_i h1
 rw [if_neg h1]
 split at h
 ·cases h
 rename_i h2
 rw [if_neg h2]
 dsimp only
 have:=imin_le ((least (now+300*(imin w 255+1)) l-now) / 300-1) 255
 omega
theorem makeBox_no {kd k:Int} {b:Bytes} (h:(makeBox kd k b).err≠0):(makeBox kd k b).val=[]:=by
 unfold makeBox at h ⊢
 split
 ·rfl
 split
 ·rfl
 split
 ·rfl
 ·rename_i h1 h2 h3
  rw [if_neg h1,if_neg h2,if_neg h3] at h
  exact absurd rfl h
theorem openBox_nil (kd k:Int):(openBox [] kd k).2=false:=by
 unfold openBox
 rw [if_pos (.inl (by decide))]
theorem openBox_made {kd k k2:Int} {b:Bytes} (h0:0≤k) (h1:k<18446744073709551616) (h:(openBox (makeBox kd k b).val kd k2).2=true):k2=k∧(openBox (makeBox kd k b).val kd k2).1=b:=by
 by_cases he:(makeBox kd k b).err=0
 ·by_cases hk:k=k2
  ·subst hk
   exact ⟨rfl,by rw [openBox_back h0 h1 he]⟩
  ·rw [openBox_other h0 h1 he hk] at h;cases h
 ·rw [makeBox_no he,openBox_nil] at h;cases h
namespace KAsk
end KAsk
end Kerb
namespace Kerb
open Go Go.Abs
structure Bound (a:KAsk) (d:Db) (ad se:Int) (o:KaOut) (R:KaReply) (Y:KaAnswer) (k:Int):Prop where
 dec:decodeKaReply o.answer=⟨R,0⟩
 len:o.answer.length≤1000000
 code:R.code=0
 opens:(openBox R.box 8 k).2=true
 says:decodeKaAnswer (openBox R.box 8 k).1=⟨Y,0⟩
 ses:Y.session=se
 ises:o.issue.session=se
 sealr:o.issue.sealer=k
 time:Y.time=1000+u8i a.time+1
 start:Y.start=1100
 stop:Y.stop=o.issue.stop
 most:o.issue.stop≤1000+u8i a.time+u8i a.stop*50
 client:o.issue.client=user (u8i a.user % 3)
 kind:(o.issue.kind=3∧k=(entAt d (findEnt d.entries o.issue.client.name o.issue.client.inst).1).key∧0≤(findEnt d.entries o.issue.client.name o.issue.client.inst).1∧(findEnt d.entries o.issue.client.name o.issue.client.inst).1<d.entries.length) ∨
  (o.issue.kind=4∧k=session (u8i a.session % 4)∧o.issue.stop≤1000+u8i a.issued+300*(u8i a.life % 40+1)∧u8i a.address % 2=ad∧o.issue.granter=k)
end Kerb
