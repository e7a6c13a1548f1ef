/- Chapter 23, plain: when a ticket is given; what the data of the statements says. -/
import Derived.Test.YtmipfdjcnkljnaaGreatKerbSrvL
import Derived.Test.YtmipfdjcnkljnaaGreatKerbCli7
import Derived.KernelRfl
namespace Kerb
open Go Go.Abs
set_option linter.unusedVariables false
end Kerb
/- Chapter 23, plain: how long a ticket lasts, and who can open the answer. -/
namespace Kerb
open Go Go.Abs
set_option linter.unusedVariables false
namespace KAsk
end KAsk
end Kerb
namespace Kerb
open Go Go.Abs
structure Bound (a:KAsk) (d:Db) (ad se:Int) (o:KaOut) (R:KaReply) (Y:KaAnswer) (k:Int):Prop where
 dec:decodeKaReply o.answer=⟨R,0⟩
 len:o.answer.length≤1000000
 code:R.code=0
 opens:(openBox R.box 8 k).2=true
 says:decodeKaAnswer (openBox R.box 8 k).1=⟨Y,0⟩
 ses:Y.session=se
 ises:o.issue.session=se
 sealr:o.issue.sealer=k
 time:Y.time=1000+u8i a.time+1
 start:Y.start=1100
 stop:Y.stop=o.issue.stop
 most:o.issue.stop≤1000+u8i a.time+u8i a.stop*50
 client:o.issue.client=user (u8i a.user % 3)
 kind:(o.issue.kind=3∧k=(entAt d (findEnt d.entries o.issue.client.name o.issue.client.inst).1).key∧0≤(findEnt d.entries o.issue.client.name o.issue.client.inst).1∧(findEnt d.entries o.issue.client.name o.issue.client.inst).1<d.entries.length) ∨
  (o.issue.kind=4∧k=session (u8i a.session % 4)∧o.issue.stop≤1000+u8i a.issued+300*(u8i a.life % 40+1)∧u8i a.address % 2=ad∧o.issue.granter=k)
end Kerb
