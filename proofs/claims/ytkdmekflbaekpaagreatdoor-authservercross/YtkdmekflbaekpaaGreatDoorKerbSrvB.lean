/- Chapter 23, plain: when a ticket is given; what the data of the statements says. -/
import Derived.Test.YtkdmekflbaekpaaGreatDoorKerbSrvL
import Derived.Test.YtkdmekflbaekpaaGreatDoorKerbCli7
import Derived.KernelRfl
namespace Kerb
open Go Go.Abs
set_option linter.unusedVariables false
theorem ticket_ok {t:Ticket} (h1:t.client.valid=true) (h2:validName t.service=true) (h3:validInst t.inst=true) (h4:classOf t.session=2) (h5:within t.address 4294967295=true) (h6:within t.life 255=true) (h7:within t.issued 4294967295=true):(encodeTicket t).err=0:=by
 have he:t.err=0:=by
  unfold Ticket.err
  rw [if_neg (by simp [h1,h2,h3]),if_neg (by simp [h4]),if_neg (by simp [h5,h6,h7])]
 unfold encodeTicket
 rw [if_neg (by simp [he])]
theorem seal_ok {t:Ticket} {k:Int} (h:(encodeTicket t).err=0) (hk:keyValid k=true):(sealTicket t k).err=0:=by
 unfold sealTicket
 rw [if_neg (by simp [h])]
 have:=encTicket_len t
 exact (makeBox_ok rfl hk (by omega)).1
theorem part_ok {p:ReplyPart} {l:Bool} (h1:keyValid p.session=true) (h2:p.service.valid=true) (h3:within p.life 255=true) (h4:within p.kvno 255=true) (h5:within p.time 4294967295=true) (h6:p.ticket.length≤255):(encodePart p l).err=0:=by
 unfold encodePart
 rw [if_neg (by simp [h1]),if_neg (by simp [h2]),if_neg (by simp [h3,h4,h5]),if_neg (by omega)]
theorem class_valid {k:Int} (h:classOf k=2):keyValid k=true:=by
 unfold classOf at h
 cases hk:keyValid k
 ·rw [hk] at h;cases h
 ·rfl
def lockDb (life:UInt8) (u k v f t:Int):Db:=setEnt (simpleDb life 0 255) u ⟨(user u).name,[],k,v,0,u8i life,0,f,t⟩
theorem lock_find {life:UInt8} {u k v f t:Int} (hu:u=0∨u=1∨u=2):findEnt (lockDb life u k v f t).entries (user u).name (user u).inst=(u,0):=by
 rcases hu with rfl | rfl | rfl<;>rfl
theorem lock_at {life:UInt8} {u k v f t:Int} (hu:u=0∨u=1∨u=2):entAt (lockDb life u k v f t) u=⟨(user u).name,[],k,v,0,u8i life,0,f,t⟩:=by
 rcases hu with rfl | rfl | rfl<;>rfl
theorem lock_client {life:UInt8} {u k v f t:Int} (hu:u=0∨u=1∨u=2) (hk:keyValid k=true) (now:Int):clientEnt (lockDb life u k v f t) (user u).name (user u).inst now=(u,0):=by
 have ha:=lock_at (life:=life) (k:=k) (v:=v) (f:=f) (t:=t) hu
 unfold entAt at ha
 unfold clientEnt useEnt
 rw [lock_find hu]
 dsimp only
 rw [ha]
 dsimp only
 rw [if_neg (by simp),if_neg (by simp [hk]),if_neg (by simp),if_neg (by decide)]
theorem simple_lock (life:UInt8) {u:Int} (hu:u=0∨u=1∨u=2):simpleDb life 0 255=lockDb life u (long u) (3+u) 0 0:=by
 rcases hu with rfl | rfl | rfl<;>rfl
end Kerb
/- Chapter 23, plain: how long a ticket lasts, and who can open the answer. -/
namespace Kerb
open Go Go.Abs
set_option linter.unusedVariables false
namespace KAsk
end KAsk
end Kerb
namespace Kerb
open Go Go.Abs
structure Bound (a:KAsk) (d:Db) (ad se:Int) (o:KaOut) (R:KaReply) (Y:KaAnswer) (k:Int):Prop where
 dec:decodeKaReply o.answer=⟨R,0⟩
 len:o.answer.length≤1000000
 code:R.code=0
 opens:(openBox R.box 8 k).2=true
 says:decodeKaAnswer (openBox R.box 8 k).1=⟨Y,0⟩
 ses:Y.session=se
 ises:o.issue.session=se
 sealr:o.issue.sealer=k
 time:Y.time=1000+u8i a.time+1
 start:Y.start=1100
 stop:Y.stop=o.issue.stop
 most:o.issue.stop≤1000+u8i a.time+u8i a.stop*50
 client:o.issue.client=user (u8i a.user % 3)
 kind:(o.issue.kind=3∧k=(entAt d (findEnt d.entries o.issue.client.name o.issue.client.inst).1).key∧0≤(findEnt d.entries o.issue.client.name o.issue.client.inst).1∧(findEnt d.entries o.issue.client.name o.issue.client.inst).1<d.entries.length) ∨
  (o.issue.kind=4∧k=session (u8i a.session % 4)∧o.issue.stop≤1000+u8i a.issued+300*(u8i a.life % 40+1)∧u8i a.address % 2=ad∧o.issue.granter=k)
end Kerb
