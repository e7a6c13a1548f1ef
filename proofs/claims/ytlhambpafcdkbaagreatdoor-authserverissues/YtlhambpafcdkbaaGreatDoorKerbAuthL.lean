/- Chapter 17: authentication servers; the data of its statements. -/
import Derived.Test.YtlhambpafcdkbaaGreatDoorKerbSrvB
import Derived.Test.YtlhambpafcdkbaaGreatDoorKerbVerL
namespace Kerb
open Go Go.Abs
set_option linter.unusedVariables false
def sealReply (r:KdcReply) (p:ReplyPart) (k:Int):Enc :=
 if (encodePart p r.little).err≠0 then ⟨[],(encodePart p r.little).err⟩
 else if (makeBox 3 k (encodePart p r.little).val).err≠0 then ⟨[],(makeBox 3 k (encodePart p r.little).val).err⟩
 else encodeReply ⟨r.little,r.client,r.time,r.expires,r.kvno,(makeBox 3 k (encodePart p r.little).val).val⟩
def refuseVer (msg:Bytes) (now:Int) (little:Bool):Bytes :=
 if msg.length=0 then [] else if msg.getD 0 0=4 then [] else if (decodeRequest (msg.set 0 4)).err≠0 then []
 else refuse (decodeRequest (msg.set 0 4)).val.client 4 now little
structure AuthOut where
 answer:Bytes
 issue:Issue
 ok:Bool
def authLife (c:Entry) (v:Svc) (life now:Int):Int×Bool:=grantLife now (imin (imin life c.maxLife) v.life) ([c.expires,v.expires].filter fun n => !(n==0))
def authGive (d:Db) (c:Entry) (v:Svc) (r:KdcRequest) (now address:Int) (little:Bool) (session:Int):AuthOut :=
 if (authLife c v r.life now).2=false then ⟨refuse r.client 3 now little,noIssue,false⟩
 else if classOf session≠2 then ⟨refuse r.client 10 now little,noIssue,false⟩
 else if (grant d.realm r.client ⟨r.service,r.inst,d.realm⟩ address little now (authLife c v r.life now).1 session c.key v.key v.kvno).err≠0 then ⟨[],noIssue,false⟩
 else if (sealReply ⟨little,r.client,r.time,c.expires,c.kvno,[]⟩ (grant d.realm r.client ⟨r.service,r.inst,d.realm⟩ address little now (authLife c v r.life now).1 session c.key v.key v.kvno).part c.key).err≠0 then ⟨[],noIssue,false⟩
 else ⟨(sealReply ⟨little,r.client,r.time,c.expires,c.kvno,[]⟩ (grant d.realm r.client ⟨r.service,r.inst,d.realm⟩ address little now (authLife c v r.life now).1 session c.key v.key v.kvno).part c.key).val,
  { (grant d.realm r.client ⟨r.service,r.inst,d.realm⟩ address little now (authLife c v r.life now).1 session c.key v.key v.kvno).issue with kind:=1 },true⟩
def authAsk (d:Db) (cross:List Cross) (now address:Int) (little:Bool) (session:Int) (r:KdcRequest):AuthOut :=
 if r.client.realm≠d.realm then ⟨refuse r.client 8 now little,noIssue,false⟩
 else if (clientEnt d r.client.name r.client.inst now).2≠0 then ⟨refuse r.client (clientEnt d r.client.name r.client.inst now).2 now little,noIssue,false⟩
 else if (svc d cross r.service r.inst now).err≠0 then ⟨refuse r.client (svc d cross r.service r.inst now).err now little,noIssue,false⟩
 else authGive d (entAt d (clientEnt d r.client.name r.client.inst now).1) (svc d cross r.service r.inst now) r now address little session
def authAnswer (d:Db) (cross:List Cross) (now address:Int) (little:Bool) (session:Int) (msg:Bytes):AuthOut :=
 if !(within now 4294967295&&within address 4294967295) then ⟨[],noIssue,false⟩
 else if (decodeRequest msg).err≠0 then ⟨refuseVer msg now little,noIssue,false⟩
 else authAsk d cross now address little session (decodeRequest msg).val
def Cross.ok (c:Cross):Prop:=c.source.length≤9223372036854775807∧c.target.length≤9223372036854775807∧isI64 c.kvno=true∧isU64 c.key=true
theorem cross_okof {els:List AV} (h:els.all isCross=true):∃ cs:List Cross,els=cs.map Cross.av∧∀ c∈cs,c.ok:=rows_of (fun a ha=>by
 refine ⟨toCross a,(isCross_inv ha).symm,?_⟩
 unfold isCross at ha
 split at ha
 ·simp only [Bool.and_eq_true,decide_eq_true_eq] at ha
  exact ⟨ha.1.1.1,ha.1.1.2,ha.1.2,ha.2⟩
 ·cases ha) h
theorem realm_lenB (n:Int):(realm n).length≤9223372036854775807:=by rw [realm_len];omega
structure AAsk where
 client:UInt8
 service:UInt8
 peer:UInt8
 time:UInt8
 life:UInt8
 cross:UInt8
 little:Bool
 how:Int
def AAsk.want (a:AAsk):Prin:=if a.service.toNat % 5=4 then tgs (realm 0) (realm (u8i a.peer)) else Kerb.service (u8i a.service % 3)
def AAsk.base (a:AAsk):Bytes:=(encodeRequest ⟨a.little,user (u8i a.client % 5),u8i a.time,u8i a.life,a.want.name,a.want.inst⟩).val
def AAsk.msg (a:AAsk):Bytes :=
 if a.how % 8=7 then spoil a.base (a.how / 8)
 else if a.how % 8=6∧0<a.base.length then a.base.set 0 (UInt8.ofNat (Int.toNat (IntKind.wrap .u8 (a.how / 8)))) else a.base
theorem svc_okX {d:Db} {cs:List Cross} {n i:Bytes} {now:Int} (hd:∀ e∈d.entries,e.ok) (hc:∀ c∈cs,c.ok):isU64 (svc d cs n i now).key=true∧isI64 (svc d cs n i now).kvno=true∧isI64 (svc d cs n i now).life=true∧isI64 (svc d cs n i now).expires=true:=by
 unfold svc
 split
 ·split
  ·rename_i h
   have hl:=findCross_lt h
   have:=hc _ (mem_row (d:=noCross) hl.2)
   exact ⟨this.2.2.2,this.2.2.1,rfl,rfl⟩
  ·exact ⟨rfl,rfl,rfl,rfl⟩
 ·split
  ·exact ⟨rfl,rfl,rfl,rfl⟩
  ·rename_i h
   have h:(serviceEnt d n i now).2=0:=by simpa using h
   have hl:=serv_lt h
   have:=hd _ (mem_row (d:=noEntry) hl.2)
   exact ⟨this.2.2.1,this.2.2.2.1,this.2.2.2.2.2.1,this.2.2.2.2.1⟩
theorem decReq_len (b:Bytes):((decodeRequest b).val.client.name.length≤9223372036854775807∧(decodeRequest b).val.client.inst.length≤9223372036854775807∧(decodeRequest b).val.client.realm.length≤9223372036854775807)∧(decodeRequest b).val.service.length≤9223372036854775807∧(decodeRequest b).val.inst.length≤9223372036854775807:=by
 have h0:(noReq.client.name.length≤9223372036854775807∧noReq.client.inst.length≤9223372036854775807∧noReq.client.realm.length≤9223372036854775807)∧noReq.service.length≤9223372036854775807∧noReq.inst.length≤9223372036854775807:=by
  simp [noReq,noPrin]
 unfold decodeRequest
 split
 ·exact h0
 split
 ·exact h0
 ·have h1:=prin_len b 2
  have h2:∀ q,(text b q).val.length≤9223372036854775807:=fun q=>by have:=text_len b q;omega
  exact ⟨⟨by dsimp only [readRequest];omega,by dsimp only [readRequest];omega,by dsimp only [readRequest];omega⟩,h2 _,h2 _⟩
theorem grant_part {realm:Bytes} {client service:Prin} {address:Int} {little:Bool} {now life session sealer target kvno:Int} (h1:service.name.length≤9223372036854775807) (h2:service.inst.length≤9223372036854775807) (h3:service.realm.length≤9223372036854775807) (hs:isU64 session=true) :
  (grant realm client service address little now life session sealer target kvno).part.service.name.length≤9223372036854775807∧(grant realm client service address little now life session sealer target kvno).part.service.inst.length≤9223372036854775807∧(grant realm client service address little now life session sealer target kvno).part.service.realm.length≤9223372036854775807∧isU64 (grant realm client service address little now life session sealer target kvno).part.session=true:=by
 have h0:noPart.service.name.length≤9223372036854775807∧noPart.service.inst.length≤9223372036854775807∧noPart.service.realm.length≤9223372036854775807∧isU64 noPart.session=true:=by
  refine ⟨?_,?_,?_,rfl⟩<;>simp [noPart,noPrin]
 unfold grant
 split
 ·exact h0
 split
 ·exact h0
 ·exact ⟨h1,h2,h3,hs⟩
theorem ints_map:∀ l:List Int,allInts (l.map (AV.int .i64))=true∧intsIn (l.map (AV.int .i64))=l
 | []=>⟨rfl,rfl⟩
 | n::r=>by
  obtain ⟨h1,h2⟩:=ints_map r
  exact ⟨by simpa [allInts] using h1,by simp [intsIn,h2]⟩
theorem encError_no {r:ErrorReply} (h:(encodeError r).err≠0):(encodeError r).val=[]:=by
 unfold encodeError at h ⊢
 split
 ·rfl
 rename_i h1
 rw [if_neg h1] at h
 split
 ·rfl
 rename_i h2
 rw [if_neg h2] at h
 split
 ·rfl
 rename_i h3
 rw [if_neg h3] at h
 split
 ·rfl
 rename_i h4
 rw [if_neg h4] at h
 exact absurd rfl h
end Kerb
/- The statements of chapter 17, plain. -/
namespace Kerb
open Go Go.Abs
set_option linter.unusedVariables false
structure Issued (d:Db) (cross:List Cross) (now address:Int) (little:Bool) (se:Int) (msg:Bytes) (A:AuthOut) (r:KdcRequest) (i:Int) (L:Int):Prop where
 now_:within now 4294967295=true
 adr:within address 4294967295=true
 req:decodeRequest msg=⟨r,0⟩
 realm:r.client.realm=d.realm
 client:clientEnt d r.client.name r.client.inst now=(i,0)
 svc_:(svc d cross r.service r.inst now).err=0
 life:authLife (entAt d i) (svc d cross r.service r.inst now) r.life now=(L,true)
 class_:classOf se=2
 gr:(grant d.realm r.client ⟨r.service,r.inst,d.realm⟩ address little now L se (entAt d i).key (svc d cross r.service r.inst now).key (svc d cross r.service r.inst now).kvno).err=0
 sl:(sealReply ⟨little,r.client,r.time,(entAt d i).expires,(entAt d i).kvno,[]⟩ (grant d.realm r.client ⟨r.service,r.inst,d.realm⟩ address little now L se (entAt d i).key (svc d cross r.service r.inst now).key (svc d cross r.service r.inst now).kvno).part (entAt d i).key).err=0
 is:A=⟨(sealReply ⟨little,r.client,r.time,(entAt d i).expires,(entAt d i).kvno,[]⟩ (grant d.realm r.client ⟨r.service,r.inst,d.realm⟩ address little now L se (entAt d i).key (svc d cross r.service r.inst now).key (svc d cross r.service r.inst now).kvno).part (entAt d i).key).val,
  { (grant d.realm r.client ⟨r.service,r.inst,d.realm⟩ address little now L se (entAt d i).key (svc d cross r.service r.inst now).key (svc d cross r.service r.inst now).kvno).issue with kind:=1 },true⟩
theorem issued {d:Db} {cross:List Cross} {now address:Int} {little:Bool} {se:Int} {msg:Bytes} (h:(authAnswer d cross now address little se msg).ok=true):∃ r i L,Issued d cross now address little se msg (authAnswer d cross now address little se msg) r i L:=by
 obtain ⟨A,hA⟩:∃ A,authAnswer d cross now address little se msg=A:=⟨_,rfl⟩
 rw [hA] at h ⊢
 unfold authAnswer at hA
 by_cases h1:(within now 4294967295&&within address 4294967295)=true
 case neg=>rw [if_pos (by simp only [Bool.not_eq_true] at h1;rw [h1];rfl)] at hA;subst hA;cases h
 rw [if_neg (by rw [h1];simp)] at hA
 by_cases h2:(decodeRequest msg).err=0
 case neg=>rw [if_pos h2] at hA;subst hA;cases h
 rw [if_neg (by simpa using h2)] at hA
 obtain ⟨r,hr⟩:∃ r,(decodeRequest msg).val=r:=⟨_,rfl⟩
 have hreq:decodeRequest msg=⟨r,0⟩:=by cases hd:decodeRequest msg;rw [hd] at h2 hr;simp at h2 hr;rw [h2,hr]
 rw [hr] at hA
 unfold authAsk at hA
 by_cases h3:r.client.realm=d.realm
 case neg=>rw [if_pos h3] at hA;subst hA;cases h
 rw [if_neg (by simpa using h3)] at hA
 obtain ⟨⟨i,e⟩,hi⟩:∃ i,clientEnt d r.client.name r.client.inst now=i:=⟨_,rfl⟩
 rw [hi] at hA
 dsimp only at hA
 by_cases h4:e=0
 case neg=>rw [if_pos h4] at hA;subst hA;cases h
 subst h4
 rw [if_neg (by simp)] at hA
 by_cases h5:(svc d cross r.service r.inst now).err=0
 case neg=>rw [if_pos h5] at hA;subst hA;cases h
 rw [if_neg (by simpa using h5)] at hA
 unfold authGive at hA
 obtain ⟨⟨L,q⟩,hL⟩:∃ L,authLife (entAt d i) (svc d cross r.service r.inst now) r.life now=L:=⟨_,rfl⟩
 rw [hL] at hA
 dsimp only at hA
 cases q
 ·rw [if_pos rfl] at hA;subst hA;cases h
 rw [if_neg (by simp)] at hA
 by_cases h6:classOf se=2
 case neg=>rw [if_pos h6] at hA;subst hA;cases h
 rw [if_neg (by simpa using h6)] at hA
 by_cases h7:(grant d.realm r.client ⟨r.service,r.inst,d.realm⟩ address little now L se (entAt d i).key (svc d cross r.service r.inst now).key (svc d cross r.service r.inst now).kvno).err=0
 case neg=>rw [if_pos h7] at hA;subst hA;cases h
 rw [if_neg (by simpa using h7)] at hA
 by_cases h8:(sealReply ⟨little,r.client,r.time,(entAt d i).expires,(entAt d i).kvno,[]⟩ (grant d.realm r.client ⟨r.service,r.inst,d.realm⟩ address little now L se (entAt d i).key (svc d cross r.service r.inst now).key (svc d cross r.service r.inst now).kvno).part (entAt d i).key).err=0
 case neg=>rw [if_pos h8] at hA;subst hA;cases h
 rw [if_neg (by simpa using h8)] at hA
 rw [Bool.and_eq_true] at h1
 exact ⟨r,i,L,h1.1,h1.2,hreq,h3,hi,h5,hL,h6,h7,h8,hA.symm⟩
theorem answer_no {d:Db} {cross:List Cross} {now address:Int} {little:Bool} {se:Int} {msg:Bytes} (h:(authAnswer d cross now address little se msg).ok=false):(authAnswer d cross now address little se msg).issue=noIssue:=by
 unfold authAnswer at h ⊢
 split
 ·rfl
 rename_i h1
 rw [if_neg h1] at h
 split
 ·rfl
 rename_i h2
 rw [if_neg h2] at h
 unfold authAsk at h ⊢
 split
 ·rfl
 rename_i h3
 rw [if_neg h3] at h
 split
 ·rfl
 rename_i h4
 rw [if_neg h4] at h
 split
 ·rfl
 rename_i h5
 rw [if_neg h5] at h
 unfold authGive at h ⊢
 split
 ·rfl
 rename_i h6
 rw [if_neg h6] at h
 split
 ·rfl
 rename_i h7
 rw [if_neg h7] at h
 split
 ·rfl
 rename_i h8
 rw [if_neg h8] at h
 split
 ·rfl
 rename_i h9
 rw [if_neg h9] at h
 cases h
theorem grant_inv {realm:Bytes} {client service:Prin} {address:Int} {little:Bool} {now life session sealer target kvno:Int} (h:(grant realm client service address little now life session sealer target kvno).err=0) :
  (sealTicket (grantTkt little client service address now life session) target).err=0∧(encodePart ⟨session,service,life,kvno,(sealTicket (grantTkt little client service address now life session) target).val,now⟩ little).err=0 ∧
  grant realm client service address little now life session sealer target kvno=⟨⟨0,tgs realm realm,client,service,session,sealer,0,(sealTicket (grantTkt little client service address now life session) target).val,now,tEnd now life⟩,⟨session,service,life,kvno,(sealTicket (grantTkt little client service address now life session) target).val,now⟩,0⟩:=by
 unfold grant at h ⊢
 split
 ·rename_i h1
  rw [if_pos h1] at h
  exact absurd h h1
 rename_i h1
 rw [if_neg h1] at h
 split
 ·rename_i h2
  rw [if_pos h2] at h
  exact absurd h h2
 ·rename_i h2
  exact ⟨by simpa using h1,by simpa using h2,rfl⟩
theorem seal_inv {t:Ticket} {k:Int} (h:(sealTicket t k).err=0):(encodeTicket t).err=0∧(makeBox 1 k (encodeTicket t).val).err=0∧sealTicket t k=makeBox 1 k (encodeTicket t).val:=by
 unfold sealTicket at h ⊢
 by_cases he:(encodeTicket t).err=0
 ·rw [if_neg (by simpa using he)] at h ⊢
  exact ⟨he,h,rfl⟩
 ·rw [if_pos he] at h;exact absurd h he
theorem openTicket_seal {t:Ticket} {k:Int} (ht:0≤t.session∧t.session<18446744073709551616) (hk:0≤k∧k<18446744073709551616) (h:(sealTicket t k).err=0):openTicket (sealTicket t k).val k=⟨t,0⟩:=by
 obtain ⟨h1,h2,h3⟩:=seal_inv h
 unfold openTicket
 rw [h3,openBox_back hk.1 hk.2 h2,if_pos rfl]
 exact ticket_dec ht.1 ht.2 h1
theorem sealReply_inv {r:KdcReply} {p:ReplyPart} {k:Int} (h:(sealReply r p k).err=0):(encodePart p r.little).err=0∧(makeBox 3 k (encodePart p r.little).val).err=0∧(encodeReply ⟨r.little,r.client,r.time,r.expires,r.kvno,(makeBox 3 k (encodePart p r.little).val).val⟩).err=0 ∧
  sealReply r p k=encodeReply ⟨r.little,r.client,r.time,r.expires,r.kvno,(makeBox 3 k (encodePart p r.little).val).val⟩:=by
 unfold sealReply at h ⊢
 by_cases h1:(encodePart p r.little).err=0
 case neg=>rw [if_pos h1] at h;exact absurd h h1
 rw [if_neg (by simpa using h1)] at h ⊢
 by_cases h2:(makeBox 3 k (encodePart p r.little).val).err=0
 case neg=>rw [if_pos h2] at h;exact absurd h h2
 rw [if_neg (by simpa using h2)] at h ⊢
 exact ⟨h1,h2,h,rfl⟩
theorem encReply_len (r:KdcReply):(encodeReply r).val.length≤2000:=by
 unfold encodeReply
 split
 ·simp
 rename_i h1
 split
 ·simp
 split
 ·simp
 ·have hv:r.client.valid=true:=by simpa using h1
  have hv:=valid_len hv
  have hh:=header_len 2 r.little
  simp only [List.length_append,putPrin_len,putN_len]
  omega
theorem grantLife_want {now w:Int} {l:List Int} {L:Int} (h:grantLife now w l=(L,true)):L≤w∧0≤L∧L≤255:=by
 unfold grantLife at h
 split at h
 ·cases h
 split at h
 ·cases h
 rename_i h1 h2
 have h3:=least_le l (now+300*(imin w 255+1))
 have h4:=imin_le w 255
 have h5:=imin_le ((least (now+300*(imin w 255+1)) l-now) / 300-1) 255
 have h6:=congrArg Prod.fst h
 dsimp only at h6
 refine ⟨by omega,?_,by omega⟩
 rw [← h6]
 have hi:∀ a b:Int,0≤a→0≤b→0≤imin a b:=by
  intro a b ha hb
  unfold imin
  split<;>omega
 exact hi _ _ (by omega) (by omega)
structure Seen17 (d:Db) (now ad se:Int) (A:AuthOut) (r:KdcRequest) (i j:Int) (Y:KdcReply) (body:Bytes) (P:ReplyPart) (T:Ticket):Prop where
 f1:findEnt d.entries r.client.name r.client.inst=(i,0)
 f2:findEnt d.entries r.service r.inst=(j,0)
 i0:0≤i∧i.toNat<d.entries.length
 j0:0≤j∧j.toNat<d.entries.length
 reply:decodeReply A.answer=⟨Y,0⟩
 client:Y.client=r.client
 time:Y.time=r.time
 box:openBox Y.sealed 3 (entAt d i).key=(body,true)
 part:decodePart body Y.little=⟨P,0⟩
 tkt:openTicket P.ticket (entAt d j).key=⟨T,0⟩
 text:P.ticket=A.issue.text
 t1:T.client=r.client
 t2:T.session=se
 t3:P.session=se
 t4:A.issue.session=se
 t5:T.address=ad
 t6:T.service=r.service
 t7:T.inst=r.inst
 t8:T.issued=now
 t9:A.issue.sealer=(entAt d i).key
 e1:(0<(entAt d i).expires→A.issue.stop≤(entAt d i).expires)∧T.life≤(entAt d i).maxLife
 e2:(0<(entAt d j).expires→A.issue.stop≤(entAt d j).expires)∧T.life≤(entAt d j).maxLife
 e3:T.life≤r.life
 e4:A.issue.stop=now+300*(T.life+1)
 e5:0≤T.life∧T.life≤255
 lens:A.answer.length≤140737488355328∧Y.sealed.length≤140737488355328∧body.length≤140737488355328∧P.ticket.length≤140737488355328
theorem seen17 {d:Db} {now ad:Int} {little:Bool} {se:Int} {msg:Bytes} {A:AuthOut} {r:KdcRequest} {i L:Int} (h:Issued d [] now ad little se msg A r i L) (hd:d.ok) (hse:0≤se∧se<18446744073709551616):∃ j Y body P T,Seen17 d now ad se A r i j Y body P T:=by
 have hc:(clientEnt d r.client.name r.client.inst now).2=0:=by rw [h.client]
 obtain ⟨c0,c1⟩:=clie_lt hc
 rw [h.client] at c0 c1
 dsimp only at c0 c1
 have fc:=(useEnt_is (d:=d) (n:=r.client.name) (i:=r.client.inst) (now:=now) (bit:=1) (x:=1) (b:=5) (by decide) (by decide) hc)
 have hs:(serviceEnt d r.service r.inst now).2=0∧svc d [] r.service r.inst now=⟨(entAt d (serviceEnt d r.service r.inst now).1).key,(entAt d (serviceEnt d r.service r.inst now).1).kvno,(entAt d (serviceEnt d r.service r.inst now).1).maxLife,(entAt d (serviceEnt d r.service r.inst now).1).expires,0⟩:=by
  have h5:=h.svc_
  unfold svc at h5 ⊢
  split at h5
  ·rw [if_neg (show ¬ (findCross [] d.realm r.inst).2=true by intro h;cases h)] at h5;cases h5
  ·rename_i hq
   rw [if_neg hq]
   by_cases h6:(serviceEnt d r.service r.inst now).2=0
   ·rw [if_neg (by simpa using h6)]
    exact ⟨h6,rfl⟩
   ·rw [if_pos h6] at h5;exact absurd h5 h6
 obtain ⟨s0,hsv⟩:=hs
 obtain ⟨d0,d1⟩:=serv_lt s0
 have fs:=(useEnt_is (d:=d) (n:=r.service) (i:=r.inst) (now:=now) (bit:=2) (x:=2) (b:=6) (by decide) (by decide) s0)
 obtain ⟨j,hj⟩:∃ j,(serviceEnt d r.service r.inst now).1=j:=⟨_,rfl⟩
 rw [hj] at hsv d0 d1
 have hgr:=h.gr
 have hsl:=h.sl
 have his:=h.is
 have hlf:=h.life
 rw [hsv] at hgr hsl his hlf
 dsimp only at hgr hsl his
 obtain ⟨g1,g2,g3⟩:=grant_inv hgr
 rw [g3] at hsl his
 dsimp only at hsl his
 obtain ⟨T,hT⟩:∃ T,grantTkt little r.client ⟨r.service,r.inst,d.realm⟩ ad now L se=T:=⟨_,rfl⟩
 have T1:T.client=r.client:=by rw [← hT];rfl
 have T2:T.session=se:=by rw [← hT];rfl
 have T3:T.address=ad:=by rw [← hT];rfl
 have T4:T.service=r.service:=by rw [← hT];rfl
 have T5:T.inst=r.inst:=by rw [← hT];rfl
 have T6:T.issued=now:=by rw [← hT];rfl
 have T7:T.life=L:=by rw [← hT];rfl
 rw [hT] at g1 g2 hsl his
 have htl:=sealTicket_len T (entAt d j).key
 have hopen:=openTicket_seal (t:=T) (k:=(entAt d j).key) (by rw [T2];exact hse) (isU64_iff.1 ((hd _ (mem_row (d:=noEntry) d1)).2.2.1)) g1
 obtain ⟨X,hX⟩:∃ X,(sealTicket T (entAt d j).key).val=X:=⟨_,rfl⟩
 rw [hX] at g2 hsl his hopen htl
 obtain ⟨P,hP⟩:∃ P,ReplyPart.mk se ⟨r.service,r.inst,d.realm⟩ L (entAt d j).kvno X now=P:=⟨_,rfl⟩
 have P1:P.session=se:=by rw [← hP]
 have P2:P.ticket=X:=by rw [← hP]
 rw [hP] at g2 hsl his
 obtain ⟨r1,r2,r3,r4⟩:=sealReply_inv hsl
 dsimp only at r1 r2 r3 r4
 have hki:0≤(entAt d i).key∧(entAt d i).key<18446744073709551616:=isU64_iff.1 ((hd _ (mem_row (d:=noEntry) c1)).2.2.1)
 have hpl:=encodePart_len P little
 have hpb:=part_back (r:=P) (little:=little) (by rw [P1];exact hse.1) (by rw [P1];exact hse.2) r1
 obtain ⟨B,hB⟩:∃ B,(encodePart P little).val=B:=⟨_,rfl⟩
 rw [hB] at r2 r3 r4 hpl hpb
 have hbl:=makeBox_len 3 (entAt d i).key B
 have hob:=openBox_back hki.1 hki.2 r2
 obtain ⟨Z,hZ⟩:∃ Z,(makeBox 3 (entAt d i).key B).val=Z:=⟨_,rfl⟩
 rw [hZ] at r3 r4 hbl hob
 obtain ⟨Y,hY⟩:∃ Y,KdcReply.mk little r.client r.time (entAt d i).expires (entAt d i).kvno Z=Y:=⟨_,rfl⟩
 have Y1:Y.client=r.client:=by rw [← hY]
 have Y2:Y.time=r.time:=by rw [← hY]
 have Y3:Y.sealed=Z:=by rw [← hY]
 have Y4:Y.little=little:=by rw [← hY]
 rw [hY] at r3 r4
 have hrb:=reply_back r3
 have hA:A.answer=(encodeReply Y).val:=by rw [his];exact congrArg Enc.val r4
 have hrl:=encReply_len Y
 have hw:=grantLife_want hlf
 dsimp only at hw
 have hL2:(grantLife now (imin (imin r.life (entAt d i).maxLife) (entAt d j).maxLife) ([(entAt d i).expires,(entAt d j).expires].filter fun n => !(n==0))).2=true:=congrArg Prod.snd hlf
 have hL1:(grantLife now (imin (imin r.life (entAt d i).maxLife) (entAt d j).maxLife) ([(entAt d i).expires,(entAt d j).expires].filter fun n => !(n==0))).1=L:=congrArg Prod.fst hlf
 have hle:=fun e he=>grantLife_le hL2 (e:=e) he
 rw [hL1] at hle
 have m1:=imin_le (imin r.life (entAt d i).maxLife) (entAt d j).maxLife
 have m2:=imin_le r.life (entAt d i).maxLife
 have hst:A.issue.stop=tEnd now L:=by rw [his]
 have hA1:A.issue.text=X:=by rw [his]
 have hA2:A.issue.session=se:=by rw [his]
 have hA3:A.issue.sealer=(entAt d i).key:=by rw [his]
 have hte:tEnd now L=now+300*(L+1):=by
  unfold tEnd
  rw [if_pos (by rw [h.now_,within_iff.2 ⟨hw.2.1,hw.2.2⟩];rfl)]
 have q1:findEnt d.entries r.client.name r.client.inst=(i,0):=by
  refine Prod.ext ?_ fc.2.1
  rw [← fc.1];exact congrArg Prod.fst h.client
 have q2:findEnt d.entries r.service r.inst=(j,0):=by
  refine Prod.ext ?_ fs.2.1
  rw [← fs.1];exact hj
 refine ⟨j,Y,B,P,T,?_⟩
 constructor
 ·exact q1
 ·exact q2
 ·exact ⟨c0,c1⟩
 ·exact ⟨d0,d1⟩
 ·rw [hA];exact hrb
 ·exact Y1
 ·exact Y2
 ·rw [Y3];exact hob
 ·rw [Y4];exact hpb
 ·rw [P2];exact hopen
 ·rw [P2,hA1]
 ·exact T1
 ·exact T2
 ·exact P1
 ·exact hA2
 ·exact T3
 ·exact T4
 ·exact T5
 ·exact T6
 ·exact hA3
 ·exact ⟨fun hp=>by rw [hst];exact hle _ (List.mem_filter.2 ⟨by simp,by simp;omega⟩),by rw [T7];omega⟩
 ·exact ⟨fun hp=>by rw [hst];exact hle _ (List.mem_filter.2 ⟨by simp,by simp;omega⟩),by rw [T7];omega⟩
 ·rw [T7];omega
 ·rw [hst,hte,T7]
 ·rw [T7];exact hw.2
 ·rw [hA,Y3,P2];omega
end Kerb
