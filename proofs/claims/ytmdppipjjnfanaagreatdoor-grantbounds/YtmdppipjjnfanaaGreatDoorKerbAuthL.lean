/- Chapter 17: authentication servers; the data of its statements. -/
import Derived.Test.YtmdppipjjnfanaaGreatDoorKerbSrvB
import Derived.Test.YtmdppipjjnfanaaGreatDoorKerbVerL
namespace Kerb
open Go Go.Abs
set_option linter.unusedVariables false
def sealReply (r:KdcReply) (p:ReplyPart) (k:Int):Enc :=
 if (encodePart p r.little).err≠0 then ⟨[],(encodePart p r.little).err⟩
 else if (makeBox 3 k (encodePart p r.little).val).err≠0 then ⟨[],(makeBox 3 k (encodePart p r.little).val).err⟩
 else encodeReply ⟨r.little,r.client,r.time,r.expires,r.kvno,(makeBox 3 k (encodePart p r.little).val).val⟩
def refuseVer (msg:Bytes) (now:Int) (little:Bool):Bytes :=
 if msg.length=0 then [] else if msg.getD 0 0=4 then [] else if (decodeRequest (msg.set 0 4)).err≠0 then []
 else refuse (decodeRequest (msg.set 0 4)).val.client 4 now little
structure AuthOut where
 answer:Bytes
 issue:Issue
 ok:Bool
def authLife (c:Entry) (v:Svc) (life now:Int):Int×Bool:=grantLife now (imin (imin life c.maxLife) v.life) ([c.expires,v.expires].filter fun n => !(n==0))
def authGive (d:Db) (c:Entry) (v:Svc) (r:KdcRequest) (now address:Int) (little:Bool) (session:Int):AuthOut :=
 if (authLife c v r.life now).2=false then ⟨refuse r.client 3 now little,noIssue,false⟩
 else if classOf session≠2 then ⟨refuse r.client 10 now little,noIssue,false⟩
 else if (grant d.realm r.client ⟨r.service,r.inst,d.realm⟩ address little now (authLife c v r.life now).1 session c.key v.key v.kvno).err≠0 then ⟨[],noIssue,false⟩
 else if (sealReply ⟨little,r.client,r.time,c.expires,c.kvno,[]⟩ (grant d.realm r.client ⟨r.service,r.inst,d.realm⟩ address little now (authLife c v r.life now).1 session c.key v.key v.kvno).part c.key).err≠0 then ⟨[],noIssue,false⟩
 else ⟨(sealReply ⟨little,r.client,r.time,c.expires,c.kvno,[]⟩ (grant d.realm r.client ⟨r.service,r.inst,d.realm⟩ address little now (authLife c v r.life now).1 session c.key v.key v.kvno).part c.key).val,
  { (grant d.realm r.client ⟨r.service,r.inst,d.realm⟩ address little now (authLife c v r.life now).1 session c.key v.key v.kvno).issue with kind:=1 },true⟩
def authAsk (d:Db) (cross:List Cross) (now address:Int) (little:Bool) (session:Int) (r:KdcRequest):AuthOut :=
 if r.client.realm≠d.realm then ⟨refuse r.client 8 now little,noIssue,false⟩
 else if (clientEnt d r.client.name r.client.inst now).2≠0 then ⟨refuse r.client (clientEnt d r.client.name r.client.inst now).2 now little,noIssue,false⟩
 else if (svc d cross r.service r.inst now).err≠0 then ⟨refuse r.client (svc d cross r.service r.inst now).err now little,noIssue,false⟩
 else authGive d (entAt d (clientEnt d r.client.name r.client.inst now).1) (svc d cross r.service r.inst now) r now address little session
def authAnswer (d:Db) (cross:List Cross) (now address:Int) (little:Bool) (session:Int) (msg:Bytes):AuthOut :=
 if !(within now 4294967295&&within address 4294967295) then ⟨[],noIssue,false⟩
 else if (decodeRequest msg).err≠0 then ⟨refuseVer msg now little,noIssue,false⟩
 else authAsk d cross now address little session (decodeRequest msg).val
def cr1 (l:Bytes) (p:Int):Int:=nextPos l p 3
def cr2 (l:Bytes) (p:Int):Int:=nextPos l (cr1 l p) 3
def cr3 (l:Bytes) (p:Int):Int:=nextPos l (cr2 l p) 4
def cr4 (l:Bytes) (p:Int):Int:=nextPos l (cr3 l p) 9
def dataCr (l:Bytes) (p:Int):Cross:=⟨realm (next l p 3),realm (next l (cr1 l p) 3),next l (cr2 l p) 4,long (100+next l (cr3 l p) 9)⟩
def crossLoop (l:Bytes):Nat→Int→List Cross→List Cross
 | 0,_,acc=>acc
 | f+1,p,acc=>if p<l.length∧acc.length<25 then crossLoop l f (cr4 l p) (acc++[dataCr l p]) else acc
def dataCross (l:Bytes):List Cross:=crossLoop l (l.length+1) 0 []
def Cross.alike (x y:Cross):Bool:=y.source==x.source&&(y.target==x.target&&y.kvno==x.kvno)
def crossStep (out:List Cross) (x:Cross):List Cross:=if 20≤out.length∨x.source=x.target∨out.any x.alike=true then out else out++[x]
def goodCross (l:Bytes):List Cross:=(dataCross l).foldl crossStep []
def Cross.ok (c:Cross):Prop:=c.source.length≤9223372036854775807∧c.target.length≤9223372036854775807∧isI64 c.kvno=true∧isU64 c.key=true
theorem isCross_of {c:Cross} (h:c.ok):isCross c.av=true:=by
 obtain ⟨h1,h2,h3,h4⟩:=h
 simp [isCross,Cross.av,h1,h2,h3,h4]
theorem cross_all {cs:List Cross} (h:∀ c∈cs,c.ok):(cs.map Cross.av).all isCross=true:=all_rows (fun _ h=>isCross_of h) h
theorem cross_okof {els:List AV} (h:els.all isCross=true):∃ cs:List Cross,els=cs.map Cross.av∧∀ c∈cs,c.ok:=rows_of (fun a ha=>by
 refine ⟨toCross a,(isCross_inv ha).symm,?_⟩
 unfold isCross at ha
 split at ha
 ·simp only [Bool.and_eq_true,decide_eq_true_eq] at ha
  exact ⟨ha.1.1.1,ha.1.1.2,ha.1.2,ha.2⟩
 ·cases ha) h
theorem crossStep_full {out:List Cross} (h:20≤out.length):∀ l:List Cross,l.foldl crossStep out=out
 | []=>rfl
 | x::r=>by
  have:crossStep out x=out:=by unfold crossStep;rw [if_pos (.inl h)]
  rw [List.foldl_cons,this]
  exact crossStep_full h r
theorem cr4_gt {l:Bytes} {p:Int} (h:0≤p) (hp:p<l.length):p<cr4 l p:=by
 have h1:cr1 l p=p+1:=nextPos_step h hp (by decide)
 have h2:cr1 l p≤cr2 l p:=nextPos_ge _ _ _
 have h3:cr2 l p≤cr3 l p:=nextPos_ge _ _ _
 have h4:cr3 l p≤cr4 l p:=nextPos_ge _ _ _
 omega
theorem realm_lenB (n:Int):(realm n).length≤9223372036854775807:=by rw [realm_len];omega
theorem dataCr_ok (l:Bytes) (p:Int):(dataCr l p).ok:=by
 have h2:=next_bd l (cr2 l p) 4
 exact ⟨realm_lenB _,realm_lenB _,isI64_iff.2 (by dsimp only [dataCr];omega),isU64_iff.2 (long_bd _)⟩
theorem crossLoop_ok (l:Bytes):∀ (f:Nat) (p:Int) (acc:List Cross),acc.length≤25→(∀ x∈acc,x.ok)→(crossLoop l f p acc).length≤25∧∀ x∈crossLoop l f p acc,x.ok
 | 0,p,acc,h,g=>⟨h,g⟩
 | f+1,p,acc,h,g=>by
  unfold crossLoop
  split
  ·refine crossLoop_ok l f _ _ (by simp;omega) fun x hx=> ?_
   rcases List.mem_append.1 hx with hx | hx
   ·exact g x hx
   ·rw [List.mem_singleton.1 hx];exact dataCr_ok l p
  ·exact ⟨h,g⟩
theorem dataCross_ok (l:Bytes):(dataCross l).length≤25∧∀ x∈dataCross l,x.ok:=crossLoop_ok l _ _ _ (by simp) (by simp)
theorem crossStep_keep {out:List Cross} {x:Cross} (h:out.length≤20∧∀ y∈out,y.ok) (hx:x.ok):(crossStep out x).length≤20∧∀ y∈crossStep out x,y.ok:=by
 unfold crossStep
 split
 ·exact h
 ·rename_i q
  refine ⟨by simp;omega,fun y hy=> ?_⟩
  rcases List.mem_append.1 hy with hy | hy
  ·exact h.2 y hy
  ·rw [List.mem_singleton.1 hy];exact hx
theorem goodCross_ok (l:Bytes):(goodCross l).length≤20∧∀ x∈goodCross l,x.ok:=by
 have:∀ (a out:List Cross),(∀ x∈a,x.ok)→(out.length≤20∧∀ y∈out,y.ok)→((a.foldl crossStep out).length≤20∧∀ y∈a.foldl crossStep out,y.ok):=fun a=>by
  induction a with
  | nil=>exact fun out _ h=>h
  | cons y r ih=>exact fun out ha h=>ih _ (fun x hx=>ha x (List.mem_cons_of_mem _ hx)) (crossStep_keep h (ha y (List.mem_cons_self ..)))
 exact this _ [] (dataCross_ok l).2 ⟨by simp,by simp⟩
structure AAsk where
 client:UInt8
 service:UInt8
 peer:UInt8
 time:UInt8
 life:UInt8
 cross:UInt8
 little:Bool
 how:Int
def AAsk.want (a:AAsk):Prin:=if a.service.toNat % 5=4 then tgs (realm 0) (realm (u8i a.peer)) else Kerb.service (u8i a.service % 3)
def AAsk.base (a:AAsk):Bytes:=(encodeRequest ⟨a.little,user (u8i a.client % 5),u8i a.time,u8i a.life,a.want.name,a.want.inst⟩).val
def AAsk.msg (a:AAsk):Bytes :=
 if a.how % 8=7 then spoil a.base (a.how / 8)
 else if a.how % 8=6∧0<a.base.length then a.base.set 0 (UInt8.ofNat (Int.toNat (IntKind.wrap .u8 (a.how / 8)))) else a.base
theorem svc_okX {d:Db} {cs:List Cross} {n i:Bytes} {now:Int} (hd:∀ e∈d.entries,e.ok) (hc:∀ c∈cs,c.ok):isU64 (svc d cs n i now).key=true∧isI64 (svc d cs n i now).kvno=true∧isI64 (svc d cs n i now).life=true∧isI64 (svc d cs n i now).expires=true:=by
 unfold svc
 split
 ·split
  ·rename_i h
   have hl:=findCross_lt h
   have:=hc _ (mem_row (d:=noCross) hl.2)
   exact ⟨this.2.2.2,this.2.2.1,rfl,rfl⟩
  ·exact ⟨rfl,rfl,rfl,rfl⟩
 ·split
  ·exact ⟨rfl,rfl,rfl,rfl⟩
  ·rename_i h
   have h:(serviceEnt d n i now).2=0:=by simpa using h
   have hl:=serv_lt h
   have:=hd _ (mem_row (d:=noEntry) hl.2)
   exact ⟨this.2.2.1,this.2.2.2.1,this.2.2.2.2.2.1,this.2.2.2.2.1⟩
theorem grant_part {realm:Bytes} {client service:Prin} {address:Int} {little:Bool} {now life session sealer target kvno:Int} (h1:service.name.length≤9223372036854775807) (h2:service.inst.length≤9223372036854775807) (h3:service.realm.length≤9223372036854775807) (hs:isU64 session=true) :
  (grant realm client service address little now life session sealer target kvno).part.service.name.length≤9223372036854775807∧(grant realm client service address little now life session sealer target kvno).part.service.inst.length≤9223372036854775807∧(grant realm client service address little now life session sealer target kvno).part.service.realm.length≤9223372036854775807∧isU64 (grant realm client service address little now life session sealer target kvno).part.session=true:=by
 have h0:noPart.service.name.length≤9223372036854775807∧noPart.service.inst.length≤9223372036854775807∧noPart.service.realm.length≤9223372036854775807∧isU64 noPart.session=true:=by
  refine ⟨?_,?_,?_,rfl⟩<;>simp [noPart,noPrin]
 unfold grant
 split
 ·exact h0
 split
 ·exact h0
 ·exact ⟨h1,h2,h3,hs⟩
theorem encError_no {r:ErrorReply} (h:(encodeError r).err≠0):(encodeError r).val=[]:=by
 unfold encodeError at h ⊢
 split
 ·rfl
 rename_i h1
 rw [if_neg h1] at h
 split
 ·rfl
 rename_i h2
 rw [if_neg h2] at h
 split
 ·rfl
 rename_i h3
 rw [if_neg h3] at h
 split
 ·rfl
 rename_i h4
 rw [if_neg h4] at h
 exact absurd rfl h
end Kerb
/- The statements of chapter 17, plain. -/
namespace Kerb
open Go Go.Abs
set_option linter.unusedVariables false
structure Issued (d:Db) (cross:List Cross) (now address:Int) (little:Bool) (se:Int) (msg:Bytes) (A:AuthOut) (r:KdcRequest) (i:Int) (L:Int):Prop where
 now_:within now 4294967295=true
 adr:within address 4294967295=true
 req:decodeRequest msg=⟨r,0⟩
 realm:r.client.realm=d.realm
 client:clientEnt d r.client.name r.client.inst now=(i,0)
 svc_:(svc d cross r.service r.inst now).err=0
 life:authLife (entAt d i) (svc d cross r.service r.inst now) r.life now=(L,true)
 class_:classOf se=2
 gr:(grant d.realm r.client ⟨r.service,r.inst,d.realm⟩ address little now L se (entAt d i).key (svc d cross r.service r.inst now).key (svc d cross r.service r.inst now).kvno).err=0
 sl:(sealReply ⟨little,r.client,r.time,(entAt d i).expires,(entAt d i).kvno,[]⟩ (grant d.realm r.client ⟨r.service,r.inst,d.realm⟩ address little now L se (entAt d i).key (svc d cross r.service r.inst now).key (svc d cross r.service r.inst now).kvno).part (entAt d i).key).err=0
 is:A=⟨(sealReply ⟨little,r.client,r.time,(entAt d i).expires,(entAt d i).kvno,[]⟩ (grant d.realm r.client ⟨r.service,r.inst,d.realm⟩ address little now L se (entAt d i).key (svc d cross r.service r.inst now).key (svc d cross r.service r.inst now).kvno).part (entAt d i).key).val,
  { (grant d.realm r.client ⟨r.service,r.inst,d.realm⟩ address little now L se (entAt d i).key (svc d cross r.service r.inst now).key (svc d cross r.service r.inst now).kvno).issue with kind:=1 },true⟩
theorem issued {d:Db} {cross:List Cross} {now address:Int} {little:Bool} {se:Int} {msg:Bytes} (h:(authAnswer d cross now address little se msg).ok=true):∃ r i L,Issued d cross now address little se msg (authAnswer d cross now address little se msg) r i L:=by
 obtain ⟨A,hA⟩:∃ A,authAnswer d cross now address little se msg=A:=⟨_,rfl⟩
 rw [hA] at h ⊢
 unfold authAnswer at hA
 by_cases h1:(within now 4294967295&&within address 4294967295)=true
 case neg=>rw [if_pos (by simp only [Bool.not_eq_true] at h1;rw [h1];rfl)] at hA;subst hA;cases h
 rw [if_neg (by rw [h1];simp)] at hA
 by_cases h2:(decodeRequest msg).err=0
 case neg=>rw [if_pos h2] at hA;subst hA;cases h
 rw [if_neg (by simpa using h2)] at hA
 obtain ⟨r,hr⟩:∃ r,(decodeRequest msg).val=r:=⟨_,rfl⟩
 have hreq:decodeRequest msg=⟨r,0⟩:=by cases hd:decodeRequest msg;rw [hd] at h2 hr;simp at h2 hr;rw [h2,hr]
 rw [hr] at hA
 unfold authAsk at hA
 by_cases h3:r.client.realm=d.realm
 case neg=>rw [if_pos h3] at hA;subst hA;cases h
 rw [if_neg (by simpa using h3)] at hA
 obtain ⟨⟨i,e⟩,hi⟩:∃ i,clientEnt d r.client.name r.client.inst now=i:=⟨_,rfl⟩
 rw [hi] at hA
 dsimp only at hA
 by_cases h4:e=0
 case neg=>rw [if_pos h4] at hA;subst hA;cases h
 subst h4
 rw [if_neg (by simp)] at hA
 by_cases h5:(svc d cross r.service r.inst now).err=0
 case neg=>rw [if_pos h5] at hA;subst hA;cases h
 rw [if_neg (by simpa using h5)] at hA
 unfold authGive at hA
 obtain ⟨⟨L,q⟩,hL⟩:∃ L,authLife (entAt d i) (svc d cross r.service r.inst now) r.life now=L:=⟨_,rfl⟩
 rw [hL] at hA
 dsimp only at hA
 cases q
 ·rw [if_pos rfl] at hA;subst hA;cases h
 rw [if_neg (by simp)] at hA
 by_cases h6:classOf se=2
 case neg=>rw [if_pos h6] at hA;subst hA;cases h
 rw [if_neg (by simpa using h6)] at hA
 by_cases h7:(grant d.realm r.client ⟨r.service,r.inst,d.realm⟩ address little now L se (entAt d i).key (svc d cross r.service r.inst now).key (svc d cross r.service r.inst now).kvno).err=0
 case neg=>rw [if_pos h7] at hA;subst hA;cases h
 rw [if_neg (by simpa using h7)] at hA
 by_cases h8:(sealReply ⟨little,r.client,r.time,(entAt d i).expires,(entAt d i).kvno,[]⟩ (grant d.realm r.client ⟨r.service,r.inst,d.realm⟩ address little now L se (entAt d i).key (svc d cross r.service r.inst now).key (svc d cross r.service r.inst now).kvno).part (entAt d i).key).err=0
 case neg=>rw [if_pos h8] at hA;subst hA;cases h
 rw [if_neg (by simpa using h8)] at hA
 rw [Bool.and_eq_true] at h1
 exact ⟨r,i,L,h1.1,h1.2,hreq,h3,hi,h5,hL,h6,h7,h8,hA.symm⟩
theorem grant_inv {realm:Bytes} {client service:Prin} {address:Int} {little:Bool} {now life session sealer target kvno:Int} (h:(grant realm client service address little now life session sealer target kvno).err=0) :
  (sealTicket (grantTkt little client service address now life session) target).err=0∧(encodePart ⟨session,service,life,kvno,(sealTicket (grantTkt little client service address now life session) target).val,now⟩ little).err=0 ∧
  grant realm client service address little now life session sealer target kvno=⟨⟨0,tgs realm realm,client,service,session,sealer,0,(sealTicket (grantTkt little client service address now life session) target).val,now,tEnd now life⟩,⟨session,service,life,kvno,(sealTicket (grantTkt little client service address now life session) target).val,now⟩,0⟩:=by
 unfold grant at h ⊢
 split
 ·rename_i h1
  rw [if_pos h1] at h
  exact absurd h h1
 rename_i h1
 rw [if_neg h1] at h
 split
 ·rename_i h2
  rw [if_pos h2] at h
  exact absurd h h2
 ·rename_i h2
  exact ⟨by simpa using h1,by simpa using h2,rfl⟩
theorem seal_inv {t:Ticket} {k:Int} (h:(sealTicket t k).err=0):(encodeTicket t).err=0∧(makeBox 1 k (encodeTicket t).val).err=0∧sealTicket t k=makeBox 1 k (encodeTicket t).val:=by
 unfold sealTicket at h ⊢
 by_cases he:(encodeTicket t).err=0
 ·rw [if_neg (by simpa using he)] at h ⊢
  exact ⟨he,h,rfl⟩
 ·rw [if_pos he] at h;exact absurd h he
theorem sealReply_inv {r:KdcReply} {p:ReplyPart} {k:Int} (h:(sealReply r p k).err=0):(encodePart p r.little).err=0∧(makeBox 3 k (encodePart p r.little).val).err=0∧(encodeReply ⟨r.little,r.client,r.time,r.expires,r.kvno,(makeBox 3 k (encodePart p r.little).val).val⟩).err=0 ∧
  sealReply r p k=encodeReply ⟨r.little,r.client,r.time,r.expires,r.kvno,(makeBox 3 k (encodePart p r.little).val).val⟩:=by
 unfold sealReply at h ⊢
 by_cases h1:(encodePart p r.little).err=0
 case neg=>rw [if_pos h1] at h;exact absurd h h1
 rw [if_neg (by simpa using h1)] at h ⊢
 by_cases h2:(makeBox 3 k (encodePart p r.little).val).err=0
 case neg=>rw [if_pos h2] at h;exact absurd h h2
 rw [if_neg (by simpa using h2)] at h ⊢
 exact ⟨h1,h2,h,rfl⟩
theorem encReply_len (r:KdcReply):(encodeReply r).val.length≤2000:=by
 unfold encodeReply
 split
 ·simp
 rename_i h1
 split
 ·simp
 split
 ·simp
 ·have hv:r.client.valid=true:=by simpa using h1
  have hv:=valid_len hv
  have hh:=header_len 2 r.little
  simp only [List.length_append,putPrin_len,putN_len]
  omega
theorem grantLife_want {now w:Int} {l:List Int} {L:Int} (h:grantLife now w l=(L,true)):L≤w∧0≤L∧L≤255:=by
 unfold grantLife at h
 split at h
 ·cases h
 split at h
 ·cases h
 rename_i h1 h2
 have h3:=least_le l (now+300*(imin w 255+1))
 have h4:=imin_le w 255
 have h5:=imin_le ((least (now+300*(imin w 255+1)) l-now) / 300-1) 255
 have h6:=congrArg Prod.fst h
 dsimp only at h6
 refine ⟨by omega,?_,by omega⟩
 rw [← h6]
 have hi:∀ a b:Int,0≤a→0≤b→0≤imin a b:=by
  intro a b ha hb
  unfold imin
  split<;>omega
 exact hi _ _ (by omega) (by omega)
structure Seen17 (d:Db) (now ad se:Int) (A:AuthOut) (r:KdcRequest) (i j:Int) (Y:KdcReply) (body:Bytes) (P:ReplyPart) (T:Ticket):Prop where
 f1:findEnt d.entries r.client.name r.client.inst=(i,0)
 f2:findEnt d.entries r.service r.inst=(j,0)
 i0:0≤i∧i.toNat<d.entries.length
 j0:0≤j∧j.toNat<d.entries.length
 reply:decodeReply A.answer=⟨Y,0⟩
 client:Y.client=r.client
 time:Y.time=r.time
 box:openBox Y.sealed 3 (entAt d i).key=(body,true)
 part:decodePart body Y.little=⟨P,0⟩
 tkt:openTicket P.ticket (entAt d j).key=⟨T,0⟩
 text:P.ticket=A.issue.text
 t1:T.client=r.client
 t2:T.session=se
 t3:P.session=se
 t4:A.issue.session=se
 t5:T.address=ad
 t6:T.service=r.service
 t7:T.inst=r.inst
 t8:T.issued=now
 t9:A.issue.sealer=(entAt d i).key
 e1:(0<(entAt d i).expires→A.issue.stop≤(entAt d i).expires)∧T.life≤(entAt d i).maxLife
 e2:(0<(entAt d j).expires→A.issue.stop≤(entAt d j).expires)∧T.life≤(entAt d j).maxLife
 e3:T.life≤r.life
 e4:A.issue.stop=now+300*(T.life+1)
 e5:0≤T.life∧T.life≤255
 lens:A.answer.length≤140737488355328∧Y.sealed.length≤140737488355328∧body.length≤140737488355328∧P.ticket.length≤140737488355328
end Kerb
