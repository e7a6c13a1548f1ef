/- Chapter 19: ticket-granting servers. -/
import Derived.Test.YtmpklfnpjhdjeaaGreatDoorKerbAuthL
import Derived.Test.YtmpklfnpjhdjeaaGreatDoorKerbVerL
import Derived.Test.YtmpklfnpjhdjeaaGreatDoorKerbVerL
namespace Kerb
open Go Go.Abs
set_option linter.unusedVariables false
def homeKeys (d:Db):List SKey :=
 if (findEnt d.entries krbtgt d.realm).2=0∧keyValid (entAt d (findEnt d.entries krbtgt d.realm).1).key=true then
  [⟨tgs d.realm d.realm,(entAt d (findEnt d.entries krbtgt d.realm).1).kvno,(entAt d (findEnt d.entries krbtgt d.realm).1).key⟩] else []
def crossKey (r:Bytes) (c:Cross):SKey:=⟨tgs c.source r,c.kvno,c.key⟩
def crossKeys (r:Bytes) (l:List Cross):List SKey:=(l.filter fun c=>c.target==r).map (crossKey r)
def grantKeys (d:Db) (cross:List Cross):List SKey:=homeKeys d++crossKeys d.realm cross
theorem homeKeys_len (d:Db):(homeKeys d).length≤1:=by
 unfold homeKeys;split<;>simp
theorem crossKeys_len (r:Bytes) (l:List Cross):(crossKeys r l).length≤l.length:=by
 unfold crossKeys;rw [List.length_map];exact List.length_filter_le _ _
theorem crossKeys_step {r:Bytes} {cs:List Cross} {c:Cross} {i:Nat} (h:i<cs.length) (hc:cs.getD i noCross=c) :
  crossKeys r (cs.take (i+1))=crossKeys r (cs.take i)++(if c.target=r then [crossKey r c] else []):=by
 unfold crossKeys
 rw [take_row (d:=noCross) h,hc,List.filter_append,List.map_append]
 congr 1
 by_cases q:c.target=r<;>simp [q]
theorem tgs_ok {r t:Bytes} (h1:r.length≤9223372036854775807) (h2:t.length≤9223372036854775807):(tgs r t).name.length≤9223372036854775807∧(tgs r t).inst.length≤9223372036854775807∧(tgs r t).realm.length≤9223372036854775807 :=
 ⟨by show ([107,114,98,116,103,116]:Bytes).length≤_;decide,h2,h1⟩
theorem findEnt_lt {l:List Entry} {n i:Bytes} (h:(findEnt l n i).2=0):0≤(findEnt l n i).1∧(findEnt l n i).1.toNat<l.length:=by
 unfold findEnt at h ⊢
 split at h
 ·cases h
 rename_i h1
 rw [if_neg h1]
 split at h
 ·cases h
 rename_i h2
 rw [if_neg h2]
 refine ⟨by simp,?_⟩
 dsimp only
 rw [Int.toNat_natCast]
 have:∃ x∈l,Entry.named n i x=true:=by
  have:=List.countP_pos_iff.1 (Nat.pos_of_ne_zero h1)
  exact this
 exact List.findIdx_lt_length_of_exists this
theorem grantKeys_ok {d:Db} {cs:List Cross} (hd:d.ok) (hr:d.realm.length≤9223372036854775807) (hc:∀ c∈cs,c.ok):∀ x∈grantKeys d cs,x.ok:=by
 intro x hx
 rcases List.mem_append.1 hx with hx | hx
 ·unfold homeKeys at hx
  split at hx
  ·rename_i h
   rw [List.mem_singleton.1 hx]
   obtain ⟨h1,h2,h3⟩:=tgs_ok hr hr
   have:=hd _ (mem_row (d:=noEntry) (findEnt_lt h.1).2)
   exact ⟨h1,h2,h3,this.2.2.2.1,this.2.2.1⟩
  ·cases hx
 ·unfold crossKeys at hx
  obtain ⟨c,hc1,rfl⟩:=List.mem_map.1 hx
  have:=hc c (List.mem_filter.1 hc1).1
  obtain ⟨h1,h2,h3⟩:=tgs_ok this.1 hr
  exact ⟨h1,h2,h3,this.2.2.1,this.2.2.2⟩
theorem grantKeys_len (d:Db) (cs:List Cross):(grantKeys d cs).length≤1+cs.length:=by
 have h1:=homeKeys_len d
 have h2:=crossKeys_len d.realm cs
 unfold grantKeys
 rw [List.length_append]
 omega
def noTgs:TgsRequest:=⟨noAp,0,0,[],[]⟩
def readTgs (b:Bytes) (li:Bool):TgsRequest :=
 let a:=readAp b
 let t:=get b a.next 4 li
 let l:=get b t.next 1 false
 let s:=text b l.next
 ⟨a.val,t.val,l.val,s.val,(text b s.next).val⟩
def decodeTgs (b:Bytes):Dec TgsRequest :=
 if (headIs b [3]).2≠0 then ⟨noTgs,(headIs b [3]).2⟩ else decBy noTgs encodeTgs (fun b=>(readTgs b (headIs b [3]).1,false)) b
theorem tgs_at {r:TgsRequest} (h:(encodeTgs r).err=0):(encodeAp r.ap).err=0∧r.ap.mutual_=false∧(encodeTgs r).val=(encodeAp r.ap).val++(putN r.time 4 r.ap.little++(putN r.life 1 false++(r.service++0::(r.inst++0::[])))) ∧
  (0≤r.time∧r.time≤4294967295)∧(0≤r.life∧r.life≤255)∧(r.service.length≤39∧(0:UInt8) ∉ r.service)∧r.inst.length≤39∧(0:UInt8) ∉ r.inst:=by
 unfold encodeTgs at h ⊢
 by_cases h0:r.ap.mutual_=true
 ·rw [if_pos h0] at h;cases h
 rw [if_neg h0] at h ⊢
 by_cases h1:(encodeAp r.ap).err=0
 case neg=>rw [if_pos h1] at h;exact absurd h h1
 rw [if_neg (by simpa using h1)] at h ⊢
 by_cases h2:(validName r.service&&validInst r.inst)=true
 case neg=>rw [if_pos (by rw [Bool.not_eq_true] at h2;rw [h2];rfl)] at h;cases h
 rw [if_neg (by simp [h2])] at h ⊢
 by_cases h3:(within r.time 4294967295&&within r.life 255)=true
 case neg=>rw [if_pos (by rw [Bool.not_eq_true] at h3;rw [h3];rfl)] at h;cases h
 rw [if_neg (by simp [h3])]
 rw [Bool.and_eq_true] at h2 h3
 have ok:∀ {s:Bytes},validInst s=true→s.length≤39∧(0:UInt8) ∉ s:=fun {s} h=>by
  simp only [validInst,Bool.and_eq_true,decide_eq_true_eq] at h
  exact ⟨h.1,fun hm=>by
   have:=h.2
   simp only [printable,List.all_eq_true] at this
   exact absurd (this 0 hm) (by decide)⟩
 have hn:r.service.length≤39∧(0:UInt8) ∉ r.service:=by
  have h:=h2.1
  simp only [validName,Bool.and_eq_true,decide_eq_true_eq] at h
  exact ⟨by omega,fun hm=>by
   have:=h.2
   simp only [printable,List.all_eq_true] at this
   exact absurd (this 0 hm) (by decide)⟩
 refine ⟨h1,by simpa using h0,?_,within_iff.1 h3.1,within_iff.1 h3.2,hn,ok h2.2⟩
 unfold putText
 simp only [List.append_assoc,List.singleton_append,List.cons_append,List.nil_append,List.append_nil]
theorem readTgs_bd (b:Bytes) (li:Bool):(readTgs b li).ap.realm.length≤9223372036854775807∧(readTgs b li).service.length≤9223372036854775807∧(readTgs b li).inst.length≤9223372036854775807:=by
 have h:∀ q,(text b q).val.length≤9223372036854775807:=fun q=>by have:=text_len b q;omega
 exact ⟨h _,h _,h _⟩
theorem decodeTgs_bd (b:Bytes):((decodeTgs b).val.ap.realm.length≤9223372036854775807∧(decodeTgs b).val.service.length≤9223372036854775807∧(decodeTgs b).val.inst.length≤9223372036854775807)∧(decodeTgs b).val.ap.ticket.length≤255∧(decodeTgs b).val.ap.auth.length≤255:=by
 have h0:(noTgs.ap.realm.length≤9223372036854775807∧noTgs.service.length≤9223372036854775807∧noTgs.inst.length≤9223372036854775807)∧noTgs.ap.ticket.length≤255∧noTgs.ap.auth.length≤255:=by decide
 unfold decodeTgs
 split
 ·exact h0
 unfold decBy
 split
 ·exact h0
 ·rename_i h
  have he:(encodeTgs (readTgs b (headIs b [3]).1)).err=0:=Decidable.byContradiction fun q=>h (.inr (.inl q))
  obtain ⟨_,_,_,h1,h2⟩:=ap_at (tgs_at he).1
  exact ⟨readTgs_bd _ _,h1,h2⟩
def holder (s:Server) (r:ApRequest):Prin:=if (skFind s.keys s.me r.kvno).2 then (openTicket r.ticket (skFind s.keys s.me r.kvno).1).val.client else noPrin
def tgsEnds (expires issued life:Int):List Int:=tEnd issued life::(if expires=0 then [] else [expires])
def tgsLife (now want most expires issued life:Int):Int×Bool:=grantLife now (imin want most) (tgsEnds expires issued life)
def tgsGive (d:Db) (v:Svc) (now:Int) (little:Bool) (session:Int) (r:TgsRequest) (a:Accepted):AuthOut :=
 if (tgsLife now r.life v.life v.expires a.issued a.life).2=false then ⟨refuse a.client 3 now little,noIssue,false⟩
 else if classOf session≠2 then ⟨refuse a.client 10 now little,noIssue,false⟩
 else if (grant d.realm a.client ⟨r.service,r.inst,d.realm⟩ a.address little now (tgsLife now r.life v.life v.expires a.issued a.life).1 session a.session v.key v.kvno).err≠0 then ⟨[],noIssue,false⟩
 else if (sealReply ⟨little,a.client,r.time,0,0,[]⟩ (grant d.realm a.client ⟨r.service,r.inst,d.realm⟩ a.address little now (tgsLife now r.life v.life v.expires a.issued a.life).1 session a.session v.key v.kvno).part a.session).err≠0 then ⟨[],noIssue,false⟩
 else ⟨(sealReply ⟨little,a.client,r.time,0,0,[]⟩ (grant d.realm a.client ⟨r.service,r.inst,d.realm⟩ a.address little now (tgsLife now r.life v.life v.expires a.issued a.life).1 session a.session v.key v.kvno).part a.session).val,
  { (grant d.realm a.client ⟨r.service,r.inst,d.realm⟩ a.address little now (tgsLife now r.life v.life v.expires a.issued a.life).1 session a.session v.key v.kvno).issue with kind:=2,granter:=a.session },true⟩
def tgsServe (d:Db) (cross:List Cross) (now:Int) (little:Bool) (session:Int) (r:TgsRequest) (a:Accepted):AuthOut :=
 if a.client.realm≠r.ap.realm then ⟨refuse a.client 36 now little,noIssue,false⟩
 else if r.service=krbtgt∧a.client.realm≠d.realm then ⟨refuse a.client 8 now little,noIssue,false⟩
 else if (svc d cross r.service r.inst now).err≠0 then ⟨refuse a.client (svc d cross r.service r.inst now).err now little,noIssue,false⟩
 else tgsGive d (svc d cross r.service r.inst now) now little session r a
structure TgsOut where
 s:Server
 out:AuthOut
def tgsServer (d:Db) (cross:List Cross) (s:Server) (r:TgsRequest):Server:=⟨tgs r.ap.realm d.realm,grantKeys d cross,s.replay,s.skew⟩
def isQuiet (e:Int):Bool:=e==108||e==35||e==7||e==31
def tgsAsk (d:Db) (cross:List Cross) (s:Server) (now address:Int) (little:Bool) (session:Int) (r:TgsRequest):TgsOut :=
  if (verify (tgsServer d cross s r) r.ap address now).err≠0 then
    (if isQuiet (verify (tgsServer d cross s r) r.ap address now).err then ⟨s,⟨[],noIssue,false⟩⟩
     else ⟨s,⟨refuse (holder (tgsServer d cross s r) r.ap) (verify (tgsServer d cross s r) r.ap address now).err now little,noIssue,false⟩⟩)
  else ⟨{ s with replay:=(verify (tgsServer d cross s r) r.ap address now).s.replay },tgsServe d cross now little session r (verify (tgsServer d cross s r) r.ap address now).a⟩
def tgsAnswer (d:Db) (cross:List Cross) (s:Server) (now address:Int) (little:Bool) (session:Int) (msg:Bytes):TgsOut :=
 if !(within now 4294967295&&within address 4294967295) then ⟨s,⟨[],noIssue,false⟩⟩
 else if (decodeTgs msg).err≠0 then ⟨s,⟨[],noIssue,false⟩⟩
 else tgsAsk d cross s now address little session (decodeTgs msg).val
namespace Case
def tgsReq (c:Case) (m:Prin) (k v time life:Int) (sv:Prin):TgsRequest:=⟨{ c.req m k v with mutual_:=false },time,life,sv.name,sv.inst⟩
def tgsMsg (c:Case) (m:Prin) (k v time life:Int) (sv:Prin):Bytes:=(encodeTgs (c.tgsReq m k v time life sv)).val
end Case
structure TAsk where
 case_:Case
 src:UInt8
 to:UInt8
 peer:UInt8
 life:UInt8
 now:UInt8
 kvno:UInt8
 how:Int
def TAsk.key (a:TAsk) (cross:List Cross):SKey :=
 if a.src.toNat % 3=2∧0<cross.length then ⟨⟨krbtgt,realm 0,(cross.getD (a.kvno.toNat % cross.length) noCross).source⟩,(cross.getD (a.kvno.toNat % cross.length) noCross).kvno,(cross.getD (a.kvno.toNat % cross.length) noCross).key⟩
 else ⟨⟨krbtgt,realm 0,realm 0⟩,6,long 3⟩
def TAsk.want (a:TAsk):Prin:=if a.to.toNat % 5=4 then ⟨krbtgt,realm (u8i a.peer),realm 0⟩ else Kerb.service (u8i a.to % 3)
def TAsk.base (a:TAsk) (cross:List Cross):Bytes:=a.case_.tgsMsg (a.key cross).service (a.key cross).key (a.key cross).kvno 5 (u8i a.life) a.want
def TAsk.msg (a:TAsk) (cross:List Cross):Bytes:=if a.how % 8=7 then spoil (a.base cross) (a.how / 8) else a.base cross
def TAsk.av (q:TAsk):AV := .agg [.u8 q.case_.client,.u8 q.case_.other,.u8 q.case_.service,.u8 q.case_.realm,.bool q.case_.little,.bool q.case_.turned,.bool q.case_.mutual_,.u8 q.case_.address,.u8 q.case_.src,.u8 q.case_.issued,.u8 q.case_.time,.u8 q.case_.tick,.u8 q.case_.life,.int .u32 q.case_.checksum,.u8 q.case_.key,.u8 q.case_.kvno,.u8 q.case_.session,.int .u16 q.case_.ticket,.int .u16 q.case_.auth,.u8 q.src,.u8 q.to,.u8 q.peer,.u8 q.life,.u8 q.now,.u8 q.kvno,.int .u16 q.how]
def TAsk.ok (q:TAsk):Prop:=q.case_.ok∧isU16 q.how=true
def isKv (c:Cross):Bool:=decide (0≤c.kvno)&&decide (c.kvno≤1000)
theorem verify_bdA (s:Server) (r:ApRequest) (src now:Int):(verify s r src now).a.client.name.length≤9223372036854775807∧(verify s r src now).a.client.inst.length≤9223372036854775807∧(verify s r src now).a.client.realm.length≤9223372036854775807:=by
 have h0:noAccepted.client.name.length≤9223372036854775807∧noAccepted.client.inst.length≤9223372036854775807∧noAccepted.client.realm.length≤9223372036854775807:=by decide
 unfold verify
 split
 ·exact h0
 split
 ·exact h0
 split
 ·exact h0
 split
 ·exact h0
 ·have:=(openReq_bd s r).2
  unfold Ticket.bd at this
  dsimp only
  omega
theorem holder_len (s:Server) (r:ApRequest):(holder s r).name.length≤9223372036854775807∧(holder s r).inst.length≤9223372036854775807∧(holder s r).realm.length≤9223372036854775807:=by
 unfold holder
 split
 ·have:=openTicket_bd r.ticket (skFind s.keys s.me r.kvno).1
  unfold Ticket.bd at this
  omega
 ·decide
theorem verify_err_quiet {e:Int}:isQuiet e=true↔e=108∨e=35∨e=7∨e=31:=by
 simp [isQuiet,or_assoc]
theorem encTgs_no {r:TgsRequest} (h:(encodeTgs r).err≠0):(encodeTgs r).val=[]:=by
 unfold encodeTgs at h ⊢
 split
 ·rfl
 rename_i h1
 rw [if_neg h1] at h
 split
 ·rfl
 rename_i h2
 rw [if_neg h2] at h
 split
 ·rfl
 rename_i h3
 rw [if_neg h3] at h
 split
 ·rfl
 rename_i h4
 rw [if_neg h4] at h
 exact absurd rfl h
theorem tgs_len (r:TgsRequest):(encodeTgs r).val.length≤800:=by
 by_cases h:(encodeTgs r).err=0
 ·obtain ⟨h1,h2,h3,h4,h5,h6,h7⟩:=tgs_at h
  rw [h3]
  have:=ap_len r.ap
  simp only [List.length_append,List.length_cons,List.length_nil,putN_len]
  omega
 ·rw [encTgs_no h];simp
theorem req_realm (c:Case) (m:Prin) (k v:Int) (h:m.realm.length≤9223372036854775807):(c.req m k v).realm.length≤9223372036854775807:=by
 show (if c.realm.toNat % 16=15 then [67,65,77] else m.realm:Bytes).length≤_
 split
 ·decide
 ·exact h
theorem rem3_is (x:UInt8):(UInt8.ofNat (Int.toNat (Int.tmod (↑(UInt8.toNat x):Int) (↑(UInt8.toNat (3:UInt8)):Int)))==(2:UInt8))=decide (x.toNat % 3=2):=by
 rw [show (UInt8.toNat (3:UInt8))=3 from rfl,tmod_u8 x 3 (by decide)]
 rw [Bool.eq_iff_iff,beq_iff_eq,decide_eq_true_eq,← UInt8.toNat_inj,UInt8.toNat_ofNat']
 show x.toNat % 3 % 256=2↔_
 omega
theorem rem5_is (x:UInt8):(UInt8.ofNat (Int.toNat (Int.tmod (↑(UInt8.toNat x):Int) (↑(UInt8.toNat (5:UInt8)):Int)))==(4:UInt8))=decide (x.toNat % 5=4):=by
 rw [show (UInt8.toNat (5:UInt8))=5 from rfl,tmod_u8 x 5 (by decide)]
 rw [Bool.eq_iff_iff,beq_iff_eq,decide_eq_true_eq,← UInt8.toNat_inj,UInt8.toNat_ofNat']
 show x.toNat % 5 % 256=4↔_
 omega
theorem base_len (a:TAsk) (cs:List Cross):(a.base cs).length≤1000000:=Nat.le_trans (tgs_len (a.case_.tgsReq (a.key cs).service (a.key cs).key (a.key cs).kvno 5 (u8i a.life) a.want)) (by decide)
end Kerb
