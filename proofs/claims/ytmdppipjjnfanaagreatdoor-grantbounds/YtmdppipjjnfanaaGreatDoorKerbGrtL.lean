/- Chapter 19: ticket-granting servers. -/
import Derived.Test.YtmdppipjjnfanaaGreatDoorKerbAuthL
import Derived.Test.YtmdppipjjnfanaaGreatDoorKerbVerL
open Bool renaming and_eq_true→Zz
namespace Kerb
open Go Go.Abs
set_option linter.unusedVariables false
def homeKeys (d:Db):List SKey :=
 if (findEnt d.entries krbtgt d.realm).2=0∧keyValid (entAt d (findEnt d.entries krbtgt d.realm).1).key=true then
  [⟨tgs d.realm d.realm,(entAt d (findEnt d.entries krbtgt d.realm).1).kvno,(entAt d (findEnt d.entries krbtgt d.realm).1).key⟩] else []
def crossKey (r:Bytes) (c:Cross):SKey:=⟨tgs c.source r,c.kvno,c.key⟩
def crossKeys (r:Bytes) (l:List Cross):List SKey:=(l.filter fun c=>c.target==r).map (crossKey r)
def grantKeys (d:Db) (cross:List Cross):List SKey:=homeKeys d++crossKeys d.realm cross
theorem homeKeys_len (d:Db):(homeKeys d).length≤1:=by
 unfold homeKeys;split<;>simp
theorem crossKeys_len (r:Bytes) (l:List Cross):(crossKeys r l).length≤l.length:=by
 unfold crossKeys;rw [List.length_map];exact List.length_filter_le _ _
theorem crossKeys_step {r:Bytes} {cs:List Cross} {c:Cross} {i:Nat} (h:i<cs.length) (hc:cs.getD i noCross=c) :
  crossKeys r (cs.take (i+1))=crossKeys r (cs.take i)++(if c.target=r then [crossKey r c] else []):=by
 unfold crossKeys
 rw [take_row (d:=noCross) h,hc,List.filter_append,List.map_append]
 congr 1
 by_cases q:c.target=r<;>simp [q]
theorem tgs_ok {r t:Bytes} (h1:r.length≤9223372036854775807) (h2:t.length≤9223372036854775807):(tgs r t).name.length≤9223372036854775807∧(tgs r t).inst.length≤9223372036854775807∧(tgs r t).realm.length≤9223372036854775807 :=
 ⟨by show ([107,114,98,116,103,116]:Bytes).length≤_;decide,h2,h1⟩
theorem findEnt_lt {l:List Entry} {n i:Bytes} (h:(findEnt l n i).2=0):0≤(findEnt l n i).1∧(findEnt l n i).1.toNat<l.length:=by
 unfold findEnt at h ⊢
 split at h
 ·cases h
 rename_i h1
 rw [if_neg h1]
 split at h
 ·cases h
 rename_i h2
 rw [if_neg h2]
 refine ⟨by simp,?_⟩
 dsimp only
 rw [Int.toNat_natCast]
 have:∃ x∈l,Entry.named n i x=true:=by
  have:=List.countP_pos_iff.1 (Nat.pos_of_ne_zero h1)
  exact this
 exact List.findIdx_lt_length_of_exists this
theorem grantKeys_ok {d:Db} {cs:List Cross} (hd:d.ok) (hr:d.realm.length≤9223372036854775807) (hc:∀ c∈cs,c.ok):∀ x∈grantKeys d cs,x.ok:=by
 intro x hx
 rcases List.mem_append.1 hx with hx | hx
 ·unfold homeKeys at hx
  split at hx
  ·rename_i h
   rw [List.mem_singleton.1 hx]
   obtain ⟨h1,h2,h3⟩:=tgs_ok hr hr
   have:=hd _ (mem_row (d:=noEntry) (findEnt_lt h.1).2)
   exact ⟨h1,h2,h3,this.2.2.2.1,this.2.2.1⟩
  ·cases hx
 ·unfold crossKeys at hx
  obtain ⟨c,hc1,rfl⟩:=List.mem_map.1 hx
  have:=hc c (List.mem_filter.1 hc1).1
  obtain ⟨h1,h2,h3⟩:=tgs_ok this.1 hr
  exact ⟨h1,h2,h3,this.2.2.1,this.2.2.2⟩
theorem grantKeys_len (d:Db) (cs:List Cross):(grantKeys d cs).length≤1+cs.length:=by
 have h1:=homeKeys_len d
 have h2:=crossKeys_len d.realm cs
 unfold grantKeys
 rw [List.length_append]
 omega
def noTgs:TgsRequest:=⟨noAp,0,0,[],[]⟩
def readTgs (b:Bytes) (li:Bool):TgsRequest :=
 let a:=readAp b
 let t:=get b a.next 4 li
 let l:=get b t.next 1 false
 let s:=text b l.next
 ⟨a.val,t.val,l.val,s.val,(text b s.next).val⟩
def decodeTgs (b:Bytes):Dec TgsRequest :=
 if (headIs b [3]).2≠0 then ⟨noTgs,(headIs b [3]).2⟩ else decBy noTgs encodeTgs (fun b=>(readTgs b (headIs b [3]).1,false)) b
theorem tgs_at {r:TgsRequest} (h:(encodeTgs r).err=0):(encodeAp r.ap).err=0∧r.ap.mutual_=false∧(encodeTgs r).val=(encodeAp r.ap).val++(putN r.time 4 r.ap.little++(putN r.life 1 false++(r.service++0::(r.inst++0::[])))) ∧
  (0≤r.time∧r.time≤4294967295)∧(0≤r.life∧r.life≤255)∧(r.service.length≤39∧(0:UInt8) ∉ r.service)∧r.inst.length≤39∧(0:UInt8) ∉ r.inst:=by
 unfold encodeTgs at h ⊢
 by_cases h0:r.ap.mutual_=true
 ·rw [if_pos h0] at h;cases h
 rw [if_neg h0] at h ⊢
 by_cases h1:(encodeAp r.ap).err=0
 case neg=>rw [if_pos h1] at h;exact absurd h h1
 rw [if_neg (by simpa using h1)] at h ⊢
 by_cases h2:(validName r.service&&validInst r.inst)=true
 case neg=>rw [if_pos (by rw [Bool.not_eq_true] at h2;rw [h2];rfl)] at h;cases h
 rw [if_neg (by simp [h2])] at h ⊢
 by_cases h3:(within r.time 4294967295&&within r.life 255)=true
 case neg=>rw [if_pos (by rw [Bool.not_eq_true] at h3;rw [h3];rfl)] at h;cases h
 rw [if_neg (by simp [h3])]
 rw [Zz] at h2 h3
 have ok:∀ {s:Bytes},validInst s=true→s.length≤39∧(0:UInt8) ∉ s:=fun {s} h=>by
  simp only [validInst,Zz,decide_eq_true_eq] at h
  exact ⟨h.1,fun hm=>by
   have:=h.2
   simp only [printable,List.all_eq_true] at this
   exact absurd (this 0 hm) (by decide)⟩
 have hn:r.service.length≤39∧(0:UInt8) ∉ r.service:=by
  have h:=h2.1
  simp only [validName,Zz,decide_eq_true_eq] at h
  exact ⟨by omega,fun hm=>by
   have:=h.2
   simp only [printable,List.all_eq_true] at this
   exact absurd (this 0 hm) (by decide)⟩
 refine ⟨h1,by simpa using h0,?_,within_iff.1 h3.1,within_iff.1 h3.2,hn,ok h2.2⟩
 unfold putText
 simp only [List.append_assoc,List.singleton_append,List.cons_append,List.nil_append,List.append_nil]
theorem ap_getsZ {r:ApRequest} (z:Bytes) (h:(encodeAp r).err=0):∃ q1 q2 q3 q4 q5 q6:Int,get ((encodeAp r).val++z) 2 1 false=⟨r.kvno,q1,0⟩∧text ((encodeAp r).val++z) q1=⟨r.realm,q2,0⟩∧get ((encodeAp r).val++z) q2 1 false=⟨r.ticket.length,q3,0⟩∧get ((encodeAp r).val++z) q3 1 false=⟨r.auth.length,q4,0⟩ ∧
  bytes ((encodeAp r).val++z) q4 r.ticket.length=⟨r.ticket,q5,0⟩∧bytes ((encodeAp r).val++z) q5 r.auth.length=⟨r.auth,q6,0⟩∧At ((encodeAp r).val++z) q6 z:=by
 obtain ⟨hz,⟨n0,n1⟩,⟨a0,a1⟩,t1,u1⟩:=ap_at h
 have hz2:(encodeAp r).val++z=header (cond r.mutual_ 4 3) r.little++(putN r.kvno 1 false++(r.realm++0::(putN r.ticket.length 1 false++(putN r.auth.length 1 false++(r.ticket++(r.auth++z)))))):=by
  rw [hz];simp only [List.append_assoc,List.cons_append,List.append_nil,List.nil_append]
 have p0:=(At.start ((encodeAp r).val++z)).as hz2
 have p1:=p0.skip
 rw [show (header (cond r.mutual_ 4 3) r.little).length=2 by cases r.mutual_<;>cases r.little<;>rfl] at p1
 obtain ⟨e1,p2⟩:=p1.get1 a0 a1
 obtain ⟨e2,p3⟩:=p2.text n0 n1
 obtain ⟨e3,p4⟩:=p3.get1 (by omega) (by omega)
 obtain ⟨e4,p5⟩:=p4.get1 (by omega) (by omega)
 obtain ⟨e5,p6⟩:=p5.bytes (n:=r.ticket.length) rfl
 obtain ⟨e6,p7⟩:=p6.bytes (n:=r.auth.length) rfl
 exact ⟨_,_,_,_,_,_,e1,e2,e3,e4,e5,e6,p7⟩
theorem ap_headZ {r:ApRequest} (z:Bytes) (h:(encodeAp r).err=0):readHead ((encodeAp r).val++z)=⟨cond r.mutual_ 4 3,r.little,0⟩:=by
 rw [(ap_at h).1,List.append_assoc]
 exact ap_head _
theorem headIs_of {b:Bytes} {k:Int} {li:Bool} (h:readHead b=⟨k,li,0⟩):headIs b [k]=(li,0):=by
 unfold headIs
 rw [h]
 simp
theorem readTgs_back {r:TgsRequest} (h:(encodeTgs r).err=0):headIs (encodeTgs r).val [3]=(r.ap.little,0)∧readTgs (encodeTgs r).val r.ap.little=r:=by
 obtain ⟨h1,h2,h3,⟨t0,t1⟩,⟨l0,l1⟩,⟨s0,s1⟩,i0,i1⟩:=tgs_at h
 rw [h3]
 obtain ⟨z,hz⟩:∃ z,putN r.time 4 r.ap.little++(putN r.life 1 false++(r.service++0::(r.inst++0::[])))=z:=⟨_,rfl⟩
 obtain ⟨q1,q2,q3,q4,q5,q6,e1,e2,e3,e4,e5,e6,p⟩:=ap_getsZ z h1
 have hh:=ap_headZ z h1
 rw [h2] at hh
 rw [← hz] at p
 rw [hz] at p ⊢
 have p1:=p.as hz.symm
 obtain ⟨e7,p2⟩:=p1.get4 (li:=r.ap.little) t0 t1
 obtain ⟨e8,p3⟩:=p2.get1 l0 l1
 obtain ⟨e9,p4⟩:=p3.text s0 s1
 obtain ⟨e10,p5⟩:=p4.text i0 i1
 refine ⟨headIs_of hh,?_⟩
 unfold readTgs readAp
 simp only [e1,e2,e3,e4,e5,e6,e7,e8,e9,e10,hh]
 have:((cond false 4 3:Int)==4)=r.ap.mutual_:=by rw [h2];rfl
 rw [this]
theorem decodeTgs_back {r:TgsRequest} (h:(encodeTgs r).err=0):decodeTgs (encodeTgs r).val=⟨r,0⟩:=by
 obtain ⟨h1,h2⟩:=readTgs_back h
 unfold decodeTgs
 rw [if_neg (by rw [h1];simp)]
 exact decBy_back (no:=noTgs) (enc:=encodeTgs) (rd:=fun b=>(readTgs b (headIs b [3]).1,false)) (by rw [h1];exact congrArg (fun q=>(q,false)) h2) h
theorem readTgs_bd (b:Bytes) (li:Bool):(readTgs b li).ap.realm.length≤9223372036854775807∧(readTgs b li).service.length≤9223372036854775807∧(readTgs b li).inst.length≤9223372036854775807:=by
 have h:∀ q,(text b q).val.length≤9223372036854775807:=fun q=>by have:=text_len b q;omega
 exact ⟨h _,h _,h _⟩
theorem decodeTgs_bd (b:Bytes):((decodeTgs b).val.ap.realm.length≤9223372036854775807∧(decodeTgs b).val.service.length≤9223372036854775807∧(decodeTgs b).val.inst.length≤9223372036854775807)∧(decodeTgs b).val.ap.ticket.length≤255∧(decodeTgs b).val.ap.auth.length≤255:=by
 have h0:(noTgs.ap.realm.length≤9223372036854775807∧noTgs.service.length≤9223372036854775807∧noTgs.inst.length≤9223372036854775807)∧noTgs.ap.ticket.length≤255∧noTgs.ap.auth.length≤255:=by decide
 unfold decodeTgs
 split
 ·exact h0
 unfold decBy
 split
 ·exact h0
 ·rename_i h
  have he:(encodeTgs (readTgs b (headIs b [3]).1)).err=0:=Decidable.byContradiction fun q=>h (.inr (.inl q))
  obtain ⟨_,_,_,h1,h2⟩:=ap_at (tgs_at he).1
  exact ⟨readTgs_bd _ _,h1,h2⟩
def holder (s:Server) (r:ApRequest):Prin:=if (skFind s.keys s.me r.kvno).2 then (openTicket r.ticket (skFind s.keys s.me r.kvno).1).val.client else noPrin
def tgsEnds (expires issued life:Int):List Int:=tEnd issued life::(if expires=0 then [] else [expires])
def tgsLife (now want most expires issued life:Int):Int×Bool:=grantLife now (imin want most) (tgsEnds expires issued life)
def tgsGive (d:Db) (v:Svc) (now:Int) (little:Bool) (session:Int) (r:TgsRequest) (a:Accepted):AuthOut :=
 if (tgsLife now r.life v.life v.expires a.issued a.life).2=false then ⟨refuse a.client 3 now little,noIssue,false⟩
 else if classOf session≠2 then ⟨refuse a.client 10 now little,noIssue,false⟩
 else if (grant d.realm a.client ⟨r.service,r.inst,d.realm⟩ a.address little now (tgsLife now r.life v.life v.expires a.issued a.life).1 session a.session v.key v.kvno).err≠0 then ⟨[],noIssue,false⟩
 else if (sealReply ⟨little,a.client,r.time,0,0,[]⟩ (grant d.realm a.client ⟨r.service,r.inst,d.realm⟩ a.address little now (tgsLife now r.life v.life v.expires a.issued a.life).1 session a.session v.key v.kvno).part a.session).err≠0 then ⟨[],noIssue,false⟩
 else ⟨(sealReply ⟨little,a.client,r.time,0,0,[]⟩ (grant d.realm a.client ⟨r.service,r.inst,d.realm⟩ a.address little now (tgsLife now r.life v.life v.expires a.issued a.life).1 session a.session v.key v.kvno).part a.session).val,
  { (grant d.realm a.client ⟨r.service,r.inst,d.realm⟩ a.address little now (tgsLife now r.life v.life v.expires a.issued a.life).1 session a.session v.key v.kvno).issue with kind:=2,granter:=a.session },true⟩
def tgsServe (d:Db) (cross:List Cross) (now:Int) (little:Bool) (session:Int) (r:TgsRequest) (a:Accepted):AuthOut :=
 if a.client.realm≠r.ap.realm then ⟨refuse a.client 36 now little,noIssue,false⟩
 else if r.service=krbtgt∧a.client.realm≠d.realm then ⟨refuse a.client 8 now little,noIssue,false⟩
 else if (svc d cross r.service r.inst now).err≠0 then ⟨refuse a.client (svc d cross r.service r.inst now).err now little,noIssue,false⟩
 else tgsGive d (svc d cross r.service r.inst now) now little session r a
structure TgsOut where
 s:Server
 out:AuthOut
def tgsServer (d:Db) (cross:List Cross) (s:Server) (r:TgsRequest):Server:=⟨tgs r.ap.realm d.realm,grantKeys d cross,s.replay,s.skew⟩
def isQuiet (e:Int):Bool:=e==108||e==35||e==7||e==31
def tgsAsk (d:Db) (cross:List Cross) (s:Server) (now address:Int) (little:Bool) (session:Int) (r:TgsRequest):TgsOut :=
  if (verify (tgsServer d cross s r) r.ap address now).err≠0 then
    (if isQuiet (verify (tgsServer d cross s r) r.ap address now).err then ⟨s,⟨[],noIssue,false⟩⟩
     else ⟨s,⟨refuse (holder (tgsServer d cross s r) r.ap) (verify (tgsServer d cross s r) r.ap address now).err now little,noIssue,false⟩⟩)
  else ⟨{ s with replay:=(verify (tgsServer d cross s r) r.ap address now).s.replay },tgsServe d cross now little session r (verify (tgsServer d cross s r) r.ap address now).a⟩
def tgsAnswer (d:Db) (cross:List Cross) (s:Server) (now address:Int) (little:Bool) (session:Int) (msg:Bytes):TgsOut :=
 if !(within now 4294967295&&within address 4294967295) then ⟨s,⟨[],noIssue,false⟩⟩
 else if (decodeTgs msg).err≠0 then ⟨s,⟨[],noIssue,false⟩⟩
 else tgsAsk d cross s now address little session (decodeTgs msg).val
namespace Case
def tgsReq (c:Case) (m:Prin) (k v time life:Int) (sv:Prin):TgsRequest:=⟨{ c.req m k v with mutual_:=false },time,life,sv.name,sv.inst⟩
def tgsMsg (c:Case) (m:Prin) (k v time life:Int) (sv:Prin):Bytes:=(encodeTgs (c.tgsReq m k v time life sv)).val
end Case
structure TAsk where
 case_:Case
 src:UInt8
 to:UInt8
 peer:UInt8
 life:UInt8
 now:UInt8
 kvno:UInt8
 how:Int
def TAsk.key (a:TAsk) (cross:List Cross):SKey :=
 if a.src.toNat % 3=2∧0<cross.length then ⟨⟨krbtgt,realm 0,(cross.getD (a.kvno.toNat % cross.length) noCross).source⟩,(cross.getD (a.kvno.toNat % cross.length) noCross).kvno,(cross.getD (a.kvno.toNat % cross.length) noCross).key⟩
 else ⟨⟨krbtgt,realm 0,realm 0⟩,6,long 3⟩
def TAsk.want (a:TAsk):Prin:=if a.to.toNat % 5=4 then ⟨krbtgt,realm (u8i a.peer),realm 0⟩ else Kerb.service (u8i a.to % 3)
def TAsk.base (a:TAsk) (cross:List Cross):Bytes:=a.case_.tgsMsg (a.key cross).service (a.key cross).key (a.key cross).kvno 5 (u8i a.life) a.want
def TAsk.msg (a:TAsk) (cross:List Cross):Bytes:=if a.how % 8=7 then spoil (a.base cross) (a.how / 8) else a.base cross
def noTAsk:TAsk:=⟨noCase,0,0,0,0,0,0,0⟩
def TAsk.av (q:TAsk):AV := .agg [.u8 q.case_.client,.u8 q.case_.other,.u8 q.case_.service,.u8 q.case_.realm,.bool q.case_.little,.bool q.case_.turned,.bool q.case_.mutual_,.u8 q.case_.address,.u8 q.case_.src,.u8 q.case_.issued,.u8 q.case_.time,.u8 q.case_.tick,.u8 q.case_.life,.int .u32 q.case_.checksum,.u8 q.case_.key,.u8 q.case_.kvno,.u8 q.case_.session,.int .u16 q.case_.ticket,.int .u16 q.case_.auth,.u8 q.src,.u8 q.to,.u8 q.peer,.u8 q.life,.u8 q.now,.u8 q.kvno,.int .u16 q.how]
def isTAsk:AV→Bool
 | .agg [.u8 _,.u8 _,.u8 _,.u8 _,.bool _,.bool _,.bool _,.u8 _,.u8 _,.u8 _,.u8 _,.u8 _,.u8 _,.int .u32 n,.u8 _,.u8 _,.u8 _,.int .u16 r,.int .u16 s,.u8 _,.u8 _,.u8 _,.u8 _,.u8 _,.u8 _,.int .u16 h]=>decide (0≤n)&&decide (n≤4294967295)&&decide (0≤r)&&decide (r≤65535)&&decide (0≤s)&&decide (s≤65535)&&decide (0≤h)&&decide (h≤65535)
 | _=>false
def TAsk.ok (q:TAsk):Prop:=q.case_.ok∧isU16 q.how=true
theorem isTAsk_inv (a:AV) (h:isTAsk a=true):∃ c:TAsk,a=c.av∧c.ok:=by
 unfold isTAsk at h
 split at h
 ·rename_i a b c d e f g h1 i j k l m n o p q r s t u v w x y z
  simp only [Zz,decide_eq_true_eq] at h
  exact ⟨⟨⟨a,b,c,d,e,f,g,h1,i,j,k,l,m,n,o,p,q,r,s⟩,t,u,v,w,x,y,z⟩,rfl,⟨isU32_iff.2 ⟨h.1.1.1.1.1.1.1,h.1.1.1.1.1.1.2⟩,isU16_iff.2 ⟨h.1.1.1.1.1.2,h.1.1.1.1.2⟩,isU16_iff.2 ⟨h.1.1.1.2,h.1.1.2⟩⟩,isU16_iff.2 ⟨h.1.2,h.2⟩⟩
 ·cases h
theorem tasks_of {els:List AV} (h:els.all isTAsk=true):∃ cs:List TAsk,els=cs.map TAsk.av∧∀ c∈cs,c.ok:=rows_of isTAsk_inv h
def isKv (c:Cross):Bool:=decide (0≤c.kvno)&&decide (c.kvno≤1000)
theorem verify_bdA (s:Server) (r:ApRequest) (src now:Int):(verify s r src now).a.client.name.length≤9223372036854775807∧(verify s r src now).a.client.inst.length≤9223372036854775807∧(verify s r src now).a.client.realm.length≤9223372036854775807:=by
 have h0:noAccepted.client.name.length≤9223372036854775807∧noAccepted.client.inst.length≤9223372036854775807∧noAccepted.client.realm.length≤9223372036854775807:=by decide
 unfold verify
 split
 ·exact h0
 split
 ·exact h0
 split
 ·exact h0
 split
 ·exact h0
 ·have:=(openReq_bd s r).2
  unfold Ticket.bd at this
  dsimp only
  omega
theorem holder_len (s:Server) (r:ApRequest):(holder s r).name.length≤9223372036854775807∧(holder s r).inst.length≤9223372036854775807∧(holder s r).realm.length≤9223372036854775807:=by
 unfold holder
 split
 ·have:=openTicket_bd r.ticket (skFind s.keys s.me r.kvno).1
  unfold Ticket.bd at this
  omega
 ·decide
theorem verify_err_quiet {e:Int}:isQuiet e=true↔e=108∨e=35∨e=7∨e=31:=by
 simp [isQuiet,or_assoc]
theorem encTgs_no {r:TgsRequest} (h:(encodeTgs r).err≠0):(encodeTgs r).val=[]:=by
 unfold encodeTgs at h ⊢
 split
 ·rfl
 rename_i h1
 rw [if_neg h1] at h
 split
 ·rfl
 rename_i h2
 rw [if_neg h2] at h
 split
 ·rfl
 rename_i h3
 rw [if_neg h3] at h
 split
 ·rfl
 rename_i h4
 rw [if_neg h4] at h
 exact absurd rfl h
theorem tgs_len (r:TgsRequest):(encodeTgs r).val.length≤800:=by
 by_cases h:(encodeTgs r).err=0
 ·obtain ⟨h1,h2,h3,h4,h5,h6,h7⟩:=tgs_at h
  rw [h3]
  have:=ap_len r.ap
  simp only [List.length_append,List.length_cons,List.length_nil,putN_len]
  omega
 ·rw [encTgs_no h];simp
theorem req_realm (c:Case) (m:Prin) (k v:Int) (h:m.realm.length≤9223372036854775807):(c.req m k v).realm.length≤9223372036854775807:=by
 show (if c.realm.toNat % 16=15 then [67,65,77] else m.realm:Bytes).length≤_
 split
 ·decide
 ·exact h
theorem rem3_is (x:UInt8):(UInt8.ofNat (Int.toNat (Int.tmod (↑(UInt8.toNat x):Int) (↑(UInt8.toNat (3:UInt8)):Int)))==(2:UInt8))=decide (x.toNat % 3=2):=by
 rw [show (UInt8.toNat (3:UInt8))=3 from rfl,tmod_u8 x 3 (by decide)]
 rw [Bool.eq_iff_iff,beq_iff_eq,decide_eq_true_eq,← UInt8.toNat_inj,UInt8.toNat_ofNat']
 show x.toNat % 3 % 256=2↔_
 omega
theorem rem5_is (x:UInt8):(UInt8.ofNat (Int.toNat (Int.tmod (↑(UInt8.toNat x):Int) (↑(UInt8.toNat (5:UInt8)):Int)))==(4:UInt8))=decide (x.toNat % 5=4):=by
 rw [show (UInt8.toNat (5:UInt8))=5 from rfl,tmod_u8 x 5 (by decide)]
 rw [Bool.eq_iff_iff,beq_iff_eq,decide_eq_true_eq,← UInt8.toNat_inj,UInt8.toNat_ofNat']
 show x.toNat % 5 % 256=4↔_
 omega
theorem base_len (a:TAsk) (cs:List Cross):(a.base cs).length≤1000000:=Nat.le_trans (tgs_len (a.case_.tgsReq (a.key cs).service (a.key cs).key (a.key cs).kvno 5 (u8i a.life) a.want)) (by decide)
end Kerb
/- Chapter 19: the plain laws. -/
namespace Kerb
open Go Go.Abs
set_option linter.unusedVariables false
theorem openBox_inv {b body:Bytes} {kd k:Int} (h:openBox b kd k=(body,true)):(readBox b).err=0∧(readBox b).box.body=body:=by
 unfold openBox at h
 split at h
 ·cases h
 ·rename_i h1
  refine ⟨Decidable.byContradiction fun q=>h1 (.inl q),congrArg Prod.fst h⟩
theorem tgs_nil:(decodeTgs []).err≠0:=by decide
structure TIssued (d:Db) (cross:List Cross) (s:Server) (now ad:Int) (li:Bool) (se:Int) (msg:Bytes) (O:TgsOut) (r:TgsRequest) (t:Ticket) (a:Auth) (L:Int):Prop where
 now_:within now 4294967295=true
 req:decodeTgs msg=⟨r,0⟩
 taken:Taken (tgsServer d cross s r) r.ap ad now t a
 realm:t.client.realm=r.ap.realm
 home:¬ (r.service=krbtgt∧t.client.realm≠d.realm)
 life:tgsLife now r.life (svc d cross r.service r.inst now).life (svc d cross r.service r.inst now).expires t.issued t.life=(L,true)
 class_:classOf se=2
 gr:(grant d.realm t.client ⟨r.service,r.inst,d.realm⟩ t.address li now L se t.session (svc d cross r.service r.inst now).key (svc d cross r.service r.inst now).kvno).err=0
 sl:(sealReply ⟨li,t.client,r.time,0,0,[]⟩ (grant d.realm t.client ⟨r.service,r.inst,d.realm⟩ t.address li now L se t.session (svc d cross r.service r.inst now).key (svc d cross r.service r.inst now).kvno).part t.session).err=0
 is:O.out=⟨(sealReply ⟨li,t.client,r.time,0,0,[]⟩ (grant d.realm t.client ⟨r.service,r.inst,d.realm⟩ t.address li now L se t.session (svc d cross r.service r.inst now).key (svc d cross r.service r.inst now).kvno).part t.session).val,
  { (grant d.realm t.client ⟨r.service,r.inst,d.realm⟩ t.address li now L se t.session (svc d cross r.service r.inst now).key (svc d cross r.service r.inst now).kvno).issue with kind:=2,granter:=t.session },true⟩
 s_:O.s={ s with replay:=(addMark s.replay (markOf a) now s.skew).val }
theorem tissued {d:Db} {cross:List Cross} {s:Server} {now ad:Int} {li:Bool} {se:Int} {msg:Bytes} (h:(tgsAnswer d cross s now ad li se msg).out.ok=true):∃ r t a L,TIssued d cross s now ad li se msg (tgsAnswer d cross s now ad li se msg) r t a L:=by
 obtain ⟨A,hA⟩:∃ A,tgsAnswer d cross s now ad li se msg=A:=⟨_,rfl⟩
 rw [hA] at h ⊢
 unfold tgsAnswer at hA
 by_cases h1:(within now 4294967295&&within ad 4294967295)=true
 case neg=>rw [if_pos (by simp only [Bool.not_eq_true] at h1;rw [h1];rfl)] at hA;subst hA;cases h
 rw [if_neg (by rw [h1];simp)] at hA
 by_cases h2:(decodeTgs msg).err=0
 case neg=>rw [if_pos h2] at hA;subst hA;cases h
 rw [if_neg (by simpa using h2)] at hA
 obtain ⟨r,hr⟩:∃ r,(decodeTgs msg).val=r:=⟨_,rfl⟩
 have hreq:decodeTgs msg=⟨r,0⟩:=by cases hd:decodeTgs msg;rw [hd] at h2 hr;simp at h2 hr;rw [h2,hr]
 rw [hr] at hA
 unfold tgsAsk at hA
 by_cases h3:(verify (tgsServer d cross s r) r.ap ad now).err=0
 case neg =>
  rw [if_pos h3] at hA
  split at hA
  ·subst hA;cases h
  ·subst hA;cases h
 rw [if_neg (by simpa using h3)] at hA
 obtain ⟨t,a,hT⟩:=taken h3
 have hV:=hT.is
 rw [hV] at hA
 dsimp only at hA
 have hs:A.s={ s with replay:=(addMark s.replay (markOf a) now s.skew).val }:=by rw [← hA];rfl
 have ho:tgsServe d cross now li se r ⟨t.client,t.session,t.address,a.checksum,a.time,a.tick,t.issued,t.life,r.ap.ticket,r.ap.auth⟩=A.out:=by rw [← hA]
 unfold tgsServe at ho
 dsimp only at ho
 by_cases h4:t.client.realm=r.ap.realm
 case neg=>rw [if_pos h4] at ho;rw [← ho] at h;cases h
 rw [if_neg (by simpa using h4)] at ho
 by_cases h5:r.service=krbtgt∧t.client.realm≠d.realm
 ·rw [if_pos h5] at ho;rw [← ho] at h;cases h
 rw [if_neg h5] at ho
 by_cases h6:(svc d cross r.service r.inst now).err=0
 case neg=>rw [if_pos h6] at ho;rw [← ho] at h;cases h
 rw [if_neg (by simpa using h6)] at ho
 unfold tgsGive at ho
 dsimp only at ho
 obtain ⟨⟨L,q⟩,hL⟩:∃ L,tgsLife now r.life (svc d cross r.service r.inst now).life (svc d cross r.service r.inst now).expires t.issued t.life=L:=⟨_,rfl⟩
 rw [hL] at ho
 dsimp only at ho
 cases q
 ·rw [if_pos rfl] at ho;rw [← ho] at h;cases h
 rw [if_neg (by simp)] at ho
 by_cases h7:classOf se=2
 case neg=>rw [if_pos h7] at ho;rw [← ho] at h;cases h
 rw [if_neg (by simpa using h7)] at ho
 by_cases h8:(grant d.realm t.client ⟨r.service,r.inst,d.realm⟩ t.address li now L se t.session (svc d cross r.service r.inst now).key (svc d cross r.service r.inst now).kvno).err=0
 case neg=>rw [if_pos h8] at ho;rw [← ho] at h;cases h
 rw [if_neg (by simpa using h8)] at ho
 by_cases h9:(sealReply ⟨li,t.client,r.time,0,0,[]⟩ (grant d.realm t.client ⟨r.service,r.inst,d.realm⟩ t.address li now L se t.session (svc d cross r.service r.inst now).key (svc d cross r.service r.inst now).kvno).part t.session).err=0
 case neg=>rw [if_pos h9] at ho;rw [← ho] at h;cases h
 rw [if_neg (by simpa using h9)] at ho
 rw [Zz] at h1
 exact ⟨r,t,a,L,h1.1,hreq,hT,h4,h5,hL,h7,h8,h9,ho.symm,hs⟩
theorem crossLoop_kv (l:Bytes):∀ (f:Nat) (p:Int) (acc:List Cross),(∀ x∈acc,isKv x=true)→∀ x∈crossLoop l f p acc,isKv x=true
 | 0,p,acc,g=>g
 | f+1,p,acc,g=>by
  unfold crossLoop
  split
  ·refine crossLoop_kv l f _ _ fun x hx=> ?_
   rcases List.mem_append.1 hx with hx | hx
   ·exact g x hx
   ·rw [List.mem_singleton.1 hx]
    have h2:=next_bd l (cr2 l p) 4
    unfold isKv dataCr
    simp only [Zz,decide_eq_true_eq]
    omega
  ·exact g
theorem goodCross_kv (l:Bytes):(goodCross l).all isKv=true:=by
 rw [List.all_eq_true]
 have:∀ (a out:List Cross),(∀ x∈a,isKv x=true)→(∀ y∈out,isKv y=true)→∀ y∈a.foldl crossStep out,isKv y=true:=fun a=>by
  induction a with
  | nil=>exact fun out _ h=>h
  | cons y r ih =>
   refine fun out ha h=>ih _ (fun x hx=>ha x (List.mem_cons_of_mem _ hx)) ?_
   unfold crossStep
   split
   ·exact h
   ·intro x hx
    rcases List.mem_append.1 hx with hx | hx
    ·exact h x hx
    ·rw [List.mem_singleton.1 hx];exact ha y (List.mem_cons_self ..)
 exact this _ [] (crossLoop_kv l _ _ _ (by simp)) (by simp)
theorem tgs_s (d:Db) (cross:List Cross) (s:Server) (now ad:Int) (li:Bool) (se:Int) (msg:Bytes):(tgsAnswer d cross s now ad li se msg).s=s∨∃ m,Added s.replay m now s.skew∧(tgsAnswer d cross s now ad li se msg).s={ s with replay:=(addMark s.replay m now s.skew).val }:=by
 unfold tgsAnswer
 split
 ·exact .inl rfl
 split
 ·exact .inl rfl
 unfold tgsAsk
 split
 ·split
  ·exact .inl rfl
  ·exact .inl rfl
 ·rename_i h
  obtain ⟨t,a,hT⟩:=taken (by simpa using h)
  right
  refine ⟨markOf a,hT.add,?_⟩
  dsimp only
  rw [hT.is]
  rfl
theorem tgs_sound {d:Db} {cross:List Cross} {s:Server} {now ad:Int} {li:Bool} {se:Int} {msg:Bytes} (h:Sound s):Sound (tgsAnswer d cross s now ad li se msg).s:=by
 rcases tgs_s d cross s now ad li se msg with e | ⟨m,hm,e⟩
 ·rw [e];exact h
 ·rw [e]
  have hr:=rcErr_iff.1 (add_err hm)
  exact ⟨h.keys,fun c hc=>markOk (hr.2.2.2.1 c hc) hr.2.1.1,h.name,h.lens.1,by dsimp only;omega⟩
theorem refuse_len19 (c:Prin) (code now:Int) (li:Bool):(refuse c code now li).length≤3000:=Nat.le_trans (encodeError_len _) (by decide)
theorem sealReply_len (r:KdcReply) (p:ReplyPart) (k:Int):(sealReply r p k).val.length≤3000:=by
 unfold sealReply
 split
 ·simp
 split
 ·simp
 ·exact Nat.le_trans (encReply_len _) (by decide)
theorem tgs_out_len (d:Db) (cross:List Cross) (s:Server) (now ad:Int) (li:Bool) (se:Int) (msg:Bytes):(tgsAnswer d cross s now ad li se msg).out.answer.length≤140737488355328:=by
 have h3:∀ b:Bytes,b.length≤3000→b.length≤140737488355328:=fun b h=>by omega
 refine h3 _ ?_
 unfold tgsAnswer
 split
 ·simp
 split
 ·simp
 unfold tgsAsk
 split
 ·split
  ·simp
  ·exact refuse_len19 _ _ _ _
 ·unfold tgsServe
  split
  ·exact refuse_len19 _ _ _ _
  split
  ·exact refuse_len19 _ _ _ _
  split
  ·exact refuse_len19 _ _ _ _
  unfold tgsGive
  split
  ·exact refuse_len19 _ _ _ _
  split
  ·exact refuse_len19 _ _ _ _
  split
  ·simp
  split
  ·simp
  ·exact sealReply_len _ _ _
theorem tmsg_len (a:TAsk) (cs:List Cross):(a.msg cs).length≤1000000:=by
 have h1:=tgs_len (a.case_.tgsReq (a.key cs).service (a.key cs).key (a.key cs).kvno 5 (u8i a.life) a.want)
 have h2:(a.base cs).length≤800:=h1
 unfold TAsk.msg
 split
 ·have:=spoil_len (a.base cs) (a.how / 8)
  omega
 ·omega
structure Bound19 (d:Db) (z:TAsk) (se:Int) (O:TgsOut) (Y:KdcReply) (body:Bytes) (P:ReplyPart) (T:Ticket):Prop where
 reply:decodeReply O.out.answer=⟨Y,0⟩
 box:openBox Y.sealed 3 z.case_.ses=(body,true)
 part:decodePart body Y.little=⟨P,0⟩
 s1:P.session=se
 s2:O.out.issue.granter=z.case_.ses
 s3:O.out.issue.sealer=z.case_.ses
 s4:O.out.issue.session=se
 stop:O.out.issue.stop≤1000+u8i z.case_.issued*8+300*(u8i z.case_.life / 4+1)
 client:O.out.issue.client=z.case_.who
 yc:Y.client=z.case_.who
 service:O.out.issue.service=P.service
 home:P.service.name=krbtgt→z.case_.who.realm=d.realm
 r1:(readBox P.ticket).err=0
 tk:decodeTicket (readBox P.ticket).box.body=⟨T,0⟩
 t1:T.address=u8i z.case_.address % 3
 t2:T.client=z.case_.who
 t3:T.session=se
 t4:T.issued+300*(T.life+1)=O.out.issue.stop
 t5:(0≤T.issued∧T.issued≤4294967295)∧0≤T.life∧T.life≤255
 lens:Y.sealed.length≤140737488355328∧body.length≤140737488355328∧P.ticket.length≤140737488355328∧(readBox P.ticket).box.body.length≤140737488355328
theorem tkey_bd (z:TAsk) {xs:List Cross} (hx:∀ x∈xs,x.ok):0≤(z.key xs).key∧(z.key xs).key<18446744073709551616:=by
 unfold TAsk.key
 split
 ·rename_i h
  exact isU64_iff.1 (hx _ (mem_row (d:=noCross) (Nat.mod_lt _ h.2))).2.2.2
 ·exact long_bd 3
theorem bound19 {d:Db} {xs:List Cross} {s:Server} {now ad:Int} {li:Bool} {se:Int} {z:TAsk} (hz:z.how=0) (hz2:z.case_.ticket=0) (hd:d.ok) (hx:∀ x∈xs,x.ok) (hse:0≤se∧se<18446744073709551616)
  (h:(tgsAnswer d xs s now ad li se (z.msg xs)).out.ok=true):∃ Y body P T,Bound19 d z se (tgsAnswer d xs s now ad li se (z.msg xs)) Y body P T:=by
 obtain ⟨r,t,a,L,hI⟩:=tissued h
 obtain ⟨O,hO⟩:∃ O,tgsAnswer d xs s now ad li se (z.msg xs)=O:=⟨_,rfl⟩
 rw [hO] at hI ⊢
 have hm:z.msg xs=(encodeTgs (z.case_.tgsReq (z.key xs).service (z.key xs).key (z.key xs).kvno 5 (u8i z.life) z.want)).val:=by
  unfold TAsk.msg
  rw [hz,if_neg (by decide)]
  rfl
 obtain ⟨R,hR⟩:∃ R,z.case_.tgsReq (z.key xs).service (z.key xs).key (z.key xs).kvno 5 (u8i z.life) z.want=R:=⟨_,rfl⟩
 rw [hR] at hm
 have hreq:=hI.req
 rw [hm] at hreq
 have hen:(encodeTgs R).err=0:=by
  by_cases q:(encodeTgs R).err=0
  ·exact q
  ·rw [encTgs_no q] at hreq
   exact absurd (congrArg Dec.err hreq) tgs_nil
 rw [decodeTgs_back hen] at hreq
 have hrR:r=R:=(congrArg Dec.val hreq).symm
 have hT:=hI.taken
 have htk:=hT.tkt
 have hRt:R.ap.ticket=(sealTicket (z.case_.tkt (z.key xs).service) (z.key xs).key).val:=by
  rw [← hR]
  show (if z.case_.ticket % 16=15 then spoil (z.case_.x (z.key xs).service (z.key xs).key) (z.case_.ticket / 16) else z.case_.x (z.key xs).service (z.key xs).key)=_
  rw [hz2,if_neg (by decide)]
  rfl
 rw [hrR,hRt] at htk
 have htt:=(sealed_ticket z.case_.ses_bd (tkey_bd z hx) htk).1
 have t1:t.client=z.case_.who:=by rw [htt];rfl
 have t2:t.session=z.case_.ses:=by rw [htt];rfl
 have t3:t.address=u8i z.case_.address % 3:=by rw [htt];rfl
 have t4:t.issued=1000+u8i z.case_.issued*8:=by rw [htt];rfl
 have t5:t.life=u8i z.case_.life / 4:=by rw [htt];rfl
 have hst:=stateErr_ok hT.state
 obtain ⟨V,hV⟩:∃ V,svc d xs r.service r.inst now=V:=⟨_,rfl⟩
 have hv:=svc_okX (d:=d) (cs:=xs) (n:=r.service) (i:=r.inst) (now:=now) hd hx
 have hgr:=hI.gr
 have hsl:=hI.sl
 have his:=hI.is
 have hlf:=hI.life
 rw [hV] at hgr hsl his hlf hv
 have hv1:=isU64_iff.1 hv.1
 obtain ⟨g1,g2,g3⟩:=grant_inv hgr
 rw [g3] at hsl his
 dsimp only at hsl his
 obtain ⟨T,hTk⟩:∃ T,grantTkt li t.client ⟨r.service,r.inst,d.realm⟩ t.address now L se=T:=⟨_,rfl⟩
 have T1:T.client=t.client:=by rw [← hTk];rfl
 have T2:T.session=se:=by rw [← hTk];rfl
 have T3:T.address=t.address:=by rw [← hTk];rfl
 have T6:T.issued=now:=by rw [← hTk];rfl
 have T7:T.life=L:=by rw [← hTk];rfl
 rw [hTk] at g1 g2 hsl his
 obtain ⟨e1,e2,e3⟩:=seal_inv g1
 have hop:=openBox_back hv1.1 hv1.2 e2
 rw [← e3] at hop
 have hob:=openBox_inv hop
 have htd:=ticket_dec (t:=T) (by rw [T2];exact hse.1) (by rw [T2];exact hse.2) e1
 have htl:=sealTicket_len T V.key
 have hbdl:(encodeTicket T).val.length≤1000:=by
  have:=e2
  unfold makeBox at this
  split at this
  ·cases this
  split at this
  ·cases this
  split at this
  ·cases this
  ·omega
 obtain ⟨X,hX⟩:∃ X,(sealTicket T V.key).val=X:=⟨_,rfl⟩
 rw [hX] at g2 hsl his hob htl
 obtain ⟨P,hP⟩:∃ P,ReplyPart.mk se ⟨r.service,r.inst,d.realm⟩ L V.kvno X now=P:=⟨_,rfl⟩
 have P1:P.session=se:=by rw [← hP]
 have P2:P.ticket=X:=by rw [← hP]
 have P3:P.service=⟨r.service,r.inst,d.realm⟩:=by rw [← hP]
 rw [hP] at g2 hsl his
 obtain ⟨r1,r2,r3,r4⟩:=sealReply_inv hsl
 dsimp only at r1 r2 r3 r4
 have hki:=z.case_.ses_bd
 rw [t2] at r2 r3 r4
 have hpl:=encodePart_len P li
 have hpb:=part_back (r:=P) (little:=li) (by rw [P1];exact hse.1) (by rw [P1];exact hse.2) r1
 obtain ⟨B,hB⟩:∃ B,(encodePart P li).val=B:=⟨_,rfl⟩
 rw [hB] at r2 r3 r4 hpl hpb
 have hbl:=makeBox_len 3 z.case_.ses B
 have hbb:=openBox_back hki.1 hki.2 r2
 obtain ⟨Z,hZ⟩:∃ Z,(makeBox 3 z.case_.ses B).val=Z:=⟨_,rfl⟩
 rw [hZ] at r3 r4 hbl hbb
 obtain ⟨Y,hY⟩:∃ Y,KdcReply.mk li t.client r.time 0 0 Z=Y:=⟨_,rfl⟩
 have Y1:Y.client=t.client:=by rw [← hY]
 have Y3:Y.sealed=Z:=by rw [← hY]
 have Y4:Y.little=li:=by rw [← hY]
 rw [hY] at r3 r4
 have hrb:=reply_back r3
 have hA:O.out.answer=(encodeReply Y).val:=by rw [his];show (sealReply _ _ t.session).val=_;rw [t2];exact congrArg Enc.val r4
 have hw:=grantLife_want hlf
 have hL2:(grantLife now (imin r.life V.life) (tgsEnds V.expires t.issued t.life)).2=true:=congrArg Prod.snd hlf
 have hL1:(grantLife now (imin r.life V.life) (tgsEnds V.expires t.issued t.life)).1=L:=congrArg Prod.fst hlf
 have hle:=grantLife_le hL2 (e:=tEnd t.issued t.life) (List.mem_cons_self ..)
 rw [hL1] at hle
 have hte:tEnd now L=now+300*(L+1):=by
  unfold tEnd
  rw [if_pos (by rw [hI.now_,within_iff.2 ⟨hw.2.1,hw.2.2⟩];rfl)]
 have hte2:tEnd t.issued t.life=t.issued+300*(t.life+1):=by
  unfold tEnd
  rw [if_pos (by rw [within_iff.2 hst.1,within_iff.2 hst.2.1];rfl)]
 have hso:O.out.issue.stop=tEnd now L:=by rw [his]
 refine ⟨Y,B,P,T,?_⟩
 constructor
 ·rw [hA];exact hrb
 ·rw [Y3];exact hbb
 ·rw [Y4];exact hpb
 ·exact P1
 ·rw [his];exact t2
 ·rw [his];exact t2
 ·rw [his]
 ·rw [hso,← t4,← t5,← hte2];exact hle
 ·rw [his];exact t1
 ·rw [Y1,t1]
 ·rw [his,P3]
 ·intro hk
  rw [P3] at hk
  have:=hI.home
  rw [t1] at this
  exact Decidable.byContradiction fun q=>this ⟨hk,q⟩
 ·rw [P2];exact hob.1
 ·rw [P2,hob.2];exact htd
 ·rw [T3,t3]
 ·rw [T1,t1]
 ·exact T2
 ·rw [hso,hte,T6,T7]
 ·rw [T6,T7];exact ⟨within_iff.1 hI.now_,hw.2⟩
 ·rw [Y3,P2,hob.2];omega
theorem tgs_keeps (d:Db) (cross:List Cross) (s:Server) (now ad:Int) (li:Bool) (se:Int) (msg:Bytes):(tgsAnswer d cross s now ad li se msg).s.me=s.me∧(tgsAnswer d cross s now ad li se msg).s.keys=s.keys∧(tgsAnswer d cross s now ad li se msg).s.replay.marks.length≤s.replay.marks.length+1:=by
 rcases tgs_s d cross s now ad li se msg with e | ⟨m,hm,e⟩
 ·rw [e];exact ⟨rfl,rfl,by omega⟩
 ·rw [e]
  refine ⟨rfl,rfl,?_⟩
  dsimp only
  rw [hm.is]
  have:=fresh_len s.replay now s.skew
  simp only [List.length_append,List.length_cons,List.length_nil]
  omega
end Kerb
