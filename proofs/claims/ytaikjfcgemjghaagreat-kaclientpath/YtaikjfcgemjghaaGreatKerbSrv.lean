/- Chapters 17 and 23: tickets that are granted, the servers of AFS. -/
import Derived.Test.YtaikjfcgemjghaaGreatKerbDb
import Derived.Test.YtaikjfcgemjghaaGreatKerbKac
import Derived.Test.YtaikjfcgemjghaaGreatKerbKaPlain
open Go.Abs.AV renaming int→Zz
namespace Kerb
open Go Go.Abs
set_option linter.unusedVariables false
def krbtgt:Bytes:=[107,114,98,116,103,116]
structure Svc where
 key:Int
 kvno:Int
 life:Int
 expires:Int
 err:Int
def svc (d:Db) (cross:List Cross) (n i:Bytes) (now:Int):Svc :=
 if n==krbtgt&&(validRealm i && !(i==d.realm)) then
  (if (findCross cross d.realm i).2 then ⟨(cross.getD (findCross cross d.realm i).1.toNat noCross).key,(cross.getD (findCross cross d.realm i).1.toNat noCross).kvno,255,0,0⟩ else ⟨0,0,0,0,8⟩)
 else if (serviceEnt d n i now).2≠0 then ⟨0,0,0,0,(serviceEnt d n i now).2⟩
 else ⟨(d.entries.getD (serviceEnt d n i now).1.toNat noEntry).key,(d.entries.getD (serviceEnt d n i now).1.toNat noEntry).kvno,(d.entries.getD (serviceEnt d n i now).1.toNat noEntry).maxLife,(d.entries.getD (serviceEnt d n i now).1.toNat noEntry).expires,0⟩
structure Issue where
 kind:Int
 server:Prin
 client:Prin
 service:Prin
 session:Int
 sealer:Int
 granter:Int
 text:Bytes
 issued:Int
 stop:Int
def noIssue:Issue:=⟨0,noPrin,noPrin,noPrin,0,0,0,[],0,0⟩
def Issue.cs (x:Issue):List AV:=[.int .i64 x.kind,.str x.server.name,.str x.server.inst,.str x.server.realm,.str x.client.name,.str x.client.inst,.str x.client.realm,.str x.service.name,.str x.service.inst,.str x.service.realm,.int .u64 x.session,.int .u64 x.sealer,.int .u64 x.granter,.bs x.text,.int .i64 x.issued,.int .i64 x.stop]
def Issue.same (a b:Issue):Bool:=a.kind==b.kind&&(a.server.eqb b.server&&(a.client.eqb b.client&&(a.service.eqb b.service&&(a.session==b.session&&(a.sealer==b.sealer&&(a.granter==b.granter&&(a.text==b.text&&(a.issued==b.issued&&a.stop==b.stop))))))))
structure Granted where
 issue:Issue
 part:ReplyPart
 err:Int
def grantTkt (little:Bool) (client service:Prin) (address now life session:Int):Ticket:=⟨little,client,address,session,life,now,service.name,service.inst⟩
def grant (realm:Bytes) (client service:Prin) (address:Int) (little:Bool) (now life session sealer target kvno:Int):Granted :=
 if (sealTicket (grantTkt little client service address now life session) target).err≠0 then ⟨noIssue,noPart,(sealTicket (grantTkt little client service address now life session) target).err⟩
 else if (encodePart ⟨session,service,life,kvno,(sealTicket (grantTkt little client service address now life session) target).val,now⟩ little).err≠0 then
  ⟨noIssue,noPart,(encodePart ⟨session,service,life,kvno,(sealTicket (grantTkt little client service address now life session) target).val,now⟩ little).err⟩
 else ⟨⟨0,tgs realm realm,client,service,session,sealer,0,(sealTicket (grantTkt little client service address now life session) target).val,now,tEnd now life⟩,⟨session,service,life,kvno,(sealTicket (grantTkt little client service address now life session) target).val,now⟩,0⟩
structure KaOut where
 db:Db
 answer:Bytes
 issue:Issue
 ok:Bool
def kaRefuse (op code:Int):Bytes:=(encodeKaReply ⟨op,code,[]⟩).val
def kaReplyDec (op:Int) (a:KaAnswer) (k:Int):Enc :=
 if (encodeKaAnswer a).err≠0 then ⟨[],(encodeKaAnswer a).err⟩ else if (makeBox 8 k (encodeKaAnswer a).val).err≠0 then ⟨[],(makeBox 8 k (encodeKaAnswer a).val).err⟩
 else encodeKaReply ⟨op,0,(makeBox 8 k (encodeKaAnswer a).val).val⟩
def kaReplySeal (op:Int) (a:KaAnswer) (k:Int):Bytes×Bool:=((kaReplyDec op a k).val,(kaReplyDec op a k).err==0)
def entAt (d:Db) (i:Int):Entry:=d.entries.getD i.toNat noEntry
def Entry.failed (e:Entry) (now:Int):Entry:=if 20≤e.fails+1 then { e with fails:=0,till:=imin (now+600) 4294967295 } else { e with fails:=e.fails+1 }
def kaFailed (d:Db) (i now:Int):Db:=setEnt d i ((entAt d i).failed now)
def kaClear (d:Db) (i:Int):Db:=setEnt d i { entAt d i with fails:=0 }
def ends2 (l:List Int) (t:Int):List Int:=if t=0 then l else l++[t]
def kaGive (op:Int) (label:Bytes) (time:Int) (realm:Bytes) (client service:Prin) (address now life session sealer target kvno:Int) (kind granter:Int):Bytes×Issue×Bool :=
 if (grant realm client service address false now life session sealer target kvno).err≠0 then ([],noIssue,false)
 else if (kaReplySeal op ⟨label,kaNext time,session,now,imin (tEnd now life) 4294967295,kvno,service,(grant realm client service address false now life session sealer target kvno).issue.text⟩ sealer).2=false then ([],noIssue,false)
 else ((kaReplySeal op ⟨label,kaNext time,session,now,imin (tEnd now life) 4294967295,kvno,service,(grant realm client service address false now life session sealer target kvno).issue.text⟩ sealer).1,{ (grant realm client service address false now life session sealer target kvno).issue with kind:=kind,granter:=granter },true)
def kaSecretOf (body label:Bytes) (now skew:Int):Dec KaSecret :=
 if (decodeKaSecret body).err≠0∨(decodeKaSecret body).val.label≠label then ⟨noKaSecret,80⟩
 else if near (decodeKaSecret body).val.time now skew=false then ⟨noKaSecret,37⟩ else ⟨(decodeKaSecret body).val,0⟩
def kaLife1 (d:Db) (c:Entry) (s:KaSecret) (now:Int):Int×Bool:=grantLife now (imin c.maxLife (svc d [] krbtgt d.realm now).life) (ends2 (ends2 [s.stop] c.expires) (svc d [] krbtgt d.realm now).expires)
def kaAuthenticate (d after:Db) (c:Entry) (op now address skew session:Int) (user:Prin) (body:Bytes):KaOut :=
 if (kaSecretOf body lGet now skew).err≠0 then ⟨d,kaRefuse op (kaSecretOf body lGet now skew).err,noIssue,false⟩
 else if (svc d [] krbtgt d.realm now).err≠0 then ⟨d,kaRefuse op (svc d [] krbtgt d.realm now).err,noIssue,false⟩
 else if (kaLife1 d c (kaSecretOf body lGet now skew).val now).2=false then ⟨d,kaRefuse op 3,noIssue,false⟩
 else if classOf session≠2 then ⟨d,kaRefuse op 10,noIssue,false⟩
 else
  let s:=(kaSecretOf body lGet now skew).val
  let v:=svc d [] krbtgt d.realm now
  let g:=kaGive op lGot s.time d.realm user (tgs d.realm d.realm) address now (kaLife1 d c s now).1 session c.key v.key v.kvno 3 0
  if g.2.2 then ⟨after,g.1,g.2.1,true⟩ else ⟨d,[],noIssue,false⟩
def kaChangePw (d after:Db) (i op now skew:Int) (body:Bytes):KaOut :=
 if (kaSecretOf body lChange now skew).err≠0 then ⟨d,kaRefuse op (kaSecretOf body lChange now skew).err,noIssue,false⟩
 else if classOf (kaSecretOf body lChange now skew).val.new≠1 then ⟨d,kaRefuse op 10,noIssue,false⟩
 else
  let s:=(kaSecretOf body lChange now skew).val
  let b:=kaReplySeal op ⟨lDone,kaNext s.time,0,0,0,0,noPrin,[]⟩ (entAt d i).key
  if b.2=false∨(rekey after i s.new).err≠0 then ⟨d,[],noIssue,false⟩ else ⟨(rekey after i s.new).val,b.1,noIssue,false⟩
def kaPresented (d:Db) (now address skew:Int) (r:KaRequest):Dec Ticket :=
 if r.realm≠d.realm then ⟨noTicket,35⟩
 else if (serviceEnt d krbtgt d.realm now).2≠0 then ⟨noTicket,(serviceEnt d krbtgt d.realm now).2⟩
 else if r.kvno≠(entAt d (serviceEnt d krbtgt d.realm now).1).kvno then ⟨noTicket,35⟩
 else if (openTicket r.ticket (entAt d (serviceEnt d krbtgt d.realm now).1).key).err≠0 then ⟨noTicket,31⟩
 else if (openTicket r.ticket (entAt d (serviceEnt d krbtgt d.realm now).1).key).val.service≠krbtgt∨(openTicket r.ticket (entAt d (serviceEnt d krbtgt d.realm now).1).key).val.inst≠d.realm then ⟨noTicket,35⟩
 else if (openTicket r.ticket (entAt d (serviceEnt d krbtgt d.realm now).1).key).val.client.realm≠d.realm then ⟨noTicket,36⟩
 else if (openTicket r.ticket (entAt d (serviceEnt d krbtgt d.realm now).1).key).val.address≠address then ⟨noTicket,38⟩
 else if stateErr (openTicket r.ticket (entAt d (serviceEnt d krbtgt d.realm now).1).key).val.issued (openTicket r.ticket (entAt d (serviceEnt d krbtgt d.realm now).1).key).val.life now skew≠0 then ⟨noTicket,stateErr (openTicket r.ticket (entAt d (serviceEnt d krbtgt d.realm now).1).key).val.issued (openTicket r.ticket (entAt d (serviceEnt d krbtgt d.realm now).1).key).val.life now skew⟩
 else ⟨(openTicket r.ticket (entAt d (serviceEnt d krbtgt d.realm now).1).key).val,0⟩
def kaLife2 (v:Svc) (t:Ticket) (s:KaSecret) (now:Int):Int×Bool:=grantLife now v.life (ends2 [s.stop,tEnd t.issued t.life] v.expires)
def kaGetTicket (d:Db) (now address skew session:Int) (r:KaRequest):KaOut :=
 if (kaPresented d now address skew r).err≠0 then ⟨d,kaRefuse 2 (kaPresented d now address skew r).err,noIssue,false⟩
 else if (openBox r.box 7 (kaPresented d now address skew r).val.session).2=false then ⟨d,kaRefuse 2 31,noIssue,false⟩
 else if (kaSecretOf (openBox r.box 7 (kaPresented d now address skew r).val.session).1 lTicket now skew).err≠0 then ⟨d,kaRefuse 2 (kaSecretOf (openBox r.box 7 (kaPresented d now address skew r).val.session).1 lTicket now skew).err,noIssue,false⟩
 else if (svc d [] r.service r.inst now).err≠0 then ⟨d,kaRefuse 2 (svc d [] r.service r.inst now).err,noIssue,false⟩
 else if (kaLife2 (svc d [] r.service r.inst now) (kaPresented d now address skew r).val (kaSecretOf (openBox r.box 7 (kaPresented d now address skew r).val.session).1 lTicket now skew).val now).2=false then ⟨d,kaRefuse 2 3,noIssue,false⟩
 else if classOf session≠2 then ⟨d,kaRefuse 2 10,noIssue,false⟩
 else
  let t:=(kaPresented d now address skew r).val
  let s:=(kaSecretOf (openBox r.box 7 t.session).1 lTicket now skew).val
  let v:=svc d [] r.service r.inst now
  let g:=kaGive 2 lGiven s.time d.realm t.client ⟨r.service,r.inst,d.realm⟩ t.address now (kaLife2 v t s now).1 session t.session v.key v.kvno 4 t.session
  ⟨d,g.1,g.2.1,g.2.2⟩
def kaByUser (d:Db) (now address skew session:Int) (r:KaRequest):KaOut :=
 if r.user.realm≠d.realm then ⟨d,kaRefuse r.op 8,noIssue,false⟩
 else if (clientEnt d r.user.name r.user.inst now).2≠0 then ⟨d,kaRefuse r.op (clientEnt d r.user.name r.user.inst now).2,noIssue,false⟩
 else if now<(entAt d (clientEnt d r.user.name r.user.inst now).1).till then ⟨d,kaRefuse r.op 81,noIssue,false⟩
 else if (openBox r.box 7 (entAt d (clientEnt d r.user.name r.user.inst now).1).key).2=false then ⟨kaFailed d (clientEnt d r.user.name r.user.inst now).1 now,kaRefuse r.op 62,noIssue,false⟩
 else
  let i:=(clientEnt d r.user.name r.user.inst now).1
  let body:=(openBox r.box 7 (entAt d i).key).1
  if r.op=1 then kaAuthenticate d (kaClear d i) (entAt d i) r.op now address skew session r.user body else kaChangePw d (kaClear d i) i r.op now skew body
def kaserver (d:Db) (now address skew session:Int) (msg:Bytes):KaOut :=
 if !(within now 4294967295&&within address 4294967295) then ⟨d,[],noIssue,false⟩
 else if (decodeKaRequest msg).err≠0 then ⟨d,[],noIssue,false⟩
 else if (decodeKaRequest msg).val.op=2 then kaGetTicket d now address skew session (decodeKaRequest msg).val
 else kaByUser d now address skew session (decodeKaRequest msg).val
theorem makeBox_len (kd k:Int) (b:Bytes):(makeBox kd k b).val.length≤12+b.length:=by
 unfold makeBox
 split
 ·simp
 split
 ·simp
 split
 ·simp
 ·simp [keyBytes_len,putN_len];omega
theorem sealTicket_len (t:Ticket) (k:Int):(sealTicket t k).val.length≤236:=by
 unfold sealTicket
 split
 ·simp
 ·have h1:=makeBox_len 1 k (encodeTicket t).val
  have h2:=encTicket_len t
  omega
theorem entAt_err {d:Db} {i:Int} (h:d.err=0) (h0:0≤i) (h1:i<d.entries.length):(entAt d i).err=0:=errs_all (Db.err_inv h).2.2 _ (ent_mem (by omega))
theorem Entry.clear_err {e:Entry} (h:e.err=0):({ e with fails:=0 }:Entry).err=0:=by
 obtain ⟨a1,a2,a3,a4,a5,a6,a7,a8,a9⟩:=Entry.err_inv h
 unfold Entry.err
 dsimp only
 rw [if_neg (by simp [a1,a2]),if_neg (by rcases a3 with a3 | a3<;>simp [a3]),if_neg (by simp [a4,a5,a6]),if_neg (by simp [a7,a8];decide)]
def KaSecret.bd (s:KaSecret):Prop:=(0≤s.time∧s.time≤4294967295)∧(0≤s.stop∧s.stop≤4294967295)∧0≤s.new∧s.new<18446744073709551616
theorem noSec_bd:noKaSecret.bd:=⟨⟨by decide,by decide⟩,⟨by decide,by decide⟩,by decide,by decide⟩
theorem kaSec_bd (b:Bytes):(decodeKaSecret b).val.bd:=by
 unfold decodeKaSecret decBy
 split
 ·exact noSec_bd
 ·show KaSecret.bd (pSec b).val
  unfold pSec
  dsimp only
  have h:=fun k p x hk=>pGet_bd b k p x hk
  have h2:=fun p x=>pKey_bd b p x
  cases timed (pBytes b 4 0 false).val
  ·have h1:=h 4 (pBytes b 4 0 false).pos (pBytes b 4 0 false).bad (by omega)
   exact ⟨⟨h1.1,Int.le_of_lt_add_one h1.2⟩,⟨Int.le_refl _,by show (0:Int)≤_;omega⟩,h2 _ _⟩
  ·have h1:=h 4 (pBytes b 4 0 false).pos (pBytes b 4 0 false).bad (by omega)
   refine ⟨⟨h1.1,Int.le_of_lt_add_one h1.2⟩,⟨(h 4 _ _ (by omega)).1,Int.le_of_lt_add_one (h 4 _ _ (by omega)).2⟩,?_⟩
   show (0:Int)≤0∧(0:Int)<_
   omega
theorem Svc.zero_ok (e:Int):isU64 (Svc.mk 0 0 0 0 e).key=true∧isI64 (Svc.mk 0 0 0 0 e).kvno=true∧isI64 (Svc.mk 0 0 0 0 e).life=true∧isI64 (Svc.mk 0 0 0 0 e).expires=true:=⟨rfl,rfl,rfl,rfl⟩
theorem svc_ok {d:Db} {n i:Bytes} {now:Int} (hd:∀ e∈d.entries,e.ok):isU64 (svc d [] n i now).key=true∧isI64 (svc d [] n i now).kvno=true∧isI64 (svc d [] n i now).life=true∧isI64 (svc d [] n i now).expires=true:=by
 unfold svc
 split
 ·have:(findCross [] d.realm i).2=false:=rfl
  rw [this]
  exact Svc.zero_ok 8
 split
 ·exact Svc.zero_ok _
 ·rename_i h
  obtain ⟨g1,g2⟩:=serv_lt (d:=d) (n:=n) (i:=i) (now:=now) (by simpa using h)
  obtain ⟨_,_,x3,x4,x5,x6,_⟩:=hd _ (ent_mem g2)
  exact ⟨x3,x4,x6,x5⟩
def Ticket.bd (t:Ticket):Prop:=t.client.name.length≤40∧t.client.inst.length≤40∧t.client.realm.length≤40∧isU64 t.session=true
theorem noTicket_bd:noTicket.bd:=⟨by decide,by decide,by decide,rfl⟩
theorem decTicket_bd (b:Bytes):(decodeTicket b).val.bd:=by
 unfold decodeTicket
 split
 ·exact noTicket_bd
 unfold decBy
 split
 ·exact noTicket_bd
 ·have h:=prin_len b (get b 0 1 false).next
  exact ⟨h.1,h.2.1,h.2.2,isU64_iff.2 (readTicket_bd b)⟩
theorem openTicket_bd (b:Bytes) (k:Int):(openTicket b k).val.bd:=by
 unfold openTicket
 split
 ·exact decTicket_bd _
 ·exact noTicket_bd
theorem tEnd_i64 (a b:Int):isI64 (tEnd a b)=true:=by
 rw [isI64_iff]
 unfold tEnd
 split
 ·rename_i h
  simp only [Bool.and_eq_true,within_iff] at h
  omega
 ·omega
def sameName (a b:Entry):Prop:=a.name=b.name∧a.inst=b.inst
def lessP (e:Entry):Option Entry→Bool
 | some q=>e.less q
 | none=>false
theorem errs_same:∀ {es fs:List Entry} {p q:Option Entry},es.length=fs.length→(∀ j,sameName (es.getD j noEntry) (fs.getD j noEntry))→(∀ f∈fs,f.err=0)→(match p,q with | none,none=>True | some a,some b=>sameName a b | _,_=>False)→entriesErr p es=0→entriesErr q fs=0
 | [],[],_,_,_,_,_,_,_=>by simp [entriesErr]
 | [],f::fs,_,_,hl,_,_,_,_=>by simp at hl
 | e::es,[],_,_,hl,_,_,_,_=>by simp at hl
 | e::es,f::fs,p,q,hl,hs,hf,hp,h=>by
  simp only [entriesErr] at h ⊢
  have hfe:f.err=0:=hf f (List.mem_cons_self ..)
  have hs0:sameName e f:=hs 0
  rw [if_neg (by simpa using hfe)]
  by_cases he:e.err=0
  case neg=>rw [if_pos he] at h;exact absurd h he
  rw [if_neg (by simpa using he)] at h
  have hm:lessP f q=lessP e p:=by
   cases p<;>cases q
   ·rfl
   ·cases hp
   ·cases hp
   ·simp only [lessP,Entry.less]
    rw [hp.1,hp.2,hs0.1,hs0.2]
  change (if lessP e p=true then 110 else entriesErr (some e) es)=0 at h
  change (if lessP f q=true then 110 else entriesErr (some f) fs)=0
  rw [hm]
  cases hc:lessP e p
  ·rw [hc,if_neg (by simp)] at h
   rw [if_neg (by simp)]
   exact errs_same (by simpa using hl) (fun j=>hs (j+1)) (fun x hx=>hf x (List.mem_cons_of_mem _ hx)) hs0 h
  ·rw [hc,if_pos rfl] at h;cases h
theorem setEnt_err {d:Db} {i:Int} {e:Entry} (h:d.err=0) (h0:0≤i) (h1:i<d.entries.length) (he:e.err=0) (hn:e.name=(entAt d i).name) (hi:e.inst=(entAt d i).inst):(setEnt d i e).err=0:=by
 obtain ⟨a1,a2,a3⟩:=Db.err_inv h
 unfold Db.err setEnt
 dsimp only
 rw [if_neg (by simp [a1]),if_neg (by simp;omega)]
 refine errs_same (by simp) (fun j=> ?_) (fun f hf=> ?_) (by trivial) a3
 ·by_cases hj:i.toNat=j
  ·subst hj
   have:(d.entries.set i.toNat e).getD i.toNat noEntry=e:=by
    rw [List.getD_eq_getElem?_getD,List.getElem?_set_self (by omega)];rfl
   rw [this]
   exact ⟨hn.symm,hi.symm⟩
  ·have:(d.entries.set i.toNat e).getD j noEntry=d.entries.getD j noEntry:=by
    rw [List.getD_eq_getElem?_getD,List.getElem?_set_ne hj,List.getD_eq_getElem?_getD]
   rw [this]
   exact ⟨rfl,rfl⟩
 ·rcases List.mem_or_eq_of_mem_set hf with hf | rfl
  ·exact errs_all a3 f hf
  ·exact he
theorem kaClear_err {d:Db} {i:Int} (h:d.err=0) (h0:0≤i) (h1:i<d.entries.length):(kaClear d i).err=0:=setEnt_err h h0 h1 (Entry.clear_err (entAt_err h h0 h1)) rfl rfl
def Db.ok (d:Db):Prop:=∀ e∈d.entries,e.ok
theorem setEnt_ok {d:Db} {i:Int} {e:Entry} (h:d.ok) (he:e.ok):(setEnt d i e).ok:=fun f hf=>by
 rcases List.mem_or_eq_of_mem_set hf with hf | rfl
 ·exact h f hf
 ·exact he
theorem noEntry_ok:noEntry.ok:=⟨by decide,by decide,rfl,rfl,rfl,rfl,rfl,rfl,rfl⟩
theorem entAt_ok {d:Db} {i:Int} (h:d.ok):(entAt d i).ok:=by
 unfold entAt
 by_cases hj:i.toNat<d.entries.length
 ·exact h _ (ent_mem hj)
 ·rw [List.getD_eq_getElem?_getD,List.getElem?_eq_none (by omega)];exact noEntry_ok
theorem all_ents {d:Db} (h:d.ok):(d.entries.map Entry.av).all isEntry=true:=ents_all h
theorem kaClear_len (d:Db) (i:Int):(kaClear d i).entries.length=d.entries.length:=by simp [kaClear,setEnt]
def KaRequest.bd (r:KaRequest):Prop:=(r.user.name.length≤40∧r.user.inst.length≤40∧r.user.realm.length≤40∧r.realm.length≤40∧r.service.length≤40∧r.inst.length≤40)∧kaOp r.op=true∧r.ticket.length≤255∧r.box.length≤1012
theorem kaReq_bd {b:Bytes} (h:(decodeKaRequest b).err=0):(decodeKaRequest b).val.bd:=by
 unfold decodeKaRequest at h ⊢
 by_cases h1:(headIs b [9]).2=0
 case neg=>rw [if_pos h1] at h;exact absurd h h1
 rw [if_neg (not_not_intro h1)] at h ⊢
 unfold decBy at h ⊢
 split at h
 ·cases h
 rename_i hn
 rw [if_neg hn]
 refine ⟨readKaReq_len b,?_⟩
 dsimp only
 have he:(encodeKaRequest (readKaReq b).1).err=0:=by
  by_cases hz:(encodeKaRequest (readKaReq b).1).err=0
  ·exact hz
  ·exact absurd (.inr (.inl hz)) hn
 rcases encKaReq_inv he with ⟨a1,_,_,_,_,a2,a3,_⟩ | ⟨a1,_,a3,_,_,a2,_⟩
 ·exact ⟨by rw [a1];rfl,a2,a3⟩
 ·exact ⟨by rcases a1 with a1 | a1<;>rw [a1]<;>rfl,by rw [a2];simp,a3⟩
theorem grant_is {realm:Bytes} {client service:Prin} {address:Int} {little:Bool} {now life session sealer target kvno:Int} (h:(grant realm client service address little now life session sealer target kvno).err=0) :
  ∃ X:Bytes,grant realm client service address little now life session sealer target kvno=⟨⟨0,tgs realm realm,client,service,session,sealer,0,X,now,tEnd now life⟩,⟨session,service,life,kvno,X,now⟩,0⟩:=by
 unfold grant at h ⊢
 split
 ·rename_i h1
  rw [if_pos h1] at h
  exact absurd h h1
 split
 ·rename_i h1 h2
  rw [if_neg h1,if_pos h2] at h
  exact absurd h h2
 ·exact ⟨_,rfl⟩
theorem kaSecOf_1 {b l:Bytes} {now sk:Int} (h:¬ (decodeKaSecret b).err=0):kaSecretOf b l now sk=⟨noKaSecret,80⟩:=by unfold kaSecretOf;rw [if_pos (.inl h)]
theorem kaSecOf_2 {b l:Bytes} {now sk:Int} (h:¬ (decodeKaSecret b).val.label=l):kaSecretOf b l now sk=⟨noKaSecret,80⟩:=by unfold kaSecretOf;rw [if_pos (.inr h)]
theorem kaSecOf_3 {b l:Bytes} {now sk:Int} (h1:(decodeKaSecret b).err=0) (h2:(decodeKaSecret b).val.label=l) (h:near (decodeKaSecret b).val.time now sk=false):kaSecretOf b l now sk=⟨noKaSecret,37⟩:=by
 unfold kaSecretOf
 rw [if_neg (by simp [h1,h2]),if_pos h]
theorem kaSecOf_4 {b l:Bytes} {now sk:Int} (h1:(decodeKaSecret b).err=0) (h2:(decodeKaSecret b).val.label=l) (h:near (decodeKaSecret b).val.time now sk=true):kaSecretOf b l now sk=⟨(decodeKaSecret b).val,0⟩:=by
 unfold kaSecretOf
 rw [if_neg (by simp [h1,h2]),if_neg (by simp [h])]
theorem ends_nest (s a b:Int):intsIn (if b=0 then (if a=0 then [Zz .i64 s] else [Zz .i64 s]++[Zz .i64 a]) else (if a=0 then [Zz .i64 s] else [Zz .i64 s]++[Zz .i64 a])++[Zz .i64 b])=ends2 (ends2 [s] a) b ∧
  allInts (if b=0 then (if a=0 then [Zz .i64 s] else [Zz .i64 s]++[Zz .i64 a]) else (if a=0 then [Zz .i64 s] else [Zz .i64 s]++[Zz .i64 a])++[Zz .i64 b])=true ∧
  List.length (if b=0 then (if a=0 then [Zz .i64 s] else [Zz .i64 s]++[Zz .i64 a]) else (if a=0 then [Zz .i64 s] else [Zz .i64 s]++[Zz .i64 a])++[Zz .i64 b])≤1000000:=by
 unfold ends2
 by_cases h1:a=0<;>by_cases h2:b=0<;>simp only [h1,h2,if_true,if_false]<;>exact ⟨rfl,rfl,by simp⟩
theorem ends_nest2 (s a b:Int):intsIn (if b=0 then [Zz .i64 s,Zz .i64 a] else [Zz .i64 s,Zz .i64 a]++[Zz .i64 b])=ends2 [s,a] b∧allInts (if b=0 then [Zz .i64 s,Zz .i64 a] else [Zz .i64 s,Zz .i64 a]++[Zz .i64 b])=true ∧
  List.length (if b=0 then [Zz .i64 s,Zz .i64 a] else [Zz .i64 s,Zz .i64 a]++[Zz .i64 b])≤1000000:=by
 unfold ends2
 by_cases h2:b=0<;>simp only [h2,if_true,if_false]<;>exact ⟨rfl,rfl,by simp⟩
theorem ends_i64 {l:List Int} {t:Int} (h:l.all isI64=true) (ht:isI64 t=true):(ends2 l t).all isI64=true:=by
 unfold ends2
 split
 ·exact h
 ·simp [h,ht]
theorem entAt_set {d:Db} {i:Int} {e:Entry} (h0:0≤i) (h1:i<d.entries.length):entAt (setEnt d i e) i=e:=by
 unfold entAt setEnt
 dsimp only
 rw [List.getD_eq_getElem?_getD,List.getElem?_set_self (by omega)]
 rfl
theorem setEnt_two {d:Db} {i:Int} {a b:Entry}:setEnt (setEnt d i a) i b=setEnt d i b:=by
 unfold setEnt
 simp [List.set_set]
theorem rekey_clear {d:Db} {i k:Int} (h:d.err=0) (h0:0≤i) (h1:i<d.entries.length):(rekey (kaClear d i) i k).err=(rekey d i k).err∧((rekey d i k).err=0→kaClear (rekey d i k).val i=(rekey (kaClear d i) i k).val):=by
 have hc:=kaClear_err h h0 h1
 have hl:=kaClear_len d i
 unfold rekey
 have q1:¬ (i<0∨(d.entries.length:Int)≤i):=by omega
 have q2:¬ (i<0∨((kaClear d i).entries.length:Int)≤i):=by omega
 rw [if_neg (not_not_intro h),if_neg (not_not_intro hc),if_neg q1,if_neg q2]
 cases hk:keyValid k
 ·rw [if_pos rfl,if_pos rfl]
  refine ⟨rfl,fun h=> ?_⟩
  cases h
 ·rw [if_neg (by simp),if_neg (by simp)]
  refine ⟨rfl,fun _=> ?_⟩
  dsimp only
  have e1:(kaClear d i).entries.getD i.toNat noEntry={ entAt d i with fails:=0 }:=entAt_set h0 h1
  have e2:d.entries.getD i.toNat noEntry=entAt d i:=rfl
  rw [e1,e2]
  show kaClear (setEnt d i ((entAt d i).rekeyed k)) i=setEnt (setEnt d i { entAt d i with fails:=0 }) i _
  rw [setEnt_two]
  unfold kaClear
  rw [entAt_set h0 h1,setEnt_two]
  rfl
theorem rekey_ok {d:Db} {i k:Int} (hd:d.ok) (hk:isU64 k=true) (h:(rekey d i k).err=0):(rekey d i k).val.ok∧(rekey d i k).val.entries.length=d.entries.length∧(rekey d i k).val.realm=d.realm:=by
 unfold rekey at h ⊢
 split
 ·rename_i h1
  rw [if_pos h1] at h
  exact absurd h h1
 rename_i h1
 rw [if_neg h1] at h
 split
 ·rename_i h2
  rw [if_pos h2] at h
  cases h
 rename_i h2
 rw [if_neg h2] at h
 split
 ·rename_i h3
  rw [if_pos h3] at h
  cases h
 obtain ⟨a1,a2,a3,a4,a5,a6,a7,a8,a9⟩:=entAt_ok (i:=i) hd
 refine ⟨setEnt_ok hd ⟨a1,a2,hk,?_,a5,a6,a7,a8,a9⟩,by simp [setEnt],rfl⟩
 rw [isI64_iff] at a4 ⊢
 show _≤(if (entAt d i).kvno<255 then (entAt d i).kvno+1 else 1)∧(if (entAt d i).kvno<255 then (entAt d i).kvno+1 else 1)≤_
 split<;>omega
theorem kaGetTicket_db (d:Db) (now ad sk se:Int) (r:KaRequest):(kaGetTicket d now ad sk se r).db=d:=by
 unfold kaGetTicket
 split
 ·rfl
 split
 ·rfl
 split
 ·rfl
 split
 ·rfl
 split
 ·rfl
 split
 ·rfl
 ·rfl
end Kerb
