/- Chapter 23, plain: how long a ticket lasts, and who can open the answer. -/
import Derived.Test.YtaikjfcgemjghaaGreatKerbSrvP
namespace Kerb
open Go Go.Abs
set_option linter.unusedVariables false
theorem least_mem:∀ (l:List Int) (a e:Int),e∈l→least a l≤e
 | [],a,e,h=>by cases h
 | b::l,a,e,h=>by
  rcases List.mem_cons.1 h with rfl | h
  ·exact Int.le_trans (least_le l (imin a e)) (imin_le a e).2
  ·exact least_mem l (imin a b) e h
theorem grantLife_le {now w:Int} {l:List Int} (h:(grantLife now w l).2=true) {e:Int} (he:e∈l):tEnd now (grantLife now w l).1≤e:=by
 have hb:=grantLife_bd h
 have hm:=least_mem l (now+300*(imin w 255+1)) e he
 unfold tEnd
 rw [within_iff.2 ⟨hb.2.2.1,hb.2.2.2⟩,within_iff.2 ⟨hb.1,hb.2.1⟩]
 simp only [Bool.and_self,if_true]
 unfold grantLife at h ⊢
 split at h
 ·cases h
 rename_i h1
 rw [if_neg h1]
 split at h
 ·cases h
 rename_i h2
 rw [if_neg h2]
 dsimp only
 have:=imin_le ((least (now+300*(imin w 255+1)) l-now) / 300-1) 255
 omega
theorem kaReply_no {op:Int} {a:KaAnswer} {k:Int} (h:(kaReplySeal op a k).2=true) :
  kaReplySeal op a k=((encodeKaReply ⟨op,0,(makeBox 8 k (encodeKaAnswer a).val).val⟩).val,true)∧(encodeKaReply ⟨op,0,(makeBox 8 k (encodeKaAnswer a).val).val⟩).err=0∧(makeBox 8 k (encodeKaAnswer a).val).err=0∧(encodeKaAnswer a).err=0:=by
 have h0:(kaReplyDec op a k).err=0:=by simpa [kaReplySeal] using h
 have hk:kaReplySeal op a k=((kaReplyDec op a k).val,true):=by unfold kaReplySeal;rw [h0];rfl
 rw [hk]
 unfold kaReplyDec at h0 ⊢
 split at h0
 ·rename_i h1;exact absurd h0 h1
 rename_i h1
 rw [if_neg h1]
 split at h0
 ·rename_i h2;exact absurd h0 h2
 rename_i h2
 rw [if_neg h2]
 exact ⟨rfl,h0,by simpa using h2,by simpa using h1⟩
theorem kaGive_inv {op:Int} {label:Bytes} {time:Int} {realm:Bytes} {client service:Prin} {address now life session sealer target kvno kind granter:Int}
  (h:(kaGive op label time realm client service address now life session sealer target kvno kind granter).2.2=true) :
  ∃ (X:Bytes) (A:KaAnswer),A=⟨label,kaNext time,session,now,imin (tEnd now life) 4294967295,kvno,service,X⟩ ∧
   kaGive op label time realm client service address now life session sealer target kvno kind granter=((encodeKaReply ⟨op,0,(makeBox 8 sealer (encodeKaAnswer A).val).val⟩).val,⟨kind,tgs realm realm,client,service,session,sealer,granter,X,now,tEnd now life⟩,true) ∧
   (encodeKaReply ⟨op,0,(makeBox 8 sealer (encodeKaAnswer A).val).val⟩).err=0∧(makeBox 8 sealer (encodeKaAnswer A).val).err=0∧(encodeKaAnswer A).err=0:=by
 unfold kaGive at h ⊢
 split at h
 ·cases h
 rename_i h1
 obtain ⟨X,hX⟩:=grant_is (Decidable.not_not.1 h1)
 rw [if_neg h1]
 split at h
 ·cases h
 rename_i h2
 rw [if_neg h2]
 rw [hX] at h2 ⊢
 dsimp only at h2 ⊢
 obtain ⟨r1,r2,r3,r4⟩:=kaReply_no (op:=op) (a:=⟨label,kaNext time,session,now,imin (tEnd now life) 4294967295,kvno,service,X⟩) (k:=sealer) (by simpa using h2)
 exact ⟨X,_,rfl,by rw [r1],r2,r3,r4⟩
theorem makeBox_no {kd k:Int} {b:Bytes} (h:(makeBox kd k b).err≠0):(makeBox kd k b).val=[]:=by
 unfold makeBox at h ⊢
 split
 ·rfl
 split
 ·rfl
 split
 ·rfl
 ·rename_i h1 h2 h3
  rw [if_neg h1,if_neg h2,if_neg h3] at h
  exact absurd rfl h
theorem openBox_nil (kd k:Int):(openBox [] kd k).2=false:=by
 unfold openBox
 rw [if_pos (.inl (by decide))]
theorem openBox_made {kd k k2:Int} {b:Bytes} (h0:0≤k) (h1:k<18446744073709551616) (h:(openBox (makeBox kd k b).val kd k2).2=true):k2=k∧(openBox (makeBox kd k b).val kd k2).1=b:=by
 by_cases he:(makeBox kd k b).err=0
 ·by_cases hk:k=k2
  ·subst hk
   exact ⟨rfl,by rw [openBox_back h0 h1 he]⟩
  ·rw [openBox_other h0 h1 he hk] at h;cases h
 ·rw [makeBox_no he,openBox_nil] at h;cases h
namespace KAsk
theorem key_bd (a:KAsk):0≤a.key∧a.key<18446744073709551616:=by
 unfold key
 split
 ·exact long_bd _
 split
 ·exact session_bd2 _
 split<;>exact long_bd _
theorem secret_bd (a:KAsk):0≤a.secret.new∧a.secret.new<18446744073709551616:=by
 unfold secret
 split
 ·dsimp only
  split
  ·exact session_bd2 _
  ·exact long_bd _
 ·exact ⟨by simp,by simp⟩
theorem req_dec {a:KAsk} (hw:a.w≠15) (h:(decodeKaRequest a.message).err=0):decodeKaRequest a.message=⟨a.req,0⟩:=by
 have hm:a.message=(encodeKaRequest a.req).val:=by unfold message;rw [if_neg hw]
 rw [hm] at h ⊢
 by_cases he:(encodeKaRequest a.req).err=0
 ·exact kaReq_dec he
 ·rw [encKaReq_no he] at h
  exact absurd h (by decide)
theorem sec_len (s:KaSecret):(encodeKaSecret s).val.length % 8=0:=by
 unfold encodeKaSecret
 split
 ·rfl
 split
 ·rfl
 split
 ·split
  ·rfl
  split
  ·rfl
  ·dsimp only
   rw [pad_len]
   omega
 ·split
  ·rfl
  split
  ·rfl
  ·dsimp only
   rw [pad_len]
   omega
theorem sec_dec {a:KAsk} (h:(decodeKaSecret a.body).err=0):decodeKaSecret a.body=⟨a.secret,0⟩:=by
 by_cases hw:a.w=3
 ·have hb:a.body=(encodeKaSecret a.secret).val++[0]:=by unfold body;rw [if_pos hw]
  unfold decodeKaSecret decBy at h
  split at h
  ·cases h
  ·rename_i hn
   have h1:(encodeKaSecret (readKaSec a.body).1).val=a.body:=by
    by_cases hz:(encodeKaSecret (readKaSec a.body).1).val=a.body
    ·exact hz
    ·exact absurd (.inr (.inr hz)) hn
   have h2:=sec_len (readKaSec a.body).1
   have h3:=sec_len a.secret
   rw [h1,hb,List.length_append] at h2
   simp only [List.length_cons,List.length_nil] at h2
   omega
 ·have hb:a.body=(encodeKaSecret a.secret).val:=by unfold body;rw [if_neg hw]
  rw [hb] at h ⊢
  by_cases he:(encodeKaSecret a.secret).err=0
  ·exact kaSec_dec a.secret_bd.1 a.secret_bd.2 he
  ·rw [encKaSec_no he] at h
   exact absurd h (by decide)
theorem sec_of {a:KAsk} {l:Bytes} {now sk:Int} (h:(kaSecretOf a.body l now sk).err=0):kaSecretOf a.body l now sk=⟨a.secret,0⟩∧a.secret.label=l:=by
 unfold kaSecretOf at h ⊢
 split at h
 ·cases h
 rename_i h1
 rw [if_neg h1]
 split at h
 ·cases h
 rename_i h2
 rw [if_neg h2]
 have hd:=sec_dec (a:=a) (by
  by_cases hz:(decodeKaSecret a.body).err=0
  ·exact hz
  ·exact absurd (.inl hz) h1)
 rw [hd] at h1 ⊢
 refine ⟨rfl,?_⟩
 by_cases hz:a.secret.label=l
 ·exact hz
 ·exact absurd (.inr hz) h1
theorem secret_timed {a:KAsk} {l:Bytes} (h:a.secret.label=l) (hl:l≠lChange):a.secret=⟨l,1000+u8i a.time,1000+u8i a.time,1000+u8i a.time+u8i a.stop*50,0⟩:=by
 unfold secret at h ⊢
 split
 ·rename_i h1
  rw [if_pos h1] at h
  dsimp only at h
  rw [h1] at h
  exact absurd h.symm hl
 ·rename_i h1
  rw [if_neg h1] at h
  dsimp only at h
  rw [h]
  rfl
theorem tkt_bd (a:KAsk):0≤a.tkt.session∧a.tkt.session<18446744073709551616:=session_bd2 _
theorem tkt_of {a:KAsk} {k:Int} (h:(openTicket a.sealed k).err=0):openTicket a.sealed k=⟨a.tkt,0⟩:=by
 unfold openTicket at h ⊢
 cases ho:(openBox a.sealed 1 k).2
 ·rw [ho] at h;cases h
 rw [ho] at h
 rw [if_pos rfl] at h ⊢
 unfold sealed sealTicket at ho h ⊢
 by_cases he:(encodeTicket a.tkt).err=0
 ·rw [if_neg (by simpa using he)] at ho h ⊢
  have hb:0≤(if a.w=8 then long 4 else long 3)∧(if a.w=8 then long 4 else long 3)<18446744073709551616:=by split<;>exact long_bd _
  rw [(openBox_made hb.1 hb.2 ho).2]
  exact ticket_dec a.tkt_bd.1 a.tkt_bd.2 he
 ·rw [if_pos he,openBox_nil] at ho
  cases ho
end KAsk
end Kerb
namespace Kerb
open Go Go.Abs
structure Bound (a:KAsk) (d:Db) (ad se:Int) (o:KaOut) (R:KaReply) (Y:KaAnswer) (k:Int):Prop where
 dec:decodeKaReply o.answer=⟨R,0⟩
 len:o.answer.length≤1000000
 code:R.code=0
 opens:(openBox R.box 8 k).2=true
 says:decodeKaAnswer (openBox R.box 8 k).1=⟨Y,0⟩
 ses:Y.session=se
 ises:o.issue.session=se
 sealr:o.issue.sealer=k
 time:Y.time=1000+u8i a.time+1
 start:Y.start=1100
 stop:Y.stop=o.issue.stop
 most:o.issue.stop≤1000+u8i a.time+u8i a.stop*50
 client:o.issue.client=user (u8i a.user % 3)
 kind:(o.issue.kind=3∧k=(entAt d (findEnt d.entries o.issue.client.name o.issue.client.inst).1).key∧0≤(findEnt d.entries o.issue.client.name o.issue.client.inst).1∧(findEnt d.entries o.issue.client.name o.issue.client.inst).1<d.entries.length) ∨
  (o.issue.kind=4∧k=session (u8i a.session % 4)∧o.issue.stop≤1000+u8i a.issued+300*(u8i a.life % 40+1)∧u8i a.address % 2=ad∧o.issue.granter=k)
theorem answer_of {op:Int} {A:KaAnswer} {k:Int} (hk:0≤k∧k<18446744073709551616) (hs:0≤A.session∧A.session<18446744073709551616) (h1:(encodeKaReply ⟨op,0,(makeBox 8 k (encodeKaAnswer A).val).val⟩).err=0) (h2:(makeBox 8 k (encodeKaAnswer A).val).err=0) (h3:(encodeKaAnswer A).err=0) :
  decodeKaReply (encodeKaReply ⟨op,0,(makeBox 8 k (encodeKaAnswer A).val).val⟩).val=⟨⟨op,0,(makeBox 8 k (encodeKaAnswer A).val).val⟩,0⟩∧(openBox (makeBox 8 k (encodeKaAnswer A).val).val 8 k).2=true∧decodeKaAnswer (openBox (makeBox 8 k (encodeKaAnswer A).val).val 8 k).1=⟨A,0⟩:=by
 have ho:=openBox_back hk.1 hk.2 h2
 exact ⟨kaRep_dec h1,by rw [ho],by rw [ho];exact kaAns_dec hs.1 hs.2 h3⟩
theorem stop_small {now:Int} {l:List Int} {w e:Int} (h:(grantLife now w l).2=true) (he:e∈l) (hs:e≤4294967295):imin (tEnd now (grantLife now w l).1) 4294967295=tEnd now (grantLife now w l).1:=by
 have:=grantLife_le h he
 unfold imin
 split<;>omega
theorem far_realm {n:Int} (h0:3≤n) (h1:n≤8):(user n).realm≠[65,84,72]:=by
 have:n=3∨n=4∨n=5∨n=6∨n=7∨n=8:=by omega
 rcases this with rfl | rfl | rfl | rfl | rfl | rfl<;>decide
theorem presented_inv {d:Db} {now ad sk:Int} {r:KaRequest} (h:(kaPresented d now ad sk r).err=0) :
  ∃ k,(openTicket r.ticket k).err=0∧kaPresented d now ad sk r=⟨(openTicket r.ticket k).val,0⟩∧(openTicket r.ticket k).val.client.realm=d.realm∧(openTicket r.ticket k).val.address=ad:=by
 unfold kaPresented at h ⊢
 split at h
 ·cases h
 rename_i h1
 rw [if_neg h1]
 split at h
 ·rename_i h2;exact absurd h h2
 rename_i h2
 rw [if_neg h2]
 split at h
 ·cases h
 rename_i h3
 rw [if_neg h3]
 split at h
 ·cases h
 rename_i h4
 rw [if_neg h4]
 split at h
 ·cases h
 rename_i h5
 rw [if_neg h5]
 split at h
 ·cases h
 rename_i h6
 rw [if_neg h6]
 split at h
 ·cases h
 rename_i h7
 rw [if_neg h7]
 split at h
 ·rename_i h8;exact absurd h h8
 rename_i h8
 rw [if_neg h8]
 exact ⟨_,Decidable.not_not.1 h4,rfl,Decidable.not_not.1 h6,Decidable.not_not.1 h7⟩
theorem ends2_mem {l:List Int} {t e:Int} (h:e∈l):e∈ends2 l t:=by
 unfold ends2
 split
 ·exact h
 ·exact List.mem_append_left _ h
theorem give_bound {a:KAsk} {d after:Db} {ad se:Int} {op:Int} {label:Bytes} {client service:Prin} {w sealer target kvno kind granter:Int} {l:List Int} (hse:0≤se∧se<18446744073709551616) (hk:0≤sealer∧sealer<18446744073709551616)
  (hl:(grantLife 1100 w l).2=true) (he:1000+u8i a.time+u8i a.stop*50∈l) (hc:client=user (u8i a.user % 3))
  (hkind:∀ s,s=tEnd 1100 (grantLife 1100 w l).1→(kind=3∧sealer=(entAt d (findEnt d.entries client.name client.inst).1).key∧0≤(findEnt d.entries client.name client.inst).1∧(findEnt d.entries client.name client.inst).1<d.entries.length) ∨
   (kind=4∧sealer=session (u8i a.session % 4)∧s≤1000+u8i a.issued+300*(u8i a.life % 40+1)∧u8i a.address % 2=ad∧granter=sealer))
  {realm:Bytes} {address:Int} (h:(kaGive op label (1000+u8i a.time) realm client service address 1100 (grantLife 1100 w l).1 se sealer target kvno kind granter).2.2=true) :
  ∃ R Y k,Bound a d ad se ⟨after,(kaGive op label (1000+u8i a.time) realm client service address 1100 (grantLife 1100 w l).1 se sealer target kvno kind granter).1,(kaGive op label (1000+u8i a.time) realm client service address 1100 (grantLife 1100 w l).1 se sealer target kvno kind granter).2.1,true⟩ R Y k:=by
 have bt:=u8i_bd a.time
 have bp:=u8i_bd a.stop
 obtain ⟨X,A,hA,g1,g2,g3,g4⟩:=kaGive_inv h
 obtain ⟨q1,q2,q3⟩:=answer_of hk (by rw [hA];exact hse) g2 g3 g4
 have hs:=stop_small hl he (by omega)
 have hm:=grantLife_le hl he
 rw [g1]
 refine ⟨_,A,sealer,q1,by have:=encKaRep_len ⟨op,0,(makeBox 8 sealer (encodeKaAnswer A).val).val⟩;dsimp only;omega,rfl,q2,q3,by rw [hA],rfl,rfl,?_,by rw [hA],?_,hm,hc,hkind _ rfl⟩
 ·rw [hA]
  show kaNext (1000+u8i a.time)=_
  unfold kaNext
  omega
 ·rw [hA];exact hs
theorem kaserver_bound {a:KAsk} {d:Db} {ad sk se:Int} (hw:a.w≠15) (hr:d.realm=[65,84,72]) (hok:d.ok) (hse:0≤se∧se<18446744073709551616) (h:(kaserver d 1100 ad sk se a.message).ok=true) :
  ∃ R Y k,Bound a d ad se (kaserver d 1100 ad sk se a.message) R Y k:=by
 have bt:=u8i_bd a.time
 have bp:=u8i_bd a.stop
 have bu:=u8i_bd a.user
 have bi:=u8i_bd a.issued
 have bl:=u8i_bd a.life
 unfold kaserver at h ⊢
 split at h
 ·cases h
 rename_i h1
 rw [if_neg h1]
 split at h
 ·cases h
 rename_i h2
 rw [if_neg h2]
 have hd:=KAsk.req_dec hw (Decidable.not_not.1 h2)
 rw [hd] at h ⊢
 dsimp only at h ⊢
 have hk12:=a.kop_bd
 split at h
 ·rename_i hop
  rw [if_pos hop]
  have hk:a.kop=2:=by
   by_cases hz:a.kop=2
   ·exact hz
   ·unfold KAsk.req at hop;rw [if_neg hz] at hop;exact hop
  have e1:a.req.ticket=a.sealed:=by unfold KAsk.req;rw [if_pos hk]
  have e2:a.req.box=a.box:=by unfold KAsk.req;rw [if_pos hk]
  unfold kaGetTicket at h ⊢
  split at h
  ·cases h
  rename_i h3
  rw [if_neg h3]
  obtain ⟨k0,p1,p2,p3,p4⟩:=presented_inv (Decidable.not_not.1 h3)
  rw [e1] at p1 p2 p3 p4
  rw [KAsk.tkt_of p1] at p2 p3 p4
  dsimp only at p2 p3 p4
  rw [p2,e2] at h ⊢
  dsimp only at h ⊢
  split at h
  ·cases h
  rename_i h4
  rw [if_neg h4]
  have hkb:=a.key_bd
  obtain ⟨k1,k2⟩:=openBox_made hkb.1 hkb.2 (show (openBox (makeBox 7 a.key a.body).val 7 a.tkt.session).2=true by
   cases hz:(openBox (makeBox 7 a.key a.body).val 7 a.tkt.session).2
   ·exact absurd hz h4
   ·rfl)
  change (openBox a.box 7 a.tkt.session).1=a.body at k2
  rw [k2] at h ⊢
  split at h
  ·cases h
  rename_i h5
  rw [if_neg h5]
  obtain ⟨s1,s2⟩:=KAsk.sec_of (Decidable.not_not.1 h5)
  rw [s1,KAsk.secret_timed s2 (by decide)] at h ⊢
  dsimp only at h ⊢
  split at h
  ·cases h
  rename_i h6
  rw [if_neg h6]
  split at h
  ·cases h
  rename_i h7
  rw [if_neg h7]
  split at h
  ·cases h
  rename_i h8
  rw [if_neg h8]
  have hcl:a.tkt.client=user (u8i a.user % 3):=by
   unfold KAsk.tkt at p3 ⊢
   dsimp only at p3 ⊢
   by_cases h5:a.w=5
   ·rw [if_pos h5,hr] at p3
    exact absurd p3 (far_realm (by unfold KAsk.u;omega) (by unfold KAsk.u;omega))
   ·rw [if_neg h5];rfl
  have hte:tEnd a.tkt.issued a.tkt.life=1000+u8i a.issued+300*(u8i a.life % 40+1):=by
   show tEnd (1000+u8i a.issued) (u8i a.life % 40)=_
   unfold tEnd
   rw [within_iff.2 (by omega),within_iff.2 (by omega)]
   rfl
  have hl:(kaLife2 (svc d [] a.req.service a.req.inst 1100) a.tkt ⟨lTicket,1000+u8i a.time,1000+u8i a.time,1000+u8i a.time+u8i a.stop*50,0⟩ 1100).2=true:=by
   cases hz:(kaLife2 (svc d [] a.req.service a.req.inst 1100) a.tkt ⟨lTicket,1000+u8i a.time,1000+u8i a.time,1000+u8i a.time+u8i a.stop*50,0⟩ 1100).2
   ·exact absurd hz h7
   ·rfl
  unfold kaLife2 at hl h ⊢
  have hok2:=h
  rw [show (kaGive _ _ _ _ _ _ _ _ _ _ _ _ _ _ _).2.2=true from h]
  refine give_bound hse a.tkt_bd hl (ends2_mem (by simp)) hcl (fun s hs => .inr ⟨rfl,rfl,?_,p4,rfl⟩) h
  rw [hs,← hte]
  exact grantLife_le hl (ends2_mem (by simp))
 ·rename_i hop
  rw [if_neg hop]
  have hk:¬ a.kop=2:=fun hz=>hop (by unfold KAsk.req;rw [if_pos hz])
  have e2:a.req.box=a.box:=by unfold KAsk.req;rw [if_neg hk]
  have e3:a.req.user=if a.w=4 then user (3+u8i a.user % 6) else user a.u:=by unfold KAsk.req;rw [if_neg hk]
  unfold kaByUser at h ⊢
  split at h
  ·cases h
  rename_i h3
  rw [if_neg h3]
  have hcl:a.req.user=user (u8i a.user % 3):=by
   have h3:=Decidable.not_not.1 h3
   rw [e3] at h3 ⊢
   by_cases h4:a.w=4
   ·rw [if_pos h4,hr] at h3
    exact absurd h3 (far_realm (by omega) (by omega))
   ·rw [if_neg h4];rfl
  split at h
  ·cases h
  rename_i h4
  rw [if_neg h4]
  have hc4:=Decidable.not_not.1 h4
  obtain ⟨c1,c2⟩:=clie_lt hc4
  obtain ⟨u1,u2,_⟩:=useEnt_is (by decide) (by decide) hc4
  change (clientEnt d a.req.user.name a.req.user.inst 1100).1=_ at u1
  split at h
  ·cases h
  rename_i h5
  rw [if_neg h5]
  generalize hi:(clientEnt d a.req.user.name a.req.user.inst 1100).1=i at h c1 c2 u1 ⊢
  split at h
  ·cases h
  rename_i h6
  rw [if_neg h6]
  dsimp only at h ⊢
  rw [e2] at h h6 ⊢
  have hkb:=a.key_bd
  obtain ⟨k1,k2⟩:=openBox_made hkb.1 hkb.2 (show (openBox (makeBox 7 a.key a.body).val 7 (entAt d i).key).2=true by
   cases hz:(openBox (makeBox 7 a.key a.body).val 7 (entAt d i).key).2
   ·exact absurd hz h6
   ·rfl)
  change (openBox a.box 7 (entAt d i).key).1=a.body at k2
  rw [k2] at h ⊢
  split at h
  case isFalse hop1 =>
   unfold kaChangePw at h
   split at h
   ·cases h
   split at h
   ·cases h
   dsimp only at h
   split at h<;>cases h
  rename_i hop1
  rw [if_pos hop1]
  unfold kaAuthenticate at h ⊢
  split at h
  ·cases h
  rename_i h7
  rw [if_neg h7]
  obtain ⟨s1,s2⟩:=KAsk.sec_of (Decidable.not_not.1 h7)
  rw [s1,KAsk.secret_timed s2 (by decide)] at h ⊢
  dsimp only at h ⊢
  split at h
  ·cases h
  rename_i h8
  rw [if_neg h8]
  split at h
  ·cases h
  rename_i h9
  rw [if_neg h9]
  split at h
  ·cases h
  rename_i h10
  rw [if_neg h10]
  have hl:(kaLife1 d (entAt d i) ⟨lGet,1000+u8i a.time,1000+u8i a.time,1000+u8i a.time+u8i a.stop*50,0⟩ 1100).2=true:=by
   cases hz:(kaLife1 d (entAt d i) ⟨lGet,1000+u8i a.time,1000+u8i a.time,1000+u8i a.time+u8i a.stop*50,0⟩ 1100).2
   ·exact absurd hz h9
   ·rfl
  unfold kaLife1 at hl h ⊢
  split at h
  case isFalse=>cases h
  rename_i hg
  rw [if_pos hg]
  have hek:=(entAt_ok (i:=i) hok).2.2.1
  refine give_bound (after:=kaClear d i) hse (isU64_iff.1 hek) hl (ends2_mem (ends2_mem (by simp))) hcl (fun s hs => .inl ⟨rfl,?_,?_,?_⟩) hg
  ·rw [u1]
  ·rw [← u1];exact c1
  ·rw [← u1];omega
end Kerb
