/- Chapter 19: the plain laws. -/
import Derived.Test.YtmpklfnpjhdjeaaGreatDoorKerbGrt
namespace Kerb
open Go Go.Abs
set_option linter.unusedVariables false
theorem reply_nil:(decodeReply []).err≠0:=by decide
theorem refuse_head (c:Prin) (code now:Int) (li:Bool):refuse c code now li=[]∨∃ z,refuse c code now li=header 5 li++z:=by
 unfold refuse
 by_cases h:(encodeError ⟨li,c,now,code,message code⟩).err=0
 case neg=>exact .inl (encError_no h)
 right
 unfold encodeError at h ⊢
 split at h
 ·cases h
 rename_i h1
 rw [if_neg h1]
 split at h
 ·cases h
 rename_i h2
 rw [if_neg h2]
 split at h
 ·cases h
 rename_i h3
 rw [if_neg h3]
 split at h
 ·cases h
 rename_i h4
 rw [if_neg h4]
 show ∃ z,putText (putPrin (header 5 li) c++putN now 4 li++putN code 4 li) (message code)=header 5 li++z
 unfold putPrin putText
 simp only [List.append_assoc]
 exact ⟨_,rfl⟩
theorem reply_refuse (c:Prin) (code now:Int) (li:Bool):(decodeReply (refuse c code now li)).err≠0:=by
 rcases refuse_head c code now li with h | ⟨z,h⟩
 ·rw [h];exact reply_nil
 ·rw [h]
  have hh:(headIs (header 5 li++z) [2]).2=40:=by
   unfold headIs
   rw [header_read (by decide) (by decide)]
   rfl
  unfold decodeReply
  rw [if_pos (by rw [hh];decide),hh]
  decide
structure TIssued (d:Db) (cross:List Cross) (s:Server) (now ad:Int) (li:Bool) (se:Int) (msg:Bytes) (O:TgsOut) (r:TgsRequest) (t:Ticket) (a:Auth) (L:Int):Prop where
 now_:within now 4294967295=true
 req:decodeTgs msg=⟨r,0⟩
 taken:Taken (tgsServer d cross s r) r.ap ad now t a
 realm:t.client.realm=r.ap.realm
 home:¬ (r.service=krbtgt∧t.client.realm≠d.realm)
 life:tgsLife now r.life (svc d cross r.service r.inst now).life (svc d cross r.service r.inst now).expires t.issued t.life=(L,true)
 class_:classOf se=2
 gr:(grant d.realm t.client ⟨r.service,r.inst,d.realm⟩ t.address li now L se t.session (svc d cross r.service r.inst now).key (svc d cross r.service r.inst now).kvno).err=0
 sl:(sealReply ⟨li,t.client,r.time,0,0,[]⟩ (grant d.realm t.client ⟨r.service,r.inst,d.realm⟩ t.address li now L se t.session (svc d cross r.service r.inst now).key (svc d cross r.service r.inst now).kvno).part t.session).err=0
 is:O.out=⟨(sealReply ⟨li,t.client,r.time,0,0,[]⟩ (grant d.realm t.client ⟨r.service,r.inst,d.realm⟩ t.address li now L se t.session (svc d cross r.service r.inst now).key (svc d cross r.service r.inst now).kvno).part t.session).val,
  { (grant d.realm t.client ⟨r.service,r.inst,d.realm⟩ t.address li now L se t.session (svc d cross r.service r.inst now).key (svc d cross r.service r.inst now).kvno).issue with kind:=2,granter:=t.session },true⟩
 s_:O.s={ s with replay:=(addMark s.replay (markOf a) now s.skew).val }
theorem tissued {d:Db} {cross:List Cross} {s:Server} {now ad:Int} {li:Bool} {se:Int} {msg:Bytes} (h:(tgsAnswer d cross s now ad li se msg).out.ok=true):∃ r t a L,TIssued d cross s now ad li se msg (tgsAnswer d cross s now ad li se msg) r t a L:=by
 obtain ⟨A,hA⟩:∃ A,tgsAnswer d cross s now ad li se msg=A:=⟨_,rfl⟩
 rw [hA] at h ⊢
 unfold tgsAnswer at hA
 by_cases h1:(within now 4294967295&&within ad 4294967295)=true
 case neg=>rw [if_pos (by simp only [Bool.not_eq_true] at h1;rw [h1];rfl)] at hA;subst hA;cases h
 rw [if_neg (by rw [h1];simp)] at hA
 by_cases h2:(decodeTgs msg).err=0
 case neg=>rw [if_pos h2] at hA;subst hA;cases h
 rw [if_neg (by simpa using h2)] at hA
 obtain ⟨r,hr⟩:∃ r,(decodeTgs msg).val=r:=⟨_,rfl⟩
 have hreq:decodeTgs msg=⟨r,0⟩:=by cases hd:decodeTgs msg;rw [hd] at h2 hr;simp at h2 hr;rw [h2,hr]
 rw [hr] at hA
 unfold tgsAsk at hA
 by_cases h3:(verify (tgsServer d cross s r) r.ap ad now).err=0
 case neg =>
  rw [if_pos h3] at hA
  split at hA
  ·subst hA;cases h
  ·subst hA;cases h
 rw [if_neg (by simpa using h3)] at hA
 obtain ⟨t,a,hT⟩:=taken h3
 have hV:=hT.is
 rw [hV] at hA
 dsimp only at hA
 have hs:A.s={ s with replay:=(addMark s.replay (markOf a) now s.skew).val }:=by rw [← hA];rfl
 have ho:tgsServe d cross now li se r ⟨t.client,t.session,t.address,a.checksum,a.time,a.tick,t.issued,t.life,r.ap.ticket,r.ap.auth⟩=A.out:=by rw [← hA]
 unfold tgsServe at ho
 dsimp only at ho
 by_cases h4:t.client.realm=r.ap.realm
 case neg=>rw [if_pos h4] at ho;rw [← ho] at h;cases h
 rw [if_neg (by simpa using h4)] at ho
 by_cases h5:r.service=krbtgt∧t.client.realm≠d.realm
 ·rw [if_pos h5] at ho;rw [← ho] at h;cases h
 rw [if_neg h5] at ho
 by_cases h6:(svc d cross r.service r.inst now).err=0
 case neg=>rw [if_pos h6] at ho;rw [← ho] at h;cases h
 rw [if_neg (by simpa using h6)] at ho
 unfold tgsGive at ho
 dsimp only at ho
 obtain ⟨⟨L,q⟩,hL⟩:∃ L,tgsLife now r.life (svc d cross r.service r.inst now).life (svc d cross r.service r.inst now).expires t.issued t.life=L:=⟨_,rfl⟩
 rw [hL] at ho
 dsimp only at ho
 cases q
 ·rw [if_pos rfl] at ho;rw [← ho] at h;cases h
 rw [if_neg (by simp)] at ho
 by_cases h7:classOf se=2
 case neg=>rw [if_pos h7] at ho;rw [← ho] at h;cases h
 rw [if_neg (by simpa using h7)] at ho
 by_cases h8:(grant d.realm t.client ⟨r.service,r.inst,d.realm⟩ t.address li now L se t.session (svc d cross r.service r.inst now).key (svc d cross r.service r.inst now).kvno).err=0
 case neg=>rw [if_pos h8] at ho;rw [← ho] at h;cases h
 rw [if_neg (by simpa using h8)] at ho
 by_cases h9:(sealReply ⟨li,t.client,r.time,0,0,[]⟩ (grant d.realm t.client ⟨r.service,r.inst,d.realm⟩ t.address li now L se t.session (svc d cross r.service r.inst now).key (svc d cross r.service r.inst now).kvno).part t.session).err=0
 case neg=>rw [if_pos h9] at ho;rw [← ho] at h;cases h
 rw [if_neg (by simpa using h9)] at ho
 rw [Bool.and_eq_true] at h1
 exact ⟨r,t,a,L,h1.1,hreq,hT,h4,h5,hL,h7,h8,h9,ho.symm,hs⟩
theorem tgs_no {d:Db} {cross:List Cross} {s:Server} {now ad:Int} {li:Bool} {se:Int} {msg:Bytes} {r:TgsRequest} (hr:decodeTgs msg=⟨r,0⟩) (h:(verify (tgsServer d cross s r) r.ap ad now).err≠0) :
  (tgsAnswer d cross s now ad li se msg).s=s∧(tgsAnswer d cross s now ad li se msg).out.ok=false∧(tgsAnswer d cross s now ad li se msg).out.issue=noIssue∧(decodeReply (tgsAnswer d cross s now ad li se msg).out.answer).err≠0:=by
 unfold tgsAnswer
 split
 ·exact ⟨rfl,rfl,rfl,reply_nil⟩
 split
 ·exact ⟨rfl,rfl,rfl,reply_nil⟩
 rw [hr]
 unfold tgsAsk
 rw [if_pos h]
 split
 ·exact ⟨rfl,rfl,rfl,reply_nil⟩
 ·exact ⟨rfl,rfl,rfl,reply_refuse _ _ _ _⟩
theorem grant_once {d:Db} {cross:List Cross} {s:Server} {now ad:Int} {li:Bool} {se:Int} {msg:Bytes} (h:(tgsAnswer d cross s now ad li se msg).out.ok=true) (now2 se2:Int) (li2:Bool) :
  (tgsAnswer d cross (tgsAnswer d cross s now ad li se msg).s now2 ad li2 se2 msg).out.ok=false∧(tgsAnswer d cross (tgsAnswer d cross s now ad li se msg).s now2 ad li2 se2 msg).out.issue=noIssue∧(decodeReply (tgsAnswer d cross (tgsAnswer d cross s now ad li se msg).s now2 ad li2 se2 msg).out.answer).err≠0:=by
 obtain ⟨r,t,a,L,hI⟩:=tissued h
 have hT:=hI.taken
 have hs:=hI.s_
 obtain ⟨s2,hs2⟩:∃ s2,(tgsAnswer d cross s now ad li se msg).s=s2:=⟨_,rfl⟩
 rw [hs2] at hs ⊢
 refine (tgs_no (li:=li2) (se:=se2) hI.req fun h2=> ?_).2
 obtain ⟨t',a',hT'⟩:=taken h2
 have k1:(tgsServer d cross s2 r).keys=(tgsServer d cross s r).keys:=rfl
 have k2:(tgsServer d cross s2 r).me=(tgsServer d cross s r).me:=rfl
 have ht:=hT'.tkt
 rw [k1,k2,hT.tkt] at ht
 have ht2:t'=t:=(congrArg Dec.val ht).symm
 have ha:=hT'.auth
 rw [ht2,hT.auth] at ha
 have ha2:a'=a:=(congrArg Dec.val ha).symm
 have hn:=hT'.add.new
 have hm:(tgsServer d cross s2 r).replay=s2.replay:=rfl
 rw [ha2,hm,hs] at hn
 have hadd:=hT.add.is
 have hm2:(tgsServer d cross s r).replay=s.replay:=rfl
 have hm3:(tgsServer d cross s r).skew=s.skew:=rfl
 rw [hm2,hm3] at hadd
 rw [hadd] at hn
 exact hn (List.mem_append_right _ (List.mem_singleton.2 rfl))
theorem crossLoop_kv (l:Bytes):∀ (f:Nat) (p:Int) (acc:List Cross),(∀ x∈acc,isKv x=true)→∀ x∈crossLoop l f p acc,isKv x=true
 | 0,p,acc,g=>g
 | f+1,p,acc,g=>by
  unfold crossLoop
  split
  ·refine crossLoop_kv l f _ _ fun x hx=> ?_
   rcases List.mem_append.1 hx with hx | hx
   ·exact g x hx
   ·rw [List.mem_singleton.1 hx]
    have h2:=next_bd l (cr2 l p) 4
    unfold isKv dataCr
    simp only [Bool.and_eq_true,decide_eq_true_eq]
    omega
  ·exact g
theorem goodCross_kv (l:Bytes):(goodCross l).all isKv=true:=by
 rw [List.all_eq_true]
 have:∀ (a out:List Cross),(∀ x∈a,isKv x=true)→(∀ y∈out,isKv y=true)→∀ y∈a.foldl crossStep out,isKv y=true:=fun a=>by
  induction a with
  | nil=>exact fun out _ h=>h
  | cons y r ih =>
   refine fun out ha h=>ih _ (fun x hx=>ha x (List.mem_cons_of_mem _ hx)) ?_
   unfold crossStep
   split
   ·exact h
   ·intro x hx
    rcases List.mem_append.1 hx with hx | hx
    ·exact h x hx
    ·rw [List.mem_singleton.1 hx];exact ha y (List.mem_cons_self ..)
 exact this _ [] (crossLoop_kv l _ _ _ (by simp)) (by simp)
theorem tgs_s (d:Db) (cross:List Cross) (s:Server) (now ad:Int) (li:Bool) (se:Int) (msg:Bytes):(tgsAnswer d cross s now ad li se msg).s=s∨∃ m,Added s.replay m now s.skew∧(tgsAnswer d cross s now ad li se msg).s={ s with replay:=(addMark s.replay m now s.skew).val }:=by
 unfold tgsAnswer
 split
 ·exact .inl rfl
 split
 ·exact .inl rfl
 unfold tgsAsk
 split
 ·split
  ·exact .inl rfl
  ·exact .inl rfl
 ·rename_i h
  obtain ⟨t,a,hT⟩:=taken (by simpa using h)
  right
  refine ⟨markOf a,hT.add,?_⟩
  dsimp only
  rw [hT.is]
  rfl
theorem tgs_sound {d:Db} {cross:List Cross} {s:Server} {now ad:Int} {li:Bool} {se:Int} {msg:Bytes} (h:Sound s):Sound (tgsAnswer d cross s now ad li se msg).s:=by
 rcases tgs_s d cross s now ad li se msg with e | ⟨m,hm,e⟩
 ·rw [e];exact h
 ·rw [e]
  have hr:=rcErr_iff.1 (add_err hm)
  exact ⟨h.keys,fun c hc=>markOk (hr.2.2.2.1 c hc) hr.2.1.1,h.name,h.lens.1,by dsimp only;omega⟩
theorem refuse_len19 (c:Prin) (code now:Int) (li:Bool):(refuse c code now li).length≤3000:=Nat.le_trans (encodeError_len _) (by decide)
theorem sealReply_len (r:KdcReply) (p:ReplyPart) (k:Int):(sealReply r p k).val.length≤3000:=by
 unfold sealReply
 split
 ·simp
 split
 ·simp
 ·exact Nat.le_trans (encReply_len _) (by decide)
theorem tgs_out_len (d:Db) (cross:List Cross) (s:Server) (now ad:Int) (li:Bool) (se:Int) (msg:Bytes):(tgsAnswer d cross s now ad li se msg).out.answer.length≤140737488355328:=by
 have h3:∀ b:Bytes,b.length≤3000→b.length≤140737488355328:=fun b h=>by omega
 refine h3 _ ?_
 unfold tgsAnswer
 split
 ·simp
 split
 ·simp
 unfold tgsAsk
 split
 ·split
  ·simp
  ·exact refuse_len19 _ _ _ _
 ·unfold tgsServe
  split
  ·exact refuse_len19 _ _ _ _
  split
  ·exact refuse_len19 _ _ _ _
  split
  ·exact refuse_len19 _ _ _ _
  unfold tgsGive
  split
  ·exact refuse_len19 _ _ _ _
  split
  ·exact refuse_len19 _ _ _ _
  split
  ·simp
  split
  ·simp
  ·exact sealReply_len _ _ _
theorem tmsg_len (a:TAsk) (cs:List Cross):(a.msg cs).length≤1000000:=by
 have h1:=tgs_len (a.case_.tgsReq (a.key cs).service (a.key cs).key (a.key cs).kvno 5 (u8i a.life) a.want)
 have h2:(a.base cs).length≤800:=h1
 unfold TAsk.msg
 split
 ·have:=spoil_len (a.base cs) (a.how / 8)
  omega
 ·omega
structure Bound19 (d:Db) (z:TAsk) (se:Int) (O:TgsOut) (Y:KdcReply) (body:Bytes) (P:ReplyPart) (T:Ticket):Prop where
 reply:decodeReply O.out.answer=⟨Y,0⟩
 box:openBox Y.sealed 3 z.case_.ses=(body,true)
 part:decodePart body Y.little=⟨P,0⟩
 s1:P.session=se
 s2:O.out.issue.granter=z.case_.ses
 s3:O.out.issue.sealer=z.case_.ses
 s4:O.out.issue.session=se
 stop:O.out.issue.stop≤1000+u8i z.case_.issued*8+300*(u8i z.case_.life / 4+1)
 client:O.out.issue.client=z.case_.who
 yc:Y.client=z.case_.who
 service:O.out.issue.service=P.service
 home:P.service.name=krbtgt→z.case_.who.realm=d.realm
 r1:(readBox P.ticket).err=0
 tk:decodeTicket (readBox P.ticket).box.body=⟨T,0⟩
 t1:T.address=u8i z.case_.address % 3
 t2:T.client=z.case_.who
 t3:T.session=se
 t4:T.issued+300*(T.life+1)=O.out.issue.stop
 t5:(0≤T.issued∧T.issued≤4294967295)∧0≤T.life∧T.life≤255
 lens:Y.sealed.length≤140737488355328∧body.length≤140737488355328∧P.ticket.length≤140737488355328∧(readBox P.ticket).box.body.length≤140737488355328
end Kerb
