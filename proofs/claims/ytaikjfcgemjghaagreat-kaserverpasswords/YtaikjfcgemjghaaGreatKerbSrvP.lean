/- Chapter 23, plain: when a ticket is given; what the data of the statements says. -/
import Derived.Test.YtaikjfcgemjghaaGreatKerbSrvL
import Derived.Test.YtaikjfcgemjghaaGreatKerbCli7
import Derived.KernelRfl
namespace Kerb
open Go Go.Abs
set_option linter.unusedVariables false
theorem ticket_ok {t:Ticket} (h1:t.client.valid=true) (h2:validName t.service=true) (h3:validInst t.inst=true) (h4:classOf t.session=2) (h5:within t.address 4294967295=true) (h6:within t.life 255=true) (h7:within t.issued 4294967295=true):(encodeTicket t).err=0:=by
 have he:t.err=0:=by
  unfold Ticket.err
  rw [if_neg (by simp [h1,h2,h3]),if_neg (by simp [h4]),if_neg (by simp [h5,h6,h7])]
 unfold encodeTicket
 rw [if_neg (by simp [he])]
theorem seal_ok {t:Ticket} {k:Int} (h:(encodeTicket t).err=0) (hk:keyValid k=true):(sealTicket t k).err=0:=by
 unfold sealTicket
 rw [if_neg (by simp [h])]
 have:=encTicket_len t
 exact (makeBox_ok rfl hk (by omega)).1
theorem part_ok {p:ReplyPart} {l:Bool} (h1:keyValid p.session=true) (h2:p.service.valid=true) (h3:within p.life 255=true) (h4:within p.kvno 255=true) (h5:within p.time 4294967295=true) (h6:p.ticket.length≤255):(encodePart p l).err=0:=by
 unfold encodePart
 rw [if_neg (by simp [h1]),if_neg (by simp [h2]),if_neg (by simp [h3,h4,h5]),if_neg (by omega)]
theorem kaAns_ok {a:KaAnswer} (h1:ticketed a.label=true) (h2:within a.time 4294967295=true) (h3:keyValid a.session=true) (h4:within a.start 4294967295=true) (h5:within a.stop 4294967295=true) (h6:within a.kvno 255=true) (h7:a.service.valid=true) (h8:a.ticket.length≤255):(encodeKaAnswer a).err=0:=by
 unfold encodeKaAnswer
 rw [if_neg (by simp [h1]),if_neg (by simp [h2]),if_pos h1,if_neg (by simp [h3]),if_neg (by simp [h4,h5,h6]),if_neg (by simp [h7]),if_neg (by omega)]
theorem class_valid {k:Int} (h:classOf k=2):keyValid k=true:=by
 unfold classOf at h
 cases hk:keyValid k
 ·rw [hk] at h;cases h
 ·rfl
theorem kaNext_in (n:Int):within (kaNext n) 4294967295=true:=by
 rw [within_iff];unfold kaNext;omega
theorem reply_ok {op:Int} {b:Bytes} (h1:kaOp op=true) (h2:b.length≤1012):(encodeKaReply ⟨op,0,b⟩).err=0:=by
 unfold encodeKaReply
 rw [if_neg (by simp [h1]),if_neg (by simp only;decide),if_neg (by simp only;omega),if_neg (by simp)]
theorem kaSeal_ok {op:Int} {a:KaAnswer} {k:Int} (h1:kaOp op=true) (h2:(encodeKaAnswer a).err=0) (hk:keyValid k=true) :
  kaReplySeal op a k=((encodeKaReply ⟨op,0,(makeBox 8 k (encodeKaAnswer a).val).val⟩).val,true)∧(encodeKaReply ⟨op,0,(makeBox 8 k (encodeKaAnswer a).val).val⟩).err=0∧(makeBox 8 k (encodeKaAnswer a).val).err=0:=by
 have hl:=encKaAns_len a
 obtain ⟨m1,m2⟩:=makeBox_ok (kd:=8) (k:=k) (b:=(encodeKaAnswer a).val) rfl hk (by omega)
 have hr:(encodeKaReply ⟨op,0,(makeBox 8 k (encodeKaAnswer a).val).val⟩).err=0:=reply_ok h1 (by omega)
 refine ⟨?_,hr,m1⟩
 unfold kaReplySeal kaReplyDec
 rw [if_neg (by simp [h2]),if_neg (by simp [m1])]
 rw [hr];rfl
def giveT (client service:Prin) (address now life session target:Int):Bytes:=(sealTicket (grantTkt false client service address now life session) target).val
def giveA (label:Bytes) (time:Int) (client service:Prin) (address now life session target kvno:Int):KaAnswer:=⟨label,kaNext time,session,now,imin (tEnd now life) 4294967295,kvno,service,giveT client service address now life session target⟩
theorem kaGive_ok {op:Int} {label:Bytes} {time:Int} {realm:Bytes} {client service:Prin} {address now life session sealer target kvno kind granter:Int}
  (h1:kaOp op=true) (h2:ticketed label=true) (h3:client.valid=true) (h4:service.valid=true) (h5:classOf session=2) (h6:within address 4294967295=true) (h7:within life 255=true) (h8:within now 4294967295=true) (h9:keyValid target=true) (h10:keyValid sealer=true) (h11:within kvno 255=true) (h0:0≤tEnd now life) :
  kaGive op label time realm client service address now life session sealer target kvno kind granter=((encodeKaReply ⟨op,0,(makeBox 8 sealer (encodeKaAnswer (giveA label time client service address now life session target kvno)).val).val⟩).val,
   ⟨kind,tgs realm realm,client,service,session,sealer,granter,giveT client service address now life session target,now,tEnd now life⟩,true) ∧
  (encodeKaReply ⟨op,0,(makeBox 8 sealer (encodeKaAnswer (giveA label time client service address now life session target kvno)).val).val⟩).err=0∧(makeBox 8 sealer (encodeKaAnswer (giveA label time client service address now life session target kvno)).val).err=0∧(encodeKaAnswer (giveA label time client service address now life session target kvno)).err=0:=by
 have hv:validName service.name=true∧validInst service.inst=true:=by
  simp only [Prin.valid,Bool.and_eq_true] at h4
  exact h4.1
 have hk:=class_valid h5
 have e1:(encodeTicket (grantTkt false client service address now life session)).err=0:=ticket_ok h3 hv.1 hv.2 h5 h6 h7 h8
 have e2:=seal_ok e1 h9
 have l2:=sealTicket_len (grantTkt false client service address now life session) target
 have e3:(encodePart ⟨session,service,life,kvno,(sealTicket (grantTkt false client service address now life session) target).val,now⟩ false).err=0:=part_ok hk h4 h7 h11 h8 (by simp only;omega)
 have hg:grant realm client service address false now life session sealer target kvno=⟨⟨0,tgs realm realm,client,service,session,sealer,0,giveT client service address now life session target,now,tEnd now life⟩,⟨session,service,life,kvno,giveT client service address now life session target,now⟩,0⟩:=by
  unfold grant
  rw [if_neg (by simp [e2]),if_neg (by simp [e3])]
  rfl
 have hm:within (imin (tEnd now life) 4294967295) 4294967295=true:=by
  rw [within_iff];unfold imin;split<;>omega
 have e4:(encodeKaAnswer (giveA label time client service address now life session target kvno)).err=0:=kaAns_ok h2 (kaNext_in _) hk h8 hm h11 h4 (by show (giveT _ _ _ _ _ _ _).length≤_;unfold giveT;omega)
 obtain ⟨s1,s2,s3⟩:=kaSeal_ok h1 e4 h10
 refine ⟨?_,s2,s3,e4⟩
 unfold kaGive
 rw [hg]
 simp only []
 rw [if_neg (by simp)]
 have:(⟨label,kaNext time,session,now,imin (tEnd now life) 4294967295,kvno,service,giveT client service address now life session target⟩:KaAnswer)=giveA label time client service address now life session target kvno:=rfl
 rw [this,s1]
 simp only []
 rw [if_neg (by simp)]
theorem openBox_other {kd k k2:Int} {body:Bytes} (h0:0≤k) (h1:k<18446744073709551616) (h:(makeBox kd k body).err=0) (hne:k≠k2):(openBox (makeBox kd k body).val kd k2).2=false:=by
 have hb:=openBox_back h0 h1 h
 unfold openBox at hb ⊢
 split at hb
 ·cases hb
 rename_i hc
 have hk:(readBox (makeBox kd k body).val).box.key=k:=by
  by_cases hz:(readBox (makeBox kd k body).val).box.key=k
  ·exact hz
  ·exact absurd (.inr (.inr (.inr hz))) hc
 rw [if_pos (.inr (.inr (.inr (by rw [hk];exact hne))))]
def lockDb (life:UInt8) (u k v f t:Int):Db:=setEnt (simpleDb life 0 255) u ⟨(user u).name,[],k,v,0,u8i life,0,f,t⟩
theorem lock_find {life:UInt8} {u k v f t:Int} (hu:u=0∨u=1∨u=2):findEnt (lockDb life u k v f t).entries (user u).name (user u).inst=(u,0):=by
 rcases hu with rfl | rfl | rfl<;>rfl
theorem lock_at {life:UInt8} {u k v f t:Int} (hu:u=0∨u=1∨u=2):entAt (lockDb life u k v f t) u=⟨(user u).name,[],k,v,0,u8i life,0,f,t⟩:=by
 rcases hu with rfl | rfl | rfl<;>rfl
theorem lock_client {life:UInt8} {u k v f t:Int} (hu:u=0∨u=1∨u=2) (hk:keyValid k=true) (now:Int):clientEnt (lockDb life u k v f t) (user u).name (user u).inst now=(u,0):=by
 have ha:=lock_at (life:=life) (k:=k) (v:=v) (f:=f) (t:=t) hu
 unfold entAt at ha
 unfold clientEnt useEnt
 rw [lock_find hu]
 dsimp only
 rw [ha]
 dsimp only
 rw [if_neg (by simp),if_neg (by simp [hk]),if_neg (by simp),if_neg (by decide)]
theorem lock_svc {life:UInt8} {u k v f t:Int} (hu:u=0∨u=1∨u=2) (now:Int):svc (lockDb life u k v f t) [] krbtgt [65,84,72] now=⟨long 3,6,u8i life,0,0⟩:=by
 have hr:(lockDb life u k v f t).realm=[65,84,72]:=rfl
 have hf:findEnt (lockDb life u k v f t).entries krbtgt [65,84,72]=(3,0):=by
  rcases hu with rfl | rfl | rfl<;>rfl
 have ha:(lockDb life u k v f t).entries.getD 3 noEntry=⟨krbtgt,[65,84,72],long 3,6,0,u8i life,0,0,0⟩:=by
  rcases hu with rfl | rfl | rfl<;>rfl
 have hs:serviceEnt (lockDb life u k v f t) krbtgt [65,84,72] now=(3,0):=by
  unfold serviceEnt useEnt
  rw [hf]
  dsimp only
  rw [show (3:Int).toNat=3 from rfl,ha]
  dsimp only
  rw [if_neg (by simp),if_neg (by rw [long_valid (by decide) (by decide)];simp),if_neg (by simp),if_neg (by decide)]
 unfold svc
 rw [hr,hs,if_neg (by decide),if_neg (by simp)]
 dsimp only
 rw [show (3:Int).toNat=3 from rfl,ha]
theorem lock_len {life:UInt8} {u k v f t:Int}:(lockDb life u k v f t).entries.length=6:=by simp [lockDb,setEnt,simpleDb]
theorem lock_err {life:UInt8} {u k v f t:Int} (hu:u=0∨u=1∨u=2) (hk:keyValid k=true) (hv:within v 255=true) (hf:within f 20=true) (ht:within t 4294967295=true):(lockDb life u k v f t).err=0:=by
 have hl:=u8i_bd life
 have hlw:within (u8i life) 255=true:=by rw [within_iff];omega
 refine setEnt_err (simpleDb_err life 0 255).1 (by omega) (by rw [show (simpleDb life 0 255).entries.length=6 from rfl];omega) ?_ (by rcases hu with rfl | rfl | rfl<;>rfl) (by rcases hu with rfl | rfl | rfl<;>rfl)
 have hn:validName (user u).name=true:=(ent_names u).1.1
 unfold Entry.err
 dsimp only
 rw [if_neg (by rw [hn];decide),if_neg (by simp [hk]),if_neg (by rw [hv,ht];decide),if_neg (by rw [hlw,hf];decide)]
theorem lock_kept {life:UInt8} {u k v f t:Int} (hu:u=0∨u=1∨u=2) (hk:keyValid k=true) (hkb:0≤k∧k<18446744073709551616) (hv:within v 255=true) (hf:within f 20=true) (ht:within t 4294967295=true):Kept (lockDb life u k v f t):=by
 have he:=lock_err (life:=life) hu hk hv hf ht
 refine kept_of he (setEnt_ok (simpleDb_err life 0 255).2 ?_)
 have hl:=u8i_bd life
 have b1:=within_iff.1 hv
 have b2:=within_iff.1 hf
 have b3:=within_iff.1 ht
 have w:∀ n:Int,0≤n→n≤4294967295→isI64 n=true:=fun n h1 h2=>isI64_iff.2 (by omega)
 exact ⟨(user_dec u).1,by simp,isU64_iff.2 hkb,w v (by omega) (by omega),w 0 (by omega) (by omega),w (u8i life) hl.1 (by omega),w 0 (by omega) (by omega),w f (by omega) (by omega),w t (by omega) (by omega)⟩
theorem lock_set {life:UInt8} {u k v f t:Int} (k' v' f' t':Int):setEnt (lockDb life u k v f t) u ⟨(user u).name,[],k',v',0,u8i life,0,f',t'⟩=lockDb life u k' v' f' t':=setEnt_two
def secG:KaSecret:=⟨lGet,1000,1000,1000+u8i 255*50,0⟩
theorem secG_stop:secG.stop=13750:=by decide
def bodyG:Bytes:=(encodeKaSecret secG).val
def reqG (op u k:Int) (body:Bytes):KaRequest:=⟨op,user u,0,[],[],[],[],(makeBox 7 k body).val⟩
theorem reqG_ok {op u k:Int} {body:Bytes} (ho:op=1∨op=3) (hl:body.length≤1000):(encodeKaRequest (reqG op u k body)).err=0:=by
 have hb:=makeBox_len 7 k body
 have h1:kaOp op=true:=by rcases ho with rfl | rfl<;>rfl
 have h2:(op==2)=false:=by rcases ho with rfl | rfl<;>rfl
 unfold encodeKaRequest reqG
 dsimp only
 rw [if_neg (by simp [h1]),h2,if_neg (by simp),if_neg (by simp [user_valid]),if_neg (by omega),if_neg (by simp)]
theorem secG_dec:decodeKaSecret bodyG=⟨secG,0⟩:=kaSec_dec (by decide) (by decide) (by decide)
theorem bodyG_len:bodyG.length≤1000:=by
 have:=encKaSec_len secG
 unfold bodyG
 omega
theorem grantLife_bd {now want:Int} {l:List Int} (h:(grantLife now want l).2=true):0≤(grantLife now want l).1∧(grantLife now want l).1≤255∧0≤now∧now≤4294967295:=by
 unfold grantLife at h ⊢
 split at h
 ·cases h
 rename_i h1
 rw [if_neg h1]
 split at h
 ·cases h
 rename_i h2
 rw [if_neg h2]
 simp only [Bool.or_eq_true,not_or,Bool.not_eq_true',Bool.not_eq_false,decide_eq_true_eq] at h1
 have hn:=within_iff.1 h1.1
 dsimp only
 generalize least (now+300*(imin want 255+1)) l=q at h2 ⊢
 unfold imin
 split<;>omega
theorem secG_of {now sk:Int} (h:near 1000 now sk=true):kaSecretOf bodyG lGet now sk=⟨secG,0⟩:=by
 have hd:=secG_dec
 rw [kaSecOf_4 (by rw [hd]) (by rw [hd];rfl) (by rw [hd];exact h),hd]
theorem lock_auth {life:UInt8} {u k v f t now sk se:Int} {msg:Bytes} (hu:u=0∨u=1∨u=2) (hk:keyValid k=true) (hk2:0≤k∧k<18446744073709551616) (hn:1000≤now∧now≤2000) (ht:t≤now) (hs:near 1000 now sk=true) (hse:classOf se=2)
  (hm:msg=(encodeKaRequest (reqG 1 u k bodyG)).val) :
  ∃ (ans:Bytes) (box:Bytes) (iss:Issue),kaserver (lockDb life u k v f t) now 1 sk se msg=⟨lockDb life u k v 0 t,ans,iss,true⟩∧decodeKaReply ans=⟨⟨1,0,box⟩,0⟩∧iss.kind=3∧iss.sealer=k∧ans.length≤1000000:=by
 have hw:within now 4294967295=true:=by rw [within_iff];omega
 have hd:decodeKaRequest msg=⟨reqG 1 u k bodyG,0⟩:=by rw [hm];exact kaReq_dec (reqG_ok (.inl rfl) bodyG_len)
 have hb:(makeBox 7 k bodyG).err=0:=(makeBox_ok rfl hk bodyG_len).1
 have ho:=openBox_back hk2.1 hk2.2 hb
 have hr:(lockDb life u k v f t).realm=[65,84,72]:=rfl
 have hru:(user u).realm=[65,84,72]:=by rcases hu with rfl | rfl | rfl<;>rfl
 have hl:=u8i_bd life
 obtain ⟨L,hL⟩:∃ L,grantLife now (imin (u8i life) (u8i life)) (ends2 (ends2 [13750] 0) 0)=L:=⟨_,rfl⟩
 have hL2:L.2=true:=by
  rw [← hL]
  unfold grantLife
  have w1:imin (u8i life) (u8i life)=u8i life:=by unfold imin;split<;>rfl
  have w2:ends2 (ends2 [13750] 0) 0=[13750]:=rfl
  rw [w1,w2,if_neg (by simp [hw];omega)]
  have w3:¬ least (now+300*(imin (u8i life) 255+1)) [13750]-now<300:=by
   show ¬ imin _ 13750-now<300
   unfold imin
   split<;>split<;>omega
  rw [if_neg w3]
 have hLb:=grantLife_bd (by rw [hL];exact hL2)
 rw [hL] at hLb
 have hlife:kaLife1 (lockDb life u k v f t) ⟨(user u).name,[],k,v,0,u8i life,0,f,t⟩ secG now=L:=by
  unfold kaLife1
  rw [hr,lock_svc hu,secG_stop]
  exact hL
 have hLw:within L.1 255=true:=by rw [within_iff];omega
 have ht0:0≤tEnd now L.1:=by unfold tEnd;rw [hw,hLw];simp;omega
 obtain ⟨g1,g2,g3,g4⟩:=kaGive_ok (op:=1) (label:=lGot) (time:=1000) (realm:=[65,84,72]) (client:=user u) (service:=tgs [65,84,72] [65,84,72]) (address:=1) (now:=now) (life:=L.1) (session:=se) (sealer:=k) (target:=long 3) (kvno:=6) (kind:=3) (granter:=0) rfl rfl (user_valid u) (by decide) hse (by decide) hLw hw (long_valid (by decide) (by decide)) hk (by decide) ht0
 refine ⟨_,(makeBox 8 k (encodeKaAnswer (giveA lGot 1000 (user u) (tgs [65,84,72] [65,84,72]) 1 now L.1 se (long 3) 6)).val).val,⟨3,tgs [65,84,72] [65,84,72],user u,tgs [65,84,72] [65,84,72],se,k,0,giveT (user u) (tgs [65,84,72] [65,84,72]) 1 now L.1 se (long 3),now,tEnd now L.1⟩,?_,kaRep_dec g2,rfl,rfl,?_⟩
 ·unfold kaserver
  rw [hd]
  rw [if_neg (by rw [hw];decide),if_neg (by simp),if_neg (by simp [reqG])]
  unfold kaByUser
  have e1:(reqG 1 u k bodyG).user=user u:=rfl
  have e2:(reqG 1 u k bodyG).op=1:=rfl
  have e3:(reqG 1 u k bodyG).box=(makeBox 7 k bodyG).val:=rfl
  simp only [e1,e2,e3,lock_client hu hk,lock_at hu,ho,hr,hru]
  rw [if_neg (by simp),if_neg (by simp),if_neg (by omega),if_neg (by simp),if_pos trivial]
  unfold kaAuthenticate
  simp only [secG_of hs,hr,lock_svc hu,hlife,hse]
  rw [if_neg (by simp),if_neg (by simp),if_neg (by simp [hL2]),if_neg (by simp)]
  have e4:secG.time=1000:=rfl
  rw [e4,g1]
  have e5:kaClear (lockDb life u k v f t) u=lockDb life u k v 0 t:=by
   unfold kaClear
   rw [lock_at hu]
   exact lock_set k v 0 t
  rw [e5]
  simp only [if_true]
 ·have:=encKaRep_len ⟨1,0,(makeBox 8 k (encodeKaAnswer (giveA lGot 1000 (user u) (tgs [65,84,72] [65,84,72]) 1 now L.1 se (long 3) 6)).val).val⟩
  omega
theorem lock_bad {life:UInt8} {u k k2 v f t now sk se:Int} {msg:Bytes} (hu:u=0∨u=1∨u=2) (hk:keyValid k=true) (hk2:keyValid k2=true) (hb2:0≤k2∧k2<18446744073709551616) (hne:k2≠k) (hn:0≤now∧now≤4294967295) (ht:t≤now)
  (hm:msg=(encodeKaRequest (reqG 1 u k2 bodyG)).val) :
  kaserver (lockDb life u k v f t) now 1 sk se msg=⟨lockDb life u k v (if 20≤f+1 then 0 else f+1) (if 20≤f+1 then imin (now+600) 4294967295 else t),kaRefuse 1 62,noIssue,false⟩:=by
 have hw:within now 4294967295=true:=by rw [within_iff];omega
 have hd:decodeKaRequest msg=⟨reqG 1 u k2 bodyG,0⟩:=by rw [hm];exact kaReq_dec (reqG_ok (.inl rfl) bodyG_len)
 have hb:(makeBox 7 k2 bodyG).err=0:=(makeBox_ok rfl hk2 bodyG_len).1
 have ho:=openBox_other hb2.1 hb2.2 hb hne
 have hr:(lockDb life u k v f t).realm=[65,84,72]:=rfl
 have hru:(user u).realm=[65,84,72]:=by rcases hu with rfl | rfl | rfl<;>rfl
 unfold kaserver
 rw [hd]
 rw [if_neg (by rw [hw];decide),if_neg (by simp),if_neg (by simp [reqG])]
 unfold kaByUser
 have e1:(reqG 1 u k2 bodyG).user=user u:=rfl
 have e2:(reqG 1 u k2 bodyG).op=1:=rfl
 have e3:(reqG 1 u k2 bodyG).box=(makeBox 7 k2 bodyG).val:=rfl
 simp only [e1,e2,e3,lock_client hu hk,lock_at hu,ho,hr,hru]
 rw [if_neg (by simp),if_neg (by simp),if_neg (by omega),if_pos trivial]
 have e5:kaFailed (lockDb life u k v f t) u now=lockDb life u k v (if 20≤f+1 then 0 else f+1) (if 20≤f+1 then imin (now+600) 4294967295 else t):=by
  unfold kaFailed
  rw [lock_at hu]
  unfold Entry.failed
  dsimp only
  split
  ·exact lock_set k v 0 _
  ·exact lock_set k v (f+1) t
 rw [e5]
theorem simple_lock (life:UInt8) {u:Int} (hu:u=0∨u=1∨u=2):simpleDb life 0 255=lockDb life u (long u) (3+u) 0 0:=by
 rcases hu with rfl | rfl | rfl<;>rfl
theorem who_cases (w:UInt8):u8i w % 3=0∨u8i w % 3=1∨u8i w % 3=2:=by
 have:=u8i_bd w
 omega
theorem good_msg (w:UInt8):KAsk.message ⟨0,w,0,0,0,0,255,0,0,0,0,0,0⟩=(encodeKaRequest (reqG 1 (u8i w % 3) (long (u8i w % 3)) bodyG)).val:=by kernel_rfl
theorem long_ne {n m:Int} (h0:0≤n) (h1:n<256) (g0:0≤m) (g1:m<256) (h:n≠m):long n≠long m:=by
 have e:∀ k:Fin 256,long (k.val:Int)=72057594037927937+(k.val:Int):=by decide +kernel
 have e1:=e ⟨n.toNat,by omega⟩
 have e2:=e ⟨m.toNat,by omega⟩
 rw [show (((⟨n.toNat,by omega⟩:Fin 256).val:Nat):Int)=n from by simp;omega] at e1
 rw [show (((⟨m.toNat,by omega⟩:Fin 256).val:Nat):Int)=m from by simp;omega] at e2
 omega
def secC (k:Int):KaSecret:=⟨lChange,1000,0,0,k⟩
theorem secC_ok {k:Int} (hk:keyValid k=true):(encodeKaSecret (secC k)).err=0:=by
 unfold encodeKaSecret secC
 dsimp only
 rw [if_neg (by decide),if_neg (by decide),if_neg (by decide),if_neg (by simp [hk]),if_neg (by decide)]
theorem secC_of {k now sk:Int} (hk:keyValid k=true) (hb:0≤k∧k<18446744073709551616) (h:near 1000 now sk=true):kaSecretOf (encodeKaSecret (secC k)).val lChange now sk=⟨secC k,0⟩:=by
 have hd:decodeKaSecret (encodeKaSecret (secC k)).val=⟨secC k,0⟩:=kaSec_dec hb.1 hb.2 (secC_ok hk)
 rw [kaSecOf_4 (by rw [hd]) (by rw [hd];rfl) (by rw [hd];exact h),hd]
theorem change_msg (w n:UInt8):KAsk.message ⟨2,w,0,0,n,0,0,0,0,0,0,0,0⟩=(encodeKaRequest (reqG 3 (u8i w % 3) (long (u8i w % 3)) (encodeKaSecret (secC (long (30+u8i n % 3)))).val)).val:=by kernel_rfl
theorem done_ok:(encodeKaAnswer ⟨lDone,kaNext 1000,0,0,0,0,noPrin,[]⟩).err=0:=by decide
theorem lock_change {life:UInt8} {u k v k2 sk:Int} {msg:Bytes} (hu:u=0∨u=1∨u=2) (hk:keyValid k=true) (hkb:0≤k∧k<18446744073709551616) (hk2:keyValid k2=true) (hc:classOf k2=1) (hkb2:0≤k2∧k2<18446744073709551616) (hv0:0≤v) (hv:v<255) (hs:near 1000 1000 sk=true)
  (hm:msg=(encodeKaRequest (reqG 3 u k (encodeKaSecret (secC k2)).val)).val) :
  ∃ ans box:Bytes,kaserver (lockDb life u k v 0 0) 1000 1 sk 0 msg=⟨lockDb life u k2 (v+1) 0 0,ans,noIssue,false⟩∧decodeKaReply ans=⟨⟨3,0,box⟩,0⟩∧ans.length≤1000000:=by
 have hsl:(encodeKaSecret (secC k2)).val.length≤1000:=by have:=encKaSec_len (secC k2);omega
 have hd:decodeKaRequest msg=⟨reqG 3 u k (encodeKaSecret (secC k2)).val,0⟩:=by rw [hm];exact kaReq_dec (reqG_ok (.inr rfl) hsl)
 have hb:(makeBox 7 k (encodeKaSecret (secC k2)).val).err=0:=(makeBox_ok rfl hk hsl).1
 have ho:=openBox_back hkb.1 hkb.2 hb
 have hr:(lockDb life u k v 0 0).realm=[65,84,72]:=rfl
 have hru:(user u).realm=[65,84,72]:=by rcases hu with rfl | rfl | rfl<;>rfl
 obtain ⟨s1,s2,s3⟩:=kaSeal_ok (op:=3) (a:=⟨lDone,kaNext 1000,0,0,0,0,noPrin,[]⟩) (k:=k) rfl done_ok hk
 refine ⟨_,(makeBox 8 k (encodeKaAnswer ⟨lDone,kaNext 1000,0,0,0,0,noPrin,[]⟩).val).val,?_,kaRep_dec s2,?_⟩
 ·have hkd:(lockDb life u k v 0 0).err=0:=lock_err hu hk (by rw [within_iff];omega) (by decide) (by decide)
  unfold kaserver
  rw [hd]
  rw [if_neg (by decide),if_neg (by simp),if_neg (by simp [reqG])]
  unfold kaByUser
  have e1:(reqG 3 u k (encodeKaSecret (secC k2)).val).user=user u:=rfl
  have e2:(reqG 3 u k (encodeKaSecret (secC k2)).val).op=3:=rfl
  have e3:(reqG 3 u k (encodeKaSecret (secC k2)).val).box=(makeBox 7 k (encodeKaSecret (secC k2)).val).val:=rfl
  simp only [e1,e2,e3,lock_client hu hk,lock_at hu,ho,hr,hru]
  rw [if_neg (by simp),if_neg (by simp),if_neg (by omega),if_neg (by simp),if_neg (by decide)]
  have e5:kaClear (lockDb life u k v 0 0) u=lockDb life u k v 0 0:=by
   unfold kaClear
   rw [lock_at hu]
   exact lock_set k v 0 0
  have e6:rekey (lockDb life u k v 0 0) u k2=⟨lockDb life u k2 (v+1) 0 0,0⟩:=by
   unfold rekey
   rw [if_neg (by simp [hkd]),if_neg (by rw [lock_len];omega),if_neg (by simp [hk2])]
   have ha:=lock_at (life:=life) (k:=k) (v:=v) (f:=0) (t:=0) hu
   unfold entAt at ha
   rw [ha]
   unfold Entry.rekeyed
   dsimp only
   rw [if_pos hv,lock_set]
  rw [e5]
  unfold kaChangePw
  rw [secC_of hk2 hkb2 hs]
  dsimp only
  rw [if_neg (by simp),if_neg (by rw [show (secC k2).new=k2 from rfl,hc];simp),lock_at hu]
  rw [show (secC k2).time=1000 from rfl,show (secC k2).new=k2 from rfl,s1,e6]
  rw [if_neg (by simp)]
 ·have:=encKaRep_len ⟨3,0,(makeBox 8 k (encodeKaAnswer ⟨lDone,kaNext 1000,0,0,0,0,noPrin,[]⟩).val).val⟩
  omega
theorem lock_get {life:UInt8} {u k v f t:Int} (hu:u=0∨u=1∨u=2):((lockDb life u k v f t).entries.map Entry.av).getD u.toNat .undef = .agg [.str (user u).name,.str [],.int .u64 k,.int .i64 v,.int .i64 0,.int .i64 (u8i life),.int .i64 0,.int .i64 f,.int .i64 t]:=by
 rcases hu with rfl | rfl | rfl<;>rfl
def youngOld (fr:UInt8):UInt8:=UInt8.ofNat (Int.toNat (IntKind.wrap .u8 (((3:UInt8).toNat:Int)+((UInt8.ofNat (Int.toNat (IntKind.wrap .u8 (((4:UInt8).toNat:Int)*((UInt8.ofNat (Int.toNat (Int.tmod (fr.toNat:Int) ((3:UInt8).toNat:Int)))).toNat:Int))))).toNat:Int))))
theorem youngOld_is (fr:UInt8):(youngOld fr).toNat=3+4*(fr.toNat % 3):=by
 have h:∀ k:Fin 256,(youngOld (UInt8.ofNat k.val)).toNat=3+4*(k.val % 3):=by decide +kernel
 have:=h ⟨fr.toNat,fr.toNat_lt⟩
 simpa using this
theorem young_msg (w fr:UInt8):KAsk.message ⟨0,w,0,0,0,0,255,0,0,0,0,youngOld fr,0⟩=(encodeKaRequest (reqG 1 (u8i w % 3) (long (30+u8i fr % 3)) bodyG)).val:=by
 have ho:=youngOld_is fr
 have e:∀ o:UInt8,KAsk.message ⟨0,w,0,0,0,0,255,0,0,0,0,o,0⟩=(encodeKaRequest (reqG 1 (u8i w % 3) (KAsk.key0 ⟨0,w,0,0,0,0,255,0,0,0,0,o,0⟩) bodyG)).val:=fun o=>by
  have hk:=KAsk.key_c ⟨0,w,0,0,0,0,255,0,0,0,0,o,0⟩ (m:=0) rfl
  have hk2:KAsk.key ⟨0,w,0,0,0,0,255,0,0,0,0,o,0⟩=KAsk.key0 ⟨0,w,0,0,0,0,255,0,0,0,0,o,0⟩:=hk.trans (by kernel_rfl)
  have e1:KAsk.message ⟨0,w,0,0,0,0,255,0,0,0,0,o,0⟩=(encodeKaRequest (reqG 1 (u8i w % 3) (KAsk.key ⟨0,w,0,0,0,0,255,0,0,0,0,o,0⟩) bodyG)).val:=by kernel_rfl
  rw [e1,hk2]
 rw [e]
 have h2:KAsk.key0 ⟨0,w,0,0,0,0,255,0,0,0,0,youngOld fr,0⟩=long (30+u8i fr % 3):=by
  unfold KAsk.key0
  dsimp only
  rw [decide_eq_true (show (youngOld fr).toNat % 4=3 by omega)]
  show long (30+u8i (youngOld fr) / 4 % 3)=_
  unfold u8i
  rw [ho]
  congr 1
  omega
 rw [h2]
end Kerb
