/- Chapter 23, plain: when a ticket is given; what the data of the statements says. -/
import Derived.Test.YtaikjfcgemjghaaGreatKerbSrvL
import Derived.Test.YtaikjfcgemjghaaGreatKerbCli7
import Derived.KernelRfl
import Derived.Test.YtaikjfcgemjghaaGreatKerbKac2
namespace Kerb
open Go Go.Abs
set_option linter.unusedVariables false
theorem ticket_ok {t:Ticket} (h1:t.client.valid=true) (h2:validName t.service=true) (h3:validInst t.inst=true) (h4:classOf t.session=2) (h5:within t.address 4294967295=true) (h6:within t.life 255=true) (h7:within t.issued 4294967295=true):(encodeTicket t).err=0:=by
 have he:t.err=0:=by
  unfold Ticket.err
  rw [if_neg (by simp [h1,h2,h3]),if_neg (by simp [h4]),if_neg (by simp [h5,h6,h7])]
 unfold encodeTicket
 rw [if_neg (by simp [he])]
theorem seal_ok {t:Ticket} {k:Int} (h:(encodeTicket t).err=0) (hk:keyValid k=true):(sealTicket t k).err=0:=by
 unfold sealTicket
 rw [if_neg (by simp [h])]
 have:=encTicket_len t
 exact (makeBox_ok rfl hk (by omega)).1
theorem part_ok {p:ReplyPart} {l:Bool} (h1:keyValid p.session=true) (h2:p.service.valid=true) (h3:within p.life 255=true) (h4:within p.kvno 255=true) (h5:within p.time 4294967295=true) (h6:p.ticket.length≤255):(encodePart p l).err=0:=by
 unfold encodePart
 rw [if_neg (by simp [h1]),if_neg (by simp [h2]),if_neg (by simp [h3,h4,h5]),if_neg (by omega)]
theorem kaAns_ok {a:KaAnswer} (h1:ticketed a.label=true) (h2:within a.time 4294967295=true) (h3:keyValid a.session=true) (h4:within a.start 4294967295=true) (h5:within a.stop 4294967295=true) (h6:within a.kvno 255=true) (h7:a.service.valid=true) (h8:a.ticket.length≤255):(encodeKaAnswer a).err=0:=by
 unfold encodeKaAnswer
 rw [if_neg (by simp [h1]),if_neg (by simp [h2]),if_pos h1,if_neg (by simp [h3]),if_neg (by simp [h4,h5,h6]),if_neg (by simp [h7]),if_neg (by omega)]
theorem class_valid {k:Int} (h:classOf k=2):keyValid k=true:=by
 unfold classOf at h
 cases hk:keyValid k
 ·rw [hk] at h;cases h
 ·rfl
theorem kaNext_in (n:Int):within (kaNext n) 4294967295=true:=by
 rw [within_iff];unfold kaNext;omega
theorem reply_ok {op:Int} {b:Bytes} (h1:kaOp op=true) (h2:b.length≤1012):(encodeKaReply ⟨op,0,b⟩).err=0:=by
 unfold encodeKaReply
 rw [if_neg (by simp [h1]),if_neg (by simp only;decide),if_neg (by simp only;omega),if_neg (by simp)]
theorem kaSeal_ok {op:Int} {a:KaAnswer} {k:Int} (h1:kaOp op=true) (h2:(encodeKaAnswer a).err=0) (hk:keyValid k=true) :
  kaReplySeal op a k=((encodeKaReply ⟨op,0,(makeBox 8 k (encodeKaAnswer a).val).val⟩).val,true)∧(encodeKaReply ⟨op,0,(makeBox 8 k (encodeKaAnswer a).val).val⟩).err=0∧(makeBox 8 k (encodeKaAnswer a).val).err=0:=by
 have hl:=encKaAns_len a
 obtain ⟨m1,m2⟩:=makeBox_ok (kd:=8) (k:=k) (b:=(encodeKaAnswer a).val) rfl hk (by omega)
 have hr:(encodeKaReply ⟨op,0,(makeBox 8 k (encodeKaAnswer a).val).val⟩).err=0:=reply_ok h1 (by omega)
 refine ⟨?_,hr,m1⟩
 unfold kaReplySeal kaReplyDec
 rw [if_neg (by simp [h2]),if_neg (by simp [m1])]
 rw [hr];rfl
def giveT (client service:Prin) (address now life session target:Int):Bytes:=(sealTicket (grantTkt false client service address now life session) target).val
def giveA (label:Bytes) (time:Int) (client service:Prin) (address now life session target kvno:Int):KaAnswer:=⟨label,kaNext time,session,now,imin (tEnd now life) 4294967295,kvno,service,giveT client service address now life session target⟩
theorem kaGive_ok {op:Int} {label:Bytes} {time:Int} {realm:Bytes} {client service:Prin} {address now life session sealer target kvno kind granter:Int}
  (h1:kaOp op=true) (h2:ticketed label=true) (h3:client.valid=true) (h4:service.valid=true) (h5:classOf session=2) (h6:within address 4294967295=true) (h7:within life 255=true) (h8:within now 4294967295=true) (h9:keyValid target=true) (h10:keyValid sealer=true) (h11:within kvno 255=true) (h0:0≤tEnd now life) :
  kaGive op label time realm client service address now life session sealer target kvno kind granter=((encodeKaReply ⟨op,0,(makeBox 8 sealer (encodeKaAnswer (giveA label time client service address now life session target kvno)).val).val⟩).val,
   ⟨kind,tgs realm realm,client,service,session,sealer,granter,giveT client service address now life session target,now,tEnd now life⟩,true) ∧
  (encodeKaReply ⟨op,0,(makeBox 8 sealer (encodeKaAnswer (giveA label time client service address now life session target kvno)).val).val⟩).err=0∧(makeBox 8 sealer (encodeKaAnswer (giveA label time client service address now life session target kvno)).val).err=0∧(encodeKaAnswer (giveA label time client service address now life session target kvno)).err=0:=by
 have hv:validName service.name=true∧validInst service.inst=true:=by
  simp only [Prin.valid,Bool.and_eq_true] at h4
  exact h4.1
 have hk:=class_valid h5
 have e1:(encodeTicket (grantTkt false client service address now life session)).err=0:=ticket_ok h3 hv.1 hv.2 h5 h6 h7 h8
 have e2:=seal_ok e1 h9
 have l2:=sealTicket_len (grantTkt false client service address now life session) target
 have e3:(encodePart ⟨session,service,life,kvno,(sealTicket (grantTkt false client service address now life session) target).val,now⟩ false).err=0:=part_ok hk h4 h7 h11 h8 (by simp only;omega)
 have hg:grant realm client service address false now life session sealer target kvno=⟨⟨0,tgs realm realm,client,service,session,sealer,0,giveT client service address now life session target,now,tEnd now life⟩,⟨session,service,life,kvno,giveT client service address now life session target,now⟩,0⟩:=by
  unfold grant
  rw [if_neg (by simp [e2]),if_neg (by simp [e3])]
  rfl
 have hm:within (imin (tEnd now life) 4294967295) 4294967295=true:=by
  rw [within_iff];unfold imin;split<;>omega
 have e4:(encodeKaAnswer (giveA label time client service address now life session target kvno)).err=0:=kaAns_ok h2 (kaNext_in _) hk h8 hm h11 h4 (by show (giveT _ _ _ _ _ _ _).length≤_;unfold giveT;omega)
 obtain ⟨s1,s2,s3⟩:=kaSeal_ok h1 e4 h10
 refine ⟨?_,s2,s3,e4⟩
 unfold kaGive
 rw [hg]
 simp only []
 rw [if_neg (by simp)]
 have:(⟨label,kaNext time,session,now,imin (tEnd now life) 4294967295,kvno,service,giveT client service address now life session target⟩:KaAnswer)=giveA label time client service address now life session target kvno:=rfl
 rw [this,s1]
 simp only []
 rw [if_neg (by simp)]
def lockDb (life:UInt8) (u k v f t:Int):Db:=setEnt (simpleDb life 0 255) u ⟨(user u).name,[],k,v,0,u8i life,0,f,t⟩
theorem lock_find {life:UInt8} {u k v f t:Int} (hu:u=0∨u=1∨u=2):findEnt (lockDb life u k v f t).entries (user u).name (user u).inst=(u,0):=by
 rcases hu with rfl | rfl | rfl<;>rfl
theorem lock_at {life:UInt8} {u k v f t:Int} (hu:u=0∨u=1∨u=2):entAt (lockDb life u k v f t) u=⟨(user u).name,[],k,v,0,u8i life,0,f,t⟩:=by
 rcases hu with rfl | rfl | rfl<;>rfl
theorem lock_client {life:UInt8} {u k v f t:Int} (hu:u=0∨u=1∨u=2) (hk:keyValid k=true) (now:Int):clientEnt (lockDb life u k v f t) (user u).name (user u).inst now=(u,0):=by
 have ha:=lock_at (life:=life) (k:=k) (v:=v) (f:=f) (t:=t) hu
 unfold entAt at ha
 unfold clientEnt useEnt
 rw [lock_find hu]
 dsimp only
 rw [ha]
 dsimp only
 rw [if_neg (by simp),if_neg (by simp [hk]),if_neg (by simp),if_neg (by decide)]
theorem lock_svc {life:UInt8} {u k v f t:Int} (hu:u=0∨u=1∨u=2) (now:Int):svc (lockDb life u k v f t) [] krbtgt [65,84,72] now=⟨long 3,6,u8i life,0,0⟩:=by
 have hr:(lockDb life u k v f t).realm=[65,84,72]:=rfl
 have hf:findEnt (lockDb life u k v f t).entries krbtgt [65,84,72]=(3,0):=by
  rcases hu with rfl | rfl | rfl<;>rfl
 have ha:(lockDb life u k v f t).entries.getD 3 noEntry=⟨krbtgt,[65,84,72],long 3,6,0,u8i life,0,0,0⟩:=by
  rcases hu with rfl | rfl | rfl<;>rfl
 have hs:serviceEnt (lockDb life u k v f t) krbtgt [65,84,72] now=(3,0):=by
  unfold serviceEnt useEnt
  rw [hf]
  dsimp only
  rw [show (3:Int).toNat=3 from rfl,ha]
  dsimp only
  rw [if_neg (by simp),if_neg (by rw [long_valid (by decide) (by decide)];simp),if_neg (by simp),if_neg (by decide)]
 unfold svc
 rw [hr,hs,if_neg (by decide),if_neg (by simp)]
 dsimp only
 rw [show (3:Int).toNat=3 from rfl,ha]
theorem lock_err {life:UInt8} {u k v f t:Int} (hu:u=0∨u=1∨u=2) (hk:keyValid k=true) (hv:within v 255=true) (hf:within f 20=true) (ht:within t 4294967295=true):(lockDb life u k v f t).err=0:=by
 have hl:=u8i_bd life
 have hlw:within (u8i life) 255=true:=by rw [within_iff];omega
 refine setEnt_err (simpleDb_err life 0 255).1 (by omega) (by rw [show (simpleDb life 0 255).entries.length=6 from rfl];omega) ?_ (by rcases hu with rfl | rfl | rfl<;>rfl) (by rcases hu with rfl | rfl | rfl<;>rfl)
 have hn:validName (user u).name=true:=(ent_names u).1.1
 unfold Entry.err
 dsimp only
 rw [if_neg (by rw [hn];decide),if_neg (by simp [hk]),if_neg (by rw [hv,ht];decide),if_neg (by rw [hlw,hf];decide)]
theorem lock_kept {life:UInt8} {u k v f t:Int} (hu:u=0∨u=1∨u=2) (hk:keyValid k=true) (hkb:0≤k∧k<18446744073709551616) (hv:within v 255=true) (hf:within f 20=true) (ht:within t 4294967295=true):Kept (lockDb life u k v f t):=by
 have he:=lock_err (life:=life) hu hk hv hf ht
 refine kept_of he (setEnt_ok (simpleDb_err life 0 255).2 ?_)
 have hl:=u8i_bd life
 have b1:=within_iff.1 hv
 have b2:=within_iff.1 hf
 have b3:=within_iff.1 ht
 have w:∀ n:Int,0≤n→n≤4294967295→isI64 n=true:=fun n h1 h2=>isI64_iff.2 (by omega)
 exact ⟨(user_dec u).1,by simp,isU64_iff.2 hkb,w v (by omega) (by omega),w 0 (by omega) (by omega),w (u8i life) hl.1 (by omega),w 0 (by omega) (by omega),w f (by omega) (by omega),w t (by omega) (by omega)⟩
theorem lock_set {life:UInt8} {u k v f t:Int} (k' v' f' t':Int):setEnt (lockDb life u k v f t) u ⟨(user u).name,[],k',v',0,u8i life,0,f',t'⟩=lockDb life u k' v' f' t':=setEnt_two
def reqG (op u k:Int) (body:Bytes):KaRequest:=⟨op,user u,0,[],[],[],[],(makeBox 7 k body).val⟩
theorem reqG_ok {op u k:Int} {body:Bytes} (ho:op=1∨op=3) (hl:body.length≤1000):(encodeKaRequest (reqG op u k body)).err=0:=by
 have hb:=makeBox_len 7 k body
 have h1:kaOp op=true:=by rcases ho with rfl | rfl<;>rfl
 have h2:(op==2)=false:=by rcases ho with rfl | rfl<;>rfl
 unfold encodeKaRequest reqG
 dsimp only
 rw [if_neg (by simp [h1]),h2,if_neg (by simp),if_neg (by simp [user_valid]),if_neg (by omega),if_neg (by simp)]
theorem simple_lock (life:UInt8) {u:Int} (hu:u=0∨u=1∨u=2):simpleDb life 0 255=lockDb life u (long u) (3+u) 0 0:=by
 rcases hu with rfl | rfl | rfl<;>rfl
theorem who_cases (w:UInt8):u8i w % 3=0∨u8i w % 3=1∨u8i w % 3=2:=by
 have:=u8i_bd w
 omega
end Kerb
/- Chapter 23, plain: how long a ticket lasts, and who can open the answer. -/
namespace Kerb
open Go Go.Abs
set_option linter.unusedVariables false
namespace KAsk
end KAsk
end Kerb
namespace Kerb
open Go Go.Abs
structure Bound (a:KAsk) (d:Db) (ad se:Int) (o:KaOut) (R:KaReply) (Y:KaAnswer) (k:Int):Prop where
 dec:decodeKaReply o.answer=⟨R,0⟩
 len:o.answer.length≤1000000
 code:R.code=0
 opens:(openBox R.box 8 k).2=true
 says:decodeKaAnswer (openBox R.box 8 k).1=⟨Y,0⟩
 ses:Y.session=se
 ises:o.issue.session=se
 sealr:o.issue.sealer=k
 time:Y.time=1000+u8i a.time+1
 start:Y.start=1100
 stop:Y.stop=o.issue.stop
 most:o.issue.stop≤1000+u8i a.time+u8i a.stop*50
 client:o.issue.client=user (u8i a.user % 3)
 kind:(o.issue.kind=3∧k=(entAt d (findEnt d.entries o.issue.client.name o.issue.client.inst).1).key∧0≤(findEnt d.entries o.issue.client.name o.issue.client.inst).1∧(findEnt d.entries o.issue.client.name o.issue.client.inst).1<d.entries.length) ∨
  (o.issue.kind=4∧k=session (u8i a.session % 4)∧o.issue.stop≤1000+u8i a.issued+300*(u8i a.life % 40+1)∧u8i a.address % 2=ad∧o.issue.granter=k)
end Kerb
/- Chapter 24, plain: the way of a client whose requests reach a server of AFS. -/
namespace Kerb
open Go Go.Abs
set_option linter.unusedVariables false
def secE (l:Bytes) (e:Int):KaSecret:=⟨l,1000,1000,e,0⟩
theorem secE_ok {l:Bytes} {e:Int} (hl:timed l=true) (h:0≤e∧e≤4294967295):(encodeKaSecret (secE l e)).err=0:=by
 unfold encodeKaSecret secE
 dsimp only
 rw [if_neg (by simp [hl]),if_neg (by decide),if_pos hl,if_neg (by rw [within_iff.2 h];decide),if_neg (by simp)]
theorem secE_of {l:Bytes} {e now sk:Int} (hl:timed l=true) (h:0≤e∧e≤4294967295) (hn:near 1000 now sk=true):kaSecretOf (encodeKaSecret (secE l e)).val l now sk=⟨secE l e,0⟩:=by
 have hd:decodeKaSecret (encodeKaSecret (secE l e)).val=⟨secE l e,0⟩:=kaSec_dec (by simp [secE]) (by simp [secE]) (secE_ok hl h)
 rw [kaSecOf_4 (by rw [hd]) (by rw [hd];rfl) (by rw [hd];exact hn),hd]
theorem send_ok {r:KaRequest} {s:KaSecret} {k:Int} (h1:(encodeKaSecret s).err=0) (hk:keyValid k=true) (h2:(encodeKaRequest { r with box:=(makeBox 7 k (encodeKaSecret s).val).val }).err=0) :
  kaSend r s k=⟨(encodeKaRequest { r with box:=(makeBox 7 k (encodeKaSecret s).val).val }).val,0⟩:=by
 have hl:=encKaSec_len s
 unfold kaSend
 rw [if_neg (by simp [h1]),if_neg (by simp [(makeBox_ok (kd:=7) (k:=k) (b:=(encodeKaSecret s).val) rfl hk (by omega)).1])]
 cases hE:encodeKaRequest { r with box:=(makeBox 7 k (encodeKaSecret s).val).val } with
 | mk v e=>rw [hE] at h2;simp only at h2;rw [h2]
def lifeG (l:Int):Int:=if l≤200 then l else 200
theorem lifeG_bd {l:Int} (h:0≤l∧l≤255):0≤lifeG l∧lifeG l≤200∧lifeG l≤l:=by unfold lifeG;split<;>omega
theorem tEnd_at {l:Int} (h:0≤l∧l≤255):tEnd 1000 l=1000+300*(l+1):=by
 unfold tEnd
 rw [within_iff.2 h]
 rfl
theorem grant_at {l:Int} (h:0≤l∧l≤255) (r:List Int) (hr:∀ e∈r,1000+300*(lifeG l+1)≤e):grantLife 1000 200 ((1000+300*(l+1))::r)=(lifeG l,true):=by
 have hb:=lifeG_bd h
 have hm:least (1000+300*(imin 200 255+1)) ((1000+300*(l+1))::r)=1000+300*(lifeG l+1):=by
  have h1:imin (1000+300*(imin 200 255+1)) (1000+300*(l+1))=1000+300*(lifeG l+1):=by
   unfold imin lifeG
   split<;>split<;>split<;>omega
  show least (imin (1000+300*(imin 200 255+1)) (1000+300*(l+1))) r=_
  rw [h1]
  clear h1
  induction r with
  | nil=>rfl
  | cons b r ih =>
   have h2:imin (1000+300*(lifeG l+1)) b=1000+300*(lifeG l+1):=by
    have:=hr b (List.mem_cons_self ..)
    unfold imin
    split<;>omega
   show least (imin (1000+300*(lifeG l+1)) b) r=_
   rw [h2]
   exact ih fun e he=>hr e (List.mem_cons_of_mem _ he)
 unfold grantLife
 rw [hm,if_neg (by decide),if_neg (by omega)]
 have:imin ((1000+300*(lifeG l+1)-1000) / 300-1) 255=lifeG l:=by unfold imin;split<;>omega
 rw [this]
def pathC (u ad:Int) (creds:List Cred):Client:=⟨user u,ad,300,true,⟨user u,creds⟩,0,noPrin,0,0,0,0,0⟩
theorem path_new {u ad:Int} (h:0≤ad∧ad≤255):newClient (user u) ad 300 true=⟨pathC u ad [],0⟩:=by
 unfold newClient
 rw [if_neg (by simp [user_valid]),if_neg (by rw [within_iff.2 (show 0≤ad∧ad≤4294967295 by omega)];decide)]
 rfl
theorem path_err {u ad:Int} {cs:List Cred} (h:0≤ad∧ad≤255) (hc:Cache.err ⟨user u,cs⟩=0):(pathC u ad cs).err=0:=by
 unfold Client.err pathC
 dsimp only
 rw [if_neg (by simp [user_valid]),if_neg (by rw [within_iff.2 (show 0≤ad∧ad≤4294967295 by omega)];decide),if_neg (by simp),if_neg (by simp [hc]),if_neg (by simp [Prin.eqb])]
theorem cache0 (u:Int):Cache.err ⟨user u,[]⟩=0:=by
 unfold Cache.err
 rw [if_neg (by simp [user_valid]),if_neg (by simp)]
 rfl
theorem cache1 {u:Int} {c:Cred} (h:credErr c=0):Cache.err ⟨user u,[c]⟩=0:=by
 unfold Cache.err
 rw [if_neg (by simp [user_valid]),if_neg (by simp)]
 simp only [credsErr]
 rw [if_neg (by simp [h]),if_neg (by simp)]
abbrev athG:Prin:=tgs [65,84,72] [65,84,72]
def tktP (u ad l:Int):Bytes:=giveT (user u) athG ad 1000 (lifeG l) (session 70) (long 3)
def ansP (u ad l:Int):KaAnswer:=giveA lGot 1000 (user u) athG ad 1000 (lifeG l) (session 70) (long 3) 6
def boxP (u ad l:Int):Bytes:=(makeBox 8 (long u) (encodeKaAnswer (ansP u ad l)).val).val
def credP (u ad l:Int):Cred:=⟨athG,session 70,lifeG l,6,1000,tktP u ad l⟩
theorem tktP_len (u ad l:Int):(tktP u ad l).length≤236:=sealTicket_len _ _
theorem path_auth {u l ad:Int} {msg:Bytes} (hu:u=0∨u=1∨u=2) (hl:0≤l∧l≤255) (had:0≤ad∧ad≤255)
  (hm:msg=(encodeKaRequest (reqG 1 u (long u) (encodeKaSecret (secE lGet (1000+300*(l+1)))).val)).val) :
  kaserver (lockDb 200 u (long u) (3+u) 0 0) 1000 ad 300 (session 70) msg=⟨lockDb 200 u (long u) (3+u) 0 0,(encodeKaReply ⟨1,0,boxP u ad l⟩).val,⟨3,athG,user u,athG,session 70,long u,0,tktP u ad l,1000,tEnd 1000 (lifeG l)⟩,true⟩ ∧
   (encodeKaReply ⟨1,0,boxP u ad l⟩).err=0∧(makeBox 8 (long u) (encodeKaAnswer (ansP u ad l)).val).err=0∧(encodeKaAnswer (ansP u ad l)).err=0:=by
 have hb:=lifeG_bd hl
 have hk:keyValid (long u)=true:=long_valid (by omega) (by omega)
 have hsl:(encodeKaSecret (secE lGet (1000+300*(l+1)))).val.length≤1000:=by have:=encKaSec_len (secE lGet (1000+300*(l+1)));omega
 have hd:decodeKaRequest msg=⟨reqG 1 u (long u) (encodeKaSecret (secE lGet (1000+300*(l+1)))).val,0⟩:=by rw [hm];exact kaReq_dec (reqG_ok (.inl rfl) hsl)
 have hbx:(makeBox 7 (long u) (encodeKaSecret (secE lGet (1000+300*(l+1)))).val).err=0:=(makeBox_ok rfl hk hsl).1
 have ho:=openBox_back (long_bd u).1 (long_bd u).2 hbx
 have hr:(lockDb 200 u (long u) (3+u) 0 0).realm=[65,84,72]:=rfl
 have hru:(user u).realm=[65,84,72]:=by rcases hu with rfl | rfl | rfl<;>rfl
 have haw:within ad 4294967295=true:=by rw [within_iff];omega
 have hlife:kaLife1 (lockDb 200 u (long u) (3+u) 0 0) ⟨(user u).name,[],long u,3+u,0,u8i 200,0,0,0⟩ (secE lGet (1000+300*(l+1))) 1000=(lifeG l,true):=by
  unfold kaLife1
  rw [hr,lock_svc hu]
  exact grant_at hl [] (by simp)
 have hLw:within (lifeG l) 255=true:=by rw [within_iff];omega
 have ht0:0≤tEnd 1000 (lifeG l):=by rw [tEnd_at ⟨hb.1,by omega⟩];omega
 obtain ⟨g1,g2,g3,g4⟩:=kaGive_ok (op:=1) (label:=lGot) (time:=1000) (realm:=[65,84,72]) (client:=user u) (service:=athG) (address:=ad) (now:=1000) (life:=lifeG l) (session:=session 70) (sealer:=long u) (target:=long 3) (kvno:=6) (kind:=3) (granter:=0) rfl rfl (user_valid u) (by decide) (by decide) haw hLw (by decide) (long_valid (by decide) (by decide)) hk (by decide) ht0
 refine ⟨?_,g2,g3,g4⟩
 unfold kaserver
 rw [hd]
 rw [if_neg (by rw [haw];decide),if_neg (by simp),if_neg (by simp [reqG])]
 unfold kaByUser
 have e1:(reqG 1 u (long u) (encodeKaSecret (secE lGet (1000+300*(l+1)))).val).user=user u:=rfl
 have e2:(reqG 1 u (long u) (encodeKaSecret (secE lGet (1000+300*(l+1)))).val).op=1:=rfl
 have e3:(reqG 1 u (long u) (encodeKaSecret (secE lGet (1000+300*(l+1)))).val).box=(makeBox 7 (long u) (encodeKaSecret (secE lGet (1000+300*(l+1)))).val).val:=rfl
 simp only [e1,e2,e3,lock_client hu hk,lock_at hu,ho,hr,hru]
 rw [if_neg (by simp),if_neg (by simp),if_neg (by omega),if_neg (by simp),if_pos trivial]
 unfold kaAuthenticate
 simp only [secE_of (l:=lGet) (e:=1000+300*(l+1)) rfl (by omega) (by decide:near 1000 1000 300=true),hr,lock_svc hu,hlife]
 rw [if_neg (by simp),if_neg (by simp),if_neg (by simp),if_neg (by decide)]
 have e4:(secE lGet (1000+300*(l+1))).time=1000:=rfl
 rw [e4,g1]
 have e5:kaClear (lockDb 200 u (long u) (3+u) 0 0) u=lockDb 200 u (long u) (3+u) 0 0:=by
  unfold kaClear
  rw [lock_at hu]
  exact lock_set (long u) (3+u) 0 0
 rw [e5]
 simp only [if_true]
 rfl
theorem credP_ok {u l ad:Int} (hl:0≤l∧l≤255):credErr (credP u ad l)=0:=by
 have hb:=lifeG_bd hl
 have ht:=tktP_len u ad l
 unfold credErr credP
 dsimp only
 rw [if_neg (by decide),if_neg (by decide),if_neg (by rw [within_iff.2 (show 0≤lifeG l∧lifeG l≤255 by omega)];decide),if_neg (by omega)]
theorem receive1 {u l ad e:Int} (hu:u=0∨u=1∨u=2) (hl:0≤l∧l≤255) (had:0≤ad∧ad≤255) (h1:(encodeKaReply ⟨1,0,boxP u ad l⟩).err=0) (h2:(makeBox 8 (long u) (encodeKaAnswer (ansP u ad l)).val).err=0) (h3:(encodeKaAnswer (ansP u ad l)).err=0) :
  kaReceive (pathC u ad []) ⟨1,1000,1000,e,athG,0,0⟩ (long u) (encodeKaReply ⟨1,0,boxP u ad l⟩).val=⟨pathC u ad [credP u ad l],noWait,credP u ad l,0⟩:=by
 have hb:=lifeG_bd hl
 have ho:=openBox_back (long_bd u).1 (long_bd u).2 h2
 have hA:decodeKaAnswer (encodeKaAnswer (ansP u ad l)).val=⟨ansP u ad l,0⟩:=kaAns_dec (show (0:Int)≤session 70 by decide) (show session 70<18446744073709551616 by decide) h3
 have hQ:kaOpen ⟨1,1000,1000,e,athG,0,0⟩ (long u) (boxP u ad l)=⟨ansP u ad l,0⟩:=by
  unfold kaOpen
  have hk:kaKey ⟨1,1000,1000,e,athG,0,0⟩ (long u)=long u:=rfl
  have ho2:openBox (boxP u ad l) 8 (long u)=((encodeKaAnswer (ansP u ad l)).val,true):=ho
  rw [hk,ho2]
  dsimp only
  rw [hA,if_neg (by simp),if_neg (by
   unfold kaFits
   dsimp only
   have e1:(ansP u ad l).label=lGot:=rfl
   have e2:(ansP u ad l).time=kaNext 1000:=rfl
   have e3:(ansP u ad l).service=athG:=rfl
   rw [e1,e2,e3]
   decide)]
 have hst:(ansP u ad l).stop=1000+300*(lifeG l+1):=by
  show imin (tEnd 1000 (lifeG l)) 4294967295=_
  rw [tEnd_at ⟨hb.1,by omega⟩]
  unfold imin
  rw [if_neg (by omega)]
 have hss:(ansP u ad l).start=1000:=rfl
 have hcr:kaCred (ansP u ad l)=credP u ad l:=by
  unfold kaCred fromSec
  rw [hst,hss,Int.tdiv_eq_ediv_of_nonneg (by omega)]
  have:imin ((1000+300*(lifeG l+1)-1000) / 300-1) 255=lifeG l:=by unfold imin;split<;>omega
  rw [this]
  rfl
 have hS:storeCred (pathC u ad []).cache (kaCred (ansP u ad l))=⟨⟨user u,[credP u ad l]⟩,0⟩:=by
  rw [hcr]
  unfold storeCred
  have c0:(pathC u ad []).cache.err=0:=cache0 u
  have c1:Cache.err ⟨(pathC u ad []).cache.owner,[credP u ad l]⟩=0:=cache1 (credP_ok hl)
  rw [if_neg (by simp [c0]),if_neg (by simp [c1])]
  rfl
 rw [kaReceive_of (path_err had (cache0 u)) (kaRep_dec h1) hQ hS]
 dsimp only
 rw [if_neg (by decide),if_neg (by simp),if_neg (by simp),if_neg (by simp),if_neg (by simp),if_neg (by simp),hst,hss,if_neg (by omega),if_neg (by simp),hcr]
 rfl
theorem kaEnd_at {l:Int} (h:0≤l∧l≤255):kaEnd 1000 l=1000+300*(l+1):=by
 unfold kaEnd
 rw [tEnd_at h]
 unfold imin
 rw [if_neg (by omega)]
theorem auth_sent {u l ad:Int} (hu:u=0∨u=1∨u=2) (hl:0≤l∧l≤255) (had:0≤ad∧ad≤255) :
  kaAuth (pathC u ad []) (long u) l 1000=⟨⟨1,1000,1000,1000+300*(l+1),athG,0,0⟩,(encodeKaRequest (reqG 1 u (long u) (encodeKaSecret (secE lGet (1000+300*(l+1)))).val)).val,0⟩:=by
 have hk:keyValid (long u)=true:=long_valid (by omega) (by omega)
 have hsl:(encodeKaSecret (secE lGet (1000+300*(l+1)))).val.length≤1000:=by have:=encKaSec_len (secE lGet (1000+300*(l+1)));omega
 have hs:=send_ok (r:=⟨1,user u,0,[],[],[],[],[]⟩) (s:=secE lGet (1000+300*(l+1))) (k:=long u) (secE_ok rfl (by omega)) hk (reqG_ok (u:=u) (k:=long u) (.inl rfl) hsl)
 have hru:(user u).realm=[65,84,72]:=by rcases hu with rfl | rfl | rfl<;>rfl
 have hs2:kaSend ⟨1,(pathC u ad []).me,0,[],[],[],[],[]⟩ ⟨lGet,1000,1000,kaEnd 1000 l,0⟩ (long u)=⟨(encodeKaRequest (reqG 1 u (long u) (encodeKaSecret (secE lGet (1000+300*(l+1)))).val)).val,0⟩:=by
  rw [kaEnd_at hl];exact hs
 unfold kaAuth
 rw [if_neg (by simp [path_err had (cache0 u)]),if_neg (by rw [within_iff.2 hl];decide),if_neg (by simp [hk]),hs2,if_neg (by simp),kaEnd_at hl]
 show KaSent.mk ⟨1,1000,1000,_,tgs (user u).realm (user u).realm,0,0⟩ _ _=_
 rw [hru]
def reqT (u ad l:Int) (s:Prin):KaRequest:=⟨2,noPrin,6,[65,84,72],tktP u ad l,s.name,s.inst,(makeBox 7 (session 70) (encodeKaSecret (secE lTicket (1000+300*(l+1)))).val).val⟩
theorem reqT_ok {u ad l:Int} {s:Prin} (hs:s.valid=true):(encodeKaRequest (reqT u ad l s)).err=0:=by
 have ht:=tktP_len u ad l
 have hb:=makeBox_len 7 (session 70) (encodeKaSecret (secE lTicket (1000+300*(l+1)))).val
 have hsl:=encKaSec_len (secE lTicket (1000+300*(l+1)))
 simp only [Prin.valid,Bool.and_eq_true] at hs
 unfold encodeKaRequest reqT
 dsimp only
 rw [if_neg (by decide),if_pos (by decide),if_neg (by rw [hs.1.1,hs.1.2];decide),if_neg (by decide),if_neg (by omega),if_neg (by decide)]
theorem svc_cases {s:Int} (h:s=0∨s=1∨s=2):(service s).valid=true∧(service s).realm=[65,84,72]:=by rcases h with rfl | rfl | rfl<;>exact ⟨by decide,rfl⟩
theorem ticket_sent {u l ad s:Int} (hu:u=0∨u=1∨u=2) (hsv:s=0∨s=1∨s=2) (hl:0≤l∧l≤255) (had:0≤ad∧ad≤255) :
  kaTicket (pathC u ad [credP u ad l]) (service s) l 1000=⟨⟨2,1000,1000,1000+300*(l+1),service s,session 70,0⟩,(encodeKaRequest (reqT u ad l (service s))).val,0⟩:=by
 have hb:=lifeG_bd hl
 obtain ⟨v1,v2⟩:=svc_cases hsv
 have hru:(user u).realm=[65,84,72]:=by rcases hu with rfl | rfl | rfl<;>rfl
 have hx:liveCred [credP u ad l] athG 1000=⟨credP u ad l,0⟩:=by
  unfold liveCred
  have hg:getCred [credP u ad l] athG=(credP u ad l,true):=by
   have:credAt [credP u ad l] athG=0:=rfl
   unfold getCred
   rw [this,if_pos (by simp)]
   rfl
  rw [hg,if_neg (by simp),if_neg (by
   unfold Cred.expired
   show ¬ decide (tEnd 1000 (lifeG l)<1000)=true
   rw [tEnd_at ⟨hb.1,by omega⟩]
   simp;omega)]
 have hm:=send_ok (r:=⟨2,noPrin,6,[65,84,72],tktP u ad l,(service s).name,(service s).inst,[]⟩) (s:=secE lTicket (1000+300*(l+1))) (k:=session 70) (secE_ok rfl (by omega)) (by decide) (reqT_ok v1)
 have e1:(pathC u ad [credP u ad l]).me=user u:=rfl
 have e2:(pathC u ad [credP u ad l]).cache.creds=[credP u ad l]:=rfl
 unfold kaTicket
 rw [if_neg (by simp [path_err had (cache1 (credP_ok hl))]),e1,e2,hru,if_neg (by simp [v1,v2]),if_neg (by rw [within_iff.2 hl];decide)]
 dsimp only
 rw [hx]
 dsimp only
 rw [if_neg (by simp),kaEnd_at hl]
 change (if (kaSend ⟨2,noPrin,6,[65,84,72],tktP u ad l,(service s).name,(service s).inst,[]⟩ (secE lTicket (1000+300*(l+1))) (session 70)).err≠0 then _ else _)=_
 rw [hm,if_neg (by simp)]
 change KaSent.mk _ (kaSend ⟨2,noPrin,6,[65,84,72],tktP u ad l,(service s).name,(service s).inst,[]⟩ (secE lTicket (1000+300*(l+1))) (session 70)).val _=_
 rw [hm]
 rfl
def slotS (s:Int):Int:=if s=2 then 3 else 4+s
theorem lock_serv {life:UInt8} {u k v f t s:Int} (hu:u=0∨u=1∨u=2) (hs:s=0∨s=1∨s=2) (now:Int):serviceEnt (lockDb life u k v f t) (service s).name (service s).inst now=(slotS s,0)∧entAt (lockDb life u k v f t) (slotS s)=⟨(service s).name,(service s).inst,long (slotS s),3+slotS s,0,u8i life,0,0,0⟩:=by
 have hf:findEnt (lockDb life u k v f t).entries (service s).name (service s).inst=(slotS s,0):=by
  rcases hu with rfl | rfl | rfl<;>rcases hs with rfl | rfl | rfl<;>rfl
 have ha:entAt (lockDb life u k v f t) (slotS s)=⟨(service s).name,(service s).inst,long (slotS s),3+slotS s,0,u8i life,0,0,0⟩:=by
  rcases hu with rfl | rfl | rfl<;>rcases hs with rfl | rfl | rfl<;>rfl
 refine ⟨?_,ha⟩
 have hb:0≤slotS s∧slotS s<256:=by unfold slotS;split<;>omega
 unfold serviceEnt useEnt
 rw [hf]
 dsimp only
 unfold entAt at ha
 rw [ha]
 dsimp only
 rw [if_neg (by simp),if_neg (by rw [long_valid hb.1 hb.2];simp),if_neg (by simp),if_neg (by decide)]
theorem lock_svcS {life:UInt8} {u k v f t s:Int} (hu:u=0∨u=1∨u=2) (hs:s=0∨s=1∨s=2) (now:Int):svc (lockDb life u k v f t) [] (service s).name (service s).inst now=⟨long (slotS s),3+slotS s,u8i life,0,0⟩:=by
 obtain ⟨h1,h2⟩:=lock_serv (life:=life) (k:=k) (v:=v) (f:=f) (t:=t) hu hs now
 have hr:(lockDb life u k v f t).realm=[65,84,72]:=rfl
 unfold entAt at h2
 unfold svc
 rw [hr,h1,if_neg (by rcases hs with rfl | rfl | rfl<;>decide),if_neg (by simp)]
 dsimp only
 rw [h2]
def tktT (u ad l:Int):Ticket:=grantTkt false (user u) athG ad 1000 (lifeG l) (session 70)
theorem path_presented {u l ad s:Int} (hu:u=0∨u=1∨u=2) (hl:0≤l∧l≤255) (had:0≤ad∧ad≤255):kaPresented (lockDb 200 u (long u) (3+u) 0 0) 1000 ad 300 (reqT u ad l (service s))=⟨tktT u ad l,0⟩:=by
 have hb:=lifeG_bd hl
 have hru:(user u).realm=[65,84,72]:=by rcases hu with rfl | rfl | rfl<;>rfl
 obtain ⟨h1,h2⟩:=lock_serv (life:=200) (k:=long u) (v:=3+u) (f:=0) (t:=0) (s:=2) hu (.inr (.inr rfl)) 1000
 have hT:(encodeTicket (tktT u ad l)).err=0:=ticket_ok (user_valid u) (show validName krbtgt=true by decide) (show validInst [65,84,72]=true by decide) (by decide:classOf (session 70)=2) (by rw [within_iff];show 0≤ad∧ad≤_;omega) (by rw [within_iff];show 0≤lifeG l∧lifeG l≤_;omega) (show within 1000 4294967295=true by decide)
 have hlt:=encTicket_len (tktT u ad l)
 have hbx:(makeBox 1 (long 3) (encodeTicket (tktT u ad l)).val).err=0:=(makeBox_ok rfl (by decide) (by omega)).1
 have hX:tktP u ad l=(makeBox 1 (long 3) (encodeTicket (tktT u ad l)).val).val:=by
  show (sealTicket (tktT u ad l) (long 3)).val=_
  unfold sealTicket
  rw [if_neg (by simp [hT])]
 have ho:openTicket (tktP u ad l) (long 3)=⟨tktT u ad l,0⟩:=by
  unfold openTicket
  rw [hX,openBox_back (long_bd 3).1 (long_bd 3).2 hbx]
  exact ticket_dec (show (0:Int)≤session 70 by decide) (show session 70<18446744073709551616 by decide) hT
 have e1:(reqT u ad l (service s)).realm=[65,84,72]:=rfl
 have e2:(reqT u ad l (service s)).kvno=6:=rfl
 have e3:(reqT u ad l (service s)).ticket=tktP u ad l:=rfl
 have hr:(lockDb 200 u (long u) (3+u) 0 0).realm=[65,84,72]:=rfl
 have h1':serviceEnt (lockDb 200 u (long u) (3+u) 0 0) krbtgt [65,84,72] 1000=(3,0):=h1
 have h2':entAt (lockDb 200 u (long u) (3+u) 0 0) 3=⟨krbtgt,[65,84,72],long 3,6,0,u8i 200,0,0,0⟩:=h2
 have hst:stateErr (tktT u ad l).issued (tktT u ad l).life 1000 300=0:=by
  show stateErr 1000 (lifeG l) 1000 300=0
  unfold stateErr
  rw [if_neg (by rw [within_iff.2 (show 0≤lifeG l∧lifeG l≤255 by omega)];decide),if_neg (by omega),tEnd_at ⟨hb.1,by omega⟩,if_neg (by omega)]
 unfold kaPresented
 rw [e1,e2,e3,hr,h1']
 dsimp only
 rw [h2']
 dsimp only
 rw [ho]
 dsimp only
 rw [hst,if_neg (by simp),if_neg (by simp),if_neg (by simp),if_neg (by simp),if_neg (by
  show ¬ (krbtgt≠krbtgt∨([65,84,72]:Bytes)≠[65,84,72])
  decide),if_neg (by
  show ¬ ((user u).realm≠_)
  rw [hru];simp),if_neg (by
  show ¬ (ad≠ad)
  simp),if_neg (by simp)]
def tktQ (u ad l s:Int):Bytes:=giveT (user u) (service s) ad 1000 (lifeG l) (session 71) (long (slotS s))
def ansQ (u ad l s:Int):KaAnswer:=giveA lGiven 1000 (user u) (service s) ad 1000 (lifeG l) (session 71) (long (slotS s)) (3+slotS s)
def boxQ (u ad l s:Int):Bytes:=(makeBox 8 (session 70) (encodeKaAnswer (ansQ u ad l s)).val).val
def credQ (u ad l s:Int):Cred:=⟨service s,session 71,lifeG l,3+slotS s,1000,tktQ u ad l s⟩
theorem path_ticket {u l ad s:Int} {msg:Bytes} (hu:u=0∨u=1∨u=2) (hs:s=0∨s=1∨s=2) (hl:0≤l∧l≤255) (had:0≤ad∧ad≤255) (hm:msg=(encodeKaRequest (reqT u ad l (service s))).val) :
  kaserver (lockDb 200 u (long u) (3+u) 0 0) 1000 ad 300 (session 71) msg=⟨lockDb 200 u (long u) (3+u) 0 0,(encodeKaReply ⟨2,0,boxQ u ad l s⟩).val,⟨4,athG,user u,service s,session 71,session 70,session 70,tktQ u ad l s,1000,tEnd 1000 (lifeG l)⟩,true⟩ ∧
   (encodeKaReply ⟨2,0,boxQ u ad l s⟩).err=0∧(makeBox 8 (session 70) (encodeKaAnswer (ansQ u ad l s)).val).err=0∧(encodeKaAnswer (ansQ u ad l s)).err=0:=by
 have hb:=lifeG_bd hl
 obtain ⟨v1,v2⟩:=svc_cases hs
 have hsb:0≤slotS s∧slotS s<6:=by unfold slotS;split<;>omega
 have hd:decodeKaRequest msg=⟨reqT u ad l (service s),0⟩:=by rw [hm];exact kaReq_dec (reqT_ok v1)
 have hsl:(encodeKaSecret (secE lTicket (1000+300*(l+1)))).val.length≤1000:=by have:=encKaSec_len (secE lTicket (1000+300*(l+1)));omega
 have hbx:(makeBox 7 (session 70) (encodeKaSecret (secE lTicket (1000+300*(l+1)))).val).err=0:=(makeBox_ok rfl (by decide) hsl).1
 have ho:=openBox_back (show (0:Int)≤session 70 by decide) (show session 70<18446744073709551616 by decide) hbx
 have hr:(lockDb 200 u (long u) (3+u) 0 0).realm=[65,84,72]:=rfl
 have haw:within ad 4294967295=true:=by rw [within_iff];omega
 have hLw:within (lifeG l) 255=true:=by rw [within_iff];omega
 have hte:=tEnd_at (l:=lifeG l) ⟨hb.1,by omega⟩
 have ht0:0≤tEnd 1000 (lifeG l):=by rw [hte];omega
 have hlife:kaLife2 ⟨long (slotS s),3+slotS s,u8i 200,0,0⟩ (tktT u ad l) (secE lTicket (1000+300*(l+1))) 1000=(lifeG l,true) :=
  grant_at hl [tEnd 1000 (lifeG l)] (by intro e he;rw [List.mem_singleton.1 he,hte];omega)
 obtain ⟨g1,g2,g3,g4⟩:=kaGive_ok (op:=2) (label:=lGiven) (time:=1000) (realm:=[65,84,72]) (client:=user u) (service:=service s) (address:=ad) (now:=1000) (life:=lifeG l) (session:=session 71) (sealer:=session 70) (target:=long (slotS s)) (kvno:=3+slotS s) (kind:=4) (granter:=session 70) rfl rfl (user_valid u) v1 (by decide) haw hLw (by decide) (long_valid hsb.1 (by omega)) (by decide) (by rw [within_iff];omega) ht0
 refine ⟨?_,g2,g3,g4⟩
 unfold kaserver
 rw [hd]
 rw [if_neg (by rw [haw];decide),if_neg (by simp),if_pos (show (reqT u ad l (service s)).op=2 from rfl)]
 unfold kaGetTicket
 have e1:(reqT u ad l (service s)).box=(makeBox 7 (session 70) (encodeKaSecret (secE lTicket (1000+300*(l+1)))).val).val:=rfl
 have e2:(reqT u ad l (service s)).service=(service s).name:=rfl
 have e3:(reqT u ad l (service s)).inst=(service s).inst:=rfl
 have e4:(tktT u ad l).session=session 70:=rfl
 have e5:(tktT u ad l).client=user u:=rfl
 have e6:(tktT u ad l).address=ad:=rfl
 have e7:(secE lTicket (1000+300*(l+1))).time=1000:=rfl
 simp only [path_presented hu hl had,e1,e2,e3,e4,ho,secE_of (l:=lTicket) (e:=1000+300*(l+1)) rfl (by omega) (by decide:near 1000 1000 300=true),lock_svcS hu hs,hlife,hr,e5,e6,e7]
 rw [if_neg (by simp),if_neg (by simp),if_neg (by simp),if_neg (by simp),if_neg (by simp),if_neg (by decide)]
 have e8:(⟨(service s).name,(service s).inst,[65,84,72]⟩:Prin)=service s:=by rw [← v2]
 rw [e8,g1]
 rfl
theorem tktQ_len (u ad l s:Int):(tktQ u ad l s).length≤236:=sealTicket_len _ _
theorem credQ_ok {u l ad s:Int} (hs:s=0∨s=1∨s=2) (hl:0≤l∧l≤255):credErr (credQ u ad l s)=0:=by
 have hb:=lifeG_bd hl
 have ht:=tktQ_len u ad l s
 have hsb:0≤slotS s∧slotS s<6:=by unfold slotS;split<;>omega
 unfold credErr credQ
 dsimp only
 rw [if_neg (by simp [(svc_cases hs).1]),if_neg (by decide),if_neg (by rw [within_iff.2 (show 0≤lifeG l∧lifeG l≤255 by omega),within_iff.2 (show 0≤3+slotS s∧3+slotS s≤255 by omega)];decide),if_neg (by omega)]
def credsQ (u ad l s:Int):List Cred:=(if s=2 then [] else [credP u ad l])++[credQ u ad l s]
theorem receive2 {u l ad e s:Int} (hu:u=0∨u=1∨u=2) (hs:s=0∨s=1∨s=2) (hl:0≤l∧l≤255) (had:0≤ad∧ad≤255) (h1:(encodeKaReply ⟨2,0,boxQ u ad l s⟩).err=0) (h2:(makeBox 8 (session 70) (encodeKaAnswer (ansQ u ad l s)).val).err=0) (h3:(encodeKaAnswer (ansQ u ad l s)).err=0) :
  kaReceive (pathC u ad [credP u ad l]) ⟨2,1000,1000,e,service s,session 70,0⟩ (long u) (encodeKaReply ⟨2,0,boxQ u ad l s⟩).val=⟨pathC u ad (credsQ u ad l s),noWait,credQ u ad l s,0⟩:=by
 have hb:=lifeG_bd hl
 have ho:=openBox_back (show (0:Int)≤session 70 by decide) (show session 70<18446744073709551616 by decide) h2
 have hA:decodeKaAnswer (encodeKaAnswer (ansQ u ad l s)).val=⟨ansQ u ad l s,0⟩:=kaAns_dec (show (0:Int)≤session 71 by decide) (show session 71<18446744073709551616 by decide) h3
 have hQ:kaOpen ⟨2,1000,1000,e,service s,session 70,0⟩ (long u) (boxQ u ad l s)=⟨ansQ u ad l s,0⟩:=by
  unfold kaOpen
  have hk:kaKey ⟨2,1000,1000,e,service s,session 70,0⟩ (long u)=session 70:=rfl
  have ho2:openBox (boxQ u ad l s) 8 (session 70)=((encodeKaAnswer (ansQ u ad l s)).val,true):=ho
  rw [hk,ho2]
  dsimp only
  rw [hA,if_neg (by simp),if_neg (by
   unfold kaFits
   dsimp only
   have e1:(ansQ u ad l s).label=lGiven:=rfl
   have e2:(ansQ u ad l s).time=kaNext 1000:=rfl
   have e3:(ansQ u ad l s).service=service s:=rfl
   have e4:(service s).eqb (service s)=true:=by simp [Prin.eqb]
   rw [e1,e2,e3,e4]
   decide)]
 have hst:(ansQ u ad l s).stop=1000+300*(lifeG l+1):=by
  show imin (tEnd 1000 (lifeG l)) 4294967295=_
  rw [tEnd_at ⟨hb.1,by omega⟩]
  unfold imin
  rw [if_neg (by omega)]
 have hss:(ansQ u ad l s).start=1000:=rfl
 have hcr:kaCred (ansQ u ad l s)=credQ u ad l s:=by
  unfold kaCred fromSec
  rw [hst,hss,Int.tdiv_eq_ediv_of_nonneg (by omega)]
  have:imin ((1000+300*(lifeG l+1)-1000) / 300-1) 255=lifeG l:=by unfold imin;split<;>omega
  rw [this]
  rfl
 have hfil:([credP u ad l].filter fun d => !d.service.eqb (credQ u ad l s).service)=if s=2 then [] else [credP u ad l]:=by
  rcases hs with rfl | rfl | rfl<;>rfl
 have hS:storeCred (pathC u ad [credP u ad l]).cache (kaCred (ansQ u ad l s))=⟨⟨user u,credsQ u ad l s⟩,0⟩:=by
  rw [hcr]
  unfold storeCred
  have c0:(pathC u ad [credP u ad l]).cache.err=0:=cache1 (credP_ok hl)
  have c1:Cache.err ⟨(pathC u ad [credP u ad l]).cache.owner,[credQ u ad l s]⟩=0:=cache1 (credQ_ok hs hl)
  rw [if_neg (by simp [c0]),if_neg (by simp [c1])]
  have e1:(pathC u ad [credP u ad l]).cache.creds=[credP u ad l]:=rfl
  rw [e1,hfil,if_neg (by split<;>simp)]
  rfl
 rw [kaReceive_of (path_err had (cache1 (credP_ok hl))) (kaRep_dec h1) hQ hS]
 dsimp only
 rw [if_neg (by decide),if_neg (by simp),if_neg (by simp),if_neg (by simp),if_neg (by simp),if_neg (by simp),hst,hss,if_neg (by omega),if_neg (by simp),hcr]
 rfl
theorem path_has {u l ad s:Int} (hs:s=0∨s=1∨s=2):getCred (credsQ u ad l s) (service s)=(credQ u ad l s,true):=by
 rcases hs with rfl | rfl | rfl<;>rfl
structure PathFit (c:Client):Prop where
 me:c.me.name.length≤9223372036854775807∧c.me.inst.length≤9223372036854775807∧c.me.realm.length≤9223372036854775807
 owner:c.cache.owner.name.length≤9223372036854775807∧c.cache.owner.inst.length≤9223372036854775807∧c.cache.owner.realm.length≤9223372036854775807
 all:(c.cache.creds.map Cred.av).all isCred=true
 len:c.cache.creds.length≤1000000
theorem pathFit_of {u ad:Int} {cs:List Cred} (h:∀ c∈cs,c.ok) (hl:cs.length≤2):PathFit (pathC u ad cs):=⟨user_dec u,user_dec u,all_creds h,by show cs.length≤_;omega⟩
theorem pathFit_all {u l ad s:Int}:PathFit (pathC u ad [])∧PathFit (pathC u ad [credP u ad l])∧PathFit (pathC u ad (credsQ u ad l s)):=by
 have t1:=tktP_len u ad l
 have t2:=tktQ_len u ad l s
 have v:=service_dec s
 have o1:(credP u ad l).ok:=⟨by show athG.name.length≤_;decide,by show athG.inst.length≤_;decide,by show athG.realm.length≤_;decide,show (0:Int)≤session 70 by decide,show session 70<18446744073709551616 by decide,by show (tktP u ad l).length≤_;omega⟩
 have o2:(credQ u ad l s).ok:=⟨v.1,v.2.1,v.2.2,show (0:Int)≤session 71 by decide,show session 71<18446744073709551616 by decide,by show (tktQ u ad l s).length≤_;omega⟩
 refine ⟨pathFit_of (by simp) (by simp),pathFit_of (by simpa using o1) (by simp),pathFit_of ?_ ?_⟩
 ·intro c hc
  unfold credsQ at hc
  rw [List.mem_append] at hc
  rcases hc with hc | hc
  ·split at hc
   ·cases hc
   ·rw [List.mem_singleton.1 hc];exact o1
  ·rw [List.mem_singleton.1 hc];exact o2
 ·unfold credsQ
  split<;>simp
end Kerb
