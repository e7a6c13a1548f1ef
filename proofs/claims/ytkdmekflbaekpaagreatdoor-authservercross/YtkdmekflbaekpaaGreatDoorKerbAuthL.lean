/- Chapter 17: authentication servers; the data of its statements. -/
import Derived.Test.YtkdmekflbaekpaaGreatDoorKerbSrvB
import Derived.Test.YtkdmekflbaekpaaGreatDoorKerbVerL
namespace Kerb
open Go Go.Abs
set_option linter.unusedVariables false
def sealReply (r:KdcReply) (p:ReplyPart) (k:Int):Enc :=
 if (encodePart p r.little).err≠0 then ⟨[],(encodePart p r.little).err⟩
 else if (makeBox 3 k (encodePart p r.little).val).err≠0 then ⟨[],(makeBox 3 k (encodePart p r.little).val).err⟩
 else encodeReply ⟨r.little,r.client,r.time,r.expires,r.kvno,(makeBox 3 k (encodePart p r.little).val).val⟩
def refuseVer (msg:Bytes) (now:Int) (little:Bool):Bytes :=
 if msg.length=0 then [] else if msg.getD 0 0=4 then [] else if (decodeRequest (msg.set 0 4)).err≠0 then []
 else refuse (decodeRequest (msg.set 0 4)).val.client 4 now little
structure AuthOut where
 answer:Bytes
 issue:Issue
 ok:Bool
def authLife (c:Entry) (v:Svc) (life now:Int):Int×Bool:=grantLife now (imin (imin life c.maxLife) v.life) ([c.expires,v.expires].filter fun n => !(n==0))
def authGive (d:Db) (c:Entry) (v:Svc) (r:KdcRequest) (now address:Int) (little:Bool) (session:Int):AuthOut :=
 if (authLife c v r.life now).2=false then ⟨refuse r.client 3 now little,noIssue,false⟩
 else if classOf session≠2 then ⟨refuse r.client 10 now little,noIssue,false⟩
 else if (grant d.realm r.client ⟨r.service,r.inst,d.realm⟩ address little now (authLife c v r.life now).1 session c.key v.key v.kvno).err≠0 then ⟨[],noIssue,false⟩
 else if (sealReply ⟨little,r.client,r.time,c.expires,c.kvno,[]⟩ (grant d.realm r.client ⟨r.service,r.inst,d.realm⟩ address little now (authLife c v r.life now).1 session c.key v.key v.kvno).part c.key).err≠0 then ⟨[],noIssue,false⟩
 else ⟨(sealReply ⟨little,r.client,r.time,c.expires,c.kvno,[]⟩ (grant d.realm r.client ⟨r.service,r.inst,d.realm⟩ address little now (authLife c v r.life now).1 session c.key v.key v.kvno).part c.key).val,
  { (grant d.realm r.client ⟨r.service,r.inst,d.realm⟩ address little now (authLife c v r.life now).1 session c.key v.key v.kvno).issue with kind:=1 },true⟩
def authAsk (d:Db) (cross:List Cross) (now address:Int) (little:Bool) (session:Int) (r:KdcRequest):AuthOut :=
 if r.client.realm≠d.realm then ⟨refuse r.client 8 now little,noIssue,false⟩
 else if (clientEnt d r.client.name r.client.inst now).2≠0 then ⟨refuse r.client (clientEnt d r.client.name r.client.inst now).2 now little,noIssue,false⟩
 else if (svc d cross r.service r.inst now).err≠0 then ⟨refuse r.client (svc d cross r.service r.inst now).err now little,noIssue,false⟩
 else authGive d (entAt d (clientEnt d r.client.name r.client.inst now).1) (svc d cross r.service r.inst now) r now address little session
def authAnswer (d:Db) (cross:List Cross) (now address:Int) (little:Bool) (session:Int) (msg:Bytes):AuthOut :=
 if !(within now 4294967295&&within address 4294967295) then ⟨[],noIssue,false⟩
 else if (decodeRequest msg).err≠0 then ⟨refuseVer msg now little,noIssue,false⟩
 else authAsk d cross now address little session (decodeRequest msg).val
def cr1 (l:Bytes) (p:Int):Int:=nextPos l p 3
def cr2 (l:Bytes) (p:Int):Int:=nextPos l (cr1 l p) 3
def cr3 (l:Bytes) (p:Int):Int:=nextPos l (cr2 l p) 4
def cr4 (l:Bytes) (p:Int):Int:=nextPos l (cr3 l p) 9
def dataCr (l:Bytes) (p:Int):Cross:=⟨realm (next l p 3),realm (next l (cr1 l p) 3),next l (cr2 l p) 4,long (100+next l (cr3 l p) 9)⟩
def crossLoop (l:Bytes):Nat→Int→List Cross→List Cross
 | 0,_,acc=>acc
 | f+1,p,acc=>if p<l.length∧acc.length<25 then crossLoop l f (cr4 l p) (acc++[dataCr l p]) else acc
def dataCross (l:Bytes):List Cross:=crossLoop l (l.length+1) 0 []
def Cross.alike (x y:Cross):Bool:=y.source==x.source&&(y.target==x.target&&y.kvno==x.kvno)
def crossStep (out:List Cross) (x:Cross):List Cross:=if 20≤out.length∨x.source=x.target∨out.any x.alike=true then out else out++[x]
def goodCross (l:Bytes):List Cross:=(dataCross l).foldl crossStep []
def Cross.ok (c:Cross):Prop:=c.source.length≤9223372036854775807∧c.target.length≤9223372036854775807∧isI64 c.kvno=true∧isU64 c.key=true
theorem isCross_of {c:Cross} (h:c.ok):isCross c.av=true:=by
 obtain ⟨h1,h2,h3,h4⟩:=h
 simp [isCross,Cross.av,h1,h2,h3,h4]
theorem cross_all {cs:List Cross} (h:∀ c∈cs,c.ok):(cs.map Cross.av).all isCross=true:=all_rows (fun _ h=>isCross_of h) h
theorem cross_okof {els:List AV} (h:els.all isCross=true):∃ cs:List Cross,els=cs.map Cross.av∧∀ c∈cs,c.ok:=rows_of (fun a ha=>by
 refine ⟨toCross a,(isCross_inv ha).symm,?_⟩
 unfold isCross at ha
 split at ha
 ·simp only [Bool.and_eq_true,decide_eq_true_eq] at ha
  exact ⟨ha.1.1.1,ha.1.1.2,ha.1.2,ha.2⟩
 ·cases ha) h
theorem crossStep_full {out:List Cross} (h:20≤out.length):∀ l:List Cross,l.foldl crossStep out=out
 | []=>rfl
 | x::r=>by
  have:crossStep out x=out:=by unfold crossStep;rw [if_pos (.inl h)]
  rw [List.foldl_cons,this]
  exact crossStep_full h r
theorem cr4_gt {l:Bytes} {p:Int} (h:0≤p) (hp:p<l.length):p<cr4 l p:=by
 have h1:cr1 l p=p+1:=nextPos_step h hp (by decide)
 have h2:cr1 l p≤cr2 l p:=nextPos_ge _ _ _
 have h3:cr2 l p≤cr3 l p:=nextPos_ge _ _ _
 have h4:cr3 l p≤cr4 l p:=nextPos_ge _ _ _
 omega
theorem realm_lenB (n:Int):(realm n).length≤9223372036854775807:=by rw [realm_len];omega
theorem dataCr_ok (l:Bytes) (p:Int):(dataCr l p).ok:=by
 have h2:=next_bd l (cr2 l p) 4
 exact ⟨realm_lenB _,realm_lenB _,isI64_iff.2 (by dsimp only [dataCr];omega),isU64_iff.2 (long_bd _)⟩
theorem crossLoop_ok (l:Bytes):∀ (f:Nat) (p:Int) (acc:List Cross),acc.length≤25→(∀ x∈acc,x.ok)→(crossLoop l f p acc).length≤25∧∀ x∈crossLoop l f p acc,x.ok
 | 0,p,acc,h,g=>⟨h,g⟩
 | f+1,p,acc,h,g=>by
  unfold crossLoop
  split
  ·refine crossLoop_ok l f _ _ (by simp;omega) fun x hx=> ?_
   rcases List.mem_append.1 hx with hx | hx
   ·exact g x hx
   ·rw [List.mem_singleton.1 hx];exact dataCr_ok l p
  ·exact ⟨h,g⟩
theorem dataCross_ok (l:Bytes):(dataCross l).length≤25∧∀ x∈dataCross l,x.ok:=crossLoop_ok l _ _ _ (by simp) (by simp)
theorem crossStep_keep {out:List Cross} {x:Cross} (h:out.length≤20∧∀ y∈out,y.ok) (hx:x.ok):(crossStep out x).length≤20∧∀ y∈crossStep out x,y.ok:=by
 unfold crossStep
 split
 ·exact h
 ·rename_i q
  refine ⟨by simp;omega,fun y hy=> ?_⟩
  rcases List.mem_append.1 hy with hy | hy
  ·exact h.2 y hy
  ·rw [List.mem_singleton.1 hy];exact hx
theorem goodCross_ok (l:Bytes):(goodCross l).length≤20∧∀ x∈goodCross l,x.ok:=by
 have:∀ (a out:List Cross),(∀ x∈a,x.ok)→(out.length≤20∧∀ y∈out,y.ok)→((a.foldl crossStep out).length≤20∧∀ y∈a.foldl crossStep out,y.ok):=fun a=>by
  induction a with
  | nil=>exact fun out _ h=>h
  | cons y r ih=>exact fun out ha h=>ih _ (fun x hx=>ha x (List.mem_cons_of_mem _ hx)) (crossStep_keep h (ha y (List.mem_cons_self ..)))
 exact this _ [] (dataCross_ok l).2 ⟨by simp,by simp⟩
structure AAsk where
 client:UInt8
 service:UInt8
 peer:UInt8
 time:UInt8
 life:UInt8
 cross:UInt8
 little:Bool
 how:Int
def AAsk.want (a:AAsk):Prin:=if a.service.toNat % 5=4 then tgs (realm 0) (realm (u8i a.peer)) else Kerb.service (u8i a.service % 3)
def AAsk.base (a:AAsk):Bytes:=(encodeRequest ⟨a.little,user (u8i a.client % 5),u8i a.time,u8i a.life,a.want.name,a.want.inst⟩).val
def AAsk.msg (a:AAsk):Bytes :=
 if a.how % 8=7 then spoil a.base (a.how / 8)
 else if a.how % 8=6∧0<a.base.length then a.base.set 0 (UInt8.ofNat (Int.toNat (IntKind.wrap .u8 (a.how / 8)))) else a.base
theorem svc_okX {d:Db} {cs:List Cross} {n i:Bytes} {now:Int} (hd:∀ e∈d.entries,e.ok) (hc:∀ c∈cs,c.ok):isU64 (svc d cs n i now).key=true∧isI64 (svc d cs n i now).kvno=true∧isI64 (svc d cs n i now).life=true∧isI64 (svc d cs n i now).expires=true:=by
 unfold svc
 split
 ·split
  ·rename_i h
   have hl:=findCross_lt h
   have:=hc _ (mem_row (d:=noCross) hl.2)
   exact ⟨this.2.2.2,this.2.2.1,rfl,rfl⟩
  ·exact ⟨rfl,rfl,rfl,rfl⟩
 ·split
  ·exact ⟨rfl,rfl,rfl,rfl⟩
  ·rename_i h
   have h:(serviceEnt d n i now).2=0:=by simpa using h
   have hl:=serv_lt h
   have:=hd _ (mem_row (d:=noEntry) hl.2)
   exact ⟨this.2.2.1,this.2.2.2.1,this.2.2.2.2.2.1,this.2.2.2.2.1⟩
theorem decReq_len (b:Bytes):((decodeRequest b).val.client.name.length≤9223372036854775807∧(decodeRequest b).val.client.inst.length≤9223372036854775807∧(decodeRequest b).val.client.realm.length≤9223372036854775807)∧(decodeRequest b).val.service.length≤9223372036854775807∧(decodeRequest b).val.inst.length≤9223372036854775807:=by
 have h0:(noReq.client.name.length≤9223372036854775807∧noReq.client.inst.length≤9223372036854775807∧noReq.client.realm.length≤9223372036854775807)∧noReq.service.length≤9223372036854775807∧noReq.inst.length≤9223372036854775807:=by
  simp [noReq,noPrin]
 unfold decodeRequest
 split
 ·exact h0
 split
 ·exact h0
 ·have h1:=prin_len b 2
  have h2:∀ q,(text b q).val.length≤9223372036854775807:=fun q=>by have:=text_len b q;omega
  exact ⟨⟨by dsimp only [readRequest];omega,by dsimp only [readRequest];omega,by dsimp only [readRequest];omega⟩,h2 _,h2 _⟩
theorem grant_part {realm:Bytes} {client service:Prin} {address:Int} {little:Bool} {now life session sealer target kvno:Int} (h1:service.name.length≤9223372036854775807) (h2:service.inst.length≤9223372036854775807) (h3:service.realm.length≤9223372036854775807) (hs:isU64 session=true) :
  (grant realm client service address little now life session sealer target kvno).part.service.name.length≤9223372036854775807∧(grant realm client service address little now life session sealer target kvno).part.service.inst.length≤9223372036854775807∧(grant realm client service address little now life session sealer target kvno).part.service.realm.length≤9223372036854775807∧isU64 (grant realm client service address little now life session sealer target kvno).part.session=true:=by
 have h0:noPart.service.name.length≤9223372036854775807∧noPart.service.inst.length≤9223372036854775807∧noPart.service.realm.length≤9223372036854775807∧isU64 noPart.session=true:=by
  refine ⟨?_,?_,?_,rfl⟩<;>simp [noPart,noPrin]
 unfold grant
 split
 ·exact h0
 split
 ·exact h0
 ·exact ⟨h1,h2,h3,hs⟩
theorem ints_map:∀ l:List Int,allInts (l.map (AV.int .i64))=true∧intsIn (l.map (AV.int .i64))=l
 | []=>⟨rfl,rfl⟩
 | n::r=>by
  obtain ⟨h1,h2⟩:=ints_map r
  exact ⟨by simpa [allInts] using h1,by simp [intsIn,h2]⟩
theorem encError_no {r:ErrorReply} (h:(encodeError r).err≠0):(encodeError r).val=[]:=by
 unfold encodeError at h ⊢
 split
 ·rfl
 rename_i h1
 rw [if_neg h1] at h
 split
 ·rfl
 rename_i h2
 rw [if_neg h2] at h
 split
 ·rfl
 rename_i h3
 rw [if_neg h3] at h
 split
 ·rfl
 rename_i h4
 rw [if_neg h4] at h
 exact absurd rfl h
end Kerb
/- The statements of chapter 17, plain. -/
namespace Kerb
open Go Go.Abs
set_option linter.unusedVariables false
theorem reply_okK {r:KdcReply} (h1:r.client.valid=true) (h2:within r.time 4294967295=true) (h3:within r.expires 4294967295=true) (h4:within r.kvno 255=true) (h5:r.sealed.length≤1012):(encodeReply r).err=0:=by
 unfold encodeReply
 rw [if_neg (by simp [h1]),if_neg (by simp [h2,h3,h4]),if_neg (by omega)]
theorem request_okK {r:KdcRequest} (h1:r.client.valid=true) (h2:validName r.service=true) (h3:validInst r.inst=true) (h4:within r.time 4294967295=true) (h5:within r.life 255=true):(encodeRequest r).err=0:=by
 unfold encodeRequest
 rw [if_neg (by simp [h1,h2,h3]),if_neg (by simp [h4,h5])]
theorem grant_okK {realm:Bytes} {client service:Prin} {address:Int} {little:Bool} {now life session sealer target kvno:Int} (h1:client.valid=true) (h2:service.valid=true) (h4:classOf session=2) (h5:within address 4294967295=true) (h6:within life 255=true) (h7:within now 4294967295=true) (h8:keyValid target=true) (h9:within kvno 255=true) :
  grant realm client service address little now life session sealer target kvno=⟨⟨0,tgs realm realm,client,service,session,sealer,0,(sealTicket (grantTkt little client service address now life session) target).val,now,tEnd now life⟩,⟨session,service,life,kvno,(sealTicket (grantTkt little client service address now life session) target).val,now⟩,0⟩ ∧
  (encodePart ⟨session,service,life,kvno,(sealTicket (grantTkt little client service address now life session) target).val,now⟩ little).err=0∧(encodeTicket (grantTkt little client service address now life session)).err=0:=by
 have hv:validName service.name=true∧validInst service.inst=true:=by
  simp only [Prin.valid,Bool.and_eq_true] at h2
  exact ⟨h2.1.1,h2.1.2⟩
 have he:(encodeTicket (grantTkt little client service address now life session)).err=0:=ticket_ok h1 hv.1 hv.2 h4 h5 h6 h7
 have hs:=seal_ok he h8
 have hl:=sealTicket_len (grantTkt little client service address now life session) target
 have hp:(encodePart ⟨session,service,life,kvno,(sealTicket (grantTkt little client service address now life session) target).val,now⟩ little).err=0:=part_ok (class_valid h4) h2 h6 h9 h7 (by dsimp only;omega)
 refine ⟨?_,hp,he⟩
 unfold grant
 rw [if_neg (by simpa using hs),if_neg (by simpa using hp)]
def Cross.fine (c:Cross):Prop:=keyValid c.key=true∧within c.kvno 255=true∧isU64 c.key=true
theorem long109 {n:Int} (h0:0≤n) (h1:n<9):keyValid (long (100+n))=true:=long_valid (by omega) (by omega)
theorem dataCr_fine (l:Bytes) (p:Int):(dataCr l p).fine:=by
 have h1:=next_bd l (cr3 l p) 9
 have h2:=next_bd l (cr2 l p) 4
 exact ⟨long109 h1.1 (by omega),within_iff.2 ⟨h2.1,by dsimp only [dataCr];omega⟩,isU64_iff.2 (long_bd _)⟩
theorem crossLoop_fine (l:Bytes):∀ (f:Nat) (p:Int) (acc:List Cross),(∀ x∈acc,x.fine)→∀ x∈crossLoop l f p acc,x.fine
 | 0,p,acc,g=>g
 | f+1,p,acc,g=>by
  unfold crossLoop
  split
  ·refine crossLoop_fine l f _ _ fun x hx=> ?_
   rcases List.mem_append.1 hx with hx | hx
   ·exact g x hx
   ·rw [List.mem_singleton.1 hx];exact dataCr_fine l p
  ·exact g
theorem goodCross_fine (l:Bytes):∀ x∈goodCross l,x.fine:=by
 have:∀ (a out:List Cross),(∀ x∈a,x.fine)→(∀ y∈out,y.fine)→∀ y∈a.foldl crossStep out,y.fine:=fun a=>by
  induction a with
  | nil=>exact fun out _ h=>h
  | cons y r ih =>
   intro out ha h
   refine ih _ (fun x hx=>ha x (List.mem_cons_of_mem _ hx)) ?_
   unfold crossStep
   split
   ·exact h
   ·intro x hx
    rcases List.mem_append.1 hx with hx | hx
    ·exact h x hx
    ·rw [List.mem_singleton.1 hx];exact ha y (List.mem_cons_self ..)
 exact this _ [] (crossLoop_fine l _ _ _ (by simp)) (by simp)
theorem grantLife_all {now w:Int} (h:0≤now∧now≤4294967295) (h0:0≤w) (h1:w≤255):grantLife now w []=(w,true):=by
 unfold grantLife
 have hw:within now 4294967295=true:=within_iff.2 h
 have hm:imin w 255=w:=by unfold imin;split<;>omega
 rw [hw,hm]
 have hl:least (now+300*(w+1)) []=now+300*(w+1):=rfl
 rw [hl,if_neg (by simp;omega),if_neg (by omega)]
 have:(now+300*(w+1)-now) / 300-1=w:=by omega
 rw [this,hm]
theorem sealReply_ok {r:KdcReply} {p:ReplyPart} {k:Int} (h1:(encodePart p r.little).err=0) (h2:keyValid k=true) (h3:r.client.valid=true) (h4:within r.time 4294967295=true) (h5:within r.expires 4294967295=true) (h6:within r.kvno 255=true):(sealReply r p k).err=0:=by
 have hl:=encodePart_len p r.little
 have hm:=makeBox_ok (kd:=3) (k:=k) (b:=(encodePart p r.little).val) (by decide) h2 (by omega)
 unfold sealReply
 rw [if_neg (by simpa using h1),if_neg (by simpa using hm.1)]
 exact reply_okK h3 h4 h5 h6 (by dsimp only;omega)
theorem peer_facts {P:Int} (h:P=1∨P=2):validRealm (realm P)=true∧validInst (realm P)=true∧(realm P==[65,84,72])=false:=by
 rcases h with rfl | rfl<;>decide +kernel
theorem user_realm {u:Int} (h:u=0∨u=1∨u=2):(user u).realm=[65,84,72]∧keyValid (long u)=true:=by
 rcases h with rfl | rfl | rfl<;>exact ⟨rfl,long_valid (by decide) (by decide)⟩
theorem cross_law (cx:Bytes) (lf:UInt8) {P u now:Int} (hP:P=1∨P=2) (hu:u=0∨u=1∨u=2) (h0:0≤now) (h1:now≤65535) {A:AuthOut}
  (hA:authAnswer (simpleDb lf 0 255) (goodCross cx) now 7 true (session 1) (encodeRequest ⟨false,user u,5,200,krbtgt,realm P⟩).val=A) :
  (findCross (goodCross cx) [65,84,72] (realm P)).2=A.ok∧(A.ok=true→∃ T:Ticket,openTicket A.issue.text ((goodCross cx).getD (findCross (goodCross cx) [65,84,72] (realm P)).1.toNat noCross).key=⟨T,0⟩∧T.inst=realm P∧A.issue.service=⟨krbtgt,realm P,[65,84,72]⟩):=by
 obtain ⟨p1,p2,p3⟩:=peer_facts hP
 obtain ⟨u1,u2⟩:=user_realm hu
 have hl:=u8i_bd lf
 have hreq:(encodeRequest ⟨false,user u,5,200,krbtgt,realm P⟩).err=0:=request_okK (user_valid u) (show validName krbtgt=true by decide) p2 (show within 5 4294967295=true by decide) (show within 200 255=true by decide)
 have hdb:=simple_lock lf hu
 have hrl:(simpleDb lf 0 255).realm=[65,84,72]:=rfl
 have hce:=lock_client (life:=lf) (u:=u) (k:=long u) (v:=3+u) (f:=0) (t:=0) hu u2 now
 have hat:=lock_at (life:=lf) (u:=u) (k:=long u) (v:=3+u) (f:=0) (t:=0) hu
 rw [← hdb] at hce hat
 obtain ⟨xs,hxs⟩:∃ xs,goodCross cx=xs:=⟨_,rfl⟩
 have hfine:=hxs ▸ goodCross_fine cx
 rw [hxs] at hA ⊢
 have hsv:svc (simpleDb lf 0 255) xs krbtgt (realm P) now=if (findCross xs [65,84,72] (realm P)).2 then ⟨(xs.getD (findCross xs [65,84,72] (realm P)).1.toNat noCross).key,(xs.getD (findCross xs [65,84,72] (realm P)).1.toNat noCross).kvno,255,0,0⟩ else ⟨0,0,0,0,8⟩:=by
  unfold svc
  rw [if_pos (by rw [hrl,p1,p3];rfl),hrl]
 have hask:authAnswer (simpleDb lf 0 255) xs now 7 true (session 1) (encodeRequest ⟨false,user u,5,200,krbtgt,realm P⟩).val =
   if (svc (simpleDb lf 0 255) xs krbtgt (realm P) now).err≠0 then ⟨refuse (user u) (svc (simpleDb lf 0 255) xs krbtgt (realm P) now).err now true,noIssue,false⟩
   else authGive (simpleDb lf 0 255) ⟨(user u).name,[],long u,3+u,0,u8i lf,0,0,0⟩ (svc (simpleDb lf 0 255) xs krbtgt (realm P) now) ⟨false,user u,5,200,krbtgt,realm P⟩ now 7 true (session 1):=by
  unfold authAnswer
  rw [if_neg (by rw [within_iff.2 (show 0≤now∧now≤4294967295 by omega)];simp [within]),request_back hreq,if_neg (by simp)]
  unfold authAsk
  dsimp only
  rw [hrl,if_neg (by simpa using u1),hce,if_neg (by simp),hat]
 rw [hask] at hA
 cases his:(findCross xs [65,84,72] (realm P)).2
 ·rw [his,if_neg (by simp)] at hsv
  rw [hsv,if_pos (by simp)] at hA
  subst hA
  exact ⟨rfl,fun h=>by cases h⟩
 ·rw [his,if_pos rfl] at hsv
  obtain ⟨f0,f1⟩:=findCross_lt his
  obtain ⟨x,hx⟩:∃ x,xs.getD (findCross xs [65,84,72] (realm P)).1.toNat noCross=x:=⟨_,rfl⟩
  have hxf:=hfine x (hx ▸ mem_row f1)
  rw [hx] at hsv ⊢
  rw [hsv,if_neg (by simp)] at hA
  have hlife:authLife ⟨(user u).name,[],long u,3+u,0,u8i lf,0,0,0⟩ ⟨x.key,x.kvno,255,0,0⟩ 200 now=(imin (imin 200 (u8i lf)) 255,true):=by
   unfold authLife
   have hm:0≤imin (imin 200 (u8i lf)) 255∧imin (imin 200 (u8i lf)) 255≤255:=by unfold imin;split<;>split<;>omega
   exact grantLife_all ⟨h0,by omega⟩ hm.1 hm.2
  obtain ⟨w,hw⟩:∃ w,imin (imin 200 (u8i lf)) 255=w:=⟨_,rfl⟩
  have hwb:0≤w∧w≤255:=by rw [← hw];unfold imin;split<;>split<;>omega
  rw [hw] at hlife
  obtain ⟨g1,g2,g3⟩:=grant_okK (realm:=[65,84,72]) (client:=user u) (service:=⟨krbtgt,realm P,[65,84,72]⟩) (address:=7) (little:=true) (now:=now) (life:=w) (session:=session 1) (sealer:=long u) (target:=x.key) (kvno:=x.kvno)
   (user_valid u) (by simp only [Prin.valid,p2];decide) (by decide) (by decide) (within_iff.2 hwb) (within_iff.2 ⟨h0,by omega⟩) hxf.1 hxf.2.1
  have hse:(sealReply ⟨true,user u,5,0,3+u,[]⟩ ⟨session 1,⟨krbtgt,realm P,[65,84,72]⟩,w,x.kvno,(sealTicket (grantTkt true (user u) ⟨krbtgt,realm P,[65,84,72]⟩ 7 now w (session 1)) x.key).val,now⟩ (long u)).err=0 :=
   sealReply_ok g2 u2 (user_valid u) (show within 5 4294967295=true by decide) (show within 0 4294967295=true by decide) (within_iff.2 (by dsimp only;omega))
  unfold authGive at hA
  dsimp only at hA
  rw [hlife,hrl] at hA
  dsimp only at hA
  rw [if_neg (by simp),if_neg (by decide),g1] at hA
  dsimp only at hA
  rw [if_neg (by simp),if_neg (by simpa using hse)] at hA
  subst hA
  refine ⟨rfl,fun _=>⟨_,openTicket_back (session_bd2 1) (isU64_iff.1 hxf.2.2) g3 hxf.1,rfl,rfl⟩⟩
structure Issued (d:Db) (cross:List Cross) (now address:Int) (little:Bool) (se:Int) (msg:Bytes) (A:AuthOut) (r:KdcRequest) (i:Int) (L:Int):Prop where
 now_:within now 4294967295=true
 adr:within address 4294967295=true
 req:decodeRequest msg=⟨r,0⟩
 realm:r.client.realm=d.realm
 client:clientEnt d r.client.name r.client.inst now=(i,0)
 svc_:(svc d cross r.service r.inst now).err=0
 life:authLife (entAt d i) (svc d cross r.service r.inst now) r.life now=(L,true)
 class_:classOf se=2
 gr:(grant d.realm r.client ⟨r.service,r.inst,d.realm⟩ address little now L se (entAt d i).key (svc d cross r.service r.inst now).key (svc d cross r.service r.inst now).kvno).err=0
 sl:(sealReply ⟨little,r.client,r.time,(entAt d i).expires,(entAt d i).kvno,[]⟩ (grant d.realm r.client ⟨r.service,r.inst,d.realm⟩ address little now L se (entAt d i).key (svc d cross r.service r.inst now).key (svc d cross r.service r.inst now).kvno).part (entAt d i).key).err=0
 is:A=⟨(sealReply ⟨little,r.client,r.time,(entAt d i).expires,(entAt d i).kvno,[]⟩ (grant d.realm r.client ⟨r.service,r.inst,d.realm⟩ address little now L se (entAt d i).key (svc d cross r.service r.inst now).key (svc d cross r.service r.inst now).kvno).part (entAt d i).key).val,
  { (grant d.realm r.client ⟨r.service,r.inst,d.realm⟩ address little now L se (entAt d i).key (svc d cross r.service r.inst now).key (svc d cross r.service r.inst now).kvno).issue with kind:=1 },true⟩
theorem issued {d:Db} {cross:List Cross} {now address:Int} {little:Bool} {se:Int} {msg:Bytes} (h:(authAnswer d cross now address little se msg).ok=true):∃ r i L,Issued d cross now address little se msg (authAnswer d cross now address little se msg) r i L:=by
 obtain ⟨A,hA⟩:∃ A,authAnswer d cross now address little se msg=A:=⟨_,rfl⟩
 rw [hA] at h ⊢
 unfold authAnswer at hA
 by_cases h1:(within now 4294967295&&within address 4294967295)=true
 case neg=>rw [if_pos (by simp only [Bool.not_eq_true] at h1;rw [h1];rfl)] at hA;subst hA;cases h
 rw [if_neg (by rw [h1];simp)] at hA
 by_cases h2:(decodeRequest msg).err=0
 case neg=>rw [if_pos h2] at hA;subst hA;cases h
 rw [if_neg (by simpa using h2)] at hA
 obtain ⟨r,hr⟩:∃ r,(decodeRequest msg).val=r:=⟨_,rfl⟩
 have hreq:decodeRequest msg=⟨r,0⟩:=by cases hd:decodeRequest msg;rw [hd] at h2 hr;simp at h2 hr;rw [h2,hr]
 rw [hr] at hA
 unfold authAsk at hA
 by_cases h3:r.client.realm=d.realm
 case neg=>rw [if_pos h3] at hA;subst hA;cases h
 rw [if_neg (by simpa using h3)] at hA
 obtain ⟨⟨i,e⟩,hi⟩:∃ i,clientEnt d r.client.name r.client.inst now=i:=⟨_,rfl⟩
 rw [hi] at hA
 dsimp only at hA
 by_cases h4:e=0
 case neg=>rw [if_pos h4] at hA;subst hA;cases h
 subst h4
 rw [if_neg (by simp)] at hA
 by_cases h5:(svc d cross r.service r.inst now).err=0
 case neg=>rw [if_pos h5] at hA;subst hA;cases h
 rw [if_neg (by simpa using h5)] at hA
 unfold authGive at hA
 obtain ⟨⟨L,q⟩,hL⟩:∃ L,authLife (entAt d i) (svc d cross r.service r.inst now) r.life now=L:=⟨_,rfl⟩
 rw [hL] at hA
 dsimp only at hA
 cases q
 ·rw [if_pos rfl] at hA;subst hA;cases h
 rw [if_neg (by simp)] at hA
 by_cases h6:classOf se=2
 case neg=>rw [if_pos h6] at hA;subst hA;cases h
 rw [if_neg (by simpa using h6)] at hA
 by_cases h7:(grant d.realm r.client ⟨r.service,r.inst,d.realm⟩ address little now L se (entAt d i).key (svc d cross r.service r.inst now).key (svc d cross r.service r.inst now).kvno).err=0
 case neg=>rw [if_pos h7] at hA;subst hA;cases h
 rw [if_neg (by simpa using h7)] at hA
 by_cases h8:(sealReply ⟨little,r.client,r.time,(entAt d i).expires,(entAt d i).kvno,[]⟩ (grant d.realm r.client ⟨r.service,r.inst,d.realm⟩ address little now L se (entAt d i).key (svc d cross r.service r.inst now).key (svc d cross r.service r.inst now).kvno).part (entAt d i).key).err=0
 case neg=>rw [if_pos h8] at hA;subst hA;cases h
 rw [if_neg (by simpa using h8)] at hA
 rw [Bool.and_eq_true] at h1
 exact ⟨r,i,L,h1.1,h1.2,hreq,h3,hi,h5,hL,h6,h7,h8,hA.symm⟩
theorem answer_no {d:Db} {cross:List Cross} {now address:Int} {little:Bool} {se:Int} {msg:Bytes} (h:(authAnswer d cross now address little se msg).ok=false):(authAnswer d cross now address little se msg).issue=noIssue:=by
 unfold authAnswer at h ⊢
 split
 ·rfl
 rename_i h1
 rw [if_neg h1] at h
 split
 ·rfl
 rename_i h2
 rw [if_neg h2] at h
 unfold authAsk at h ⊢
 split
 ·rfl
 rename_i h3
 rw [if_neg h3] at h
 split
 ·rfl
 rename_i h4
 rw [if_neg h4] at h
 split
 ·rfl
 rename_i h5
 rw [if_neg h5] at h
 unfold authGive at h ⊢
 split
 ·rfl
 rename_i h6
 rw [if_neg h6] at h
 split
 ·rfl
 rename_i h7
 rw [if_neg h7] at h
 split
 ·rfl
 rename_i h8
 rw [if_neg h8] at h
 split
 ·rfl
 rename_i h9
 rw [if_neg h9] at h
 cases h
theorem grant_inv {realm:Bytes} {client service:Prin} {address:Int} {little:Bool} {now life session sealer target kvno:Int} (h:(grant realm client service address little now life session sealer target kvno).err=0) :
  (sealTicket (grantTkt little client service address now life session) target).err=0∧(encodePart ⟨session,service,life,kvno,(sealTicket (grantTkt little client service address now life session) target).val,now⟩ little).err=0 ∧
  grant realm client service address little now life session sealer target kvno=⟨⟨0,tgs realm realm,client,service,session,sealer,0,(sealTicket (grantTkt little client service address now life session) target).val,now,tEnd now life⟩,⟨session,service,life,kvno,(sealTicket (grantTkt little client service address now life session) target).val,now⟩,0⟩:=by
 unfold grant at h ⊢
 split
 ·rename_i h1
  rw [if_pos h1] at h
  exact absurd h h1
 rename_i h1
 rw [if_neg h1] at h
 split
 ·rename_i h2
  rw [if_pos h2] at h
  exact absurd h h2
 ·rename_i h2
  exact ⟨by simpa using h1,by simpa using h2,rfl⟩
structure Seen17 (d:Db) (now ad se:Int) (A:AuthOut) (r:KdcRequest) (i j:Int) (Y:KdcReply) (body:Bytes) (P:ReplyPart) (T:Ticket):Prop where
 f1:findEnt d.entries r.client.name r.client.inst=(i,0)
 f2:findEnt d.entries r.service r.inst=(j,0)
 i0:0≤i∧i.toNat<d.entries.length
 j0:0≤j∧j.toNat<d.entries.length
 reply:decodeReply A.answer=⟨Y,0⟩
 client:Y.client=r.client
 time:Y.time=r.time
 box:openBox Y.sealed 3 (entAt d i).key=(body,true)
 part:decodePart body Y.little=⟨P,0⟩
 tkt:openTicket P.ticket (entAt d j).key=⟨T,0⟩
 text:P.ticket=A.issue.text
 t1:T.client=r.client
 t2:T.session=se
 t3:P.session=se
 t4:A.issue.session=se
 t5:T.address=ad
 t6:T.service=r.service
 t7:T.inst=r.inst
 t8:T.issued=now
 t9:A.issue.sealer=(entAt d i).key
 e1:(0<(entAt d i).expires→A.issue.stop≤(entAt d i).expires)∧T.life≤(entAt d i).maxLife
 e2:(0<(entAt d j).expires→A.issue.stop≤(entAt d j).expires)∧T.life≤(entAt d j).maxLife
 e3:T.life≤r.life
 e4:A.issue.stop=now+300*(T.life+1)
 e5:0≤T.life∧T.life≤255
 lens:A.answer.length≤140737488355328∧Y.sealed.length≤140737488355328∧body.length≤140737488355328∧P.ticket.length≤140737488355328
theorem issue_len (d:Db) (cross:List Cross) (now address:Int) (little:Bool) (se:Int) (msg:Bytes):(authAnswer d cross now address little se msg).issue.text.length≤140737488355328:=by
 cases h:(authAnswer d cross now address little se msg).ok
 ·rw [answer_no h];simp [noIssue]
 ·obtain ⟨r,i,L,hI⟩:=issued h
  obtain ⟨g1,g2,g3⟩:=grant_inv hI.gr
  have:=hI.is
  rw [this,g3]
  have:=sealTicket_len (grantTkt little r.client ⟨r.service,r.inst,d.realm⟩ address now L se) (svc d cross r.service r.inst now).key
  dsimp only
  omega
end Kerb
