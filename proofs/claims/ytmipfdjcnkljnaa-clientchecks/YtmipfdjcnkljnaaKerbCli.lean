/- Chapters 2, 4, 7, 10, 15 and 20, in plain words: lifetimes, boxes, authenticators, requests, caches, clients. -/
import Derived.Test.YtmipfdjcnkljnaaKerbKaPlain
namespace Kerb
open Go Go.Abs
set_option linter.unusedVariables false
def Prin.eqb (p q:Prin):Bool:=p.name==q.name&&(p.inst==q.inst&&p.realm==q.realm)
def tgs (realm target:Bytes):Prin:=⟨[107,114,98,116,103,116],target,realm⟩
def tEnd (issued life:Int):Int:=if within issued 4294967295&&within life 255 then issued+300*(life+1) else 0
def near (a b skew:Int):Bool:=within a 4294967295&&within b 4294967295&&within skew 4294967295&&decide (a-b≤skew)&&decide (b-a≤skew)
def makeBox (kind k:Int) (body:Bytes):Enc :=
 if !isKind kind then ⟨[],104⟩ else if !keyValid k then ⟨[],10⟩ else if 1000<body.length then ⟨[],105⟩
 else ⟨[66,UInt8.ofNat kind.toNat]++keyBytes k++putN body.length 2 false++body,0⟩
structure Box where
 kind:Int
 key:Int
 body:Bytes
structure GotBox where
 box:Box
 n:Int
 err:Int
def noBox:Box:=⟨0,0,[]⟩
def boxSize (b:Bytes):Nat:=(b.getD 10 0).toNat*256+(b.getD 11 0).toNat
def readBox (b:Bytes):GotBox :=
 if b.length<12 then ⟨noBox,0,101⟩
 else if b.getD 0 0≠66∨isKind ((b.getD 1 0).toNat:Int)=false∨(keyRead (cut b 2 8)).2=false∨1000<boxSize b then ⟨noBox,0,100⟩
 else if b.length<12+boxSize b then ⟨noBox,0,101⟩
 else ⟨⟨((b.getD 1 0).toNat:Int),(keyRead (cut b 2 8)).1,cut b 12 (boxSize b)⟩,((12+boxSize b:Nat):Int),0⟩
def openBox (b:Bytes) (kind k:Int):Bytes×Bool :=
 if (readBox b).err≠0∨(readBox b).n≠b.length∨(readBox b).box.kind≠kind∨(readBox b).box.key≠k then ([],false) else ((readBox b).box.body,true)
structure Auth where
 client:Prin
 checksum:Int
 tick:Int
 time:Int
def Auth.check (a:Auth):Int :=
 if !a.client.valid then 103 else if !(within a.checksum 4294967295&&within a.tick 199&&within a.time 4294967295) then 104 else 0
def encodeAuth (a:Auth) (little:Bool):Enc :=
 if a.check≠0 then ⟨[],a.check⟩
 else ⟨pad (putPrin (putN (cond little 1 0) 1 false) a.client++putN a.checksum 4 little++putN a.tick 1 false++putN a.time 4 little),0⟩
def sealAuth (a:Auth) (little:Bool) (k:Int):Enc :=
 if (encodeAuth a little).err≠0 then ⟨[],(encodeAuth a little).err⟩ else makeBox 2 k (encodeAuth a little).val
structure ApRequest where
 little:Bool
 mutual_:Bool
 kvno:Int
 realm:Bytes
 ticket:Bytes
 auth:Bytes
def encodeAp (r:ApRequest):Enc :=
 if !validRealm r.realm then ⟨[],103⟩
 else if !within r.kvno 255 then ⟨[],104⟩
 else if 255<r.ticket.length∨255<r.auth.length then ⟨[],105⟩
 else ⟨putText (header (cond r.mutual_ 4 3) r.little++putN r.kvno 1 false) r.realm++putN r.ticket.length 1 false++putN r.auth.length 1 false++r.ticket++r.auth,0⟩
structure TgsRequest where
 ap:ApRequest
 time:Int
 life:Int
 service:Bytes
 inst:Bytes
def encodeTgs (r:TgsRequest):Enc :=
 if r.ap.mutual_ then ⟨[],100⟩
 else if (encodeAp r.ap).err≠0 then ⟨[],(encodeAp r.ap).err⟩
 else if !(validName r.service&&validInst r.inst) then ⟨[],103⟩
 else if !(within r.time 4294967295&&within r.life 255) then ⟨[],104⟩
 else ⟨putText (putText ((encodeAp r.ap).val++putN r.time 4 r.ap.little++putN r.life 1 false) r.service) r.inst,0⟩
structure Cred where
 service:Prin
 session:Int
 life:Int
 kvno:Int
 issued:Int
 ticket:Bytes
def Cred.av (c:Cred):AV := .agg [.str c.service.name,.str c.service.inst,.str c.service.realm,.int .u64 c.session,.int .i64 c.life,.int .i64 c.kvno,.int .i64 c.issued,.bs c.ticket]
def noCred:Cred:=⟨noPrin,0,0,0,0,[]⟩
def toCred:AV→Cred
 | .agg [.str a,.str b,.str c,.int .u64 k,.int .i64 l,.int .i64 v,.int .i64 i,.bs t]=>⟨⟨a,b,c⟩,k,l,v,i,t⟩
 | _=>noCred
def isCred:AV→Bool
 | .agg [.str a,.str b,.str c,.int .u64 k,.int .i64 l,.int .i64 v,.int .i64 i,.bs t] =>
  decide (a.length≤9223372036854775807)&&decide (b.length≤9223372036854775807)&&decide (c.length≤9223372036854775807)&&decide (0≤k)&&decide (k<18446744073709551616)&&decide (t.length≤9223372036854775807)
 | _=>false
def Cred.ok (c:Cred):Prop:=c.service.name.length≤9223372036854775807∧c.service.inst.length≤9223372036854775807∧c.service.realm.length≤9223372036854775807∧0≤c.session∧c.session<18446744073709551616∧c.ticket.length≤9223372036854775807
def fitCred:AV→Bool
 | .agg [.str a,.str b,.str c,.int .u64 k,.int .i64 l,.int .i64 v,.int .i64 i,.bs t]=>decide (t.length≤140737488355328)
 | _=>false
theorem fit_creds {cs:List Cred} (h:∀ c∈cs,c.ticket.length≤140737488355328):(cs.map Cred.av).all fitCred=true:=by
 simp only [List.all_map,List.all_eq_true]
 exact fun c hc=>by simpa [fitCred,Cred.av] using h c hc
theorem fit_of {cs:List Cred} (h:(cs.map Cred.av).all fitCred=true):∀ c∈cs,c.ticket.length≤140737488355328:=by
 simp only [List.all_map,List.all_eq_true] at h
 exact fun c hc=>by simpa [fitCred,Cred.av] using h c hc
theorem isCred_av {x:AV} (h:isCred x=true):∃ c:Cred,x=c.av∧c.ok:=by
 unfold isCred at h
 split at h
 ·rename_i a b c k l v i t
  simp only [Bool.and_eq_true,decide_eq_true_eq] at h
  exact ⟨⟨⟨a,b,c⟩,k,l,v,i,t⟩,rfl,h.1.1.1.1.1,h.1.1.1.1.2,h.1.1.1.2,h.1.1.2,h.1.2,h.2⟩
 ·cases h
theorem toCred_av (c:Cred):toCred c.av=c:=rfl
theorem isCred_of {c:Cred} (h:c.ok):isCred c.av=true:=by
 obtain ⟨h1,h2,h3,h4,h5,h6⟩:=h
 simp [isCred,Cred.av,h1,h2,h3,h4,h5,h6]
theorem creds_of:∀ {els:List AV},els.all isCred=true→∃ cs:List Cred,els=cs.map Cred.av∧∀ c∈cs,c.ok
 | [],_=>⟨[],rfl,fun _ h=>by cases h⟩
 | x::r,h=>by
  simp only [List.all_cons,Bool.and_eq_true] at h
  obtain ⟨c,rfl,hc⟩:=isCred_av h.1
  obtain ⟨cs,rfl,hcs⟩:=creds_of h.2
  exact ⟨c::cs,rfl,fun d hd=>by
   rcases List.mem_cons.1 hd with rfl | hd
   ·exact hc
   ·exact hcs d hd⟩
theorem all_creds {cs:List Cred} (h:∀ c∈cs,c.ok):(cs.map Cred.av).all isCred=true:=by
 simp only [List.all_map,List.all_eq_true]
 exact fun c hc=>isCred_of (h c hc)
theorem map_toCred (cs:List Cred):(cs.map Cred.av).map toCred=cs:=by
 induction cs with
 | nil=>rfl
 | cons c r ih=>simp only [List.map_cons,toCred_av,ih]
theorem getD_av {cs:List Cred} {i:Nat} (h:i<cs.length):(cs.map Cred.av).getD i .undef=(cs.getD i noCred).av:=by
 simp [List.getD_eq_getElem?_getD,h]
theorem drop_cred {cs:List Cred} {i:Nat} (h:i<cs.length):cs.drop i=cs.getD i noCred::cs.drop (i+1):=by
 rw [List.drop_eq_getElem_cons h];simp [List.getD_eq_getElem?_getD,h]
theorem take_cred {cs:List Cred} {i:Nat} (h:i<cs.length):cs.take (i+1)=cs.take i++[cs.getD i noCred]:=by
 rw [List.take_succ_eq_append_getElem h];simp [List.getD_eq_getElem?_getD,h]
def credErr (c:Cred):Int :=
 if !c.service.valid then 103 else if !keyValid c.session then 10
 else if !(within c.life 255&&within c.kvno 255&&within c.issued 4294967295) then 104
 else if 255<c.ticket.length then 105 else 0
def credsErr:List Cred→List Cred→Int
 | _,[]=>0
 | seen,c::r=>if credErr c≠0 then credErr c else if seen.any (fun d=>d.service.eqb c.service) then 107 else credsErr (seen++[c]) r
structure Cache where
 owner:Prin
 creds:List Cred
def noCache:Cache:=⟨noPrin,[]⟩
def Cache.err (c:Cache):Int:=if !c.owner.valid then 103 else if 20<c.creds.length then 106 else credsErr [] c.creds
def credAt (l:List Cred) (s:Prin):Nat:=l.findIdx fun d=>d.service.eqb s
def getCred (l:List Cred) (s:Prin):Cred×Bool:=if credAt l s<l.length then (l.getD (credAt l s) noCred,true) else (noCred,false)
def Cred.expired (c:Cred) (now:Int):Bool:=decide (tEnd c.issued c.life<now)
def liveCred (l:List Cred) (s:Prin) (now:Int):Dec Cred :=
 if (getCred l s).2=false then ⟨noCred,76⟩ else if (getCred l s).1.expired now then ⟨noCred,26⟩ else ⟨(getCred l s).1,0⟩
def storeCred (c:Cache) (x:Cred):Dec Cache :=
 if c.err≠0 then ⟨noCache,c.err⟩
 else if Cache.err ⟨c.owner,[x]⟩≠0 then ⟨noCache,Cache.err ⟨c.owner,[x]⟩⟩
 else if 20≤(c.creds.filter fun d => !d.service.eqb x.service).length then ⟨noCache,106⟩
 else ⟨⟨c.owner,(c.creds.filter fun d => !d.service.eqb x.service)++[x]⟩,0⟩
structure Client where
 me:Prin
 address:Int
 skew:Int
 little:Bool
 cache:Cache
 wait:Int
 wanted:Prin
 session:Int
 time:Int
 life:Int
 checksum:Int
 tick:Int
def Cache.av (c:Cache):AV := .agg [.str c.owner.name,.str c.owner.inst,.str c.owner.realm,.sl 8 (c.creds.map Cred.av)]
def Client.av (c:Client):AV := .agg [.str c.me.name,.str c.me.inst,.str c.me.realm,.int .i64 c.address,.int .i64 c.skew,.bool c.little,.str c.cache.owner.name,.str c.cache.owner.inst,.str c.cache.owner.realm,.sl 8 (c.cache.creds.map Cred.av),.int .i64 c.wait,.str c.wanted.name,.str c.wanted.inst,.str c.wanted.realm,.int .u64 c.session,.int .i64 c.time,.int .i64 c.life,.int .i64 c.checksum,.int .i64 c.tick]
def noClient:Client:=⟨noPrin,0,0,false,noCache,0,noPrin,0,0,0,0,0⟩
def Client.idle (c:Client):Client:=⟨c.me,c.address,c.skew,c.little,c.cache,0,noPrin,0,0,0,0,0⟩
def newClient (me:Prin) (address skew:Int) (little:Bool):Dec Client :=
 if !me.valid then ⟨noClient,103⟩
 else if !(within address 4294967295&&within skew 4294967295) then ⟨noClient,104⟩
 else ⟨⟨me,address,skew,little,⟨me,[]⟩,0,noPrin,0,0,0,0,0⟩,0⟩
def Client.err (c:Client):Int :=
 if !c.me.valid then 103
 else if !(within c.address 4294967295&&within c.skew 4294967295) then 104
 else if !(decide (0≤c.wait)&&decide (c.wait≤3)) then 104
 else if c.cache.err≠0 then c.cache.err
 else if !c.cache.owner.eqb c.me then 103 else 0
def granter (me service:Prin):Prin:=tgs me.realm service.realm
structure Login where
 c:Client
 msg:Bytes
 err:Int
def login (c:Client) (life now:Int):Login :=
 if c.err≠0 then ⟨noClient,[],108⟩
 else if !(within now 4294967295&&within life 255) then ⟨noClient,[],104⟩
 else if (encodeRequest ⟨c.little,c.me,now,life,(tgs c.me.realm c.me.realm).name,(tgs c.me.realm c.me.realm).inst⟩).err≠0 then ⟨noClient,[],(encodeRequest ⟨c.little,c.me,now,life,(tgs c.me.realm c.me.realm).name,(tgs c.me.realm c.me.realm).inst⟩).err⟩
 else ⟨{ c.idle with wait:=1,wanted:=tgs c.me.realm c.me.realm,time:=now,life:=life },(encodeRequest ⟨c.little,c.me,now,life,(tgs c.me.realm c.me.realm).name,(tgs c.me.realm c.me.realm).inst⟩).val,0⟩
structure DecAp where
 val:ApRequest
 err:Int
def noAp:ApRequest:=⟨false,false,0,[],[],[]⟩
def apOf (c:Client) (x:Cred) (mtl:Bool) (a:Auth):DecAp :=
 if (sealAuth a c.little x.session).err≠0 then ⟨noAp,(sealAuth a c.little x.session).err⟩
 else ⟨⟨c.little,mtl,x.kvno,x.service.realm,x.ticket,(sealAuth a c.little x.session).val⟩,0⟩
structure Sent where
 c:Client
 msg:Bytes
 cred:Cred
 auth:Bytes
 err:Int
def noSent (e:Int):Sent:=⟨noClient,[],noCred,[],e⟩
def ask (c:Client) (s:Prin) (life now tick:Int):Sent :=
 if c.err≠0 then noSent 108
 else if !s.valid then noSent 103
 else if !(within now 4294967295&&within life 255&&within tick 199) then noSent 104
 else
  let x:=liveCred c.cache.creds (granter c.me s) now
  if x.err≠0 then noSent x.err else
  let r:=apOf c x.val false ⟨c.me,0,tick,now⟩
  if r.err≠0 then noSent r.err else
  let m:=encodeTgs ⟨r.val,now,life,s.name,s.inst⟩
  if m.err≠0 then noSent m.err else
  ⟨{ c.idle with wait:=2,wanted:=s,time:=now,life:=life },m.val,x.val,r.val.auth,0⟩
def tickLoop (l:Bytes):Nat→Int→Int→Bytes→Bytes×Int
 | 0,_,pos,t=>(t,nextPos l pos 30)
 | n+1,i,pos,t =>
  if i<next l pos 30 then tickLoop l n (i+1) (nextPos l (nextPos l pos 30) 256) (t++[UInt8.ofNat (next l (nextPos l pos 30) 256).toNat])
  else (t,nextPos l pos 30)
def cp1 (l:Bytes) (pos:Int):Int:=nextPos l pos 9
def cp2 (l:Bytes) (pos:Int):Int:=nextPos l (cp1 l pos) 9
def cp3 (l:Bytes) (pos:Int):Int:=nextPos l (cp2 l pos) 256
def cp4 (l:Bytes) (pos:Int):Int:=nextPos l (cp3 l pos) 256
def cp5 (l:Bytes) (pos:Int):Int:=nextPos l (cp4 l pos) 256
def dataTick (l:Bytes) (pos:Int):Bytes×Int:=tickLoop l (l.length+1) 0 (cp5 l pos) []
def dataCred (l:Bytes) (pos:Int):Cred :=
 ⟨service (next l pos 9),session (next l (cp1 l pos) 9),next l (cp2 l pos) 256,next l (cp3 l pos) 256,next l (cp4 l pos) 256*100,(dataTick l pos).1⟩
def dataPos (l:Bytes) (pos:Int):Int:=(dataTick l pos).2
def cacheLoop (l:Bytes):Nat→Int→List Cred→List Cred
 | 0,_,cs=>cs
 | n+1,pos,cs =>
  if pos<l.length then cacheLoop l n (dataPos l pos) (if cs.any (fun d=>d.service.eqb (dataCred l pos).service) then cs else cs++[dataCred l pos]) else cs
def dataCache (l:Bytes) (owner:Int):Cache:=⟨user owner,cacheLoop l (l.length+1) 0 []⟩
def personClient (who skew:UInt8) (little:Bool) (l:Bytes):Client :=
 { (newClient (user (u8i who)) (u8i who) (u8i skew*4) little).val with cache:=dataCache (l.take 300) (u8i who) }
def Cred.same (a b:Cred):Bool:=a.service.eqb b.service&&a.session==b.session&&a.life==b.life&&a.kvno==b.kvno&&a.issued==b.issued&&a.ticket==b.ticket
def sameCreds:List Cred→List Cred→Bool
 | [],[]=>true
 | a::r,b::q=>a.same b&&sameCreds r q
 | _,_=>false
def Cache.same (a b:Cache):Bool:=a.owner.eqb b.owner&&sameCreds a.creds b.creds
def Client.same (a b:Client):Bool:=a.me.eqb b.me&&a.address==b.address&&a.skew==b.skew&&a.little==b.little&&a.cache.same b.cache&&a.wait==b.wait&&a.wanted.eqb b.wanted&&a.session==b.session&&a.time==b.time&&a.life==b.life&&a.checksum==b.checksum&&a.tick==b.tick
def longP (p:Prin):Bool:=decide (100<p.name.length)||(decide (100<p.inst.length)||decide (100<p.realm.length))
theorem credAt_lt:∀ (cs:List Cred) (s:Prin) (i:Nat),i≤cs.length→decide (credAt cs s<i)=(cs.take i).any (fun d=>d.service.eqb s)
 | [],s,i,h=>by simp at h;subst h;simp
 | c::r,s,0,h=>by simp
 | c::r,s,i+1,h=>by
  have ih:=credAt_lt r s i (by simpa using h)
  simp only [credAt,List.findIdx_cons,List.take_succ_cons,List.any_cons] at ih ⊢
  cases he:c.service.eqb s
  ·simp only [cond_false,Bool.false_or]
   rw [← ih]
   exact decide_eq_decide.2 (by omega)
  ·simp
theorem getCred_found (l:List Cred) (s:Prin):(getCred l s).2=l.any (fun d=>d.service.eqb s):=by
 have h:=credAt_lt l s l.length (Nat.le_refl _)
 rw [List.take_of_length_le (Nat.le_refl _)] at h
 rw [← h]
 unfold getCred
 split
 ·rename_i g;simp [g]
 ·rename_i g;simp [g]
theorem credAt_le (l:List Cred) (s:Prin):credAt l s≤l.length:=List.findIdx_le_length
theorem credsErr_step {cs:List Cred} {c:Cred} {i:Nat} (h:i<cs.length) (hc:cs.getD i noCred=c) (hp:credsErr [] cs=credsErr (cs.take i) (cs.drop i)) :
  credsErr [] cs=if credErr c≠0 then credErr c else if (cs.take i).any (fun d=>d.service.eqb c.service) then 107 else credsErr (cs.take (i+1)) (cs.drop (i+1)):=by
 rw [hp,drop_cred h,take_cred h,hc]
 rfl
theorem credsErr_small:∀ {seen cs:List Cred},credsErr seen cs=0→∀ c∈cs,credErr c=0
 | _,[],_,_,hc=>by cases hc
 | seen,d::r,h,c,hc=>by
  unfold credsErr at h
  by_cases h1:credErr d=0
  ·rw [if_neg (by simpa using h1)] at h
   split at h
   ·cases h
   ·rcases List.mem_cons.1 hc with rfl | hc
    ·exact h1
    ·exact credsErr_small h c hc
  ·rw [if_pos h1] at h;exact absurd h h1
theorem credErr_tick {c:Cred} (h:credErr c=0):c.ticket.length≤255:=by
 unfold credErr at h
 split at h
 ·cases h
 split at h
 ·cases h
 split at h
 ·cases h
 split at h
 ·cases h
 ·omega
theorem getCred_mem {l:List Cred} {s:Prin} (h:(getCred l s).2=true):(getCred l s).1∈l:=by
 unfold getCred at h ⊢
 split at h
 ·rename_i g
  rw [if_pos g]
  simp [List.getD_eq_getElem?_getD,g]
 ·cases h
theorem sameCreds_len:∀ {a b:List Cred},a.length≠b.length→sameCreds a b=false
 | [],[],h=>absurd rfl h
 | [],_::_,_=>rfl
 | _::_,[],_=>rfl
 | a::r,b::q,h=>by
  simp only [sameCreds,sameCreds_len (a:=r) (b:=q) (by simpa using h),Bool.and_false]
theorem encodeAp_len (r:ApRequest):(encodeAp r).val.length≤1000:=by
 unfold encodeAp
 split
 ·simp
 rename_i h1
 split
 ·simp
 split
 ·simp
 rename_i h3
 have l1:=validRealm_len (s:=r.realm) (by simpa using h1)
 have g:=header_len (cond r.mutual_ 4 3) r.little
 simp [putText_len,putN_len]
 omega
theorem two_bytes (n:Nat):[UInt8.ofNat (Int.toNat (IntKind.wrap .u8 (Int.fdiv (n:Int) (2 ^ min (Int.toNat 8) (IntKind.bits .i64))))),UInt8.ofNat (Int.toNat (IntKind.wrap .u8 (n:Int)))]=putN n 2 false:=by
 have e:(2:Int) ^ min (Int.toNat 8) (IntKind.bits .i64)=256:=by decide
 rw [e,Int.fdiv_eq_ediv_of_nonneg _ (by decide),wrap_u8,wrap_u8]
 show _=[byteAt n 1,byteAt n 0]
 unfold byteAt
 simp
theorem noCred_ok:noCred.ok:=by simp [Cred.ok,noCred,noPrin]
theorem live_ok {cs:List Cred} (h:∀ c∈cs,c.ok) (s:Prin) (now:Int):(liveCred cs s now).val.ok:=by
 unfold liveCred
 split
 ·exact noCred_ok
 rename_i h1
 split
 ·exact noCred_ok
 exact h _ (getCred_mem (by simpa using h1))
theorem apOf_realm {c:Client} {x:Cred} (h:x.ok) (m:Bool) (a:Auth):(apOf c x m a).val.realm.length≤9223372036854775807:=by
 unfold apOf
 split
 ·simp [noAp]
 ·exact h.2.2.1
theorem client_fit {c:Client} (h:c.err=0):(c.cache.creds.map Cred.av).all fitCred=true:=by
 refine fit_creds fun x hx=> ?_
 have h1:credsErr [] c.cache.creds=0:=by
  unfold Client.err at h
  split at h
  ·cases h
  split at h
  ·cases h
  split at h
  ·cases h
  split at h
  ·rename_i g;exact absurd h g
  rename_i g
  have g:c.cache.err=0:=by simpa using g
  unfold Cache.err at g
  split at g
  ·cases g
  split at g
  ·cases g
  exact g
 have:=credErr_tick (credsErr_small h1 x hx)
 omega
theorem next_in {l:Bytes} {p n:Int} (h:0<next l p n):p<l.length:=by
 unfold next at h
 split at h
 ·omega
 ·omega
theorem nextPos_step {l:Bytes} {p n:Int} (h:0≤p) (hp:p<l.length) (hn:0<n):nextPos l p n=p+1:=by
 unfold nextPos
 rw [if_neg (by omega)]
 omega
theorem nextPos_ge (l:Bytes) (p n:Int):p≤nextPos l p n:=by
 unfold nextPos
 split<;>omega
theorem tickLoop_ge (l:Bytes):∀ (n:Nat) (i p:Int) (t:Bytes),p≤(tickLoop l n i p t).2
 | 0,i,p,t=>nextPos_ge l p 30
 | n+1,i,p,t=>by
  rw [tickLoop]
  split
  ·have h1:=nextPos_ge l p 30
   have h2:=nextPos_ge l (nextPos l p 30) 256
   have h3:=tickLoop_ge l n (i+1) (nextPos l (nextPos l p 30) 256) (t++[UInt8.ofNat (next l (nextPos l p 30) 256).toNat])
   omega
  ·exact nextPos_ge l p 30
theorem dataPos_gt {l:Bytes} {p:Int} (h:0≤p) (hp:p<l.length):p<dataPos l p:=by
 have h1:cp1 l p=p+1:=nextPos_step h hp (by decide)
 have h2:cp1 l p≤cp2 l p:=nextPos_ge _ _ _
 have h3:cp2 l p≤cp3 l p:=nextPos_ge _ _ _
 have h4:cp3 l p≤cp4 l p:=nextPos_ge _ _ _
 have h5:cp4 l p≤cp5 l p:=nextPos_ge _ _ _
 have h6:cp5 l p≤dataPos l p:=tickLoop_ge _ _ _ _ _
 omega
def Client.good (c:Client):Prop :=
 (c.me.name.length≤9223372036854775807∧c.me.inst.length≤9223372036854775807∧c.me.realm.length≤9223372036854775807) ∧
 (c.cache.owner.name.length≤9223372036854775807∧c.cache.owner.inst.length≤9223372036854775807∧c.cache.owner.realm.length≤9223372036854775807) ∧
 (∀ x∈c.cache.creds,x.ok)∧c.cache.creds.length≤1000000
theorem noClient_good:noClient.good:=by simp [Client.good,noClient,noPrin,noCache]
theorem good_all {c:Client} (h:c.good):(c.cache.creds.map Cred.av).all isCred=true:=all_creds h.2.2.1
theorem Prin.eqb_refl (p:Prin):p.eqb p=true:=by simp [Prin.eqb]
theorem Cred.same_refl (c:Cred):c.same c=true:=by simp [Cred.same,Prin.eqb_refl]
theorem sameCreds_refl:∀ l:List Cred,sameCreds l l=true
 | []=>rfl
 | c::r=>by simp [sameCreds,Cred.same_refl,sameCreds_refl r]
theorem Client.same_refl (c:Client):c.same c=true:=by simp [Client.same,Cache.same,Prin.eqb_refl,sameCreds_refl]
theorem tickLoop_len (l:Bytes):∀ (n:Nat) (i p:Int) (t:Bytes),(tickLoop l n i p t).1.length≤t.length+n
 | 0,i,p,t=>by simp [tickLoop]
 | n+1,i,p,t=>by
  rw [tickLoop]
  split
  ·have h3:=tickLoop_len l n (i+1) (nextPos l (nextPos l p 30) 256) (t++[UInt8.ofNat (next l (nextPos l p 30) 256).toNat])
   simp only [List.length_append,List.length_singleton] at h3
   omega
  ·simp
theorem dataCred_ok {l:Bytes} (hl:l.length≤1000) (p:Int):(dataCred l p).ok:=by
 have h1:=service_len (next l p 9)
 have h2:=session_bd2 (next l (cp1 l p) 9)
 have h3:=tickLoop_len l (l.length+1) 0 (cp5 l p) []
 refine ⟨?_,?_,?_,h2.1,h2.2,?_⟩
 ·show (service (next l p 9)).name.length≤_;omega
 ·show (service (next l p 9)).inst.length≤_;omega
 ·show (service (next l p 9)).realm.length≤_;omega
 ·show (dataTick l p).1.length≤_
  unfold dataTick
  simp only [List.length_nil] at h3
  omega
theorem cacheLoop_ok {l:Bytes} (hl:l.length≤1000):∀ (n:Nat) (p:Int) (cs:List Cred),(∀ c∈cs,c.ok)→(∀ c∈cacheLoop l n p cs,c.ok)∧(cacheLoop l n p cs).length≤cs.length+n
 | 0,p,cs,h=>⟨h,by simp [cacheLoop]⟩
 | n+1,p,cs,h=>by
  rw [cacheLoop]
  split
  ·split
   ·have:=cacheLoop_ok hl n (dataPos l p) cs h
    exact ⟨this.1,by omega⟩
   ·have:=cacheLoop_ok hl n (dataPos l p) (cs++[dataCred l p]) (fun c hc=>by
     rcases List.mem_append.1 hc with hc | hc
     ·exact h c hc
     ·rw [List.mem_singleton.1 hc];exact dataCred_ok hl p)
    simp only [List.length_append,List.length_singleton] at this
    exact ⟨this.1,by omega⟩
  ·exact ⟨h,by omega⟩
theorem person_good (who skew:UInt8) (little:Bool) (l:Bytes):(personClient who skew little l).good:=by
 have hu:=user_len (u8i who)
 have hl:(l.take 300).length≤300:=by simp;omega
 have hc:=cacheLoop_ok (l:=l.take 300) (by omega) ((l.take 300).length+1) 0 [] (fun _ h=>by cases h)
 refine ⟨?_,?_,hc.1,?_⟩
 ·unfold personClient newClient
  split
  ·simp [noClient,noPrin]
  split
  ·simp [noClient,noPrin]
  ·refine ⟨?_,?_,?_⟩<;>simp only<;>omega
 ·show (user (u8i who)).name.length≤_∧(user (u8i who)).inst.length≤_∧(user (u8i who)).realm.length≤_
  omega
 ·have:=hc.2
  show (cacheLoop (l.take 300) ((l.take 300).length+1) 0 []).length≤_
  simp only [List.length_nil] at this
  omega
end Kerb
