/- Chapters 2, 4, 7, 10, 15 and 20, in plain words: lifetimes, boxes, authenticators, requests, caches, clients. -/
import Derived.Test.YtnhnkpiiacggoaaGreatKerbKaPlain
namespace Kerb
open Go Go.Abs
set_option linter.unusedVariables false
def Prin.eqb (p q:Prin):Bool:=p.name==q.name&&(p.inst==q.inst&&p.realm==q.realm)
def tgs (realm target:Bytes):Prin:=⟨[107,114,98,116,103,116],target,realm⟩
def tEnd (issued life:Int):Int:=if within issued 4294967295&&within life 255 then issued+300*(life+1) else 0
def near (a b skew:Int):Bool:=within a 4294967295&&within b 4294967295&&within skew 4294967295&&decide (a-b≤skew)&&decide (b-a≤skew)
def makeBox (kind k:Int) (body:Bytes):Enc :=
 if !isKind kind then ⟨[],104⟩ else if !keyValid k then ⟨[],10⟩ else if 1000<body.length then ⟨[],105⟩
 else ⟨[66,UInt8.ofNat kind.toNat]++keyBytes k++putN body.length 2 false++body,0⟩
structure Box where
 kind:Int
 key:Int
 body:Bytes
structure GotBox where
 box:Box
 n:Int
 err:Int
def noBox:Box:=⟨0,0,[]⟩
def boxSize (b:Bytes):Nat:=(b.getD 10 0).toNat*256+(b.getD 11 0).toNat
def readBox (b:Bytes):GotBox :=
 if b.length<12 then ⟨noBox,0,101⟩
 else if b.getD 0 0≠66∨isKind ((b.getD 1 0).toNat:Int)=false∨(keyRead (cut b 2 8)).2=false∨1000<boxSize b then ⟨noBox,0,100⟩
 else if b.length<12+boxSize b then ⟨noBox,0,101⟩
 else ⟨⟨((b.getD 1 0).toNat:Int),(keyRead (cut b 2 8)).1,cut b 12 (boxSize b)⟩,((12+boxSize b:Nat):Int),0⟩
def openBox (b:Bytes) (kind k:Int):Bytes×Bool :=
 if (readBox b).err≠0∨(readBox b).n≠b.length∨(readBox b).box.kind≠kind∨(readBox b).box.key≠k then ([],false) else ((readBox b).box.body,true)
structure Auth where
 client:Prin
 checksum:Int
 tick:Int
 time:Int
def Auth.check (a:Auth):Int :=
 if !a.client.valid then 103 else if !(within a.checksum 4294967295&&within a.tick 199&&within a.time 4294967295) then 104 else 0
def encodeAuth (a:Auth) (little:Bool):Enc :=
 if a.check≠0 then ⟨[],a.check⟩
 else ⟨pad (putPrin (putN (cond little 1 0) 1 false) a.client++putN a.checksum 4 little++putN a.tick 1 false++putN a.time 4 little),0⟩
structure ApRequest where
 little:Bool
 mutual_:Bool
 kvno:Int
 realm:Bytes
 ticket:Bytes
 auth:Bytes
structure TgsRequest where
 ap:ApRequest
 time:Int
 life:Int
 service:Bytes
 inst:Bytes
structure Cred where
 service:Prin
 session:Int
 life:Int
 kvno:Int
 issued:Int
 ticket:Bytes
def Cred.av (c:Cred):AV := .agg [.str c.service.name,.str c.service.inst,.str c.service.realm,.int .u64 c.session,.int .i64 c.life,.int .i64 c.kvno,.int .i64 c.issued,.bs c.ticket]
def Cred.ok (c:Cred):Prop:=c.service.name.length≤9223372036854775807∧c.service.inst.length≤9223372036854775807∧c.service.realm.length≤9223372036854775807∧0≤c.session∧c.session<18446744073709551616∧c.ticket.length≤9223372036854775807
def credErr (c:Cred):Int :=
 if !c.service.valid then 103 else if !keyValid c.session then 10
 else if !(within c.life 255&&within c.kvno 255&&within c.issued 4294967295) then 104
 else if 255<c.ticket.length then 105 else 0
def credsErr:List Cred→List Cred→Int
 | _,[]=>0
 | seen,c::r=>if credErr c≠0 then credErr c else if seen.any (fun d=>d.service.eqb c.service) then 107 else credsErr (seen++[c]) r
structure Cache where
 owner:Prin
 creds:List Cred
def Cache.err (c:Cache):Int:=if !c.owner.valid then 103 else if 20<c.creds.length then 106 else credsErr [] c.creds
structure Client where
 me:Prin
 address:Int
 skew:Int
 little:Bool
 cache:Cache
 wait:Int
 wanted:Prin
 session:Int
 time:Int
 life:Int
 checksum:Int
 tick:Int
def Cache.av (c:Cache):AV := .agg [.str c.owner.name,.str c.owner.inst,.str c.owner.realm,.sl 8 (c.creds.map Cred.av)]
def Client.av (c:Client):AV := .agg [.str c.me.name,.str c.me.inst,.str c.me.realm,.int .i64 c.address,.int .i64 c.skew,.bool c.little,.str c.cache.owner.name,.str c.cache.owner.inst,.str c.cache.owner.realm,.sl 8 (c.cache.creds.map Cred.av),.int .i64 c.wait,.str c.wanted.name,.str c.wanted.inst,.str c.wanted.realm,.int .u64 c.session,.int .i64 c.time,.int .i64 c.life,.int .i64 c.checksum,.int .i64 c.tick]
def Client.err (c:Client):Int :=
 if !c.me.valid then 103
 else if !(within c.address 4294967295&&within c.skew 4294967295) then 104
 else if !(decide (0≤c.wait)&&decide (c.wait≤3)) then 104
 else if c.cache.err≠0 then c.cache.err
 else if !c.cache.owner.eqb c.me then 103 else 0
def granter (me service:Prin):Prin:=tgs me.realm service.realm
structure Login where
 c:Client
 msg:Bytes
 err:Int
structure DecAp where
 val:ApRequest
 err:Int
structure Sent where
 c:Client
 msg:Bytes
 cred:Cred
 auth:Bytes
 err:Int
def Cred.same (a b:Cred):Bool:=a.service.eqb b.service&&a.session==b.session&&a.life==b.life&&a.kvno==b.kvno&&a.issued==b.issued&&a.ticket==b.ticket
def sameCreds:List Cred→List Cred→Bool
 | [],[]=>true
 | a::r,b::q=>a.same b&&sameCreds r q
 | _,_=>false
def Cache.same (a b:Cache):Bool:=a.owner.eqb b.owner&&sameCreds a.creds b.creds
def Client.same (a b:Client):Bool:=a.me.eqb b.me&&a.address==b.address&&a.skew==b.skew&&a.little==b.little&&a.cache.same b.cache&&a.wait==b.wait&&a.wanted.eqb b.wanted&&a.session==b.session&&a.time==b.time&&a.life==b.life&&a.checksum==b.checksum&&a.tick==b.tick
theorem two_bytes (n:Nat):[UInt8.ofNat (Int.toNat (IntKind.wrap .u8 (Int.fdiv (n:Int) (2 ^ min (Int.toNat 8) (IntKind.bits .i64))))),UInt8.ofNat (Int.toNat (IntKind.wrap .u8 (n:Int)))]=putN n 2 false:=by
 have e:(2:Int) ^ min (Int.toNat 8) (IntKind.bits .i64)=256:=by decide
 rw [e,Int.fdiv_eq_ediv_of_nonneg _ (by decide),wrap_u8,wrap_u8]
 show _=[byteAt n 1,byteAt n 0]
 unfold byteAt
 simp
def Client.good (c:Client):Prop :=
 (c.me.name.length≤9223372036854775807∧c.me.inst.length≤9223372036854775807∧c.me.realm.length≤9223372036854775807) ∧
 (c.cache.owner.name.length≤9223372036854775807∧c.cache.owner.inst.length≤9223372036854775807∧c.cache.owner.realm.length≤9223372036854775807) ∧
 (∀ x∈c.cache.creds,x.ok)∧c.cache.creds.length≤1000000
end Kerb
