/- Chapters 2, 4, 7, 10, 15 and 20, in plain words: lifetimes, boxes, authenticators, requests, caches, clients. -/
import Derived.Test.YteafbgcimcpfiaaGreatKerbKaRef
set_option linter.all false
open Bool renaming false→Zz,and_eq_true→Zy,not_eq_true'→Zw,not_eq_false→Zv
open Go.IntKind renaming bits→Zx
namespace Kerb
open Go Go.Abs
def aZ.qv(p q:aZ):Bool:=p.name==q.name&&(p.inst==q.inst&&p.aJ==q.aJ)
def WB(aJ target:Bytes):aZ:=⟨[107,114,98,116,103,116],target,aJ⟩
def SA(cE cj:Int):Int:=if within cE 4294967295&&within cj 255 then cE+300*(cj+1) else 0
def A7(a b eK:Int):Bool:=within a 4294967295&&within b 4294967295&&within eK 4294967295&&decide (a-b<=eK)&&decide (b-a<=eK)
def fO(kind k:Int)(body:Bytes):lX :=
 if !isKind kind then⟨[],104⟩ else if !bp k then⟨[],10⟩ else if 1000<body.length then⟨[],105⟩
 else⟨[66,UInt8.ofNat kind.toNat]++keyBytes k++aS body.length 2 Zz++body,0⟩
structure VQ where
 kind:Int
 key:Int
 body:Bytes
structure QE where
 box:VQ
 n:Int
 err:Int
def Ft:VQ:=⟨0,0,[]⟩
def oh(b:Bytes):Nat:=(b.getD 10 0).toNat*256+(b.getD 11 0).toNat
def aY(b:Bytes):QE :=
 if b.length<12 then⟨Ft,0,101⟩
 else if b.getD 0 0≠66\/isKind ((b.getD 1 0).toNat:Int)=Zz\/(fh (cut b 2 8)).2=Zz\/1000<oh b then⟨Ft,0,100⟩
 else if b.length<12+oh b then⟨Ft,0,101⟩
 else⟨⟨((b.getD 1 0).toNat:Int),(fh (cut b 2 8)).1,cut b 12 (oh b)⟩,((12+oh b:Nat):Int),0⟩
def jX(b:Bytes)(kind k:Int):Bytes×Bool :=
 if (aY b).err≠0\/(aY b).n≠b.length\/(aY b).box.kind≠kind\/(aY b).box.key≠k then([],Zz) else((aY b).box.body,true)
structure lL where
 client:aZ
 cO:Int
 tick:Int
 time:Int
def lL.check(a:lL):Int :=
 if !a.client.valid then 103 else if !(within a.cO 4294967295&&within a.tick 199&&within a.time 4294967295) then 104 else 0
def gN(a:lL)(aq:Bool):lX :=
 if a.check≠0 then⟨[],a.check⟩
 else⟨pad (c5 (aS (cond aq 1 0) 1 Zz) a.client++aS a.cO 4 aq++aS a.tick 1 Zz++aS a.time 4 aq),0⟩
def M3(a:lL)(aq:Bool)(k:Int):lX :=
 if (gN a aq).err≠0 then⟨[],(gN a aq).err⟩ else fO 2 k (gN a aq).val
structure cS where
 aq:Bool
 gA:Bool
 bP:Int
 aJ:Bytes
 aN:Bytes
 fA:Bytes
def cH(r:cS):lX :=
 if !c4 r.aJ then⟨[],103⟩
 else if !within r.bP 255 then⟨[],104⟩
 else if 255<r.aN.length\/255<r.fA.length then⟨[],105⟩
 else⟨bg (header (cond r.gA 4 3) r.aq++aS r.bP 1 Zz) r.aJ++aS r.aN.length 1 Zz++aS r.fA.length 1 Zz++r.aN++r.fA,0⟩
structure ft where
 ap:cS
 time:Int
 cj:Int
 service:Bytes
 inst:Bytes
def dN(r:ft):lX :=
 if r.ap.gA then⟨[],100⟩
 else if (cH r.ap).err≠0 then⟨[],(cH r.ap).err⟩
 else if !(validName r.service&&bO r.inst) then⟨[],103⟩
 else if !(within r.time 4294967295&&within r.cj 255) then⟨[],104⟩
 else⟨bg (bg ((cH r.ap).val++aS r.time 4 r.ap.aq++aS r.cj 1 Zz) r.service) r.inst,0⟩
structure eD where
 service:aZ
 aG:Int
 cj:Int
 bP:Int
 cE:Int
 aN:Bytes
def eD.av(c:eD):AV := .agg [.str c.service.name,.str c.service.inst,.str c.service.aJ,.int .u64 c.aG,.int .i64 c.cj,.int .i64 c.bP,.int .i64 c.cE,.bs c.aN]
def rN:eD:=⟨cY,0,0,0,0,[]⟩
def eD.ok(c:eD):Prop:=c.service.name.length<=9223372036854775807/\c.service.inst.length<=9223372036854775807/\c.service.aJ.length<=9223372036854775807/\0<=c.aG/\c.aG<18446744073709551616/\c.aN.length<=9223372036854775807
def Im(c:eD):Int :=
 if !c.service.valid then 103 else if !bp c.aG then 10
 else if !(within c.cj 255&&within c.bP 255&&within c.cE 4294967295) then 104
 else if 255<c.aN.length then 105 else 0
def Er:List eD->List eD->Int
 | _,[]=>0
 | seen,c::r=>if Im c≠0 then Im c else if seen.any (fun d=>d.service.qv c.service) then 107 else Er (seen++[c]) r
structure Cache where
 owner:aZ
 qu:List eD
def Di:Cache:=⟨cY,[]⟩
def Cache.err(c:Cache):Int:=if !c.owner.valid then 103 else if 20<c.qu.length then 106 else Er [] c.qu
def Lu(l:List eD)(s:aZ):Nat:=l.findIdx fun d=>d.service.qv s
def Ix(l:List eD)(s:aZ):eD×Bool:=if Lu l s<l.length then(l.getD (Lu l s) rN,true) else(rN,Zz)
def eD.expired(c:eD)(now:Int):Bool:=decide (SA c.cE c.cj<now)
def xf(c:Cache)(x:eD):DX Cache :=
 if c.err≠0 then⟨Di,c.err⟩
 else if Cache.err ⟨c.owner,[x]⟩≠0 then⟨Di,Cache.err ⟨c.owner,[x]⟩⟩
 else if 20<=(c.qu.filter fun d => !d.service.qv x.service).length then⟨Di,106⟩
 else⟨⟨c.owner,(c.qu.filter fun d => !d.service.qv x.service)++[x]⟩,0⟩
structure Client where
 me:aZ
 address:Int
 eK:Int
 aq:Bool
 cache:Cache
 wait:Int
 wanted:aZ
 aG:Int
 time:Int
 cj:Int
 cO:Int
 tick:Int
def Cache.av(c:Cache):AV := .agg [.str c.owner.name,.str c.owner.inst,.str c.owner.aJ,.sl 8 (c.qu.map eD.av)]
def Client.av(c:Client):AV := .agg [.str c.me.name,.str c.me.inst,.str c.me.aJ,.int .i64 c.address,.int .i64 c.eK,.bool c.aq,.str c.cache.owner.name,.str c.cache.owner.inst,.str c.cache.owner.aJ,.sl 8 (c.cache.qu.map eD.av),.int .i64 c.wait,.str c.wanted.name,.str c.wanted.inst,.str c.wanted.aJ,.int .u64 c.aG,.int .i64 c.time,.int .i64 c.cj,.int .i64 c.cO,.int .i64 c.tick]
def Client.idle(c:Client):Client:=⟨c.me,c.address,c.eK,c.aq,c.cache,0,cY,0,0,0,0,0⟩
def Client.err(c:Client):Int :=
 if !c.me.valid then 103
 else if !(within c.address 4294967295&&within c.eK 4294967295) then 104
 else if !(decide (0<=c.wait)&&decide (c.wait<=3)) then 104
 else if c.cache.err≠0 then c.cache.err
 else if !c.cache.owner.qv c.me then 103 else 0
def p8(me service:aZ):aZ:=WB me.aJ service.aJ
structure ack where
 c:Client
 msg:Bytes
 err:Int
structure ach where
 val:cS
 err:Int
def A8:cS:=⟨false,false,0,[],[],[]⟩
structure adH where
 c:Client
 msg:Bytes
 S9:eD
 fA:Bytes
 err:Int
def eD.same(a b:eD):Bool:=a.service.qv b.service&&a.aG==b.aG&&a.cj==b.cj&&a.bP==b.bP&&a.cE==b.cE&&a.aN==b.aN
def B2:List eD->List eD->Bool
 | [],[]=>true
 | a::r,b::q=>a.same b&&B2 r q
 | _,_=>Zz
def Cache.same(a b:Cache):Bool:=a.owner.qv b.owner&&B2 a.qu b.qu
def Client.same(a b:Client):Bool:=a.me.qv b.me&&a.address==b.address&&a.eK==b.eK&&a.aq==b.aq&&a.cache.same b.cache&&a.wait==b.wait&&a.wanted.qv b.wanted&&a.aG==b.aG&&a.time==b.time&&a.cj==b.cj&&a.cO==b.cO&&a.tick==b.tick
theorem ve(r:cS):(cH r).val.length<=1000:=by
 unfold cH;split
 ·simp
 rename_i h1;split
 ·simp
 split
 ·simp
 rename_i h3;have l1:=gx (s:=r.aJ) (by simpa using h1);have g:=jd (cond r.gA 4 3) r.aq;simp[bH,af];omega
theorem KR(n:Nat):[UInt8.ofNat (Int.toNat (IntKind.wrap .u8 (Int.fdiv (n:Int) (2 ^ min (Int.toNat 8) (Zx .i64))))),UInt8.ofNat (Int.toNat (IntKind.wrap .u8 (n:Int)))]=aS n 2 Zz:=by
 have e:(2:Int) ^ min (Int.toNat 8) (Zx .i64)=256:=by decide
 rw[e,Int.fdiv_eq_ediv_of_nonneg _ (by decide),wrap_u8,wrap_u8];show _=[fG n 1,fG n 0];unfold fG;simp
def Client.kW(c:Client):Prop :=
 (c.me.name.length<=9223372036854775807/\c.me.inst.length<=9223372036854775807/\c.me.aJ.length<=9223372036854775807) /\
 (c.cache.owner.name.length<=9223372036854775807/\c.cache.owner.inst.length<=9223372036854775807/\c.cache.owner.aJ.length<=9223372036854775807) /\
 (∀ x∈c.cache.qu,x.ok)/\c.cache.qu.length<=1000000
theorem aZ.EG(p:aZ):p.qv p=true:=by simp[aZ.qv]
end Kerb
/- Clients: what the statements of chapter 20 lean on. -/
namespace Kerb
open Go Go.Abs
end Kerb
/- Chapters 2 and 6: lifetimes that are granted, the state of a ticket, tickets. -/
namespace Kerb
open Go Go.Abs
def least(n:Int)(l:List Int):Int:=l.foldl tY n
def Jz(now want:Int)(ends:List Int):Int×Bool :=
 if !within now 4294967295||decide (want<0) then(0,Zz)
 else if least (now+300*(tY want 255+1)) ends-now<300 then(0,Zz)
 else(tY ((least (now+300*(tY want 255+1)) ends-now) / 300-1) 255,true)
def GC(cE cj now eK:Int):Int :=
 if !(within cE 4294967295&&within now 4294967295&&within cj 255&&within eK 4294967295) then 104
 else if now+eK<cE then 33 else if SA cE cj+eK<now then 32 else 0
def gy(k:Int):Int:=bif bp k then lj k else 0
def jP:dz:=⟨false,cY,0,0,0,0,[],[]⟩
def dz.err(t:dz):Int :=
 if !(t.client.valid&&(validName t.service&&bO t.inst)) then 103
 else if gy t.aG≠2 then 10
 else if !(within t.address 4294967295&&(within t.cj 255&&within t.cE 4294967295)) then 104 else 0
def bR(t:dz):lX :=
 if t.err≠0 then⟨[],t.err⟩
 else⟨pad (bg (bg (c5 (aS (cond t.aq 1 0) 1 Zz) t.client++aS t.address 4 t.aq++keyBytes t.aG++aS t.cj 1 Zz++aS t.cE 4 t.aq) t.service) t.inst),0⟩
def zT(b:Bytes):dz :=
 let o:=get b 0 1 Zz
 let li:=o.val==1
 let p:=ia b o.next
 let a:=get b p.next 4 li
 let k:=bytes b a.next 8
 let l:=get b k.next 1 Zz
 let i:=get b l.next 4 li
 let s:=text b i.next
 ⟨li,p.val,a.val,(fh k.val).1,l.val,i.val,s.val,(text b s.next).val⟩
def cC(b:Bytes):DX dz :=
 if 1<(get b 0 1 Zz).val then⟨jP,7⟩ else iB jP bR (fun b=>(zT b,Zz)) b
def fz(t:dz)(k:Int):lX:=if (bR t).err≠0 then⟨[],(bR t).err⟩ else fO 1 k (bR t).val
def fw(b:Bytes)(k:Int):DX dz:=if (jX b 1 k).2 then cC (jX b 1 k).1 else⟨jP,31⟩
theorem Ej{k:Int}(h:gy k=2):bp k=true:=by
 unfold gy at h;cases hk:bp k
 ·rw[hk] at h;simp at h
 ·rfl
theorem oJ{t:dz}(h:(bR t).err=0):t.client.valid=true/\validName t.service=true/\bO t.inst=true/\bp t.aG=true/\(0<=t.address/\t.address<=4294967295)/\(0<=t.cj/\t.cj<=255)/\(0<=t.cE/\t.cE<=4294967295) /\
  (bR t).val=pad (aS (cond t.aq 1 0) 1 Zz++(t.client.name++0::(t.client.inst++0::(t.client.aJ++0::(aS t.address 4 t.aq++(keyBytes t.aG++(aS t.cj 1 Zz++(aS t.cE 4 t.aq++(t.service++0::(t.inst++[0])))))))))):=by
 have he:t.err=0:=by
  unfold bR at h;split at h
  ·exact h
  ·rename_i hn;simpa using hn
 have hv:(bR t).val=pad (bg (bg (c5 (aS (cond t.aq 1 0) 1 Zz) t.client++aS t.address 4 t.aq++keyBytes t.aG++aS t.cj 1 Zz++aS t.cE 4 t.aq) t.service) t.inst):=by
  unfold bR;rw[Qa0 (by simpa using he)]
 unfold dz.err at he;split at he
 ·cases he
 rename_i h1;split at he
 ·cases he
 rename_i h2;split at he
 ·cases he
 rename_i h3;simp only[Bool.not_eq_true,Bool.not_eq_false',Zy,within_iff] at h1 h3;simp only[ne_eq,Decidable.not_not] at h2;refine⟨h1.1,h1.2.1,h1.2.2,Ej h2,h3.1,h3.2.1,h3.2.2,?_⟩;rw[hv];simp[bg,c5]
theorem Df{s:Bytes}(h:validName s=true):s.length<=39/\(0:UInt8) ∉ s:=by
 simp only[validName,Zy,Qa2] at h;exact⟨h.1.2,yf h.2⟩
theorem inst_ok{s:Bytes}(h:bO s=true):s.length<=39/\(0:UInt8) ∉ s:=by
 simp only[bO,Zy,Qa2] at h;exact⟨h.1,yf h.2⟩
theorem CO{t:dz}(h:(bR t).err≠0):(bR t).val=[]:=by grind [bR]
theorem AS(t:dz):(bR t).val.length<=224:=by
 by_cases h:(bR t).err=0
 ·obtain⟨hc,hs,hn,hk,ha,hl,hd,hb⟩:=oJ h;have l1:=ch hc;have l2:=(Df hs).1;have l3:=(inst_ok hn).1;rw[hb,sQ];simp[af,ag];omega
 ·rw[CO h];simp
end Kerb
/- Chapter 25: records, parts and messages of version 5, in plain words. -/
namespace Kerb
open Go Go.Abs
structure D4 where
 client:aZ
 service:aZ
 aG:Int
 start:Int
 stop:Int
 addr:Int
structure uJ where
 aG:Int
 service:aZ
 start:Int
 stop:Int
 record:Bytes
structure D2 where
 op:Int
 name:aZ
 box:Bytes
def period(a b:Int):Bool:=within a 4294967295&&within b 4294967295&&decide (a<=b)
def eN(r:D4):lX :=
 if !(r.client.valid&&r.service.valid) then⟨[],103⟩
 else if gy r.aG≠2 then⟨[],10⟩
 else if !(period r.start r.stop&&within r.addr 4294967295) then⟨[],104⟩
 else⟨pad (c5 (c5 [] r.client) r.service++keyBytes r.aG++aS r.start 4 Zz++aS r.stop 4 Zz++aS r.addr 4 Zz),0⟩
def dT(p:uJ):lX :=
 if !bp p.aG then⟨[],10⟩
 else if !p.service.valid then⟨[],103⟩
 else if !period p.start p.stop then⟨[],104⟩
 else if 300<p.record.length then⟨[],105⟩
 else⟨pad (c7 (c5 (keyBytes p.aG) p.service++aS p.start 4 Zz++aS p.stop 4 Zz) p.record),0⟩
def eM(m:D2):lX :=
 if !lh m.op then⟨[],40⟩
 else if !m.name.valid then⟨[],103⟩
 else if 1012<m.box.length then⟨[],105⟩
 else⟨c7 (c5 (header 10 Zz++aS m.op 1 Zz) m.name) m.box,0⟩
def ML:D4:=⟨cY,cY,0,0,0,0⟩
def IX:uJ:=⟨0,cY,0,0,[]⟩
def HC:D2:=⟨0,cY,[]⟩
def o_(b:Bytes)(k:Int)(pos:Int)(bad:Bool):Rd Int:=⟨(get b pos k Zz).val,cond ((get b pos k Zz).err==0) (get b pos k Zz).next pos,bad || !((get b pos k Zz).err==0)⟩
def mX(b:Bytes)(n:Int)(pos:Int)(bad:Bool):Rd Bytes:=⟨(bytes b pos n).val,cond ((bytes b pos n).err==0) (bytes b pos n).next pos,bad || !((bytes b pos n).err==0)⟩
def kU(b:Bytes)(pos:Int)(bad:Bool):Rd aZ:=⟨(ia b pos).val,cond ((ia b pos).err==0) (ia b pos).next pos,bad || !((ia b pos).err==0)⟩
def xR(b:Bytes)(pos:Int)(bad:Bool):Rd Int:=⟨(fh (mX b 8 pos bad).val).1,(mX b 8 pos bad).pos,(mX b 8 pos bad).bad || !(fh (mX b 8 pos bad).val).2⟩
theorem xZ(b:Bytes)(pos:Int)(bad:Bool):0<=(xR b pos bad).val/\(xR b pos bad).val<18446744073709551616:=l8 _
def UJ(b:Bytes):Rd D4 :=
 let c:=kU b 0 Zz
 let s:=kU b c.pos c.bad
 let k:=xR b s.pos s.bad
 let t:=o_ b 4 k.pos k.bad
 let e:=o_ b 4 t.pos t.bad
 let a:=o_ b 4 e.pos e.bad
 ⟨⟨c.val,s.val,k.val,t.val,e.val,a.val⟩,a.pos,a.bad⟩
def Qm(b:Bytes):Rd uJ :=
 let k:=xR b 0 Zz
 let s:=kU b k.pos k.bad
 let t:=o_ b 4 s.pos s.bad
 let e:=o_ b 4 t.pos t.bad
 let m:=o_ b 2 e.pos e.bad
 let x:=mX b m.val m.pos m.bad
 ⟨⟨k.val,s.val,t.val,e.val,x.val⟩,x.pos,x.bad⟩
def UI(b:Bytes):Rd D2 :=
 let o:=o_ b 1 2 Zz
 let n:=kU b o.pos o.bad
 let m:=o_ b 2 n.pos n.bad
 let x:=mX b m.val m.pos m.bad
 ⟨⟨o.val,n.val,x.val⟩,x.pos,x.bad⟩
def FJ(b:Bytes):D4×Bool:=((UJ b).val,(UJ b).bad)
def BX(b:Bytes):uJ×Bool:=((Qm b).val,(Qm b).bad)
def FI(b:Bytes):D2×Bool:=((UI b).val,(UI b).bad)
def dS(b:Bytes):DX D4:=iB ML eN FJ b
def dp(b:Bytes):DX uJ:=iB IX dT BX b
def fu(b:Bytes):DX D2 :=
 if (bc b [10]).2≠0 then⟨HC,(bc b [10]).2⟩ else iB HC eM FI b
theorem zL{a b:Int}:period a b=true↔(0<=a/\a<=4294967295)/\(0<=b/\b<=4294967295)/\a<=b:=by simp[period,within_iff,and_assoc]
theorem Ek{k:Int}(h:gy k=2):bp k=true:=by
 unfold gy at h;cases hk:bp k
 ·rw[hk] at h;cases h
 ·rfl
theorem EE{r:D4}(h:(eN r).err=0):r.client.valid=true/\r.service.valid=true/\bp r.aG=true/\(0<=r.start/\r.start<=4294967295)/\(0<=r.stop/\r.stop<=4294967295)/\(0<=r.addr/\r.addr<=4294967295) /\
  ∃ z,(eN r).val=r.client.name++0::(r.client.inst++0::(r.client.aJ++0::(r.service.name++0::(r.service.inst++0::(r.service.aJ++0::(keyBytes r.aG++(aS r.start 4 Zz++(aS r.stop 4 Zz++(aS r.addr 4 Zz++z)))))))))/\z.length<=7:=by
 unfold eN at h ⊢;split at h
 ·cases h
 rename_i g0;rw[Qa0 g0];split at h
 ·cases h
 rename_i g1;rw[Qa0 g1];split at h
 ·cases h
 rename_i g2;rw[Qa0 g2];simp only[Zw,Zv,Zy,zL,within_iff] at g0 g2;obtain⟨z,hz,hl⟩:=zJ (c5 (c5 [] r.client) r.service++keyBytes r.aG++aS r.start 4 Zz++aS r.stop 4 Zz++aS r.addr 4 Zz);refine⟨g0.1,g0.2,Ek (by omega),g2.1.1,g2.1.2.1,g2.2,z,?_,hl⟩;rw[hz];simp[c5,bg]
theorem CM{p:uJ}(h:(dT p).err=0):bp p.aG=true/\p.service.valid=true/\(0<=p.start/\p.start<=4294967295)/\(0<=p.stop/\p.stop<=4294967295)/\p.record.length<=300 /\
  ∃ z,(dT p).val=keyBytes p.aG++(p.service.name++0::(p.service.inst++0::(p.service.aJ++0::(aS p.start 4 Zz++(aS p.stop 4 Zz++(aS p.record.length 2 Zz++(p.record++z)))))))/\z.length<=7:=by
 unfold dT at h ⊢;split at h
 ·cases h
 rename_i g0;rw[Qa0 g0];split at h
 ·cases h
 rename_i g1;rw[Qa0 g1];split at h
 ·cases h
 rename_i g2;rw[Qa0 g2];split at h
 ·cases h
 rename_i g3;rw[Qa0 g3];simp only[Zw,Zv,zL] at g0 g1 g2;obtain⟨z,hz,hl⟩:=zJ (c7 (c5 (keyBytes p.aG) p.service++aS p.start 4 Zz++aS p.stop 4 Zz) p.record);refine⟨g0,g1,g2.1,g2.2.1,by omega,z,?_,hl⟩;rw[hz];simp[c5,bg,c7]
theorem EC{m:D2}(h:(eM m).err=0):(1<=m.op/\m.op<=3)/\m.name.valid=true/\m.box.length<=1012 /\
  (eM m).val=header 10 Zz++(aS m.op 1 Zz++(m.name.name++0::(m.name.inst++0::(m.name.aJ++0::(aS m.box.length 2 Zz++(m.box++[])))))):=by
 unfold eM at h ⊢;split at h
 ·cases h
 rename_i g0;rw[Qa0 g0];split at h
 ·cases h
 rename_i g1;rw[Qa0 g1];split at h
 ·cases h
 rename_i g2;rw[Qa0 g2];simp only[Zw,Zv,vx] at g0 g1;exact⟨by omega,g1,by omega,by simp[c5,bg,c7]⟩
end Kerb
/- Chapter 20: what a client makes of replies and answers. -/
namespace Kerb
open Go Go.Abs
structure Rcv where
 c:Client
 S9:eD
 err:Int
def DA(c:Client)(k:Int):Int:=if c.wait=2 then(Ix c.cache.qu (p8 c.me c.wanted)).1.aG else k
def qk(c:Client)(k:Int)(msg:Bytes):Ie :=
 if (bK msg).err≠0 then⟨rO,(bK msg).err⟩
 else if !(bK msg).val.client.qv c.me || !((bK msg).val.time==c.time) then⟨rO,63⟩
 else if c.wait=2/\(Ix c.cache.qu (p8 c.me c.wanted)).2=Zz then⟨rO,76⟩
 else if (jX (bK msg).val.iu 3 (DA c k)).2=Zz then⟨rO,62⟩
 else if (ca (jX (bK msg).val.iu 3 (DA c k)).1 (bK msg).val.aq).err≠0 \/
   (ca (jX (bK msg).val.iu 3 (DA c k)).1 (bK msg).val.aq).val.service.qv c.wanted=Zz then⟨rO,63⟩
 else⟨(ca (jX (bK msg).val.iu 3 (DA c k)).1 (bK msg).val.aq).val,0⟩
def rS(p:gG):eD:=⟨p.service,p.aG,p.cj,p.bP,p.time,p.aN⟩
def Wt(c:Client)(k:Int)(msg:Bytes)(now:Int):Rcv :=
 if c.err≠0\/(c.wait≠1/\c.wait≠2) then⟨c,rN,108⟩
 else if (rj msg).err=0 then
  if (rj msg).val.client.qv c.me=Zz then⟨c,rN,63⟩ else⟨c.idle,rN,(rj msg).val.code⟩
 else if (qk c k msg).err≠0 then⟨c,rN,(qk c k msg).err⟩
 else if A7 (qk c k msg).val.time now c.eK=Zz then⟨c,rN,37⟩
 else if (xf c.cache (rS (qk c k msg).val)).err≠0 then⟨c,rN,(xf c.cache (rS (qk c k msg).val)).err⟩
 else⟨{ c.idle with cache:=(xf c.cache (rS (qk c k msg).val)).val },rS (qk c k msg).val,0⟩
def Jq(client service:aZ)(aG mj:Int)(aq:Bool)(time now cj:Int):Bytes :=
 (dU ⟨aq,client,time,0,0,(fO 3 mj (cX ⟨aG,service,cj,2,[1,2,3],now⟩ aq).val).val⟩).val
structure GK where
 kind:UInt8
 client:UInt8
 service:UInt8
 time:UInt8
 now:UInt8
 aq:Bool
 mj:UInt8
 how:Int
def GK.av(x:GK):AV := .agg [.u8 x.kind,.u8 x.client,.u8 x.service,.u8 x.time,.u8 x.now,.bool x.aq,.u8 x.mj,.int .u16 x.how]
structure GS where
 cO:Int
 tick:Int
 time:Int
def eG(m:GS)(aq:Bool):lX :=
 if !(within m.cO 4294967295&&within m.tick 199&&within m.time 4294967295) then⟨[],104⟩
 else⟨pad (aS (cond aq 1 0) 1 Zz++aS m.cO 4 aq++aS m.tick 1 Zz++aS m.time 4 aq),0⟩
theorem QV(b:Bytes):List.drop (Int.toNat 2) (List.take (Int.toNat 10) b)=cut b 2 8:=by
 show List.drop 2 (List.take 10 b)=List.take 8 (List.drop 2 b);rw[List.drop_take]
theorem QU(b:Bytes)(n:Nat):List.drop (Int.toNat 12) (List.take (Int.toNat (12+(n:Int))) b)=cut b 12 n:=by
 have e:Int.toNat (12+(n:Int))=12+n:=by omega
 rw[e];show List.drop 12 (List.take (12+n) b)=List.take n (List.drop 12 b);rw[List.drop_take];congr 1;omega
theorem Ir(b:Bytes)(p n:Int):(cut b p n).length<=b.length:=by unfold cut;simp;omega
theorem PQ(x y:UInt8):IntKind.wrap .i64 (↑(BitVec.toNat (BitVec.ofInt (Zx .i64) (IntKind.wrap .i64 (IntKind.wrap .i64 (↑x.toNat:Int)*(2:Int) ^ min (Int.toNat (8:Int)) (Zx .i64))) ||| BitVec.ofInt (Zx .i64) (IntKind.wrap .i64 (↑y.toNat:Int)))):Int)=((x.toNat*256+y.toNat:Nat):Int):=by
 have hx:=x.toNat_lt;have hy:=y.toNat_lt;have e1:(2:Int) ^ min (Int.toNat (8:Int)) (Zx .i64)=256:=by decide
 rw[e1,wrap_i64 (n:=(x.toNat:Int)) (by omega) (by omega),wrap_i64 (n:=(y.toNat:Int)) (by omega) (by omega),wrap_i64 (n:=(x.toNat:Int)*256) (by omega) (by omega)];have e2:BitVec.toNat (BitVec.ofInt (Zx .i64) ((x.toNat:Int)*256) ||| BitVec.ofInt (Zx .i64) (y.toNat:Int))=x.toNat*256+y.toNat:=by
  rw[BitVec.toNat_or];have f1:(BitVec.ofInt (Zx .i64) ((x.toNat:Int)*256)).toNat=2 ^ 8*x.toNat:=by
   rw[BitVec.toNat_ofInt];show(((x.toNat:Int)*256) % ((2 ^ 64:Nat):Int)).toNat=_;rw[Int.emod_eq_of_lt (by omega) (by omega)];omega
  have f2:(BitVec.ofInt (Zx .i64) (y.toNat:Int)).toNat=y.toNat:=by
   rw[BitVec.toNat_ofInt];show((y.toNat:Int) % ((2 ^ 64:Nat):Int)).toNat=_;rw[Int.emod_eq_of_lt (by omega) (by omega)];omega
  rw[f1,f2,<-Nat.two_pow_add_eq_or_of_lt (by omega)];omega
 rw[e2,wrap_i64 (by omega) (by omega)]
theorem KS(x:UInt8):IntKind.wrap .i64 (↑x.toNat:Int)=(x.toNat:Int):=by
 have hx:=x.toNat_lt;exact wrap_i64 (by omega) (by omega)
end Kerb
namespace Kerb
open Go Go.Abs
end Kerb
namespace Kerb
open Go Go.Abs
def m8(x:UInt8):UInt8:=UInt8.ofNat (Int.toNat (Int.tmod (↑x.toNat:Int) (↑(8:UInt8).toNat:Int)))
def d8(x:UInt8):Int:=IntKind.wrap .i64 (↑(UInt8.ofNat (Int.toNat (IntKind.wrap .u8 (Int.tdiv (↑x.toNat:Int) (↑(8:UInt8).toNat:Int))))).toNat:Int)
theorem Qz(x:UInt8):0<=IntKind.wrap .i64 (↑x.toNat:Int)/\IntKind.wrap .i64 (↑x.toNat:Int)<=255:=by
 have h:=x.toNat_lt;rw[wrap_i64 (by omega) (by omega)];omega
def GK.me(x:GK)(c:Client):aZ:=cond (m8 x.client==7) (user (d8 x.client)) c.me
def GK.wanted(x:GK)(c:Client):aZ:=cond (m8 x.service==7) (Kerb.service (d8 x.service)) c.wanted
def GK.at'(x:GK)(c:Client):Int:=cond (m8 x.time==7) (IntKind.wrap .i64 (↑x.time.toNat:Int)) c.time
def GK.key(x:GK)(k:Int):Int:=cond (m8 x.mj==7) (aG (d8 x.mj)) k
def GK.code(x:GK):Int:=IntKind.wrap .i64 (↑(UInt8.ofNat (Int.toNat (IntKind.wrap .u8 ((↑(1:UInt8).toNat:Int)+(↑(UInt8.ofNat (Int.toNat (IntKind.wrap .u8 (Int.tdiv (↑x.kind.toNat:Int) (↑(8:UInt8).toNat:Int))))).toNat:Int))))).toNat:Int)
def GK.rep(x:GK)(c:Client)(k:Int):Bytes :=
 Jq (x.me c) (x.wanted c) (aG 50) (x.key k) x.aq (x.at' c) (IntKind.wrap .i64 (1000+IntKind.wrap .i64 (IntKind.wrap .i64 (↑x.now.toNat:Int)*4))) 100
def GK.text(x:GK)(c:Client)(k:Int):Bytes :=
 cond (m8 x.kind==7) (ot ⟨x.aq,x.me c,9,x.code,[]⟩).val (cond (m8 x.kind==6) (qJ (x.rep c k) x.how) (x.rep c k))
end Kerb
namespace Kerb
open Go Go.Abs
def gG.ok(p:gG):Prop:=(rS p).ok/\p.aN.length<=255
end Kerb
namespace Kerb
open Go Go.Abs
end Kerb
/- Chapters 10, 18, 20: the answer of a service, and what a client makes of it. -/
namespace Kerb
open Go Go.Abs
def dM(s:Bytes)(li:Bool):lX :=
 if 1012<s.length then⟨[],105⟩ else⟨header 8 li++aS s.length 2 li++s,0⟩
def yi(b:Bytes)(li:Bool):Bytes:=let n:=get b 2 2 li;(bytes b n.next n.val).val
structure QB where
 val:Bytes
 aq:Bool
 err:Int
def jo(b:Bytes):QB :=
 if (bc b [8]).2≠0 then⟨[],Zz,(bc b [8]).2⟩
 else if (iB [] (fun s=>dM s (bc b [8]).1) (fun b'=>(yi b' (bc b [8]).1,Zz)) b).err=0 then
  ⟨(iB [] (fun s=>dM s (bc b [8]).1) (fun b'=>(yi b' (bc b [8]).1,Zz)) b).val,(bc b [8]).1,0⟩ else⟨[],Zz,100⟩
theorem QJ{s:Bytes}{li:Bool}(h:(dM s li).err=0):(dM s li).val=header 8 li++(aS s.length 2 li++(s++[]))/\s.length<=1012:=by grind [dM]
theorem JD(li:Bool):(header 8 li).length=2:=by cases li<;>rfl
def vI(n:Int):Int:=(n+1) % 4294967296
def Ba(aG cO time tick:Int)(li:Bool):lX :=
 if (eG ⟨vI cO,tick,time⟩ li).err≠0 then⟨[],(eG ⟨vI cO,tick,time⟩ li).err⟩
 else if (fO 4 aG (eG ⟨vI cO,tick,time⟩ li).val).err≠0 then⟨[],(fO 4 aG (eG ⟨vI cO,tick,time⟩ li).val).err⟩
 else dM (fO 4 aG (eG ⟨vI cO,tick,time⟩ li).val).val li
structure WH where
 c:Client
 err:Int
theorem AQ(b:Bytes):(jo b).val.length<=1012:=by
 unfold jo;split
 ·simp
 split
 ·rename_i h0 h;unfold iB at h ⊢;split at h
  ·cases h
  ·rename_i h2;rw[Qa0 h2];exact(QJ (Decidable.byContradiction fun x=>h2 (.inr (.inl x)))).2
 ·simp
end Kerb
/- Chapters 12 and 14: the principals of a realm, keys between realms. -/
namespace Kerb
open Go Go.Abs
structure fT where
 name:Bytes
 inst:Bytes
 key:Int
 bP:Int
 dZ:Int
 lv:Int
 attr:Int
 yI:Int
 H_:Int
def noEntry:fT:=⟨[],[],0,0,0,0,0,0,0⟩
def fT.av(e:fT):AV := .agg [.str e.name,.str e.inst,.int .u64 e.key,.int .i64 e.bP,.int .i64 e.dZ,.int .i64 e.lv,.int .i64 e.attr,.int .i64 e.yI,.int .i64 e.H_]
def mZ(n:Int):Bool:=decide (-9223372036854775808<=n)&&decide (n<=9223372036854775807)
def Bz(n:Int):Bool:=decide (0<=n)&&decide (n<18446744073709551616)
def Pr:AV->Bool
 | .agg [.str n,.str i,.int .u64 k,.int .i64 v,.int .i64 x,.int .i64 m,.int .i64 a,.int .i64 f,.int .i64 t] =>
  decide (n.length<=9223372036854775807)&&decide (i.length<=9223372036854775807)&&Bz k&&mZ v&&mZ x&&mZ m&&mZ a&&mZ f&&mZ t
 | _=>Zz
def fT.ok(e:fT):Prop:=e.name.length<=9223372036854775807/\e.inst.length<=9223372036854775807/\Bz e.key=true/\mZ e.bP=true/\mZ e.dZ=true/\mZ e.lv=true/\mZ e.attr=true/\mZ e.yI=true/\mZ e.H_=true
def fT.err(e:fT):Int :=
 if !(validName e.name&&bO e.inst) then 103
 else if e.key≠0/\bp e.key=Zz then 10
 else if !(within e.bP 255&&(within e.dZ 4294967295&&within e.H_ 4294967295)) then 104
 else if !(within e.lv 255&&(within e.attr 3&&within e.yI 20)) then 104 else 0
def fT.less(a b:fT):Bool:=Op.bytesLess a.name b.name||(a.name==b.name&&Op.bytesLess a.inst b.inst)
def yG:Option fT->List fT->Int
 | _,[]=>0
 | p,e::r=>if e.err≠0 then e.err else if (match p with | some q=>e.less q | none=>Zz) then 110 else yG (some e) r
structure Db where
 aJ:Bytes
 entries:List fT
def fT.qv(a b:fT):Bool:=a.name==b.name&&(a.inst==b.inst&&(a.key==b.key&&(a.bP==b.bP&&(a.dZ==b.dZ&&(a.lv==b.lv&&(a.attr==b.attr&&(a.yI==b.yI&&a.H_==b.H_)))))))
def FQ:List fT->List fT->Bool
 | [],[]=>true
 | a::l,b::r=>a.qv b&&FQ l r
 | _,_=>Zz
def Db.same(a b:Db):Bool:=a.aJ==b.aJ&&FQ a.entries b.entries
theorem fT.EG(a:fT):a.qv a=true:=by simp[fT.qv]
def Db.err(d:Db):Int:=if !c4 d.aJ then 103 else if 60<d.entries.length then 106 else yG none d.entries
def fT.named(n i:Bytes)(e:fT):Bool:=e.name==n&&e.inst==i
def jU(l:List fT)(n i:Bytes):Int×Int :=
 if l.countP (fT.named n i)=0 then(0,8) else if 1<l.countP (fT.named n i) then(0,9) else((l.findIdx (fT.named n i):Int),0)
def S7(a b:Int):Int:=IntKind.wrap .i64 ((BitVec.ofInt 64 a &&& BitVec.ofInt 64 b).toNat:Int)
def OB(d:Db)(n i:Bytes)(now bit expired QP:Int):Int×Int :=
 if (jU d.entries n i).2≠0 then(0,(jU d.entries n i).2)
 else if bp (d.entries.getD (jU d.entries n i).1.toNat noEntry).key=Zz then(0,10)
 else if (d.entries.getD (jU d.entries n i).1.toNat noEntry).dZ≠0/\(d.entries.getD (jU d.entries n i).1.toNat noEntry).dZ<=now then(0,expired)
 else if S7 (d.entries.getD (jU d.entries n i).1.toNat noEntry).attr bit≠0 then(0,QP)
 else((jU d.entries n i).1,0)
def oZ(d:Db)(n i:Bytes)(now:Int):Int×Int:=OB d n i now 1 1 5
def ml(d:Db)(n i:Bytes)(now:Int):Int×Int:=OB d n i now 2 2 6
structure mD where
 source:Bytes
 target:Bytes
 bP:Int
 key:Int
def nh:mD:=⟨[],[],0,0⟩
def mD.av(c:mD):AV := .agg [.str c.source,.str c.target,.int .i64 c.bP,.int .u64 c.key]
def CA(l:List mD)(a b:Bytes):Nat->Option Nat
 | 0=>none
 | i+1=>cond ((l.getD i nh).source==a&&((l.getD i nh).target==b&&(match CA l a b i with | some j=>decide ((l.getD j nh).bP<(l.getD i nh).bP) | none=>true))) (some i) (CA l a b i)
def wL(l:List mD)(a b:Bytes):Int×Bool:=match CA l a b l.length with | some i=>((i:Int),true) | none=>(0,Zz)
end Kerb
/- Chapter 24: clients of kaservers, in plain words. -/
namespace Kerb
open Go Go.Abs
structure K6 where
 op:Int
 time:Int
 start:Int
 stop:Int
 service:aZ
 aG:Int
 new:Int
structure WJ where
 w:K6
 msg:Bytes
 err:Int
structure acj where
 c:Client
 w:K6
 S9:eD
 err:Int
structure WK where
 op:UInt8
 label:UInt8
 time:UInt8
 service:UInt8
 key:UInt8
 code:UInt8
 start:Int
 stop:Int
 how:Int
end Kerb
/- Chapters 17 and 23: tickets that are granted, the servers of AFS. -/
namespace Kerb
open Go Go.Abs
def zm:Bytes:=[107,114,98,116,103,116]
structure WM where
 key:Int
 bP:Int
 cj:Int
 dZ:Int
 err:Int
def DN(d:Db)(dH:List mD)(n i:Bytes)(now:Int):WM :=
 if n==zm&&(c4 i && !(i==d.aJ)) then
  (if (wL dH d.aJ i).2 then⟨(dH.getD (wL dH d.aJ i).1.toNat nh).key,(dH.getD (wL dH d.aJ i).1.toNat nh).bP,255,0,0⟩ else⟨0,0,0,0,8⟩)
 else if (ml d n i now).2≠0 then⟨0,0,0,0,(ml d n i now).2⟩
 else⟨(d.entries.getD (ml d n i now).1.toNat noEntry).key,(d.entries.getD (ml d n i now).1.toNat noEntry).bP,(d.entries.getD (ml d n i now).1.toNat noEntry).lv,(d.entries.getD (ml d n i now).1.toNat noEntry).dZ,0⟩
structure xg where
 kind:Int
 server:aZ
 client:aZ
 service:aZ
 aG:Int
 mj:Int
 p8:Int
 text:Bytes
 cE:Int
 stop:Int
def lz:xg:=⟨0,cY,cY,cY,0,0,0,[],0,0⟩
def xg.cs(x:xg):List AV:=[.int .i64 x.kind,.str x.server.name,.str x.server.inst,.str x.server.aJ,.str x.client.name,.str x.client.inst,.str x.client.aJ,.str x.service.name,.str x.service.inst,.str x.service.aJ,.int .u64 x.aG,.int .u64 x.mj,.int .u64 x.p8,.bs x.text,.int .i64 x.cE,.int .i64 x.stop]
def xg.same(a b:xg):Bool:=a.kind==b.kind&&(a.server.qv b.server&&(a.client.qv b.client&&(a.service.qv b.service&&(a.aG==b.aG&&(a.mj==b.mj&&(a.p8==b.p8&&(a.text==b.text&&(a.cE==b.cE&&a.stop==b.stop))))))))
structure OT where
 iD:xg
 part:gG
 err:Int
def pe(aq:Bool)(client service:aZ)(address now cj aG:Int):dz:=⟨aq,client,address,aG,cj,now,service.name,service.inst⟩
def tA(aJ:Bytes)(client service:aZ)(address:Int)(aq:Bool)(now cj aG mj target bP:Int):OT :=
 if (fz (pe aq client service address now cj aG) target).err≠0 then⟨lz,rO,(fz (pe aq client service address now cj aG) target).err⟩
 else if (cX ⟨aG,service,cj,bP,(fz (pe aq client service address now cj aG) target).val,now⟩ aq).err≠0 then
  ⟨lz,rO,(cX ⟨aG,service,cj,bP,(fz (pe aq client service address now cj aG) target).val,now⟩ aq).err⟩
 else⟨⟨0,WB aJ aJ,client,service,aG,mj,0,(fz (pe aq client service address now cj aG) target).val,now,SA now cj⟩,⟨aG,service,cj,bP,(fz (pe aq client service address now cj aG) target).val,now⟩,0⟩
def refuse(client:aZ)(code now:Int)(aq:Bool):Bytes:=(ot ⟨aq,client,now,code,message code⟩).val
structure S2 where
 db:Db
 answer:Bytes
 iD:xg
 ok:Bool
def gY(d:Db)(i:Int):fT:=d.entries.getD i.toNat noEntry
def fl.bd(s:fl):Prop:=(0<=s.time/\s.time<=4294967295)/\(0<=s.stop/\s.stop<=4294967295)/\0<=s.new/\s.new<18446744073709551616
def dz.bd(t:dz):Prop:=t.client.name.length<=40/\t.client.inst.length<=40/\t.client.aJ.length<=40/\Bz t.aG=true
def Db.ok(d:Db):Prop:=∀ e∈d.entries,e.ok
def dY.bd(r:dY):Prop:=(r.user.name.length<=40/\r.user.inst.length<=40/\r.user.aJ.length<=40/\r.aJ.length<=40/\r.service.length<=40/\r.inst.length<=40)/\lh r.op=true/\r.aN.length<=255/\r.box.length<=1012
end Kerb
/- Chapters 7, 10, 13, 16, 18: what is decoded, keys of services, replay caches, services that verify. -/
namespace Kerb
open Go Go.Abs
def qf:lL:=⟨cY,0,0,0⟩
def MZ(b:Bytes)(li:Bool):lL :=
 let p:=ia b 1
 let c:=get b p.next 4 li
 let t:=get b c.next 1 Zz
 ⟨p.val,c.val,t.val,(get b t.next 4 li).val⟩
def yy(b:Bytes)(li:Bool):DX lL:=iB qf (fun a=>gN a li) (fun b=>(MZ b li,Zz)) b
def rR(b:Bytes)(li:Bool)(k:Int):DX lL :=
 if (jX b 2 k).2=Zz then⟨qf,31⟩
 else if (yy (jX b 2 k).1 li).err≠0 then⟨qf,31⟩ else⟨(yy (jX b 2 k).1 li).val,0⟩
structure S1 where
 val:cS
 next:Int
def lG(b:Bytes):S1 :=
 let k:=get b 2 1 Zz
 let s:=text b k.next
 let n:=get b s.next 1 Zz
 let m:=get b n.next 1 Zz
 let t:=bytes b m.next n.val
 let a:=bytes b t.next m.val
 ⟨⟨(dB b).aq,(dB b).kind==4,k.val,s.val,t.val,a.val⟩,a.next⟩
def fU(b:Bytes):DX cS :=
 if (bc b [3,4]).2≠0 then⟨A8,(bc b [3,4]).2⟩ else iB A8 cH (fun b=>((lG b).val,Zz)) b
theorem Le{r:cS}(h:(cH r).err=0):(cH r).val=header (cond r.gA 4 3) r.aq++(aS r.bP 1 Zz++(r.aJ++0::(aS r.aN.length 1 Zz++(aS r.fA.length 1 Zz++(r.aN++(r.fA++[])))))) /\
  (r.aJ.length<=39/\(0:UInt8) ∉ r.aJ)/\(0<=r.bP/\r.bP<=255)/\r.aN.length<=255/\r.fA.length<=255:=by
 unfold cH at h ⊢;split at h
 ·cases h
 rename_i h1;rw[Qa0 h1];split at h
 ·cases h
 rename_i h2;rw[Qa0 h2];split at h
 ·cases h
 rename_i h3;rw[Qa0 h3];simp only[Zw,Zv,within_iff] at h1 h2;refine⟨by unfold bg;simp only[List.append_assoc,List.singleton_append,List.cons_append,List.nil_append,List.append_nil],?_,h2,by omega,by omega⟩;simp only[c4,Zy] at h1;exact inst_ok' h1.2 where
 inst_ok' {s:Bytes} (h:bO s=true):s.length<=39/\(0:UInt8) ∉ s:=by
  simp only[bO,Zy,Qa2] at h;exact⟨h.1,fun hm=>by
   have:=h.2;simp only[dO,List.all_eq_true] at this;exact absurd (this 0 hm) (by decide)⟩
structure n_ where
 service:aZ
 bP:Int
 key:Int
def R2:n_:=⟨cY,0,0⟩
def n_.av(c:n_):AV := .agg [.str c.service.name,.str c.service.inst,.str c.service.aJ,.int .i64 c.bP,.int .u64 c.key]
def n_.ok(c:n_):Prop:=c.service.name.length<=9223372036854775807/\c.service.inst.length<=9223372036854775807/\c.service.aJ.length<=9223372036854775807/\mZ c.bP=true/\Bz c.key=true
def n_.qv(a b:n_):Bool:=a.service.name==b.service.name&&(a.service.inst==b.service.inst&&(a.service.aJ==b.service.aJ&&(a.bP==b.bP&&a.key==b.key)))
def n_.is(p:aZ)(v:Int)(x:n_):Bool:=x.service.qv p&&x.bP==v
def U8(l:List n_)(p:aZ)(v:Int):Nat:=l.findIdx (n_.is p v)
def jE(l:List n_)(p:aZ)(v:Int):Int×Bool:=if U8 l p v<l.length then((l.getD (U8 l p v) R2).key,true) else(0,Zz)
def n_.err(x:n_):Int:=if !x.service.valid then 103 else if !within x.bP 255 then 104 else if !bp x.key then 10 else 0
def Nc:List n_->List n_->Int
 | _,[]=>0
 | seen,c::r=>if c.err≠0 then c.err else if seen.any (n_.is c.service c.bP) then 107 else Nc (seen++[c]) r
def Qu(l:List n_):Int:=if 60<l.length then 106 else Nc [] l
def B4:List n_->List n_->Bool
 | [],[]=>true
 | a::l,b::r=>a.qv b&&B4 l r
 | _,_=>Zz
structure Mark where
 client:aZ
 time:Int
 tick:Int
def Mark.av(m:Mark):AV := .agg [.str m.client.name,.str m.client.inst,.str m.client.aJ,.int .i64 m.time,.int .i64 m.tick]
def Mark.ok(m:Mark):Prop:=m.client.name.length<=9223372036854775807/\m.client.inst.length<=9223372036854775807/\m.client.aJ.length<=9223372036854775807/\mZ m.time=true/\mZ m.tick=true
def Mark.qv(a b:Mark):Bool:=a.client.name==b.client.name&&(a.client.inst==b.client.inst&&(a.client.aJ==b.client.aJ&&(a.time==b.time&&a.tick==b.tick)))
theorem Mark.ou{a b:Mark}:a.qv b=true↔a=b:=by
 obtain⟨⟨a1,a2,a3⟩,a4,a5⟩:=a;obtain⟨⟨b1,b2,b3⟩,b4,b5⟩:=b;simp[Mark.qv,and_assoc]
def vn(l:List Mark)(m:Mark):Bool:=l.any fun x=>x.qv m
structure nF where
 size:Int
 floor:Int
 marks:List Mark
def J':nF:=⟨0,0,[]⟩
def Mark.err(floor:Int)(m:Mark):Int :=
 if !m.client.valid then 103 else if !(decide (floor<=m.time)&&decide (m.time<=4294967295)&&within m.tick 199) then 104 else 0
def Fl(floor:Int):List Mark->List Mark->Int
 | _,[]=>0
 | seen,c::r=>if c.err floor≠0 then c.err floor else if vn seen c then 107 else Fl floor (seen++[c]) r
def nF.err(r:nF):Int :=
 if !(decide (1<=r.size)&&decide (r.size<=40)&&within r.floor 4294967295) then 104 else if r.size<r.marks.length then 106 else Fl r.floor [] r.marks
def nO(r:nF)(now eK:Int):List Mark:=r.marks.filter fun x=>decide (imax r.floor (now-eK)<=x.time)
def mq(r:nF)(m:Mark)(now eK:Int):DX nF :=
 if r.err≠0 then⟨J',108⟩ else if !m.client.valid then⟨J',103⟩ else if !within m.tick 199 then⟨J',104⟩
 else if A7 m.time now eK=Zz\/m.time<r.floor then⟨J',37⟩ else if vn r.marks m then⟨J',34⟩
 else if r.size<=(nO r now eK).length then⟨J',82⟩
 else⟨⟨r.size,imax r.floor (now-eK),nO r now eK++[m]⟩,0⟩
def B3:List Mark->List Mark->Bool
 | [],[]=>true
 | a::l,b::r=>a.qv b&&B3 l r
 | _,_=>Zz
def nF.same(a b:nF):Bool:=a.size==b.size&&(a.floor==b.floor&&B3 a.marks b.marks)
structure Server where
 me:aZ
 keys:List n_
 replay:nF
 eK:Int
structure nD where
 client:aZ
 aG:Int
 address:Int
 cO:Int
 time:Int
 tick:Int
 cE:Int
 cj:Int
 aN:Bytes
 fA:Bytes
def qe:nD:=⟨cY,0,0,0,0,0,0,0,[],[]⟩
def Server.err(s:Server):Int :=
 if !s.me.valid then 103 else if Qu s.keys≠0 then Qu s.keys else if s.replay.err≠0 then s.replay.err else if !within s.eK 4294967295 then 104 else 0
structure QH where
 aN:dz
 fA:lL
 err:Int
def sZ(t:dz)(aJ:Bytes):aZ:=⟨t.service,t.inst,aJ⟩
def dj(s:Server)(r:cS):QH :=
 if r.aJ≠s.me.aJ then⟨jP,qf,35⟩
 else if (jE s.keys s.me r.bP).2=Zz then⟨jP,qf,35⟩
 else if (fw r.aN (jE s.keys s.me r.bP).1).err=7 then⟨jP,qf,7⟩
 else if (fw r.aN (jE s.keys s.me r.bP).1).err≠0 then⟨jP,qf,31⟩
 else if (sZ (fw r.aN (jE s.keys s.me r.bP).1).val s.me.aJ).qv s.me=Zz then⟨jP,qf,35⟩
 else if (rR r.fA r.aq (fw r.aN (jE s.keys s.me r.bP).1).val.aG).err≠0 then⟨jP,qf,31⟩
 else⟨(fw r.aN (jE s.keys s.me r.bP).1).val,(rR r.fA r.aq (fw r.aN (jE s.keys s.me r.bP).1).val.aG).val,0⟩
def IJ(t:dz)(a:lL)(src now eK:Int):Int :=
 if t.client.qv a.client=Zz then 36 else if src≠t.address then 38 else if A7 a.time now eK=Zz then 37 else GC t.cE t.cj now eK
def ue(a:lL):Mark:=⟨a.client,a.time,a.tick⟩
structure D5 where
 s:Server
 a:nD
 err:Int
def verify(s:Server)(r:cS)(src now:Int):D5 :=
 if s.err≠0 then⟨s,qe,108⟩
 else if (dj s r).err≠0 then⟨s,qe,(dj s r).err⟩
 else if IJ (dj s r).aN (dj s r).fA src now s.eK≠0 then⟨s,qe,IJ (dj s r).aN (dj s r).fA src now s.eK⟩
 else if (mq s.replay (ue (dj s r).fA) now s.eK).err≠0 then⟨s,qe,(mq s.replay (ue (dj s r).fA) now s.eK).err⟩
 else⟨⟨s.me,s.keys,(mq s.replay (ue (dj s r).fA) now s.eK).val,s.eK⟩,⟨(dj s r).aN.client,(dj s r).aN.aG,(dj s r).aN.address,(dj s r).fA.cO,(dj s r).fA.time,(dj s r).fA.tick,(dj s r).aN.cE,(dj s r).aN.cj,r.aN,r.fA⟩,0⟩
def nD.UT(a:nD)(li:Bool):lX:=Ba a.aG a.cO a.time a.tick li
structure acn where
 s:Server
 a:nD
 answer:Bytes
 err:Int
def nD.same(a b:nD):Bool:=a.client.qv b.client&&a.aG==b.aG&&a.address==b.address&&a.cO==b.cO&&a.time==b.time&&a.tick==b.tick&&a.cE==b.cE&&a.cj==b.cj&&a.aN==b.aN&&a.fA==b.fA
def Server.same(a b:Server):Bool:=a.me.qv b.me&&a.eK==b.eK&&B4 a.keys b.keys&&a.replay.same b.replay
theorem Et(b:Bytes):(fU b).val.aJ.length<=9223372036854775807/\(fU b).val.aN.length<=255/\(fU b).val.fA.length<=255:=by
 unfold fU;split
 ·exact⟨by simp[A8],by simp[A8],by simp[A8]⟩
 unfold iB;split
 ·exact⟨by simp[A8],by simp[A8],by simp[A8]⟩
 ·rename_i h;have he:(cH (lG b).val).err=0:=Decidable.byContradiction fun q=>h (.inr (.inl q));obtain⟨_,h1,_,h2,h3⟩:=Le he;exact⟨by have:=h1.1;dsimp only;omega,h2,h3⟩
end Kerb
/- Chapter 11: safe and private messages, in plain words. -/
namespace Kerb
open Go Go.Abs
structure oW where
 data:Bytes
 tick:Int
 addr:Int
 time:Int
def dv(p:oW)(li:Bool):lX :=
 if 500<p.data.length then⟨[],105⟩
 else if !(within p.tick 199&&within p.addr 4294967295&&within p.time 4294967295) then⟨[],104⟩
 else⟨pad (aS (cond li 1 0) 1 Zz++aS p.data.length 2 li++p.data++aS p.tick 1 Zz++aS p.addr 4 li++aS p.time 4 li),0⟩
structure K8 where
 text:Bytes
 box:Bytes
 err:Int
def jD(p:oW)(li:Bool)(kind k:Int):K8 :=
 if (dv p li).err≠0 then⟨[],[],(dv p li).err⟩
 else if (fO kind k (dv p li).val).err≠0 then⟨[],[],(fO kind k (dv p li).val).err⟩
 else⟨(dv p li).val,(fO kind k (dv p li).val).val,0⟩
def zO(b s:Bytes)(li:Bool):Bytes:=b++aS s.length 2 li++s
def pw(p:oW)(li:Bool)(k:Int):lX :=
 if (jD p li 5 k).err≠0 then⟨[],(jD p li 5 k).err⟩ else⟨zO (header 6 li) (jD p li 5 k).box li,0⟩
def px(p:oW)(li:Bool)(k:Int):lX :=
 if (jD p li 6 k).err≠0 then⟨[],(jD p li 6 k).err⟩ else⟨zO (zO (header 7 li) (jD p li 6 k).text li) (jD p li 6 k).box li,0⟩
theorem ry(p:oW)(li:Bool):(dv p li).val.length<=1000:=by
 unfold dv;split
 ·exact Nat.zero_le _
 split
 ·exact Nat.zero_le _
 ·rename_i h _;obtain⟨z,hz,hl⟩:=zJ (aS (cond li 1 0) 1 Zz++aS p.data.length 2 li++p.data++aS p.tick 1 Zz++aS p.addr 4 li++aS p.time 4 li);simp only[hz,List.length_append,af];omega
theorem zw(kd k:Int)(b:Bytes):(fO kd k b).val.length<=1012:=by grind [ag,af,fO]
theorem qm(p:oW)(li:Bool)(kd k:Int):(jD p li kd k).text.length<=1000/\(jD p li kd k).box.length<=1012:=by
 unfold jD;split
 ·simp
 split
 ·simp
 ·exact⟨ry _ _,zw _ _ _⟩
structure Ig where
 val:Bytes
 next:Int
 ok:Bool
def fH(b:Bytes)(pos most:Int)(li:Bool):Ig :=
 if (get b pos 2 li).err≠0\/most<(get b pos 2 li).val then⟨[],0,Zz⟩
 else⟨(bytes b (get b pos 2 li).next (get b pos 2 li).val).val,(bytes b (get b pos 2 li).next (get b pos 2 li).val).next,(bytes b (get b pos 2 li).next (get b pos 2 li).val).err==0⟩
structure OU where
 kind:Int
 plain:Bytes
 iu:Bytes
 aq:Bool
 err:Int
def sT(b:Bytes):Ig:=cond ((dB b).kind==7) (fH b 2 1000 (bc b [6,7]).1) ⟨[],2,true⟩
def io(b:Bytes):OU :=
 if (bc b [6,7]).2≠0 then⟨0,[],[],Zz,(bc b [6,7]).2⟩
 else if (sT b).ok=true/\(fH b (sT b).next 1012 (bc b [6,7]).1).ok=true/\(fH b (sT b).next 1012 (bc b [6,7]).1).next=b.length then
  ⟨(dB b).kind,(sT b).val,(fH b (sT b).next 1012 (bc b [6,7]).1).val,(bc b [6,7]).1,0⟩
 else⟨0,[],[],Zz,100⟩
end Kerb
/- Data of the statements of chapter 23: databases, requests. -/
namespace Kerb
open Go Go.Abs
def fT.leq(x e:fT):Bool:=Op.bytesLess x.name e.name||(x.name==e.name&&(Op.bytesLess x.inst e.inst||x.inst==e.inst))
structure KAsk where
 op:UInt8
 user:UInt8
 service:UInt8
 aG:UInt8
 new:UInt8
 time:UInt8
 stop:UInt8
 cE:UInt8
 cj:UInt8
 address:UInt8
 VP:UInt8
 old:UInt8
 how:Int
namespace KAsk
def Uy(a:KAsk):Int:=1+mV a.op % 3
def w(a:KAsk):Int:=mV a.VP % 16
def tm(a:KAsk):Int:=1000+mV a.time
def Qp(l0 l1 l2:Bytes)(n:Int):Bytes:=if n=0 then l0 else if n=1 then l1 else l2
def label(a:KAsk):Bytes:=if a.w=1 then Qp lq g9 vB (a.Uy-1) else Qp vB lq g9 (a.Uy-1)
def HT(a:KAsk):fl :=
 if a.label=g9 then⟨a.label,a.tm,0,0,if a.w=2 then Kerb.aG 5 else qQ (30+mV a.new % 3)⟩
 else⟨a.label,a.tm,a.tm,a.tm+mV a.stop*50,0⟩
def body(a:KAsk):Bytes:=if a.w=3 then(aW a.HT).val++[0] else(aW a.HT).val
def u(a:KAsk):Int:=mV a.user % 3
def VJ(a:KAsk):dz :=
 ⟨Zz,if a.w=5 then Kerb.user (3+a.u) else Kerb.user a.u,mV a.address % 2,Kerb.aG (mV a.aG % 4),mV a.cj % 40,1000+mV a.cE,zm,if a.w=6 then[66,79,83] else[65,84,72]⟩
def iu(a:KAsk):Bytes:=(fz a.VJ (if a.w=8 then qQ 4 else qQ 3)).val
def want(a:KAsk):aZ:=if a.w=11 then WB [65,84,72] [66,79,83] else Kerb.service (mV a.service % 3)
def key(a:KAsk):Int :=
 if a.w=7 then qQ 99 else if a.Uy=2 then Kerb.aG (mV a.aG % 4) else if mV a.old % 4=3 then qQ (30+mV a.old / 4 % 3) else qQ a.u
def box(a:KAsk):Bytes:=(fO 7 a.key a.body).val
def SY(a:KAsk):dY :=
 if a.Uy=2 then⟨2,cY,if a.w=10 then 5 else 6,if a.w=9 then[66,79,83] else[65,84,72],a.iu,a.want.name,a.want.inst,a.box⟩
 else⟨a.Uy,if a.w=4 then Kerb.user (3+mV a.user % 6) else Kerb.user a.u,0,[],[],[],[],a.box⟩
def message(a:KAsk):Bytes:=if a.w=15 then qJ (aV a.SY).val a.how else(aV a.SY).val
end KAsk
namespace KAsk
end KAsk
end Kerb
/- The statements of chapter 23, plain: databases stay without an error. -/
namespace Kerb
open Go Go.Abs
structure OS (d d':Db):Prop where
 err:d'.err=0
 ok:d'.ok
 len:d'.entries.length=d.entries.length
 aJ:d'.aJ=d.aJ
theorem OS.trans{a b c:Db}(h:OS a b)(g:OS b c):OS a c:=⟨g.err,g.ok,g.len.trans h.len,g.aJ.trans h.aJ⟩
structure Kept (d:Db):Prop where
 err:d.err=0
 ok:d.ok
 all:(d.entries.map fT.av).all Pr=true
 len:d.entries.length<=60
 aJ:d.aJ.length<=39
theorem fT.ou{x y:fT}:(x.name==y.name&&(x.inst==y.inst&&(x.key==y.key&&(x.bP==y.bP&&(x.dZ==y.dZ&&(x.lv==y.lv&&(x.attr==y.attr&&(x.yI==y.yI&&x.H_==y.H_))))))))=true↔x=y:=by
 cases x;cases y;simp
end Kerb
/- Chapter 20: clients stay without an error. -/
namespace Kerb
open Go Go.Abs
theorem aZ.ou{p q:aZ}:p.qv q=true↔p=q:=by
 constructor
 ·intro h;obtain⟨a,b,c⟩:=p;obtain⟨d,e,f⟩:=q;simp only[aZ.qv,Zy,Qb0] at h;obtain⟨rfl,rfl,rfl⟩:=h;rfl
 ·rintro rfl;exact aZ.EG p
instance:DecidableEq aZ:=fun p q=>if h:p.qv q=true then isTrue (aZ.ou.1 h) else isFalse fun g=>h (aZ.ou.2 g)
def U7:List aZ:=[service 0,service 1,service 2,service 3,service 4,service 5,service 6,service 7,service 8]
end Kerb
