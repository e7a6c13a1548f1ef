/- Chapters 2, 4, 7, 10, 15 and 20, in plain words: lifetimes, boxes, authenticators, requests, caches, clients. -/
import Derived.Test.YteafbgcimcpfiaaGreatKerbKaRef
set_option linter.all false
open Bool renaming false→Zz,and_eq_true→Zy,not_eq_true'→Zw,not_eq_false→Zv
open Go.IntKind renaming bits→Zx
namespace Kerb
open Go Go.Abs
def aY.qt(p q:aY):Bool:=p.name==q.name&&(p.inst==q.inst&&p.aJ==q.aJ)
def V'(aJ target:Bytes):aY:=⟨[107,114,98,116,103,116],target,aJ⟩
def So(cD cj:Int):Int:=if within cD 4294967295&&within cj 255 then cD+300*(cj+1) else 0
def A4(a b eK:Int):Bool:=within a 4294967295&&within b 4294967295&&within eK 4294967295&&decide (a-b<=eK)&&decide (b-a<=eK)
def fN(kind k:Int)(body:Bytes):lW :=
 if !isKind kind then⟨[],104⟩ else if !bp k then⟨[],10⟩ else if 1000<body.length then⟨[],105⟩
 else⟨[66,UInt8.ofNat kind.toNat]++keyBytes k++aS body.length 2 Zz++body,0⟩
structure VD where
 kind:Int
 key:Int
 body:Bytes
structure QJ where
 box:VD
 n:Int
 err:Int
def Fp:VD:=⟨0,0,[]⟩
def og(b:Bytes):Nat:=(b.getD 10 0).toNat*256+(b.getD 11 0).toNat
def a_(b:Bytes):QJ :=
 if b.length<12 then⟨Fp,0,101⟩
 else if b.getD 0 0≠66\/isKind ((b.getD 1 0).toNat:Int)=Zz\/(fg (cut b 2 8)).2=Zz\/1000<og b then⟨Fp,0,100⟩
 else if b.length<12+og b then⟨Fp,0,101⟩
 else⟨⟨((b.getD 1 0).toNat:Int),(fg (cut b 2 8)).1,cut b 12 (og b)⟩,((12+og b:Nat):Int),0⟩
def jX(b:Bytes)(kind k:Int):Bytes×Bool :=
 if (a_ b).err≠0\/(a_ b).n≠b.length\/(a_ b).box.kind≠kind\/(a_ b).box.key≠k then([],Zz) else((a_ b).box.body,true)
structure lK where
 client:aY
 cO:Int
 tick:Int
 time:Int
def lK.check(a:lK):Int :=
 if !a.client.valid then 103 else if !(within a.cO 4294967295&&within a.tick 199&&within a.time 4294967295) then 104 else 0
def gL(a:lK)(aq:Bool):lW :=
 if a.check≠0 then⟨[],a.check⟩
 else⟨pad (cZ (aS (cond aq 1 0) 1 Zz) a.client++aS a.cO 4 aq++aS a.tick 1 Zz++aS a.time 4 aq),0⟩
def M8(a:lK)(aq:Bool)(k:Int):lW :=
 if (gL a aq).err≠0 then⟨[],(gL a aq).err⟩ else fN 2 k (gL a aq).val
structure cQ where
 aq:Bool
 gA:Bool
 bP:Int
 aJ:Bytes
 aM:Bytes
 fA:Bytes
def cI(r:cQ):lW :=
 if !cY r.aJ then⟨[],103⟩
 else if !within r.bP 255 then⟨[],104⟩
 else if 255<r.aM.length\/255<r.fA.length then⟨[],105⟩
 else⟨bg (header (cond r.gA 4 3) r.aq++aS r.bP 1 Zz) r.aJ++aS r.aM.length 1 Zz++aS r.fA.length 1 Zz++r.aM++r.fA,0⟩
structure ft where
 ap:cQ
 time:Int
 cj:Int
 service:Bytes
 inst:Bytes
def dN(r:ft):lW :=
 if r.ap.gA then⟨[],100⟩
 else if (cI r.ap).err≠0 then⟨[],(cI r.ap).err⟩
 else if !(validName r.service&&bO r.inst) then⟨[],103⟩
 else if !(within r.time 4294967295&&within r.cj 255) then⟨[],104⟩
 else⟨bg (bg ((cI r.ap).val++aS r.time 4 r.ap.aq++aS r.cj 1 Zz) r.service) r.inst,0⟩
structure eE where
 service:aY
 aG:Int
 cj:Int
 bP:Int
 cD:Int
 aM:Bytes
def eE.av(c:eE):AV := .agg [.str c.service.name,.str c.service.inst,.str c.service.aJ,.int .u64 c.aG,.int .i64 c.cj,.int .i64 c.bP,.int .i64 c.cD,.bs c.aM]
def rM:eE:=⟨cX,0,0,0,0,[]⟩
def eE.ok(c:eE):Prop:=c.service.name.length<=9223372036854775807/\c.service.inst.length<=9223372036854775807/\c.service.aJ.length<=9223372036854775807/\0<=c.aG/\c.aG<18446744073709551616/\c.aM.length<=9223372036854775807
def Iq(c:eE):Int :=
 if !c.service.valid then 103 else if !bp c.aG then 10
 else if !(within c.cj 255&&within c.bP 255&&within c.cD 4294967295) then 104
 else if 255<c.aM.length then 105 else 0
def Em:List eE->List eE->Int
 | _,[]=>0
 | seen,c::r=>if Iq c≠0 then Iq c else if seen.any (fun d=>d.service.qt c.service) then 107 else Em (seen++[c]) r
structure Cache where
 owner:aY
 qp:List eE
def Dg:Cache:=⟨cX,[]⟩
def Cache.err(c:Cache):Int:=if !c.owner.valid then 103 else if 20<c.qp.length then 106 else Em [] c.qp
def Lw(l:List eE)(s:aY):Nat:=l.findIdx fun d=>d.service.qt s
def IA(l:List eE)(s:aY):eE×Bool:=if Lw l s<l.length then(l.getD (Lw l s) rM,true) else(rM,Zz)
def eE.expired(c:eE)(now:Int):Bool:=decide (So c.cD c.cj<now)
def xd(c:Cache)(x:eE):DU Cache :=
 if c.err≠0 then⟨Dg,c.err⟩
 else if Cache.err ⟨c.owner,[x]⟩≠0 then⟨Dg,Cache.err ⟨c.owner,[x]⟩⟩
 else if 20<=(c.qp.filter fun d => !d.service.qt x.service).length then⟨Dg,106⟩
 else⟨⟨c.owner,(c.qp.filter fun d => !d.service.qt x.service)++[x]⟩,0⟩
structure Client where
 me:aY
 address:Int
 eK:Int
 aq:Bool
 cache:Cache
 wait:Int
 wanted:aY
 aG:Int
 time:Int
 cj:Int
 cO:Int
 tick:Int
def Cache.av(c:Cache):AV := .agg [.str c.owner.name,.str c.owner.inst,.str c.owner.aJ,.sl 8 (c.qp.map eE.av)]
def Client.av(c:Client):AV := .agg [.str c.me.name,.str c.me.inst,.str c.me.aJ,.int .i64 c.address,.int .i64 c.eK,.bool c.aq,.str c.cache.owner.name,.str c.cache.owner.inst,.str c.cache.owner.aJ,.sl 8 (c.cache.qp.map eE.av),.int .i64 c.wait,.str c.wanted.name,.str c.wanted.inst,.str c.wanted.aJ,.int .u64 c.aG,.int .i64 c.time,.int .i64 c.cj,.int .i64 c.cO,.int .i64 c.tick]
def Client.idle(c:Client):Client:=⟨c.me,c.address,c.eK,c.aq,c.cache,0,cX,0,0,0,0,0⟩
def Client.err(c:Client):Int :=
 if !c.me.valid then 103
 else if !(within c.address 4294967295&&within c.eK 4294967295) then 104
 else if !(decide (0<=c.wait)&&decide (c.wait<=3)) then 104
 else if c.cache.err≠0 then c.cache.err
 else if !c.cache.owner.qt c.me then 103 else 0
def pZ(me service:aY):aY:=V' me.aJ service.aJ
structure abU where
 c:Client
 msg:Bytes
 err:Int
structure abR where
 val:cQ
 err:Int
def A5:cQ:=⟨false,false,0,[],[],[]⟩
structure ade where
 c:Client
 msg:Bytes
 SY:eE
 fA:Bytes
 err:Int
def eE.same(a b:eE):Bool:=a.service.qt b.service&&a.aG==b.aG&&a.cj==b.cj&&a.bP==b.bP&&a.cD==b.cD&&a.aM==b.aM
def BX:List eE->List eE->Bool
 | [],[]=>true
 | a::r,b::q=>a.same b&&BX r q
 | _,_=>Zz
def Cache.same(a b:Cache):Bool:=a.owner.qt b.owner&&BX a.qp b.qp
def Client.same(a b:Client):Bool:=a.me.qt b.me&&a.address==b.address&&a.eK==b.eK&&a.aq==b.aq&&a.cache.same b.cache&&a.wait==b.wait&&a.wanted.qt b.wanted&&a.aG==b.aG&&a.time==b.time&&a.cj==b.cj&&a.cO==b.cO&&a.tick==b.tick
theorem uX(r:cQ):(cI r).val.length<=1000:=by
 unfold cI;split
 ·simp
 rename_i h1;split
 ·simp
 split
 ·simp
 rename_i h3;have l1:=gw (s:=r.aJ) (by simpa using h1);have g:=jg (cond r.gA 4 3) r.aq;simp[bH,af];omega
theorem KS(n:Nat):[UInt8.ofNat (Int.toNat (IntKind.wrap .u8 (Int.fdiv (n:Int) (2 ^ min (Int.toNat 8) (Zx .i64))))),UInt8.ofNat (Int.toNat (IntKind.wrap .u8 (n:Int)))]=aS n 2 Zz:=by
 have e:(2:Int) ^ min (Int.toNat 8) (Zx .i64)=256:=by decide
 rw[e,Int.fdiv_eq_ediv_of_nonneg _ (by decide),wrap_u8,wrap_u8];show _=[fG n 1,fG n 0];unfold fG;simp
def Client.kV(c:Client):Prop :=
 (c.me.name.length<=9223372036854775807/\c.me.inst.length<=9223372036854775807/\c.me.aJ.length<=9223372036854775807) /\
 (c.cache.owner.name.length<=9223372036854775807/\c.cache.owner.inst.length<=9223372036854775807/\c.cache.owner.aJ.length<=9223372036854775807) /\
 (∀ x∈c.cache.qp,x.ok)/\c.cache.qp.length<=1000000
theorem aY.EC(p:aY):p.qt p=true:=by simp[aY.qt]
end Kerb
/- Clients: what the statements of chapter 20 lean on. -/
namespace Kerb
open Go Go.Abs
end Kerb
/- Chapters 2 and 6: lifetimes that are granted, the state of a ticket, tickets. -/
namespace Kerb
open Go Go.Abs
def least(n:Int)(l:List Int):Int:=l.foldl tP n
def JB(now want:Int)(ends:List Int):Int×Bool :=
 if !within now 4294967295||decide (want<0) then(0,Zz)
 else if least (now+300*(tP want 255+1)) ends-now<300 then(0,Zz)
 else(tP ((least (now+300*(tP want 255+1)) ends-now) / 300-1) 255,true)
def GA(cD cj now eK:Int):Int :=
 if !(within cD 4294967295&&within now 4294967295&&within cj 255&&within eK 4294967295) then 104
 else if now+eK<cD then 33 else if So cD cj+eK<now then 32 else 0
def gx(k:Int):Int:=bif bp k then lg k else 0
def jP:dA:=⟨false,cX,0,0,0,0,[],[]⟩
def dA.err(t:dA):Int :=
 if !(t.client.valid&&(validName t.service&&bO t.inst)) then 103
 else if gx t.aG≠2 then 10
 else if !(within t.address 4294967295&&(within t.cj 255&&within t.cD 4294967295)) then 104 else 0
def bR(t:dA):lW :=
 if t.err≠0 then⟨[],t.err⟩
 else⟨pad (bg (bg (cZ (aS (cond t.aq 1 0) 1 Zz) t.client++aS t.address 4 t.aq++keyBytes t.aG++aS t.cj 1 Zz++aS t.cD 4 t.aq) t.service) t.inst),0⟩
def zQ(b:Bytes):dA :=
 let o:=get b 0 1 Zz
 let li:=o.val==1
 let p:=hY b o.next
 let a:=get b p.next 4 li
 let k:=bytes b a.next 8
 let l:=get b k.next 1 Zz
 let i:=get b l.next 4 li
 let s:=text b i.next
 ⟨li,p.val,a.val,(fg k.val).1,l.val,i.val,s.val,(text b s.next).val⟩
def cA(b:Bytes):DU dA :=
 if 1<(get b 0 1 Zz).val then⟨jP,7⟩ else iy jP bR (fun b=>(zQ b,Zz)) b
def fz(t:dA)(k:Int):lW:=if (bR t).err≠0 then⟨[],(bR t).err⟩ else fN 1 k (bR t).val
def fw(b:Bytes)(k:Int):DU dA:=if (jX b 1 k).2 then cA (jX b 1 k).1 else⟨jP,31⟩
theorem Ef{k:Int}(h:gx k=2):bp k=true:=by
 unfold gx at h;cases hk:bp k
 ·rw[hk] at h;simp at h
 ·rfl
theorem oJ{t:dA}(h:(bR t).err=0):t.client.valid=true/\validName t.service=true/\bO t.inst=true/\bp t.aG=true/\(0<=t.address/\t.address<=4294967295)/\(0<=t.cj/\t.cj<=255)/\(0<=t.cD/\t.cD<=4294967295) /\
  (bR t).val=pad (aS (cond t.aq 1 0) 1 Zz++(t.client.name++0::(t.client.inst++0::(t.client.aJ++0::(aS t.address 4 t.aq++(keyBytes t.aG++(aS t.cj 1 Zz++(aS t.cD 4 t.aq++(t.service++0::(t.inst++[0])))))))))):=by
 have he:t.err=0:=by
  unfold bR at h;split at h
  ·exact h
  ·rename_i hn;simpa using hn
 have hv:(bR t).val=pad (bg (bg (cZ (aS (cond t.aq 1 0) 1 Zz) t.client++aS t.address 4 t.aq++keyBytes t.aG++aS t.cj 1 Zz++aS t.cD 4 t.aq) t.service) t.inst):=by
  unfold bR;rw[Qa0 (by simpa using he)]
 unfold dA.err at he;split at he
 ·cases he
 rename_i h1;split at he
 ·cases he
 rename_i h2;split at he
 ·cases he
 rename_i h3;simp only[Bool.not_eq_true,Bool.not_eq_false',Zy,within_iff] at h1 h3;simp only[ne_eq,Decidable.not_not] at h2;refine⟨h1.1,h1.2.1,h1.2.2,Ef h2,h3.1,h3.2.1,h3.2.2,?_⟩;rw[hv];simp[bg,cZ]
theorem Dd{s:Bytes}(h:validName s=true):s.length<=39/\(0:UInt8) ∉ s:=by
 simp only[validName,Zy,Qa2] at h;exact⟨h.1.2,yc h.2⟩
theorem inst_ok{s:Bytes}(h:bO s=true):s.length<=39/\(0:UInt8) ∉ s:=by
 simp only[bO,Zy,Qa2] at h;exact⟨h.1,yc h.2⟩
theorem CM{t:dA}(h:(bR t).err≠0):(bR t).val=[]:=by grind [bR]
theorem AQ(t:dA):(bR t).val.length<=224:=by
 by_cases h:(bR t).err=0
 ·obtain⟨hc,hs,hn,hk,ha,hl,hd,hb⟩:=oJ h;have l1:=ch hc;have l2:=(Dd hs).1;have l3:=(inst_ok hn).1;rw[hb,sK];simp[af,ah];omega
 ·rw[CM h];simp
end Kerb
/- Chapter 25: records, parts and messages of version 5, in plain words. -/
namespace Kerb
open Go Go.Abs
structure D1 where
 client:aY
 service:aY
 aG:Int
 start:Int
 stop:Int
 addr:Int
structure uC where
 aG:Int
 service:aY
 start:Int
 stop:Int
 record:Bytes
structure DZ where
 op:Int
 name:aY
 box:Bytes
def period(a b:Int):Bool:=within a 4294967295&&within b 4294967295&&decide (a<=b)
def eN(r:D1):lW :=
 if !(r.client.valid&&r.service.valid) then⟨[],103⟩
 else if gx r.aG≠2 then⟨[],10⟩
 else if !(period r.start r.stop&&within r.addr 4294967295) then⟨[],104⟩
 else⟨pad (cZ (cZ [] r.client) r.service++keyBytes r.aG++aS r.start 4 Zz++aS r.stop 4 Zz++aS r.addr 4 Zz),0⟩
def dU(p:uC):lW :=
 if !bp p.aG then⟨[],10⟩
 else if !p.service.valid then⟨[],103⟩
 else if !period p.start p.stop then⟨[],104⟩
 else if 300<p.record.length then⟨[],105⟩
 else⟨pad (c6 (cZ (keyBytes p.aG) p.service++aS p.start 4 Zz++aS p.stop 4 Zz) p.record),0⟩
def eM(m:DZ):lW :=
 if !ld m.op then⟨[],40⟩
 else if !m.name.valid then⟨[],103⟩
 else if 1012<m.box.length then⟨[],105⟩
 else⟨c6 (cZ (header 10 Zz++aS m.op 1 Zz) m.name) m.box,0⟩
def MR:D1:=⟨cX,cX,0,0,0,0⟩
def I0:uC:=⟨0,cX,0,0,[]⟩
def HC:DZ:=⟨0,cX,[]⟩
def pc(b:Bytes)(k:Int)(pos:Int)(bad:Bool):Rd Int:=⟨(get b pos k Zz).val,cond ((get b pos k Zz).err==0) (get b pos k Zz).next pos,bad || !((get b pos k Zz).err==0)⟩
def m6(b:Bytes)(n:Int)(pos:Int)(bad:Bool):Rd Bytes:=⟨(bytes b pos n).val,cond ((bytes b pos n).err==0) (bytes b pos n).next pos,bad || !((bytes b pos n).err==0)⟩
def kR(b:Bytes)(pos:Int)(bad:Bool):Rd aY:=⟨(hY b pos).val,cond ((hY b pos).err==0) (hY b pos).next pos,bad || !((hY b pos).err==0)⟩
def xP(b:Bytes)(pos:Int)(bad:Bool):Rd Int:=⟨(fg (m6 b 8 pos bad).val).1,(m6 b 8 pos bad).pos,(m6 b 8 pos bad).bad || !(fg (m6 b 8 pos bad).val).2⟩
theorem xX(b:Bytes)(pos:Int)(bad:Bool):0<=(xP b pos bad).val/\(xP b pos bad).val<18446744073709551616:=l6 _
def Ux(b:Bytes):Rd D1 :=
 let c:=kR b 0 Zz
 let s:=kR b c.pos c.bad
 let k:=xP b s.pos s.bad
 let t:=pc b 4 k.pos k.bad
 let e:=pc b 4 t.pos t.bad
 let a:=pc b 4 e.pos e.bad
 ⟨⟨c.val,s.val,k.val,t.val,e.val,a.val⟩,a.pos,a.bad⟩
def Qs(b:Bytes):Rd uC :=
 let k:=xP b 0 Zz
 let s:=kR b k.pos k.bad
 let t:=pc b 4 s.pos s.bad
 let e:=pc b 4 t.pos t.bad
 let m:=pc b 2 e.pos e.bad
 let x:=m6 b m.val m.pos m.bad
 ⟨⟨k.val,s.val,t.val,e.val,x.val⟩,x.pos,x.bad⟩
def Uw(b:Bytes):Rd DZ :=
 let o:=pc b 1 2 Zz
 let n:=kR b o.pos o.bad
 let m:=pc b 2 n.pos n.bad
 let x:=m6 b m.val m.pos m.bad
 ⟨⟨o.val,n.val,x.val⟩,x.pos,x.bad⟩
def FG(b:Bytes):D1×Bool:=((Ux b).val,(Ux b).bad)
def BV(b:Bytes):uC×Bool:=((Qs b).val,(Qs b).bad)
def FF(b:Bytes):DZ×Bool:=((Uw b).val,(Uw b).bad)
def dT(b:Bytes):DU D1:=iy MR eN FG b
def dp(b:Bytes):DU uC:=iy I0 dU BV b
def fu(b:Bytes):DU DZ :=
 if (bc b [10]).2≠0 then⟨HC,(bc b [10]).2⟩ else iy HC eM FF b
theorem zI{a b:Int}:period a b=true↔(0<=a/\a<=4294967295)/\(0<=b/\b<=4294967295)/\a<=b:=by simp[period,within_iff,and_assoc]
theorem Eg{k:Int}(h:gx k=2):bp k=true:=by
 unfold gx at h;cases hk:bp k
 ·rw[hk] at h;cases h
 ·rfl
theorem EA{r:D1}(h:(eN r).err=0):r.client.valid=true/\r.service.valid=true/\bp r.aG=true/\(0<=r.start/\r.start<=4294967295)/\(0<=r.stop/\r.stop<=4294967295)/\(0<=r.addr/\r.addr<=4294967295) /\
  ∃ z,(eN r).val=r.client.name++0::(r.client.inst++0::(r.client.aJ++0::(r.service.name++0::(r.service.inst++0::(r.service.aJ++0::(keyBytes r.aG++(aS r.start 4 Zz++(aS r.stop 4 Zz++(aS r.addr 4 Zz++z)))))))))/\z.length<=7:=by
 unfold eN at h ⊢;split at h
 ·cases h
 rename_i g0;rw[Qa0 g0];split at h
 ·cases h
 rename_i g1;rw[Qa0 g1];split at h
 ·cases h
 rename_i g2;rw[Qa0 g2];simp only[Zw,Zv,Zy,zI,within_iff] at g0 g2;obtain⟨z,hz,hl⟩:=zG (cZ (cZ [] r.client) r.service++keyBytes r.aG++aS r.start 4 Zz++aS r.stop 4 Zz++aS r.addr 4 Zz);refine⟨g0.1,g0.2,Eg (by omega),g2.1.1,g2.1.2.1,g2.2,z,?_,hl⟩;rw[hz];simp[cZ,bg]
theorem CK{p:uC}(h:(dU p).err=0):bp p.aG=true/\p.service.valid=true/\(0<=p.start/\p.start<=4294967295)/\(0<=p.stop/\p.stop<=4294967295)/\p.record.length<=300 /\
  ∃ z,(dU p).val=keyBytes p.aG++(p.service.name++0::(p.service.inst++0::(p.service.aJ++0::(aS p.start 4 Zz++(aS p.stop 4 Zz++(aS p.record.length 2 Zz++(p.record++z)))))))/\z.length<=7:=by
 unfold dU at h ⊢;split at h
 ·cases h
 rename_i g0;rw[Qa0 g0];split at h
 ·cases h
 rename_i g1;rw[Qa0 g1];split at h
 ·cases h
 rename_i g2;rw[Qa0 g2];split at h
 ·cases h
 rename_i g3;rw[Qa0 g3];simp only[Zw,Zv,zI] at g0 g1 g2;obtain⟨z,hz,hl⟩:=zG (c6 (cZ (keyBytes p.aG) p.service++aS p.start 4 Zz++aS p.stop 4 Zz) p.record);refine⟨g0,g1,g2.1,g2.2.1,by omega,z,?_,hl⟩;rw[hz];simp[cZ,bg,c6]
theorem Ey{m:DZ}(h:(eM m).err=0):(1<=m.op/\m.op<=3)/\m.name.valid=true/\m.box.length<=1012 /\
  (eM m).val=header 10 Zz++(aS m.op 1 Zz++(m.name.name++0::(m.name.inst++0::(m.name.aJ++0::(aS m.box.length 2 Zz++(m.box++[])))))):=by
 unfold eM at h ⊢;split at h
 ·cases h
 rename_i g0;rw[Qa0 g0];split at h
 ·cases h
 rename_i g1;rw[Qa0 g1];split at h
 ·cases h
 rename_i g2;rw[Qa0 g2];simp only[Zw,Zv,vn] at g0 g1;exact⟨by omega,g1,by omega,by simp[cZ,bg,c6]⟩
end Kerb
/- Chapter 20: what a client makes of replies and answers. -/
namespace Kerb
open Go Go.Abs
structure Rcv where
 c:Client
 SY:eE
 err:Int
def Dy(c:Client)(k:Int):Int:=if c.wait=2 then(IA c.cache.qp (pZ c.me c.wanted)).1.aG else k
def qi(c:Client)(k:Int)(msg:Bytes):Ih :=
 if (bK msg).err≠0 then⟨rN,(bK msg).err⟩
 else if !(bK msg).val.client.qt c.me || !((bK msg).val.time==c.time) then⟨rN,63⟩
 else if c.wait=2/\(IA c.cache.qp (pZ c.me c.wanted)).2=Zz then⟨rN,76⟩
 else if (jX (bK msg).val.io 3 (Dy c k)).2=Zz then⟨rN,62⟩
 else if (ca (jX (bK msg).val.io 3 (Dy c k)).1 (bK msg).val.aq).err≠0 \/
   (ca (jX (bK msg).val.io 3 (Dy c k)).1 (bK msg).val.aq).val.service.qt c.wanted=Zz then⟨rN,63⟩
 else⟨(ca (jX (bK msg).val.io 3 (Dy c k)).1 (bK msg).val.aq).val,0⟩
def rR(p:gG):eE:=⟨p.service,p.aG,p.cj,p.bP,p.time,p.aM⟩
def V9(c:Client)(k:Int)(msg:Bytes)(now:Int):Rcv :=
 if c.err≠0\/(c.wait≠1/\c.wait≠2) then⟨c,rM,108⟩
 else if (rh msg).err=0 then
  if (rh msg).val.client.qt c.me=Zz then⟨c,rM,63⟩ else⟨c.idle,rM,(rh msg).val.code⟩
 else if (qi c k msg).err≠0 then⟨c,rM,(qi c k msg).err⟩
 else if A4 (qi c k msg).val.time now c.eK=Zz then⟨c,rM,37⟩
 else if (xd c.cache (rR (qi c k msg).val)).err≠0 then⟨c,rM,(xd c.cache (rR (qi c k msg).val)).err⟩
 else⟨{ c.idle with cache:=(xd c.cache (rR (qi c k msg).val)).val },rR (qi c k msg).val,0⟩
def Js(client service:aY)(aG mi:Int)(aq:Bool)(time now cj:Int):Bytes :=
 (dV ⟨aq,client,time,0,0,(fN 3 mi (cW ⟨aG,service,cj,2,[1,2,3],now⟩ aq).val).val⟩).val
structure GI where
 kind:UInt8
 client:UInt8
 service:UInt8
 time:UInt8
 now:UInt8
 aq:Bool
 mi:UInt8
 how:Int
def GI.av(x:GI):AV := .agg [.u8 x.kind,.u8 x.client,.u8 x.service,.u8 x.time,.u8 x.now,.bool x.aq,.u8 x.mi,.int .u16 x.how]
structure GQ where
 cO:Int
 tick:Int
 time:Int
def eI(m:GQ)(aq:Bool):lW :=
 if !(within m.cO 4294967295&&within m.tick 199&&within m.time 4294967295) then⟨[],104⟩
 else⟨pad (aS (cond aq 1 0) 1 Zz++aS m.cO 4 aq++aS m.tick 1 Zz++aS m.time 4 aq),0⟩
theorem QZ(b:Bytes):List.drop (Int.toNat 2) (List.take (Int.toNat 10) b)=cut b 2 8:=by
 show List.drop 2 (List.take 10 b)=List.take 8 (List.drop 2 b);rw[List.drop_take]
theorem QY(b:Bytes)(n:Nat):List.drop (Int.toNat 12) (List.take (Int.toNat (12+(n:Int))) b)=cut b 12 n:=by
 have e:Int.toNat (12+(n:Int))=12+n:=by omega
 rw[e];show List.drop 12 (List.take (12+n) b)=List.take n (List.drop 12 b);rw[List.drop_take];congr 1;omega
theorem Iv(b:Bytes)(p n:Int):(cut b p n).length<=b.length:=by unfold cut;simp;omega
theorem PW(x y:UInt8):IntKind.wrap .i64 (↑(BitVec.toNat (BitVec.ofInt (Zx .i64) (IntKind.wrap .i64 (IntKind.wrap .i64 (↑x.toNat:Int)*(2:Int) ^ min (Int.toNat (8:Int)) (Zx .i64))) ||| BitVec.ofInt (Zx .i64) (IntKind.wrap .i64 (↑y.toNat:Int)))):Int)=((x.toNat*256+y.toNat:Nat):Int):=by
 have hx:=x.toNat_lt;have hy:=y.toNat_lt;have e1:(2:Int) ^ min (Int.toNat (8:Int)) (Zx .i64)=256:=by decide
 rw[e1,wrap_i64 (n:=(x.toNat:Int)) (by omega) (by omega),wrap_i64 (n:=(y.toNat:Int)) (by omega) (by omega),wrap_i64 (n:=(x.toNat:Int)*256) (by omega) (by omega)];have e2:BitVec.toNat (BitVec.ofInt (Zx .i64) ((x.toNat:Int)*256) ||| BitVec.ofInt (Zx .i64) (y.toNat:Int))=x.toNat*256+y.toNat:=by
  rw[BitVec.toNat_or];have f1:(BitVec.ofInt (Zx .i64) ((x.toNat:Int)*256)).toNat=2 ^ 8*x.toNat:=by
   rw[BitVec.toNat_ofInt];show(((x.toNat:Int)*256) % ((2 ^ 64:Nat):Int)).toNat=_;rw[Int.emod_eq_of_lt (by omega) (by omega)];omega
  have f2:(BitVec.ofInt (Zx .i64) (y.toNat:Int)).toNat=y.toNat:=by
   rw[BitVec.toNat_ofInt];show((y.toNat:Int) % ((2 ^ 64:Nat):Int)).toNat=_;rw[Int.emod_eq_of_lt (by omega) (by omega)];omega
  rw[f1,f2,<-Nat.two_pow_add_eq_or_of_lt (by omega)];omega
 rw[e2,wrap_i64 (by omega) (by omega)]
theorem KT(x:UInt8):IntKind.wrap .i64 (↑x.toNat:Int)=(x.toNat:Int):=by
 have hx:=x.toNat_lt;exact wrap_i64 (by omega) (by omega)
end Kerb
namespace Kerb
open Go Go.Abs
end Kerb
namespace Kerb
open Go Go.Abs
def m8(x:UInt8):UInt8:=UInt8.ofNat (Int.toNat (Int.tmod (↑x.toNat:Int) (↑(8:UInt8).toNat:Int)))
def d8(x:UInt8):Int:=IntKind.wrap .i64 (↑(UInt8.ofNat (Int.toNat (IntKind.wrap .u8 (Int.tdiv (↑x.toNat:Int) (↑(8:UInt8).toNat:Int))))).toNat:Int)
theorem QE(x:UInt8):0<=IntKind.wrap .i64 (↑x.toNat:Int)/\IntKind.wrap .i64 (↑x.toNat:Int)<=255:=by
 have h:=x.toNat_lt;rw[wrap_i64 (by omega) (by omega)];omega
def GI.me(x:GI)(c:Client):aY:=cond (m8 x.client==7) (user (d8 x.client)) c.me
def GI.wanted(x:GI)(c:Client):aY:=cond (m8 x.service==7) (Kerb.service (d8 x.service)) c.wanted
def GI.at'(x:GI)(c:Client):Int:=cond (m8 x.time==7) (IntKind.wrap .i64 (↑x.time.toNat:Int)) c.time
def GI.key(x:GI)(k:Int):Int:=cond (m8 x.mi==7) (aG (d8 x.mi)) k
def GI.code(x:GI):Int:=IntKind.wrap .i64 (↑(UInt8.ofNat (Int.toNat (IntKind.wrap .u8 ((↑(1:UInt8).toNat:Int)+(↑(UInt8.ofNat (Int.toNat (IntKind.wrap .u8 (Int.tdiv (↑x.kind.toNat:Int) (↑(8:UInt8).toNat:Int))))).toNat:Int))))).toNat:Int)
def GI.rep(x:GI)(c:Client)(k:Int):Bytes :=
 Js (x.me c) (x.wanted c) (aG 50) (x.key k) x.aq (x.at' c) (IntKind.wrap .i64 (1000+IntKind.wrap .i64 (IntKind.wrap .i64 (↑x.now.toNat:Int)*4))) 100
def GI.text(x:GI)(c:Client)(k:Int):Bytes :=
 cond (m8 x.kind==7) (oo ⟨x.aq,x.me c,9,x.code,[]⟩).val (cond (m8 x.kind==6) (qG (x.rep c k) x.how) (x.rep c k))
end Kerb
namespace Kerb
open Go Go.Abs
def gG.ok(p:gG):Prop:=(rR p).ok/\p.aM.length<=255
end Kerb
namespace Kerb
open Go Go.Abs
end Kerb
/- Chapters 10, 18, 20: the answer of a service, and what a client makes of it. -/
namespace Kerb
open Go Go.Abs
def dM(s:Bytes)(li:Bool):lW :=
 if 1012<s.length then⟨[],105⟩ else⟨header 8 li++aS s.length 2 li++s,0⟩
def yf(b:Bytes)(li:Bool):Bytes:=let n:=get b 2 2 li;(bytes b n.next n.val).val
structure QG where
 val:Bytes
 aq:Bool
 err:Int
def ju(b:Bytes):QG :=
 if (bc b [8]).2≠0 then⟨[],Zz,(bc b [8]).2⟩
 else if (iy [] (fun s=>dM s (bc b [8]).1) (fun b'=>(yf b' (bc b [8]).1,Zz)) b).err=0 then
  ⟨(iy [] (fun s=>dM s (bc b [8]).1) (fun b'=>(yf b' (bc b [8]).1,Zz)) b).val,(bc b [8]).1,0⟩ else⟨[],Zz,100⟩
theorem QO{s:Bytes}{li:Bool}(h:(dM s li).err=0):(dM s li).val=header 8 li++(aS s.length 2 li++(s++[]))/\s.length<=1012:=by grind [dM]
theorem JF(li:Bool):(header 8 li).length=2:=by cases li<;>rfl
def vA(n:Int):Int:=(n+1) % 4294967296
def A9(aG cO time tick:Int)(li:Bool):lW :=
 if (eI ⟨vA cO,tick,time⟩ li).err≠0 then⟨[],(eI ⟨vA cO,tick,time⟩ li).err⟩
 else if (fN 4 aG (eI ⟨vA cO,tick,time⟩ li).val).err≠0 then⟨[],(fN 4 aG (eI ⟨vA cO,tick,time⟩ li).val).err⟩
 else dM (fN 4 aG (eI ⟨vA cO,tick,time⟩ li).val).val li
structure Wo where
 c:Client
 err:Int
theorem AO(b:Bytes):(ju b).val.length<=1012:=by
 unfold ju;split
 ·simp
 split
 ·rename_i h0 h;unfold iy at h ⊢;split at h
  ·cases h
  ·rename_i h2;rw[Qa0 h2];exact(QO (Decidable.byContradiction fun x=>h2 (.inr (.inl x)))).2
 ·simp
end Kerb
/- Chapters 12 and 14: the principals of a realm, keys between realms. -/
namespace Kerb
open Go Go.Abs
structure fT where
 name:Bytes
 inst:Bytes
 key:Int
 bP:Int
 d_:Int
 lq:Int
 attr:Int
 yF:Int
 Ia:Int
def noEntry:fT:=⟨[],[],0,0,0,0,0,0,0⟩
def fT.av(e:fT):AV := .agg [.str e.name,.str e.inst,.int .u64 e.key,.int .i64 e.bP,.int .i64 e.d_,.int .i64 e.lq,.int .i64 e.attr,.int .i64 e.yF,.int .i64 e.Ia]
def m9(n:Int):Bool:=decide (-9223372036854775808<=n)&&decide (n<=9223372036854775807)
def Bw(n:Int):Bool:=decide (0<=n)&&decide (n<18446744073709551616)
def Px:AV->Bool
 | .agg [.str n,.str i,.int .u64 k,.int .i64 v,.int .i64 x,.int .i64 m,.int .i64 a,.int .i64 f,.int .i64 t] =>
  decide (n.length<=9223372036854775807)&&decide (i.length<=9223372036854775807)&&Bw k&&m9 v&&m9 x&&m9 m&&m9 a&&m9 f&&m9 t
 | _=>Zz
def fT.ok(e:fT):Prop:=e.name.length<=9223372036854775807/\e.inst.length<=9223372036854775807/\Bw e.key=true/\m9 e.bP=true/\m9 e.d_=true/\m9 e.lq=true/\m9 e.attr=true/\m9 e.yF=true/\m9 e.Ia=true
def fT.err(e:fT):Int :=
 if !(validName e.name&&bO e.inst) then 103
 else if e.key≠0/\bp e.key=Zz then 10
 else if !(within e.bP 255&&(within e.d_ 4294967295&&within e.Ia 4294967295)) then 104
 else if !(within e.lq 255&&(within e.attr 3&&within e.yF 20)) then 104 else 0
def fT.less(a b:fT):Bool:=Op.bytesLess a.name b.name||(a.name==b.name&&Op.bytesLess a.inst b.inst)
def yD:Option fT->List fT->Int
 | _,[]=>0
 | p,e::r=>if e.err≠0 then e.err else if (match p with | some q=>e.less q | none=>Zz) then 110 else yD (some e) r
structure Db where
 aJ:Bytes
 entries:List fT
def fT.qt(a b:fT):Bool:=a.name==b.name&&(a.inst==b.inst&&(a.key==b.key&&(a.bP==b.bP&&(a.d_==b.d_&&(a.lq==b.lq&&(a.attr==b.attr&&(a.yF==b.yF&&a.Ia==b.Ia)))))))
def FM:List fT->List fT->Bool
 | [],[]=>true
 | a::l,b::r=>a.qt b&&FM l r
 | _,_=>Zz
def Db.same(a b:Db):Bool:=a.aJ==b.aJ&&FM a.entries b.entries
theorem fT.EC(a:fT):a.qt a=true:=by simp[fT.qt]
def Db.err(d:Db):Int:=if !cY d.aJ then 103 else if 60<d.entries.length then 106 else yD none d.entries
def fT.named(n i:Bytes)(e:fT):Bool:=e.name==n&&e.inst==i
def jU(l:List fT)(n i:Bytes):Int×Int :=
 if l.countP (fT.named n i)=0 then(0,8) else if 1<l.countP (fT.named n i) then(0,9) else((l.findIdx (fT.named n i):Int),0)
def SW(a b:Int):Int:=IntKind.wrap .i64 ((BitVec.ofInt 64 a &&& BitVec.ofInt 64 b).toNat:Int)
def OH(d:Db)(n i:Bytes)(now bit expired QT:Int):Int×Int :=
 if (jU d.entries n i).2≠0 then(0,(jU d.entries n i).2)
 else if bp (d.entries.getD (jU d.entries n i).1.toNat noEntry).key=Zz then(0,10)
 else if (d.entries.getD (jU d.entries n i).1.toNat noEntry).d_≠0/\(d.entries.getD (jU d.entries n i).1.toNat noEntry).d_<=now then(0,expired)
 else if SW (d.entries.getD (jU d.entries n i).1.toNat noEntry).attr bit≠0 then(0,QT)
 else((jU d.entries n i).1,0)
def o0(d:Db)(n i:Bytes)(now:Int):Int×Int:=OH d n i now 1 1 5
def mj(d:Db)(n i:Bytes)(now:Int):Int×Int:=OH d n i now 2 2 6
structure mD where
 source:Bytes
 target:Bytes
 bP:Int
 key:Int
def nj:mD:=⟨[],[],0,0⟩
def mD.av(c:mD):AV := .agg [.str c.source,.str c.target,.int .i64 c.bP,.int .u64 c.key]
def Cy(l:List mD)(a b:Bytes):Nat->Option Nat
 | 0=>none
 | i+1=>cond ((l.getD i nj).source==a&&((l.getD i nj).target==b&&(match Cy l a b i with | some j=>decide ((l.getD j nj).bP<(l.getD i nj).bP) | none=>true))) (some i) (Cy l a b i)
def wF(l:List mD)(a b:Bytes):Int×Bool:=match Cy l a b l.length with | some i=>((i:Int),true) | none=>(0,Zz)
end Kerb
/- Chapter 24: clients of kaservers, in plain words. -/
namespace Kerb
open Go Go.Abs
structure K7 where
 op:Int
 time:Int
 start:Int
 stop:Int
 service:aY
 aG:Int
 new:Int
structure Ws where
 w:K7
 msg:Bytes
 err:Int
structure abT where
 c:Client
 w:K7
 SY:eE
 err:Int
structure Wt where
 op:UInt8
 label:UInt8
 time:UInt8
 service:UInt8
 key:UInt8
 code:UInt8
 start:Int
 stop:Int
 how:Int
end Kerb
/- Chapters 17 and 23: tickets that are granted, the servers of AFS. -/
namespace Kerb
open Go Go.Abs
def zj:Bytes:=[107,114,98,116,103,116]
structure WB where
 key:Int
 bP:Int
 cj:Int
 d_:Int
 err:Int
def DL(d:Db)(dI:List mD)(n i:Bytes)(now:Int):WB :=
 if n==zj&&(cY i && !(i==d.aJ)) then
  (if (wF dI d.aJ i).2 then⟨(dI.getD (wF dI d.aJ i).1.toNat nj).key,(dI.getD (wF dI d.aJ i).1.toNat nj).bP,255,0,0⟩ else⟨0,0,0,0,8⟩)
 else if (mj d n i now).2≠0 then⟨0,0,0,0,(mj d n i now).2⟩
 else⟨(d.entries.getD (mj d n i now).1.toNat noEntry).key,(d.entries.getD (mj d n i now).1.toNat noEntry).bP,(d.entries.getD (mj d n i now).1.toNat noEntry).lq,(d.entries.getD (mj d n i now).1.toNat noEntry).d_,0⟩
structure xe where
 kind:Int
 server:aY
 client:aY
 service:aY
 aG:Int
 mi:Int
 pZ:Int
 text:Bytes
 cD:Int
 stop:Int
def lv:xe:=⟨0,cX,cX,cX,0,0,0,[],0,0⟩
def xe.cs(x:xe):List AV:=[.int .i64 x.kind,.str x.server.name,.str x.server.inst,.str x.server.aJ,.str x.client.name,.str x.client.inst,.str x.client.aJ,.str x.service.name,.str x.service.inst,.str x.service.aJ,.int .u64 x.aG,.int .u64 x.mi,.int .u64 x.pZ,.bs x.text,.int .i64 x.cD,.int .i64 x.stop]
def xe.same(a b:xe):Bool:=a.kind==b.kind&&(a.server.qt b.server&&(a.client.qt b.client&&(a.service.qt b.service&&(a.aG==b.aG&&(a.mi==b.mi&&(a.pZ==b.pZ&&(a.text==b.text&&(a.cD==b.cD&&a.stop==b.stop))))))))
structure OY where
 iA:xe
 part:gG
 err:Int
def pf(aq:Bool)(client service:aY)(address now cj aG:Int):dA:=⟨aq,client,address,aG,cj,now,service.name,service.inst⟩
def tg(aJ:Bytes)(client service:aY)(address:Int)(aq:Bool)(now cj aG mi target bP:Int):OY :=
 if (fz (pf aq client service address now cj aG) target).err≠0 then⟨lv,rN,(fz (pf aq client service address now cj aG) target).err⟩
 else if (cW ⟨aG,service,cj,bP,(fz (pf aq client service address now cj aG) target).val,now⟩ aq).err≠0 then
  ⟨lv,rN,(cW ⟨aG,service,cj,bP,(fz (pf aq client service address now cj aG) target).val,now⟩ aq).err⟩
 else⟨⟨0,V' aJ aJ,client,service,aG,mi,0,(fz (pf aq client service address now cj aG) target).val,now,So now cj⟩,⟨aG,service,cj,bP,(fz (pf aq client service address now cj aG) target).val,now⟩,0⟩
def refuse(client:aY)(code now:Int)(aq:Bool):Bytes:=(oo ⟨aq,client,now,code,message code⟩).val
structure SQ where
 db:Db
 answer:Bytes
 iA:xe
 ok:Bool
def gU(d:Db)(i:Int):fT:=d.entries.getD i.toNat noEntry
def fh.bd(s:fh):Prop:=(0<=s.time/\s.time<=4294967295)/\(0<=s.stop/\s.stop<=4294967295)/\0<=s.new/\s.new<18446744073709551616
def dA.bd(t:dA):Prop:=t.client.name.length<=40/\t.client.inst.length<=40/\t.client.aJ.length<=40/\Bw t.aG=true
def Db.ok(d:Db):Prop:=∀ e∈d.entries,e.ok
def dZ.bd(r:dZ):Prop:=(r.user.name.length<=40/\r.user.inst.length<=40/\r.user.aJ.length<=40/\r.aJ.length<=40/\r.service.length<=40/\r.inst.length<=40)/\ld r.op=true/\r.aM.length<=255/\r.box.length<=1012
end Kerb
/- Chapters 7, 10, 13, 16, 18: what is decoded, keys of services, replay caches, services that verify. -/
namespace Kerb
open Go Go.Abs
def qd:lK:=⟨cX,0,0,0⟩
def M4(b:Bytes)(li:Bool):lK :=
 let p:=hY b 1
 let c:=get b p.next 4 li
 let t:=get b c.next 1 Zz
 ⟨p.val,c.val,t.val,(get b t.next 4 li).val⟩
def yv(b:Bytes)(li:Bool):DU lK:=iy qd (fun a=>gL a li) (fun b=>(M4 b li,Zz)) b
def rQ(b:Bytes)(li:Bool)(k:Int):DU lK :=
 if (jX b 2 k).2=Zz then⟨qd,31⟩
 else if (yv (jX b 2 k).1 li).err≠0 then⟨qd,31⟩ else⟨(yv (jX b 2 k).1 li).val,0⟩
structure SP where
 val:cQ
 next:Int
def lE(b:Bytes):SP :=
 let k:=get b 2 1 Zz
 let s:=text b k.next
 let n:=get b s.next 1 Zz
 let m:=get b n.next 1 Zz
 let t:=bytes b m.next n.val
 let a:=bytes b t.next m.val
 ⟨⟨(dC b).aq,(dC b).kind==4,k.val,s.val,t.val,a.val⟩,a.next⟩
def fU(b:Bytes):DU cQ :=
 if (bc b [3,4]).2≠0 then⟨A5,(bc b [3,4]).2⟩ else iy A5 cI (fun b=>((lE b).val,Zz)) b
theorem Lg{r:cQ}(h:(cI r).err=0):(cI r).val=header (cond r.gA 4 3) r.aq++(aS r.bP 1 Zz++(r.aJ++0::(aS r.aM.length 1 Zz++(aS r.fA.length 1 Zz++(r.aM++(r.fA++[])))))) /\
  (r.aJ.length<=39/\(0:UInt8) ∉ r.aJ)/\(0<=r.bP/\r.bP<=255)/\r.aM.length<=255/\r.fA.length<=255:=by
 unfold cI at h ⊢;split at h
 ·cases h
 rename_i h1;rw[Qa0 h1];split at h
 ·cases h
 rename_i h2;rw[Qa0 h2];split at h
 ·cases h
 rename_i h3;rw[Qa0 h3];simp only[Zw,Zv,within_iff] at h1 h2;refine⟨by unfold bg;simp only[List.append_assoc,List.singleton_append,List.cons_append,List.nil_append,List.append_nil],?_,h2,by omega,by omega⟩;simp only[cY,Zy] at h1;exact inst_ok' h1.2 where
 inst_ok' {s:Bytes} (h:bO s=true):s.length<=39/\(0:UInt8) ∉ s:=by
  simp only[bO,Zy,Qa2] at h;exact⟨h.1,fun hm=>by
   have:=h.2;simp only[dO,List.all_eq_true] at this;exact absurd (this 0 hm) (by decide)⟩
structure n_ where
 service:aY
 bP:Int
 key:Int
def RW:n_:=⟨cX,0,0⟩
def n_.av(c:n_):AV := .agg [.str c.service.name,.str c.service.inst,.str c.service.aJ,.int .i64 c.bP,.int .u64 c.key]
def n_.ok(c:n_):Prop:=c.service.name.length<=9223372036854775807/\c.service.inst.length<=9223372036854775807/\c.service.aJ.length<=9223372036854775807/\m9 c.bP=true/\Bw c.key=true
def n_.qt(a b:n_):Bool:=a.service.name==b.service.name&&(a.service.inst==b.service.inst&&(a.service.aJ==b.service.aJ&&(a.bP==b.bP&&a.key==b.key)))
def n_.is(p:aY)(v:Int)(x:n_):Bool:=x.service.qt p&&x.bP==v
def UW(l:List n_)(p:aY)(v:Int):Nat:=l.findIdx (n_.is p v)
def jH(l:List n_)(p:aY)(v:Int):Int×Bool:=if UW l p v<l.length then((l.getD (UW l p v) RW).key,true) else(0,Zz)
def n_.err(x:n_):Int:=if !x.service.valid then 103 else if !within x.bP 255 then 104 else if !bp x.key then 10 else 0
def Ni:List n_->List n_->Int
 | _,[]=>0
 | seen,c::r=>if c.err≠0 then c.err else if seen.any (n_.is c.service c.bP) then 107 else Ni (seen++[c]) r
def QA(l:List n_):Int:=if 60<l.length then 106 else Ni [] l
def B2:List n_->List n_->Bool
 | [],[]=>true
 | a::l,b::r=>a.qt b&&B2 l r
 | _,_=>Zz
structure Mark where
 client:aY
 time:Int
 tick:Int
def Mark.av(m:Mark):AV := .agg [.str m.client.name,.str m.client.inst,.str m.client.aJ,.int .i64 m.time,.int .i64 m.tick]
def Mark.ok(m:Mark):Prop:=m.client.name.length<=9223372036854775807/\m.client.inst.length<=9223372036854775807/\m.client.aJ.length<=9223372036854775807/\m9 m.time=true/\m9 m.tick=true
def Mark.qt(a b:Mark):Bool:=a.client.name==b.client.name&&(a.client.inst==b.client.inst&&(a.client.aJ==b.client.aJ&&(a.time==b.time&&a.tick==b.tick)))
theorem Mark.oq{a b:Mark}:a.qt b=true↔a=b:=by
 obtain⟨⟨a1,a2,a3⟩,a4,a5⟩:=a;obtain⟨⟨b1,b2,b3⟩,b4,b5⟩:=b;simp[Mark.qt,and_assoc]
def ve(l:List Mark)(m:Mark):Bool:=l.any fun x=>x.qt m
structure nH where
 size:Int
 floor:Int
 marks:List Mark
def Kb:nH:=⟨0,0,[]⟩
def Mark.err(floor:Int)(m:Mark):Int :=
 if !m.client.valid then 103 else if !(decide (floor<=m.time)&&decide (m.time<=4294967295)&&within m.tick 199) then 104 else 0
def Fi(floor:Int):List Mark->List Mark->Int
 | _,[]=>0
 | seen,c::r=>if c.err floor≠0 then c.err floor else if ve seen c then 107 else Fi floor (seen++[c]) r
def nH.err(r:nH):Int :=
 if !(decide (1<=r.size)&&decide (r.size<=40)&&within r.floor 4294967295) then 104 else if r.size<r.marks.length then 106 else Fi r.floor [] r.marks
def nQ(r:nH)(now eK:Int):List Mark:=r.marks.filter fun x=>decide (imax r.floor (now-eK)<=x.time)
def mq(r:nH)(m:Mark)(now eK:Int):DU nH :=
 if r.err≠0 then⟨Kb,108⟩ else if !m.client.valid then⟨Kb,103⟩ else if !within m.tick 199 then⟨Kb,104⟩
 else if A4 m.time now eK=Zz\/m.time<r.floor then⟨Kb,37⟩ else if ve r.marks m then⟨Kb,34⟩
 else if r.size<=(nQ r now eK).length then⟨Kb,82⟩
 else⟨⟨r.size,imax r.floor (now-eK),nQ r now eK++[m]⟩,0⟩
def BZ:List Mark->List Mark->Bool
 | [],[]=>true
 | a::l,b::r=>a.qt b&&BZ l r
 | _,_=>Zz
def nH.same(a b:nH):Bool:=a.size==b.size&&(a.floor==b.floor&&BZ a.marks b.marks)
structure Server where
 me:aY
 keys:List n_
 replay:nH
 eK:Int
structure nF where
 client:aY
 aG:Int
 address:Int
 cO:Int
 time:Int
 tick:Int
 cD:Int
 cj:Int
 aM:Bytes
 fA:Bytes
def qc:nF:=⟨cX,0,0,0,0,0,0,0,[],[]⟩
def Server.err(s:Server):Int :=
 if !s.me.valid then 103 else if QA s.keys≠0 then QA s.keys else if s.replay.err≠0 then s.replay.err else if !within s.eK 4294967295 then 104 else 0
structure QM where
 aM:dA
 fA:lK
 err:Int
def sT(t:dA)(aJ:Bytes):aY:=⟨t.service,t.inst,aJ⟩
def dh(s:Server)(r:cQ):QM :=
 if r.aJ≠s.me.aJ then⟨jP,qd,35⟩
 else if (jH s.keys s.me r.bP).2=Zz then⟨jP,qd,35⟩
 else if (fw r.aM (jH s.keys s.me r.bP).1).err=7 then⟨jP,qd,7⟩
 else if (fw r.aM (jH s.keys s.me r.bP).1).err≠0 then⟨jP,qd,31⟩
 else if (sT (fw r.aM (jH s.keys s.me r.bP).1).val s.me.aJ).qt s.me=Zz then⟨jP,qd,35⟩
 else if (rQ r.fA r.aq (fw r.aM (jH s.keys s.me r.bP).1).val.aG).err≠0 then⟨jP,qd,31⟩
 else⟨(fw r.aM (jH s.keys s.me r.bP).1).val,(rQ r.fA r.aq (fw r.aM (jH s.keys s.me r.bP).1).val.aG).val,0⟩
def IM(t:dA)(a:lK)(src now eK:Int):Int :=
 if t.client.qt a.client=Zz then 36 else if src≠t.address then 38 else if A4 a.time now eK=Zz then 37 else GA t.cD t.cj now eK
def tX(a:lK):Mark:=⟨a.client,a.time,a.tick⟩
structure D2 where
 s:Server
 a:nF
 err:Int
def verify(s:Server)(r:cQ)(src now:Int):D2 :=
 if s.err≠0 then⟨s,qc,108⟩
 else if (dh s r).err≠0 then⟨s,qc,(dh s r).err⟩
 else if IM (dh s r).aM (dh s r).fA src now s.eK≠0 then⟨s,qc,IM (dh s r).aM (dh s r).fA src now s.eK⟩
 else if (mq s.replay (tX (dh s r).fA) now s.eK).err≠0 then⟨s,qc,(mq s.replay (tX (dh s r).fA) now s.eK).err⟩
 else⟨⟨s.me,s.keys,(mq s.replay (tX (dh s r).fA) now s.eK).val,s.eK⟩,⟨(dh s r).aM.client,(dh s r).aM.aG,(dh s r).aM.address,(dh s r).fA.cO,(dh s r).fA.time,(dh s r).fA.tick,(dh s r).aM.cD,(dh s r).aM.cj,r.aM,r.fA⟩,0⟩
def nF.UH(a:nF)(li:Bool):lW:=A9 a.aG a.cO a.time a.tick li
structure abW where
 s:Server
 a:nF
 answer:Bytes
 err:Int
def nF.same(a b:nF):Bool:=a.client.qt b.client&&a.aG==b.aG&&a.address==b.address&&a.cO==b.cO&&a.time==b.time&&a.tick==b.tick&&a.cD==b.cD&&a.cj==b.cj&&a.aM==b.aM&&a.fA==b.fA
def Server.same(a b:Server):Bool:=a.me.qt b.me&&a.eK==b.eK&&B2 a.keys b.keys&&a.replay.same b.replay
theorem Eo(b:Bytes):(fU b).val.aJ.length<=9223372036854775807/\(fU b).val.aM.length<=255/\(fU b).val.fA.length<=255:=by
 unfold fU;split
 ·exact⟨by simp[A5],by simp[A5],by simp[A5]⟩
 unfold iy;split
 ·exact⟨by simp[A5],by simp[A5],by simp[A5]⟩
 ·rename_i h;have he:(cI (lE b).val).err=0:=Decidable.byContradiction fun q=>h (.inr (.inl q));obtain⟨_,h1,_,h2,h3⟩:=Lg he;exact⟨by have:=h1.1;dsimp only;omega,h2,h3⟩
end Kerb
/- Chapter 11: safe and private messages, in plain words. -/
namespace Kerb
open Go Go.Abs
structure oW where
 data:Bytes
 tick:Int
 addr:Int
 time:Int
def dv(p:oW)(li:Bool):lW :=
 if 500<p.data.length then⟨[],105⟩
 else if !(within p.tick 199&&within p.addr 4294967295&&within p.time 4294967295) then⟨[],104⟩
 else⟨pad (aS (cond li 1 0) 1 Zz++aS p.data.length 2 li++p.data++aS p.tick 1 Zz++aS p.addr 4 li++aS p.time 4 li),0⟩
structure K9 where
 text:Bytes
 box:Bytes
 err:Int
def jG(p:oW)(li:Bool)(kind k:Int):K9 :=
 if (dv p li).err≠0 then⟨[],[],(dv p li).err⟩
 else if (fN kind k (dv p li).val).err≠0 then⟨[],[],(fN kind k (dv p li).val).err⟩
 else⟨(dv p li).val,(fN kind k (dv p li).val).val,0⟩
def zL(b s:Bytes)(li:Bool):Bytes:=b++aS s.length 2 li++s
def px(p:oW)(li:Bool)(k:Int):lW :=
 if (jG p li 5 k).err≠0 then⟨[],(jG p li 5 k).err⟩ else⟨zL (header 6 li) (jG p li 5 k).box li,0⟩
def py(p:oW)(li:Bool)(k:Int):lW :=
 if (jG p li 6 k).err≠0 then⟨[],(jG p li 6 k).err⟩ else⟨zL (zL (header 7 li) (jG p li 6 k).text li) (jG p li 6 k).box li,0⟩
theorem rq(p:oW)(li:Bool):(dv p li).val.length<=1000:=by
 unfold dv;split
 ·exact Nat.zero_le _
 split
 ·exact Nat.zero_le _
 ·rename_i h _;obtain⟨z,hz,hl⟩:=zG (aS (cond li 1 0) 1 Zz++aS p.data.length 2 li++p.data++aS p.tick 1 Zz++aS p.addr 4 li++aS p.time 4 li);simp only[hz,List.length_append,af];omega
theorem zs(kd k:Int)(b:Bytes):(fN kd k b).val.length<=1012:=by grind [ah,af,fN]
theorem qk(p:oW)(li:Bool)(kd k:Int):(jG p li kd k).text.length<=1000/\(jG p li kd k).box.length<=1012:=by
 unfold jG;split
 ·simp
 split
 ·simp
 ·exact⟨rq _ _,zs _ _ _⟩
structure Ii where
 val:Bytes
 next:Int
 ok:Bool
def fH(b:Bytes)(pos most:Int)(li:Bool):Ii :=
 if (get b pos 2 li).err≠0\/most<(get b pos 2 li).val then⟨[],0,Zz⟩
 else⟨(bytes b (get b pos 2 li).next (get b pos 2 li).val).val,(bytes b (get b pos 2 li).next (get b pos 2 li).val).next,(bytes b (get b pos 2 li).next (get b pos 2 li).val).err==0⟩
structure OZ where
 kind:Int
 plain:Bytes
 io:Bytes
 aq:Bool
 err:Int
def sN(b:Bytes):Ii:=cond ((dC b).kind==7) (fH b 2 1000 (bc b [6,7]).1) ⟨[],2,true⟩
def im(b:Bytes):OZ :=
 if (bc b [6,7]).2≠0 then⟨0,[],[],Zz,(bc b [6,7]).2⟩
 else if (sN b).ok=true/\(fH b (sN b).next 1012 (bc b [6,7]).1).ok=true/\(fH b (sN b).next 1012 (bc b [6,7]).1).next=b.length then
  ⟨(dC b).kind,(sN b).val,(fH b (sN b).next 1012 (bc b [6,7]).1).val,(bc b [6,7]).1,0⟩
 else⟨0,[],[],Zz,100⟩
end Kerb
/- Data of the statements of chapter 23: databases, requests. -/
namespace Kerb
open Go Go.Abs
def fT.leq(x e:fT):Bool:=Op.bytesLess x.name e.name||(x.name==e.name&&(Op.bytesLess x.inst e.inst||x.inst==e.inst))
structure KAsk where
 op:UInt8
 user:UInt8
 service:UInt8
 aG:UInt8
 new:UInt8
 time:UInt8
 stop:UInt8
 cD:UInt8
 cj:UInt8
 address:UInt8
 VC:UInt8
 old:UInt8
 how:Int
namespace KAsk
def Um(a:KAsk):Int:=1+mY a.op % 3
def w(a:KAsk):Int:=mY a.VC % 16
def tm(a:KAsk):Int:=1000+mY a.time
def Qv(l0 l1 l2:Bytes)(n:Int):Bytes:=if n=0 then l0 else if n=1 then l1 else l2
def label(a:KAsk):Bytes:=if a.w=1 then Qv ll gX vt (a.Um-1) else Qv vt ll gX (a.Um-1)
def HU(a:KAsk):fh :=
 if a.label=gX then⟨a.label,a.tm,0,0,if a.w=2 then Kerb.aG 5 else qN (30+mY a.new % 3)⟩
 else⟨a.label,a.tm,a.tm,a.tm+mY a.stop*50,0⟩
def body(a:KAsk):Bytes:=if a.w=3 then(aW a.HU).val++[0] else(aW a.HU).val
def u(a:KAsk):Int:=mY a.user % 3
def Vr(a:KAsk):dA :=
 ⟨Zz,if a.w=5 then Kerb.user (3+a.u) else Kerb.user a.u,mY a.address % 2,Kerb.aG (mY a.aG % 4),mY a.cj % 40,1000+mY a.cD,zj,if a.w=6 then[66,79,83] else[65,84,72]⟩
def io(a:KAsk):Bytes:=(fz a.Vr (if a.w=8 then qN 4 else qN 3)).val
def want(a:KAsk):aY:=if a.w=11 then V' [65,84,72] [66,79,83] else Kerb.service (mY a.service % 3)
def key(a:KAsk):Int :=
 if a.w=7 then qN 99 else if a.Um=2 then Kerb.aG (mY a.aG % 4) else if mY a.old % 4=3 then qN (30+mY a.old / 4 % 3) else qN a.u
def box(a:KAsk):Bytes:=(fN 7 a.key a.body).val
def SM(a:KAsk):dZ :=
 if a.Um=2 then⟨2,cX,if a.w=10 then 5 else 6,if a.w=9 then[66,79,83] else[65,84,72],a.io,a.want.name,a.want.inst,a.box⟩
 else⟨a.Um,if a.w=4 then Kerb.user (3+mY a.user % 6) else Kerb.user a.u,0,[],[],[],[],a.box⟩
def message(a:KAsk):Bytes:=if a.w=15 then qG (aV a.SM).val a.how else(aV a.SM).val
end KAsk
namespace KAsk
end KAsk
end Kerb
/- The statements of chapter 23, plain: databases stay without an error. -/
namespace Kerb
open Go Go.Abs
structure OX (d d':Db):Prop where
 err:d'.err=0
 ok:d'.ok
 len:d'.entries.length=d.entries.length
 aJ:d'.aJ=d.aJ
theorem OX.trans{a b c:Db}(h:OX a b)(g:OX b c):OX a c:=⟨g.err,g.ok,g.len.trans h.len,g.aJ.trans h.aJ⟩
structure Kept (d:Db):Prop where
 err:d.err=0
 ok:d.ok
 all:(d.entries.map fT.av).all Px=true
 len:d.entries.length<=60
 aJ:d.aJ.length<=39
theorem fT.oq{x y:fT}:(x.name==y.name&&(x.inst==y.inst&&(x.key==y.key&&(x.bP==y.bP&&(x.d_==y.d_&&(x.lq==y.lq&&(x.attr==y.attr&&(x.yF==y.yF&&x.Ia==y.Ia))))))))=true↔x=y:=by
 cases x;cases y;simp
end Kerb
/- Chapter 20: clients stay without an error. -/
namespace Kerb
open Go Go.Abs
theorem aY.oq{p q:aY}:p.qt q=true↔p=q:=by
 constructor
 ·intro h;obtain⟨a,b,c⟩:=p;obtain⟨d,e,f⟩:=q;simp only[aY.qt,Zy,Qb0] at h;obtain⟨rfl,rfl,rfl⟩:=h;rfl
 ·rintro rfl;exact aY.EC p
instance:DecidableEq aY:=fun p q=>if h:p.qt q=true then isTrue (aY.oq.1 h) else isFalse fun g=>h (aY.oq.2 g)
def UU:List aY:=[service 0,service 1,service 2,service 3,service 4,service 5,service 6,service 7,service 8]
end Kerb
