/- Chapters 2, 4, 7, 10, 15 and 20, in plain words: lifetimes, boxes, authenticators, requests, caches, clients. -/
import Derived.Test.YteafbgcimcpfiaaGreatKerbSort5
set_option linter.all false
open Bool renaming false→Zz,and_eq_true→Zy,not_eq_true'→Zw,not_eq_false→Zv
open Go.IntKind renaming bits→Zx
namespace Kerb
open Go Go.Abs
def bn.sK(p q:bn):Bool:=p.name==q.name&&(p.inst==q.inst&&p.aL==q.aL)
def ZC(aL target:Bytes):bn:=⟨[107,114,98,116,103,116],target,aL⟩
def UN(cG bL:Int):Int:=if within cG 4294967295&&within bL 255 then cG+300*(bL+1) else 0
def CX(a b fK:Int):Bool:=within a 4294967295&&within b 4294967295&&within fK 4294967295&&decide (a-b<=fK)&&decide (b-a<=fK)
def gX(kind k:Int)(body:Bytes):kP :=
 if !isKind kind then⟨[],104⟩ else if !bA k then⟨[],10⟩ else if 1000<body.length then⟨[],105⟩
 else⟨[66,UInt8.ofNat kind.toNat]++keyBytes k++aK body.length 2 Zz++body,0⟩
structure UU where
 kind:Int
 key:Int
 body:Bytes
structure S2 where
 box:UU
 n:Int
 err:Int
def vD:UU:=⟨0,0,[]⟩
def lH(b:Bytes):Nat:=(b.getD 10 0).toNat*256+(b.getD 11 0).toNat
def bm(b:Bytes):S2 :=
 if b.length<12 then⟨vD,0,101⟩
 else if b.getD 0 0≠66\/isKind ((b.getD 1 0).toNat:Int)=Zz\/(cF (cut b 2 8)).2=Zz\/1000<lH b then⟨vD,0,100⟩
 else if b.length<12+lH b then⟨vD,0,101⟩
 else⟨⟨((b.getD 1 0).toNat:Int),(cF (cut b 2 8)).1,cut b 12 (lH b)⟩,((12+lH b:Nat):Int),0⟩
def lL(b:Bytes)(kind k:Int):Bytes×Bool :=
 if (bm b).err≠0\/(bm b).n≠b.length\/(bm b).box.kind≠kind\/(bm b).box.key≠k then([],Zz) else((bm b).box.body,true)
structure nt where
 client:bn
 dp:Int
 tick:Int
 time:Int
def nt.check(a:nt):Int :=
 if !a.client.valid then 103 else if !(within a.dp 4294967295&&within a.tick 199&&within a.time 4294967295) then 104 else 0
def iT(a:nt)(little:Bool):kP :=
 if a.check≠0 then⟨[],a.check⟩
 else⟨pad (cO (aK (cond little 1 0) 1 Zz) a.client++aK a.dp 4 little++aK a.tick 1 Zz++aK a.time 4 little),0⟩
def Ps(a:nt)(little:Bool)(k:Int):kP :=
 if (iT a little).err≠0 then⟨[],(iT a little).err⟩ else gX 2 k (iT a little).val
structure cI where
 little:Bool
 cW:Bool
 br:Int
 aL:Bytes
 aH:Bytes
 fm:Bytes
def bf(r:cI):kP :=
 if !dI r.aL then⟨[],103⟩
 else if !within r.br 255 then⟨[],104⟩
 else if 255<r.aH.length\/255<r.fm.length then⟨[],105⟩
 else⟨bw (header (cond r.cW 4 3) r.little++aK r.br 1 Zz) r.aL++aK r.aH.length 1 Zz++aK r.fm.length 1 Zz++r.aH++r.fm,0⟩
structure fu where
 ap:cI
 time:Int
 bL:Int
 service:Bytes
 inst:Bytes
def cS(r:fu):kP :=
 if r.ap.cW then⟨[],100⟩
 else if (bf r.ap).err≠0 then⟨[],(bf r.ap).err⟩
 else if !(validName r.service&&cl r.inst) then⟨[],103⟩
 else if !(within r.time 4294967295&&within r.bL 255) then⟨[],104⟩
 else⟨bw (bw ((bf r.ap).val++aK r.time 4 r.ap.little++aK r.bL 1 Zz) r.service) r.inst,0⟩
structure eU where
 service:bn
 ay:Int
 bL:Int
 br:Int
 cG:Int
 aH:Bytes
def eU.av(c:eU):AV := .agg [.str c.service.name,.str c.service.inst,.str c.service.aL,.int .u64 c.ay,.int .i64 c.bL,.int .i64 c.br,.int .i64 c.cG,.bs c.aH]
def uc:eU:=⟨dx,0,0,0,0,[]⟩
def eU.ok(c:eU):Prop:=c.service.name.length<=9223372036854775807/\c.service.inst.length<=9223372036854775807/\c.service.aL.length<=9223372036854775807/\0<=c.ay/\c.ay<18446744073709551616/\c.aH.length<=9223372036854775807
def KH(c:eU):Int :=
 if !c.service.valid then 103 else if !bA c.ay then 10
 else if !(within c.bL 255&&within c.br 255&&within c.cG 4294967295) then 104
 else if 255<c.aH.length then 105 else 0
def Gp:List eU->List eU->Int
 | _,[]=>0
 | seen,c::r=>if KH c≠0 then KH c else if seen.any (fun d=>d.service.sK c.service) then 107 else Gp (seen++[c]) r
structure Cache where
 owner:bn
 sI:List eU
def Fc:Cache:=⟨dx,[]⟩
def Cache.err(c:Cache):Int:=if !c.owner.valid then 103 else if 20<c.sI.length then 106 else Gp [] c.sI
def NS(l:List eU)(s:bn):Nat:=l.findIdx fun d=>d.service.sK s
def KQ(l:List eU)(s:bn):eU×Bool:=if NS l s<l.length then(l.getD (NS l s) uc,true) else(uc,Zz)
def eU.expired(c:eU)(now:Int):Bool:=decide (UN c.cG c.bL<now)
def zm(c:Cache)(x:eU):FY Cache :=
 if c.err≠0 then⟨Fc,c.err⟩
 else if Cache.err ⟨c.owner,[x]⟩≠0 then⟨Fc,Cache.err ⟨c.owner,[x]⟩⟩
 else if 20<=(c.sI.filter fun d => !d.service.sK x.service).length then⟨Fc,106⟩
 else⟨⟨c.owner,(c.sI.filter fun d => !d.service.sK x.service)++[x]⟩,0⟩
structure Client where
 me:bn
 address:Int
 fK:Int
 little:Bool
 cache:Cache
 wait:Int
 wanted:bn
 ay:Int
 time:Int
 bL:Int
 dp:Int
 tick:Int
def Cache.av(c:Cache):AV := .agg [.str c.owner.name,.str c.owner.inst,.str c.owner.aL,.sl 8 (c.sI.map eU.av)]
def Client.av(c:Client):AV := .agg [.str c.me.name,.str c.me.inst,.str c.me.aL,.int .i64 c.address,.int .i64 c.fK,.bool c.little,.str c.cache.owner.name,.str c.cache.owner.inst,.str c.cache.owner.aL,.sl 8 (c.cache.sI.map eU.av),.int .i64 c.wait,.str c.wanted.name,.str c.wanted.inst,.str c.wanted.aL,.int .u64 c.ay,.int .i64 c.time,.int .i64 c.bL,.int .i64 c.dp,.int .i64 c.tick]
def Client.idle(c:Client):Client:=⟨c.me,c.address,c.fK,c.little,c.cache,0,dx,0,0,0,0,0⟩
def Client.err(c:Client):Int :=
 if !c.me.valid then 103
 else if !(within c.address 4294967295&&within c.fK 4294967295) then 104
 else if !(decide (0<=c.wait)&&decide (c.wait<=3)) then 104
 else if c.cache.err≠0 then c.cache.err
 else if !c.cache.owner.sK c.me then 103 else 0
def rY(me service:bn):bn:=ZC me.aL service.aL
structure aeH where
 c:Client
 msg:Bytes
 err:Int
structure aeE where
 val:cI
 err:Int
def yZ:cI:=⟨false,false,0,[],[],[]⟩
structure afX where
 c:Client
 msg:Bytes
 VG:eU
 fm:Bytes
 err:Int
def eU.same(a b:eU):Bool:=a.service.sK b.service&&a.ay==b.ay&&a.bL==b.bL&&a.br==b.br&&a.cG==b.cG&&a.aH==b.aH
def DZ:List eU->List eU->Bool
 | [],[]=>true
 | a::r,b::q=>a.same b&&DZ r q
 | _,_=>Zz
def Cache.same(a b:Cache):Bool:=a.owner.sK b.owner&&DZ a.sI b.sI
def Client.same(a b:Client):Bool:=a.me.sK b.me&&a.address==b.address&&a.fK==b.fK&&a.little==b.little&&a.cache.same b.cache&&a.wait==b.wait&&a.wanted.sK b.wanted&&a.ay==b.ay&&a.time==b.time&&a.bL==b.bL&&a.dp==b.dp&&a.tick==b.tick
theorem xc(r:cI):(bf r).val.length<=1000:=by
 unfold bf;split
 ·simp
 rename_i h1;split
 ·simp
 split
 ·simp
 rename_i h3;have l1:=gf (s:=r.aL) (by simpa using h1);have g:=km (cond r.cW 4 3) r.little;simp[bX,ah];omega
theorem Nh(n:Nat):[UInt8.ofNat (Int.toNat (IntKind.wrap .u8 (Int.fdiv (n:Int) (2 ^ min (Int.toNat 8) (Zx .i64))))),UInt8.ofNat (Int.toNat (IntKind.wrap .u8 (n:Int)))]=aK n 2 Zz:=by
 have e:(2:Int) ^ min (Int.toNat 8) (Zx .i64)=256:=by decide
 rw[e,Int.fdiv_eq_ediv_of_nonneg _ (by decide),wrap_u8,wrap_u8];show _=[eV n 1,eV n 0];unfold eV;simp
def Client.mJ(c:Client):Prop :=
 (c.me.name.length<=9223372036854775807/\c.me.inst.length<=9223372036854775807/\c.me.aL.length<=9223372036854775807) /\
 (c.cache.owner.name.length<=9223372036854775807/\c.cache.owner.inst.length<=9223372036854775807/\c.cache.owner.aL.length<=9223372036854775807) /\
 (∀ x∈c.cache.sI,x.ok)/\c.cache.sI.length<=1000000
theorem bn.GC(p:bn):p.sK p=true:=by simp[bn.sK]
end Kerb
/- Clients: what the statements of chapter 20 lean on. -/
namespace Kerb
open Go Go.Abs
end Kerb
/- Chapters 2 and 6: lifetimes that are granted, the state of a ticket, tickets. -/
namespace Kerb
open Go Go.Abs
def least(n:Int)(l:List Int):Int:=l.foldl EZ n
def LN(now want:Int)(ends:List Int):Int×Bool :=
 if !within now 4294967295||decide (want<0) then(0,Zz)
 else if least (now+300*(EZ want 255+1)) ends-now<300 then(0,Zz)
 else(EZ ((least (now+300*(EZ want 255+1)) ends-now) / 300-1) 255,true)
def IJ(cG bL now fK:Int):Int :=
 if !(within cG 4294967295&&within now 4294967295&&within bL 255&&within fK 4294967295) then 104
 else if now+fK<cG then 33 else if UN cG bL+fK<now then 32 else 0
def iD(k:Int):Int:=bif bA k then mU k else 0
def jg:dQ:=⟨false,dx,0,0,0,0,[],[]⟩
def dQ.err(t:dQ):Int :=
 if !(t.client.valid&&(validName t.service&&cl t.inst)) then 103
 else if iD t.ay≠2 then 10
 else if !(within t.address 4294967295&&(within t.bL 255&&within t.cG 4294967295)) then 104 else 0
def bB(t:dQ):kP :=
 if t.err≠0 then⟨[],t.err⟩
 else⟨pad (bw (bw (cO (aK (cond t.little 1 0) 1 Zz) t.client++aK t.address 4 t.little++keyBytes t.ay++aK t.bL 1 Zz++aK t.cG 4 t.little) t.service) t.inst),0⟩
def lX(b:Bytes):dQ :=
 let o:=get b 0 1 Zz
 let li:=o.val==1
 let p:=gF b o.next
 let a:=get b p.next 4 li
 let k:=bytes b a.next 8
 let l:=get b k.next 1 Zz
 let i:=get b l.next 4 li
 let s:=text b i.next
 ⟨li,p.val,a.val,(cF k.val).1,l.val,i.val,s.val,(text b s.next).val⟩
def nl(b:Bytes):Rd dQ :=
 let o:=dE b 1 Zz 0 Zz
 let li:=o.val==1
 let p:=dH b o.pos o.bad
 let a:=dE b 4 li p.pos p.bad
 let k:=df b 8 a.pos a.bad
 let l:=dE b 1 Zz k.pos k.bad
 let i:=dE b 4 li l.pos l.bad
 let s:=nk b i.pos i.bad
 let n:=nk b s.pos s.bad
 ⟨⟨li,p.p,a.val,(cF k.val).1,l.val,i.val,s.val,n.val⟩,n.pos,n.bad⟩
def bD(b:Bytes):FY dQ :=
 if 1<(get b 0 1 Zz).val then⟨jg,7⟩ else eG jg bB (fun b=>(lX b,Zz)) b
def gN(t:dQ)(k:Int):kP:=if (bB t).err≠0 then⟨[],(bB t).err⟩ else gX 1 k (bB t).val
def gL(b:Bytes)(k:Int):FY dQ:=if (lL b 1 k).2 then bD (lL b 1 k).1 else⟨jg,31⟩
theorem Gh{k:Int}(h:iD k=2):bA k=true:=by
 unfold iD at h;cases hk:bA k
 ·rw[hk] at h;simp at h
 ·rfl
theorem lA{t:dQ}(h:(bB t).err=0):t.client.valid=true/\validName t.service=true/\cl t.inst=true/\bA t.ay=true/\(0<=t.address/\t.address<=4294967295)/\(0<=t.bL/\t.bL<=255)/\(0<=t.cG/\t.cG<=4294967295) /\
  (bB t).val=pad (aK (cond t.little 1 0) 1 Zz++(t.client.name++0::(t.client.inst++0::(t.client.aL++0::(aK t.address 4 t.little++(keyBytes t.ay++(aK t.bL 1 Zz++(aK t.cG 4 t.little++(t.service++0::(t.inst++[0])))))))))):=by
 have he:t.err=0:=by
  unfold bB at h;split at h
  ·exact h
  ·rename_i hn;simpa using hn
 have hv:(bB t).val=pad (bw (bw (cO (aK (cond t.little 1 0) 1 Zz) t.client++aK t.address 4 t.little++keyBytes t.ay++aK t.bL 1 Zz++aK t.cG 4 t.little) t.service) t.inst):=by
  unfold bB;rw[Qa0 (by simpa using he)]
 unfold dQ.err at he;split at he
 ·cases he
 rename_i h1;split at he
 ·cases he
 rename_i h2;split at he
 ·cases he
 rename_i h3;simp only[Bool.not_eq_true,Bool.not_eq_false',Zy,within_iff] at h1 h3;simp only[ne_eq,Decidable.not_not] at h2;refine⟨h1.1,h1.2.1,h1.2.2,Gh h2,h3.1,h3.2.1,h3.2.2,?_⟩;rw[hv];simp[bw,cO]
theorem xQ{s:Bytes}(h:validName s=true):s.length<=39/\(0:UInt8) ∉ s:=by
 simp only[validName,Zy,Qa2] at h;exact⟨h.1.2,Ak h.2⟩
theorem inst_ok{s:Bytes}(h:cl s=true):s.length<=39/\(0:UInt8) ∉ s:=by
 simp only[cl,Zy,Qa2] at h;exact⟨h.1,Ak h.2⟩
theorem z6{t:dQ}(h0:0<=t.ay)(h1:t.ay<18446744073709551616)(h:(bB t).err=0):lX (bB t).val=t:=by
 have hi:=lA h;generalize (bB t).val=b at hi;obtain⟨li,⟨cn,ci,cr⟩,address,ay,bL,cG,service,inst⟩:=t;simp only at hi h0 h1;obtain⟨hc,hs,hn,hk,ha,hl,hd,hb⟩:=hi;obtain⟨s1,s2⟩:=xQ hs;obtain⟨n1,n2⟩:=inst_ok hn;obtain⟨z,hz,_⟩:=pQ (aK (cond li 1 0) 1 Zz++(cn++0::(ci++0::(cr++0::(aK address 4 li++(keyBytes ay++(aK bL 1 Zz++(aK cG 4 li++(service++0::(inst++[0]))))))))));have a0:At b 0 (aK (cond li 1 0) 1 Zz++(cn++0::(ci++0::(cr++0::(aK address 4 li++(keyBytes ay++(aK bL 1 Zz++(aK cG 4 li++(service++0::(inst++0::z)))))))))):=(At.start b).as (by rw[hb,hz];simp);obtain⟨e1,a1⟩:=a0.mI (by cases li<;>decide) (by cases li<;>decide);obtain⟨q,e2,a2⟩:=At.gF (p:=⟨cn,ci,cr⟩) a1 hc;obtain⟨e3,a3⟩:=a2.nG ha.1 ha.2;obtain⟨e4,a4⟩:=a3.bytes (n:=8) (by rw[aj];rfl);obtain⟨e5,a5⟩:=a4.mI hl.1 hl.2;obtain⟨e6,a6⟩:=a5.nG hd.1 hd.2;obtain⟨e7,a7⟩:=a6.text s1 s2;obtain⟨e8,a8⟩:=a7.text n1 n2;have hli:((cond li 1 0:Int)==1)=li:=by cases li<;>rfl
 unfold lX;simp only[e1,hli,e2,e3,e4,e5,e6,e7,e8,fX h0 h1 hk]
theorem C0{t:dQ}(h0:0<=t.ay)(h1:t.ay<18446744073709551616)(h:(bB t).err=0):((nl (bB t).val).val,(nl (bB t).val).bad)=(t,Zz):=by
 have hi:=lA h;generalize (bB t).val=b at hi;obtain⟨li,⟨cn,ci,cr⟩,address,ay,bL,cG,service,inst⟩:=t;simp only at hi h0 h1;obtain⟨hc,hs,hn,hk,ha,hl,hd,hb⟩:=hi;obtain⟨s1,s2⟩:=xQ hs;obtain⟨n1,n2⟩:=inst_ok hn;obtain⟨z,hz,_⟩:=pQ (aK (cond li 1 0) 1 Zz++(cn++0::(ci++0::(cr++0::(aK address 4 li++(keyBytes ay++(aK bL 1 Zz++(aK cG 4 li++(service++0::(inst++[0]))))))))));have a0:At b 0 (aK (cond li 1 0) 1 Zz++(cn++0::(ci++0::(cr++0::(aK address 4 li++(keyBytes ay++(aK bL 1 Zz++(aK cG 4 li++(service++0::(inst++0::z)))))))))):=(At.start b).as (by rw[hb,hz];simp);obtain⟨e1,a1⟩:=a0.mI (by cases li<;>decide) (by cases li<;>decide);obtain⟨q,e2,a2⟩:=At.gF (p:=⟨cn,ci,cr⟩) a1 hc;obtain⟨e3,a3⟩:=a2.nG ha.1 ha.2;obtain⟨e4,a4⟩:=a3.bytes (n:=8) (by rw[aj];rfl);obtain⟨e5,a5⟩:=a4.mI hl.1 hl.2;obtain⟨e6,a6⟩:=a5.nG hd.1 hd.2;obtain⟨e7,a7⟩:=a6.text s1 s2;obtain⟨e8,a8⟩:=a7.text n1 n2;have hli:((cond li 1 0:Int)==1)=li:=by cases li<;>rfl
 unfold nl;simp only[ca e1,hli,kY e2,ca e3,ew e4,ca e5,ca e6,rE e7,rE e8,fX h0 h1 hk]
theorem C2(b:Bytes):0<=(lX b).ay/\(lX b).ay<18446744073709551616:=dR _
theorem HI(b:Bytes):0<=(nl b).val.ay/\(nl b).val.ay<18446744073709551616:=dR _
theorem CI(b:Bytes):eG jg bB (fun b=>(lX b,Zz)) b=eG jg bB (fun b=>((nl b).val,(nl b).bad)) b :=
 io (P:=fun s=>0<=s.ay/\s.ay<18446744073709551616) (fun _ p h=>by rw[z6 p.1 p.2 h]) (fun _ p h=>C0 p.1 p.2 h) C2 HI b
theorem EK{t:dQ}(h:(bB t).err≠0):(bB t).val=[]:=by grind [bB]
theorem CJ(t:dQ):(bB t).val.length<=224:=by
 by_cases h:(bB t).err=0
 ·obtain⟨hc,hs,hn,hk,ha,hl,hd,hb⟩:=lA h;have l1:=cN hc;have l2:=(xQ hs).1;have l3:=(inst_ok hn).1;rw[hb,uZ];simp[ah,aj];omega
 ·rw[EK h];simp
end Kerb
/- Chapter 25: records, parts and messages of version 5, in plain words. -/
namespace Kerb
open Go Go.Abs
structure Av where
 client:bn
 service:bn
 ay:Int
 start:Int
 stop:Int
 addr:Int
structure sF where
 ay:Int
 service:bn
 start:Int
 stop:Int
 record:Bytes
structure Au where
 op:Int
 name:bn
 box:Bytes
def period(a b:Int):Bool:=within a 4294967295&&within b 4294967295&&decide (a<=b)
def dF(r:Av):kP :=
 if !(r.client.valid&&r.service.valid) then⟨[],103⟩
 else if iD r.ay≠2 then⟨[],10⟩
 else if !(period r.start r.stop&&within r.addr 4294967295) then⟨[],104⟩
 else⟨pad (cO (cO [] r.client) r.service++keyBytes r.ay++aK r.start 4 Zz++aK r.stop 4 Zz++aK r.addr 4 Zz),0⟩
def c5(p:sF):kP :=
 if !bA p.ay then⟨[],10⟩
 else if !p.service.valid then⟨[],103⟩
 else if !period p.start p.stop then⟨[],104⟩
 else if 300<p.record.length then⟨[],105⟩
 else⟨pad (dL (cO (keyBytes p.ay) p.service++aK p.start 4 Zz++aK p.stop 4 Zz) p.record),0⟩
def dw(m:Au):kP :=
 if !mT m.op then⟨[],40⟩
 else if !m.name.valid then⟨[],103⟩
 else if 1012<m.box.length then⟨[],105⟩
 else⟨dL (cO (header 10 Zz++aK m.op 1 Zz) m.name) m.box,0⟩
def Fe:Av:=⟨dx,dx,0,0,0,0⟩
def Aj:sF:=⟨0,dx,0,0,[]⟩
def y0:Au:=⟨0,dx,[]⟩
def p_(b:Bytes)(k:Int)(pos:Int)(bad:Bool):Rd Int:=⟨(get b pos k Zz).val,cond ((get b pos k Zz).err==0) (get b pos k Zz).next pos,bad || !((get b pos k Zz).err==0)⟩
def mG(b:Bytes)(n:Int)(pos:Int)(bad:Bool):Rd Bytes:=⟨(bytes b pos n).val,cond ((bytes b pos n).err==0) (bytes b pos n).next pos,bad || !((bytes b pos n).err==0)⟩
def lB(b:Bytes)(pos:Int)(bad:Bool):Rd bn:=⟨(gF b pos).val,cond ((gF b pos).err==0) (gF b pos).next pos,bad || !((gF b pos).err==0)⟩
def xg(b:Bytes)(pos:Int)(bad:Bool):Rd Int:=⟨(cF (mG b 8 pos bad).val).1,(mG b 8 pos bad).pos,(mG b 8 pos bad).bad || !(cF (mG b 8 pos bad).val).2⟩
theorem qj{b:Bytes}{k pos n nx:Int}(h:get b pos k Zz=⟨n,nx,0⟩):p_ b k pos Zz=⟨n,nx,Zz⟩:=by unfold p_;rw[h];rfl
theorem yM{b s:Bytes}{pos n nx:Int}(h:bytes b pos n=⟨s,nx,0⟩):mG b n pos Zz=⟨s,nx,Zz⟩:=by unfold mG;rw[h];rfl
theorem xj{b:Bytes}{p:bn}{pos nx:Int}(h:gF b pos=⟨p,nx,0⟩):lB b pos Zz=⟨p,nx,Zz⟩:=by unfold lB;rw[h];rfl
theorem KO{b:Bytes}{k pos nx:Int}(h:bytes b pos 8=⟨keyBytes k,nx,0⟩)(h0:0<=k)(h1:k<18446744073709551616)(hv:bA k=true):xg b pos Zz=⟨k,nx,Zz⟩:=by
 unfold xg;rw[yM h];simp only[fX h0 h1 hv];rfl
theorem uS(b:Bytes)(pos:Int)(bad:Bool):0<=(xg b pos bad).val/\(xg b pos bad).val<18446744073709551616:=dR _
def Ui(b:Bytes):Rd Av :=
 let c:=lB b 0 Zz
 let s:=lB b c.pos c.bad
 let k:=xg b s.pos s.bad
 let t:=p_ b 4 k.pos k.bad
 let e:=p_ b 4 t.pos t.bad
 let a:=p_ b 4 e.pos e.bad
 ⟨⟨c.val,s.val,k.val,t.val,e.val,a.val⟩,a.pos,a.bad⟩
def Pa(b:Bytes):Rd sF :=
 let k:=xg b 0 Zz
 let s:=lB b k.pos k.bad
 let t:=p_ b 4 s.pos s.bad
 let e:=p_ b 4 t.pos t.bad
 let m:=p_ b 2 e.pos e.bad
 let x:=mG b m.val m.pos m.bad
 ⟨⟨k.val,s.val,t.val,e.val,x.val⟩,x.pos,x.bad⟩
def Uh(b:Bytes):Rd Au :=
 let o:=p_ b 1 2 Zz
 let n:=lB b o.pos o.bad
 let m:=p_ b 2 n.pos n.bad
 let x:=mG b m.val m.pos m.bad
 ⟨⟨o.val,n.val,x.val⟩,x.pos,x.bad⟩
def x7(b:Bytes):Av×Bool:=((Ui b).val,(Ui b).bad)
def u7(b:Bytes):sF×Bool:=((Pa b).val,(Pa b).bad)
def ul(b:Bytes):Au×Bool:=((Uh b).val,(Uh b).bad)
def ch(b:Bytes):FY Av:=eG Fe dF x7 b
def bV(b:Bytes):FY sF:=eG Aj c5 u7 b
def dv(b:Bytes):FY Au :=
 if (aN b [10]).2≠0 then⟨y0,(aN b [10]).2⟩ else eG y0 dw ul b
def Uo(b:Bytes):Rd Av :=
 let c:=dH b 0 Zz
 let s:=dH b c.pos c.bad
 let k:=df b 8 s.pos s.bad
 let t:=dE b 4 Zz k.pos k.bad
 let e:=dE b 4 Zz t.pos t.bad
 let a:=dE b 4 Zz e.pos e.bad
 ⟨⟨c.p,s.p,(cF k.val).1,t.val,e.val,a.val⟩,a.pos,a.bad⟩
def Pk(b:Bytes):Rd sF :=
 let k:=df b 8 0 Zz
 let s:=dH b k.pos k.bad
 let t:=dE b 4 Zz s.pos s.bad
 let e:=dE b 4 Zz t.pos t.bad
 let m:=dE b 2 Zz e.pos e.bad
 let x:=df b m.val m.pos m.bad
 ⟨⟨(cF k.val).1,s.p,t.val,e.val,x.val⟩,x.pos,x.bad⟩
def Un(b:Bytes):Rd Au :=
 let o:=dE b 1 Zz 2 Zz
 let n:=dH b o.pos o.bad
 let m:=dE b 2 Zz n.pos n.bad
 let x:=df b m.val m.pos m.bad
 ⟨⟨o.val,n.p,x.val⟩,x.pos,x.bad⟩
def Fu(b:Bytes):Av×Bool:=((Uo b).val,(Uo b).bad)
def Am(b:Bytes):sF×Bool:=((Pk b).val,(Pk b).bad)
def Ft(b:Bytes):Au×Bool:=((Un b).val,(Un b).bad)
theorem BD{a b:Int}:period a b=true↔(0<=a/\a<=4294967295)/\(0<=b/\b<=4294967295)/\a<=b:=by simp[period,within_iff,and_assoc]
theorem Gi{k:Int}(h:iD k=2):bA k=true:=by
 unfold iD at h;cases hk:bA k
 ·rw[hk] at h;cases h
 ·rfl
theorem zt{r:Av}(h:(dF r).err=0):r.client.valid=true/\r.service.valid=true/\bA r.ay=true/\(0<=r.start/\r.start<=4294967295)/\(0<=r.stop/\r.stop<=4294967295)/\(0<=r.addr/\r.addr<=4294967295) /\
  ∃ z,(dF r).val=r.client.name++0::(r.client.inst++0::(r.client.aL++0::(r.service.name++0::(r.service.inst++0::(r.service.aL++0::(keyBytes r.ay++(aK r.start 4 Zz++(aK r.stop 4 Zz++(aK r.addr 4 Zz++z)))))))))/\z.length<=7:=by
 unfold dF at h ⊢;split at h
 ·cases h
 rename_i g0;rw[Qa0 g0];split at h
 ·cases h
 rename_i g1;rw[Qa0 g1];split at h
 ·cases h
 rename_i g2;rw[Qa0 g2];simp only[Zw,Zv,Zy,BD,within_iff] at g0 g2;obtain⟨z,hz,hl⟩:=pQ (cO (cO [] r.client) r.service++keyBytes r.ay++aK r.start 4 Zz++aK r.stop 4 Zz++aK r.addr 4 Zz);refine⟨g0.1,g0.2,Gi (by omega),g2.1.1,g2.1.2.1,g2.2,z,?_,hl⟩;rw[hz];simp[cO,bw]
theorem w_{p:sF}(h:(c5 p).err=0):bA p.ay=true/\p.service.valid=true/\(0<=p.start/\p.start<=4294967295)/\(0<=p.stop/\p.stop<=4294967295)/\p.record.length<=300 /\
  ∃ z,(c5 p).val=keyBytes p.ay++(p.service.name++0::(p.service.inst++0::(p.service.aL++0::(aK p.start 4 Zz++(aK p.stop 4 Zz++(aK p.record.length 2 Zz++(p.record++z)))))))/\z.length<=7:=by
 unfold c5 at h ⊢;split at h
 ·cases h
 rename_i g0;rw[Qa0 g0];split at h
 ·cases h
 rename_i g1;rw[Qa0 g1];split at h
 ·cases h
 rename_i g2;rw[Qa0 g2];split at h
 ·cases h
 rename_i g3;rw[Qa0 g3];simp only[Zw,Zv,BD] at g0 g1 g2;obtain⟨z,hz,hl⟩:=pQ (dL (cO (keyBytes p.ay) p.service++aK p.start 4 Zz++aK p.stop 4 Zz) p.record);refine⟨g0,g1,g2.1,g2.2.1,by omega,z,?_,hl⟩;rw[hz];simp[cO,bw,dL]
theorem zs{m:Au}(h:(dw m).err=0):(1<=m.op/\m.op<=3)/\m.name.valid=true/\m.box.length<=1012 /\
  (dw m).val=header 10 Zz++(aK m.op 1 Zz++(m.name.name++0::(m.name.inst++0::(m.name.aL++0::(aK m.box.length 2 Zz++(m.box++[])))))):=by
 unfold dw at h ⊢;split at h
 ·cases h
 rename_i g0;rw[Qa0 g0];split at h
 ·cases h
 rename_i g1;rw[Qa0 g1];split at h
 ·cases h
 rename_i g2;rw[Qa0 g2];simp only[Zw,Zv,xG] at g0 g1;exact⟨by omega,g1,by omega,by simp[cO,bw,dL]⟩
theorem DX{r:Av}(h0:0<=r.ay)(h1:r.ay<18446744073709551616)(h:(dF r).err=0):x7 (dF r).val=(r,Zz)/\Fu (dF r).val=(r,Zz):=by
 obtain⟨v1,v2,hk,hs,he,ha,z,hv,_⟩:=zt h;generalize (dF r).val=b at hv;obtain⟨⟨cn,ci,cr⟩,⟨sn,si,sr⟩,ay,start,stop,addr⟩:=r;simp only at h0 h1 hk hs he ha hv;have a0:At b 0 (cn++_):=(At.start b).as hv;obtain⟨q,e1,a1⟩:=At.gF (p:=⟨cn,ci,cr⟩) a0 v1;obtain⟨q2,e2,a2⟩:=At.gF (p:=⟨sn,si,sr⟩) a1 v2;obtain⟨e3,a3⟩:=a2.bytes (n:=8) (by rw[aj];rfl);obtain⟨e4,a4⟩:=a3.nG hs.1 hs.2;obtain⟨e5,a5⟩:=a4.nG he.1 he.2;obtain⟨e6,a6⟩:=a5.nG ha.1 ha.2;constructor
 ·unfold x7 Ui;simp only[xj e1,xj e2,KO e3 h0 h1 hk,qj e4,qj e5,qj e6]
 ·unfold Fu Uo;simp only[kY e1,kY e2,ew e3,fX h0 h1 hk,ca e4,ca e5,ca e6]
theorem BA{p:sF}(h0:0<=p.ay)(h1:p.ay<18446744073709551616)(h:(c5 p).err=0):u7 (c5 p).val=(p,Zz)/\Am (c5 p).val=(p,Zz):=by
 obtain⟨hk,v1,hs,he,hr,z,hv,_⟩:=w_ h;generalize (c5 p).val=b at hv;obtain⟨ay,⟨sn,si,sr⟩,start,stop,record⟩:=p;simp only at h0 h1 hk hs he hr hv;have a0:At b 0 (keyBytes ay++_):=(At.start b).as hv;obtain⟨e1,a1⟩:=a0.bytes (n:=8) (by rw[aj];rfl);obtain⟨q,e2,a2⟩:=At.gF (p:=⟨sn,si,sr⟩) a1 v1;obtain⟨e3,a3⟩:=a2.nG hs.1 hs.2;obtain⟨e4,a4⟩:=a3.nG he.1 he.2;obtain⟨e5,a5⟩:=a4.GH (by omega) (by omega);obtain⟨e6,a6⟩:=a5.bytes rfl;constructor
 ·unfold u7 Pa;simp only[KO e1 h0 h1 hk,xj e2,qj e3,qj e4,qj e5,yM e6]
 ·unfold Am Pk;simp only[ew e1,fX h0 h1 hk,kY e2,ca e3,ca e4,ca e5,ew e6]
theorem DL{m:Au}(h:(dw m).err=0):ul (dw m).val=(m,Zz)/\Ft (dw m).val=(m,Zz):=by
 obtain⟨ho,v1,hb,hv⟩:=zs h;generalize (dw m).val=b at hv;obtain⟨op,⟨un,ui,ur⟩,box⟩:=m;simp only at ho hb hv;have a0:At b 2 _:=⟨header 10 Zz,hv,by decide⟩;obtain⟨e1,a1⟩:=a0.mI (by omega) (by omega);obtain⟨q,e2,a2⟩:=At.gF (p:=⟨un,ui,ur⟩) a1 v1;obtain⟨e3,a3⟩:=a2.GH (by omega) (by omega);obtain⟨e4,a4⟩:=a3.bytes rfl;constructor
 ·unfold ul Uh;simp only[qj e1,xj e2,qj e3,yM e4]
 ·unfold Ft Un;simp only[ca e1,kY e2,ca e3,ew e4]
theorem Gt(b:Bytes):ch b=eG Fe dF Fu b :=
 io (P:=fun s=>0<=s.ay/\s.ay<18446744073709551616) (fun _ p h=>(DX p.1 p.2 h).1) (fun _ p h=>(DX p.1 p.2 h).2) (fun _=>uS _ _ _) (fun _=>dR _) b
theorem EB(b:Bytes):bV b=eG Aj c5 Am b :=
 io (P:=fun s=>0<=s.ay/\s.ay<18446744073709551616) (fun _ p h=>(BA p.1 p.2 h).1) (fun _ p h=>(BA p.1 p.2 h).2) (fun _=>uS _ _ _) (fun _=>dR _) b
theorem Gs(b:Bytes):eG y0 dw ul b=eG y0 dw Ft b :=
 io (P:=fun _=>True) (fun _ _ h=>(DL h).1) (fun _ _ h=>(DL h).2) (fun _=>trivial) (fun _=>trivial) b
end Kerb
/- Chapter 20: what a client makes of replies and answers. -/
namespace Kerb
open Go Go.Abs
structure Rcv where
 c:Client
 VG:eU
 err:Int
def Fz(c:Client)(k:Int):Int:=if c.wait=2 then(KQ c.cache.sI (rY c.me c.wanted)).1.ay else k
def sB(c:Client)(k:Int)(msg:Bytes):Kx :=
 if (bj msg).err≠0 then⟨sk,(bj msg).err⟩
 else if !(bj msg).val.client.sK c.me || !((bj msg).val.time==c.time) then⟨sk,63⟩
 else if c.wait=2/\(KQ c.cache.sI (rY c.me c.wanted)).2=Zz then⟨sk,76⟩
 else if (lL (bj msg).val.cD 3 (Fz c k)).2=Zz then⟨sk,62⟩
 else if (bt (lL (bj msg).val.cD 3 (Fz c k)).1 (bj msg).val.little).err≠0 \/
   (bt (lL (bj msg).val.cD 3 (Fz c k)).1 (bj msg).val.little).val.service.sK c.wanted=Zz then⟨sk,63⟩
 else⟨(bt (lL (bj msg).val.cD 3 (Fz c k)).1 (bj msg).val.little).val,0⟩
def uh(p:fO):eU:=⟨p.service,p.ay,p.bL,p.br,p.time,p.aH⟩
def ZA(c:Client)(k:Int)(msg:Bytes)(now:Int):Rcv :=
 if c.err≠0\/(c.wait≠1/\c.wait≠2) then⟨c,uc,108⟩
 else if (tF msg).err=0 then
  if (tF msg).val.client.sK c.me=Zz then⟨c,uc,63⟩ else⟨c.idle,uc,(tF msg).val.code⟩
 else if (sB c k msg).err≠0 then⟨c,uc,(sB c k msg).err⟩
 else if CX (sB c k msg).val.time now c.fK=Zz then⟨c,uc,37⟩
 else if (zm c.cache (uh (sB c k msg).val)).err≠0 then⟨c,uc,(zm c.cache (uh (sB c k msg).val)).err⟩
 else⟨{ c.idle with cache:=(zm c.cache (uh (sB c k msg).val)).val },uh (sB c k msg).val,0⟩
def LA(client service:bn)(ay nT:Int)(little:Bool)(time now bL:Int):Bytes :=
 (bc ⟨little,client,time,0,0,(gX 3 nT (bp ⟨ay,service,bL,2,[1,2,3],now⟩ little).val).val⟩).val
structure IU where
 kind:UInt8
 client:UInt8
 service:UInt8
 time:UInt8
 now:UInt8
 little:Bool
 nT:UInt8
 how:Int
def IU.av(x:IU):AV := .agg [.u8 x.kind,.u8 x.client,.u8 x.service,.u8 x.time,.u8 x.now,.bool x.little,.u8 x.nT,.int .u16 x.how]
structure I2 where
 dp:Int
 tick:Int
 time:Int
def fG(m:I2)(little:Bool):kP :=
 if !(within m.dp 4294967295&&within m.tick 199&&within m.time 4294967295) then⟨[],104⟩
 else⟨pad (aK (cond little 1 0) 1 Zz++aK m.dp 4 little++aK m.tick 1 Zz++aK m.time 4 little),0⟩
theorem NU(b:Bytes):List.drop (Int.toNat 2) (List.take (Int.toNat 10) b)=cut b 2 8:=by
 show List.drop 2 (List.take 10 b)=List.take 8 (List.drop 2 b);rw[List.drop_take]
theorem NT(b:Bytes)(n:Nat):List.drop (Int.toNat 12) (List.take (Int.toNat (12+(n:Int))) b)=cut b 12 n:=by
 have e:Int.toNat (12+(n:Int))=12+n:=by omega
 rw[e];show List.drop 12 (List.take (12+n) b)=List.take n (List.drop 12 b);rw[List.drop_take];congr 1;omega
theorem z9(b:Bytes)(p n:Int):(cut b p n).length<=b.length:=by unfold cut;simp;omega
theorem Li(x y:UInt8):IntKind.wrap .i64 (↑(BitVec.toNat (BitVec.ofInt (Zx .i64) (IntKind.wrap .i64 (IntKind.wrap .i64 (↑x.toNat:Int)*(2:Int) ^ min (Int.toNat (8:Int)) (Zx .i64))) ||| BitVec.ofInt (Zx .i64) (IntKind.wrap .i64 (↑y.toNat:Int)))):Int)=((x.toNat*256+y.toNat:Nat):Int):=by
 have hx:=x.toNat_lt;have hy:=y.toNat_lt;have e1:(2:Int) ^ min (Int.toNat (8:Int)) (Zx .i64)=256:=by decide
 rw[e1,wrap_i64 (n:=(x.toNat:Int)) (by omega) (by omega),wrap_i64 (n:=(y.toNat:Int)) (by omega) (by omega),wrap_i64 (n:=(x.toNat:Int)*256) (by omega) (by omega)];have e2:BitVec.toNat (BitVec.ofInt (Zx .i64) ((x.toNat:Int)*256) ||| BitVec.ofInt (Zx .i64) (y.toNat:Int))=x.toNat*256+y.toNat:=by
  rw[BitVec.toNat_or];have f1:(BitVec.ofInt (Zx .i64) ((x.toNat:Int)*256)).toNat=2 ^ 8*x.toNat:=by
   rw[BitVec.toNat_ofInt];show(((x.toNat:Int)*256) % ((2 ^ 64:Nat):Int)).toNat=_;rw[Int.emod_eq_of_lt (by omega) (by omega)];omega
  have f2:(BitVec.ofInt (Zx .i64) (y.toNat:Int)).toNat=y.toNat:=by
   rw[BitVec.toNat_ofInt];show((y.toNat:Int) % ((2 ^ 64:Nat):Int)).toNat=_;rw[Int.emod_eq_of_lt (by omega) (by omega)];omega
  rw[f1,f2,<-Nat.two_pow_add_eq_or_of_lt (by omega)];omega
 rw[e2,wrap_i64 (by omega) (by omega)]
theorem Eg(x:UInt8):IntKind.wrap .i64 (↑x.toNat:Int)=(x.toNat:Int):=by
 have hx:=x.toNat_lt;exact wrap_i64 (by omega) (by omega)
end Kerb
namespace Kerb
open Go Go.Abs
end Kerb
namespace Kerb
open Go Go.Abs
def m8(x:UInt8):UInt8:=UInt8.ofNat (Int.toNat (Int.tmod (↑x.toNat:Int) (↑(8:UInt8).toNat:Int)))
def d8(x:UInt8):Int:=IntKind.wrap .i64 (↑(UInt8.ofNat (Int.toNat (IntKind.wrap .u8 (Int.tdiv (↑x.toNat:Int) (↑(8:UInt8).toNat:Int))))).toNat:Int)
theorem SX(x:UInt8):0<=IntKind.wrap .i64 (↑x.toNat:Int)/\IntKind.wrap .i64 (↑x.toNat:Int)<=255:=by
 have h:=x.toNat_lt;rw[wrap_i64 (by omega) (by omega)];omega
def IU.me(x:IU)(c:Client):bn:=cond (m8 x.client==7) (user (d8 x.client)) c.me
def IU.wanted(x:IU)(c:Client):bn:=cond (m8 x.service==7) (Kerb.service (d8 x.service)) c.wanted
def IU.at'(x:IU)(c:Client):Int:=cond (m8 x.time==7) (IntKind.wrap .i64 (↑x.time.toNat:Int)) c.time
def IU.key(x:IU)(k:Int):Int:=cond (m8 x.nT==7) (ay (d8 x.nT)) k
def IU.code(x:IU):Int:=IntKind.wrap .i64 (↑(UInt8.ofNat (Int.toNat (IntKind.wrap .u8 ((↑(1:UInt8).toNat:Int)+(↑(UInt8.ofNat (Int.toNat (IntKind.wrap .u8 (Int.tdiv (↑x.kind.toNat:Int) (↑(8:UInt8).toNat:Int))))).toNat:Int))))).toNat:Int)
def IU.rep(x:IU)(c:Client)(k:Int):Bytes :=
 LA (x.me c) (x.wanted c) (ay 50) (x.key k) x.little (x.at' c) (IntKind.wrap .i64 (1000+IntKind.wrap .i64 (IntKind.wrap .i64 (↑x.now.toNat:Int)*4))) 100
def IU.text(x:IU)(c:Client)(k:Int):Bytes :=
 cond (m8 x.kind==7) (qh ⟨x.little,x.me c,9,x.code,[]⟩).val (cond (m8 x.kind==6) (sY (x.rep c k) x.how) (x.rep c k))
end Kerb
namespace Kerb
open Go Go.Abs
def fO.ok(p:fO):Prop:=(uh p).ok/\p.aH.length<=255
end Kerb
namespace Kerb
open Go Go.Abs
end Kerb
/- Chapters 10, 18, 20: the answer of a service, and what a client makes of it. -/
namespace Kerb
open Go Go.Abs
def b_(s:Bytes)(li:Bool):kP :=
 if 1012<s.length then⟨[],105⟩ else⟨header 8 li++aK s.length 2 li++s,0⟩
def sA(b:Bytes)(li:Bool):Bytes:=let n:=get b 2 2 li;(bytes b n.next n.val).val
def x5(b:Bytes)(li:Bool):Rd Bytes :=
 let n:=dE b 2 li 2 Zz
 df b n.val n.pos n.bad
structure SZ where
 val:Bytes
 little:Bool
 err:Int
def gV(b:Bytes):SZ :=
 if (aN b [8]).2≠0 then⟨[],Zz,(aN b [8]).2⟩
 else if (eG [] (fun s=>b_ s (aN b [8]).1) (fun b'=>(sA b' (aN b [8]).1,Zz)) b).err=0 then
  ⟨(eG [] (fun s=>b_ s (aN b [8]).1) (fun b'=>(sA b' (aN b [8]).1,Zz)) b).val,(aN b [8]).1,0⟩ else⟨[],Zz,100⟩
theorem NC{s:Bytes}{li:Bool}(h:(b_ s li).err=0):(b_ s li).val=header 8 li++(aK s.length 2 li++(s++[]))/\s.length<=1012:=by grind [b_]
theorem Dp(li:Bool):(header 8 li).length=2:=by cases li<;>rfl
theorem F6{s:Bytes}{li:Bool}(h:(b_ s li).err=0):get (b_ s li).val 2 2 li=⟨s.length,4,0⟩/\∃ q,bytes (b_ s li).val 4 s.length=⟨s,q,0⟩:=by
 obtain⟨hz,hs⟩:=NC h;have p0:=(At.start (b_ s li).val).as hz;have p1:=p0.skip;rw[Dp] at p1;obtain⟨e1,p2⟩:=p1.get (.inr (.inl rfl)) (by omega) (by omega);obtain⟨e2,_⟩:=p2.bytes (n:=s.length) rfl;exact⟨e1,_,e2⟩
theorem Fv{s:Bytes}{li:Bool}(h:(b_ s li).err=0):sA (b_ s li).val li=s:=by
 obtain⟨e1,q,e2⟩:=F6 h;unfold sA;simp only[e1,e2]
theorem BI{s:Bytes}{li:Bool}(h:(b_ s li).err=0):(x5 (b_ s li).val li).val=s/\(x5 (b_ s li).val li).bad=Zz:=by
 obtain⟨e1,q,e2⟩:=F6 h;unfold x5 dE df;simp[e1,e2]
theorem Gr(b:Bytes)(li:Bool):eG [] (fun s=>b_ s li) (fun b'=>(sA b' li,Zz)) b=eG [] (fun s=>b_ s li) (fun b'=>((x5 b' li).val,(x5 b' li).bad)) b :=
 io (P:=fun _=>True) (fun _ _ h=>by simp only[Fv h]) (fun r _ h=>Prod.ext (BI h).1 (BI h).2) (fun _=>trivial) (fun _=>trivial) b
def xS(n:Int):Int:=(n+1) % 4294967296
def C5(ay dp time tick:Int)(li:Bool):kP :=
 if (fG ⟨xS dp,tick,time⟩ li).err≠0 then⟨[],(fG ⟨xS dp,tick,time⟩ li).err⟩
 else if (gX 4 ay (fG ⟨xS dp,tick,time⟩ li).val).err≠0 then⟨[],(gX 4 ay (fG ⟨xS dp,tick,time⟩ li).val).err⟩
 else b_ (gX 4 ay (fG ⟨xS dp,tick,time⟩ li).val).val li
structure ZH where
 c:Client
 err:Int
theorem vu(b:Bytes):(gV b).val.length<=1012:=by
 unfold gV;split
 ·simp
 split
 ·rename_i h0 h;unfold eG at h ⊢;split at h
  ·cases h
  ·rename_i h2;rw[Qa0 h2];exact(NC (Decidable.byContradiction fun x=>h2 (.inr (.inl x)))).2
 ·simp
end Kerb
/- Chapters 12 and 14: the principals of a realm, keys between realms. -/
namespace Kerb
open Go Go.Abs
structure g_ where
 name:Bytes
 inst:Bytes
 key:Int
 br:Int
 cE:Int
 mY:Int
 attr:Int
 AM:Int
 Kr:Int
def noEntry:g_:=⟨[],[],0,0,0,0,0,0,0⟩
def g_.av(e:g_):AV := .agg [.str e.name,.str e.inst,.int .u64 e.key,.int .i64 e.br,.int .i64 e.cE,.int .i64 e.mY,.int .i64 e.attr,.int .i64 e.AM,.int .i64 e.Kr]
def oH(n:Int):Bool:=decide (-9223372036854775808<=n)&&decide (n<=9223372036854775807)
def Dw(n:Int):Bool:=decide (0<=n)&&decide (n<18446744073709551616)
def RQ:AV->Bool
 | .agg [.str n,.str i,.int .u64 k,.int .i64 v,.int .i64 x,.int .i64 m,.int .i64 a,.int .i64 f,.int .i64 t] =>
  decide (n.length<=9223372036854775807)&&decide (i.length<=9223372036854775807)&&Dw k&&oH v&&oH x&&oH m&&oH a&&oH f&&oH t
 | _=>Zz
def g_.ok(e:g_):Prop:=e.name.length<=9223372036854775807/\e.inst.length<=9223372036854775807/\Dw e.key=true/\oH e.br=true/\oH e.cE=true/\oH e.mY=true/\oH e.attr=true/\oH e.AM=true/\oH e.Kr=true
def g_.err(e:g_):Int :=
 if !(validName e.name&&cl e.inst) then 103
 else if e.key≠0/\bA e.key=Zz then 10
 else if !(within e.br 255&&(within e.cE 4294967295&&within e.Kr 4294967295)) then 104
 else if !(within e.mY 255&&(within e.attr 3&&within e.AM 20)) then 104 else 0
def g_.less(a b:g_):Bool:=Op.bytesLess a.name b.name||(a.name==b.name&&Op.bytesLess a.inst b.inst)
def AK:Option g_->List g_->Int
 | _,[]=>0
 | p,e::r=>if e.err≠0 then e.err else if (match p with | some q=>e.less q | none=>Zz) then 110 else AK (some e) r
structure Db where
 aL:Bytes
 entries:List g_
def g_.sK(a b:g_):Bool:=a.name==b.name&&(a.inst==b.inst&&(a.key==b.key&&(a.br==b.br&&(a.cE==b.cE&&(a.mY==b.mY&&(a.attr==b.attr&&(a.AM==b.AM&&a.Kr==b.Kr)))))))
def HP:List g_->List g_->Bool
 | [],[]=>true
 | a::l,b::r=>a.sK b&&HP l r
 | _,_=>Zz
def Db.same(a b:Db):Bool:=a.aL==b.aL&&HP a.entries b.entries
theorem g_.GC(a:g_):a.sK a=true:=by simp[g_.sK]
def Db.err(d:Db):Int:=if !dI d.aL then 103 else if 60<d.entries.length then 106 else AK none d.entries
def g_.named(n i:Bytes)(e:g_):Bool:=e.name==n&&e.inst==i
def lI(l:List g_)(n i:Bytes):Int×Int :=
 if l.countP (g_.named n i)=0 then(0,8) else if 1<l.countP (g_.named n i) then(0,9) else((l.findIdx (g_.named n i):Int),0)
def VE(a b:Int):Int:=IntKind.wrap .i64 ((BitVec.ofInt 64 a &&& BitVec.ofInt 64 b).toNat:Int)
def Q0(d:Db)(n i:Bytes)(now bit expired S_:Int):Int×Int :=
 if (lI d.entries n i).2≠0 then(0,(lI d.entries n i).2)
 else if bA (d.entries.getD (lI d.entries n i).1.toNat noEntry).key=Zz then(0,10)
 else if (d.entries.getD (lI d.entries n i).1.toNat noEntry).cE≠0/\(d.entries.getD (lI d.entries n i).1.toNat noEntry).cE<=now then(0,expired)
 else if VE (d.entries.getD (lI d.entries n i).1.toNat noEntry).attr bit≠0 then(0,S_)
 else((lI d.entries n i).1,0)
def qS(d:Db)(n i:Bytes)(now:Int):Int×Int:=Q0 d n i now 1 1 5
def nU(d:Db)(n i:Bytes)(now:Int):Int×Int:=Q0 d n i now 2 2 6
structure oe where
 source:Bytes
 target:Bytes
 br:Int
 key:Int
def oT:oe:=⟨[],[],0,0⟩
def oe.av(c:oe):AV := .agg [.str c.source,.str c.target,.int .i64 c.br,.int .u64 c.key]
def Ez(l:List oe)(a b:Bytes):Nat->Option Nat
 | 0=>none
 | i+1=>cond ((l.getD i oT).source==a&&((l.getD i oT).target==b&&(match Ez l a b i with | some j=>decide ((l.getD j oT).br<(l.getD i oT).br) | none=>true))) (some i) (Ez l a b i)
def yN(l:List oe)(a b:Bytes):Int×Bool:=match Ez l a b l.length with | some i=>((i:Int),true) | none=>(0,Zz)
end Kerb
/- Chapter 24: clients of kaservers, in plain words. -/
namespace Kerb
open Go Go.Abs
structure Nt where
 op:Int
 time:Int
 start:Int
 stop:Int
 service:bn
 ay:Int
 new:Int
structure ZI where
 w:Nt
 msg:Bytes
 err:Int
structure aeG where
 c:Client
 w:Nt
 VG:eU
 err:Int
structure ZJ where
 op:UInt8
 label:UInt8
 time:UInt8
 service:UInt8
 key:UInt8
 code:UInt8
 start:Int
 stop:Int
 how:Int
end Kerb
/- Chapters 17 and 23: tickets that are granted, the servers of AFS. -/
namespace Kerb
open Go Go.Abs
def Bg:Bytes:=[107,114,98,116,103,116]
structure ZL where
 key:Int
 br:Int
 bL:Int
 cE:Int
 err:Int
def FM(d:Db)(eN:List oe)(n i:Bytes)(now:Int):ZL :=
 if n==Bg&&(dI i && !(i==d.aL)) then
  (if (yN eN d.aL i).2 then⟨(eN.getD (yN eN d.aL i).1.toNat oT).key,(eN.getD (yN eN d.aL i).1.toNat oT).br,255,0,0⟩ else⟨0,0,0,0,8⟩)
 else if (nU d n i now).2≠0 then⟨0,0,0,0,(nU d n i now).2⟩
 else⟨(d.entries.getD (nU d n i now).1.toNat noEntry).key,(d.entries.getD (nU d n i now).1.toNat noEntry).br,(d.entries.getD (nU d n i now).1.toNat noEntry).mY,(d.entries.getD (nU d n i now).1.toNat noEntry).cE,0⟩
structure zn where
 kind:Int
 server:bn
 client:bn
 service:bn
 ay:Int
 nT:Int
 rY:Int
 text:Bytes
 cG:Int
 stop:Int
def m4:zn:=⟨0,dx,dx,dx,0,0,0,[],0,0⟩
def zn.cs(x:zn):List AV:=[.int .i64 x.kind,.str x.server.name,.str x.server.inst,.str x.server.aL,.str x.client.name,.str x.client.inst,.str x.client.aL,.str x.service.name,.str x.service.inst,.str x.service.aL,.int .u64 x.ay,.int .u64 x.nT,.int .u64 x.rY,.bs x.text,.int .i64 x.cG,.int .i64 x.stop]
def zn.same(a b:zn):Bool:=a.kind==b.kind&&(a.server.sK b.server&&(a.client.sK b.client&&(a.service.sK b.service&&(a.ay==b.ay&&(a.nT==b.nT&&(a.rY==b.rY&&(a.text==b.text&&(a.cG==b.cG&&a.stop==b.stop))))))))
structure Rg where
 jC:zn
 part:fO
 err:Int
def q_(little:Bool)(client service:bn)(address now bL ay:Int):dQ:=⟨little,client,address,ay,bL,now,service.name,service.inst⟩
def vz(aL:Bytes)(client service:bn)(address:Int)(little:Bool)(now bL ay nT target br:Int):Rg :=
 if (gN (q_ little client service address now bL ay) target).err≠0 then⟨m4,sk,(gN (q_ little client service address now bL ay) target).err⟩
 else if (bp ⟨ay,service,bL,br,(gN (q_ little client service address now bL ay) target).val,now⟩ little).err≠0 then
  ⟨m4,sk,(bp ⟨ay,service,bL,br,(gN (q_ little client service address now bL ay) target).val,now⟩ little).err⟩
 else⟨⟨0,ZC aL aL,client,service,ay,nT,0,(gN (q_ little client service address now bL ay) target).val,now,UN now bL⟩,⟨ay,service,bL,br,(gN (q_ little client service address now bL ay) target).val,now⟩,0⟩
def refuse(client:bn)(code now:Int)(little:Bool):Bytes:=(qh ⟨little,client,now,code,message code⟩).val
structure Vt where
 db:Db
 answer:Bytes
 jC:zn
 ok:Bool
def iY(d:Db)(i:Int):g_:=d.entries.getD i.toNat noEntry
def eK.bd(s:eK):Prop:=(0<=s.time/\s.time<=4294967295)/\(0<=s.stop/\s.stop<=4294967295)/\0<=s.new/\s.new<18446744073709551616
def dQ.bd(t:dQ):Prop:=t.client.name.length<=40/\t.client.inst.length<=40/\t.client.aL.length<=40/\Dw t.ay=true
def Db.ok(d:Db):Prop:=∀ e∈d.entries,e.ok
def c6.bd(r:c6):Prop:=(r.user.name.length<=40/\r.user.inst.length<=40/\r.user.aL.length<=40/\r.aL.length<=40/\r.service.length<=40/\r.inst.length<=40)/\mT r.op=true/\r.aH.length<=255/\r.box.length<=1012
end Kerb
/- Chapters 7, 10, 13, 16, 18: what is decoded, keys of services, replay caches, services that verify. -/
namespace Kerb
open Go Go.Abs
def sj:nt:=⟨dx,0,0,0⟩
def Po(b:Bytes)(li:Bool):nt :=
 let p:=gF b 1
 let c:=get b p.next 4 li
 let t:=get b c.next 1 Zz
 ⟨p.val,c.val,t.val,(get b t.next 4 li).val⟩
def AE(b:Bytes)(li:Bool):FY nt:=eG sj (fun a=>iT a li) (fun b=>(Po b li,Zz)) b
def ug(b:Bytes)(li:Bool)(k:Int):FY nt :=
 if (lL b 2 k).2=Zz then⟨sj,31⟩
 else if (AE (lL b 2 k).1 li).err≠0 then⟨sj,31⟩ else⟨(AE (lL b 2 k).1 li).val,0⟩
structure Vr where
 val:cI
 next:Int
def jP(b:Bytes):Vr :=
 let k:=get b 2 1 Zz
 let s:=text b k.next
 let n:=get b s.next 1 Zz
 let m:=get b n.next 1 Zz
 let t:=bytes b m.next n.val
 let a:=bytes b t.next m.val
 ⟨⟨(bg b).little,(bg b).kind==4,k.val,s.val,t.val,a.val⟩,a.next⟩
def Fs(b:Bytes)(li mtl:Bool):Rd cI :=
 let k:=dE b 1 Zz 2 Zz
 let s:=nk b k.pos k.bad
 let n:=dE b 1 Zz s.pos s.bad
 let m:=dE b 1 Zz n.pos n.bad
 let t:=df b n.val m.pos m.bad
 let a:=df b m.val t.pos t.bad
 ⟨⟨li,mtl,k.val,s.val,t.val,a.val⟩,a.pos,a.bad⟩
def eC(b:Bytes):FY cI :=
 if (aN b [3,4]).2≠0 then⟨yZ,(aN b [3,4]).2⟩ else eG yZ bf (fun b=>((jP b).val,Zz)) b
theorem zo{r:cI}(h:(bf r).err=0):(bf r).val=header (cond r.cW 4 3) r.little++(aK r.br 1 Zz++(r.aL++0::(aK r.aH.length 1 Zz++(aK r.fm.length 1 Zz++(r.aH++(r.fm++[])))))) /\
  (r.aL.length<=39/\(0:UInt8) ∉ r.aL)/\(0<=r.br/\r.br<=255)/\r.aH.length<=255/\r.fm.length<=255:=by
 unfold bf at h ⊢;split at h
 ·cases h
 rename_i h1;rw[Qa0 h1];split at h
 ·cases h
 rename_i h2;rw[Qa0 h2];split at h
 ·cases h
 rename_i h3;rw[Qa0 h3];simp only[Zw,Zv,within_iff] at h1 h2;refine⟨by unfold bw;simp only[List.append_assoc,List.singleton_append,List.cons_append,List.nil_append,List.append_nil],?_,h2,by omega,by omega⟩;simp only[dI,Zy] at h1;exact inst_ok' h1.2 where
 inst_ok' {s:Bytes} (h:cl s=true):s.length<=39/\(0:UInt8) ∉ s:=by
  simp only[cl,Zy,Qa2] at h;exact⟨h.1,fun hm=>by
   have:=h.2;simp only[eR,List.all_eq_true] at this;exact absurd (this 0 hm) (by decide)⟩
theorem En{r:cI}(z:Bytes):bg (header (cond r.cW 4 3) r.little++z)=⟨cond r.cW 4 3,r.little,0⟩:=by
 cases r.cW<;>exact zx (by decide) (by decide) _ _
theorem KF{r:cI}(h:(bf r).err=0):∃ q1 q2 q3 q4 q5 q6:Int,get (bf r).val 2 1 Zz=⟨r.br,q1,0⟩/\text (bf r).val q1=⟨r.aL,q2,0⟩/\get (bf r).val q2 1 Zz=⟨r.aH.length,q3,0⟩/\get (bf r).val q3 1 Zz=⟨r.fm.length,q4,0⟩ /\
  bytes (bf r).val q4 r.aH.length=⟨r.aH,q5,0⟩/\bytes (bf r).val q5 r.fm.length=⟨r.fm,q6,0⟩:=by
 obtain⟨hz,⟨n0,n1⟩,⟨a0,a1⟩,t1,u1⟩:=zo h;have p0:=(At.start (bf r).val).as hz;have p1:=p0.skip;rw[show(header (cond r.cW 4 3) r.little).length=2 by cases r.cW<;>cases r.little<;>rfl] at p1;obtain⟨e1,p2⟩:=p1.mI a0 a1;obtain⟨e2,p3⟩:=p2.text n0 n1;obtain⟨e3,p4⟩:=p3.mI (by omega) (by omega);obtain⟨e4,p5⟩:=p4.mI (by omega) (by omega);obtain⟨e5,p6⟩:=p5.bytes (n:=r.aH.length) rfl;obtain⟨e6,_⟩:=p6.bytes (n:=r.fm.length) rfl;exact⟨_,_,_,_,_,_,e1,e2,e3,e4,e5,e6⟩
theorem HJ{r:cI}(h:(bf r).err=0):(jP (bf r).val).val=r:=by
 obtain⟨q1,q2,q3,q4,q5,q6,e1,e2,e3,e4,e5,e6⟩:=KF h;have hh:bg (bf r).val=⟨cond r.cW 4 3,r.little,0⟩:=by rw[(zo h).1];exact En _
 unfold jP;simp only[e1,e2,e3,e4,e5,e6,hh];have:((cond r.cW 4 3:Int)==4)=r.cW:=by cases r.cW<;>rfl
 rw[this]
theorem DV{r:cI}(h:(bf r).err=0):(Fs (bf r).val (bg (bf r).val).little ((bg (bf r).val).kind==4)).val=r/\(Fs (bf r).val (bg (bf r).val).little ((bg (bf r).val).kind==4)).bad=Zz:=by
 obtain⟨q1,q2,q3,q4,q5,q6,e1,e2,e3,e4,e5,e6⟩:=KF h;have hh:bg (bf r).val=⟨cond r.cW 4 3,r.little,0⟩:=by rw[(zo h).1];exact En _
 have:((cond r.cW 4 3:Int)==4)=r.cW:=by cases r.cW<;>rfl
 unfold Fs dE nk df;simp[e1,e2,e3,e4,e5,e6,hh,this]
theorem LB(b:Bytes):eG yZ bf (fun b=>((jP b).val,Zz)) b=eG yZ bf (fun b=>((Fs b (bg b).little ((bg b).kind==4)).val,(Fs b (bg b).little ((bg b).kind==4)).bad)) b :=
 io (P:=fun _=>True) (fun _ _ h=>by simp only[HJ h]) (fun r _ h=>Prod.ext (DV h).1 (DV h).2) (fun _=>trivial) (fun _=>trivial) b
theorem CN{b:Bytes}{l:List Int}(h:(aN b l).2=0):(aN b l).1=(bg b).little:=by grind [aN]
structure p8 where
 service:bn
 br:Int
 key:Int
def Uf:p8:=⟨dx,0,0⟩
def p8.av(c:p8):AV := .agg [.str c.service.name,.str c.service.inst,.str c.service.aL,.int .i64 c.br,.int .u64 c.key]
def p8.ok(c:p8):Prop:=c.service.name.length<=9223372036854775807/\c.service.inst.length<=9223372036854775807/\c.service.aL.length<=9223372036854775807/\oH c.br=true/\Dw c.key=true
def p8.sK(a b:p8):Bool:=a.service.name==b.service.name&&(a.service.inst==b.service.inst&&(a.service.aL==b.service.aL&&(a.br==b.br&&a.key==b.key)))
def p8.is(p:bn)(v:Int)(x:p8):Bool:=x.service.sK p&&x.br==v
def X8(l:List p8)(p:bn)(v:Int):Nat:=l.findIdx (p8.is p v)
def lu(l:List p8)(p:bn)(v:Int):Int×Bool:=if X8 l p v<l.length then((l.getD (X8 l p v) Uf).key,true) else(0,Zz)
def p8.err(x:p8):Int:=if !x.service.valid then 103 else if !within x.br 255 then 104 else if !bA x.key then 10 else 0
def PB:List p8->List p8->Int
 | _,[]=>0
 | seen,c::r=>if c.err≠0 then c.err else if seen.any (p8.is c.service c.br) then 107 else PB (seen++[c]) r
def SS(l:List p8):Int:=if 60<l.length then 106 else PB [] l
def D1:List p8->List p8->Bool
 | [],[]=>true
 | a::l,b::r=>a.sK b&&D1 l r
 | _,_=>Zz
structure Mark where
 client:bn
 time:Int
 tick:Int
def Mark.av(m:Mark):AV := .agg [.str m.client.name,.str m.client.inst,.str m.client.aL,.int .i64 m.time,.int .i64 m.tick]
def Mark.ok(m:Mark):Prop:=m.client.name.length<=9223372036854775807/\m.client.inst.length<=9223372036854775807/\m.client.aL.length<=9223372036854775807/\oH m.time=true/\oH m.tick=true
def Mark.sK(a b:Mark):Bool:=a.client.name==b.client.name&&(a.client.inst==b.client.inst&&(a.client.aL==b.client.aL&&(a.time==b.time&&a.tick==b.tick)))
theorem Mark.qi{a b:Mark}:a.sK b=true↔a=b:=by
 obtain⟨⟨a1,a2,a3⟩,a4,a5⟩:=a;obtain⟨⟨b1,b2,b3⟩,b4,b5⟩:=b;simp[Mark.sK,and_assoc]
def xv(l:List Mark)(m:Mark):Bool:=l.any fun x=>x.sK m
structure pj where
 size:Int
 floor:Int
 marks:List Mark
def Ms:pj:=⟨0,0,[]⟩
def Mark.err(floor:Int)(m:Mark):Int :=
 if !m.client.valid then 103 else if !(decide (floor<=m.time)&&decide (m.time<=4294967295)&&within m.tick 199) then 104 else 0
def Hk(floor:Int):List Mark->List Mark->Int
 | _,[]=>0
 | seen,c::r=>if c.err floor≠0 then c.err floor else if xv seen c then 107 else Hk floor (seen++[c]) r
def pj.err(r:pj):Int :=
 if !(decide (1<=r.size)&&decide (r.size<=40)&&within r.floor 4294967295) then 104 else if r.size<r.marks.length then 106 else Hk r.floor [] r.marks
def pE(r:pj)(now fK:Int):List Mark:=r.marks.filter fun x=>decide (imax r.floor (now-fK)<=x.time)
def nX(r:pj)(m:Mark)(now fK:Int):FY pj :=
 if r.err≠0 then⟨Ms,108⟩ else if !m.client.valid then⟨Ms,103⟩ else if !within m.tick 199 then⟨Ms,104⟩
 else if CX m.time now fK=Zz\/m.time<r.floor then⟨Ms,37⟩ else if xv r.marks m then⟨Ms,34⟩
 else if r.size<=(pE r now fK).length then⟨Ms,82⟩
 else⟨⟨r.size,imax r.floor (now-fK),pE r now fK++[m]⟩,0⟩
def D0:List Mark->List Mark->Bool
 | [],[]=>true
 | a::l,b::r=>a.sK b&&D0 l r
 | _,_=>Zz
def pj.same(a b:pj):Bool:=a.size==b.size&&(a.floor==b.floor&&D0 a.marks b.marks)
structure Server where
 me:bn
 keys:List p8
 replay:pj
 fK:Int
structure pg where
 client:bn
 ay:Int
 address:Int
 dp:Int
 time:Int
 tick:Int
 cG:Int
 bL:Int
 aH:Bytes
 fm:Bytes
def sg:pg:=⟨dx,0,0,0,0,0,0,0,[],[]⟩
def Server.err(s:Server):Int :=
 if !s.me.valid then 103 else if SS s.keys≠0 then SS s.keys else if s.replay.err≠0 then s.replay.err else if !within s.fK 4294967295 then 104 else 0
structure S5 where
 aH:dQ
 fm:nt
 err:Int
def vf(t:dQ)(aL:Bytes):bn:=⟨t.service,t.inst,aL⟩
def dZ(s:Server)(r:cI):S5 :=
 if r.aL≠s.me.aL then⟨jg,sj,35⟩
 else if (lu s.keys s.me r.br).2=Zz then⟨jg,sj,35⟩
 else if (gL r.aH (lu s.keys s.me r.br).1).err=7 then⟨jg,sj,7⟩
 else if (gL r.aH (lu s.keys s.me r.br).1).err≠0 then⟨jg,sj,31⟩
 else if (vf (gL r.aH (lu s.keys s.me r.br).1).val s.me.aL).sK s.me=Zz then⟨jg,sj,35⟩
 else if (ug r.fm r.little (gL r.aH (lu s.keys s.me r.br).1).val.ay).err≠0 then⟨jg,sj,31⟩
 else⟨(gL r.aH (lu s.keys s.me r.br).1).val,(ug r.fm r.little (gL r.aH (lu s.keys s.me r.br).1).val.ay).val,0⟩
def K5(t:dQ)(a:nt)(src now fK:Int):Int :=
 if t.client.sK a.client=Zz then 36 else if src≠t.address then 38 else if CX a.time now fK=Zz then 37 else IJ t.cG t.bL now fK
def wc(a:nt):Mark:=⟨a.client,a.time,a.tick⟩
structure F3 where
 s:Server
 a:pg
 err:Int
def verify(s:Server)(r:cI)(src now:Int):F3 :=
 if s.err≠0 then⟨s,sg,108⟩
 else if (dZ s r).err≠0 then⟨s,sg,(dZ s r).err⟩
 else if K5 (dZ s r).aH (dZ s r).fm src now s.fK≠0 then⟨s,sg,K5 (dZ s r).aH (dZ s r).fm src now s.fK⟩
 else if (nX s.replay (wc (dZ s r).fm) now s.fK).err≠0 then⟨s,sg,(nX s.replay (wc (dZ s r).fm) now s.fK).err⟩
 else⟨⟨s.me,s.keys,(nX s.replay (wc (dZ s r).fm) now s.fK).val,s.fK⟩,⟨(dZ s r).aH.client,(dZ s r).aH.ay,(dZ s r).aH.address,(dZ s r).fm.dp,(dZ s r).fm.time,(dZ s r).fm.tick,(dZ s r).aH.cG,(dZ s r).aH.bL,r.aH,r.fm⟩,0⟩
def pg.XU(a:pg)(li:Bool):kP:=C5 a.ay a.dp a.time a.tick li
structure aeJ where
 s:Server
 a:pg
 answer:Bytes
 err:Int
def pg.same(a b:pg):Bool:=a.client.sK b.client&&a.ay==b.ay&&a.address==b.address&&a.dp==b.dp&&a.time==b.time&&a.tick==b.tick&&a.cG==b.cG&&a.bL==b.bL&&a.aH==b.aH&&a.fm==b.fm
def Server.same(a b:Server):Bool:=a.me.sK b.me&&a.fK==b.fK&&D1 a.keys b.keys&&a.replay.same b.replay
theorem zq(b:Bytes):(eC b).val.aL.length<=9223372036854775807/\(eC b).val.aH.length<=255/\(eC b).val.fm.length<=255:=by
 unfold eC;split
 ·exact⟨by simp[yZ],by simp[yZ],by simp[yZ]⟩
 unfold eG;split
 ·exact⟨by simp[yZ],by simp[yZ],by simp[yZ]⟩
 ·rename_i h;have he:(bf (jP b).val).err=0:=Decidable.byContradiction fun q=>h (.inr (.inl q));obtain⟨_,h1,_,h2,h3⟩:=zo he;exact⟨by have:=h1.1;dsimp only;omega,h2,h3⟩
end Kerb
/- Chapter 11: safe and private messages, in plain words. -/
namespace Kerb
open Go Go.Abs
structure qP where
 data:Bytes
 tick:Int
 addr:Int
 time:Int
def eu(p:qP)(li:Bool):kP :=
 if 500<p.data.length then⟨[],105⟩
 else if !(within p.tick 199&&within p.addr 4294967295&&within p.time 4294967295) then⟨[],104⟩
 else⟨pad (aK (cond li 1 0) 1 Zz++aK p.data.length 2 li++p.data++aK p.tick 1 Zz++aK p.addr 4 li++aK p.time 4 li),0⟩
structure Nv where
 text:Bytes
 box:Bytes
 err:Int
def lq(p:qP)(li:Bool)(kind k:Int):Nv :=
 if (eu p li).err≠0 then⟨[],[],(eu p li).err⟩
 else if (gX kind k (eu p li).val).err≠0 then⟨[],[],(gX kind k (eu p li).val).err⟩
 else⟨(eu p li).val,(gX kind k (eu p li).val).val,0⟩
def BG(b s:Bytes)(li:Bool):Bytes:=b++aK s.length 2 li++s
def ru(p:qP)(li:Bool)(k:Int):kP :=
 if (lq p li 5 k).err≠0 then⟨[],(lq p li 5 k).err⟩ else⟨BG (header 6 li) (lq p li 5 k).box li,0⟩
def ry(p:qP)(li:Bool)(k:Int):kP :=
 if (lq p li 6 k).err≠0 then⟨[],(lq p li 6 k).err⟩ else⟨BG (BG (header 7 li) (lq p li 6 k).text li) (lq p li 6 k).box li,0⟩
theorem tO(p:qP)(li:Bool):(eu p li).val.length<=1000:=by
 unfold eu;split
 ·exact Nat.zero_le _
 split
 ·exact Nat.zero_le _
 ·rename_i h _;obtain⟨z,hz,hl⟩:=pQ (aK (cond li 1 0) 1 Zz++aK p.data.length 2 li++p.data++aK p.tick 1 Zz++aK p.addr 4 li++aK p.time 4 li);simp only[hz,List.length_append,ah];omega
theorem Bo(kd k:Int)(b:Bytes):(gX kd k b).val.length<=1012:=by grind [aj,ah,gX]
theorem sD(p:qP)(li:Bool)(kd k:Int):(lq p li kd k).text.length<=1000/\(lq p li kd k).box.length<=1012:=by
 unfold lq;split
 ·simp
 split
 ·simp
 ·exact⟨tO _ _,Bo _ _ _⟩
structure Ky where
 val:Bytes
 next:Int
 ok:Bool
def eo(b:Bytes)(pos most:Int)(li:Bool):Ky :=
 if (get b pos 2 li).err≠0\/most<(get b pos 2 li).val then⟨[],0,Zz⟩
 else⟨(bytes b (get b pos 2 li).next (get b pos 2 li).val).val,(bytes b (get b pos 2 li).next (get b pos 2 li).val).next,(bytes b (get b pos 2 li).next (get b pos 2 li).val).err==0⟩
structure KA where
 kind:Int
 plain:Bytes
 cD:Bytes
 little:Bool
 err:Int
def iQ(b:Bytes):Ky:=cond ((bg b).kind==7) (eo b 2 1000 (aN b [6,7]).1) ⟨[],2,true⟩
def gA(b:Bytes):KA :=
 if (aN b [6,7]).2≠0 then⟨0,[],[],Zz,(aN b [6,7]).2⟩
 else if (iQ b).ok=true/\(eo b (iQ b).next 1012 (aN b [6,7]).1).ok=true/\(eo b (iQ b).next 1012 (aN b [6,7]).1).next=b.length then
  ⟨(bg b).kind,(iQ b).val,(eo b (iQ b).next 1012 (aN b [6,7]).1).val,(aN b [6,7]).1,0⟩
 else⟨0,[],[],Zz,100⟩
def eZ(b:Bytes)(li:Bool)(pos:Int)(bad:Bool):Rd Bytes :=
 let n:=dE b 2 li pos bad
 df b n.val n.pos n.bad
def kr(b:Bytes):Rd Bytes:=cond ((bg b).kind==7) (eZ b (aN b [6,7]).1 2 Zz) ⟨[],2,Zz⟩
def kX(b:Bytes):Rd Bytes:=eZ b (aN b [6,7]).1 (kr b).pos (kr b).bad
theorem zd{b:Bytes}{li:Bool}{pos most:Int}(h:(eo b pos most li).ok=true):eZ b li pos Zz=⟨(eo b pos most li).val,(eo b pos most li).next,Zz⟩/\((eo b pos most li).val.length:Int)<=most:=by
 unfold eo at h ⊢;split at h
 ·cases h
 rename_i h0;rw[Qa0 h0];simp only[Qb1] at h;have e1:(get b pos 2 li).err=0:=Classical.byContradiction fun q=>h0 (.inl q);constructor
 ·unfold eZ dE df;simp only[e1,BEq.rfl,Bool.not_true,Bool.or_false,Qa7,Bool.false_or,h]
 ·have hl:=vr h;have hb:=EN b pos 2 li (by omega);simp only;omega where
 vr {b:Bytes} {pos n:Int} (h:(bytes b pos n).err=0):((bytes b pos n).val.length:Int)=n.toNat:=by
  unfold bytes at h ⊢;split at h
  ·rename_i h1;rw[Qa1 h1];simp only[iS h1]
  ·rename_i h1;exact absurd h h1
theorem zJ{b:Bytes}{li:Bool}{pos most:Int}{bad:Bool}(h:(eZ b li pos bad).bad=Zz)(hl:((eZ b li pos bad).val.length:Int)<=most):bad=Zz/\eo b pos most li=⟨(eZ b li pos Zz).val,(eZ b li pos Zz).pos,true⟩:=by
 unfold eZ dE df at h hl;simp only[Bool.or_eq_false_iff,Bool.not_eq_false',Qb1] at h hl;obtain⟨⟨h1,h2⟩,h3⟩:=h;subst h1;rw[h2] at h3 hl;simp only[BEq.rfl,Bool.not_true,Bool.or_false,Qa7] at h3 hl;have hb:=EN b pos 2 li (by omega);have hn:=zd.vr h3;refine⟨rfl,?_⟩;unfold eo eZ dE df;rw[Qa0 (by rintro(q | q);exact q h2;omega)];simp only[h2,BEq.rfl,Bool.not_true,Bool.or_false,Qa7,h3,Bool.false_or]
theorem HD(b:Bytes):gA b=if (aN b [6,7]).2≠0 then⟨0,[],[],Zz,(aN b [6,7]).2⟩
  else if (kX b).bad=true\/(kX b).pos≠b.length\/(1000:Int)<(kr b).val.length\/(1012:Int)<(kX b).val.length then⟨0,[],[],Zz,100⟩
  else⟨(bg b).kind,(kr b).val,(kX b).val,(aN b [6,7]).1,0⟩:=by
 unfold gA;by_cases h0:(aN b [6,7]).2≠0
 ·rw[Qa1 h0,Qa1 h0]
 rw[Qa0 h0,Qa0 h0];by_cases hc:(iQ b).ok=true/\(eo b (iQ b).next 1012 (aN b [6,7]).1).ok=true/\(eo b (iQ b).next 1012 (aN b [6,7]).1).next=b.length
 ·rw[Qa1 hc];obtain⟨c1,c2,c3⟩:=hc;have hp:kr b=⟨(iQ b).val,(iQ b).next,Zz⟩/\((iQ b).val.length:Int)<=1000:=by
   unfold iQ at c1;unfold kr iQ;cases hk:((bg b).kind==7)
   ·exact⟨rfl,by simp⟩
   ·rw[hk] at c1;exact zd c1
  have hs:=zd c2;have es:kX b=eZ b (aN b [6,7]).1 (iQ b).next Zz:=by unfold kX;rw[hp.1]
  rw[es,hs.1,hp.1];simp only;have:=hp.2;have:=hs.2;rw[Qa0 (by rintro(q | q | q | q);cases q;exact q c3;omega;omega)]
 ·rw[Qa0 hc];by_cases hd:(kX b).bad=true\/(kX b).pos≠b.length\/(1000:Int)<(kr b).val.length\/(1012:Int)<(kX b).val.length
  ·rw[Qa1 hd]
  exfalso;apply hc;simp only[not_or,Bool.not_eq_true,Classical.not_not] at hd;obtain⟨d1,d2,d3,d4⟩:=hd;have l4:((eZ b (aN b [6,7]).1 (kr b).pos (kr b).bad).val.length:Int)<=1012:=by
   have:((kX b).val.length:Int)<=1012:=by omega
   exact this
  have q:=zJ (most:=1012) (show(eZ b (aN b [6,7]).1 (kr b).pos (kr b).bad).bad=Zz from d1) l4;have es:kX b=eZ b (aN b [6,7]).1 (kr b).pos Zz:=by unfold kX;rw[q.1]
  have hp:iQ b=⟨(kr b).val,(kr b).pos,true⟩:=by
   have q1:=q.1;unfold kr at q1 d3;unfold iQ kr;cases hk:((bg b).kind==7)
   ·rfl
   ·rw[hk] at q1 d3;have l3:((eZ b (aN b [6,7]).1 2 Zz).val.length:Int)<=1000:=by
     simp only[Qa6] at d3;omega
    have:=(zJ (most:=1000) (show(eZ b (aN b [6,7]).1 2 Zz).bad=Zz from q1) l3).2;exact this
  rw[hp];simp only;rw[q.2];rw[<-es];exact⟨trivial,rfl,d2⟩
end Kerb
/- Data of the statements of chapter 23: databases, requests. -/
namespace Kerb
open Go Go.Abs
def g_.leq(x e:g_):Bool:=Op.bytesLess x.name e.name||(x.name==e.name&&(Op.bytesLess x.inst e.inst||x.inst==e.inst))
structure KAsk where
 op:UInt8
 user:UInt8
 service:UInt8
 ay:UInt8
 new:UInt8
 time:UInt8
 stop:UInt8
 cG:UInt8
 bL:UInt8
 address:UInt8
 YP:UInt8
 old:UInt8
 how:Int
namespace KAsk
def XA(a:KAsk):Int:=1+oB a.op % 3
def w(a:KAsk):Int:=oB a.YP % 16
def tm(a:KAsk):Int:=1000+oB a.time
def SN(l0 l1 l2:Bytes)(n:Int):Bytes:=if n=0 then l0 else if n=1 then l1 else l2
def label(a:KAsk):Bytes:=if a.w=1 then SN kR fH vl (a.XA-1) else SN vl kR fH (a.XA-1)
def J5(a:KAsk):eK :=
 if a.label=fH then⟨a.label,a.tm,0,0,if a.w=2 then Kerb.ay 5 else tb (30+oB a.new % 3)⟩
 else⟨a.label,a.tm,a.tm,a.tm+oB a.stop*50,0⟩
def body(a:KAsk):Bytes:=if a.w=3 then(aR a.J5).val++[0] else(aR a.J5).val
def u(a:KAsk):Int:=oB a.user % 3
def YK(a:KAsk):dQ :=
 ⟨Zz,if a.w=5 then Kerb.user (3+a.u) else Kerb.user a.u,oB a.address % 2,Kerb.ay (oB a.ay % 4),oB a.bL % 40,1000+oB a.cG,Bg,if a.w=6 then[66,79,83] else[65,84,72]⟩
def cD(a:KAsk):Bytes:=(gN a.YK (if a.w=8 then tb 4 else tb 3)).val
def want(a:KAsk):bn:=if a.w=11 then ZC [65,84,72] [66,79,83] else Kerb.service (oB a.service % 3)
def key(a:KAsk):Int :=
 if a.w=7 then tb 99 else if a.XA=2 then Kerb.ay (oB a.ay % 4) else if oB a.old % 4=3 then tb (30+oB a.old / 4 % 3) else tb a.u
def box(a:KAsk):Bytes:=(gX 7 a.key a.body).val
def Vi(a:KAsk):c6 :=
 if a.XA=2 then⟨2,dx,if a.w=10 then 5 else 6,if a.w=9 then[66,79,83] else[65,84,72],a.cD,a.want.name,a.want.inst,a.box⟩
 else⟨a.XA,if a.w=4 then Kerb.user (3+oB a.user % 6) else Kerb.user a.u,0,[],[],[],[],a.box⟩
def message(a:KAsk):Bytes:=if a.w=15 then sY (aP a.Vi).val a.how else(aP a.Vi).val
end KAsk
namespace KAsk
end KAsk
end Kerb
/- The statements of chapter 23, plain: databases stay without an error. -/
namespace Kerb
open Go Go.Abs
structure Rf (d d':Db):Prop where
 err:d'.err=0
 ok:d'.ok
 len:d'.entries.length=d.entries.length
 aL:d'.aL=d.aL
theorem Rf.trans{a b c:Db}(h:Rf a b)(g:Rf b c):Rf a c:=⟨g.err,g.ok,g.len.trans h.len,g.aL.trans h.aL⟩
structure Kept (d:Db):Prop where
 err:d.err=0
 ok:d.ok
 all:(d.entries.map g_.av).all RQ=true
 len:d.entries.length<=60
 aL:d.aL.length<=39
theorem g_.qi{x y:g_}:(x.name==y.name&&(x.inst==y.inst&&(x.key==y.key&&(x.br==y.br&&(x.cE==y.cE&&(x.mY==y.mY&&(x.attr==y.attr&&(x.AM==y.AM&&x.Kr==y.Kr))))))))=true↔x=y:=by
 cases x;cases y;simp
end Kerb
/- Chapter 20: clients stay without an error. -/
namespace Kerb
open Go Go.Abs
theorem bn.qi{p q:bn}:p.sK q=true↔p=q:=by
 constructor
 ·intro h;obtain⟨a,b,c⟩:=p;obtain⟨d,e,f⟩:=q;simp only[bn.sK,Zy,Qb1] at h;obtain⟨rfl,rfl,rfl⟩:=h;rfl
 ·rintro rfl;exact bn.GC p
instance:DecidableEq bn:=fun p q=>if h:p.sK q=true then isTrue (bn.qi.1 h) else isFalse fun g=>h (bn.qi.2 g)
def X7:List bn:=[service 0,service 1,service 2,service 3,service 4,service 5,service 6,service 7,service 8]
end Kerb
