/- Chapters 2, 4, 7, 10, 15 and 20, in plain words: lifetimes, boxes, authenticators, requests, caches, clients. -/
import Derived.Test.YteafbgcimcpfiaaGreatKerbSort5
set_option linter.all false
open Go.IntKind renaming i64->AI,u64->AT
open Bool renaming false->Zz,and_eq_true->Zy,not_eq_true'->Zw,not_eq_false->Zv
open Go.IntKind renaming bits->Zx
namespace Kerb
open Go Go.Abs
def bn.tf(p q:bn):Bool:=p.name==q.name&&(p.inst==q.inst&&p.aK==q.aK)
def tgs(aK target:Bytes):bn:=⟨[107,114,98,116,103,116],target,aK⟩
def W1(cL bS:Int):Int:=if within cL 4294967295&&within bS 255 then cL+300*(bS+1) else 0
def Dz(a b fQ:Int):Bool:=within a 4294967295&&within b 4294967295&&within fQ 4294967295&&decide (a-b<=fQ)&&decide (b-a<=fQ)
def g_(kind k:Int)(body:Bytes):ll :=
 if !isKind kind then⟨[],104⟩ else if !bB k then⟨[],10⟩ else if 1000<body.length then⟨[],105⟩
 else⟨[66,UInt8.ofNat kind.toNat]++keyBytes k++aJ body.length 2 Zz++body,0⟩
structure Box where
 kind:Int
 key:Int
 body:Bytes
structure Ux where
 box:Box
 n:Int
 err:Int
def Ek:Box:=⟨0,0,[]⟩
def mb(b:Bytes):Nat:=(b.getD 10 0).toNat*256+(b.getD 11 0).toNat
def aU(b:Bytes):Ux :=
 if b.length<12 then⟨Ek,0,101⟩
 else if b.getD 0 0≠66\/isKind ((b.getD 1 0).toNat:Int)=Zz\/(cK (cut b 2 8)).2=Zz\/1000<mb b then⟨Ek,0,100⟩
 else if b.length<12+mb b then⟨Ek,0,101⟩
 else⟨⟨((b.getD 1 0).toNat:Int),(cK (cut b 2 8)).1,cut b 12 (mb b)⟩,((12+mb b:Nat):Int),0⟩
def mj(b:Bytes)(kind k:Int):Bytes×Bool :=
 if (aU b).err≠0\/(aU b).n≠b.length\/(aU b).box.kind≠kind\/(aU b).box.key≠k then([],Zz) else((aU b).box.body,true)
structure nJ where
 BY:bn
 dB:Int
 tick:Int
 time:Int
def nJ.check(a:nJ):Int :=
 if !a.BY.valid then 103 else if !(within a.dB 4294967295&&within a.tick 199&&within a.time 4294967295) then 104 else 0
def je(a:nJ)(By:Bool):ll :=
 if a.check≠0 then⟨[],a.check⟩
 else⟨pad (cW (aJ (cond By 1 0) 1 Zz) a.BY++aJ a.dB 4 By++aJ a.tick 1 Zz++aJ a.time 4 By),0⟩
def QD(a:nJ)(By:Bool)(k:Int):ll :=
 if (je a By).err≠0 then⟨[],(je a By).err⟩ else g_ 2 k (je a By).val
structure cN where
 By:Bool
 c7:Bool
 bt:Int
 aK:Bytes
 aG:Bytes
 ft:Bytes
def bh(r:cN):ll :=
 if !dO r.aK then⟨[],103⟩
 else if !within r.bt 255 then⟨[],104⟩
 else if 255<r.aG.length\/255<r.ft.length then⟨[],105⟩
 else⟨bz (header (cond r.c7 4 3) r.By++aJ r.bt 1 Zz) r.aK++aJ r.aG.length 1 Zz++aJ r.ft.length 1 Zz++r.aG++r.ft,0⟩
structure fy where
 ap:cN
 time:Int
 bS:Int
 service:Bytes
 inst:Bytes
def cZ(r:fy):ll :=
 if r.ap.c7 then⟨[],100⟩
 else if (bh r.ap).err≠0 then⟨[],(bh r.ap).err⟩
 else if !(validName r.service&&cA r.inst) then⟨[],103⟩
 else if !(within r.time 4294967295&&within r.bS 255) then⟨[],104⟩
 else⟨bz (bz ((bh r.ap).val++aJ r.time 4 r.ap.By++aJ r.bS 1 Zz) r.service) r.inst,0⟩
structure eL where
 service:bn
 ax:Int
 bS:Int
 bt:Int
 cL:Int
 aG:Bytes
def eL.av(c:eL):AV := .agg [.str c.service.name,.str c.service.inst,.str c.service.aK,.int AT c.ax,.int AI c.bS,.int AI c.bt,.int AI c.cL,.bs c.aG]
def uK:eL:=⟨dF,0,0,0,0,[]⟩
def eL.ok(c:eL):Prop:=c.service.name.length<=9223372036854775807/\c.service.inst.length<=9223372036854775807/\c.service.aK.length<=9223372036854775807/\0<=c.ax/\c.ax<18446744073709551616/\c.aG.length<=9223372036854775807
def LK(c:eL):Int :=
 if !c.service.valid then 103 else if !bB c.ax then 10
 else if !(within c.bS 255&&within c.bt 255&&within c.cL 4294967295) then 104
 else if 255<c.aG.length then 105 else 0
def Hb:List eL->List eL->Int
 | _,[]=>0
 | seen,c::r=>if LK c≠0 then LK c else if seen.any (λd=>d.service.tf c.service) then 107 else Hb (seen++[c]) r
structure Cache where
 owner:bn
 td:List eL
def FW:Cache:=⟨dF,[]⟩
def Cache.err(c:Cache):Int:=if !c.owner.valid then 103 else if 20<c.td.length then 106 else Hb [] c.td
def O6(l:List eL)(s:bn):Nat:=l.findIdx λd=>d.service.tf s
def LS(l:List eL)(s:bn):eL×Bool:=if O6 l s<l.length then(l.getD (O6 l s) uK,true) else(uK,Zz)
def eL.expired(c:eL)(now:Int):Bool:=decide (W1 c.cL c.bS<now)
def zR(c:Cache)(x:eL):GG Cache :=
 if c.err≠0 then⟨FW,c.err⟩
 else if Cache.err ⟨c.owner,[x]⟩≠0 then⟨FW,Cache.err ⟨c.owner,[x]⟩⟩
 else if 20<=(c.td.filter λd => !d.service.tf x.service).length then⟨FW,106⟩
 else⟨⟨c.owner,(c.td.filter λd => !d.service.tf x.service)++[x]⟩,0⟩
structure Client where
 me:bn
 address:Int
 fQ:Int
 By:Bool
 cache:Cache
 wait:Int
 wanted:bn
 ax:Int
 time:Int
 bS:Int
 dB:Int
 tick:Int
def Cache.av(c:Cache):AV := .agg [.str c.owner.name,.str c.owner.inst,.str c.owner.aK,.sl 8 (c.td.map eL.av)]
def Client.av(c:Client):AV := .agg [.str c.me.name,.str c.me.inst,.str c.me.aK,.int AI c.address,.int AI c.fQ,.bool c.By,.str c.cache.owner.name,.str c.cache.owner.inst,.str c.cache.owner.aK,.sl 8 (c.cache.td.map eL.av),.int AI c.wait,.str c.wanted.name,.str c.wanted.inst,.str c.wanted.aK,.int AT c.ax,.int AI c.time,.int AI c.bS,.int AI c.dB,.int AI c.tick]
def Client.idle(c:Client):Client:=⟨c.me,c.address,c.fQ,c.By,c.cache,0,dF,0,0,0,0,0⟩
def Client.err(c:Client):Int :=
 if !c.me.valid then 103
 else if !(within c.address 4294967295&&within c.fQ 4294967295) then 104
 else if !(decide (0<=c.wait)&&decide (c.wait<=3)) then 104
 else if c.cache.err≠0 then c.cache.err
 else if !c.cache.owner.tf c.me then 103 else 0
def sJ(me service:bn):bn:=tgs me.aK service.aK
structure ag2 where
 c:Client
 msg:Bytes
 err:Int
structure agZ where
 val:cN
 err:Int
def zC:cN:=⟨false,false,0,[],[],[]⟩
structure aih where
 c:Client
 msg:Bytes
 X9:eL
 ft:Bytes
 err:Int
def eL.same(a b:eL):Bool:=a.service.tf b.service&&a.ax==b.ax&&a.bS==b.bS&&a.bt==b.bt&&a.cL==b.cL&&a.aG==b.aG
def EA:List eL->List eL->Bool
 | [],[]=>true
 | a::r,b::q=>a.same b&&EA r q
 | _,_=>Zz
def Cache.same(a b:Cache):Bool:=a.owner.tf b.owner&&EA a.td b.td
def Client.same(a b:Client):Bool:=a.me.tf b.me&&a.address==b.address&&a.fQ==b.fQ&&a.By==b.By&&a.cache.same b.cache&&a.wait==b.wait&&a.wanted.tf b.wanted&&a.ax==b.ax&&a.time==b.time&&a.bS==b.bS&&a.dB==b.dB&&a.tick==b.tick
theorem xM(r:cN):(bh r).val.length<=1000:=by
 unfold bh;split
 .simp
 rename_i h1;split
 .simp
 split
 .simp
 rename_i h3;have l1:=gm (s:=r.aK) (by simpa using h1);have g:=kR (cond r.c7 4 3) r.By;simp[cf,ai];omega
theorem Ov(n:Nat):[UInt8.ofNat (Int.toNat (IntKind.wrap .u8 (Int.fdiv (n:Int) (2 ^ min (Int.toNat 8) (Zx AI))))),UInt8.ofNat (Int.toNat (IntKind.wrap .u8 (n:Int)))]=aJ n 2 Zz:=by
 have e:(2:Int) ^ min (Int.toNat 8) (Zx AI)=256:=by decide
 rw[e,Int.fdiv_eq_ediv_of_nonneg _ (by decide),wrap_u8,wrap_u8];show _=[fa n 1,fa n 0];unfold fa;simp
def Client.mX(c:Client):Prop :=
 (c.me.name.length<=9223372036854775807/\c.me.inst.length<=9223372036854775807/\c.me.aK.length<=9223372036854775807) /\
 (c.cache.owner.name.length<=9223372036854775807/\c.cache.owner.inst.length<=9223372036854775807/\c.cache.owner.aK.length<=9223372036854775807) /\
 (∀ x∈c.cache.td,x.ok)/\c.cache.td.length<=1000000
theorem bn.Hp(p:bn):p.tf p=true:=by simp[bn.tf]
end Kerb
/- Clients: what the statements of chapter 20 lean on. -/
namespace Kerb
open Go Go.Abs
end Kerb
/- Chapters 2 and 6: lifetimes that are granted, the state of a ticket, tickets. -/
namespace Kerb
open Go Go.Abs
def least(n:Int)(l:List Int):Int:=l.foldl FE n
def MZ(now want:Int)(ends:List Int):Int×Bool :=
 if !within now 4294967295||decide (want<0) then(0,Zz)
 else if least (now+300*(FE want 255+1)) ends-now<300 then(0,Zz)
 else(FE ((least (now+300*(FE want 255+1)) ends-now) / 300-1) 255,true)
def JF(cL bS now fQ:Int):Int :=
 if !(within cL 4294967295&&within now 4294967295&&within bS 255&&within fQ 4294967295) then 104
 else if now+fQ<cL then 33 else if W1 cL bS+fQ<now then 32 else 0
def iJ(k:Int):Int:=bif bB k then nf k else 0
def jr:dU:=⟨false,dF,0,0,0,0,[],[]⟩
def dU.err(t:dU):Int :=
 if !(t.BY.valid&&(validName t.service&&cA t.inst)) then 103
 else if iJ t.ax≠2 then 10
 else if !(within t.address 4294967295&&(within t.bS 255&&within t.cL 4294967295)) then 104 else 0
def bC(t:dU):ll :=
 if t.err≠0 then⟨[],t.err⟩
 else⟨pad (bz (bz (cW (aJ (cond t.By 1 0) 1 Zz) t.BY++aJ t.address 4 t.By++keyBytes t.ax++aJ t.bS 1 Zz++aJ t.cL 4 t.By) t.service) t.inst),0⟩
def my(b:Bytes):dU :=
 let o:=get b 0 1 Zz
 let li:=o.val==1
 let p:=gM b o.next
 let a:=get b p.next 4 li
 let k:=bytes b a.next 8
 let l:=get b k.next 1 Zz
 let i:=get b l.next 4 li
 let s:=text b i.next
 ⟨li,p.val,a.val,(cK k.val).1,l.val,i.val,s.val,(text b s.next).val⟩
def nF(b:Bytes):Rd dU :=
 let o:=dK b 1 Zz 0 Zz
 let li:=o.val==1
 let p:=dN b o.pos o.bad
 let a:=dK b 4 li p.pos p.bad
 let k:=dw b 8 a.pos a.bad
 let l:=dK b 1 Zz k.pos k.bad
 let i:=dK b 4 li l.pos l.bad
 let s:=nE b i.pos i.bad
 let n:=nE b s.pos s.bad
 ⟨⟨li,p.p,a.val,(cK k.val).1,l.val,i.val,s.val,n.val⟩,n.pos,n.bad⟩
def bG(b:Bytes):GG dU :=
 if 1<(get b 0 1 Zz).val then⟨jr,7⟩ else eN jr bC (λb=>(my b,Zz)) b
def gS(t:dU)(k:Int):ll:=if (bC t).err≠0 then⟨[],(bC t).err⟩ else g_ 1 k (bC t).val
def gQ(b:Bytes)(k:Int):GG dU:=if (mj b 1 k).2 then bG (mj b 1 k).1 else⟨jr,31⟩
theorem G5{k:Int}(h:iJ k=2):bB k=true:=by
 unfold iJ at h;cases hk:bB k
 .rw[hk] at h;simp at h
 .rfl
theorem lW{t:dU}(h:(bC t).err=0):t.BY.valid=true/\validName t.service=true/\cA t.inst=true/\bB t.ax=true/\(0<=t.address/\t.address<=4294967295)/\(0<=t.bS/\t.bS<=255)/\(0<=t.cL/\t.cL<=4294967295) /\
  (bC t).val=pad (aJ (cond t.By 1 0) 1 Zz++(t.BY.name++0::(t.BY.inst++0::(t.BY.aK++0::(aJ t.address 4 t.By++(keyBytes t.ax++(aJ t.bS 1 Zz++(aJ t.cL 4 t.By++(t.service++0::(t.inst++[0])))))))))):=by
 have he:t.err=0:=by
  unfold bC at h;split at h
  .exact h
  .rename_i hn;simpa using hn
 have hv:(bC t).val=pad (bz (bz (cW (aJ (cond t.By 1 0) 1 Zz) t.BY++aJ t.address 4 t.By++keyBytes t.ax++aJ t.bS 1 Zz++aJ t.cL 4 t.By) t.service) t.inst):=by
  unfold bC;rw[Qa0 (by simpa using he)]
 unfold dU.err at he;split at he
 .cases he
 rename_i h1;split at he
 .cases he
 rename_i h2;split at he
 .cases he
 rename_i h3;simp only[Bool.not_eq_true,Bool.not_eq_false',Zy,within_iff] at h1 h3;simp only[ne_eq,Decidable.not_not] at h2;refine⟨h1.1,h1.2.1,h1.2.2,G5 h2,h3.1,h3.2.1,h3.2.2,?_⟩;rw[hv];simp[bz,cW]
theorem yj{s:Bytes}(h:validName s=true):s.length<=39/\(0:UInt8) ∉ s:=by
 simp only[validName,Zy,Qa2] at h;exact⟨h.1.2,AR h.2⟩
theorem inst_ok{s:Bytes}(h:cA s=true):s.length<=39/\(0:UInt8) ∉ s:=by
 simp only[cA,Zy,Qa2] at h;exact⟨h.1,AR h.2⟩
theorem AB{t:dU}(h0:0<=t.ax)(h1:t.ax<18446744073709551616)(h:(bC t).err=0):my (bC t).val=t:=by
 have hi:=lW h;generalize (bC t).val=b at hi;obtain⟨li,⟨cn,ci,cr⟩,address,ax,bS,cL,service,inst⟩:=t;simp only at hi h0 h1;obtain⟨hc,hs,hn,hk,ha,hl,hd,hb⟩:=hi;obtain⟨s1,s2⟩:=yj hs;obtain⟨n1,n2⟩:=inst_ok hn;obtain⟨z,hz,_⟩:=qe (aJ (cond li 1 0) 1 Zz++(cn++0::(ci++0::(cr++0::(aJ address 4 li++(keyBytes ax++(aJ bS 1 Zz++(aJ cL 4 li++(service++0::(inst++[0]))))))))));have a0:At b 0 (aJ (cond li 1 0) 1 Zz++(cn++0::(ci++0::(cr++0::(aJ address 4 li++(keyBytes ax++(aJ bS 1 Zz++(aJ cL 4 li++(service++0::(inst++0::z)))))))))):=(At.start b).as (by rw[hb,hz];simp);obtain⟨e1,a1⟩:=a0.mW (by cases li<;>decide) (by cases li<;>decide);obtain⟨q,e2,a2⟩:=At.gM (p:=⟨cn,ci,cr⟩) a1 hc;obtain⟨e3,a3⟩:=a2.nY ha.1 ha.2;obtain⟨e4,a4⟩:=a3.bytes (n:=8) (by rw[aj];rfl);obtain⟨e5,a5⟩:=a4.mW hl.1 hl.2;obtain⟨e6,a6⟩:=a5.nY hd.1 hd.2;obtain⟨e7,a7⟩:=a6.text s1 s2;obtain⟨e8,a8⟩:=a7.text n1 n2;have hli:((cond li 1 0:Int)==1)=li:=by cases li<;>rfl
 unfold my;simp only[e1,hli,e2,e3,e4,e5,e6,e7,e8,ga h0 h1 hk]
theorem DC{t:dU}(h0:0<=t.ax)(h1:t.ax<18446744073709551616)(h:(bC t).err=0):((nF (bC t).val).val,(nF (bC t).val).bad)=(t,Zz):=by
 have hi:=lW h;generalize (bC t).val=b at hi;obtain⟨li,⟨cn,ci,cr⟩,address,ax,bS,cL,service,inst⟩:=t;simp only at hi h0 h1;obtain⟨hc,hs,hn,hk,ha,hl,hd,hb⟩:=hi;obtain⟨s1,s2⟩:=yj hs;obtain⟨n1,n2⟩:=inst_ok hn;obtain⟨z,hz,_⟩:=qe (aJ (cond li 1 0) 1 Zz++(cn++0::(ci++0::(cr++0::(aJ address 4 li++(keyBytes ax++(aJ bS 1 Zz++(aJ cL 4 li++(service++0::(inst++[0]))))))))));have a0:At b 0 (aJ (cond li 1 0) 1 Zz++(cn++0::(ci++0::(cr++0::(aJ address 4 li++(keyBytes ax++(aJ bS 1 Zz++(aJ cL 4 li++(service++0::(inst++0::z)))))))))):=(At.start b).as (by rw[hb,hz];simp);obtain⟨e1,a1⟩:=a0.mW (by cases li<;>decide) (by cases li<;>decide);obtain⟨q,e2,a2⟩:=At.gM (p:=⟨cn,ci,cr⟩) a1 hc;obtain⟨e3,a3⟩:=a2.nY ha.1 ha.2;obtain⟨e4,a4⟩:=a3.bytes (n:=8) (by rw[aj];rfl);obtain⟨e5,a5⟩:=a4.mW hl.1 hl.2;obtain⟨e6,a6⟩:=a5.nY hd.1 hd.2;obtain⟨e7,a7⟩:=a6.text s1 s2;obtain⟨e8,a8⟩:=a7.text n1 n2;have hli:((cond li 1 0:Int)==1)=li:=by cases li<;>rfl
 unfold nF;simp only[cl e1,hli,lD e2,cl e3,eE e4,cl e5,cl e6,rX e7,rX e8,ga h0 h1 hk]
theorem DF(b:Bytes):0<=(my b).ax/\(my b).ax<18446744073709551616:=dV _
theorem Iz(b:Bytes):0<=(nF b).val.ax/\(nF b).val.ax<18446744073709551616:=dV _
theorem Dl(b:Bytes):eN jr bC (λb=>(my b,Zz)) b=eN jr bC (λb=>((nF b).val,(nF b).bad)) b :=
 iG (P:=λs=>0<=s.ax/\s.ax<18446744073709551616) (λ_ p h=>by rw[AB p.1 p.2 h]) (λ_ p h=>DC p.1 p.2 h) DF Iz b
theorem Fo{t:dU}(h:(bC t).err≠0):(bC t).val=[]:=by grind [bC]
theorem Dm(t:dU):(bC t).val.length<=224:=by
 by_cases h:(bC t).err=0
 .obtain⟨hc,hs,hn,hk,ha,hl,hd,hb⟩:=lW h;have l1:=cV hc;have l2:=(yj hs).1;have l3:=(inst_ok hn).1;rw[hb,vy];simp[ai,aj];omega
 .rw[Fo h];simp
end Kerb
/- Chapter 25: records, parts and messages of version 5, in plain words. -/
namespace Kerb
open Go Go.Abs
structure A4 where
 BY:bn
 service:bn
 ax:Int
 start:Int
 stop:Int
 addr:Int
structure ta where
 ax:Int
 service:bn
 start:Int
 stop:Int
 record:Bytes
structure A3 where
 op:Int
 name:bn
 box:Bytes
def period(a b:Int):Bool:=within a 4294967295&&within b 4294967295&&decide (a<=b)
def dL(r:A4):ll :=
 if !(r.BY.valid&&r.service.valid) then⟨[],103⟩
 else if iJ r.ax≠2 then⟨[],10⟩
 else if !(period r.start r.stop&&within r.addr 4294967295) then⟨[],104⟩
 else⟨pad (cW (cW [] r.BY) r.service++keyBytes r.ax++aJ r.start 4 Zz++aJ r.stop 4 Zz++aJ r.addr 4 Zz),0⟩
def dh(p:ta):ll :=
 if !bB p.ax then⟨[],10⟩
 else if !p.service.valid then⟨[],103⟩
 else if !period p.start p.stop then⟨[],104⟩
 else if 300<p.record.length then⟨[],105⟩
 else⟨pad (dQ (cW (keyBytes p.ax) p.service++aJ p.start 4 Zz++aJ p.stop 4 Zz) p.record),0⟩
def dE(m:A3):ll :=
 if !nc m.op then⟨[],40⟩
 else if !m.name.valid then⟨[],103⟩
 else if 1012<m.box.length then⟨[],105⟩
 else⟨dQ (cW (header 10 Zz++aJ m.op 1 Zz) m.name) m.box,0⟩
def FX:A4:=⟨dF,dF,0,0,0,0⟩
def AQ:ta:=⟨0,dF,0,0,[]⟩
def zD:A3:=⟨0,dF,[]⟩
def qu(b:Bytes)(k:Int)(pos:Int)(bad:Bool):Rd Int:=⟨(get b pos k Zz).val,cond ((get b pos k Zz).err==0) (get b pos k Zz).next pos,bad || !((get b pos k Zz).err==0)⟩
def mU(b:Bytes)(n:Int)(pos:Int)(bad:Bool):Rd Bytes:=⟨(bytes b pos n).val,cond ((bytes b pos n).err==0) (bytes b pos n).next pos,bad || !((bytes b pos n).err==0)⟩
def lX(b:Bytes)(pos:Int)(bad:Bool):Rd bn:=⟨(gM b pos).val,cond ((gM b pos).err==0) (gM b pos).next pos,bad || !((gM b pos).err==0)⟩
def xQ(b:Bytes)(pos:Int)(bad:Bool):Rd Int:=⟨(cK (mU b 8 pos bad).val).1,(mU b 8 pos bad).pos,(mU b 8 pos bad).bad || !(cK (mU b 8 pos bad).val).2⟩
theorem qD{b:Bytes}{k pos n nx:Int}(h:get b pos k Zz=⟨n,nx,0⟩):qu b k pos Zz=⟨n,nx,Zz⟩:=by unfold qu;rw[h];rfl
theorem zk{b s:Bytes}{pos n nx:Int}(h:bytes b pos n=⟨s,nx,0⟩):mU b n pos Zz=⟨s,nx,Zz⟩:=by unfold mU;rw[h];rfl
theorem xR{b:Bytes}{p:bn}{pos nx:Int}(h:gM b pos=⟨p,nx,0⟩):lX b pos Zz=⟨p,nx,Zz⟩:=by unfold lX;rw[h];rfl
theorem LQ{b:Bytes}{k pos nx:Int}(h:bytes b pos 8=⟨keyBytes k,nx,0⟩)(h0:0<=k)(h1:k<18446744073709551616)(hv:bB k=true):xQ b pos Zz=⟨k,nx,Zz⟩:=by
 unfold xQ;rw[zk h];simp only[ga h0 h1 hv];rfl
theorem vp(b:Bytes)(pos:Int)(bad:Bool):0<=(xQ b pos bad).val/\(xQ b pos bad).val<18446744073709551616:=dV _
def We(b:Bytes):Rd A4 :=
 let c:=lX b 0 Zz
 let s:=lX b c.pos c.bad
 let k:=xQ b s.pos s.bad
 let t:=qu b 4 k.pos k.bad
 let e:=qu b 4 t.pos t.bad
 let a:=qu b 4 e.pos e.bad
 ⟨⟨c.val,s.val,k.val,t.val,e.val,a.val⟩,a.pos,a.bad⟩
def Ql(b:Bytes):Rd ta :=
 let k:=xQ b 0 Zz
 let s:=lX b k.pos k.bad
 let t:=qu b 4 s.pos s.bad
 let e:=qu b 4 t.pos t.bad
 let m:=qu b 2 e.pos e.bad
 let x:=mU b m.val m.pos m.bad
 ⟨⟨k.val,s.val,t.val,e.val,x.val⟩,x.pos,x.bad⟩
def Wc(b:Bytes):Rd A3 :=
 let o:=qu b 1 2 Zz
 let n:=lX b o.pos o.bad
 let m:=qu b 2 n.pos n.bad
 let x:=mU b m.val m.pos m.bad
 ⟨⟨o.val,n.val,x.val⟩,x.pos,x.bad⟩
def yx(b:Bytes):A4×Bool:=((We b).val,(We b).bad)
def vB(b:Bytes):ta×Bool:=((Ql b).val,(Ql b).bad)
def uR(b:Bytes):A3×Bool:=((Wc b).val,(Wc b).bad)
def cq(b:Bytes):GG A4:=eN FX dL yx b
def cc(b:Bytes):GG ta:=eN AQ dh vB b
def dD(b:Bytes):GG A3 :=
 if (aM b [10]).2≠0 then⟨zD,(aM b [10]).2⟩ else eN zD dE uR b
def Ws(b:Bytes):Rd A4 :=
 let c:=dN b 0 Zz
 let s:=dN b c.pos c.bad
 let k:=dw b 8 s.pos s.bad
 let t:=dK b 4 Zz k.pos k.bad
 let e:=dK b 4 Zz t.pos t.bad
 let a:=dK b 4 Zz e.pos e.bad
 ⟨⟨c.p,s.p,(cK k.val).1,t.val,e.val,a.val⟩,a.pos,a.bad⟩
def Qv(b:Bytes):Rd ta :=
 let k:=dw b 8 0 Zz
 let s:=dN b k.pos k.bad
 let t:=dK b 4 Zz s.pos s.bad
 let e:=dK b 4 Zz t.pos t.bad
 let m:=dK b 2 Zz e.pos e.bad
 let x:=dw b m.val m.pos m.bad
 ⟨⟨(cK k.val).1,s.p,t.val,e.val,x.val⟩,x.pos,x.bad⟩
def Wr(b:Bytes):Rd A3 :=
 let o:=dK b 1 Zz 2 Zz
 let n:=dN b o.pos o.bad
 let m:=dK b 2 Zz n.pos n.bad
 let x:=dw b m.val m.pos m.bad
 ⟨⟨o.val,n.p,x.val⟩,x.pos,x.bad⟩
def Gc(b:Bytes):A4×Bool:=((Ws b).val,(Ws b).bad)
def AU(b:Bytes):ta×Bool:=((Qv b).val,(Qv b).bad)
def Gb(b:Bytes):A3×Bool:=((Wr b).val,(Wr b).bad)
theorem Ce{a b:Int}:period a b=true↔(0<=a/\a<=4294967295)/\(0<=b/\b<=4294967295)/\a<=b:=by simp[period,within_iff,and_assoc]
theorem G6{k:Int}(h:iJ k=2):bB k=true:=by
 unfold iJ at h;cases hk:bB k
 .rw[hk] at h;cases h
 .rfl
theorem zY{r:A4}(h:(dL r).err=0):r.BY.valid=true/\r.service.valid=true/\bB r.ax=true/\(0<=r.start/\r.start<=4294967295)/\(0<=r.stop/\r.stop<=4294967295)/\(0<=r.addr/\r.addr<=4294967295) /\
  ∃ z,(dL r).val=r.BY.name++0::(r.BY.inst++0::(r.BY.aK++0::(r.service.name++0::(r.service.inst++0::(r.service.aK++0::(keyBytes r.ax++(aJ r.start 4 Zz++(aJ r.stop 4 Zz++(aJ r.addr 4 Zz++z)))))))))/\z.length<=7:=by
 unfold dL at h ⊢;split at h
 .cases h
 rename_i g0;rw[Qa0 g0];split at h
 .cases h
 rename_i g1;rw[Qa0 g1];split at h
 .cases h
 rename_i g2;rw[Qa0 g2];simp only[Zw,Zv,Zy,Ce,within_iff] at g0 g2;obtain⟨z,hz,hl⟩:=qe (cW (cW [] r.BY) r.service++keyBytes r.ax++aJ r.start 4 Zz++aJ r.stop 4 Zz++aJ r.addr 4 Zz);refine⟨g0.1,g0.2,G6 (by omega),g2.1.1,g2.1.2.1,g2.2,z,?_,hl⟩;rw[hz];simp[cW,bz]
theorem xL{p:ta}(h:(dh p).err=0):bB p.ax=true/\p.service.valid=true/\(0<=p.start/\p.start<=4294967295)/\(0<=p.stop/\p.stop<=4294967295)/\p.record.length<=300 /\
  ∃ z,(dh p).val=keyBytes p.ax++(p.service.name++0::(p.service.inst++0::(p.service.aK++0::(aJ p.start 4 Zz++(aJ p.stop 4 Zz++(aJ p.record.length 2 Zz++(p.record++z)))))))/\z.length<=7:=by
 unfold dh at h ⊢;split at h
 .cases h
 rename_i g0;rw[Qa0 g0];split at h
 .cases h
 rename_i g1;rw[Qa0 g1];split at h
 .cases h
 rename_i g2;rw[Qa0 g2];split at h
 .cases h
 rename_i g3;rw[Qa0 g3];simp only[Zw,Zv,Ce] at g0 g1 g2;obtain⟨z,hz,hl⟩:=qe (dQ (cW (keyBytes p.ax) p.service++aJ p.start 4 Zz++aJ p.stop 4 Zz) p.record);refine⟨g0,g1,g2.1,g2.2.1,by omega,z,?_,hl⟩;rw[hz];simp[cW,bz,dQ]
theorem zX{m:A3}(h:(dE m).err=0):(1<=m.op/\m.op<=3)/\m.name.valid=true/\m.box.length<=1012 /\
  (dE m).val=header 10 Zz++(aJ m.op 1 Zz++(m.name.name++0::(m.name.inst++0::(m.name.aK++0::(aJ m.box.length 2 Zz++(m.box++[])))))):=by
 unfold dE at h ⊢;split at h
 .cases h
 rename_i g0;rw[Qa0 g0];split at h
 .cases h
 rename_i g1;rw[Qa0 g1];split at h
 .cases h
 rename_i g2;rw[Qa0 g2];simp only[Zw,Zv,x9] at g0 g1;exact⟨by omega,g1,by omega,by simp[cW,bz,dQ]⟩
theorem Ey{r:A4}(h0:0<=r.ax)(h1:r.ax<18446744073709551616)(h:(dL r).err=0):yx (dL r).val=(r,Zz)/\Gc (dL r).val=(r,Zz):=by
 obtain⟨v1,v2,hk,hs,he,ha,z,hv,_⟩:=zY h;generalize (dL r).val=b at hv;obtain⟨⟨cn,ci,cr⟩,⟨sn,si,sr⟩,ax,start,stop,addr⟩:=r;simp only at h0 h1 hk hs he ha hv;have a0:At b 0 (cn++_):=(At.start b).as hv;obtain⟨q,e1,a1⟩:=At.gM (p:=⟨cn,ci,cr⟩) a0 v1;obtain⟨q2,e2,a2⟩:=At.gM (p:=⟨sn,si,sr⟩) a1 v2;obtain⟨e3,a3⟩:=a2.bytes (n:=8) (by rw[aj];rfl);obtain⟨e4,a4⟩:=a3.nY hs.1 hs.2;obtain⟨e5,a5⟩:=a4.nY he.1 he.2;obtain⟨e6,a6⟩:=a5.nY ha.1 ha.2;constructor
 .unfold yx We;simp only[xR e1,xR e2,LQ e3 h0 h1 hk,qD e4,qD e5,qD e6]
 .unfold Gc Ws;simp only[lD e1,lD e2,eE e3,ga h0 h1 hk,cl e4,cl e5,cl e6]
theorem Cb{p:ta}(h0:0<=p.ax)(h1:p.ax<18446744073709551616)(h:(dh p).err=0):vB (dh p).val=(p,Zz)/\AU (dh p).val=(p,Zz):=by
 obtain⟨hk,v1,hs,he,hr,z,hv,_⟩:=xL h;generalize (dh p).val=b at hv;obtain⟨ax,⟨sn,si,sr⟩,start,stop,record⟩:=p;simp only at h0 h1 hk hs he hr hv;have a0:At b 0 (keyBytes ax++_):=(At.start b).as hv;obtain⟨e1,a1⟩:=a0.bytes (n:=8) (by rw[aj];rfl);obtain⟨q,e2,a2⟩:=At.gM (p:=⟨sn,si,sr⟩) a1 v1;obtain⟨e3,a3⟩:=a2.nY hs.1 hs.2;obtain⟨e4,a4⟩:=a3.nY he.1 he.2;obtain⟨e5,a5⟩:=a4.Hu (by omega) (by omega);obtain⟨e6,a6⟩:=a5.bytes rfl;constructor
 .unfold vB Ql;simp only[LQ e1 h0 h1 hk,xR e2,qD e3,qD e4,qD e5,zk e6]
 .unfold AU Qv;simp only[eE e1,ga h0 h1 hk,lD e2,cl e3,cl e4,cl e5,eE e6]
theorem Ej{m:A3}(h:(dE m).err=0):uR (dE m).val=(m,Zz)/\Gb (dE m).val=(m,Zz):=by
 obtain⟨ho,v1,hb,hv⟩:=zX h;generalize (dE m).val=b at hv;obtain⟨op,⟨un,ui,ur⟩,box⟩:=m;simp only at ho hb hv;have a0:At b 2 _:=⟨header 10 Zz,hv,by decide⟩;obtain⟨e1,a1⟩:=a0.mW (by omega) (by omega);obtain⟨q,e2,a2⟩:=At.gM (p:=⟨un,ui,ur⟩) a1 v1;obtain⟨e3,a3⟩:=a2.Hu (by omega) (by omega);obtain⟨e4,a4⟩:=a3.bytes rfl;constructor
 .unfold uR Wc;simp only[qD e1,xR e2,qD e3,zk e4]
 .unfold Gb Wr;simp only[cl e1,lD e2,cl e3,eE e4]
theorem Hf(b:Bytes):cq b=eN FX dL Gc b :=
 iG (P:=λs=>0<=s.ax/\s.ax<18446744073709551616) (λ_ p h=>(Ey p.1 p.2 h).1) (λ_ p h=>(Ey p.1 p.2 h).2) (λ_=>vp _ _ _) (λ_=>dV _) b
theorem Fe(b:Bytes):cc b=eN AQ dh AU b :=
 iG (P:=λs=>0<=s.ax/\s.ax<18446744073709551616) (λ_ p h=>(Cb p.1 p.2 h).1) (λ_ p h=>(Cb p.1 p.2 h).2) (λ_=>vp _ _ _) (λ_=>dV _) b
theorem He(b:Bytes):eN zD dE uR b=eN zD dE Gb b :=
 iG (P:=λ_=>True) (λ_ _ h=>(Ej h).1) (λ_ _ h=>(Ej h).2) (λ_=>trivial) (λ_=>trivial) b
end Kerb
/- Chapter 20: what a client makes of replies and answers. -/
namespace Kerb
open Go Go.Abs
structure Rcv where
 c:Client
 X9:eL
 err:Int
def Gh(c:Client)(k:Int):Int:=if c.wait=2 then(LS c.cache.td (sJ c.me c.wanted)).1.ax else k
def sZ(c:Client)(k:Int)(msg:Bytes):Lw :=
 if (bm msg).err≠0 then⟨sS,(bm msg).err⟩
 else if !(bm msg).val.BY.tf c.me || !((bm msg).val.time==c.time) then⟨sS,63⟩
 else if c.wait=2/\(LS c.cache.td (sJ c.me c.wanted)).2=Zz then⟨sS,76⟩
 else if (mj (bm msg).val.cI 3 (Gh c k)).2=Zz then⟨sS,62⟩
 else if (bu (mj (bm msg).val.cI 3 (Gh c k)).1 (bm msg).val.By).err≠0 \/
   (bu (mj (bm msg).val.cI 3 (Gh c k)).1 (bm msg).val.By).val.service.tf c.wanted=Zz then⟨sS,63⟩
 else⟨(bu (mj (bm msg).val.cI 3 (Gh c k)).1 (bm msg).val.By).val,0⟩
def uP(p:fU):eL:=⟨p.service,p.ax,p.bS,p.bt,p.time,p.aG⟩
def abz(c:Client)(k:Int)(msg:Bytes)(now:Int):Rcv :=
 if c.err≠0\/(c.wait≠1/\c.wait≠2) then⟨c,uK,108⟩
 else if (ub msg).err=0 then
  if (ub msg).val.BY.tf c.me=Zz then⟨c,uK,63⟩ else⟨c.idle,uK,(ub msg).val.code⟩
 else if (sZ c k msg).err≠0 then⟨c,uK,(sZ c k msg).err⟩
 else if Dz (sZ c k msg).val.time now c.fQ=Zz then⟨c,uK,37⟩
 else if (zR c.cache (uP (sZ c k msg).val)).err≠0 then⟨c,uK,(zR c.cache (uP (sZ c k msg).val)).err⟩
 else⟨{ c.idle with cache:=(zR c.cache (uP (sZ c k msg).val)).val },uP (sZ c k msg).val,0⟩
def MK(BY service:bn)(ax og:Int)(By:Bool)(time now bS:Int):Bytes :=
 (bg ⟨By,BY,time,0,0,(g_ 3 og (bp ⟨ax,service,bS,2,[1,2,3],now⟩ By).val).val⟩).val
structure JN where
 kind:UInt8
 BY:UInt8
 service:UInt8
 time:UInt8
 now:UInt8
 By:Bool
 og:UInt8
 how:Int
def JN.av(x:JN):AV := .agg [.u8 x.kind,.u8 x.BY,.u8 x.service,.u8 x.time,.u8 x.now,.bool x.By,.u8 x.og,.int .u16 x.how]
structure JT where
 dB:Int
 tick:Int
 time:Int
def fN(m:JT)(By:Bool):ll :=
 if !(within m.dB 4294967295&&within m.tick 199&&within m.time 4294967295) then⟨[],104⟩
 else⟨pad (aJ (cond By 1 0) 1 Zz++aJ m.dB 4 By++aJ m.tick 1 Zz++aJ m.time 4 By),0⟩
theorem O8(b:Bytes):List.drop (Int.toNat 2) (List.take (Int.toNat 10) b)=cut b 2 8:=by
 show List.drop 2 (List.take 10 b)=List.take 8 (List.drop 2 b);rw[List.drop_take]
theorem O7(b:Bytes)(n:Nat):List.drop (Int.toNat 12) (List.take (Int.toNat (12+(n:Int))) b)=cut b 12 n:=by
 have e:Int.toNat (12+(n:Int))=12+n:=by omega
 rw[e];show List.drop 12 (List.take (12+n) b)=List.take n (List.drop 12 b);rw[List.drop_take];congr 1;omega
theorem AF(b:Bytes)(p n:Int):(cut b p n).length<=b.length:=by unfold cut;simp;omega
theorem Mr(x y:UInt8):IntKind.wrap AI (↑(BitVec.toNat (BitVec.ofInt (Zx AI) (IntKind.wrap AI (IntKind.wrap AI (↑x.toNat:Int)*(2:Int) ^ min (Int.toNat (8:Int)) (Zx AI))) ||| BitVec.ofInt (Zx AI) (IntKind.wrap AI (↑y.toNat:Int)))):Int)=((x.toNat*256+y.toNat:Nat):Int):=by
 have hx:=x.toNat_lt;have hy:=y.toNat_lt;have e1:(2:Int) ^ min (Int.toNat (8:Int)) (Zx AI)=256:=by decide
 rw[e1,wrap_i64 (n:=(x.toNat:Int)) (by omega) (by omega),wrap_i64 (n:=(y.toNat:Int)) (by omega) (by omega),wrap_i64 (n:=(x.toNat:Int)*256) (by omega) (by omega)];have e2:BitVec.toNat (BitVec.ofInt (Zx AI) ((x.toNat:Int)*256) ||| BitVec.ofInt (Zx AI) (y.toNat:Int))=x.toNat*256+y.toNat:=by
  rw[BitVec.toNat_or];have f1:(BitVec.ofInt (Zx AI) ((x.toNat:Int)*256)).toNat=2 ^ 8*x.toNat:=by
   rw[BitVec.toNat_ofInt];show(((x.toNat:Int)*256) % ((2 ^ 64:Nat):Int)).toNat=_;rw[Int.emod_eq_of_lt (by omega) (by omega)];omega
  have f2:(BitVec.ofInt (Zx AI) (y.toNat:Int)).toNat=y.toNat:=by
   rw[BitVec.toNat_ofInt];show((y.toNat:Int) % ((2 ^ 64:Nat):Int)).toNat=_;rw[Int.emod_eq_of_lt (by omega) (by omega)];omega
  rw[f1,f2,<-Nat.two_pow_add_eq_or_of_lt (by omega)];omega
 rw[e2,wrap_i64 (by omega) (by omega)]
theorem EV(x:UInt8):IntKind.wrap AI (↑x.toNat:Int)=(x.toNat:Int):=by
 have hx:=x.toNat_lt;exact wrap_i64 (by omega) (by omega)
end Kerb
namespace Kerb
open Go Go.Abs
end Kerb
namespace Kerb
open Go Go.Abs
def m8(x:UInt8):UInt8:=UInt8.ofNat (Int.toNat (Int.tmod (↑x.toNat:Int) (↑(8:UInt8).toNat:Int)))
def d8(x:UInt8):Int:=IntKind.wrap AI (↑(UInt8.ofNat (Int.toNat (IntKind.wrap .u8 (Int.tdiv (↑x.toNat:Int) (↑(8:UInt8).toNat:Int))))).toNat:Int)
theorem Us(x:UInt8):0<=IntKind.wrap AI (↑x.toNat:Int)/\IntKind.wrap AI (↑x.toNat:Int)<=255:=by
 have h:=x.toNat_lt;rw[wrap_i64 (by omega) (by omega)];omega
def JN.me(x:JN)(c:Client):bn:=cond (m8 x.BY==7) (user (d8 x.BY)) c.me
def JN.wanted(x:JN)(c:Client):bn:=cond (m8 x.service==7) (Kerb.service (d8 x.service)) c.wanted
def JN.at'(x:JN)(c:Client):Int:=cond (m8 x.time==7) (IntKind.wrap AI (↑x.time.toNat:Int)) c.time
def JN.key(x:JN)(k:Int):Int:=cond (m8 x.og==7) (ax (d8 x.og)) k
def JN.code(x:JN):Int:=IntKind.wrap AI (↑(UInt8.ofNat (Int.toNat (IntKind.wrap .u8 ((↑(1:UInt8).toNat:Int)+(↑(UInt8.ofNat (Int.toNat (IntKind.wrap .u8 (Int.tdiv (↑x.kind.toNat:Int) (↑(8:UInt8).toNat:Int))))).toNat:Int))))).toNat:Int)
def JN.rep(x:JN)(c:Client)(k:Int):Bytes :=
 MK (x.me c) (x.wanted c) (ax 50) (x.key k) x.By (x.at' c) (IntKind.wrap AI (1000+IntKind.wrap AI (IntKind.wrap AI (↑x.now.toNat:Int)*4))) 100
def JN.text(x:JN)(c:Client)(k:Int):Bytes :=
 cond (m8 x.kind==7) (qB ⟨x.By,x.me c,9,x.code,[]⟩).val (cond (m8 x.kind==6) (tD (x.rep c k) x.how) (x.rep c k))
end Kerb
namespace Kerb
open Go Go.Abs
def fU.ok(p:fU):Prop:=(uP p).ok/\p.aG.length<=255
end Kerb
namespace Kerb
open Go Go.Abs
end Kerb
/- Chapters 10, 18, 20: the answer of a service, and what a client makes of it. -/
namespace Kerb
open Go Go.Abs
def cj(s:Bytes)(li:Bool):ll :=
 if 1012<s.length then⟨[],105⟩ else⟨header 8 li++aJ s.length 2 li++s,0⟩
def sY(b:Bytes)(li:Bool):Bytes:=let n:=get b 2 2 li;(bytes b n.next n.val).val
def yv(b:Bytes)(li:Bool):Rd Bytes :=
 let n:=dK b 2 li 2 Zz
 dw b n.val n.pos n.bad
structure Uu where
 val:Bytes
 By:Bool
 err:Int
def g9(b:Bytes):Uu :=
 if (aM b [8]).2≠0 then⟨[],Zz,(aM b [8]).2⟩
 else if (eN [] (λs=>cj s (aM b [8]).1) (λb'=>(sY b' (aM b [8]).1,Zz)) b).err=0 then
  ⟨(eN [] (λs=>cj s (aM b [8]).1) (λb'=>(sY b' (aM b [8]).1,Zz)) b).val,(aM b [8]).1,0⟩ else⟨[],Zz,100⟩
theorem OS{s:Bytes}{li:Bool}(h:(cj s li).err=0):(cj s li).val=header 8 li++(aJ s.length 2 li++(s++[]))/\s.length<=1012:=by grind [cj]
theorem D0(li:Bool):(header 8 li).length=2:=by cases li<;>rfl
theorem GP{s:Bytes}{li:Bool}(h:(cj s li).err=0):get (cj s li).val 2 2 li=⟨s.length,4,0⟩/\∃ q,bytes (cj s li).val 4 s.length=⟨s,q,0⟩:=by
 obtain⟨hz,hs⟩:=OS h;have p0:=(At.start (cj s li).val).as hz;have p1:=p0.skip;rw[D0] at p1;obtain⟨e1,p2⟩:=p1.get (.inr (.inl rfl)) (by omega) (by omega);obtain⟨e2,_⟩:=p2.bytes (n:=s.length) rfl;exact⟨e1,_,e2⟩
theorem Gd{s:Bytes}{li:Bool}(h:(cj s li).err=0):sY (cj s li).val li=s:=by
 obtain⟨e1,q,e2⟩:=GP h;unfold sY;simp only[e1,e2]
theorem Cj{s:Bytes}{li:Bool}(h:(cj s li).err=0):(yv (cj s li).val li).val=s/\(yv (cj s li).val li).bad=Zz:=by
 obtain⟨e1,q,e2⟩:=GP h;unfold yv dK dw;simp[e1,e2]
theorem Hd(b:Bytes)(li:Bool):eN [] (λs=>cj s li) (λb'=>(sY b' li,Zz)) b=eN [] (λs=>cj s li) (λb'=>((yv b' li).val,(yv b' li).bad)) b :=
 iG (P:=λ_=>True) (λ_ _ h=>by simp only[Gd h]) (λr _ h=>Prod.ext (Cj h).1 (Cj h).2) (λ_=>trivial) (λ_=>trivial) b
def yl(n:Int):Int:=(n+1) % 4294967296
def DI(ax dB time tick:Int)(li:Bool):ll :=
 if (fN ⟨yl dB,tick,time⟩ li).err≠0 then⟨[],(fN ⟨yl dB,tick,time⟩ li).err⟩
 else if (g_ 4 ax (fN ⟨yl dB,tick,time⟩ li).val).err≠0 then⟨[],(g_ 4 ax (fN ⟨yl dB,tick,time⟩ li).val).err⟩
 else cj (g_ 4 ax (fN ⟨yl dB,tick,time⟩ li).val).val li
structure abK where
 c:Client
 err:Int
theorem vU(b:Bytes):(g9 b).val.length<=1012:=by
 unfold g9;split
 .simp
 split
 .rename_i h0 h;unfold eN at h ⊢;split at h
  .cases h
  .rename_i h2;rw[Qa0 h2];exact(OS (Decidable.byContradiction λx=>h2 (.inr (.inl x)))).2
 .simp
end Kerb
/- Chapters 12 and 14: the principals of a realm, keys between realms. -/
namespace Kerb
open Go Go.Abs
structure ia where
 name:Bytes
 inst:Bytes
 key:Int
 bt:Int
 cJ:Int
 nj:Int
 attr:Int
 Bl:Int
 Lq:Int
def noEntry:ia:=⟨[],[],0,0,0,0,0,0,0⟩
def ia.av(e:ia):AV := .agg [.str e.name,.str e.inst,.int AT e.key,.int AI e.bt,.int AI e.cJ,.int AI e.nj,.int AI e.attr,.int AI e.Bl,.int AI e.Lq]
def oY(n:Int):Bool:=decide (-9223372036854775808<=n)&&decide (n<=9223372036854775807)
def D8(n:Int):Bool:=decide (0<=n)&&decide (n<18446744073709551616)
def Tj:AV->Bool
 | .agg [.str n,.str i,.int AT k,.int AI v,.int AI x,.int AI m,.int AI a,.int AI f,.int AI t] =>
  decide (n.length<=9223372036854775807)&&decide (i.length<=9223372036854775807)&&D8 k&&oY v&&oY x&&oY m&&oY a&&oY f&&oY t
 | _=>Zz
def ia.ok(e:ia):Prop:=e.name.length<=9223372036854775807/\e.inst.length<=9223372036854775807/\D8 e.key=true/\oY e.bt=true/\oY e.cJ=true/\oY e.nj=true/\oY e.attr=true/\oY e.Bl=true/\oY e.Lq=true
def ia.err(e:ia):Int :=
 if !(validName e.name&&cA e.inst) then 103
 else if e.key≠0/\bB e.key=Zz then 10
 else if !(within e.bt 255&&(within e.cJ 4294967295&&within e.Lq 4294967295)) then 104
 else if !(within e.nj 255&&(within e.attr 3&&within e.Bl 20)) then 104 else 0
def ia.less(a b:ia):Bool:=Op.bytesLess a.name b.name||(a.name==b.name&&Op.bytesLess a.inst b.inst)
def Bj:Option ia->List ia->Int
 | _,[]=>0
 | p,e::r=>if e.err≠0 then e.err else if (match p with | some q=>e.less q | none=>Zz) then 110 else Bj (some e) r
structure Db where
 aK:Bytes
 entries:List ia
def ia.tf(a b:ia):Bool:=a.name==b.name&&(a.inst==b.inst&&(a.key==b.key&&(a.bt==b.bt&&(a.cJ==b.cJ&&(a.nj==b.nj&&(a.attr==b.attr&&(a.Bl==b.Bl&&a.Lq==b.Lq)))))))
def II:List ia->List ia->Bool
 | [],[]=>true
 | a::l,b::r=>a.tf b&&II l r
 | _,_=>Zz
def Db.same(a b:Db):Bool:=a.aK==b.aK&&II a.entries b.entries
theorem ia.Hp(a:ia):a.tf a=true:=by simp[ia.tf]
def Db.err(d:Db):Int:=if !dO d.aK then 103 else if 60<d.entries.length then 106 else Bj none d.entries
def ia.named(n i:Bytes)(e:ia):Bool:=e.name==n&&e.inst==i
def mc(l:List ia)(n i:Bytes):Int×Int :=
 if l.countP (ia.named n i)=0 then(0,8) else if 1<l.countP (ia.named n i) then(0,9) else((l.findIdx (ia.named n i):Int),0)
def X6(a b:Int):Int:=IntKind.wrap AI ((BitVec.ofInt 64 a &&& BitVec.ofInt 64 b).toNat:Int)
def Sk(d:Db)(n i:Bytes)(now bit expired UL:Int):Int×Int :=
 if (mc d.entries n i).2≠0 then(0,(mc d.entries n i).2)
 else if bB (d.entries.getD (mc d.entries n i).1.toNat noEntry).key=Zz then(0,10)
 else if (d.entries.getD (mc d.entries n i).1.toNat noEntry).cJ≠0/\(d.entries.getD (mc d.entries n i).1.toNat noEntry).cJ<=now then(0,expired)
 else if X6 (d.entries.getD (mc d.entries n i).1.toNat noEntry).attr bit≠0 then(0,UL)
 else((mc d.entries n i).1,0)
def ry(d:Db)(n i:Bytes)(now:Int):Int×Int:=Sk d n i now 1 1 5
def oh(d:Db)(n i:Bytes)(now:Int):Int×Int:=Sk d n i now 2 2 6
structure oA where
 source:Bytes
 target:Bytes
 bt:Int
 key:Int
def pg:oA:=⟨[],[],0,0⟩
def oA.av(c:oA):AV := .agg [.str c.source,.str c.target,.int AI c.bt,.int AT c.key]
def Fb(l:List oA)(a b:Bytes):Nat->Option Nat
 | 0=>none
 | i+1=>cond ((l.getD i pg).source==a&&((l.getD i pg).target==b&&(match Fb l a b i with | some j=>decide ((l.getD j pg).bt<(l.getD i pg).bt) | none=>true))) (some i) (Fb l a b i)
def zl(l:List oA)(a b:Bytes):Int×Bool:=match Fb l a b l.length with | some i=>((i:Int),true) | none=>(0,Zz)
end Kerb
/- Chapter 24: clients of kaservers, in plain words. -/
namespace Kerb
open Go Go.Abs
structure OI where
 op:Int
 time:Int
 start:Int
 stop:Int
 service:bn
 ax:Int
 new:Int
structure abL where
 w:OI
 msg:Bytes
 err:Int
structure ag1 where
 c:Client
 w:OI
 X9:eL
 err:Int
structure abM where
 op:UInt8
 label:UInt8
 time:UInt8
 service:UInt8
 key:UInt8
 code:UInt8
 start:Int
 stop:Int
 how:Int
end Kerb
/- Chapters 17 and 23: tickets that are granted, the servers of AFS. -/
namespace Kerb
open Go Go.Abs
def BQ:Bytes:=[107,114,98,116,103,116]
structure Svc where
 key:Int
 bt:Int
 bS:Int
 cJ:Int
 err:Int
def Gv(d:Db)(eS:List oA)(n i:Bytes)(now:Int):Svc :=
 if n==BQ&&(dO i && !(i==d.aK)) then
  (if (zl eS d.aK i).2 then⟨(eS.getD (zl eS d.aK i).1.toNat pg).key,(eS.getD (zl eS d.aK i).1.toNat pg).bt,255,0,0⟩ else⟨0,0,0,0,8⟩)
 else if (oh d n i now).2≠0 then⟨0,0,0,0,(oh d n i now).2⟩
 else⟨(d.entries.getD (oh d n i now).1.toNat noEntry).key,(d.entries.getD (oh d n i now).1.toNat noEntry).bt,(d.entries.getD (oh d n i now).1.toNat noEntry).nj,(d.entries.getD (oh d n i now).1.toNat noEntry).cJ,0⟩
structure zS where
 kind:Int
 server:bn
 BY:bn
 service:bn
 ax:Int
 og:Int
 sJ:Int
 text:Bytes
 cL:Int
 stop:Int
def nl:zS:=⟨0,dF,dF,dF,0,0,0,[],0,0⟩
def zS.cs(x:zS):List AV:=[.int AI x.kind,.str x.server.name,.str x.server.inst,.str x.server.aK,.str x.BY.name,.str x.BY.inst,.str x.BY.aK,.str x.service.name,.str x.service.inst,.str x.service.aK,.int AT x.ax,.int AT x.og,.int AT x.sJ,.bs x.text,.int AI x.cL,.int AI x.stop]
def zS.same(a b:zS):Bool:=a.kind==b.kind&&(a.server.tf b.server&&(a.BY.tf b.BY&&(a.service.tf b.service&&(a.ax==b.ax&&(a.og==b.og&&(a.sJ==b.sJ&&(a.text==b.text&&(a.cL==b.cL&&a.stop==b.stop))))))))
structure SC where
 jQ:zS
 part:fU
 err:Int
def rG(By:Bool)(BY service:bn)(address now bS ax:Int):dU:=⟨By,BY,address,ax,bS,now,service.name,service.inst⟩
def vZ(aK:Bytes)(BY service:bn)(address:Int)(By:Bool)(now bS ax og target bt:Int):SC :=
 if (gS (rG By BY service address now bS ax) target).err≠0 then⟨nl,sS,(gS (rG By BY service address now bS ax) target).err⟩
 else if (bp ⟨ax,service,bS,bt,(gS (rG By BY service address now bS ax) target).val,now⟩ By).err≠0 then
  ⟨nl,sS,(bp ⟨ax,service,bS,bt,(gS (rG By BY service address now bS ax) target).val,now⟩ By).err⟩
 else⟨⟨0,tgs aK aK,BY,service,ax,og,0,(gS (rG By BY service address now bS ax) target).val,now,W1 now bS⟩,⟨ax,service,bS,bt,(gS (rG By BY service address now bS ax) target).val,now⟩,0⟩
def refuse(BY:bn)(code now:Int)(By:Bool):Bytes:=(qB ⟨By,BY,now,code,message code⟩).val
structure XT where
 db:Db
 answer:Bytes
 jQ:zS
 ok:Bool
def jj(d:Db)(i:Int):ia:=d.entries.getD i.toNat noEntry
def eQ.bd(s:eQ):Prop:=(0<=s.time/\s.time<=4294967295)/\(0<=s.stop/\s.stop<=4294967295)/\0<=s.new/\s.new<18446744073709551616
def dU.bd(t:dU):Prop:=t.BY.name.length<=40/\t.BY.inst.length<=40/\t.BY.aK.length<=40/\D8 t.ax=true
def Db.ok(d:Db):Prop:=∀ e∈d.entries,e.ok
def dk.bd(r:dk):Prop:=(r.user.name.length<=40/\r.user.inst.length<=40/\r.user.aK.length<=40/\r.aK.length<=40/\r.service.length<=40/\r.inst.length<=40)/\nc r.op=true/\r.aG.length<=255/\r.box.length<=1012
end Kerb
/- Chapters 7, 10, 13, 16, 18: what is decoded, keys of services, replay caches, services that verify. -/
namespace Kerb
open Go Go.Abs
def sR:nJ:=⟨dF,0,0,0⟩
def Qz(b:Bytes)(li:Bool):nJ :=
 let p:=gM b 1
 let c:=get b p.next 4 li
 let t:=get b c.next 1 Zz
 ⟨p.val,c.val,t.val,(get b t.next 4 li).val⟩
def Be(b:Bytes)(li:Bool):GG nJ:=eN sR (λa=>je a li) (λb=>(Qz b li,Zz)) b
def uO(b:Bytes)(li:Bool)(k:Int):GG nJ :=
 if (mj b 2 k).2=Zz then⟨sR,31⟩
 else if (Be (mj b 2 k).1 li).err≠0 then⟨sR,31⟩ else⟨(Be (mj b 2 k).1 li).val,0⟩
structure XR where
 val:cN
 next:Int
def ke(b:Bytes):XR :=
 let k:=get b 2 1 Zz
 let s:=text b k.next
 let n:=get b s.next 1 Zz
 let m:=get b n.next 1 Zz
 let t:=bytes b m.next n.val
 let a:=bytes b t.next m.val
 ⟨⟨(bj b).By,(bj b).kind==4,k.val,s.val,t.val,a.val⟩,a.next⟩
def Ga(b:Bytes)(li mtl:Bool):Rd cN :=
 let k:=dK b 1 Zz 2 Zz
 let s:=nE b k.pos k.bad
 let n:=dK b 1 Zz s.pos s.bad
 let m:=dK b 1 Zz n.pos n.bad
 let t:=dw b n.val m.pos m.bad
 let a:=dw b m.val t.pos t.bad
 ⟨⟨li,mtl,k.val,s.val,t.val,a.val⟩,a.pos,a.bad⟩
def eI(b:Bytes):GG cN :=
 if (aM b [3,4]).2≠0 then⟨zC,(aM b [3,4]).2⟩ else eN zC bh (λb=>((ke b).val,Zz)) b
theorem zT{r:cN}(h:(bh r).err=0):(bh r).val=header (cond r.c7 4 3) r.By++(aJ r.bt 1 Zz++(r.aK++0::(aJ r.aG.length 1 Zz++(aJ r.ft.length 1 Zz++(r.aG++(r.ft++[])))))) /\
  (r.aK.length<=39/\(0:UInt8) ∉ r.aK)/\(0<=r.bt/\r.bt<=255)/\r.aG.length<=255/\r.ft.length<=255:=by
 unfold bh at h ⊢;split at h
 .cases h
 rename_i h1;rw[Qa0 h1];split at h
 .cases h
 rename_i h2;rw[Qa0 h2];split at h
 .cases h
 rename_i h3;rw[Qa0 h3];simp only[Zw,Zv,within_iff] at h1 h2;refine⟨by unfold bz;simp only[List.append_assoc,List.singleton_append,List.cons_append,List.nil_append,List.append_nil],?_,h2,by omega,by omega⟩;simp only[dO,Zy] at h1;exact inst_ok' h1.2 where
 inst_ok' {s:Bytes} (h:cA s=true):s.length<=39/\(0:UInt8) ∉ s:=by
  simp only[cA,Zy,Qa2] at h;exact⟨h.1,λhm=>by
   have:=h.2;simp only[eW,List.all_eq_true] at this;exact absurd (this 0 hm) (by decide)⟩
theorem E2{r:cN}(z:Bytes):bj (header (cond r.c7 4 3) r.By++z)=⟨cond r.c7 4 3,r.By,0⟩:=by
 cases r.c7<;>exact z3 (by decide) (by decide) _ _
theorem LG{r:cN}(h:(bh r).err=0):∃ q1 q2 q3 q4 q5 q6:Int,get (bh r).val 2 1 Zz=⟨r.bt,q1,0⟩/\text (bh r).val q1=⟨r.aK,q2,0⟩/\get (bh r).val q2 1 Zz=⟨r.aG.length,q3,0⟩/\get (bh r).val q3 1 Zz=⟨r.ft.length,q4,0⟩ /\
  bytes (bh r).val q4 r.aG.length=⟨r.aG,q5,0⟩/\bytes (bh r).val q5 r.ft.length=⟨r.ft,q6,0⟩:=by
 obtain⟨hz,⟨n0,n1⟩,⟨a0,a1⟩,t1,u1⟩:=zT h;have p0:=(At.start (bh r).val).as hz;have p1:=p0.skip;rw[show(header (cond r.c7 4 3) r.By).length=2 by cases r.c7<;>cases r.By<;>rfl] at p1;obtain⟨e1,p2⟩:=p1.mW a0 a1;obtain⟨e2,p3⟩:=p2.text n0 n1;obtain⟨e3,p4⟩:=p3.mW (by omega) (by omega);obtain⟨e4,p5⟩:=p4.mW (by omega) (by omega);obtain⟨e5,p6⟩:=p5.bytes (n:=r.aG.length) rfl;obtain⟨e6,_⟩:=p6.bytes (n:=r.ft.length) rfl;exact⟨_,_,_,_,_,_,e1,e2,e3,e4,e5,e6⟩
theorem IA{r:cN}(h:(bh r).err=0):(ke (bh r).val).val=r:=by
 obtain⟨q1,q2,q3,q4,q5,q6,e1,e2,e3,e4,e5,e6⟩:=LG h;have hh:bj (bh r).val=⟨cond r.c7 4 3,r.By,0⟩:=by rw[(zT h).1];exact E2 _
 unfold ke;simp only[e1,e2,e3,e4,e5,e6,hh];have:((cond r.c7 4 3:Int)==4)=r.c7:=by cases r.c7<;>rfl
 rw[this]
theorem Ev{r:cN}(h:(bh r).err=0):(Ga (bh r).val (bj (bh r).val).By ((bj (bh r).val).kind==4)).val=r/\(Ga (bh r).val (bj (bh r).val).By ((bj (bh r).val).kind==4)).bad=Zz:=by
 obtain⟨q1,q2,q3,q4,q5,q6,e1,e2,e3,e4,e5,e6⟩:=LG h;have hh:bj (bh r).val=⟨cond r.c7 4 3,r.By,0⟩:=by rw[(zT h).1];exact E2 _
 have:((cond r.c7 4 3:Int)==4)=r.c7:=by cases r.c7<;>rfl
 unfold Ga dK nE dw;simp[e1,e2,e3,e4,e5,e6,hh,this]
theorem ML(b:Bytes):eN zC bh (λb=>((ke b).val,Zz)) b=eN zC bh (λb=>((Ga b (bj b).By ((bj b).kind==4)).val,(Ga b (bj b).By ((bj b).kind==4)).bad)) b :=
 iG (P:=λ_=>True) (λ_ _ h=>by simp only[IA h]) (λr _ h=>Prod.ext (Ev h).1 (Ev h).2) (λ_=>trivial) (λ_=>trivial) b
theorem Ds{b:Bytes}{l:List Int}(h:(aM b l).2=0):(aM b l).1=(bj b).By:=by grind [aM]
structure qp where
 service:bn
 bt:Int
 key:Int
def V':qp:=⟨dF,0,0⟩
def qp.av(c:qp):AV := .agg [.str c.service.name,.str c.service.inst,.str c.service.aK,.int AI c.bt,.int AT c.key]
def qp.ok(c:qp):Prop:=c.service.name.length<=9223372036854775807/\c.service.inst.length<=9223372036854775807/\c.service.aK.length<=9223372036854775807/\oY c.bt=true/\D8 c.key=true
def qp.tf(a b:qp):Bool:=a.service.name==b.service.name&&(a.service.inst==b.service.inst&&(a.service.aK==b.service.aK&&(a.bt==b.bt&&a.key==b.key)))
def qp.is(p:bn)(v:Int)(x:qp):Bool:=x.service.tf p&&x.bt==v
def aaA(l:List qp)(p:bn)(v:Int):Nat:=l.findIdx (qp.is p v)
def lT(l:List qp)(p:bn)(v:Int):Int×Bool:=if aaA l p v<l.length then((l.getD (aaA l p v) V').key,true) else(0,Zz)
def qp.err(x:qp):Int:=if !x.service.valid then 103 else if !within x.bt 255 then 104 else if !bB x.key then 10 else 0
def QM:List qp->List qp->Int
 | _,[]=>0
 | seen,c::r=>if c.err≠0 then c.err else if seen.any (qp.is c.service c.bt) then 107 else QM (seen++[c]) r
def Uo(l:List qp):Int:=if 60<l.length then 106 else QM [] l
def EC:List qp->List qp->Bool
 | [],[]=>true
 | a::l,b::r=>a.tf b&&EC l r
 | _,_=>Zz
structure Mark where
 BY:bn
 time:Int
 tick:Int
def Mark.av(m:Mark):AV := .agg [.str m.BY.name,.str m.BY.inst,.str m.BY.aK,.int AI m.time,.int AI m.tick]
def Mark.ok(m:Mark):Prop:=m.BY.name.length<=9223372036854775807/\m.BY.inst.length<=9223372036854775807/\m.BY.aK.length<=9223372036854775807/\oY m.time=true/\oY m.tick=true
def Mark.tf(a b:Mark):Bool:=a.BY.name==b.BY.name&&(a.BY.inst==b.BY.inst&&(a.BY.aK==b.BY.aK&&(a.time==b.time&&a.tick==b.tick)))
theorem Mark.qC{a b:Mark}:a.tf b=true↔a=b:=by
 obtain⟨⟨a1,a2,a3⟩,a4,a5⟩:=a;obtain⟨⟨b1,b2,b3⟩,b4,b5⟩:=b;simp[Mark.tf,and_assoc]
def xZ(l:List Mark)(m:Mark):Bool:=l.any λx=>x.tf m
structure pH where
 size:Int
 floor:Int
 marks:List Mark
def NB:pH:=⟨0,0,[]⟩
def Mark.err(floor:Int)(m:Mark):Int :=
 if !m.BY.valid then 103 else if !(decide (floor<=m.time)&&decide (m.time<=4294967295)&&within m.tick 199) then 104 else 0
def H9(floor:Int):List Mark->List Mark->Int
 | _,[]=>0
 | seen,c::r=>if c.err floor≠0 then c.err floor else if xZ seen c then 107 else H9 floor (seen++[c]) r
def pH.err(r:pH):Int :=
 if !(decide (1<=r.size)&&decide (r.size<=40)&&within r.floor 4294967295) then 104 else if r.size<r.marks.length then 106 else H9 r.floor [] r.marks
def pW(r:pH)(now fQ:Int):List Mark:=r.marks.filter λx=>decide (imax r.floor (now-fQ)<=x.time)
def oo(r:pH)(m:Mark)(now fQ:Int):GG pH :=
 if r.err≠0 then⟨NB,108⟩ else if !m.BY.valid then⟨NB,103⟩ else if !within m.tick 199 then⟨NB,104⟩
 else if Dz m.time now fQ=Zz\/m.time<r.floor then⟨NB,37⟩ else if xZ r.marks m then⟨NB,34⟩
 else if r.size<=(pW r now fQ).length then⟨NB,82⟩
 else⟨⟨r.size,imax r.floor (now-fQ),pW r now fQ++[m]⟩,0⟩
def EB:List Mark->List Mark->Bool
 | [],[]=>true
 | a::l,b::r=>a.tf b&&EB l r
 | _,_=>Zz
def pH.same(a b:pH):Bool:=a.size==b.size&&(a.floor==b.floor&&EB a.marks b.marks)
structure Server where
 me:bn
 keys:List qp
 replay:pH
 fQ:Int
structure pF where
 BY:bn
 ax:Int
 address:Int
 dB:Int
 time:Int
 tick:Int
 cL:Int
 bS:Int
 aG:Bytes
 ft:Bytes
def sQ:pF:=⟨dF,0,0,0,0,0,0,0,[],[]⟩
def Server.err(s:Server):Int :=
 if !s.me.valid then 103 else if Uo s.keys≠0 then Uo s.keys else if s.replay.err≠0 then s.replay.err else if !within s.fQ 4294967295 then 104 else 0
structure UA where
 aG:dU
 ft:nJ
 err:Int
def vH(t:dU)(aK:Bytes):bn:=⟨t.service,t.inst,aK⟩
def ea(s:Server)(r:cN):UA :=
 if r.aK≠s.me.aK then⟨jr,sR,35⟩
 else if (lT s.keys s.me r.bt).2=Zz then⟨jr,sR,35⟩
 else if (gQ r.aG (lT s.keys s.me r.bt).1).err=7 then⟨jr,sR,7⟩
 else if (gQ r.aG (lT s.keys s.me r.bt).1).err≠0 then⟨jr,sR,31⟩
 else if (vH (gQ r.aG (lT s.keys s.me r.bt).1).val s.me.aK).tf s.me=Zz then⟨jr,sR,35⟩
 else if (uO r.ft r.By (gQ r.aG (lT s.keys s.me r.bt).1).val.ax).err≠0 then⟨jr,sR,31⟩
 else⟨(gQ r.aG (lT s.keys s.me r.bt).1).val,(uO r.ft r.By (gQ r.aG (lT s.keys s.me r.bt).1).val.ax).val,0⟩
def Mb(t:dU)(a:nJ)(src now fQ:Int):Int :=
 if t.BY.tf a.BY=Zz then 36 else if src≠t.address then 38 else if Dz a.time now fQ=Zz then 37 else JF t.cL t.bS now fQ
def wM(a:nJ):Mark:=⟨a.BY,a.time,a.tick⟩
structure GM where
 s:Server
 a:pF
 err:Int
def verify(s:Server)(r:cN)(src now:Int):GM :=
 if s.err≠0 then⟨s,sQ,108⟩
 else if (ea s r).err≠0 then⟨s,sQ,(ea s r).err⟩
 else if Mb (ea s r).aG (ea s r).ft src now s.fQ≠0 then⟨s,sQ,Mb (ea s r).aG (ea s r).ft src now s.fQ⟩
 else if (oo s.replay (wM (ea s r).ft) now s.fQ).err≠0 then⟨s,sQ,(oo s.replay (wM (ea s r).ft) now s.fQ).err⟩
 else⟨⟨s.me,s.keys,(oo s.replay (wM (ea s r).ft) now s.fQ).val,s.fQ⟩,⟨(ea s r).aG.BY,(ea s r).aG.ax,(ea s r).aG.address,(ea s r).ft.dB,(ea s r).ft.time,(ea s r).ft.tick,(ea s r).aG.cL,(ea s r).aG.bS,r.aG,r.ft⟩,0⟩
def pF.aam(a:pF)(li:Bool):ll:=DI a.ax a.dB a.time a.tick li
structure ag4 where
 s:Server
 a:pF
 answer:Bytes
 err:Int
def pF.same(a b:pF):Bool:=a.BY.tf b.BY&&a.ax==b.ax&&a.address==b.address&&a.dB==b.dB&&a.time==b.time&&a.tick==b.tick&&a.cL==b.cL&&a.bS==b.bS&&a.aG==b.aG&&a.ft==b.ft
def Server.same(a b:Server):Bool:=a.me.tf b.me&&a.fQ==b.fQ&&EC a.keys b.keys&&a.replay.same b.replay
theorem zV(b:Bytes):(eI b).val.aK.length<=9223372036854775807/\(eI b).val.aG.length<=255/\(eI b).val.ft.length<=255:=by
 unfold eI;split
 .exact⟨by simp[zC],by simp[zC],by simp[zC]⟩
 unfold eN;split
 .exact⟨by simp[zC],by simp[zC],by simp[zC]⟩
 .rename_i h;have he:(bh (ke b).val).err=0:=Decidable.byContradiction λq=>h (.inr (.inl q));obtain⟨_,h1,_,h2,h3⟩:=zT he;exact⟨by have:=h1.1;dsimp only;omega,h2,h3⟩
end Kerb
/- Chapter 11: safe and private messages, in plain words. -/
namespace Kerb
open Go Go.Abs
structure rp where
 data:Bytes
 tick:Int
 addr:Int
 time:Int
def eB(p:rp)(li:Bool):ll :=
 if 500<p.data.length then⟨[],105⟩
 else if !(within p.tick 199&&within p.addr 4294967295&&within p.time 4294967295) then⟨[],104⟩
 else⟨pad (aJ (cond li 1 0) 1 Zz++aJ p.data.length 2 li++p.data++aJ p.tick 1 Zz++aJ p.addr 4 li++aJ p.time 4 li),0⟩
structure OJ where
 text:Bytes
 box:Bytes
 err:Int
def lS(p:rp)(li:Bool)(kind k:Int):OJ :=
 if (eB p li).err≠0 then⟨[],[],(eB p li).err⟩
 else if (g_ kind k (eB p li).val).err≠0 then⟨[],[],(g_ kind k (eB p li).val).err⟩
 else⟨(eB p li).val,(g_ kind k (eB p li).val).val,0⟩
def Ch(b s:Bytes)(li:Bool):Bytes:=b++aJ s.length 2 li++s
def rP(p:rp)(li:Bool)(k:Int):ll :=
 if (lS p li 5 k).err≠0 then⟨[],(lS p li 5 k).err⟩ else⟨Ch (header 6 li) (lS p li 5 k).box li,0⟩
def rQ(p:rp)(li:Bool)(k:Int):ll :=
 if (lS p li 6 k).err≠0 then⟨[],(lS p li 6 k).err⟩ else⟨Ch (Ch (header 7 li) (lS p li 6 k).text li) (lS p li 6 k).box li,0⟩
theorem um(p:rp)(li:Bool):(eB p li).val.length<=1000:=by
 unfold eB;split
 .exact Nat.zero_le _
 split
 .exact Nat.zero_le _
 .rename_i h _;obtain⟨z,hz,hl⟩:=qe (aJ (cond li 1 0) 1 Zz++aJ p.data.length 2 li++p.data++aJ p.tick 1 Zz++aJ p.addr 4 li++aJ p.time 4 li);simp only[hz,List.length_append,ai];omega
theorem BZ(kd k:Int)(b:Bytes):(g_ kd k b).val.length<=1012:=by grind [aj,ai,g_]
theorem s8(p:rp)(li:Bool)(kd k:Int):(lS p li kd k).text.length<=1000/\(lS p li kd k).box.length<=1012:=by
 unfold lS;split
 .simp
 split
 .simp
 .exact⟨um _ _,BZ _ _ _⟩
structure Ly where
 val:Bytes
 next:Int
 ok:Bool
def ew(b:Bytes)(pos most:Int)(li:Bool):Ly :=
 if (get b pos 2 li).err≠0\/most<(get b pos 2 li).val then⟨[],0,Zz⟩
 else⟨(bytes b (get b pos 2 li).next (get b pos 2 li).val).val,(bytes b (get b pos 2 li).next (get b pos 2 li).val).next,(bytes b (get b pos 2 li).next (get b pos 2 li).val).err==0⟩
structure LA where
 kind:Int
 plain:Bytes
 cI:Bytes
 By:Bool
 err:Int
def jc(b:Bytes):Ly:=cond ((bj b).kind==7) (ew b 2 1000 (aM b [6,7]).1) ⟨[],2,true⟩
def gE(b:Bytes):LA :=
 if (aM b [6,7]).2≠0 then⟨0,[],[],Zz,(aM b [6,7]).2⟩
 else if (jc b).ok=true/\(ew b (jc b).next 1012 (aM b [6,7]).1).ok=true/\(ew b (jc b).next 1012 (aM b [6,7]).1).next=b.length then
  ⟨(bj b).kind,(jc b).val,(ew b (jc b).next 1012 (aM b [6,7]).1).val,(aM b [6,7]).1,0⟩
 else⟨0,[],[],Zz,100⟩
def fe(b:Bytes)(li:Bool)(pos:Int)(bad:Bool):Rd Bytes :=
 let n:=dK b 2 li pos bad
 dw b n.val n.pos n.bad
def k8(b:Bytes):Rd Bytes:=cond ((bj b).kind==7) (fe b (aM b [6,7]).1 2 Zz) ⟨[],2,Zz⟩
def lC(b:Bytes):Rd Bytes:=fe b (aM b [6,7]).1 (k8 b).pos (k8 b).bad
theorem zH{b:Bytes}{li:Bool}{pos most:Int}(h:(ew b pos most li).ok=true):fe b li pos Zz=⟨(ew b pos most li).val,(ew b pos most li).next,Zz⟩/\((ew b pos most li).val.length:Int)<=most:=by
 unfold ew at h ⊢;split at h
 .cases h
 rename_i h0;rw[Qa0 h0];simp only[Qb1] at h;have e1:(get b pos 2 li).err=0:=Classical.byContradiction λq=>h0 (.inl q);constructor
 .unfold fe dK dw;simp only[e1,BEq.rfl,Bool.not_true,Bool.or_false,Qa7,Bool.false_or,h]
 .have hl:=vR h;have hb:=Fs b pos 2 li (by omega);simp only;omega where
 vR {b:Bytes} {pos n:Int} (h:(bytes b pos n).err=0):((bytes b pos n).val.length:Int)=n.toNat:=by
  unfold bytes at h ⊢;split at h
  .rename_i h1;rw[Qa1 h1];simp only[jd h1]
  .rename_i h1;exact absurd h h1
theorem Ae{b:Bytes}{li:Bool}{pos most:Int}{bad:Bool}(h:(fe b li pos bad).bad=Zz)(hl:((fe b li pos bad).val.length:Int)<=most):bad=Zz/\ew b pos most li=⟨(fe b li pos Zz).val,(fe b li pos Zz).pos,true⟩:=by
 unfold fe dK dw at h hl;simp only[Bool.or_eq_false_iff,Bool.not_eq_false',Qb1] at h hl;obtain⟨⟨h1,h2⟩,h3⟩:=h;subst h1;rw[h2] at h3 hl;simp only[BEq.rfl,Bool.not_true,Bool.or_false,Qa7] at h3 hl;have hb:=Fs b pos 2 li (by omega);have hn:=zH.vR h3;refine⟨rfl,?_⟩;unfold ew fe dK dw;rw[Qa0 (by rintro(q | q);exact q h2;omega)];simp only[h2,BEq.rfl,Bool.not_true,Bool.or_false,Qa7,h3,Bool.false_or]
theorem Iu(b:Bytes):gE b=if (aM b [6,7]).2≠0 then⟨0,[],[],Zz,(aM b [6,7]).2⟩
  else if (lC b).bad=true\/(lC b).pos≠b.length\/(1000:Int)<(k8 b).val.length\/(1012:Int)<(lC b).val.length then⟨0,[],[],Zz,100⟩
  else⟨(bj b).kind,(k8 b).val,(lC b).val,(aM b [6,7]).1,0⟩:=by
 unfold gE;by_cases h0:(aM b [6,7]).2≠0
 .rw[Qa1 h0,Qa1 h0]
 rw[Qa0 h0,Qa0 h0];by_cases hc:(jc b).ok=true/\(ew b (jc b).next 1012 (aM b [6,7]).1).ok=true/\(ew b (jc b).next 1012 (aM b [6,7]).1).next=b.length
 .rw[Qa1 hc];obtain⟨c1,c2,c3⟩:=hc;have hp:k8 b=⟨(jc b).val,(jc b).next,Zz⟩/\((jc b).val.length:Int)<=1000:=by
   unfold jc at c1;unfold k8 jc;cases hk:((bj b).kind==7)
   .exact⟨rfl,by simp⟩
   .rw[hk] at c1;exact zH c1
  have hs:=zH c2;have es:lC b=fe b (aM b [6,7]).1 (jc b).next Zz:=by unfold lC;rw[hp.1]
  rw[es,hs.1,hp.1];simp only;have:=hp.2;have:=hs.2;rw[Qa0 (by rintro(q | q | q | q);cases q;exact q c3;omega;omega)]
 .rw[Qa0 hc];by_cases hd:(lC b).bad=true\/(lC b).pos≠b.length\/(1000:Int)<(k8 b).val.length\/(1012:Int)<(lC b).val.length
  .rw[Qa1 hd]
  exfalso;apply hc;simp only[not_or,Bool.not_eq_true,Classical.not_not] at hd;obtain⟨d1,d2,d3,d4⟩:=hd;have l4:((fe b (aM b [6,7]).1 (k8 b).pos (k8 b).bad).val.length:Int)<=1012:=by
   have:((lC b).val.length:Int)<=1012:=by omega
   exact this
  have q:=Ae (most:=1012) (show(fe b (aM b [6,7]).1 (k8 b).pos (k8 b).bad).bad=Zz from d1) l4;have es:lC b=fe b (aM b [6,7]).1 (k8 b).pos Zz:=by unfold lC;rw[q.1]
  have hp:jc b=⟨(k8 b).val,(k8 b).pos,true⟩:=by
   have q1:=q.1;unfold k8 at q1 d3;unfold jc k8;cases hk:((bj b).kind==7)
   .rfl
   .rw[hk] at q1 d3;have l3:((fe b (aM b [6,7]).1 2 Zz).val.length:Int)<=1000:=by
     simp only[Qa6] at d3;omega
    have:=(Ae (most:=1000) (show(fe b (aM b [6,7]).1 2 Zz).bad=Zz from q1) l3).2;exact this
  rw[hp];simp only;rw[q.2];rw[<-es];exact⟨trivial,rfl,d2⟩
end Kerb
/- Data of the statements of chapter 23: databases, requests. -/
namespace Kerb
open Go Go.Abs
def ia.leq(x e:ia):Bool:=Op.bytesLess x.name e.name||(x.name==e.name&&(Op.bytesLess x.inst e.inst||x.inst==e.inst))
structure KAsk where
 op:UInt8
 user:UInt8
 service:UInt8
 ax:UInt8
 new:UInt8
 time:UInt8
 stop:UInt8
 cL:UInt8
 bS:UInt8
 address:UInt8
 aa3:UInt8
 old:UInt8
 how:Int
namespace KAsk
def Z2(a:KAsk):Int:=1+oR a.op % 3
def w(a:KAsk):Int:=oR a.aa3 % 16
def tm(a:KAsk):Int:=1000+oR a.time
def Uk(l0 l1 l2:Bytes)(n:Int):Bytes:=if n=0 then l0 else if n=1 then l1 else l2
def label(a:KAsk):Bytes:=if a.w=1 then Uk ly fO vM (a.Z2-1) else Uk vM ly fO (a.Z2-1)
def K5(a:KAsk):eQ :=
 if a.label=fO then⟨a.label,a.tm,0,0,if a.w=2 then Kerb.ax 5 else tL (30+oR a.new % 3)⟩
 else⟨a.label,a.tm,a.tm,a.tm+oR a.stop*50,0⟩
def body(a:KAsk):Bytes:=if a.w=3 then(aR a.K5).val++[0] else(aR a.K5).val
def u(a:KAsk):Int:=oR a.user % 3
def tkt(a:KAsk):dU :=
 ⟨Zz,if a.w=5 then Kerb.user (3+a.u) else Kerb.user a.u,oR a.address % 2,Kerb.ax (oR a.ax % 4),oR a.bS % 40,1000+oR a.cL,BQ,if a.w=6 then[66,79,83] else[65,84,72]⟩
def cI(a:KAsk):Bytes:=(gS a.tkt (if a.w=8 then tL 4 else tL 3)).val
def want(a:KAsk):bn:=if a.w=11 then tgs [65,84,72] [66,79,83] else Kerb.service (oR a.service % 3)
def key(a:KAsk):Int :=
 if a.w=7 then tL 99 else if a.Z2=2 then Kerb.ax (oR a.ax % 4) else if oR a.old % 4=3 then tL (30+oR a.old / 4 % 3) else tL a.u
def box(a:KAsk):Bytes:=(g_ 7 a.key a.body).val
def XM(a:KAsk):dk :=
 if a.Z2=2 then⟨2,dF,if a.w=10 then 5 else 6,if a.w=9 then[66,79,83] else[65,84,72],a.cI,a.want.name,a.want.inst,a.box⟩
 else⟨a.Z2,if a.w=4 then Kerb.user (3+oR a.user % 6) else Kerb.user a.u,0,[],[],[],[],a.box⟩
def message(a:KAsk):Bytes:=if a.w=15 then tD (aP a.XM).val a.how else(aP a.XM).val
end KAsk
namespace KAsk
end KAsk
end Kerb
/- The statements of chapter 23, plain: databases stay without an error. -/
namespace Kerb
open Go Go.Abs
structure SB (d d':Db):Prop where
 err:d'.err=0
 ok:d'.ok
 len:d'.entries.length=d.entries.length
 aK:d'.aK=d.aK
theorem SB.trans{a b c:Db}(h:SB a b)(g:SB b c):SB a c:=⟨g.err,g.ok,g.len.trans h.len,g.aK.trans h.aK⟩
structure Kept (d:Db):Prop where
 err:d.err=0
 ok:d.ok
 all:(d.entries.map ia.av).all Tj=true
 len:d.entries.length<=60
 aK:d.aK.length<=39
theorem ia.qC{x y:ia}:(x.name==y.name&&(x.inst==y.inst&&(x.key==y.key&&(x.bt==y.bt&&(x.cJ==y.cJ&&(x.nj==y.nj&&(x.attr==y.attr&&(x.Bl==y.Bl&&x.Lq==y.Lq))))))))=true↔x=y:=by
 cases x;cases y;simp
end Kerb
/- Chapter 20: clients stay without an error. -/
namespace Kerb
open Go Go.Abs
theorem bn.qC{p q:bn}:p.tf q=true↔p=q:=by
 constructor
 .intro h;obtain⟨a,b,c⟩:=p;obtain⟨d,e,f⟩:=q;simp only[bn.tf,Zy,Qb1] at h;obtain⟨rfl,rfl,rfl⟩:=h;rfl
 .rintro rfl;exact bn.Hp p
instance:DecidableEq bn:=λp q=>if h:p.tf q=true then isTrue (bn.qC.1 h) else isFalse λg=>h (bn.qC.2 g)
def aaz:List bn:=[service 0,service 1,service 2,service 3,service 4,service 5,service 6,service 7,service 8]
end Kerb
