/- Chapters 2, 4, 7, 10, 15 and 20, in plain words: lifetimes, boxes, authenticators, requests, caches, clients. -/
import Derived.Test.YteafbgcimcpfiaaGreatKerbKaRef
set_option linter.all false
open Bool renaming false→Zz,and_eq_true→Zy,not_eq_true'→Zw,not_eq_false→Zv
open Go.IntKind renaming bits→Zx
namespace Kerb
open Go Go.Abs
def bf.rm(p q:bf):Bool:=p.name==q.name&&(p.inst==q.inst&&p.aJ==q.aJ)
def tgs(aJ target:Bytes):bf:=⟨[107,114,98,116,103,116],target,aJ⟩
def Vt(cE cl:Int):Int:=if within cE 4294967295&&within cl 255 then cE+300*(cl+1) else 0
def Cq(a b eU:Int):Bool:=within a 4294967295&&within b 4294967295&&within eU 4294967295&&decide (a-b<=eU)&&decide (b-a<=eU)
def fo(kind k:Int)(body:Bytes):ll :=
 if !isKind kind then⟨[],104⟩ else if !bm k then⟨[],10⟩ else if 1000<body.length then⟨[],105⟩
 else⟨[66,UInt8.ofNat kind.toNat]++keyBytes k++aN body.length 2 Zz++body,0⟩
structure VG where
 kind:Int
 key:Int
 body:Bytes
structure Tf where
 box:VG
 n:Int
 err:Int
def G7:VG:=⟨0,0,[]⟩
def kr(b:Bytes):Nat:=(b.getD 10 0).toNat*256+(b.getD 11 0).toNat
def aW(b:Bytes):Tf :=
 if b.length<12 then⟨G7,0,101⟩
 else if b.getD 0 0≠66\/isKind ((b.getD 1 0).toNat:Int)=Zz\/(eQ (cut b 2 8)).2=Zz\/1000<kr b then⟨G7,0,100⟩
 else if b.length<12+kr b then⟨G7,0,101⟩
 else⟨⟨((b.getD 1 0).toNat:Int),(eQ (cut b 2 8)).1,cut b 12 (kr b)⟩,((12+kr b:Nat):Int),0⟩
def kE(b:Bytes)(kind k:Int):Bytes×Bool :=
 if (aW b).err≠0\/(aW b).n≠b.length\/(aW b).box.kind≠kind\/(aW b).box.key≠k then([],Zz) else((aW b).box.body,true)
structure ma where
 client:bf
 cX:Int
 tick:Int
 time:Int
def ma.check(a:ma):Int :=
 if !a.client.valid then 103 else if !(within a.cX 4294967295&&within a.tick 199&&within a.time 4294967295) then 104 else 0
def fM(a:ma)(aq:Bool):ll :=
 if a.check≠0 then⟨[],a.check⟩
 else⟨pad (cC (aN (cond aq 1 0) 1 Zz) a.client++aN a.cX 4 aq++aN a.tick 1 Zz++aN a.time 4 aq),0⟩
def Pr(a:ma)(aq:Bool)(k:Int):ll :=
 if (fM a aq).err≠0 then⟨[],(fM a aq).err⟩ else fo 2 k (fM a aq).val
structure cP where
 aq:Bool
 gS:Bool
 bO:Int
 aJ:Bytes
 aI:Bytes
 fg:Bytes
def bZ(r:cP):ll :=
 if !cJ r.aJ then⟨[],103⟩
 else if !within r.bO 255 then⟨[],104⟩
 else if 255<r.aI.length\/255<r.fg.length then⟨[],105⟩
 else⟨a_ (header (cond r.gS 4 3) r.aq++aN r.bO 1 Zz) r.aJ++aN r.aI.length 1 Zz++aN r.fg.length 1 Zz++r.aI++r.fg,0⟩
structure ff where
 ap:cP
 time:Int
 cl:Int
 service:Bytes
 inst:Bytes
def dO(r:ff):ll :=
 if r.ap.gS then⟨[],100⟩
 else if (bZ r.ap).err≠0 then⟨[],(bZ r.ap).err⟩
 else if !(validName r.service&&bS r.inst) then⟨[],103⟩
 else if !(within r.time 4294967295&&within r.cl 255) then⟨[],104⟩
 else⟨a_ (a_ ((bZ r.ap).val++aN r.time 4 r.ap.aq++aN r.cl 1 Zz) r.service) r.inst,0⟩
structure eP where
 service:bf
 aB:Int
 cl:Int
 bO:Int
 cE:Int
 aI:Bytes
def eP.av(c:eP):AV := .agg [.str c.service.name,.str c.service.inst,.str c.service.aJ,.int .u64 c.aB,.int .i64 c.cl,.int .i64 c.bO,.int .i64 c.cE,.bs c.aI]
def sS:eP:=⟨dg,0,0,0,0,[]⟩
def eP.ok(c:eP):Prop:=c.service.name.length<=9223372036854775807/\c.service.inst.length<=9223372036854775807/\c.service.aJ.length<=9223372036854775807/\0<=c.aB/\c.aB<18446744073709551616/\c.aI.length<=9223372036854775807
def Ke(c:eP):Int :=
 if !c.service.valid then 103 else if !bm c.aB then 10
 else if !(within c.cl 255&&within c.bO 255&&within c.cE 4294967295) then 104
 else if 255<c.aI.length then 105 else 0
def FX:List eP->List eP->Int
 | _,[]=>0
 | seen,c::r=>if Ke c≠0 then Ke c else if seen.any (fun d=>d.service.rm c.service) then 107 else FX (seen++[c]) r
structure Cache where
 owner:bf
 rj:List eP
def EL:Cache:=⟨dg,[]⟩
def Cache.err(c:Cache):Int:=if !c.owner.valid then 103 else if 20<c.rj.length then 106 else FX [] c.rj
def NK(l:List eP)(s:bf):Nat:=l.findIdx fun d=>d.service.rm s
def Kp(l:List eP)(s:bf):eP×Bool:=if NK l s<l.length then(l.getD (NK l s) sS,true) else(sS,Zz)
def eP.expired(c:eP)(now:Int):Bool:=decide (Vt c.cE c.cl<now)
def yx(c:Cache)(x:eP):Fv Cache :=
 if c.err≠0 then⟨EL,c.err⟩
 else if Cache.err ⟨c.owner,[x]⟩≠0 then⟨EL,Cache.err ⟨c.owner,[x]⟩⟩
 else if 20<=(c.rj.filter fun d => !d.service.rm x.service).length then⟨EL,106⟩
 else⟨⟨c.owner,(c.rj.filter fun d => !d.service.rm x.service)++[x]⟩,0⟩
structure Client where
 me:bf
 address:Int
 eU:Int
 aq:Bool
 cache:Cache
 wait:Int
 wanted:bf
 aB:Int
 time:Int
 cl:Int
 cX:Int
 tick:Int
def Cache.av(c:Cache):AV := .agg [.str c.owner.name,.str c.owner.inst,.str c.owner.aJ,.sl 8 (c.rj.map eP.av)]
def Client.av(c:Client):AV := .agg [.str c.me.name,.str c.me.inst,.str c.me.aJ,.int .i64 c.address,.int .i64 c.eU,.bool c.aq,.str c.cache.owner.name,.str c.cache.owner.inst,.str c.cache.owner.aJ,.sl 8 (c.cache.rj.map eP.av),.int .i64 c.wait,.str c.wanted.name,.str c.wanted.inst,.str c.wanted.aJ,.int .u64 c.aB,.int .i64 c.time,.int .i64 c.cl,.int .i64 c.cX,.int .i64 c.tick]
def Client.idle(c:Client):Client:=⟨c.me,c.address,c.eU,c.aq,c.cache,0,dg,0,0,0,0,0⟩
def Client.err(c:Client):Int :=
 if !c.me.valid then 103
 else if !(within c.address 4294967295&&within c.eU 4294967295) then 104
 else if !(decide (0<=c.wait)&&decide (c.wait<=3)) then 104
 else if c.cache.err≠0 then c.cache.err
 else if !c.cache.owner.rm c.me then 103 else 0
def qG(me service:bf):bf:=tgs me.aJ service.aJ
structure afl where
 c:Client
 msg:Bytes
 err:Int
structure afi where
 val:cP
 err:Int
def Cr:cP:=⟨false,false,0,[],[],[]⟩
structure agH where
 c:Client
 msg:Bytes
 Wo:eP
 fg:Bytes
 err:Int
def eP.same(a b:eP):Bool:=a.service.rm b.service&&a.aB==b.aB&&a.cl==b.cl&&a.bO==b.bO&&a.cE==b.cE&&a.aI==b.aI
def Dp:List eP->List eP->Bool
 | [],[]=>true
 | a::r,b::q=>a.same b&&Dp r q
 | _,_=>Zz
def Cache.same(a b:Cache):Bool:=a.owner.rm b.owner&&Dp a.rj b.rj
def Client.same(a b:Client):Bool:=a.me.rm b.me&&a.address==b.address&&a.eU==b.eU&&a.aq==b.aq&&a.cache.same b.cache&&a.wait==b.wait&&a.wanted.rm b.wanted&&a.aB==b.aB&&a.time==b.time&&a.cl==b.cl&&a.cX==b.cX&&a.tick==b.tick
theorem wg(r:cP):(bZ r).val.length<=1000:=by
 unfold bZ;split
 ·simp
 rename_i h1;split
 ·simp
 split
 ·simp
 rename_i h3;have l1:=gQ (s:=r.aJ) (by simpa using h1);have g:=jv (cond r.gS 4 3) r.aq;simp[bN,af];omega
theorem M3(n:Nat):[UInt8.ofNat (Int.toNat (IntKind.wrap .u8 (Int.fdiv (n:Int) (2 ^ min (Int.toNat 8) (Zx .i64))))),UInt8.ofNat (Int.toNat (IntKind.wrap .u8 (n:Int)))]=aN n 2 Zz:=by
 have e:(2:Int) ^ min (Int.toNat 8) (Zx .i64)=256:=by decide
 rw[e,Int.fdiv_eq_ediv_of_nonneg _ (by decide),wrap_u8,wrap_u8];show _=[c9 n 1,c9 n 0];unfold c9;simp
def Client.lE(c:Client):Prop :=
 (c.me.name.length<=9223372036854775807/\c.me.inst.length<=9223372036854775807/\c.me.aJ.length<=9223372036854775807) /\
 (c.cache.owner.name.length<=9223372036854775807/\c.cache.owner.inst.length<=9223372036854775807/\c.cache.owner.aJ.length<=9223372036854775807) /\
 (∀ x∈c.cache.rj,x.ok)/\c.cache.rj.length<=1000000
theorem bf.Gb(p:bf):p.rm p=true:=by simp[bf.rm]
end Kerb
/- Clients: what the statements of chapter 20 lean on. -/
namespace Kerb
open Go Go.Abs
end Kerb
/- Chapters 2 and 6: lifetimes that are granted, the state of a ticket, tickets. -/
namespace Kerb
open Go Go.Abs
def least(n:Int)(l:List Int):Int:=l.foldl u5 n
def Lz(now want:Int)(ends:List Int):Int×Bool :=
 if !within now 4294967295||decide (want<0) then(0,Zz)
 else if least (now+300*(u5 want 255+1)) ends-now<300 then(0,Zz)
 else(u5 ((least (now+300*(u5 want 255+1)) ends-now) / 300-1) 255,true)
def Ii(cE cl now eU:Int):Int :=
 if !(within cE 4294967295&&within now 4294967295&&within cl 255&&within eU 4294967295) then 104
 else if now+eU<cE then 33 else if Vt cE cl+eU<now then 32 else 0
def gR(k:Int):Int:=bif bm k then kf k else 0
def jy:dF:=⟨false,dg,0,0,0,0,[],[]⟩
def dF.err(t:dF):Int :=
 if !(t.client.valid&&(validName t.service&&bS t.inst)) then 103
 else if gR t.aB≠2 then 10
 else if !(within t.address 4294967295&&(within t.cl 255&&within t.cE 4294967295)) then 104 else 0
def bB(t:dF):ll :=
 if t.err≠0 then⟨[],t.err⟩
 else⟨pad (a_ (a_ (cC (aN (cond t.aq 1 0) 1 Zz) t.client++aN t.address 4 t.aq++keyBytes t.aB++aN t.cl 1 Zz++aN t.cE 4 t.aq) t.service) t.inst),0⟩
def vx(b:Bytes):dF :=
 let o:=get b 0 1 Zz
 let li:=o.val==1
 let p:=iA b o.next
 let a:=get b p.next 4 li
 let k:=bytes b a.next 8
 let l:=get b k.next 1 Zz
 let i:=get b l.next 4 li
 let s:=text b i.next
 ⟨li,p.val,a.val,(eQ k.val).1,l.val,i.val,s.val,(text b s.next).val⟩
def bY(b:Bytes):Fv dF :=
 if 1<(get b 0 1 Zz).val then⟨jy,7⟩ else fU jy bB (fun b=>(vx b,Zz)) b
def eI(t:dF)(k:Int):ll:=if (bB t).err≠0 then⟨[],(bB t).err⟩ else fo 1 k (bB t).val
def fP(b:Bytes)(k:Int):Fv dF:=if (kE b 1 k).2 then bY (kE b 1 k).1 else⟨jy,31⟩
theorem FO{k:Int}(h:gR k=2):bm k=true:=by
 unfold gR at h;cases hk:bm k
 ·rw[hk] at h;simp at h
 ·rfl
theorem mS{t:dF}(h:(bB t).err=0):t.client.valid=true/\validName t.service=true/\bS t.inst=true/\bm t.aB=true/\(0<=t.address/\t.address<=4294967295)/\(0<=t.cl/\t.cl<=255)/\(0<=t.cE/\t.cE<=4294967295) /\
  (bB t).val=pad (aN (cond t.aq 1 0) 1 Zz++(t.client.name++0::(t.client.inst++0::(t.client.aJ++0::(aN t.address 4 t.aq++(keyBytes t.aB++(aN t.cl 1 Zz++(aN t.cE 4 t.aq++(t.service++0::(t.inst++[0])))))))))):=by
 have he:t.err=0:=by
  unfold bB at h;split at h
  ·exact h
  ·rename_i hn;simpa using hn
 have hv:(bB t).val=pad (a_ (a_ (cC (aN (cond t.aq 1 0) 1 Zz) t.client++aN t.address 4 t.aq++keyBytes t.aB++aN t.cl 1 Zz++aN t.cE 4 t.aq) t.service) t.inst):=by
  unfold bB;rw[Qa0 (by simpa using he)]
 unfold dF.err at he;split at he
 ·cases he
 rename_i h1;split at he
 ·cases he
 rename_i h2;split at he
 ·cases he
 rename_i h3;simp only[Bool.not_eq_true,Bool.not_eq_false',Zy,within_iff] at h1 h3;simp only[ne_eq,Decidable.not_not] at h2;refine⟨h1.1,h1.2.1,h1.2.2,FO h2,h3.1,h3.2.1,h3.2.2,?_⟩;rw[hv];simp[a_,cC]
theorem EH{s:Bytes}(h:validName s=true):s.length<=39/\(0:UInt8) ∉ s:=by
 simp only[validName,Zy,Qa2] at h;exact⟨h.1.2,zy h.2⟩
theorem inst_ok{s:Bytes}(h:bS s=true):s.length<=39/\(0:UInt8) ∉ s:=by
 simp only[bS,Zy,Qa2] at h;exact⟨h.1,zy h.2⟩
theorem Ee{t:dF}(h:(bB t).err≠0):(bB t).val=[]:=by grind [bB]
theorem Cg(t:dF):(bB t).val.length<=224:=by
 by_cases h:(bB t).err=0
 ·obtain⟨hc,hs,hn,hk,ha,hl,hd,hb⟩:=mS h;have l1:=cq hc;have l2:=(EH hs).1;have l3:=(inst_ok hn).1;rw[hb,qT];simp[af,ag];omega
 ·rw[Ee h];simp
end Kerb
/- Chapter 25: records, parts and messages of version 5, in plain words. -/
namespace Kerb
open Go Go.Abs
structure FA where
 client:bf
 service:bf
 aB:Int
 start:Int
 stop:Int
 addr:Int
structure uj where
 aB:Int
 service:bf
 start:Int
 stop:Int
 record:Bytes
structure DP where
 op:Int
 name:bf
 box:Bytes
def period(a b:Int):Bool:=within a 4294967295&&within b 4294967295&&decide (a<=b)
def dH(r:FA):ll :=
 if !(r.client.valid&&r.service.valid) then⟨[],103⟩
 else if gR r.aB≠2 then⟨[],10⟩
 else if !(period r.start r.stop&&within r.addr 4294967295) then⟨[],104⟩
 else⟨pad (cC (cC [] r.client) r.service++keyBytes r.aB++aN r.start 4 Zz++aN r.stop 4 Zz++aN r.addr 4 Zz),0⟩
def cN(p:uj):ll :=
 if !bm p.aB then⟨[],10⟩
 else if !p.service.valid then⟨[],103⟩
 else if !period p.start p.stop then⟨[],104⟩
 else if 300<p.record.length then⟨[],105⟩
 else⟨pad (cH (cC (keyBytes p.aB) p.service++aN p.start 4 Zz++aN p.stop 4 Zz) p.record),0⟩
def eH(m:DP):ll :=
 if !lN m.op then⟨[],40⟩
 else if !m.name.valid then⟨[],103⟩
 else if 1012<m.box.length then⟨[],105⟩
 else⟨cH (cC (header 10 Zz++aN m.op 1 Zz) m.name) m.box,0⟩
def Jq:FA:=⟨dg,dg,0,0,0,0⟩
def EM:uj:=⟨0,dg,0,0,[]⟩
def Jp:DP:=⟨0,dg,[]⟩
def pP(b:Bytes)(k:Int)(pos:Int)(bad:Bool):Rd Int:=⟨(get b pos k Zz).val,cond ((get b pos k Zz).err==0) (get b pos k Zz).next pos,bad || !((get b pos k Zz).err==0)⟩
def nv(b:Bytes)(n:Int)(pos:Int)(bad:Bool):Rd Bytes:=⟨(bytes b pos n).val,cond ((bytes b pos n).err==0) (bytes b pos n).next pos,bad || !((bytes b pos n).err==0)⟩
def lC(b:Bytes)(pos:Int)(bad:Bool):Rd bf:=⟨(iA b pos).val,cond ((iA b pos).err==0) (iA b pos).next pos,bad || !((iA b pos).err==0)⟩
def zc(b:Bytes)(pos:Int)(bad:Bool):Rd Int:=⟨(eQ (nv b 8 pos bad).val).1,(nv b 8 pos bad).pos,(nv b 8 pos bad).bad || !(eQ (nv b 8 pos bad).val).2⟩
theorem zl(b:Bytes)(pos:Int)(bad:Bool):0<=(zc b pos bad).val/\(zc b pos bad).val<18446744073709551616:=my _
def Ys(b:Bytes):Rd FA :=
 let c:=lC b 0 Zz
 let s:=lC b c.pos c.bad
 let k:=zc b s.pos s.bad
 let t:=pP b 4 k.pos k.bad
 let e:=pP b 4 t.pos t.bad
 let a:=pP b 4 e.pos e.bad
 ⟨⟨c.val,s.val,k.val,t.val,e.val,a.val⟩,a.pos,a.bad⟩
def SV(b:Bytes):Rd uj :=
 let k:=zc b 0 Zz
 let s:=lC b k.pos k.bad
 let t:=pP b 4 s.pos s.bad
 let e:=pP b 4 t.pos t.bad
 let m:=pP b 2 e.pos e.bad
 let x:=nv b m.val m.pos m.bad
 ⟨⟨k.val,s.val,t.val,e.val,x.val⟩,x.pos,x.bad⟩
def Yr(b:Bytes):Rd DP :=
 let o:=pP b 1 2 Zz
 let n:=lC b o.pos o.bad
 let m:=pP b 2 n.pos n.bad
 let x:=nv b m.val m.pos m.bad
 ⟨⟨o.val,n.val,x.val⟩,x.pos,x.bad⟩
def Bf(b:Bytes):FA×Bool:=((Ys b).val,(Ys b).bad)
def yq(b:Bytes):uj×Bool:=((SV b).val,(SV b).bad)
def Ho(b:Bytes):DP×Bool:=((Yr b).val,(Yr b).bad)
def df(b:Bytes):Fv FA:=fU Jq dH Bf b
def cF(b:Bytes):Fv uj:=fU EM cN yq b
def eW(b:Bytes):Fv DP :=
 if (bh b [10]).2≠0 then⟨Jp,(bh b [10]).2⟩ else fU Jp eH Ho b
theorem A'{a b:Int}:period a b=true↔(0<=a/\a<=4294967295)/\(0<=b/\b<=4294967295)/\a<=b:=by simp[period,within_iff,and_assoc]
theorem FQ{k:Int}(h:gR k=2):bm k=true:=by
 unfold gR at h;cases hk:bm k
 ·rw[hk] at h;cases h
 ·rfl
theorem yB{r:FA}(h:(dH r).err=0):r.client.valid=true/\r.service.valid=true/\bm r.aB=true/\(0<=r.start/\r.start<=4294967295)/\(0<=r.stop/\r.stop<=4294967295)/\(0<=r.addr/\r.addr<=4294967295) /\
  ∃ z,(dH r).val=r.client.name++0::(r.client.inst++0::(r.client.aJ++0::(r.service.name++0::(r.service.inst++0::(r.service.aJ++0::(keyBytes r.aB++(aN r.start 4 Zz++(aN r.stop 4 Zz++(aN r.addr 4 Zz++z)))))))))/\z.length<=7:=by
 unfold dH at h ⊢;split at h
 ·cases h
 rename_i g0;rw[Qa0 g0];split at h
 ·cases h
 rename_i g1;rw[Qa0 g1];split at h
 ·cases h
 rename_i g2;rw[Qa0 g2];simp only[Zw,Zv,Zy,A',within_iff] at g0 g2;obtain⟨z,hz,hl⟩:=A9 (cC (cC [] r.client) r.service++keyBytes r.aB++aN r.start 4 Zz++aN r.stop 4 Zz++aN r.addr 4 Zz);refine⟨g0.1,g0.2,FQ (by omega),g2.1.1,g2.1.2.1,g2.2,z,?_,hl⟩;rw[hz];simp[cC,a_]
theorem wc{p:uj}(h:(cN p).err=0):bm p.aB=true/\p.service.valid=true/\(0<=p.start/\p.start<=4294967295)/\(0<=p.stop/\p.stop<=4294967295)/\p.record.length<=300 /\
  ∃ z,(cN p).val=keyBytes p.aB++(p.service.name++0::(p.service.inst++0::(p.service.aJ++0::(aN p.start 4 Zz++(aN p.stop 4 Zz++(aN p.record.length 2 Zz++(p.record++z)))))))/\z.length<=7:=by
 unfold cN at h ⊢;split at h
 ·cases h
 rename_i g0;rw[Qa0 g0];split at h
 ·cases h
 rename_i g1;rw[Qa0 g1];split at h
 ·cases h
 rename_i g2;rw[Qa0 g2];split at h
 ·cases h
 rename_i g3;rw[Qa0 g3];simp only[Zw,Zv,A'] at g0 g1 g2;obtain⟨z,hz,hl⟩:=A9 (cH (cC (keyBytes p.aB) p.service++aN p.start 4 Zz++aN p.stop 4 Zz) p.record);refine⟨g0,g1,g2.1,g2.2.1,by omega,z,?_,hl⟩;rw[hz];simp[cC,a_,cH]
theorem F_{m:DP}(h:(eH m).err=0):(1<=m.op/\m.op<=3)/\m.name.valid=true/\m.box.length<=1012 /\
  (eH m).val=header 10 Zz++(aN m.op 1 Zz++(m.name.name++0::(m.name.inst++0::(m.name.aJ++0::(aN m.box.length 2 Zz++(m.box++[])))))):=by
 unfold eH at h ⊢;split at h
 ·cases h
 rename_i g0;rw[Qa0 g0];split at h
 ·cases h
 rename_i g1;rw[Qa0 g1];split at h
 ·cases h
 rename_i g2;rw[Qa0 g2];simp only[Zw,Zv,wH] at g0 g1;exact⟨by omega,g1,by omega,by simp[cC,a_,cH]⟩
end Kerb
/- Chapter 20: what a client makes of replies and answers. -/
namespace Kerb
open Go Go.Abs
structure Rcv where
 c:Client
 Wo:eP
 err:Int
def E2(c:Client)(k:Int):Int:=if c.wait=2 then(Kp c.cache.rj (qG c.me c.wanted)).1.aB else k
def qW(c:Client)(k:Int)(msg:Bytes):J5 :=
 if (bJ msg).err≠0 then⟨sT,(bJ msg).err⟩
 else if !(bJ msg).val.client.rm c.me || !((bJ msg).val.time==c.time) then⟨sT,63⟩
 else if c.wait=2/\(Kp c.cache.rj (qG c.me c.wanted)).2=Zz then⟨sT,76⟩
 else if (kE (bJ msg).val.ia 3 (E2 c k)).2=Zz then⟨sT,62⟩
 else if (bA (kE (bJ msg).val.ia 3 (E2 c k)).1 (bJ msg).val.aq).err≠0 \/
   (bA (kE (bJ msg).val.ia 3 (E2 c k)).1 (bJ msg).val.aq).val.service.rm c.wanted=Zz then⟨sT,63⟩
 else⟨(bA (kE (bJ msg).val.ia 3 (E2 c k)).1 (bJ msg).val.aq).val,0⟩
def sZ(p:gF):eP:=⟨p.service,p.aB,p.cl,p.bO,p.time,p.aI⟩
def aak(c:Client)(k:Int)(msg:Bytes)(now:Int):Rcv :=
 if c.err≠0\/(c.wait≠1/\c.wait≠2) then⟨c,sS,108⟩
 else if (sc msg).err=0 then
  if (sc msg).val.client.rm c.me=Zz then⟨c,sS,63⟩ else⟨c.idle,sS,(sc msg).val.code⟩
 else if (qW c k msg).err≠0 then⟨c,sS,(qW c k msg).err⟩
 else if Cq (qW c k msg).val.time now c.eU=Zz then⟨c,sS,37⟩
 else if (yx c.cache (sZ (qW c k msg).val)).err≠0 then⟨c,sS,(yx c.cache (sZ (qW c k msg).val)).err⟩
 else⟨{ c.idle with cache:=(yx c.cache (sZ (qW c k msg).val)).val },sZ (qW c k msg).val,0⟩
def Lp(client service:bf)(aB mK:Int)(aq:Bool)(time now cl:Int):Bytes :=
 (dQ ⟨aq,client,time,0,0,(fo 3 mK (bR ⟨aB,service,cl,2,[1,2,3],now⟩ aq).val).val⟩).val
structure Ir where
 kind:UInt8
 client:UInt8
 service:UInt8
 time:UInt8
 now:UInt8
 aq:Bool
 mK:UInt8
 how:Int
def Ir.av(x:Ir):AV := .agg [.u8 x.kind,.u8 x.client,.u8 x.service,.u8 x.time,.u8 x.now,.bool x.aq,.u8 x.mK,.int .u16 x.how]
structure Iz where
 cX:Int
 tick:Int
 time:Int
def dG(m:Iz)(aq:Bool):ll :=
 if !(within m.cX 4294967295&&within m.tick 199&&within m.time 4294967295) then⟨[],104⟩
 else⟨pad (aN (cond aq 1 0) 1 Zz++aN m.cX 4 aq++aN m.tick 1 Zz++aN m.time 4 aq),0⟩
theorem TA(b:Bytes):List.drop (Int.toNat 2) (List.take (Int.toNat 10) b)=cut b 2 8:=by
 show List.drop 2 (List.take 10 b)=List.take 8 (List.drop 2 b);rw[List.drop_take]
theorem Tz(b:Bytes)(n:Nat):List.drop (Int.toNat 12) (List.take (Int.toNat (12+(n:Int))) b)=cut b 12 n:=by
 have e:Int.toNat (12+(n:Int))=12+n:=by omega
 rw[e];show List.drop 12 (List.take (12+n) b)=List.take n (List.drop 12 b);rw[List.drop_take];congr 1;omega
theorem Kj(b:Bytes)(p n:Int):(cut b p n).length<=b.length:=by unfold cut;simp;omega
theorem Sf(x y:UInt8):IntKind.wrap .i64 (↑(BitVec.toNat (BitVec.ofInt (Zx .i64) (IntKind.wrap .i64 (IntKind.wrap .i64 (↑x.toNat:Int)*(2:Int) ^ min (Int.toNat (8:Int)) (Zx .i64))) ||| BitVec.ofInt (Zx .i64) (IntKind.wrap .i64 (↑y.toNat:Int)))):Int)=((x.toNat*256+y.toNat:Nat):Int):=by
 have hx:=x.toNat_lt;have hy:=y.toNat_lt;have e1:(2:Int) ^ min (Int.toNat (8:Int)) (Zx .i64)=256:=by decide
 rw[e1,wrap_i64 (n:=(x.toNat:Int)) (by omega) (by omega),wrap_i64 (n:=(y.toNat:Int)) (by omega) (by omega),wrap_i64 (n:=(x.toNat:Int)*256) (by omega) (by omega)];have e2:BitVec.toNat (BitVec.ofInt (Zx .i64) ((x.toNat:Int)*256) ||| BitVec.ofInt (Zx .i64) (y.toNat:Int))=x.toNat*256+y.toNat:=by
  rw[BitVec.toNat_or];have f1:(BitVec.ofInt (Zx .i64) ((x.toNat:Int)*256)).toNat=2 ^ 8*x.toNat:=by
   rw[BitVec.toNat_ofInt];show(((x.toNat:Int)*256) % ((2 ^ 64:Nat):Int)).toNat=_;rw[Int.emod_eq_of_lt (by omega) (by omega)];omega
  have f2:(BitVec.ofInt (Zx .i64) (y.toNat:Int)).toNat=y.toNat:=by
   rw[BitVec.toNat_ofInt];show((y.toNat:Int) % ((2 ^ 64:Nat):Int)).toNat=_;rw[Int.emod_eq_of_lt (by omega) (by omega)];omega
  rw[f1,f2,<-Nat.two_pow_add_eq_or_of_lt (by omega)];omega
 rw[e2,wrap_i64 (by omega) (by omega)]
theorem M4(x:UInt8):IntKind.wrap .i64 (↑x.toNat:Int)=(x.toNat:Int):=by
 have hx:=x.toNat_lt;exact wrap_i64 (by omega) (by omega)
end Kerb
namespace Kerb
open Go Go.Abs
end Kerb
namespace Kerb
open Go Go.Abs
def m8(x:UInt8):UInt8:=UInt8.ofNat (Int.toNat (Int.tmod (↑x.toNat:Int) (↑(8:UInt8).toNat:Int)))
def d8(x:UInt8):Int:=IntKind.wrap .i64 (↑(UInt8.ofNat (Int.toNat (IntKind.wrap .u8 (Int.tdiv (↑x.toNat:Int) (↑(8:UInt8).toNat:Int))))).toNat:Int)
theorem Ta(x:UInt8):0<=IntKind.wrap .i64 (↑x.toNat:Int)/\IntKind.wrap .i64 (↑x.toNat:Int)<=255:=by
 have h:=x.toNat_lt;rw[wrap_i64 (by omega) (by omega)];omega
def Ir.me(x:Ir)(c:Client):bf:=cond (m8 x.client==7) (user (d8 x.client)) c.me
def Ir.wanted(x:Ir)(c:Client):bf:=cond (m8 x.service==7) (Kerb.service (d8 x.service)) c.wanted
def Ir.at'(x:Ir)(c:Client):Int:=cond (m8 x.time==7) (IntKind.wrap .i64 (↑x.time.toNat:Int)) c.time
def Ir.key(x:Ir)(k:Int):Int:=cond (m8 x.mK==7) (aB (d8 x.mK)) k
def Ir.code(x:Ir):Int:=IntKind.wrap .i64 (↑(UInt8.ofNat (Int.toNat (IntKind.wrap .u8 ((↑(1:UInt8).toNat:Int)+(↑(UInt8.ofNat (Int.toNat (IntKind.wrap .u8 (Int.tdiv (↑x.kind.toNat:Int) (↑(8:UInt8).toNat:Int))))).toNat:Int))))).toNat:Int)
def Ir.rep(x:Ir)(c:Client)(k:Int):Bytes :=
 Lp (x.me c) (x.wanted c) (aB 50) (x.key k) x.aq (x.at' c) (IntKind.wrap .i64 (1000+IntKind.wrap .i64 (IntKind.wrap .i64 (↑x.now.toNat:Int)*4))) 100
def Ir.text(x:Ir)(c:Client)(k:Int):Bytes :=
 cond (m8 x.kind==7) (oX ⟨x.aq,x.me c,9,x.code,[]⟩).val (cond (m8 x.kind==6) (oJ (x.rep c k) x.how) (x.rep c k))
end Kerb
namespace Kerb
open Go Go.Abs
def gF.ok(p:gF):Prop:=(sZ p).ok/\p.aI.length<=255
end Kerb
namespace Kerb
open Go Go.Abs
end Kerb
/- Chapters 10, 18, 20: the answer of a service, and what a client makes of it. -/
namespace Kerb
open Go Go.Abs
def dN(s:Bytes)(li:Bool):ll :=
 if 1012<s.length then⟨[],105⟩ else⟨header 8 li++aN s.length 2 li++s,0⟩
def zD(b:Bytes)(li:Bool):Bytes:=let n:=get b 2 2 li;(bytes b n.next n.val).val
structure Tc where
 val:Bytes
 aq:Bool
 err:Int
def ig(b:Bytes):Tc :=
 if (bh b [8]).2≠0 then⟨[],Zz,(bh b [8]).2⟩
 else if (fU [] (fun s=>dN s (bh b [8]).1) (fun b'=>(zD b' (bh b [8]).1,Zz)) b).err=0 then
  ⟨(fU [] (fun s=>dN s (bh b [8]).1) (fun b'=>(zD b' (bh b [8]).1,Zz)) b).val,(bh b [8]).1,0⟩ else⟨[],Zz,100⟩
theorem Tl{s:Bytes}{li:Bool}(h:(dN s li).err=0):(dN s li).val=header 8 li++(aN s.length 2 li++(s++[]))/\s.length<=1012:=by grind [dN]
theorem LD(li:Bool):(header 8 li).length=2:=by cases li<;>rfl
def wS(n:Int):Int:=(n+1) % 4294967296
def Cv(aB cX time tick:Int)(li:Bool):ll :=
 if (dG ⟨wS cX,tick,time⟩ li).err≠0 then⟨[],(dG ⟨wS cX,tick,time⟩ li).err⟩
 else if (fo 4 aB (dG ⟨wS cX,tick,time⟩ li).val).err≠0 then⟨[],(fo 4 aB (dG ⟨wS cX,tick,time⟩ li).val).err⟩
 else dN (fo 4 aB (dG ⟨wS cX,tick,time⟩ li).val).val li
structure aas where
 c:Client
 err:Int
theorem Ce(b:Bytes):(ig b).val.length<=1012:=by
 unfold ig;split
 ·simp
 split
 ·rename_i h0 h;unfold fU at h ⊢;split at h
  ·cases h
  ·rename_i h2;rw[Qa0 h2];exact(Tl (Decidable.byContradiction fun x=>h2 (.inr (.inl x)))).2
 ·simp
end Kerb
/- Chapters 12 and 14: the principals of a realm, keys between realms. -/
namespace Kerb
open Go Go.Abs
structure gp where
 name:Bytes
 inst:Bytes
 key:Int
 bO:Int
 eu:Int
 lS:Int
 attr:Int
 Ab:Int
 J0:Int
def noEntry:gp:=⟨[],[],0,0,0,0,0,0,0⟩
def gp.av(e:gp):AV := .agg [.str e.name,.str e.inst,.int .u64 e.key,.int .i64 e.bO,.int .i64 e.eu,.int .i64 e.lS,.int .i64 e.attr,.int .i64 e.Ab,.int .i64 e.J0]
def nC(n:Int):Bool:=decide (-9223372036854775808<=n)&&decide (n<=9223372036854775807)
def CW(n:Int):Bool:=decide (0<=n)&&decide (n<18446744073709551616)
def RL:AV->Bool
 | .agg [.str n,.str i,.int .u64 k,.int .i64 v,.int .i64 x,.int .i64 m,.int .i64 a,.int .i64 f,.int .i64 t] =>
  decide (n.length<=9223372036854775807)&&decide (i.length<=9223372036854775807)&&CW k&&nC v&&nC x&&nC m&&nC a&&nC f&&nC t
 | _=>Zz
def gp.ok(e:gp):Prop:=e.name.length<=9223372036854775807/\e.inst.length<=9223372036854775807/\CW e.key=true/\nC e.bO=true/\nC e.eu=true/\nC e.lS=true/\nC e.attr=true/\nC e.Ab=true/\nC e.J0=true
def gp.err(e:gp):Int :=
 if !(validName e.name&&bS e.inst) then 103
 else if e.key≠0/\bm e.key=Zz then 10
 else if !(within e.bO 255&&(within e.eu 4294967295&&within e.J0 4294967295)) then 104
 else if !(within e.lS 255&&(within e.attr 3&&within e.Ab 20)) then 104 else 0
def gp.less(a b:gp):Bool:=Op.bytesLess a.name b.name||(a.name==b.name&&Op.bytesLess a.inst b.inst)
def z_:Option gp->List gp->Int
 | _,[]=>0
 | p,e::r=>if e.err≠0 then e.err else if (match p with | some q=>e.less q | none=>Zz) then 110 else z_ (some e) r
structure Db where
 aJ:Bytes
 entries:List gp
def gp.rm(a b:gp):Bool:=a.name==b.name&&(a.inst==b.inst&&(a.key==b.key&&(a.bO==b.bO&&(a.eu==b.eu&&(a.lS==b.lS&&(a.attr==b.attr&&(a.Ab==b.Ab&&a.J0==b.J0)))))))
def Hv:List gp->List gp->Bool
 | [],[]=>true
 | a::l,b::r=>a.rm b&&Hv l r
 | _,_=>Zz
def Db.same(a b:Db):Bool:=a.aJ==b.aJ&&Hv a.entries b.entries
theorem gp.Gb(a:gp):a.rm a=true:=by simp[gp.rm]
def Db.err(d:Db):Int:=if !cJ d.aJ then 103 else if 60<d.entries.length then 106 else z_ none d.entries
def gp.named(n i:Bytes)(e:gp):Bool:=e.name==n&&e.inst==i
def ku(l:List gp)(n i:Bytes):Int×Int :=
 if l.countP (gp.named n i)=0 then(0,8) else if 1<l.countP (gp.named n i) then(0,9) else((l.findIdx (gp.named n i):Int),0)
def Wi(a b:Int):Int:=IntKind.wrap .i64 ((BitVec.ofInt 64 a &&& BitVec.ofInt 64 b).toNat:Int)
def QT(d:Db)(n i:Bytes)(now bit expired Tt:Int):Int×Int :=
 if (ku d.entries n i).2≠0 then(0,(ku d.entries n i).2)
 else if bm (d.entries.getD (ku d.entries n i).1.toNat noEntry).key=Zz then(0,10)
 else if (d.entries.getD (ku d.entries n i).1.toNat noEntry).eu≠0/\(d.entries.getD (ku d.entries n i).1.toNat noEntry).eu<=now then(0,expired)
 else if Wi (d.entries.getD (ku d.entries n i).1.toNat noEntry).attr bit≠0 then(0,Tt)
 else((ku d.entries n i).1,0)
def pJ(d:Db)(n i:Bytes)(now:Int):Int×Int:=QT d n i now 1 1 5
def mL(d:Db)(n i:Bytes)(now:Int):Int×Int:=QT d n i now 2 2 6
structure m6 where
 source:Bytes
 target:Bytes
 bO:Int
 key:Int
def nL:m6:=⟨[],[],0,0⟩
def m6.av(c:m6):AV := .agg [.str c.source,.str c.target,.int .i64 c.bO,.int .u64 c.key]
def D2(l:List m6)(a b:Bytes):Nat->Option Nat
 | 0=>none
 | i+1=>cond ((l.getD i nL).source==a&&((l.getD i nL).target==b&&(match D2 l a b i with | some j=>decide ((l.getD j nL).bO<(l.getD i nL).bO) | none=>true))) (some i) (D2 l a b i)
def xY(l:List m6)(a b:Bytes):Int×Bool:=match D2 l a b l.length with | some i=>((i:Int),true) | none=>(0,Zz)
end Kerb
/- Chapter 24: clients of kaservers, in plain words. -/
namespace Kerb
open Go Go.Abs
structure Nf where
 op:Int
 time:Int
 start:Int
 stop:Int
 service:bf
 aB:Int
 new:Int
structure aau where
 w:Nf
 msg:Bytes
 err:Int
structure afk where
 c:Client
 w:Nf
 Wo:eP
 err:Int
structure aav where
 op:UInt8
 label:UInt8
 time:UInt8
 service:UInt8
 key:UInt8
 code:UInt8
 start:Int
 stop:Int
 how:Int
end Kerb
/- Chapters 17 and 23: tickets that are granted, the servers of AFS. -/
namespace Kerb
open Go Go.Abs
def AL:Bytes:=[107,114,98,116,103,116]
structure Svc where
 key:Int
 bO:Int
 cl:Int
 eu:Int
 err:Int
def Fh(d:Db)(dU:List m6)(n i:Bytes)(now:Int):Svc :=
 if n==AL&&(cJ i && !(i==d.aJ)) then
  (if (xY dU d.aJ i).2 then⟨(dU.getD (xY dU d.aJ i).1.toNat nL).key,(dU.getD (xY dU d.aJ i).1.toNat nL).bO,255,0,0⟩ else⟨0,0,0,0,8⟩)
 else if (mL d n i now).2≠0 then⟨0,0,0,0,(mL d n i now).2⟩
 else⟨(d.entries.getD (mL d n i now).1.toNat noEntry).key,(d.entries.getD (mL d n i now).1.toNat noEntry).bO,(d.entries.getD (mL d n i now).1.toNat noEntry).lS,(d.entries.getD (mL d n i now).1.toNat noEntry).eu,0⟩
structure yy where
 kind:Int
 server:bf
 client:bf
 service:bf
 aB:Int
 mK:Int
 qG:Int
 text:Bytes
 cE:Int
 stop:Int
def lU:yy:=⟨0,dg,dg,dg,0,0,0,[],0,0⟩
def yy.cs(x:yy):List AV:=[.int .i64 x.kind,.str x.server.name,.str x.server.inst,.str x.server.aJ,.str x.client.name,.str x.client.inst,.str x.client.aJ,.str x.service.name,.str x.service.inst,.str x.service.aJ,.int .u64 x.aB,.int .u64 x.mK,.int .u64 x.qG,.bs x.text,.int .i64 x.cE,.int .i64 x.stop]
def yy.same(a b:yy):Bool:=a.kind==b.kind&&(a.server.rm b.server&&(a.client.rm b.client&&(a.service.rm b.service&&(a.aB==b.aB&&(a.mK==b.mK&&(a.qG==b.qG&&(a.text==b.text&&(a.cE==b.cE&&a.stop==b.stop))))))))
structure Q9 where
 iS:yy
 part:gF
 err:Int
def pT(aq:Bool)(client service:bf)(address now cl aB:Int):dF:=⟨aq,client,address,aB,cl,now,service.name,service.inst⟩
def uA(aJ:Bytes)(client service:bf)(address:Int)(aq:Bool)(now cl aB mK target bO:Int):Q9 :=
 if (eI (pT aq client service address now cl aB) target).err≠0 then⟨lU,sT,(eI (pT aq client service address now cl aB) target).err⟩
 else if (bR ⟨aB,service,cl,bO,(eI (pT aq client service address now cl aB) target).val,now⟩ aq).err≠0 then
  ⟨lU,sT,(bR ⟨aB,service,cl,bO,(eI (pT aq client service address now cl aB) target).val,now⟩ aq).err⟩
 else⟨⟨0,tgs aJ aJ,client,service,aB,mK,0,(eI (pT aq client service address now cl aB) target).val,now,Vt now cl⟩,⟨aB,service,cl,bO,(eI (pT aq client service address now cl aB) target).val,now⟩,0⟩
def refuse(client:bf)(code now:Int)(aq:Bool):Bytes:=(oX ⟨aq,client,now,code,message code⟩).val
structure V3 where
 db:Db
 answer:Bytes
 iS:yy
 ok:Bool
def ic(d:Db)(i:Int):gp:=d.entries.getD i.toNat noEntry
def fe.bd(s:fe):Prop:=(0<=s.time/\s.time<=4294967295)/\(0<=s.stop/\s.stop<=4294967295)/\0<=s.new/\s.new<18446744073709551616
def dF.bd(t:dF):Prop:=t.client.name.length<=40/\t.client.inst.length<=40/\t.client.aJ.length<=40/\CW t.aB=true
def Db.ok(d:Db):Prop:=∀ e∈d.entries,e.ok
def dX.bd(r:dX):Prop:=(r.user.name.length<=40/\r.user.inst.length<=40/\r.user.aJ.length<=40/\r.aJ.length<=40/\r.service.length<=40/\r.inst.length<=40)/\lN r.op=true/\r.aI.length<=255/\r.box.length<=1012
end Kerb
/- Chapters 7, 10, 13, 16, 18: what is decoded, keys of services, replay caches, services that verify. -/
namespace Kerb
open Go Go.Abs
def qO:ma:=⟨dg,0,0,0⟩
def Pk(b:Bytes)(li:Bool):ma :=
 let p:=iA b 1
 let c:=get b p.next 4 li
 let t:=get b c.next 1 Zz
 ⟨p.val,c.val,t.val,(get b t.next 4 li).val⟩
def zY(b:Bytes)(li:Bool):Fv ma:=fU qO (fun a=>fM a li) (fun b=>(Pk b li,Zz)) b
def sY(b:Bytes)(li:Bool)(k:Int):Fv ma :=
 if (kE b 2 k).2=Zz then⟨qO,31⟩
 else if (zY (kE b 2 k).1 li).err≠0 then⟨qO,31⟩ else⟨(zY (kE b 2 k).1 li).val,0⟩
structure V2 where
 val:cP
 next:Int
def jV(b:Bytes):V2 :=
 let k:=get b 2 1 Zz
 let s:=text b k.next
 let n:=get b s.next 1 Zz
 let m:=get b n.next 1 Zz
 let t:=bytes b m.next n.val
 let a:=bytes b t.next m.val
 ⟨⟨(dL b).aq,(dL b).kind==4,k.val,s.val,t.val,a.val⟩,a.next⟩
def fl(b:Bytes):Fv cP :=
 if (bh b [3,4]).2≠0 then⟨Cr,(bh b [3,4]).2⟩ else fU Cr bZ (fun b=>((jV b).val,Zz)) b
theorem Nr{r:cP}(h:(bZ r).err=0):(bZ r).val=header (cond r.gS 4 3) r.aq++(aN r.bO 1 Zz++(r.aJ++0::(aN r.aI.length 1 Zz++(aN r.fg.length 1 Zz++(r.aI++(r.fg++[])))))) /\
  (r.aJ.length<=39/\(0:UInt8) ∉ r.aJ)/\(0<=r.bO/\r.bO<=255)/\r.aI.length<=255/\r.fg.length<=255:=by
 unfold bZ at h ⊢;split at h
 ·cases h
 rename_i h1;rw[Qa0 h1];split at h
 ·cases h
 rename_i h2;rw[Qa0 h2];split at h
 ·cases h
 rename_i h3;rw[Qa0 h3];simp only[Zw,Zv,within_iff] at h1 h2;refine⟨by unfold a_;simp only[List.append_assoc,List.singleton_append,List.cons_append,List.nil_append,List.append_nil],?_,h2,by omega,by omega⟩;simp only[cJ,Zy] at h1;exact inst_ok' h1.2 where
 inst_ok' {s:Bytes} (h:bS s=true):s.length<=39/\(0:UInt8) ∉ s:=by
  simp only[bS,Zy,Qa2] at h;exact⟨h.1,fun hm=>by
   have:=h.2;simp only[dE,List.all_eq_true] at this;exact absurd (this 0 hm) (by decide)⟩
structure oM where
 service:bf
 bO:Int
 key:Int
def UK:oM:=⟨dg,0,0⟩
def oM.av(c:oM):AV := .agg [.str c.service.name,.str c.service.inst,.str c.service.aJ,.int .i64 c.bO,.int .u64 c.key]
def oM.ok(c:oM):Prop:=c.service.name.length<=9223372036854775807/\c.service.inst.length<=9223372036854775807/\c.service.aJ.length<=9223372036854775807/\nC c.bO=true/\CW c.key=true
def oM.rm(a b:oM):Bool:=a.service.name==b.service.name&&(a.service.inst==b.service.inst&&(a.service.aJ==b.service.aJ&&(a.bO==b.bO&&a.key==b.key)))
def oM.is(p:bf)(v:Int)(x:oM):Bool:=x.service.rm p&&x.bO==v
def Y5(l:List oM)(p:bf)(v:Int):Nat:=l.findIdx (oM.is p v)
def jX(l:List oM)(p:bf)(v:Int):Int×Bool:=if Y5 l p v<l.length then((l.getD (Y5 l p v) UK).key,true) else(0,Zz)
def oM.err(x:oM):Int:=if !x.service.valid then 103 else if !within x.bO 255 then 104 else if !bm x.key then 10 else 0
def PG:List oM->List oM->Int
 | _,[]=>0
 | seen,c::r=>if c.err≠0 then c.err else if seen.any (oM.is c.service c.bO) then 107 else PG (seen++[c]) r
def S8(l:List oM):Int:=if 60<l.length then 106 else PG [] l
def Dr:List oM->List oM->Bool
 | [],[]=>true
 | a::l,b::r=>a.rm b&&Dr l r
 | _,_=>Zz
structure Mark where
 client:bf
 time:Int
 tick:Int
def Mark.av(m:Mark):AV := .agg [.str m.client.name,.str m.client.inst,.str m.client.aJ,.int .i64 m.time,.int .i64 m.tick]
def Mark.ok(m:Mark):Prop:=m.client.name.length<=9223372036854775807/\m.client.inst.length<=9223372036854775807/\m.client.aJ.length<=9223372036854775807/\nC m.time=true/\nC m.tick=true
def Mark.rm(a b:Mark):Bool:=a.client.name==b.client.name&&(a.client.inst==b.client.inst&&(a.client.aJ==b.client.aJ&&(a.time==b.time&&a.tick==b.tick)))
theorem Mark.oY{a b:Mark}:a.rm b=true↔a=b:=by
 obtain⟨⟨a1,a2,a3⟩,a4,a5⟩:=a;obtain⟨⟨b1,b2,b3⟩,b4,b5⟩:=b;simp[Mark.rm,and_assoc]
def ww(l:List Mark)(m:Mark):Bool:=l.any fun x=>x.rm m
structure n7 where
 size:Int
 floor:Int
 marks:List Mark
def Mh:n7:=⟨0,0,[]⟩
def Mark.err(floor:Int)(m:Mark):Int :=
 if !m.client.valid then 103 else if !(decide (floor<=m.time)&&decide (m.time<=4294967295)&&within m.tick 199) then 104 else 0
def G0(floor:Int):List Mark->List Mark->Int
 | _,[]=>0
 | seen,c::r=>if c.err floor≠0 then c.err floor else if ww seen c then 107 else G0 floor (seen++[c]) r
def n7.err(r:n7):Int :=
 if !(decide (1<=r.size)&&decide (r.size<=40)&&within r.floor 4294967295) then 104 else if r.size<r.marks.length then 106 else G0 r.floor [] r.marks
def ol(r:n7)(now eU:Int):List Mark:=r.marks.filter fun x=>decide (imax r.floor (now-eU)<=x.time)
def mP(r:n7)(m:Mark)(now eU:Int):Fv n7 :=
 if r.err≠0 then⟨Mh,108⟩ else if !m.client.valid then⟨Mh,103⟩ else if !within m.tick 199 then⟨Mh,104⟩
 else if Cq m.time now eU=Zz\/m.time<r.floor then⟨Mh,37⟩ else if ww r.marks m then⟨Mh,34⟩
 else if r.size<=(ol r now eU).length then⟨Mh,82⟩
 else⟨⟨r.size,imax r.floor (now-eU),ol r now eU++[m]⟩,0⟩
def Dq:List Mark->List Mark->Bool
 | [],[]=>true
 | a::l,b::r=>a.rm b&&Dq l r
 | _,_=>Zz
def n7.same(a b:n7):Bool:=a.size==b.size&&(a.floor==b.floor&&Dq a.marks b.marks)
structure Server where
 me:bf
 keys:List oM
 replay:n7
 eU:Int
structure n0 where
 client:bf
 aB:Int
 address:Int
 cX:Int
 time:Int
 tick:Int
 cE:Int
 cl:Int
 aI:Bytes
 fg:Bytes
def qN:n0:=⟨dg,0,0,0,0,0,0,0,[],[]⟩
def Server.err(s:Server):Int :=
 if !s.me.valid then 103 else if S8 s.keys≠0 then S8 s.keys else if s.replay.err≠0 then s.replay.err else if !within s.eU 4294967295 then 104 else 0
structure Tj where
 aI:dF
 fg:ma
 err:Int
def ua(t:dF)(aJ:Bytes):bf:=⟨t.service,t.inst,aJ⟩
def dx(s:Server)(r:cP):Tj :=
 if r.aJ≠s.me.aJ then⟨jy,qO,35⟩
 else if (jX s.keys s.me r.bO).2=Zz then⟨jy,qO,35⟩
 else if (fP r.aI (jX s.keys s.me r.bO).1).err=7 then⟨jy,qO,7⟩
 else if (fP r.aI (jX s.keys s.me r.bO).1).err≠0 then⟨jy,qO,31⟩
 else if (ua (fP r.aI (jX s.keys s.me r.bO).1).val s.me.aJ).rm s.me=Zz then⟨jy,qO,35⟩
 else if (sY r.fg r.aq (fP r.aI (jX s.keys s.me r.bO).1).val.aB).err≠0 then⟨jy,qO,31⟩
 else⟨(fP r.aI (jX s.keys s.me r.bO).1).val,(sY r.fg r.aq (fP r.aI (jX s.keys s.me r.bO).1).val.aB).val,0⟩
def KD(t:dF)(a:ma)(src now eU:Int):Int :=
 if t.client.rm a.client=Zz then 36 else if src≠t.address then 38 else if Cq a.time now eU=Zz then 37 else Ii t.cE t.cl now eU
def vj(a:ma):Mark:=⟨a.client,a.time,a.tick⟩
structure FB where
 s:Server
 a:n0
 err:Int
def verify(s:Server)(r:cP)(src now:Int):FB :=
 if s.err≠0 then⟨s,qN,108⟩
 else if (dx s r).err≠0 then⟨s,qN,(dx s r).err⟩
 else if KD (dx s r).aI (dx s r).fg src now s.eU≠0 then⟨s,qN,KD (dx s r).aI (dx s r).fg src now s.eU⟩
 else if (mP s.replay (vj (dx s r).fg) now s.eU).err≠0 then⟨s,qN,(mP s.replay (vj (dx s r).fg) now s.eU).err⟩
 else⟨⟨s.me,s.keys,(mP s.replay (vj (dx s r).fg) now s.eU).val,s.eU⟩,⟨(dx s r).aI.client,(dx s r).aI.aB,(dx s r).aI.address,(dx s r).fg.cX,(dx s r).fg.time,(dx s r).fg.tick,(dx s r).aI.cE,(dx s r).aI.cl,r.aI,r.fg⟩,0⟩
def n0.YJ(a:n0)(li:Bool):ll:=Cv a.aB a.cX a.time a.tick li
structure afn where
 s:Server
 a:n0
 answer:Bytes
 err:Int
def n0.same(a b:n0):Bool:=a.client.rm b.client&&a.aB==b.aB&&a.address==b.address&&a.cX==b.cX&&a.time==b.time&&a.tick==b.tick&&a.cE==b.cE&&a.cl==b.cl&&a.aI==b.aI&&a.fg==b.fg
def Server.same(a b:Server):Bool:=a.me.rm b.me&&a.eU==b.eU&&Dr a.keys b.keys&&a.replay.same b.replay
theorem FZ(b:Bytes):(fl b).val.aJ.length<=9223372036854775807/\(fl b).val.aI.length<=255/\(fl b).val.fg.length<=255:=by
 unfold fl;split
 ·exact⟨by simp[Cr],by simp[Cr],by simp[Cr]⟩
 unfold fU;split
 ·exact⟨by simp[Cr],by simp[Cr],by simp[Cr]⟩
 ·rename_i h;have he:(bZ (jV b).val).err=0:=Decidable.byContradiction fun q=>h (.inr (.inl q));obtain⟨_,h1,_,h2,h3⟩:=Nr he;exact⟨by have:=h1.1;dsimp only;omega,h2,h3⟩
end Kerb
/- Chapter 11: safe and private messages, in plain words. -/
namespace Kerb
open Go Go.Abs
structure pF where
 data:Bytes
 tick:Int
 addr:Int
 time:Int
def ca(p:pF)(li:Bool):ll :=
 if 500<p.data.length then⟨[],105⟩
 else if !(within p.tick 199&&within p.addr 4294967295&&within p.time 4294967295) then⟨[],104⟩
 else⟨pad (aN (cond li 1 0) 1 Zz++aN p.data.length 2 li++p.data++aN p.tick 1 Zz++aN p.addr 4 li++aN p.time 4 li),0⟩
structure Nh where
 text:Bytes
 box:Bytes
 err:Int
def io(p:pF)(li:Bool)(kind k:Int):Nh :=
 if (ca p li).err≠0 then⟨[],[],(ca p li).err⟩
 else if (fo kind k (ca p li).val).err≠0 then⟨[],[],(fo kind k (ca p li).val).err⟩
 else⟨(ca p li).val,(fo kind k (ca p li).val).val,0⟩
def w7(b s:Bytes)(li:Bool):Bytes:=b++aN s.length 2 li++s
def ox(p:pF)(li:Bool)(k:Int):ll :=
 if (io p li 5 k).err≠0 then⟨[],(io p li 5 k).err⟩ else⟨w7 (header 6 li) (io p li 5 k).box li,0⟩
def oy(p:pF)(li:Bool)(k:Int):ll :=
 if (io p li 6 k).err≠0 then⟨[],(io p li 6 k).err⟩ else⟨w7 (w7 (header 7 li) (io p li 6 k).text li) (io p li 6 k).box li,0⟩
theorem so(p:pF)(li:Bool):(ca p li).val.length<=1000:=by
 unfold ca;split
 ·exact Nat.zero_le _
 split
 ·exact Nat.zero_le _
 ·rename_i h _;obtain⟨z,hz,hl⟩:=A9 (aN (cond li 1 0) 1 Zz++aN p.data.length 2 li++p.data++aN p.tick 1 Zz++aN p.addr 4 li++aN p.time 4 li);simp only[hz,List.length_append,af];omega
theorem AU(kd k:Int)(b:Bytes):(fo kd k b).val.length<=1012:=by grind [ag,af,fo]
theorem qZ(p:pF)(li:Bool)(kd k:Int):(io p li kd k).text.length<=1000/\(io p li kd k).box.length<=1012:=by
 unfold io;split
 ·simp
 split
 ·simp
 ·exact⟨so _ _,AU _ _ _⟩
structure J6 where
 val:Bytes
 next:Int
 ok:Bool
def fu(b:Bytes)(pos most:Int)(li:Bool):J6 :=
 if (get b pos 2 li).err≠0\/most<(get b pos 2 li).val then⟨[],0,Zz⟩
 else⟨(bytes b (get b pos 2 li).next (get b pos 2 li).val).val,(bytes b (get b pos 2 li).next (get b pos 2 li).val).next,(bytes b (get b pos 2 li).next (get b pos 2 li).val).err==0⟩
structure Q_ where
 kind:Int
 plain:Bytes
 ia:Bytes
 aq:Bool
 err:Int
def tU(b:Bytes):J6:=cond ((dL b).kind==7) (fu b 2 1000 (bh b [6,7]).1) ⟨[],2,true⟩
def g9(b:Bytes):Q_ :=
 if (bh b [6,7]).2≠0 then⟨0,[],[],Zz,(bh b [6,7]).2⟩
 else if (tU b).ok=true/\(fu b (tU b).next 1012 (bh b [6,7]).1).ok=true/\(fu b (tU b).next 1012 (bh b [6,7]).1).next=b.length then
  ⟨(dL b).kind,(tU b).val,(fu b (tU b).next 1012 (bh b [6,7]).1).val,(bh b [6,7]).1,0⟩
 else⟨0,[],[],Zz,100⟩
end Kerb
/- Data of the statements of chapter 23: databases, requests. -/
namespace Kerb
open Go Go.Abs
def gp.leq(x e:gp):Bool:=Op.bytesLess x.name e.name||(x.name==e.name&&(Op.bytesLess x.inst e.inst||x.inst==e.inst))
structure KAsk where
 op:UInt8
 user:UInt8
 service:UInt8
 aB:UInt8
 new:UInt8
 time:UInt8
 stop:UInt8
 cE:UInt8
 cl:UInt8
 address:UInt8
 ZN:UInt8
 old:UInt8
 how:Int
namespace KAsk
def X9(a:KAsk):Int:=1+nt a.op % 3
def w(a:KAsk):Int:=nt a.ZN % 16
def tm(a:KAsk):Int:=1000+nt a.time
def SZ(l0 l1 l2:Bytes)(n:Int):Bytes:=if n=0 then l0 else if n=1 then l1 else l2
def label(a:KAsk):Bytes:=if a.w=1 then SZ lQ fX ve (a.X9-1) else SZ ve lQ fX (a.X9-1)
def JK(a:KAsk):fe :=
 if a.label=fX then⟨a.label,a.tm,0,0,if a.w=2 then Kerb.aB 5 else ou (30+nt a.new % 3)⟩
 else⟨a.label,a.tm,a.tm,a.tm+nt a.stop*50,0⟩
def body(a:KAsk):Bytes:=if a.w=3 then(aR a.JK).val++[0] else(aR a.JK).val
def u(a:KAsk):Int:=nt a.user % 3
def ZH(a:KAsk):dF :=
 ⟨Zz,if a.w=5 then Kerb.user (3+a.u) else Kerb.user a.u,nt a.address % 2,Kerb.aB (nt a.aB % 4),nt a.cl % 40,1000+nt a.cE,AL,if a.w=6 then[66,79,83] else[65,84,72]⟩
def ia(a:KAsk):Bytes:=(eI a.ZH (if a.w=8 then ou 4 else ou 3)).val
def want(a:KAsk):bf:=if a.w=11 then tgs [65,84,72] [66,79,83] else Kerb.service (nt a.service % 3)
def key(a:KAsk):Int :=
 if a.w=7 then ou 99 else if a.X9=2 then Kerb.aB (nt a.aB % 4) else if nt a.old % 4=3 then ou (30+nt a.old / 4 % 3) else ou a.u
def box(a:KAsk):Bytes:=(fo 7 a.key a.body).val
def VZ(a:KAsk):dX :=
 if a.X9=2 then⟨2,dg,if a.w=10 then 5 else 6,if a.w=9 then[66,79,83] else[65,84,72],a.ia,a.want.name,a.want.inst,a.box⟩
 else⟨a.X9,if a.w=4 then Kerb.user (3+nt a.user % 6) else Kerb.user a.u,0,[],[],[],[],a.box⟩
def message(a:KAsk):Bytes:=if a.w=15 then oJ (aX a.VZ).val a.how else(aX a.VZ).val
end KAsk
namespace KAsk
end KAsk
end Kerb
/- The statements of chapter 23, plain: databases stay without an error. -/
namespace Kerb
open Go Go.Abs
structure Q8 (d d':Db):Prop where
 err:d'.err=0
 ok:d'.ok
 len:d'.entries.length=d.entries.length
 aJ:d'.aJ=d.aJ
theorem Q8.trans{a b c:Db}(h:Q8 a b)(g:Q8 b c):Q8 a c:=⟨g.err,g.ok,g.len.trans h.len,g.aJ.trans h.aJ⟩
structure Kept (d:Db):Prop where
 err:d.err=0
 ok:d.ok
 all:(d.entries.map gp.av).all RL=true
 len:d.entries.length<=60
 aJ:d.aJ.length<=39
theorem gp.oY{x y:gp}:(x.name==y.name&&(x.inst==y.inst&&(x.key==y.key&&(x.bO==y.bO&&(x.eu==y.eu&&(x.lS==y.lS&&(x.attr==y.attr&&(x.Ab==y.Ab&&x.J0==y.J0))))))))=true↔x=y:=by
 cases x;cases y;simp
end Kerb
/- Chapter 20: clients stay without an error. -/
namespace Kerb
open Go Go.Abs
theorem bf.oY{p q:bf}:p.rm q=true↔p=q:=by
 constructor
 ·intro h;obtain⟨a,b,c⟩:=p;obtain⟨d,e,f⟩:=q;simp only[bf.rm,Zy,Qb0] at h;obtain⟨rfl,rfl,rfl⟩:=h;rfl
 ·rintro rfl;exact bf.Gb p
instance:DecidableEq bf:=fun p q=>if h:p.rm q=true then isTrue (bf.oY.1 h) else isFalse fun g=>h (bf.oY.2 g)
def Y4:List bf:=[service 0,service 1,service 2,service 3,service 4,service 5,service 6,service 7,service 8]
end Kerb
