/- The statements of chapter 23, plain: databases stay without an error. -/
import Derived.Test.YtpelamlfpffacaaGreatKerbSrvD
import Derived.KernelRfl
set_option linter.all false
open Nat renaming zero_le→Zz,le_trans→Zg,le_refl→Zb
open List renaming filter_cons→Zy,mem_cons→Zv,mem_cons_of_mem→Zu,length_cons→Zj,length_append→Zk,sum_cons→Zp,map_cons→Zd
open Bool renaming and_eq_true→Zx,false→Zw,false_eq_true→Zq,true→Zn
open Int renaming le_refl→Zf
namespace Kerb
open Go Go.Abs
structure SP (d d':Db):Prop where
 err:d'.err=0
 ok:d'.ok
 len:d'.entries.length=d.entries.length
 aC:d'.aC=d.aC
theorem SP.trans{a b c:Db}(h:SP a b)(g:SP b c):SP a c:=⟨g.err,g.ok,g.len.trans h.len,g.aC.trans h.aC⟩
structure Kept (d:Db):Prop where
 err:d.err=0
 ok:d.ok
 all:(d.entries.map hJ.av).all Tz=Zn
 len:d.entries.length<=60
 aC:d.aC.length<=39
theorem hJ.pL{x y:hJ}:(x.name==y.name&&(x.inst==y.inst&&(x.key==y.key&&(x.bI==y.bI&&(x.cD==y.cD&&(x.ns==y.ns&&(x.attr==y.attr&&(x.Br==y.Br&&x.La==y.La))))))))=Zn↔x=y:=by
 cases x;cases y;simp
end Kerb
/- Chapter 23, plain: when a ticket is given; what the data of the statements says. -/
namespace Kerb
open Go Go.Abs
end Kerb
/- Chapter 17: authentication servers; the data of its statements. -/
namespace Kerb
open Go Go.Abs
def oe(r:jX)(p:fY)(k:Int):rK :=
 if (bO p r.little).err≠0 then⟨[],(bO p r.little).err⟩
 else if (je 3 k (bO p r.little).val).err≠0 then⟨[],(je 3 k (bO p r.little).val).err⟩
 else bK ⟨r.little,r.client,r.time,r.cD,r.bI,(je 3 k (bO p r.little).val).val⟩
def Oi(msg:Bytes)(now:Int)(little:Bool):Bytes :=
 if msg.length=0 then[] else if msg.getD 0 0=4 then[] else if (gR (msg.set 0 4)).err≠0 then[]
 else refuse (gR (msg.set 0 4)).val.client 4 now little
structure vI where
 answer:Bytes
 hX:zD
 ok:Bool
def qn(c:hJ)(v:Svc)(bZ now:Int):Int×Bool:=DV now (pP (pP bZ c.ns) v.bZ) ([c.cD,v.cD].filter fun n => !(n==0))
def GJ(d:Db)(c:hJ)(v:Svc)(r:kM)(now address:Int)(little:Bool)(af:Int):vI :=
 if (qn c v r.bZ now).2=Zw then⟨refuse r.client 3 now little,nu,Zw⟩
 else if jK af≠2 then⟨refuse r.client 10 now little,nu,Zw⟩
 else if (rm d.aC r.client ⟨r.service,r.inst,d.aC⟩ address little now (qn c v r.bZ now).1 af c.key v.key v.bI).err≠0 then⟨[],nu,Zw⟩
 else if (oe ⟨little,r.client,r.time,c.cD,c.bI,[]⟩ (rm d.aC r.client ⟨r.service,r.inst,d.aC⟩ address little now (qn c v r.bZ now).1 af c.key v.key v.bI).part c.key).err≠0 then⟨[],nu,Zw⟩
 else⟨(oe ⟨little,r.client,r.time,c.cD,c.bI,[]⟩ (rm d.aC r.client ⟨r.service,r.inst,d.aC⟩ address little now (qn c v r.bZ now).1 af c.key v.key v.bI).part c.key).val,
  { (rm d.aC r.client ⟨r.service,r.inst,d.aC⟩ address little now (qn c v r.bZ now).1 af c.key v.key v.bI).hX with kind:=1 },Zn⟩
def Ls(d:Db)(dv:List lG)(now address:Int)(little:Bool)(af:Int)(r:kM):vI :=
 if r.client.aC≠d.aC then⟨refuse r.client 8 now little,nu,Zw⟩
 else if (rR d r.client.name r.client.inst now).2≠0 then⟨refuse r.client (rR d r.client.name r.client.inst now).2 now little,nu,Zw⟩
 else if (yz d dv r.service r.inst now).err≠0 then⟨refuse r.client (yz d dv r.service r.inst now).err now little,nu,Zw⟩
 else GJ d (iF d (rR d r.client.name r.client.inst now).1) (yz d dv r.service r.inst now) r now address little af
def sO(d:Db)(dv:List lG)(now address:Int)(little:Bool)(af:Int)(msg:Bytes):vI :=
 if !(within now 4294967295&&within address 4294967295) then⟨[],nu,Zw⟩
 else if (gR msg).err≠0 then⟨Oi msg now little,nu,Zw⟩
 else Ls d dv now address little af (gR msg).val
def lG.ok(c:lG):Prop:=c.source.length<=9223372036854775807/\c.target.length<=9223372036854775807/\pq c.bI=Zn/\D4 c.key=Zn
structure MQ where
 client:UInt8
 service:UInt8
 peer:UInt8
 time:UInt8
 bZ:UInt8
 dv:UInt8
 little:Bool
 how:Int
def MQ.want(a:MQ):ck:=if a.service.toNat % 5=4 then YW (aC 0) (aC (oo a.peer)) else Kerb.service (oo a.service % 3)
def MQ.base(a:MQ):Bytes:=(rE ⟨a.little,user (oo a.client % 5),oo a.time,oo a.bZ,a.want.name,a.want.inst⟩).val
def MQ.msg(a:MQ):Bytes :=
 if a.how % 8=7 then wF a.base (a.how / 8)
 else if a.how % 8=6/\0<a.base.length then a.base.set 0 (UInt8.ofNat (Int.toNat (IntKind.wrap .u8 (a.how / 8)))) else a.base
end Kerb
/- Chapter 23, plain: how long a ticket lasts, and who can open the answer. -/
namespace Kerb
open Go Go.Abs
namespace KAsk
end KAsk
end Kerb
namespace Kerb
open Go Go.Abs
structure aiH (a:KAsk) (d:Db) (ad se:Int) (o:ZG) (R:jI) (Y:fW) (k:Int):Prop where
 dec:dZ o.answer=⟨R,0⟩
 len:o.answer.length<=1000000
 code:R.code=0
 opens:(jS R.box 8 k).2=Zn
 says:cf (jS R.box 8 k).1=⟨Y,0⟩
 ZB:Y.af=se
 al1:o.hX.af=se
 aj8:o.hX.nF=k
 time:Y.time=1000+oo a.time+1
 start:Y.start=1100
 stop:Y.stop=o.hX.stop
 most:o.hX.stop<=1000+oo a.time+oo a.stop*50
 client:o.hX.client=user (oo a.user % 3)
 kind:(o.hX.kind=3/\k=(iF d (jt d.entries o.hX.client.name o.hX.client.inst).1).key/\0<=(jt d.entries o.hX.client.name o.hX.client.inst).1/\(jt d.entries o.hX.client.name o.hX.client.inst).1<d.entries.length) \/
  (o.hX.kind=4/\k=af (oo a.af % 4)/\o.hX.stop<=1000+oo a.cH+300*(oo a.bZ % 40+1)/\oo a.address % 2=ad/\o.hX.pN=k)
end Kerb
/- The data of the statements of chapters 18 and 19: cases, servers, keys. -/
namespace Kerb
open Go Go.Abs
structure Case where
 client:UInt8
 other:UInt8
 service:UInt8
 aC:UInt8
 little:Bool
 turned:Bool
 dx:Bool
 address:UInt8
 src:UInt8
 cH:UInt8
 time:UInt8
 tick:UInt8
 bZ:UInt8
 c9:Int
 key:UInt8
 bI:UInt8
 af:UInt8
 aE:Int
 eS:Int
def Case.av(c:Case):AV := .agg [.u8 c.client,.u8 c.other,.u8 c.service,.u8 c.aC,.bool c.little,.bool c.turned,.bool c.dx,.u8 c.address,.u8 c.src,.u8 c.cH,.u8 c.time,.u8 c.tick,.u8 c.bZ,.int .u32 c.c9,.u8 c.key,.u8 c.bI,.u8 c.af,.int .u16 c.aE,.int .u16 c.eS]
def abO(n:Int):Bool:=decide (0<=n)&&decide (n<=4294967295)
def Qv(n:Int):Bool:=decide (0<=n)&&decide (n<=65535)
def Case.ok(c:Case):Prop:=abO c.c9=Zn/\Qv c.aE=Zn/\Qv c.eS=Zn
namespace Case
def who(c:Case):ck:=Kerb.user (oo c.client % 6)
def me(c:Case):ck:=Kerb.service (oo c.service % 6)
def ZB(c:Case):Int:=Kerb.af (oo c.af % 4)
def ZC(c:Case)(m:ck):eU :=
 ⟨c.turned,c.who,oo c.address % 3,c.ZB,oo c.bZ / 4,1000+oo c.cH*8,m.name,if c.service.toNat % 7=6 then[111,116,104,101,114] else m.inst⟩
def au(c:Case):qk:=⟨if c.other.toNat % 8=7 then Kerb.user (oo c.other % 6) else c.who,c.c9,oo c.tick % 3,1000+oo c.time*8⟩
def x(c:Case)(m:ck)(k:Int):Bytes:=(lh (c.ZC m) k).val
def y(c:Case):Bytes:=(jD c.au c.little c.ZB).val
def X3(c:Case)(m:ck)(k v:Int):df :=
  ⟨if c.eS % 16=14 then !c.little else c.little,c.dx,if c.bI.toNat % 16=15 then v+1 else v,if c.aC.toNat % 16=15 then[67,65,77] else m.aC,
   if c.aE % 16=15 then wF (c.x m k) (c.aE / 16) else c.x m k,if c.eS % 16=15 then wF c.y (c.eS / 16) else c.y⟩
def msg(c:Case)(m:ck)(k v:Int):Bytes:=(bD (c.X3 m k v)).val
def server(c:Case)(size fJ:UInt8):Server :=
 ⟨c.me,[⟨c.me,1,ul 1⟩,⟨c.me,2,ul 2⟩,⟨Kerb.user 0,1,ul 9⟩],⟨1+oo size % 40,0,[]⟩,oo fJ*4⟩
end Case
end Kerb
/- The statements of chapter 18, plain: what is accepted. -/
namespace Kerb
open Go Go.Abs
structure Uh (r:qm) (m:Mark) (now fJ:Int):Prop where
 err:r.err=0
 name:m.client.valid=Zn
 tick:0<=m.tick/\m.tick<=199
 Ds:Ds m.time now fJ=Zn
 floor:r.floor<=m.time
 new:m ∉ r.marks
 room:(qC r now fJ).length<r.size
 is:mS r m now fJ=⟨⟨r.size,imax r.floor (now-fJ),qC r now fJ++[m]⟩,0⟩
theorem Hd{l:List Mark}{m:Mark}:xQ l m=Zn↔m∈l:=by
 unfold xQ;rw[List.any_eq_true];constructor
 ·rintro⟨x,hx,he⟩;rw[<-Mark.pL.1 he];exact hx
 ·intro h;exact⟨m,h,Mark.pL.2 rfl⟩
theorem added{r:qm}{m:Mark}{now fJ:Int}(h:(mS r m now fJ).err=0):Uh r m now fJ:=by
 unfold mS at h;by_cases h1:r.err=0;case neg=>rw[Qa1 h1] at h;cases h
 rw[Qa0 (by simpa using h1)] at h;by_cases h2:m.client.valid=Zn;case neg=>rw[Qa1 (by simpa using h2)] at h;cases h
 rw[Qa0 (by simp[h2])] at h;by_cases h3:within m.tick 199=Zn;case neg=>rw[Qa1 (by simpa using h3)] at h;cases h
 rw[Qa0 (by simp[h3])] at h;by_cases h4:Ds m.time now fJ=Zw\/m.time<r.floor
 ·rw[Qa1 h4] at h;cases h
 rw[Qa0 h4] at h;by_cases h5:xQ r.marks m=Zn
 ·rw[Qa1 h5] at h;cases h
 rw[Qa0 h5] at h;by_cases h6:r.size<=(qC r now fJ).length
 ·rw[Qa1 h6] at h;cases h
 refine⟨h1,h2,within_iff.1 h3,?_,by omega,fun hm=>h5 (Hd.2 hm),by omega,?_⟩
 ·cases hn:Ds m.time now fJ
  ·exact absurd (.inl hn) h4
  ·rfl
 ·unfold mS;rw[Qa0 (by simpa using h1),Qa0 (by simp[h2]),Qa0 (by simp[h3]),Qa0 h4,Qa0 h5,Qa0 h6]
structure Ui (s:Server) (r:df) (src now:Int) (t:eU) (a:qk):Prop where
 err:s.err=0
 aC:r.aC=s.me.aC
 found:(lQ s.keys s.me r.bI).2=Zn
 ZC:gL r.aE (lQ s.keys s.me r.bI).1=⟨t,0⟩
 us:v_ t s.me.aC=s.me
 eS:oZ r.eS r.little t.af=⟨a,0⟩
 client:t.client=a.client
 from_:src=t.address
 Ds:Ds a.time now s.fJ=Zn
 state:Jc t.cH t.bZ now s.fJ=0
 add:Uh s.replay (vg a) now s.fJ
 is:verify s r src now=⟨⟨s.me,s.keys,(mS s.replay (vg a) now s.fJ).val,s.fJ⟩,⟨t.client,t.af,t.address,a.c9,a.time,a.tick,t.cH,t.bZ,r.aE,r.eS⟩,0⟩
theorem LF{α:Type}(d:Gu α)(h:d.err=0):d=⟨d.val,0⟩:=by cases d;simp at h;rw[h]
theorem taken{s:Server}{r:df}{src now:Int}(h:(verify s r src now).err=0):∃ t a,Ui s r src now t a:=by
 have h0:=h;unfold verify at h;by_cases h1:s.err=0;case neg=>rw[Qa1 h1] at h;cases h
 rw[Qa0 (by simpa using h1)] at h;by_cases h2:(ea s r).err=0;case neg=>rw[Qa1 h2] at h;exact absurd h h2
 rw[Qa0 (by simpa using h2)] at h;by_cases h3:L6 (ea s r).aE (ea s r).eS src now s.fJ=0;case neg=>rw[Qa1 h3] at h;exact absurd h h3
 rw[Qa0 (by simpa using h3)] at h;by_cases h4:(mS s.replay (vg (ea s r).eS) now s.fJ).err=0;case neg=>rw[Qa1 h4] at h;exact absurd h h4
 have hv:verify s r src now=⟨⟨s.me,s.keys,(mS s.replay (vg (ea s r).eS) now s.fJ).val,s.fJ⟩,⟨(ea s r).aE.client,(ea s r).aE.af,(ea s r).aE.address,(ea s r).eS.c9,(ea s r).eS.time,(ea s r).eS.tick,(ea s r).aE.cH,(ea s r).aE.bZ,r.aE,r.eS⟩,0⟩:=by
  unfold verify;rw[Qa0 (by simpa using h1),Qa0 (by simpa using h2),Qa0 (by simpa using h3),Qa0 (by simpa using h4)]
 have ho:∃ t a,r.aC=s.me.aC/\(lQ s.keys s.me r.bI).2=Zn/\gL r.aE (lQ s.keys s.me r.bI).1=⟨t,0⟩/\v_ t s.me.aC=s.me/\oZ r.eS r.little t.af=⟨a,0⟩/\ea s r=⟨t,a,0⟩:=by
  unfold ea at h2 ⊢;by_cases g1:r.aC=s.me.aC;case neg=>rw[Qa1 g1] at h2;cases h2
  rw[Qa0 (by simpa using g1)] at h2 ⊢;by_cases g2:(lQ s.keys s.me r.bI).2=Zw
  ·rw[Qa1 g2] at h2;cases h2
  rw[Qa0 g2] at h2 ⊢;by_cases g3:(gL r.aE (lQ s.keys s.me r.bI).1).err=7
  ·rw[Qa1 g3] at h2;cases h2
  rw[Qa0 g3] at h2 ⊢;by_cases g4:(gL r.aE (lQ s.keys s.me r.bI).1).err=0;case neg=>rw[Qa1 g4] at h2;cases h2
  rw[Qa0 (by simpa using g4)] at h2 ⊢;by_cases g5:(v_ (gL r.aE (lQ s.keys s.me r.bI).1).val s.me.aC).s6 s.me=Zw
  ·rw[Qa1 g5] at h2;cases h2
  rw[Qa0 g5] at h2 ⊢;by_cases g6:(oZ r.eS r.little (gL r.aE (lQ s.keys s.me r.bI).1).val.af).err=0;case neg=>rw[Qa1 g6] at h2;cases h2
  rw[Qa0 (by simpa using g6)];exact⟨_,_,g1,by simpa using g2,LF _ g4,ck.pL.1 (by simpa using g5),LF _ g6,rfl⟩
 obtain⟨t,a,o1,o2,o3,o4,o5,o6⟩:=ho;rw[o6] at h3 h4 hv;dsimp only at h3 h4 hv;unfold L6 at h3;by_cases j1:t.client.s6 a.client=Zw
 ·rw[Qa1 j1] at h3;cases h3
 rw[Qa0 j1] at h3;by_cases j2:src=t.address;case neg=>rw[Qa1 j2] at h3;cases h3
 rw[Qa0 (by simpa using j2)] at h3;by_cases j3:Ds a.time now s.fJ=Zw
 ·rw[Qa1 j3] at h3;cases h3
 rw[Qa0 j3] at h3;exact⟨t,a,h1,o1,o2,o3,o4,o5,ck.pL.1 (by simpa using j1),j2,by simpa using j3,h3,added h4,hv⟩
namespace Case
end Case
theorem Bo{a:qk}{l:Bool}:(eM a l).val.length<=150:=by
 unfold eM;split
 ·simp
 rename_i h;have hv:a.client.valid=Zn:=by
  unfold qk.check at h;cases hv:a.client.valid
  ·rw[hv,Qa1 (by rfl)] at h;simp at h
  ·rfl
 simp only[ck.valid,Zx,validName,dg,fD,Qa2] at hv;have:=rz (dI (aL (cond l 1 0) 1 Zw) a.client++aL a.c9 4 l++aL a.tick 1 Zw++aL a.time 4 l);simp only[this,Zk,aB,aw];omega
theorem Ge(a:qk)(l:Bool)(k:Int):(jD a l k).val.length<=162:=by
 unfold jD;split
 ·simp
 ·have:=HQ 2 k (eM a l).val;have:=Bo (a:=a) (l:=l);omega
structure Reached (s:Server):Prop where
 err:s.err=0
 keys:∀ c∈s.keys,c.ok
 marks:∀ c∈s.replay.marks,c.ok
 name:s.me.name.length<=9223372036854775807/\s.me.inst.length<=9223372036854775807/\s.me.aC.length<=9223372036854775807
 lens:s.keys.length<=1000000/\s.replay.marks.length<=1000000
theorem Ph(r:df):(bD r).val.length<=600:=by
 by_cases h:(bD r).err=0
 ·obtain⟨h1,⟨h2,_⟩,_,h3,h4⟩:=xv h;have hh:(header (cond r.dx 4 3) r.little).length=2:=by cases r.dx<;>cases r.little<;>rfl
  rw[h1];simp only[Zk,Zj,List.length_nil,aw,hh];omega
 ·unfold bD at h ⊢;split
  ·simp
  rename_i g1;rw[Qa0 g1] at h;split
  ·simp
  rename_i g2;rw[Qa0 g2] at h;split
  ·simp
  rename_i g3;rw[Qa0 g3] at h;exact absurd rfl h
structure Fits (s:Server) (V:GC) (r:df) (src now:Int):Prop where
 err:V.err=0
 t1:V.a.time-now<=s.fJ
 t2:now-V.a.time<=s.fJ
 t3:V.a.cH-s.fJ<=now
 t4:now<=V.a.cH+300*(V.a.bZ+1)+s.fJ
 b1:0<=V.a.time/\V.a.time<=4294967295
 b2:0<=V.a.cH/\V.a.cH<=4294967295
 b3:0<=V.a.bZ/\V.a.bZ<=255
 b4:0<=s.fJ/\s.fJ<=4294967295
 b5:0<=now/\now<=4294967295
 src:V.a.address=src
 aE:V.a.aE=r.aE
 eS:V.a.eS=r.eS
 more:V.s.replay.marks.length<=s.replay.marks.length+1
 most:(V.s.replay.marks.length:Int)<=V.s.replay.size
 size:V.s.replay.size=s.replay.size
 ok:V.s.err=0
structure aiM (s:Server):Prop where
 keys:∀ c∈s.keys,c.ok
 marks:∀ c∈s.replay.marks,c.ok
 name:s.me.name.length<=9223372036854775807/\s.me.inst.length<=9223372036854775807/\s.me.aC.length<=9223372036854775807
 lens:s.keys.length<=1000000/\s.replay.marks.length<=1000000
end Kerb
/- The statements of chapter 17, plain. -/
namespace Kerb
open Go Go.Abs
def lG.Bs(c:lG):Prop:=bW c.key=Zn/\within c.bI 255=Zn/\D4 c.key=Zn
structure VN (d:Db) (dv:List lG) (now address:Int) (little:Bool) (se:Int) (msg:Bytes) (A:vI) (r:kM) (i:Int) (L:Int):Prop where
 agw:within now 4294967295=Zn
 adr:within address 4294967295=Zn
 X3:gR msg=⟨r,0⟩
 aC:r.client.aC=d.aC
 client:rR d r.client.name r.client.inst now=(i,0)
 amu:(yz d dv r.service r.inst now).err=0
 bZ:qn (iF d i) (yz d dv r.service r.inst now) r.bZ now=(L,Zn)
 V1:jK se=2
 gr:(rm d.aC r.client ⟨r.service,r.inst,d.aC⟩ address little now L se (iF d i).key (yz d dv r.service r.inst now).key (yz d dv r.service r.inst now).bI).err=0
 sl:(oe ⟨little,r.client,r.time,(iF d i).cD,(iF d i).bI,[]⟩ (rm d.aC r.client ⟨r.service,r.inst,d.aC⟩ address little now L se (iF d i).key (yz d dv r.service r.inst now).key (yz d dv r.service r.inst now).bI).part (iF d i).key).err=0
 is:A=⟨(oe ⟨little,r.client,r.time,(iF d i).cD,(iF d i).bI,[]⟩ (rm d.aC r.client ⟨r.service,r.inst,d.aC⟩ address little now L se (iF d i).key (yz d dv r.service r.inst now).key (yz d dv r.service r.inst now).bI).part (iF d i).key).val,
  { (rm d.aC r.client ⟨r.service,r.inst,d.aC⟩ address little now L se (iF d i).key (yz d dv r.service r.inst now).key (yz d dv r.service r.inst now).bI).hX with kind:=1 },Zn⟩
theorem cH{d:Db}{dv:List lG}{now address:Int}{little:Bool}{se:Int}{msg:Bytes}(h:(sO d dv now address little se msg).ok=Zn):∃ r i L,VN d dv now address little se msg (sO d dv now address little se msg) r i L:=by
 obtain⟨A,hA⟩:∃ A,sO d dv now address little se msg=A:=⟨_,rfl⟩;rw[hA] at h ⊢;unfold sO at hA;by_cases h1:(within now 4294967295&&within address 4294967295)=Zn;case neg=>rw[Qa1 (by simp only[Bool.not_eq_true] at h1;rw[h1];rfl)] at hA;subst hA;cases h
 rw[Qa0 (by rw[h1];simp)] at hA;by_cases h2:(gR msg).err=0;case neg=>rw[Qa1 h2] at hA;subst hA;cases h
 rw[Qa0 (by simpa using h2)] at hA;obtain⟨r,hr⟩:∃ r,(gR msg).val=r:=⟨_,rfl⟩;have af8:gR msg=⟨r,0⟩:=by cases hd:gR msg;rw[hd] at h2 hr;simp at h2 hr;rw[h2,hr]
 rw[hr] at hA;unfold Ls at hA;by_cases h3:r.client.aC=d.aC;case neg=>rw[Qa1 h3] at hA;subst hA;cases h
 rw[Qa0 (by simpa using h3)] at hA;obtain⟨⟨i,e⟩,hi⟩:∃ i,rR d r.client.name r.client.inst now=i:=⟨_,rfl⟩;rw[hi] at hA;dsimp only at hA;by_cases h4:e=0;case neg=>rw[Qa1 h4] at hA;subst hA;cases h
 subst h4;rw[Qa0 (by simp)] at hA;by_cases h5:(yz d dv r.service r.inst now).err=0;case neg=>rw[Qa1 h5] at hA;subst hA;cases h
 rw[Qa0 (by simpa using h5)] at hA;unfold GJ at hA;obtain⟨⟨L,q⟩,hL⟩:∃ L,qn (iF d i) (yz d dv r.service r.inst now) r.bZ now=L:=⟨_,rfl⟩;rw[hL] at hA;dsimp only at hA;cases q
 ·rw[Qa1 rfl] at hA;subst hA;cases h
 rw[Qa0 (by simp)] at hA;by_cases h6:jK se=2;case neg=>rw[Qa1 h6] at hA;subst hA;cases h
 rw[Qa0 (by simpa using h6)] at hA;by_cases h7:(rm d.aC r.client ⟨r.service,r.inst,d.aC⟩ address little now L se (iF d i).key (yz d dv r.service r.inst now).key (yz d dv r.service r.inst now).bI).err=0;case neg=>rw[Qa1 h7] at hA;subst hA;cases h
 rw[Qa0 (by simpa using h7)] at hA;by_cases h8:(oe ⟨little,r.client,r.time,(iF d i).cD,(iF d i).bI,[]⟩ (rm d.aC r.client ⟨r.service,r.inst,d.aC⟩ address little now L se (iF d i).key (yz d dv r.service r.inst now).key (yz d dv r.service r.inst now).bI).part (iF d i).key).err=0;case neg=>rw[Qa1 h8] at hA;subst hA;cases h
 rw[Qa0 (by simpa using h8)] at hA;rw[Zx] at h1;exact⟨r,i,L,h1.1,h1.2,af8,h3,hi,h5,hL,h6,h7,h8,hA.symm⟩
theorem pK(r:jX):(bK r).val.length<=2000:=by
 unfold bK;split
 ·simp
 rename_i h1;split
 ·simp
 split
 ·simp
 ·have hv:r.client.valid=Zn:=by simpa using h1
  have hv:=dN hv;have hh:=bu 2 r.little;simp only[Zk,aB,aw];omega
structure aeC (d:Db) (now ad se:Int) (A:vI) (r:kM) (i j:Int) (Y:jX) (body:Bytes) (P:fY) (T:eU):Prop where
 f1:jt d.entries r.client.name r.client.inst=(i,0)
 f2:jt d.entries r.service r.inst=(j,0)
 i0:0<=i/\i.toNat<d.entries.length
 j0:0<=j/\j.toNat<d.entries.length
 U9:bJ A.answer=⟨Y,0⟩
 client:Y.client=r.client
 time:Y.time=r.time
 box:jS Y.cQ 3 (iF d i).key=(body,Zn)
 part:bU body Y.little=⟨P,0⟩
 ZC:gL P.aE (iF d j).key=⟨T,0⟩
 text:P.aE=A.hX.text
 t1:T.client=r.client
 t2:T.af=se
 t3:P.af=se
 t4:A.hX.af=se
 t5:T.address=ad
 t6:T.service=r.service
 t7:T.inst=r.inst
 t8:T.cH=now
 t9:A.hX.nF=(iF d i).key
 e1:(0<(iF d i).cD->A.hX.stop<=(iF d i).cD)/\T.bZ<=(iF d i).ns
 e2:(0<(iF d j).cD->A.hX.stop<=(iF d j).cD)/\T.bZ<=(iF d j).ns
 e3:T.bZ<=r.bZ
 e4:A.hX.stop=now+300*(T.bZ+1)
 e5:0<=T.bZ/\T.bZ<=255
 lens:A.answer.length<=140737488355328/\Y.cQ.length<=140737488355328/\body.length<=140737488355328/\P.aE.length<=140737488355328
end Kerb
/- Chapter 19: ticket-granting servers. -/
namespace Kerb
open Go Go.Abs
def Qe(d:Db):List oI :=
 if (jt d.entries qF d.aC).2=0/\bW (iF d (jt d.entries qF d.aC).1).key=Zn then
  [⟨YW d.aC d.aC,(iF d (jt d.entries qF d.aC).1).bI,(iF d (jt d.entries qF d.aC).1).key⟩] else[]
def PC(r:Bytes)(c:lG):oI:=⟨YW c.source r,c.bI,c.key⟩
def M0(r:Bytes)(l:List lG):List oI:=(l.filter fun c=>c.target==r).map (PC r)
def Nc(d:Db)(dv:List lG):List oI:=Qe d++M0 d.aC dv
def tX:fy:=⟨tn,0,0,[],[]⟩
def rA(b:Bytes)(li:Bool):fy :=
 let a:=vn b
 let t:=get b a.next 4 li
 let l:=get b t.next 1 Zw
 let s:=text b l.next
 ⟨a.val,t.val,l.val,s.val,(text b s.next).val⟩
def cZ(b:Bytes):Gu fy :=
 if (bh b [3]).2≠0 then⟨tX,(bh b [3]).2⟩ else eJ tX dV (fun b=>(rA b (bh b [3]).1,Zw)) b
theorem Gq{r:fy}(h:(dV r).err=0):(bD r.ap).err=0/\r.ap.dx=Zw/\(dV r).val=(bD r.ap).val++(aL r.time 4 r.ap.little++(aL r.bZ 1 Zw++(r.service++0::(r.inst++0::[])))) /\
  (0<=r.time/\r.time<=4294967295)/\(0<=r.bZ/\r.bZ<=255)/\(r.service.length<=39/\(0:UInt8) ∉ r.service)/\r.inst.length<=39/\(0:UInt8) ∉ r.inst:=by
 unfold dV at h ⊢;by_cases h0:r.ap.dx=Zn
 ·rw[Qa1 h0] at h;cases h
 rw[Qa0 h0] at h ⊢;by_cases h1:(bD r.ap).err=0;case neg=>rw[Qa1 h1] at h;exact absurd h h1
 rw[Qa0 (by simpa using h1)] at h ⊢;by_cases h2:(validName r.service&&dg r.inst)=Zn;case neg=>rw[Qa1 (by rw[Bool.not_eq_true] at h2;rw[h2];rfl)] at h;cases h
 rw[Qa0 (by simp[h2])] at h ⊢;by_cases h3:(within r.time 4294967295&&within r.bZ 255)=Zn;case neg=>rw[Qa1 (by rw[Bool.not_eq_true] at h3;rw[h3];rfl)] at h;cases h
 rw[Qa0 (by simp[h3])];rw[Zx] at h2 h3;have ok:∀ {s:Bytes},dg s=Zn->s.length<=39/\(0:UInt8) ∉ s:=fun {s} h=>by
  simp only[dg,Zx,Qa2] at h;exact⟨h.1,fun hm=>by
   have:=h.2;simp only[iy,List.all_eq_true] at this;exact absurd (this 0 hm) (by decide)⟩
 have hn:r.service.length<=39/\(0:UInt8) ∉ r.service:=by
  have h:=h2.1;simp only[validName,Zx,Qa2] at h;exact⟨by omega,fun hm=>by
   have:=h.2;simp only[iy,List.all_eq_true] at this;exact absurd (this 0 hm) (by decide)⟩
 refine⟨h1,by simpa using h0,?_,within_iff.1 h3.1,within_iff.1 h3.2,hn,ok h2.2⟩;unfold cT;simp only[List.append_assoc,List.singleton_append,List.cons_append,List.nil_append,List.append_nil]
theorem GH{r:df}(z:Bytes)(h:(bD r).err=0):∃ q1 q2 q3 q4 q5 q6:Int,get ((bD r).val++z) 2 1 Zw=⟨r.bI,q1,0⟩/\text ((bD r).val++z) q1=⟨r.aC,q2,0⟩/\get ((bD r).val++z) q2 1 Zw=⟨r.aE.length,q3,0⟩/\get ((bD r).val++z) q3 1 Zw=⟨r.eS.length,q4,0⟩ /\
  bytes ((bD r).val++z) q4 r.aE.length=⟨r.aE,q5,0⟩/\bytes ((bD r).val++z) q5 r.eS.length=⟨r.eS,q6,0⟩/\At ((bD r).val++z) q6 z:=by
 obtain⟨hz,⟨n0,n1⟩,⟨a0,a1⟩,t1,u1⟩:=xv h;have SN:(bD r).val++z=header (cond r.dx 4 3) r.little++(aL r.bI 1 Zw++(r.aC++0::(aL r.aE.length 1 Zw++(aL r.eS.length 1 Zw++(r.aE++(r.eS++z)))))):=by
  rw[hz];simp only[List.append_assoc,List.cons_append,List.append_nil,List.nil_append]
 have p0:=(At.start ((bD r).val++z)).as SN;have p1:=p0.skip;rw[show(header (cond r.dx 4 3) r.little).length=2 by cases r.dx<;>cases r.little<;>rfl] at p1;obtain⟨e1,p2⟩:=p1.mM a0 a1;obtain⟨e2,p3⟩:=p2.text n0 n1;obtain⟨e3,p4⟩:=p3.mM (by omega) (by omega);obtain⟨e4,p5⟩:=p4.mM (by omega) (by omega);obtain⟨e5,p6⟩:=p5.bytes (n:=r.aE.length) rfl;obtain⟨e6,p7⟩:=p6.bytes (n:=r.eS.length) rfl;exact⟨_,_,_,_,_,_,e1,e2,e3,e4,e5,e6,p7⟩
theorem Pg{r:df}(z:Bytes)(h:(bD r).err=0):bX ((bD r).val++z)=⟨cond r.dx 4 3,r.little,0⟩:=by
 rw[(xv h).1,List.append_assoc];exact AA _
theorem Ni{b:Bytes}{k:Int}{li:Bool}(h:bX b=⟨k,li,0⟩):bh b [k]=(li,0):=by
 unfold bh;rw[h];simp
theorem yo{r:fy}(h:(dV r).err=0):bh (dV r).val [3]=(r.ap.little,0)/\rA (dV r).val r.ap.little=r:=by
 obtain⟨h1,h2,h3,⟨t0,t1⟩,⟨l0,l1⟩,⟨s0,s1⟩,i0,i1⟩:=Gq h;rw[h3];obtain⟨z,hz⟩:∃ z,aL r.time 4 r.ap.little++(aL r.bZ 1 Zw++(r.service++0::(r.inst++0::[])))=z:=⟨_,rfl⟩;obtain⟨q1,q2,q3,q4,q5,q6,e1,e2,e3,e4,e5,e6,p⟩:=GH z h1;have hh:=Pg z h1;rw[h2] at hh;rw[<-hz] at p;rw[hz] at p ⊢;have p1:=p.as hz.symm;obtain⟨e7,p2⟩:=p1.m6 (li:=r.ap.little) t0 t1;obtain⟨e8,p3⟩:=p2.mM l0 l1;obtain⟨e9,p4⟩:=p3.text s0 s1;obtain⟨e10,p5⟩:=p4.text i0 i1;refine⟨Ni hh,?_⟩;unfold rA vn;simp only[e1,e2,e3,e4,e5,e6,e7,e8,e9,e10,hh];have:((cond Zw 4 3:Int)==4)=r.ap.dx:=by rw[h2];rfl
 rw[this]
theorem KN(b:Bytes)(li:Bool):(rA b li).ap.aC.length<=9223372036854775807/\(rA b li).service.length<=9223372036854775807/\(rA b li).inst.length<=9223372036854775807:=by
 have h:∀ q,(text b q).val.length<=9223372036854775807:=fun q=>by have:=bE b q;omega
 exact⟨h _,h _,h _⟩
theorem bn(b:Bytes):((cZ b).val.ap.aC.length<=9223372036854775807/\(cZ b).val.service.length<=9223372036854775807/\(cZ b).val.inst.length<=9223372036854775807)/\(cZ b).val.ap.aE.length<=255/\(cZ b).val.ap.eS.length<=255:=by
 have h0:(tX.ap.aC.length<=9223372036854775807/\tX.service.length<=9223372036854775807/\tX.inst.length<=9223372036854775807)/\tX.ap.aE.length<=255/\tX.ap.eS.length<=255:=by decide
 unfold cZ;split
 ·exact h0
 unfold eJ;split
 ·exact h0
 ·rename_i h;have he:(dV (rA b (bh b [3]).1)).err=0:=Decidable.byContradiction fun q=>h (.inr (.inl q));obtain⟨_,_,_,h1,h2⟩:=xv (Gq he).1;exact⟨KN _ _,h1,h2⟩
def T'(cD cH bZ:Int):List Int:=T9 cH bZ::(if cD=0 then[] else[cD])
def Ua(now want most cD cH bZ:Int):Int×Bool:=DV now (pP want most) (T' cD cH bZ)
structure O5 where
 s:Server
 out:vI
def OI(d:Db)(dv:List lG)(s:Server)(r:fy):Server:=⟨YW r.ap.aC d.aC,Nc d dv,s.replay,s.fJ⟩
namespace Case
def YY(c:Case)(m:ck)(k v time bZ:Int)(sv:ck):fy:=⟨{ c.X3 m k v with dx:=Zw },time,bZ,sv.name,sv.inst⟩
def YX(c:Case)(m:ck)(k v time bZ:Int)(sv:ck):Bytes:=(dV (c.YY m k v time bZ sv)).val
end Case
structure yK where
 iB:Case
 src:UInt8
 to:UInt8
 peer:UInt8
 bZ:UInt8
 now:UInt8
 bI:UInt8
 how:Int
def yK.key(a:yK)(dv:List lG):oI :=
 if a.src.toNat % 3=2/\0<dv.length then⟨⟨qF,aC 0,(dv.getD (a.bI.toNat % dv.length) pQ).source⟩,(dv.getD (a.bI.toNat % dv.length) pQ).bI,(dv.getD (a.bI.toNat % dv.length) pQ).key⟩
 else⟨⟨qF,aC 0,aC 0⟩,6,ul 3⟩
def yK.want(a:yK):ck:=if a.to.toNat % 5=4 then⟨qF,aC (oo a.peer),aC 0⟩ else Kerb.service (oo a.to % 3)
def yK.base(a:yK)(dv:List lG):Bytes:=a.iB.YX (a.key dv).service (a.key dv).key (a.key dv).bI 5 (oo a.bZ) a.want
def yK.msg(a:yK)(dv:List lG):Bytes:=if a.how % 8=7 then wF (a.base dv) (a.how / 8) else a.base dv
def yK.av(q:yK):AV := .agg [.u8 q.iB.client,.u8 q.iB.other,.u8 q.iB.service,.u8 q.iB.aC,.bool q.iB.little,.bool q.iB.turned,.bool q.iB.dx,.u8 q.iB.address,.u8 q.iB.src,.u8 q.iB.cH,.u8 q.iB.time,.u8 q.iB.tick,.u8 q.iB.bZ,.int .u32 q.iB.c9,.u8 q.iB.key,.u8 q.iB.bI,.u8 q.iB.af,.int .u16 q.iB.aE,.int .u16 q.iB.eS,.u8 q.src,.u8 q.to,.u8 q.peer,.u8 q.bZ,.u8 q.now,.u8 q.bI,.int .u16 q.how]
def yK.ok(q:yK):Prop:=q.iB.ok/\Qv q.how=Zn
theorem M6{r:fy}(h:(dV r).err≠0):(dV r).val=[]:=by grind [dV]
theorem A3(r:fy):(dV r).val.length<=800:=by
 by_cases h:(dV r).err=0
 ·obtain⟨h1,h2,h3,h4,h5,h6,h7⟩:=Gq h;rw[h3];have:=Ph r.ap;simp only[Zk,Zj,List.length_nil,aw];omega
 ·rw[M6 h];simp
end Kerb
/- Chapter 28: when two texts are the same ticket. -/
namespace Kerb
open Go Go.Abs
def k8(b:Bytes):Bool:=(bj b).err==0&&(bj b).n==(b.length:Int)
def qR(b:Bytes):Y3×Bool:=if k8 b&&(bj b).box.kind==1 then((bj b).box,Zn) else(vh,Zw)
def Gd(a b:Bytes):Bool:=a==b||((qR a).2&&(qR b).2&&(qR a).1.body==(qR b).1.body)
end Kerb
/- Chapter 27: what an adversary can know, in plain words. -/
namespace Kerb
open Go Go.Abs
def dl(l:List Int):List AV:=l.map (AV.int .u64)
def dG(l:List Bytes):List AV:=l.map AV.bs
def Gp:AV->Bytes
 | .bs b=>b
 | _=>[]
def gp(els:List AV):List Bytes:=els.map Gp
def abM:AV->Bool
 | .bs _=>Zn
 | _=>Zw
def zE(els:List AV):Bool:=els.all abM
theorem f_(l:List Int):cO (dl l)=l:=by simp[cO,dl,Function.comp_def]
theorem om(l:List Bytes):gp (dG l)=l:=by simp[gp,dG,Function.comp_def,Gp]
theorem yC(l:List Int):da (dl l)=Zn:=by simp[da,dl]
theorem Gr(l:List Bytes):zE (dG l)=Zn:=by simp[zE,dG,abM]
theorem fR(l:List Int):(dl l).length=l.length:=by simp[dl]
theorem gq(l:List Bytes):(dG l).length=l.length:=by simp[dG]
theorem vj{els:List AV}(h:da els=Zn):∃ ks,els=dl ks:=⟨cO els,by
 have:=GK h;simpa [back,dp,dl] using this.symm⟩
theorem QT{els:List AV}(h:zE els=Zn):∃ bs,els=dG bs:=⟨gp els,by
 unfold gp dG;rw[List.map_map];conv=>lhs;rw[<-List.map_id els]
 apply List.map_congr_left;intro a ha;simp only[zE,List.all_eq_true] at h;have:=h a ha;cases a<;>first | (cases this;done) | rfl⟩
theorem A4{l:List Int}{i:Nat}(h:i<l.length):(dl l).getD i .undef = .int .u64 (l.getD i 0):=by
 simp[dl,List.getD,h]
theorem nG{l:List Bytes}{i:Nat}(h:i<l.length):(dG l).getD i .undef = .bs (l.getD i []):=by
 simp[dG,List.getD,h]
def uq:List Int->Bool
 | x::y::r=>decide (x<y)&&uq (y::r)
 | _=>Zn
def jO:List Int->Int->List Int
 | [],k=>[k]
 | x::r,k=>bif decide (x<k) then x::jO r k else bif x==k then x::r else k::x::r
theorem u9{k y:Int}:∀ {l:List Int},y∈jO l k↔y=k\/y∈l
 | []=>by simp[jO]
 | x::r=>by
  unfold jO;cases h1:decide (x<k) with
  | true=>simp only[Qa6,Zv,u9 (l:=r)];exact or_left_comm
  | false =>
   cases h2:x==k with
   | true =>
    have e:=Qb0 h2;subst e;simp only[Qa7,Qa6,Zv];exact⟨fun h => .inr h,fun h=>h.elim .inl id⟩
   | false=>simp only[Qa7,Zv]
theorem xw{x:Int}{l:List Int}(h:uq (x::l)=Zn):uq l=Zn:=by
 cases l with
 | nil=>rfl
 | cons y r=>simp only[uq,Zx] at h;exact h.2
theorem oJ{x:Int}:∀ {l:List Int},uq (x::l)=Zn->∀ y∈l,x<y
 | [],_,y,hy=>by cases hy
 | z::r,h,y,hy=>by
  simp only[uq,Zx,Qa2] at h;rcases Zv.1 hy with rfl | hy
  ·exact h.1
  ·have:=oJ h.2 y hy;omega
theorem Be{x:Int}{l:List Int}(h:uq l=Zn)(hx:∀ y∈l,x<y):uq (x::l)=Zn:=by
 cases l with
 | nil=>rfl
 | cons y r=>simp only[uq,Zx,Qa2];exact⟨hx y (by simp),h⟩
theorem uF{k:Int}:∀ {l:List Int},uq l=Zn->uq (jO l k)=Zn
 | [],_=>rfl
 | x::r,h=>by
  unfold jO;cases h1:decide (x<k) with
  | true =>
   simp only[Qa6];have hx:x<k:=Qa3 h1;refine Be (uF (xw h)) fun y hy=> ?_;rcases u9.1 hy with rfl | hy
   ·exact hx
   ·exact oJ h y hy
  | false =>
   cases h2:x==k with
   | true=>exact h
   | false =>
    simp only[Qa7];have hx:¬ x<k:=of_decide_eq_false h1;have hk:k<x:=by
     have:x≠k:=by intro e;subst e;simp at h2
     omega
    refine Be h fun y hy=> ?_;rcases Zv.1 hy with rfl | hy
    ·exact hk
    ·have:=oJ h y hy;omega
theorem D3{k:Int}:∀ {l:List Int},k ∉ l->(jO l k).Perm (l++[k])
 | [],_ => .refl _
 | x::r,h=>by
  unfold jO;cases h1:decide (x<k) with
  | true =>
   simp only[Qa6,List.cons_append];exact List.Perm.cons _ (D3 fun hm=>h (Zu _ hm))
  | false =>
   cases h2:x==k with
   | true=>exact absurd (by rw[Qb0 h2];simp) h
   | false =>
    simp only[Qa7];exact(List.perm_append_singleton k (x::r)).symm
theorem Qt{k:Int}{l:List Int}(h:k ∉ l):(jO l k).length=l.length+1:=by
 rw[(D3 h).length_eq];simp
end Kerb
/- Chapter 27: the boxes of a message, what is in a box, the closure of knowledge. -/
namespace Kerb
open Go Go.Abs
def i_(l:List Bytes):List Bytes:=l.filter k8
def jj(l:List Int):List Int:=l.filter bW
def vv(b:Bytes):List Bytes :=
 if (bJ b).err=0 then[(bJ b).val.cQ]
 else if (eP b).err=0 then[(eP b).val.aE,(eP b).val.eS]
 else if (cZ b).err=0 then[(cZ b).val.ap.aE,(cZ b).val.ap.eS]
 else if (j_ b).err=0 then[(j_ b).val]
 else if (ny b).err=0 then[(ny b).cQ]
 else if (bm b).err=0 then[(bm b).val.aE,(bm b).val.box]
 else if (dZ b).err=0 then[(dZ b).val.box]
 else if (ez b).err=0 then[(ez b).val.box] else[]
def partsOf(b:Bytes):List Bytes:=i_ (vv b)
structure Ax where
 keys:List Int
 boxes:List Bytes
def y0(b:Bytes)(li:Bool):Ax:=⟨jj [(bU b li).val.af],i_ [(bU b li).val.aE]⟩
def jv(x:Y3):Ax :=
 if x.kind=1 then(if (bV x.body).err=0 then⟨jj [(bV x.body).val.af],[]⟩ else⟨[],[]⟩)
 else if x.kind=3 then(if (bU x.body Zw).err=0 then y0 x.body Zw else if (bU x.body Zn).err=0 then y0 x.body Zn else⟨[],[]⟩)
 else if x.kind=7 then(if (eF x.body).err=0 then⟨jj [(eF x.body).val.new],[]⟩ else⟨[],[]⟩)
 else if x.kind=8 then(if (cf x.body).err=0 then⟨jj [(cf x.body).val.af],i_ [(cf x.body).val.aE]⟩ else⟨[],[]⟩)
 else if x.kind=9 then(if (cW x.body).err=0 then⟨jj [(cW x.body).val.af],[]⟩ else⟨[],[]⟩)
 else if x.kind=10 then(if (cU x.body).err=0 then⟨jj [(cU x.body).val.af],i_ [(cU x.body).val.record]⟩ else⟨[],[]⟩)
 else⟨[],[]⟩
structure Kn where
 keys:List Int
 boxes:List Bytes
def gw(K:List Int)(l:List Int):List Int:=l.foldl (fun K k=>bif K.contains k then K else jO K k) K
def iO(B:List Bytes)(l:List Bytes):List Bytes:=l.foldl (fun B b=>bif B.contains b then B else B++[b]) B
def Kn.add(s:Kn)(x:Ax):Kn:=⟨gw s.keys x.keys,iO s.boxes x.boxes⟩
def Kn.has(s:Kn)(x:Ax):Bool:=x.keys.all (fun k=>s.keys.contains k)&&x.boxes.all fun b=>s.boxes.contains b
def cA(b:Bytes):Ax:=jv (bj b).box
def Kn.done(s:Kn)(b:Bytes):Bool := !((bj b).err==0)||s.has (cA b)
def Kn.opens(s:Kn)(b:Bytes):Bool:=(bj b).err==0&&s.keys.contains (bj b).box.key && !s.has (cA b)
def Kn.next(s:Kn):Option Bytes:=s.boxes.find? s.opens
def rC:Nat->Kn->Kn
 | 0,s=>s
 | n+1,s=>match s.next with
  | some b=>rC n (s.add (cA b))
  | none=>s
def CU(s:Kn):Nat:=((s.boxes.filter fun b => !s.done b).map List.length).sum
def fb(s:Kn):Nat:=s.keys.length+s.boxes.length+CU s
def close(s:Kn):Kn:=rC (fb s) s
def learn(s:Kn)(m:Bytes):Kn:=close (s.add ⟨[],partsOf m⟩)
def leak(s:Kn)(k:Int):Kn:=close (s.add ⟨jj [k],[]⟩)
def kR:Nat->Kn->Bytes->Bool
 | 0,_,_=>Zw
 | n+1,s,b=>s.boxes.contains b||(k8 b&&s.keys.contains (bj b).box.key&&(cA b).keys.all (fun k=>s.keys.contains k)&&(cA b).boxes.all fun b=>kR n s b)
def eu(s:Kn)(b:Bytes):Bool:=kR (b.length+1) s b
def AC(s:Kn)(m:Bytes):Bool:=(partsOf m).all (eu s)
theorem pd(k:Int):(jj [k]).length<=1:=List.length_filter_le _ _
theorem GM(b:Bytes):(i_ [b]).length<=1:=List.length_filter_le _ _
theorem uI{l:List Bytes}{b:Bytes}(h:b∈i_ l):b∈l/\k8 b=Zn:=List.mem_filter.1 h
theorem GN{a b:Bytes}(h:b∈i_ [a]):b=a:=by simpa using (uI h).1
theorem bf(b:Bytes)(li:Bool):(bU b li).val.aE.length<=b.length:=by
 unfold bU;split
 ·exact Zz _
 ·exact iW _ _ _
theorem j8{α:Type}{no:α}{enc:α->rK}{rd:Bytes->α×Bool}{b:Bytes}(P:α->Prop)(h1:P no)(h2:P (rd b).1):P (eJ no enc rd b).val:=by
 unfold eJ;split
 ·exact h1
 ·exact h2
theorem TQ(b:Bytes):(H7 b).val.aE.length<=b.length:=by
 unfold H7;dsimp only;cases gW (iS b 4 0 Zw).val
 ·exact Zz _
 ·exact qL _ _ _ _
theorem aK(b:Bytes):(cf b).val.aE.length<=b.length :=
 j8 (fun a:fW=>a.aE.length<=b.length) (Zz _) (TQ b)
theorem aU(b:Bytes):(cU b).val.record.length<=b.length :=
 j8 (fun a:rM=>a.record.length<=b.length) (Zz _) (iW _ _ _)
theorem tL(b:Bytes):(bj b).box.body.length+12<=b.length\/(bj b).box=vh:=by grind [cut,bj]
structure Gz (x:Ax) (n:Nat):Prop where
 keys:x.keys.length<=1
 boxes:x.boxes.length<=1
 len:∀ b∈x.boxes,b.length<=n
 mN:∀ b∈x.boxes,k8 b=Zn
 valid:∀ k∈x.keys,bW k=Zn
theorem BK(n:Nat):Gz ⟨[],[]⟩ n:=⟨by simp,by simp,by simp,by simp,by simp⟩
theorem Ny(k:Int)(n:Nat):Gz ⟨jj [k],[]⟩ n:=⟨pd k,by simp,by simp,by simp,fun k' h=>(List.mem_filter.1 h).2⟩
theorem wU(k:Int){b:Bytes}{n:Nat}(h:b.length<=n):Gz ⟨jj [k],i_ [b]⟩ n :=
 ⟨pd k,GM b,fun b' hb=>by rw[GN hb];exact h,fun b' hb=>(uI hb).2,fun k' h=>(List.mem_filter.1 h).2⟩
theorem BM(x:Y3):Gz (jv x) x.body.length:=by
 unfold jv;repeat' split
 all_goals first
  | exact BK _
  | exact Ny _ _
  | exact wU _ (bf _ _)
  | exact wU _ (aK _)
  | exact wU _ (aU _)
theorem BL:jv vh=⟨[],[]⟩:=rfl
theorem BJ(b:Bytes):Gz (cA b) (b.length-12):=by
 unfold cA;rcases tL b with h | h
 ·have h1:=BM (bj b).box;exact⟨h1.keys,h1.boxes,fun b' hb=>by have:=h1.len b' hb;omega,h1.mN,h1.valid⟩
 ·rw[h,BL];exact BK _
theorem Cv{b:Bytes}(h:(bj b).err=0):12<=b.length:=by
 unfold bj at h;split at h
 ·cases h
 ·omega
theorem qc{b b':Bytes}(h:b'∈(cA b).boxes):b'.length+12<=b.length:=by
 rcases tL b with h1 | h1
 ·have:=(BM (bj b).box).len b' h;omega
 ·unfold cA at h;rw[h1,BL] at h;cases h
theorem iq{y:Bytes}:∀ {l B:List Bytes},y∈iO B l↔y∈B\/y∈l
 | [],B=>by simp[iO]
 | b::l,B=>by
  have e:iO B (b::l)=iO (bif B.contains b then B else B++[b]) l:=rfl;rw[e,iq (l:=l)];cases h:B.contains b with
  | true =>
   have hb:b∈B:=by simpa using h
   simp only[Qa6,Zv];constructor
   ·rintro(h | h)
    ·exact .inl h
    ·exact .inr (.inr h)
   ·rintro(h | rfl | h)
    ·exact .inl h
    ·exact .inl hb
    ·exact .inr h
  | false=>simp only[Qa7,List.mem_append,Zv,List.not_mem_nil,or_false];exact or_assoc
theorem jy{y:Int}:∀ {l K:List Int},y∈gw K l↔y∈K\/y∈l
 | [],K=>by simp[gw]
 | k::l,K=>by
  have e:gw K (k::l)=gw (bif K.contains k then K else jO K k) l:=rfl;rw[e,jy (l:=l)];cases h:K.contains k with
  | true =>
   have hb:k∈K:=by simpa using h
   simp only[Qa6,Zv];constructor
   ·rintro(h | h)
    ·exact .inl h
    ·exact .inr (.inr h)
   ·rintro(h | rfl | h)
    ·exact .inl h
    ·exact .inl hb
    ·exact .inr h
  | false =>
   simp only[Qa7,u9,Zv];constructor
   ·rintro((h | h) | h)
    ·exact .inr (.inl h)
    ·exact .inl h
    ·exact .inr (.inr h)
   ·rintro(h | h | h)
    ·exact .inl (.inr h)
    ·exact .inl (.inl h)
    ·exact .inr h
theorem p_:∀ {l K:List Int},uq K=Zn->uq (gw K l)=Zn
 | [],K,h=>h
 | k::l,K,h=>by
  have e:gw K (k::l)=gw (bif K.contains k then K else jO K k) l:=rfl;rw[e];cases K.contains k with
  | true=>exact p_ h
  | false=>exact p_ (uF h)
theorem xt:∀ {l K:List Int},(gw K l).length<=K.length+l.length
 | [],K=>Zb _
 | k::l,K=>by
  have e:gw K (k::l)=gw (bif K.contains k then K else jO K k) l:=rfl;rw[e];have h1:=xt (l:=l) (K:=bif K.contains k then K else jO K k);cases h:K.contains k with
  | true=>rw[h] at h1;simp only[Qa6,Zj] at h1 ⊢;omega
  | false =>
   rw[h] at h1;have:=Qt (k:=k) (l:=K) (by simpa using h);simp only[Qa7,Zj] at h1 ⊢;omega
theorem mv:∀ {l B:List Bytes},∃ N,iO B l=B++N/\N.length<=l.length/\(∀ b∈N,b∈l/\b ∉ B)
 | [],B=>⟨[],by simp[iO],Zb _,by simp⟩
 | b::l,B=>by
  have e:iO B (b::l)=iO (bif B.contains b then B else B++[b]) l:=rfl;rw[e];cases h:B.contains b with
  | true =>
   obtain⟨N,h1,h2,h3⟩:=mv (l:=l) (B:=B);exact⟨N,h1,by simp only[Zj];omega,fun x hx=>⟨Zu _ (h3 x hx).1,(h3 x hx).2⟩⟩
  | false =>
   obtain⟨N,h1,h2,h3⟩:=mv (l:=l) (B:=B++[b]);refine⟨b::N,by simp only[Qa7];rw[h1];simp,by simp only[Zj];omega,fun x hx=> ?_⟩;rcases Zv.1 hx with rfl | hx
   ·exact⟨by simp,by simpa using h⟩
   ·obtain⟨g1,g2⟩:=h3 x hx;exact⟨Zu _ g1,fun hm=>g2 (by simp[hm])⟩
theorem vM{s:Kn}{x:Ax}:s.has x=Zn↔(∀ k∈x.keys,k∈s.keys)/\∀ b∈x.boxes,b∈s.boxes:=by
 simp[Kn.has]
def Sub(s t:Kn):Prop:=(∀ k∈s.keys,k∈t.keys)/\∀ b∈s.boxes,b∈t.boxes
theorem Sub.refl(s:Kn):Sub s s:=⟨fun _ h=>h,fun _ h=>h⟩
theorem Sub.trans{s t u:Kn}(h1:Sub s t)(h2:Sub t u):Sub s u:=⟨fun k h=>h2.1 k (h1.1 k h),fun k h=>h2.2 k (h1.2 k h)⟩
theorem Sub.has{s t:Kn}(h:Sub s t){x:Ax}(hx:s.has x=Zn):t.has x=Zn :=
 vM.2 ⟨fun k hk=>h.1 k ((vM.1 hx).1 k hk),fun k hk=>h.2 k ((vM.1 hx).2 k hk)⟩
theorem Sub.done{s t:Kn}(h:Sub s t){b:Bytes}(hx:s.done b=Zn):t.done b=Zn:=by
 unfold Kn.done at hx ⊢;rw[Bool.or_eq_true] at hx ⊢;rcases hx with hx | hx
 ·exact .inl hx
 ·exact .inr (h.has hx)
theorem Gl(s:Kn)(x:Ax):Sub s (s.add x):=⟨fun k h=>jy.2 (.inl h),fun b h=>iq.2 (.inl h)⟩
theorem SV(s:Kn)(x:Ax):(s.add x).has x=Zn:=vM.2 ⟨fun k h=>jy.2 (.inr h),fun b h=>iq.2 (.inr h)⟩
theorem zi{s:Kn}{b:Bytes}:s.opens b=Zn↔(bj b).err=0/\(bj b).box.key∈s.keys/\s.has (cA b)=Zw:=by
 simp[Kn.opens,and_assoc]
theorem Jf{p q:Bytes->Bool}{b:Bytes}:∀ {l:List Bytes},(∀ x∈l,q x=Zn->p x=Zn)->b∈l->p b=Zn->q b=Zw->((l.filter q).map List.length).sum+b.length<=((l.filter p).map List.length).sum
 | [],_,h,_,_=>by cases h
 | a::l,h1,h2,h3,h4=>by
  have le:∀ {l:List Bytes},(∀ x∈l,q x=Zn->p x=Zn)->((l.filter q).map List.length).sum<=((l.filter p).map List.length).sum:=by
   intro l;induction l with
   | nil=>intro _;exact Zb _
   | cons c l ih =>
    intro hc;have:=ih fun x hx=>hc x (Zu _ hx);cases hq:q c with
    | true=>simp only[Zy,hq,hc c (by simp) hq,if_true,Zd,Zp];omega
    | false =>
     cases hp:p c with
     | true=>simp only[Zy,hq,hp,if_true,Zq,if_false,Zd,Zp];omega
     | false=>simpa only[Zy,hq,hp,Zq,if_false] using this
  rcases Zv.1 h2 with rfl | h2
  ·have:=le (l:=l) fun x hx=>h1 x (Zu _ hx);simp only[Zy,h3,h4,if_true,Zq,if_false,Zd,Zp];omega
  ·have:=Jf (l:=l) (fun x hx=>h1 x (Zu _ hx)) h2 h3 h4;cases hq:q a with
   | true=>simp only[Zy,hq,h1 a (by simp) hq,if_true,Zd,Zp];omega
   | false =>
    cases hp:p a with
    | true=>simp only[Zy,hq,hp,if_true,Zq,if_false,Zd,Zp];omega
    | false=>simpa only[Zy,hq,hp,Zq,if_false] using this
theorem YI{p:Bytes->Bool}{m:Nat}:∀ {l:List Bytes},l.length<=1->(∀ x∈l,x.length<=m)->((l.filter p).map List.length).sum<=m
 | [],_,_=>Zz _
 | [a],_,h=>by
  have:=h a (by simp);cases hp:p a<;>simp[hp]<;>omega
 | _::_::_,h,_=>by simp at h
theorem qK{s:Kn}{b:Bytes}(hb:b∈s.boxes)(ho:s.opens b=Zn):fb (s.add (cA b))<fb s:=by
 obtain⟨h1,h2,h3⟩:=zi.1 ho;have hl:=Cv h1;have hi:=BJ b;obtain⟨N,e,hN,hN2⟩:=mv (l:=(cA b).boxes) (B:=s.boxes);have hk:=xt (l:=(cA b).keys) (K:=s.keys);have hu:CU (s.add (cA b))+b.length<=CU s+(b.length-12):=by
  unfold CU;rw[show(s.add (cA b)).boxes=s.boxes++N from e,List.filter_append,List.map_append,List.sum_append];have a1:=Jf (p:=fun b => !s.done b) (q:=fun x => !(s.add (cA b)).done x) (b:=b) (l:=s.boxes) (fun x _ hx=>by
   simp only[Bool.not_eq_true',Bool.not_eq_eq_eq_not,Bool.not_true] at hx ⊢;cases hd:s.done x with
   | false=>rfl
   | true=>rw[(Gl s (cA b)).done hd] at hx;cases hx) hb (by simp[Kn.done,h1,h3]) (by simp[Kn.done,h1,SV])
  have a2:=YI (p:=fun x => !(s.add (cA b)).done x) (m:=b.length-12) (l:=N) (Zg hN hi.boxes) fun x hx=>hi.len x (hN2 x hx).1;omega
 have h4:(s.add (cA b)).boxes.length<=s.boxes.length+1:=by
  rw[show(s.add (cA b)).boxes=s.boxes++N from e,Zk];have:=hi.boxes;omega
 have h5:(s.add (cA b)).keys.length<=s.keys.length+1:=Zg hk (by have:=hi.keys;omega);unfold fb;omega
theorem vO{s:Kn}{b:Bytes}(h:s.next=some b):b∈s.boxes/\s.opens b=Zn:=⟨List.mem_of_find?_eq_some h,List.find?_some h⟩
theorem C7:∀ {n:Nat} {s:Kn},fb s<=n->rC n s=close s:=by
 intro n;induction n using Nat.strongRecOn with
 | _ n ih =>
  intro s h;have key:∀ m,fb s<=m->m<=n->rC m s=rC (fb s) s:=by
   intro m h1 h2;cases hn:s.next with
   | none =>
    have:∀ q,rC q s=s:=fun q=>by cases q with
     | zero=>rfl
     | succ q=>simp only[rC,hn]
    rw[this,this]
   | some b =>
    obtain⟨g1,g2⟩:=vO hn;have gO:=qK g1 g2;obtain⟨q,rfl⟩:∃ q,m=q+1:=⟨m-1,by omega⟩;obtain⟨r,hr⟩:∃ r,fb s=r+1:=⟨fb s-1,by omega⟩;rw[hr];simp only[rC,hn];rw[ih q (by omega) (s:=s.add (cA b)) (by omega),ih r (by omega) (s:=s.add (cA b)) (by omega)]
  exact key n h (Zb _)
theorem Bj{s:Kn}{b:Bytes}(h:s.next=some b):close s=close (s.add (cA b)):=by
 obtain⟨g1,g2⟩:=vO h;have gO:=qK g1 g2;obtain⟨r,hr⟩:∃ r,fb s=r+1:=⟨fb s-1,by omega⟩;unfold close;rw[hr];simp only[rC,h];exact C7 (by omega)
theorem wM{s:Kn}(h:s.next=none):close s=s:=by
 unfold close;cases fb s with
 | zero=>rfl
 | succ n=>simp only[rC,h]
theorem vK{P:Kn->Prop}(zP:∀ s b,P s->b∈s.boxes->s.opens b=Zn->P (s.add (cA b))):∀ s,P s->P (close s)/\(close s).next=none:=by
 have:∀ n s,fb s<=n->P s->P (close s)/\(close s).next=none:=by
  intro n;induction n with
  | zero =>
   intro s hm hp;cases hn:s.next with
   | none=>rw[wM hn];exact⟨hp,hn⟩
   | some b =>
    obtain⟨g1,g2⟩:=vO hn;have:=qK g1 g2;omega
  | succ n ih =>
   intro s hm hp;cases hn:s.next with
   | none=>rw[wM hn];exact⟨hp,hn⟩
   | some b =>
    obtain⟨g1,g2⟩:=vO hn;have:=qK g1 g2;rw[Bj hn];exact ih _ (by omega) (zP s b hp g1 g2)
 exact fun s=>this _ s (Zb _)
end Kerb
/- Chapter 27: what is asked of knowledge that is handed over. -/
namespace Kerb
open Go Go.Abs
def kn(ks bs:List AV):Kn:=⟨cO ks,gp bs⟩
def ve(bs:List AV):Bool:=zE bs&&bs.all (fun a=>decide ((Gp a).length<=70368744177664))&&decide (bs.length<=100000000)
def eo(ks bs:List AV):Bool:=da ks&&ve bs&&uq (cO ks)&&decide (fb (kn ks bs)<=1000000)&&(gp bs).all fun b=>decide (b.length<=70368744170000)
structure fU (s:Kn):Prop where
 uq:uq s.keys=Zn
 len:∀ b∈s.boxes,b.length<=70368744170000
 fb:fb s<=1000000
theorem nk(s:Kn):kn (dl s.keys) (dG s.boxes)=s:=by unfold kn;rw[f_,om]
theorem AL{l:List Bytes}:ve (dG l)=Zn↔(∀ b∈l,b.length<=70368744177664)/\l.length<=100000000:=by
 unfold ve;rw[Gr,gq];simp[dG,Gp];intro _;exact⟨fun h b hb=>Qa3 (h b hb),fun h b hb=>Qa4 (h b hb)⟩
theorem Md{bs:List AV}(h:ve bs=Zn):∃ l,bs=dG l/\(∀ b∈l,b.length<=70368744177664)/\l.length<=100000000:=by
 have h':=h;unfold ve at h;simp only[Zx] at h;obtain⟨l,rfl⟩:=QT h.1.1;exact⟨l,rfl,AL.1 h'⟩
theorem x4{s:Kn}:eo (dl s.keys) (dG s.boxes)=Zn↔fU s:=by
 unfold eo;rw[nk,yC,f_,om];simp only[Zx,Qa2,AL,Qa9,List.all_eq_true];constructor
 ·rintro⟨⟨⟨⟨h1,h2⟩,h3⟩,h4⟩,h5⟩;exact⟨h3,h5,h4⟩
 ·rintro⟨h1,h2,h3⟩;refine⟨⟨⟨⟨fun b hb=>Zg (h2 b hb) (by decide),?_⟩,h1⟩,h3⟩,h2⟩;have:s.boxes.length<=fb s:=by unfold fb;omega
  omega
theorem B8{ks bs:List AV}(h:eo ks bs=Zn):∃ s:Kn,ks=dl s.keys/\bs=dG s.boxes/\fU s:=by
 have h':=h;unfold eo at h;simp only[Zx] at h;obtain⟨l,rfl⟩:=vj h.1.1.1.1;obtain⟨m,rfl,_⟩:=Md h.1.1.1.2;exact⟨⟨l,m⟩,rfl,rfl,x4 (s:=⟨l,m⟩).1 h'⟩
theorem fU.L7{s:Kn}(h:fU s):s.keys.length<=1000000:=by have:=h.fb;unfold Kerb.fb at this;omega
theorem fU.E8{s:Kn}(h:fU s):s.boxes.length<=1000000:=by have:=h.fb;unfold Kerb.fb at this;omega
theorem fU.open{s:Kn}{b:Bytes}(h:fU s)(hb:b∈s.boxes)(ho:s.opens b=Zn):fU (s.add (cA b)) :=
 ⟨p_ h.uq,fun x hx=>by
  rcases iq.1 hx with hx | hx
  ·exact h.len x hx
  ·have:=qc hx;have:=h.len b hb;omega,Nat.le_of_lt (Nat.lt_of_lt_of_le (qK hb ho) h.fb)⟩
theorem fU.close{s:Kn}(h:fU s):fU (Kerb.close s):=(vK (P:=fU) (fun s b hs hb ho=>hs.open hb ho) s h).1
def Cr(b:Bytes):Rd fy :=
 let a:=F4 b (bh b [3]).1 Zw
 let t:=dJ b 4 (bh b [3]).1 a.pos a.bad
 let l:=dJ b 1 Zw t.pos t.bad
 let s:=nD b l.pos l.bad
 let i:=nD b s.pos s.bad
 ⟨⟨a.val,t.val,l.val,s.val,i.val⟩,i.pos,i.bad⟩
theorem Ct{r:fy}(h:(dV r).err=0):(Cr (dV r).val).val=r/\(Cr (dV r).val).bad=Zw:=by
 have hd:=(yo h).1;obtain⟨h1,h2,h3,⟨t0,t1⟩,⟨l0,l1⟩,⟨s0,s1⟩,i0,i1⟩:=Gq h;rw[h3] at hd ⊢;obtain⟨z,hz⟩:∃ z,aL r.time 4 r.ap.little++(aL r.bZ 1 Zw++(r.service++0::(r.inst++0::[])))=z:=⟨_,rfl⟩;obtain⟨q1,q2,q3,q4,q5,q6,e1,e2,e3,e4,e5,e6,p⟩:=GH z h1;rw[<-hz] at p;rw[hz] at p hd ⊢;have p1:=p.as hz.symm;obtain⟨e7,p2⟩:=p1.m6 (li:=r.ap.little) t0 t1;obtain⟨e8,p3⟩:=p2.mM l0 l1;obtain⟨e9,p4⟩:=p3.text s0 s1;obtain⟨e10,p5⟩:=p4.text i0 i1;unfold Cr F4 dJ nD dz;simp only[hd,e1,e2,e3,e4,e5,e6,e7,e8,e9,e10,BEq.rfl,Bool.not_true,Bool.or_false,Qa7,Qa8];rw[<-h2]
theorem JY(b:Bytes):eJ tX dV (fun b=>(rA b (bh b [3]).1,Zw)) b=eJ tX dV (fun b=>((Cr b).val,(Cr b).bad)) b :=
 iD (P:=fun _=>True) (fun r _ h=>by
  obtain⟨h1,h2⟩:=yo h;rw[h1];exact Qb5 (fun q=>(q,Zw)) h2) (fun r _ h=>Prod.ext (Ct h).1 (Ct h).2) (fun _=>trivial) (fun _=>trivial) b
theorem aV(b:Bytes):(bJ b).val.cQ.length<=b.length:=by
 unfold bJ;split
 ·exact Zz _
 split
 ·exact Zz _
 ·exact iW _ _ _
theorem HU(b:Bytes)(p m:Int)(li:Bool):(iG b p m li).val.length<=b.length:=by
 unfold iG;split
 ·exact Zz _
 ·exact iW _ _ _
theorem Cg(b:Bytes):(ny b).cQ.length<=b.length:=by
 unfold ny;split
 ·exact Zz _
 split
 ·exact HU _ _ _ _
 ·exact Zz _
theorem TR(b:Bytes):(H9 b).val.aE.length<=b.length/\(H9 b).val.box.length<=b.length:=by
 unfold H9;dsimp only;cases ((su b 1 2 Zw).val==2)
 ·exact⟨Zz _,qL _ _ _ _⟩
 ·exact⟨qL _ _ _ _,qL _ _ _ _⟩
theorem aG(b:Bytes):(bm b).val.aE.length<=b.length/\(bm b).val.box.length<=b.length:=by
 unfold bm;split
 ·exact⟨Zz _,Zz _⟩
 ·exact j8 (fun a:eG=>a.aE.length<=b.length/\a.box.length<=b.length) ⟨Zz _,Zz _⟩ (TR b)
theorem aN(b:Bytes):(dZ b).val.box.length<=b.length:=by
 unfold dZ;split
 ·exact Zz _
 ·exact j8 (fun a:jI=>a.box.length<=b.length) (Zz _) (qL _ _ _ _)
theorem bc(b:Bytes):(ez b).val.box.length<=b.length:=by
 unfold ez;split
 ·exact Zz _
 ·exact j8 (fun a:Ad=>a.box.length<=b.length) (Zz _) (iW _ _ _)
theorem MP:(0:Int)<=0/\(0:Int)<18446744073709551616:=by decide
theorem fg(b:Bytes):0<=(bV b).val.af/\(bV b).val.af<18446744073709551616:=by
 unfold bV;split
 ·exact⟨Zf _,by decide⟩
 ·exact j8 (fun a:eU=>0<=a.af/\a.af<18446744073709551616) ⟨Zf _,by decide⟩ (dW _)
theorem iE(b:Bytes)(li:Bool):0<=(bU b li).val.af/\(bU b li).val.af<18446744073709551616:=by
 unfold bU;split
 ·exact⟨Zf _,by decide⟩
 ·exact dW _
theorem ew(b:Bytes):0<=(eF b).val.new/\(eF b).val.new<18446744073709551616 :=
 j8 (fun a:gE=>0<=a.new/\a.new<18446744073709551616) ⟨Zf _,by decide⟩ (by
  unfold mJ N6;dsimp only;cases py (iS b 4 0 Zw).val
  ·exact AU _ _ _
  ·exact MP)
theorem fV(b:Bytes):0<=(cf b).val.af/\(cf b).val.af<18446744073709551616 :=
 j8 (fun a:fW=>0<=a.af/\a.af<18446744073709551616) ⟨Zf _,by decide⟩ (by
  unfold mH H7;dsimp only;cases gW (iS b 4 0 Zw).val
  ·exact MP
  ·exact AU _ _ _)
theorem Bl(b:Bytes):0<=(cW b).val.af/\(cW b).val.af<18446744073709551616 :=
 j8 (fun a:Ae=>0<=a.af/\a.af<18446744073709551616) ⟨Zf _,by decide⟩ (AE _ _ _)
theorem Ak(b:Bytes):0<=(cU b).val.af/\(cU b).val.af<18446744073709551616 :=
 j8 (fun a:rM=>0<=a.af/\a.af<18446744073709551616) ⟨Zf _,by decide⟩ (AE _ _ _)
theorem zQ{a:Bytes}(h:a.length<=70368744177664):ve [.bs a]=Zn:=(AL (l:=[a])).2 ⟨by simpa using h,by simp⟩
theorem QH{a b:Bytes}(h:a.length<=70368744177664)(h2:b.length<=70368744177664):ve [.bs a,.bs b]=Zn:=(AL (l:=[a,b])).2 ⟨by simp[h,h2],by simp⟩
theorem z_(b:Bytes):(∀ x∈vv b,x.length<=b.length+1012)/\(vv b).length<=2:=by
 have h1:=aV b;have h2:=bA b;have h3:=bn b;have h4:=a_ b;have h5:=Cg b;have h6:=aG b;have h7:=aN b;have h8:=bc b;unfold vv;repeat' split
 all_goals
  constructor
  ·simp only[Zv,List.not_mem_nil,or_false];intro x hx;first
    | (rcases hx with rfl | rfl<;>omega)
    | (subst hx;omega)
    | exact absurd hx (by simp)
  ·simp
theorem mE(b:Bytes):(∀ x∈partsOf b,x.length<=b.length+1012)/\(partsOf b).length<=2 :=
 ⟨fun x hx=>(z_ b).1 x (uI hx).1,Zg (List.length_filter_le _ _) (z_ b).2⟩
theorem CV{s t:Kn}(h:Sub s t)(l:List Bytes):((l.filter fun b => !t.done b).map List.length).sum<=((l.filter fun b => !s.done b).map List.length).sum:=by
 induction l with
 | nil=>exact Zb _
 | cons c l ih =>
  cases ht:t.done c with
  | true =>
   cases hs:s.done c<;>simp only[Zy,ht,hs,Bool.not_true,Bool.not_false,Zq,if_false,if_true,Zd,Zp]<;>omega
  | false =>
   have hs:s.done c=Zw:=by
    cases hs:s.done c with
    | false=>rfl
    | true=>rw[h.done hs] at ht;cases ht
   simp only[Zy,ht,hs,Bool.not_false,if_true,Zd,Zp];omega
theorem Mr{p:Bytes->Bool}{m:Nat}:∀ {l:List Bytes},(∀ x∈l,x.length<=m)->((l.filter p).map List.length).sum<=l.length*m
 | [],_=>Zz _
 | a::l,h=>by
  have h1:=Mr (p:=p) (l:=l) fun x hx=>h x (Zu _ hx);have h2:=h a (by simp);rw[Zj,Nat.succ_mul];cases hp:p a with
  | true=>simp only[Zy,hp,if_true,Zd,Zp];omega
  | false=>simp only[Zy,hp,Zq,if_false];omega
theorem E1(s:Kn)(x:Ax){m:Nat}(h:∀ b∈x.boxes,b.length<=m):fb (s.add x)<=fb s+x.keys.length+x.boxes.length*(m+1):=by
 obtain⟨N,e,hN,hN2⟩:=mv (l:=x.boxes) (B:=s.boxes);have hk:=xt (l:=x.keys) (K:=s.keys);have h1:=CV (Gl s x) s.boxes;have h2:=Mr (p:=fun b => !(s.add x).done b) (l:=N) (m:=m) fun b hb=>h b (hN2 b hb).1;have h3:N.length*m<=x.boxes.length*m:=Nat.mul_le_mul_right _ hN;unfold fb CU;rw[show(s.add x).boxes=s.boxes++N from e,List.filter_append,List.map_append,List.sum_append,Zk];rw[Nat.mul_add,Nat.mul_one];have:(s.add x).keys.length<=s.keys.length+x.keys.length:=hk;omega
theorem fU.add{s:Kn}(h:fU s){x:Ax}{m:Nat}(h1:∀ b∈x.boxes,b.length<=m)(h2:Kerb.fb s+x.keys.length+x.boxes.length*(m+1)<=1000000)(h3:m<=70368744170000):fU (s.add x) :=
 ⟨p_ h.uq,fun b hb=>by
  rcases iq.1 hb with hb | hb
  ·exact h.len b hb
  ·exact Zg (h1 b hb) h3,Zg (E1 s x h1) h2⟩
theorem fU.parts{s:Kn}(h:fU s){b:Bytes}(h1:Kerb.fb s+2*b.length+2100<=1000000):fU (s.add ⟨[],partsOf b⟩):=by
 have hp:=mE b;refine h.add (m:=b.length+1012) hp.1 ?_ (by omega);have:(partsOf b).length*(b.length+1012+1)<=2*(b.length+1012+1):=Nat.mul_le_mul_right _ hp.2;simp only[List.length_nil];omega
theorem fU.QG{s:Kn}(h:fU s){k:Int}(h1:Kerb.fb s+1<=1000000):fU (s.add ⟨jj [k],[]⟩):=by
 have:=pd k;exact h.add (m:=0) (by simp) (by simp only[List.length_nil];omega) (by omega)
end Kerb
