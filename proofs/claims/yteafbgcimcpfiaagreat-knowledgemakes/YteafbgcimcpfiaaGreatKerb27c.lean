/- Clients that receive: lengths stay small. -/
import Derived.Test.YteafbgcimcpfiaaGreatKerbCli4
import Derived.KernelRfl
set_option linter.all false
open Nat renaming zero_le→Zz,le_trans→Zb,le_refl→Zn
open Bool renaming and_eq_true→Zy,false→Zu,false_eq_true→Zq,true→Zm
open List renaming filter_cons→Zx,mem_cons→Zw,mem_cons_of_mem→Zv,length_cons→Zj,sum_cons→Zk,map_cons→Zp,length_append→Zd,all_eq_true→Zf
open Int renaming le_refl→Zg
namespace Kerb
open Go.Abs Go
end Kerb
namespace Go.Abs
theorem Ed{α β:Type}{x:Option α}{f:α->Option β}{r:Option β}(P:α->Prop)(h1:∃ a,x=some a/\P a)(h2:∀ a,P a->f a=r):x.bind f=r:=by
 obtain⟨a,rfl,h⟩:=h1;exact h2 a h
end Go.Abs
/- Chapter 20: a client that waits for an answer gets it. -/
namespace Kerb
open Go Go.Abs
theorem wJ(m:GS)(li:Bool):(eG m li).val.length<=16:=by
 unfold eG;split
 ·simp
 ·rw[sQ];simp[af]
theorem AU(s:Bytes)(li:Bool):(dM s li).val.length<=2000:=by
 unfold dM;split
 ·simp
 ·simp[af,JD];omega
end Kerb
/- Chapter 23, plain: when a ticket is given; what the data of the statements says. -/
namespace Kerb
open Go Go.Abs
end Kerb
/- Chapter 17: authentication servers; the data of its statements. -/
namespace Kerb
open Go Go.Abs
def pG(r:mE)(p:gG)(k:Int):lX :=
 if (cX p r.aq).err≠0 then⟨[],(cX p r.aq).err⟩
 else if (fO 3 k (cX p r.aq).val).err≠0 then⟨[],(fO 3 k (cX p r.aq).val).err⟩
 else dU ⟨r.aq,r.client,r.time,r.dZ,r.bP,(fO 3 k (cX p r.aq).val).val⟩
def Kr(msg:Bytes)(now:Int)(aq:Bool):Bytes :=
 if msg.length=0 then[] else if msg.getD 0 0=4 then[] else if (fB (msg.set 0 4)).err≠0 then[]
 else refuse (fB (msg.set 0 4)).val.client 4 now aq
structure sG where
 answer:Bytes
 iD:xg
 ok:Bool
def nG(c:fT)(v:WM)(cj now:Int):Int×Bool:=Jz now (tY (tY cj c.lv) v.cj) ([c.dZ,v.dZ].filter fun n => !(n==0))
def Eb(d:Db)(c:fT)(v:WM)(r:iX)(now address:Int)(aq:Bool)(aG:Int):sG :=
 if (nG c v r.cj now).2=Zu then⟨refuse r.client 3 now aq,lz,Zu⟩
 else if gy aG≠2 then⟨refuse r.client 10 now aq,lz,Zu⟩
 else if (tA d.aJ r.client ⟨r.service,r.inst,d.aJ⟩ address aq now (nG c v r.cj now).1 aG c.key v.key v.bP).err≠0 then⟨[],lz,Zu⟩
 else if (pG ⟨aq,r.client,r.time,c.dZ,c.bP,[]⟩ (tA d.aJ r.client ⟨r.service,r.inst,d.aJ⟩ address aq now (nG c v r.cj now).1 aG c.key v.key v.bP).part c.key).err≠0 then⟨[],lz,Zu⟩
 else⟨(pG ⟨aq,r.client,r.time,c.dZ,c.bP,[]⟩ (tA d.aJ r.client ⟨r.service,r.inst,d.aJ⟩ address aq now (nG c v r.cj now).1 aG c.key v.key v.bP).part c.key).val,
  { (tA d.aJ r.client ⟨r.service,r.inst,d.aJ⟩ address aq now (nG c v r.cj now).1 aG c.key v.key v.bP).iD with kind:=1 },Zm⟩
def Il(d:Db)(dH:List mD)(now address:Int)(aq:Bool)(aG:Int)(r:iX):sG :=
 if r.client.aJ≠d.aJ then⟨refuse r.client 8 now aq,lz,Zu⟩
 else if (oZ d r.client.name r.client.inst now).2≠0 then⟨refuse r.client (oZ d r.client.name r.client.inst now).2 now aq,lz,Zu⟩
 else if (DN d dH r.service r.inst now).err≠0 then⟨refuse r.client (DN d dH r.service r.inst now).err now aq,lz,Zu⟩
 else Eb d (gY d (oZ d r.client.name r.client.inst now).1) (DN d dH r.service r.inst now) r now address aq aG
def pR(d:Db)(dH:List mD)(now address:Int)(aq:Bool)(aG:Int)(msg:Bytes):sG :=
 if !(within now 4294967295&&within address 4294967295) then⟨[],lz,Zu⟩
 else if (fB msg).err≠0 then⟨Kr msg now aq,lz,Zu⟩
 else Il d dH now address aq aG (fB msg).val
def mD.ok(c:mD):Prop:=c.source.length<=9223372036854775807/\c.target.length<=9223372036854775807/\mZ c.bP=Zm/\Bz c.key=Zm
structure Ja where
 client:UInt8
 service:UInt8
 peer:UInt8
 time:UInt8
 cj:UInt8
 dH:UInt8
 aq:Bool
 how:Int
def Ja.want(a:Ja):aZ:=if a.service.toNat % 5=4 then WB (aJ 0) (aJ (mV a.peer)) else Kerb.service (mV a.service % 3)
def Ja.base(a:Ja):Bytes:=(oK ⟨a.aq,user (mV a.client % 5),mV a.time,mV a.cj,a.want.name,a.want.inst⟩).val
def Ja.msg(a:Ja):Bytes :=
 if a.how % 8=7 then qJ a.base (a.how / 8)
 else if a.how % 8=6/\0<a.base.length then a.base.set 0 (UInt8.ofNat (Int.toNat (IntKind.wrap .u8 (a.how / 8)))) else a.base
end Kerb
/- Chapter 23, plain: how long a ticket lasts, and who can open the answer. -/
namespace Kerb
open Go Go.Abs
namespace KAsk
end KAsk
end Kerb
namespace Kerb
open Go Go.Abs
structure ab' (a:KAsk) (d:Db) (ad se:Int) (o:S2) (R:jS) (Y:gn) (k:Int):Prop where
 dec:dC o.answer=⟨R,0⟩
 len:o.answer.length<=1000000
 code:R.code=0
 opens:(jX R.box 8 k).2=Zm
 says:bJ (jX R.box 8 k).1=⟨Y,0⟩
 ZI:Y.aG=se
 ae8:o.iD.aG=se
 adp:o.iD.mj=k
 time:Y.time=1000+mV a.time+1
 start:Y.start=1100
 stop:Y.stop=o.iD.stop
 most:o.iD.stop<=1000+mV a.time+mV a.stop*50
 client:o.iD.client=user (mV a.user % 3)
 kind:(o.iD.kind=3/\k=(gY d (jU d.entries o.iD.client.name o.iD.client.inst).1).key/\0<=(jU d.entries o.iD.client.name o.iD.client.inst).1/\(jU d.entries o.iD.client.name o.iD.client.inst).1<d.entries.length) \/
  (o.iD.kind=4/\k=aG (mV a.aG % 4)/\o.iD.stop<=1000+mV a.cE+300*(mV a.cj % 40+1)/\mV a.address % 2=ad/\o.iD.p8=k)
end Kerb
/- The data of the statements of chapters 18 and 19: cases, servers, keys. -/
namespace Kerb
open Go Go.Abs
structure Case where
 client:UInt8
 other:UInt8
 service:UInt8
 aJ:UInt8
 aq:Bool
 turned:Bool
 gA:Bool
 address:UInt8
 src:UInt8
 cE:UInt8
 time:UInt8
 tick:UInt8
 cj:UInt8
 cO:Int
 key:UInt8
 bP:UInt8
 aG:UInt8
 aN:Int
 fA:Int
def Case.av(c:Case):AV := .agg [.u8 c.client,.u8 c.other,.u8 c.service,.u8 c.aJ,.bool c.aq,.bool c.turned,.bool c.gA,.u8 c.address,.u8 c.src,.u8 c.cE,.u8 c.time,.u8 c.tick,.u8 c.cj,.int .u32 c.cO,.u8 c.key,.u8 c.bP,.u8 c.aG,.int .u16 c.aN,.int .u16 c.fA]
def Uu(n:Int):Bool:=decide (0<=n)&&decide (n<=4294967295)
def Mf(n:Int):Bool:=decide (0<=n)&&decide (n<=65535)
def Case.ok(c:Case):Prop:=Uu c.cO=Zm/\Mf c.aN=Zm/\Mf c.fA=Zm
namespace Case
def who(c:Case):aZ:=Kerb.user (mV c.client % 6)
def me(c:Case):aZ:=Kerb.service (mV c.service % 6)
def ZI(c:Case):Int:=Kerb.aG (mV c.aG % 4)
def VJ(c:Case)(m:aZ):dz :=
 ⟨c.turned,c.who,mV c.address % 3,c.ZI,mV c.cj / 4,1000+mV c.cE*8,m.name,if c.service.toNat % 7=6 then[111,116,104,101,114] else m.inst⟩
def au(c:Case):lL:=⟨if c.other.toNat % 8=7 then Kerb.user (mV c.other % 6) else c.who,c.cO,mV c.tick % 3,1000+mV c.time*8⟩
def x(c:Case)(m:aZ)(k:Int):Bytes:=(fz (c.VJ m) k).val
def y(c:Case):Bytes:=(M3 c.au c.aq c.ZI).val
def SY(c:Case)(m:aZ)(k v:Int):cS :=
  ⟨if c.fA % 16=14 then !c.aq else c.aq,c.gA,if c.bP.toNat % 16=15 then v+1 else v,if c.aJ.toNat % 16=15 then[67,65,77] else m.aJ,
   if c.aN % 16=15 then qJ (c.x m k) (c.aN / 16) else c.x m k,if c.fA % 16=15 then qJ c.y (c.fA / 16) else c.y⟩
def msg(c:Case)(m:aZ)(k v:Int):Bytes:=(cH (c.SY m k v)).val
def server(c:Case)(size eK:UInt8):Server :=
 ⟨c.me,[⟨c.me,1,qQ 1⟩,⟨c.me,2,qQ 2⟩,⟨Kerb.user 0,1,qQ 9⟩],⟨1+mV size % 40,0,[]⟩,mV eK*4⟩
end Case
end Kerb
/- The statements of chapter 18, plain: what is accepted. -/
namespace Kerb
open Go Go.Abs
structure PY (r:nF) (m:Mark) (now eK:Int):Prop where
 err:r.err=0
 name:m.client.valid=Zm
 tick:0<=m.tick/\m.tick<=199
 A7:A7 m.time now eK=Zm
 floor:r.floor<=m.time
 new:m ∉ r.marks
 room:(nO r now eK).length<r.size
 is:mq r m now eK=⟨⟨r.size,imax r.floor (now-eK),nO r now eK++[m]⟩,0⟩
theorem EN{l:List Mark}{m:Mark}:vn l m=Zm↔m∈l:=by
 unfold vn;rw[List.any_eq_true];constructor
 ·rintro⟨x,hx,he⟩;rw[<-Mark.ou.1 he];exact hx
 ·intro h;exact⟨m,h,Mark.ou.2 rfl⟩
theorem added{r:nF}{m:Mark}{now eK:Int}(h:(mq r m now eK).err=0):PY r m now eK:=by
 unfold mq at h;by_cases h1:r.err=0;case neg=>rw[Qa1 h1] at h;cases h
 rw[Qa0 (by simpa using h1)] at h;by_cases h2:m.client.valid=Zm;case neg=>rw[Qa1 (by simpa using h2)] at h;cases h
 rw[Qa0 (by simp[h2])] at h;by_cases h3:within m.tick 199=Zm;case neg=>rw[Qa1 (by simpa using h3)] at h;cases h
 rw[Qa0 (by simp[h3])] at h;by_cases h4:A7 m.time now eK=Zu\/m.time<r.floor
 ·rw[Qa1 h4] at h;cases h
 rw[Qa0 h4] at h;by_cases h5:vn r.marks m=Zm
 ·rw[Qa1 h5] at h;cases h
 rw[Qa0 h5] at h;by_cases h6:r.size<=(nO r now eK).length
 ·rw[Qa1 h6] at h;cases h
 refine⟨h1,h2,within_iff.1 h3,?_,by omega,fun hm=>h5 (EN.2 hm),by omega,?_⟩
 ·cases hn:A7 m.time now eK
  ·exact absurd (.inl hn) h4
  ·rfl
 ·unfold mq;rw[Qa0 (by simpa using h1),Qa0 (by simp[h2]),Qa0 (by simp[h3]),Qa0 h4,Qa0 h5,Qa0 h6]
structure S3 (s:Server) (r:cS) (src now:Int) (t:dz) (a:lL):Prop where
 err:s.err=0
 aJ:r.aJ=s.me.aJ
 found:(jE s.keys s.me r.bP).2=Zm
 VJ:fw r.aN (jE s.keys s.me r.bP).1=⟨t,0⟩
 us:sZ t s.me.aJ=s.me
 fA:rR r.fA r.aq t.aG=⟨a,0⟩
 client:t.client=a.client
 from_:src=t.address
 A7:A7 a.time now s.eK=Zm
 state:GC t.cE t.cj now s.eK=0
 add:PY s.replay (ue a) now s.eK
 is:verify s r src now=⟨⟨s.me,s.keys,(mq s.replay (ue a) now s.eK).val,s.eK⟩,⟨t.client,t.aG,t.address,a.cO,a.time,a.tick,t.cE,t.cj,r.aN,r.fA⟩,0⟩
theorem Is{α:Type}(d:DX α)(h:d.err=0):d=⟨d.val,0⟩:=by cases d;simp at h;rw[h]
theorem taken{s:Server}{r:cS}{src now:Int}(h:(verify s r src now).err=0):∃ t a,S3 s r src now t a:=by
 have h0:=h;unfold verify at h;by_cases h1:s.err=0;case neg=>rw[Qa1 h1] at h;cases h
 rw[Qa0 (by simpa using h1)] at h;by_cases h2:(dj s r).err=0;case neg=>rw[Qa1 h2] at h;exact absurd h h2
 rw[Qa0 (by simpa using h2)] at h;by_cases h3:IJ (dj s r).aN (dj s r).fA src now s.eK=0;case neg=>rw[Qa1 h3] at h;exact absurd h h3
 rw[Qa0 (by simpa using h3)] at h;by_cases h4:(mq s.replay (ue (dj s r).fA) now s.eK).err=0;case neg=>rw[Qa1 h4] at h;exact absurd h h4
 have hv:verify s r src now=⟨⟨s.me,s.keys,(mq s.replay (ue (dj s r).fA) now s.eK).val,s.eK⟩,⟨(dj s r).aN.client,(dj s r).aN.aG,(dj s r).aN.address,(dj s r).fA.cO,(dj s r).fA.time,(dj s r).fA.tick,(dj s r).aN.cE,(dj s r).aN.cj,r.aN,r.fA⟩,0⟩:=by
  unfold verify;rw[Qa0 (by simpa using h1),Qa0 (by simpa using h2),Qa0 (by simpa using h3),Qa0 (by simpa using h4)]
 have ho:∃ t a,r.aJ=s.me.aJ/\(jE s.keys s.me r.bP).2=Zm/\fw r.aN (jE s.keys s.me r.bP).1=⟨t,0⟩/\sZ t s.me.aJ=s.me/\rR r.fA r.aq t.aG=⟨a,0⟩/\dj s r=⟨t,a,0⟩:=by
  unfold dj at h2 ⊢;by_cases g1:r.aJ=s.me.aJ;case neg=>rw[Qa1 g1] at h2;cases h2
  rw[Qa0 (by simpa using g1)] at h2 ⊢;by_cases g2:(jE s.keys s.me r.bP).2=Zu
  ·rw[Qa1 g2] at h2;cases h2
  rw[Qa0 g2] at h2 ⊢;by_cases g3:(fw r.aN (jE s.keys s.me r.bP).1).err=7
  ·rw[Qa1 g3] at h2;cases h2
  rw[Qa0 g3] at h2 ⊢;by_cases g4:(fw r.aN (jE s.keys s.me r.bP).1).err=0;case neg=>rw[Qa1 g4] at h2;cases h2
  rw[Qa0 (by simpa using g4)] at h2 ⊢;by_cases g5:(sZ (fw r.aN (jE s.keys s.me r.bP).1).val s.me.aJ).qv s.me=Zu
  ·rw[Qa1 g5] at h2;cases h2
  rw[Qa0 g5] at h2 ⊢;by_cases g6:(rR r.fA r.aq (fw r.aN (jE s.keys s.me r.bP).1).val.aG).err=0;case neg=>rw[Qa1 g6] at h2;cases h2
  rw[Qa0 (by simpa using g6)];exact⟨_,_,g1,by simpa using g2,Is _ g4,aZ.ou.1 (by simpa using g5),Is _ g6,rfl⟩
 obtain⟨t,a,o1,o2,o3,o4,o5,o6⟩:=ho;rw[o6] at h3 h4 hv;dsimp only at h3 h4 hv;unfold IJ at h3;by_cases j1:t.client.qv a.client=Zu
 ·rw[Qa1 j1] at h3;cases h3
 rw[Qa0 j1] at h3;by_cases j2:src=t.address;case neg=>rw[Qa1 j2] at h3;cases h3
 rw[Qa0 (by simpa using j2)] at h3;by_cases j3:A7 a.time now s.eK=Zu
 ·rw[Qa1 j3] at h3;cases h3
 rw[Qa0 j3] at h3;exact⟨t,a,h1,o1,o2,o3,o4,o5,aZ.ou.1 (by simpa using j1),j2,by simpa using j3,h3,added h4,hv⟩
namespace Case
end Case
theorem yE{a:lL}{l:Bool}:(gN a l).val.length<=150:=by
 unfold gN;split
 ·simp
 rename_i h;have hv:a.client.valid=Zm:=by
  unfold lL.check at h;cases hv:a.client.valid
  ·rw[hv,Qa1 (by rfl)] at h;simp at h
  ·rfl
 simp only[aZ.valid,Zy,validName,bO,c4,Qa2] at hv;have:=sQ (c5 (aS (cond l 1 0) 1 Zu) a.client++aS a.cO 4 l++aS a.tick 1 Zu++aS a.time 4 l);simp only[this,Zd,ai,af];omega
structure Reached (s:Server):Prop where
 err:s.err=0
 keys:∀ c∈s.keys,c.ok
 marks:∀ c∈s.replay.marks,c.ok
 name:s.me.name.length<=9223372036854775807/\s.me.inst.length<=9223372036854775807/\s.me.aJ.length<=9223372036854775807
 lens:s.keys.length<=1000000/\s.replay.marks.length<=1000000
theorem Lf(r:cS):(cH r).val.length<=600:=by
 by_cases h:(cH r).err=0
 ·obtain⟨h1,⟨h2,_⟩,_,h3,h4⟩:=Le h;have hh:(header (cond r.gA 4 3) r.aq).length=2:=by cases r.gA<;>cases r.aq<;>rfl
  rw[h1];simp only[Zd,Zj,List.length_nil,af,hh];omega
 ·unfold cH at h ⊢;split
  ·simp
  rename_i g1;rw[Qa0 g1] at h;split
  ·simp
  rename_i g2;rw[Qa0 g2] at h;split
  ·simp
  rename_i g3;rw[Qa0 g3] at h;exact absurd rfl h
structure Fits (s:Server) (V:D5) (r:cS) (src now:Int):Prop where
 err:V.err=0
 t1:V.a.time-now<=s.eK
 t2:now-V.a.time<=s.eK
 t3:V.a.cE-s.eK<=now
 t4:now<=V.a.cE+300*(V.a.cj+1)+s.eK
 b1:0<=V.a.time/\V.a.time<=4294967295
 b2:0<=V.a.cE/\V.a.cE<=4294967295
 b3:0<=V.a.cj/\V.a.cj<=255
 b4:0<=s.eK/\s.eK<=4294967295
 b5:0<=now/\now<=4294967295
 src:V.a.address=src
 aN:V.a.aN=r.aN
 fA:V.a.fA=r.fA
 more:V.s.replay.marks.length<=s.replay.marks.length+1
 most:(V.s.replay.marks.length:Int)<=V.s.replay.size
 size:V.s.replay.size=s.replay.size
 ok:V.s.err=0
structure acm (s:Server):Prop where
 keys:∀ c∈s.keys,c.ok
 marks:∀ c∈s.replay.marks,c.ok
 name:s.me.name.length<=9223372036854775807/\s.me.inst.length<=9223372036854775807/\s.me.aJ.length<=9223372036854775807
 lens:s.keys.length<=1000000/\s.replay.marks.length<=1000000
end Kerb
/- The statements of chapter 17, plain. -/
namespace Kerb
open Go Go.Abs
def mD.Jw(c:mD):Prop:=bp c.key=Zm/\within c.bP 255=Zm/\Bz c.key=Zm
structure QG (d:Db) (dH:List mD) (now address:Int) (aq:Bool) (se:Int) (msg:Bytes) (A:sG) (r:iX) (i:Int) (L:Int):Prop where
 afj:within now 4294967295=Zm
 adr:within address 4294967295=Zm
 SY:fB msg=⟨r,0⟩
 aJ:r.client.aJ=d.aJ
 client:oZ d r.client.name r.client.inst now=(i,0)
 afr:(DN d dH r.service r.inst now).err=0
 cj:nG (gY d i) (DN d dH r.service r.inst now) r.cj now=(L,Zm)
 Xr:gy se=2
 gr:(tA d.aJ r.client ⟨r.service,r.inst,d.aJ⟩ address aq now L se (gY d i).key (DN d dH r.service r.inst now).key (DN d dH r.service r.inst now).bP).err=0
 sl:(pG ⟨aq,r.client,r.time,(gY d i).dZ,(gY d i).bP,[]⟩ (tA d.aJ r.client ⟨r.service,r.inst,d.aJ⟩ address aq now L se (gY d i).key (DN d dH r.service r.inst now).key (DN d dH r.service r.inst now).bP).part (gY d i).key).err=0
 is:A=⟨(pG ⟨aq,r.client,r.time,(gY d i).dZ,(gY d i).bP,[]⟩ (tA d.aJ r.client ⟨r.service,r.inst,d.aJ⟩ address aq now L se (gY d i).key (DN d dH r.service r.inst now).key (DN d dH r.service r.inst now).bP).part (gY d i).key).val,
  { (tA d.aJ r.client ⟨r.service,r.inst,d.aJ⟩ address aq now L se (gY d i).key (DN d dH r.service r.inst now).key (DN d dH r.service r.inst now).bP).iD with kind:=1 },Zm⟩
theorem cE{d:Db}{dH:List mD}{now address:Int}{aq:Bool}{se:Int}{msg:Bytes}(h:(pR d dH now address aq se msg).ok=Zm):∃ r i L,QG d dH now address aq se msg (pR d dH now address aq se msg) r i L:=by
 obtain⟨A,hA⟩:∃ A,pR d dH now address aq se msg=A:=⟨_,rfl⟩;rw[hA] at h ⊢;unfold pR at hA;by_cases h1:(within now 4294967295&&within address 4294967295)=Zm;case neg=>rw[Qa1 (by simp only[Bool.not_eq_true] at h1;rw[h1];rfl)] at hA;subst hA;cases h
 rw[Qa0 (by rw[h1];simp)] at hA;by_cases h2:(fB msg).err=0;case neg=>rw[Qa1 h2] at hA;subst hA;cases h
 rw[Qa0 (by simpa using h2)] at hA;obtain⟨r,hr⟩:∃ r,(fB msg).val=r:=⟨_,rfl⟩;have YR:fB msg=⟨r,0⟩:=by cases hd:fB msg;rw[hd] at h2 hr;simp at h2 hr;rw[h2,hr]
 rw[hr] at hA;unfold Il at hA;by_cases h3:r.client.aJ=d.aJ;case neg=>rw[Qa1 h3] at hA;subst hA;cases h
 rw[Qa0 (by simpa using h3)] at hA;obtain⟨⟨i,e⟩,hi⟩:∃ i,oZ d r.client.name r.client.inst now=i:=⟨_,rfl⟩;rw[hi] at hA;dsimp only at hA;by_cases h4:e=0;case neg=>rw[Qa1 h4] at hA;subst hA;cases h
 subst h4;rw[Qa0 (by simp)] at hA;by_cases h5:(DN d dH r.service r.inst now).err=0;case neg=>rw[Qa1 h5] at hA;subst hA;cases h
 rw[Qa0 (by simpa using h5)] at hA;unfold Eb at hA;obtain⟨⟨L,q⟩,hL⟩:∃ L,nG (gY d i) (DN d dH r.service r.inst now) r.cj now=L:=⟨_,rfl⟩;rw[hL] at hA;dsimp only at hA;cases q
 ·rw[Qa1 rfl] at hA;subst hA;cases h
 rw[Qa0 (by simp)] at hA;by_cases h6:gy se=2;case neg=>rw[Qa1 h6] at hA;subst hA;cases h
 rw[Qa0 (by simpa using h6)] at hA;by_cases h7:(tA d.aJ r.client ⟨r.service,r.inst,d.aJ⟩ address aq now L se (gY d i).key (DN d dH r.service r.inst now).key (DN d dH r.service r.inst now).bP).err=0;case neg=>rw[Qa1 h7] at hA;subst hA;cases h
 rw[Qa0 (by simpa using h7)] at hA;by_cases h8:(pG ⟨aq,r.client,r.time,(gY d i).dZ,(gY d i).bP,[]⟩ (tA d.aJ r.client ⟨r.service,r.inst,d.aJ⟩ address aq now L se (gY d i).key (DN d dH r.service r.inst now).key (DN d dH r.service r.inst now).bP).part (gY d i).key).err=0;case neg=>rw[Qa1 h8] at hA;subst hA;cases h
 rw[Qa0 (by simpa using h8)] at hA;rw[Zy] at h1;exact⟨r,i,L,h1.1,h1.2,YR,h3,hi,h5,hL,h6,h7,h8,hA.symm⟩
structure WL (d:Db) (now ad se:Int) (A:sG) (r:iX) (i j:Int) (Y:mE) (body:Bytes) (P:gG) (T:dz):Prop where
 f1:jU d.entries r.client.name r.client.inst=(i,0)
 f2:jU d.entries r.service r.inst=(j,0)
 i0:0<=i/\i.toNat<d.entries.length
 j0:0<=j/\j.toNat<d.entries.length
 UT:bK A.answer=⟨Y,0⟩
 client:Y.client=r.client
 time:Y.time=r.time
 box:jX Y.iu 3 (gY d i).key=(body,Zm)
 part:ca body Y.aq=⟨P,0⟩
 VJ:fw P.aN (gY d j).key=⟨T,0⟩
 text:P.aN=A.iD.text
 t1:T.client=r.client
 t2:T.aG=se
 t3:P.aG=se
 t4:A.iD.aG=se
 t5:T.address=ad
 t6:T.service=r.service
 t7:T.inst=r.inst
 t8:T.cE=now
 t9:A.iD.mj=(gY d i).key
 e1:(0<(gY d i).dZ->A.iD.stop<=(gY d i).dZ)/\T.cj<=(gY d i).lv
 e2:(0<(gY d j).dZ->A.iD.stop<=(gY d j).dZ)/\T.cj<=(gY d j).lv
 e3:T.cj<=r.cj
 e4:A.iD.stop=now+300*(T.cj+1)
 e5:0<=T.cj/\T.cj<=255
 lens:A.answer.length<=140737488355328/\Y.iu.length<=140737488355328/\body.length<=140737488355328/\P.aN.length<=140737488355328
end Kerb
/- Chapter 19: ticket-granting servers. -/
namespace Kerb
open Go Go.Abs
def xy:ft:=⟨A8,0,0,[],[]⟩
def sU(b:Bytes)(li:Bool):ft :=
 let a:=lG b
 let t:=get b a.next 4 li
 let l:=get b t.next 1 Zu
 let s:=text b l.next
 ⟨a.val,t.val,l.val,s.val,(text b s.next).val⟩
def dr(b:Bytes):DX ft :=
 if (bc b [3]).2≠0 then⟨xy,(bc b [3]).2⟩ else iB xy dN (fun b=>(sU b (bc b [3]).1,Zu)) b
theorem Ow{r:ft}(h:(dN r).err=0):(cH r.ap).err=0/\r.ap.gA=Zu/\(dN r).val=(cH r.ap).val++(aS r.time 4 r.ap.aq++(aS r.cj 1 Zu++(r.service++0::(r.inst++0::[])))) /\
  (0<=r.time/\r.time<=4294967295)/\(0<=r.cj/\r.cj<=255)/\(r.service.length<=39/\(0:UInt8) ∉ r.service)/\r.inst.length<=39/\(0:UInt8) ∉ r.inst:=by
 unfold dN at h ⊢;by_cases h0:r.ap.gA=Zm
 ·rw[Qa1 h0] at h;cases h
 rw[Qa0 h0] at h ⊢;by_cases h1:(cH r.ap).err=0;case neg=>rw[Qa1 h1] at h;exact absurd h h1
 rw[Qa0 (by simpa using h1)] at h ⊢;by_cases h2:(validName r.service&&bO r.inst)=Zm;case neg=>rw[Qa1 (by rw[Bool.not_eq_true] at h2;rw[h2];rfl)] at h;cases h
 rw[Qa0 (by simp[h2])] at h ⊢;by_cases h3:(within r.time 4294967295&&within r.cj 255)=Zm;case neg=>rw[Qa1 (by rw[Bool.not_eq_true] at h3;rw[h3];rfl)] at h;cases h
 rw[Qa0 (by simp[h3])];rw[Zy] at h2 h3;have ok:∀ {s:Bytes},bO s=Zm->s.length<=39/\(0:UInt8) ∉ s:=fun {s} h=>by
  simp only[bO,Zy,Qa2] at h;exact⟨h.1,fun hm=>by
   have:=h.2;simp only[dO,Zf] at this;exact absurd (this 0 hm) (by decide)⟩
 have hn:r.service.length<=39/\(0:UInt8) ∉ r.service:=by
  have h:=h2.1;simp only[validName,Zy,Qa2] at h;exact⟨by omega,fun hm=>by
   have:=h.2;simp only[dO,Zf] at this;exact absurd (this 0 hm) (by decide)⟩
 refine⟨h1,by simpa using h0,?_,within_iff.1 h3.1,within_iff.1 h3.2,hn,ok h2.2⟩;unfold bg;simp only[List.append_assoc,List.singleton_append,List.cons_append,List.nil_append,List.append_nil]
theorem zS(b:Bytes)(li:Bool):(sU b li).ap.aJ.length<=9223372036854775807/\(sU b li).service.length<=9223372036854775807/\(sU b li).inst.length<=9223372036854775807:=by
 have h:∀ q,(text b q).val.length<=9223372036854775807:=fun q=>by have:=jk b q;omega
 exact⟨h _,h _,h _⟩
theorem CC(b:Bytes):((dr b).val.ap.aJ.length<=9223372036854775807/\(dr b).val.service.length<=9223372036854775807/\(dr b).val.inst.length<=9223372036854775807)/\(dr b).val.ap.aN.length<=255/\(dr b).val.ap.fA.length<=255:=by
 have h0:(xy.ap.aJ.length<=9223372036854775807/\xy.service.length<=9223372036854775807/\xy.inst.length<=9223372036854775807)/\xy.ap.aN.length<=255/\xy.ap.fA.length<=255:=by decide
 unfold dr;split
 ·exact h0
 unfold iB;split
 ·exact h0
 ·rename_i h;have he:(dN (sU b (bc b [3]).1)).err=0:=Decidable.byContradiction fun q=>h (.inr (.inl q));obtain⟨_,_,_,h1,h2⟩:=Le (Ow he).1;exact⟨zS _ _,h1,h2⟩
structure WN where
 s:Server
 out:sG
namespace Case
def SE(c:Case)(m:aZ)(k v time cj:Int)(sv:aZ):ft:=⟨{ c.SY m k v with gA:=Zu },time,cj,sv.name,sv.inst⟩
def SD(c:Case)(m:aZ)(k v time cj:Int)(sv:aZ):Bytes:=(dN (c.SE m k v time cj sv)).val
end Case
structure xN where
 jL:Case
 src:UInt8
 to:UInt8
 peer:UInt8
 cj:UInt8
 now:UInt8
 bP:UInt8
 how:Int
def xN.key(a:xN)(dH:List mD):n_ :=
 if a.src.toNat % 3=2/\0<dH.length then⟨⟨zm,aJ 0,(dH.getD (a.bP.toNat % dH.length) nh).source⟩,(dH.getD (a.bP.toNat % dH.length) nh).bP,(dH.getD (a.bP.toNat % dH.length) nh).key⟩
 else⟨⟨zm,aJ 0,aJ 0⟩,6,qQ 3⟩
def xN.want(a:xN):aZ:=if a.to.toNat % 5=4 then⟨zm,aJ (mV a.peer),aJ 0⟩ else Kerb.service (mV a.to % 3)
def xN.base(a:xN)(dH:List mD):Bytes:=a.jL.SD (a.key dH).service (a.key dH).key (a.key dH).bP 5 (mV a.cj) a.want
def xN.msg(a:xN)(dH:List mD):Bytes:=if a.how % 8=7 then qJ (a.base dH) (a.how / 8) else a.base dH
def xN.av(q:xN):AV := .agg [.u8 q.jL.client,.u8 q.jL.other,.u8 q.jL.service,.u8 q.jL.aJ,.bool q.jL.aq,.bool q.jL.turned,.bool q.jL.gA,.u8 q.jL.address,.u8 q.jL.src,.u8 q.jL.cE,.u8 q.jL.time,.u8 q.jL.tick,.u8 q.jL.cj,.int .u32 q.jL.cO,.u8 q.jL.key,.u8 q.jL.bP,.u8 q.jL.aG,.int .u16 q.jL.aN,.int .u16 q.jL.fA,.u8 q.src,.u8 q.to,.u8 q.peer,.u8 q.cj,.u8 q.now,.u8 q.bP,.int .u16 q.how]
def xN.ok(q:xN):Prop:=q.jL.ok/\Mf q.how=Zm
theorem Ju{r:ft}(h:(dN r).err≠0):(dN r).val=[]:=by grind [dN]
theorem PU(r:ft):(dN r).val.length<=800:=by
 by_cases h:(dN r).err=0
 ·obtain⟨h1,h2,h3,h4,h5,h6,h7⟩:=Ow h;rw[h3];have:=Lf r.ap;simp only[Zd,Zj,List.length_nil,af];omega
 ·rw[Ju h];simp
end Kerb
/- Chapter 28: when two texts are the same ticket. -/
namespace Kerb
open Go Go.Abs
def ox(b:Bytes):Bool:=(aY b).err==0&&(aY b).n==(b.length:Int)
end Kerb
/- Chapter 27: what an adversary can know, in plain words. -/
namespace Kerb
open Go Go.Abs
def cZ(l:List Int):List AV:=l.map (AV.int .u64)
def cQ(l:List Bytes):List AV:=l.map AV.bs
def DO:AV->Bytes
 | .bs b=>b
 | _=>[]
def qo(els:List AV):List Bytes:=els.map DO
def Ut:AV->Bool
 | .bs _=>Zm
 | _=>Zu
def uN(els:List AV):Bool:=els.all Ut
theorem pM(l:List Int):la (cZ l)=l:=by simp[la,cZ,Function.comp_def]
theorem s6(l:List Bytes):qo (cQ l)=l:=by simp[qo,cQ,Function.comp_def,DO]
theorem s7(l:List Int):dL (cZ l)=Zm:=by simp[dL,cZ]
theorem DQ(l:List Bytes):uN (cQ l)=Zm:=by simp[uN,cQ,Ut]
theorem ef(l:List Int):(cZ l).length=l.length:=by simp[cZ]
theorem ec(l:List Bytes):(cQ l).length=l.length:=by simp[cQ]
theorem Dl{els:List AV}(h:dL els=Zm):∃ ks,els=cZ ks:=⟨la els,by
 have:=Ec h;simpa [back,cF,cZ] using this.symm⟩
theorem R3{els:List AV}(h:uN els=Zm):∃ bs,els=cQ bs:=⟨qo els,by
 unfold qo cQ;rw[List.map_map];conv=>lhs;rw[<-List.map_id els]
 apply List.map_congr_left;intro a ha;simp only[uN,Zf] at h;have:=h a ha;cases a<;>first | (cases this;done) | rfl⟩
theorem jZ{l:List Int}{i:Nat}(h:i<l.length):(cZ l).getD i .undef = .int .u64 (l.getD i 0):=by
 simp[cZ,List.getD,h]
theorem jY{l:List Bytes}{i:Nat}(h:i<l.length):(cQ l).getD i .undef = .bs (l.getD i []):=by
 simp[cQ,List.getD,h]
def uP:List Int->Bool
 | x::y::r=>decide (x<y)&&uP (y::r)
 | _=>Zm
def mJ:List Int->Int->List Int
 | [],k=>[k]
 | x::r,k=>bif decide (x<k) then x::mJ r k else bif x==k then x::r else k::x::r
theorem zf{k y:Int}:∀ {l:List Int},y∈mJ l k↔y=k\/y∈l
 | []=>by simp[mJ]
 | x::r=>by
  unfold mJ;cases h1:decide (x<k) with
  | true=>simp only[Qa5,Zw,zf (l:=r)];exact or_left_comm
  | false =>
   cases h2:x==k with
   | true =>
    have e:=Qa9 h2;subst e;simp only[Qa6,Qa5,Zw];exact⟨fun h => .inr h,fun h=>h.elim .inl id⟩
   | false=>simp only[Qa6,Zw]
theorem Ea{x:Int}{l:List Int}(h:uP (x::l)=Zm):uP l=Zm:=by
 cases l with
 | nil=>rfl
 | cons y r=>simp only[uP,Zy] at h;exact h.2
theorem uQ{x:Int}:∀ {l:List Int},uP (x::l)=Zm->∀ y∈l,x<y
 | [],_,y,hy=>by cases hy
 | z::r,h,y,hy=>by
  simp only[uP,Zy,Qa2] at h;rcases Zw.1 hy with rfl | hy
  ·exact h.1
  ·have:=uQ h.2 y hy;omega
theorem D'{x:Int}{l:List Int}(h:uP l=Zm)(hx:∀ y∈l,x<y):uP (x::l)=Zm:=by
 cases l with
 | nil=>rfl
 | cons y r=>simp only[uP,Zy,Qa2];exact⟨hx y (by simp),h⟩
theorem uR{k:Int}:∀ {l:List Int},uP l=Zm->uP (mJ l k)=Zm
 | [],_=>rfl
 | x::r,h=>by
  unfold mJ;cases h1:decide (x<k) with
  | true =>
   simp only[Qa5];have hx:x<k:=Qa3 h1;refine D' (uR (Ea h)) fun y hy=> ?_;rcases zf.1 hy with rfl | hy
   ·exact hx
   ·exact uQ h y hy
  | false =>
   cases h2:x==k with
   | true=>exact h
   | false =>
    simp only[Qa6];have hx:¬ x<k:=of_decide_eq_false h1;have hk:k<x:=by
     have:x≠k:=by intro e;subst e;simp at h2
     omega
    refine D' h fun y hy=> ?_;rcases Zw.1 hy with rfl | hy
    ·exact hk
    ·have:=uQ h y hy;omega
theorem wR{k:Int}:∀ {l:List Int},k ∉ l->(mJ l k).Perm (l++[k])
 | [],_ => .refl _
 | x::r,h=>by
  unfold mJ;cases h1:decide (x<k) with
  | true =>
   simp only[Qa5,List.cons_append];exact List.Perm.cons _ (wR fun hm=>h (Zv _ hm))
  | false =>
   cases h2:x==k with
   | true=>exact absurd (by rw[Qa9 h2];simp) h
   | false =>
    simp only[Qa6];exact(List.perm_append_singleton k (x::r)).symm
theorem E5{k:Int}{l:List Int}(h:k ∉ l):(mJ l k).length=l.length+1:=by
 rw[(wR h).length_eq];simp
theorem Ct:∀ {l:List Int},uP l=Zm->∀ {i j:Nat},i<j->(hj:j<l.length)->l[i]! < l[j]!
 | [],_,i,j,_,hj=>by simp at hj
 | x::r,h,i,j,OL,hj=>by
  cases j with
  | zero=>omega
  | succ j =>
   have GP:j<r.length:=by simpa using hj
   cases i with
   | zero =>
    have:=uQ h (r[j]!) (by rw[getElem!_pos r j GP];exact List.getElem_mem GP);simpa using this
   | succ i =>
    have:=Ct (Ea h) (i:=i) (j:=j) (by omega) GP;simpa using this
theorem La{l:List Int}{k:Int}(h:uP l=Zm)(hk:k ∉ l):AL (cZ l) k=cZ (mJ l k):=by
 unfold AL xJ back cZ;congr 1;have e0:cF (l.map (AV.int .u64)++[.int .u64 k])=(l++[k]).toArray:=by simp[cF,la,Function.comp_def]
 rw[e0,Go.Sort.sortInt (l++[k])];have hu:=Go.Sort.sorted_unique_holds Go.Sort.swo_ltInt (fun x y h1 h2=>by simp only[Go.Sort.ltInt,decide_eq_false_iff_not] at h1 h2;omega) (l++[k]).toArray (mJ l k).toArray;have hp:=wR hk;have hl:=E5 hk;have:=hu ⟨by simp[hl],fun i hi=>by
   have h1:¬ i<(mJ l k).length:=by rw[hl];simp at hi;omega
   have h2:¬ i<(l++[k]).length:=by simp at hi ⊢;omega
   simp[Array.getElem!_eq_getD,Array.getD,h1,h2];intro hh;simp at h2;omega,by
   have g1:(mJ l k).toArray.extract 0 (l++[k]).toArray.size=(mJ l k).toArray:=by apply Array.extract_eq_self_of_le;simp[hl]
   have g2:(l++[k]).toArray.extract 0 (l++[k]).toArray.size=(l++[k]).toArray:=by apply Array.extract_eq_self_of_le;simp
   rw[g1,g2];exact hp⟩ (fun i j _ OL hj=>by
   simp only[Go.Sort.ltInt,decide_eq_false_iff_not];have GP:j<(mJ l k).length:=by rw[hl];simpa using hj
   have:=Ct (uR (k:=k) h) OL GP;simp only[List.getElem!_toArray];omega)
 rw[show(mJ l k)=(mJ l k).toArray.toList from rfl,this];simp only[Go.Sort.ltInt];congr 1;funext x y;by_cases hxy:x<=y
 ·have h':¬ y<x:=by omega
  simp[hxy,h']
 ·have h':y<x:=by omega
  simp[hxy,h']
theorem Lg{l:List Int}(h:uP l=Zm):Jh (cZ l)=Zm:=by
 simp only[Jh,Zf,List.mem_range,ef,Qa2];intro i hi;have e:=Ct h (i:=i) (j:=i+1) (by omega) (by omega);have h1:i<l.length:=by omega
 have h2:i+1<l.length:=by omega
 simp only[num,jZ h1,jZ h2];simpa [List.getD,h1,h2,getElem!_pos] using e
end Kerb
/- Chapter 27: the boxes of a message, what is in a box, the closure of knowledge. -/
namespace Kerb
open Go Go.Abs
def gJ(l:List Bytes):List Bytes:=l.filter ox
def cr(l:List Int):List Int:=l.filter bp
def nZ(b:Bytes):List Bytes :=
 if (bK b).err=0 then[(bK b).val.iu]
 else if (fU b).err=0 then[(fU b).val.aN,(fU b).val.fA]
 else if (dr b).err=0 then[(dr b).val.ap.aN,(dr b).val.ap.fA]
 else if (jo b).err=0 then[(jo b).val]
 else if (io b).err=0 then[(io b).iu]
 else if (bu b).err=0 then[(bu b).val.aN,(bu b).val.box]
 else if (dC b).err=0 then[(dC b).val.box]
 else if (fu b).err=0 then[(fu b).val.box] else[]
def partsOf(b:Bytes):List Bytes:=gJ (nZ b)
structure D0 where
 keys:List Int
 boxes:List Bytes
def Bx(b:Bytes)(li:Bool):D0:=⟨cr [(ca b li).val.aG],gJ [(ca b li).val.aN]⟩
def k_(x:VQ):D0 :=
 if x.kind=1 then(if (cC x.body).err=0 then⟨cr [(cC x.body).val.aG],[]⟩ else⟨[],[]⟩)
 else if x.kind=3 then(if (ca x.body Zu).err=0 then Bx x.body Zu else if (ca x.body Zm).err=0 then Bx x.body Zm else⟨[],[]⟩)
 else if x.kind=7 then(if (dR x.body).err=0 then⟨cr [(dR x.body).val.new],[]⟩ else⟨[],[]⟩)
 else if x.kind=8 then(if (bJ x.body).err=0 then⟨cr [(bJ x.body).val.aG],gJ [(bJ x.body).val.aN]⟩ else⟨[],[]⟩)
 else if x.kind=9 then(if (dS x.body).err=0 then⟨cr [(dS x.body).val.aG],[]⟩ else⟨[],[]⟩)
 else if x.kind=10 then(if (dp x.body).err=0 then⟨cr [(dp x.body).val.aG],gJ [(dp x.body).val.record]⟩ else⟨[],[]⟩)
 else⟨[],[]⟩
structure Kn where
 keys:List Int
 boxes:List Bytes
def gX(K:List Int)(l:List Int):List Int:=l.foldl (fun K k=>bif K.contains k then K else mJ K k) K
def eE(B:List Bytes)(l:List Bytes):List Bytes:=l.foldl (fun B b=>bif B.contains b then B else B++[b]) B
def Kn.add(s:Kn)(x:D0):Kn:=⟨gX s.keys x.keys,eE s.boxes x.boxes⟩
def Kn.has(s:Kn)(x:D0):Bool:=x.keys.all (fun k=>s.keys.contains k)&&x.boxes.all fun b=>s.boxes.contains b
def bY(b:Bytes):D0:=k_ (aY b).box
def Kn.done(s:Kn)(b:Bytes):Bool := !((aY b).err==0)||s.has (bY b)
def Kn.opens(s:Kn)(b:Bytes):Bool:=(aY b).err==0&&s.keys.contains (aY b).box.key && !s.has (bY b)
def Kn.next(s:Kn):Option Bytes:=s.boxes.find? s.opens
def oH:Nat->Kn->Kn
 | 0,s=>s
 | n+1,s=>match s.next with
  | some b=>oH n (s.add (bY b))
  | none=>s
def Av(s:Kn):Nat:=((s.boxes.filter fun b => !s.done b).map List.length).sum
def lT(s:Kn):Nat:=s.keys.length+s.boxes.length+Av s
def close(s:Kn):Kn:=oH (lT s) s
def learn(s:Kn)(m:Bytes):Kn:=close (s.add ⟨[],partsOf m⟩)
def leak(s:Kn)(k:Int):Kn:=close (s.add ⟨cr [k],[]⟩)
def iA:Nat->Kn->Bytes->Bool
 | 0,_,_=>Zu
 | n+1,s,b=>s.boxes.contains b||(ox b&&s.keys.contains (aY b).box.key&&(bY b).keys.all (fun k=>s.keys.contains k)&&(bY b).boxes.all fun b=>iA n s b)
def cq(s:Kn)(b:Bytes):Bool:=iA (b.length+1) s b
def kM(s:Kn)(m:Bytes):Bool:=(partsOf m).all (cq s)
theorem oG(k:Int):(cr [k]).length<=1:=List.length_filter_le _ _
theorem Ee(b:Bytes):(gJ [b]).length<=1:=List.length_filter_le _ _
theorem q_{l:List Bytes}{b:Bytes}(h:b∈gJ l):b∈l/\ox b=Zm:=List.mem_filter.1 h
theorem Ef{a b:Bytes}(h:b∈gJ [a]):b=a:=by simpa using (q_ h).1
theorem tu(b:Bytes)(li:Bool):(ca b li).val.aN.length<=b.length:=by
 unfold ca;split
 ·exact Zz _
 ·exact jn _ _ _
theorem iH{α:Type}{no:α}{enc:α->lX}{rd:Bytes->α×Bool}{b:Bytes}(P:α->Prop)(h1:P no)(h2:P (rd b).1):P (iB no enc rd b).val:=by
 unfold iB;split
 ·exact h1
 ·exact h2
theorem PC(b:Bytes):(HG b).val.aN.length<=b.length:=by
 unfold HG;dsimp only;cases dK (dw b 4 0 Zu).val
 ·exact Zz _
 ·exact mf _ _ _ _
theorem oq(b:Bytes):(bJ b).val.aN.length<=b.length :=
 iH (fun a:gn=>a.aN.length<=b.length) (Zz _) (PC b)
theorem rm(b:Bytes):(dp b).val.record.length<=b.length :=
 iH (fun a:uJ=>a.record.length<=b.length) (Zz _) (jn _ _ _)
theorem nq(b:Bytes):(aY b).box.body.length+12<=b.length\/(aY b).box=Ft:=by grind [cut,aY]
structure D1 (x:D0) (n:Nat):Prop where
 keys:x.keys.length<=1
 boxes:x.boxes.length<=1
 len:∀ b∈x.boxes,b.length<=n
 kW:∀ b∈x.boxes,ox b=Zm
 valid:∀ k∈x.keys,bp k=Zm
theorem zc(n:Nat):D1 ⟨[],[]⟩ n:=⟨by simp,by simp,by simp,by simp,by simp⟩
theorem JS(k:Int)(n:Nat):D1 ⟨cr [k],[]⟩ n:=⟨oG k,by simp,by simp,by simp,fun k' h=>(List.mem_filter.1 h).2⟩
theorem t_(k:Int){b:Bytes}{n:Nat}(h:b.length<=n):D1 ⟨cr [k],gJ [b]⟩ n :=
 ⟨oG k,Ee b,fun b' hb=>by rw[Ef hb];exact h,fun b' hb=>(q_ hb).2,fun k' h=>(List.mem_filter.1 h).2⟩
theorem ze(x:VQ):D1 (k_ x) x.body.length:=by
 unfold k_;repeat' split
 all_goals first
  | exact zc _
  | exact JS _ _
  | exact t_ _ (tu _ _)
  | exact t_ _ (oq _)
  | exact t_ _ (rm _)
theorem zd:k_ Ft=⟨[],[]⟩:=rfl
theorem za(b:Bytes):D1 (bY b) (b.length-12):=by
 unfold bY;rcases nq b with h | h
 ·have h1:=ze (aY b).box;exact⟨h1.keys,h1.boxes,fun b' hb=>by have:=h1.len b' hb;omega,h1.kW,h1.valid⟩
 ·rw[h,zd];exact zc _
theorem zR{b:Bytes}(h:(aY b).err=0):12<=b.length:=by
 unfold aY at h;split at h
 ·cases h
 ·omega
theorem pj{b b':Bytes}(h:b'∈(bY b).boxes):b'.length+12<=b.length:=by
 rcases nq b with h1 | h1
 ·have:=(ze (aY b).box).len b' h;omega
 ·unfold bY at h;rw[h1,zd] at h;cases h
theorem gH{y:Bytes}:∀ {l B:List Bytes},y∈eE B l↔y∈B\/y∈l
 | [],B=>by simp[eE]
 | b::l,B=>by
  have e:eE B (b::l)=eE (bif B.contains b then B else B++[b]) l:=rfl;rw[e,gH (l:=l)];cases h:B.contains b with
  | true =>
   have hb:b∈B:=by simpa using h
   simp only[Qa5,Zw];constructor
   ·rintro(h | h)
    ·exact .inl h
    ·exact .inr (.inr h)
   ·rintro(h | rfl | h)
    ·exact .inl h
    ·exact .inl hb
    ·exact .inr h
  | false=>simp only[Qa6,List.mem_append,Zw,List.not_mem_nil,or_false];exact or_assoc
theorem kh{y:Int}:∀ {l K:List Int},y∈gX K l↔y∈K\/y∈l
 | [],K=>by simp[gX]
 | k::l,K=>by
  have e:gX K (k::l)=gX (bif K.contains k then K else mJ K k) l:=rfl;rw[e,kh (l:=l)];cases h:K.contains k with
  | true =>
   have hb:k∈K:=by simpa using h
   simp only[Qa5,Zw];constructor
   ·rintro(h | h)
    ·exact .inl h
    ·exact .inr (.inr h)
   ·rintro(h | rfl | h)
    ·exact .inl h
    ·exact .inl hb
    ·exact .inr h
  | false =>
   simp only[Qa6,zf,Zw];constructor
   ·rintro((h | h) | h)
    ·exact .inr (.inl h)
    ·exact .inl h
    ·exact .inr (.inr h)
   ·rintro(h | h | h)
    ·exact .inl (.inr h)
    ·exact .inl (.inl h)
    ·exact .inr h
theorem lY:∀ {l K:List Int},uP K=Zm->uP (gX K l)=Zm
 | [],K,h=>h
 | k::l,K,h=>by
  have e:gX K (k::l)=gX (bif K.contains k then K else mJ K k) l:=rfl;rw[e];cases K.contains k with
  | true=>exact lY h
  | false=>exact lY (uR h)
theorem uM:∀ {l K:List Int},(gX K l).length<=K.length+l.length
 | [],K=>Zn _
 | k::l,K=>by
  have e:gX K (k::l)=gX (bif K.contains k then K else mJ K k) l:=rfl;rw[e];have h1:=uM (l:=l) (K:=bif K.contains k then K else mJ K k);cases h:K.contains k with
  | true=>rw[h] at h1;simp only[Qa5,Zj] at h1 ⊢;omega
  | false =>
   rw[h] at h1;have:=E5 (k:=k) (l:=K) (by simpa using h);simp only[Qa6,Zj] at h1 ⊢;omega
theorem ib:∀ {l B:List Bytes},∃ N,eE B l=B++N/\N.length<=l.length/\(∀ b∈N,b∈l/\b ∉ B)
 | [],B=>⟨[],by simp[eE],Zn _,by simp⟩
 | b::l,B=>by
  have e:eE B (b::l)=eE (bif B.contains b then B else B++[b]) l:=rfl;rw[e];cases h:B.contains b with
  | true =>
   obtain⟨N,h1,h2,h3⟩:=ib (l:=l) (B:=B);exact⟨N,h1,by simp only[Zj];omega,fun x hx=>⟨Zv _ (h3 x hx).1,(h3 x hx).2⟩⟩
  | false =>
   obtain⟨N,h1,h2,h3⟩:=ib (l:=l) (B:=B++[b]);refine⟨b::N,by simp only[Qa6];rw[h1];simp,by simp only[Zj];omega,fun x hx=> ?_⟩;rcases Zw.1 hx with rfl | hx
   ·exact⟨by simp,by simpa using h⟩
   ·obtain⟨g1,g2⟩:=h3 x hx;exact⟨Zv _ g1,fun hm=>g2 (by simp[hm])⟩
theorem my{s:Kn}{x:D0}:s.has x=Zm↔(∀ k∈x.keys,k∈s.keys)/\∀ b∈x.boxes,b∈s.boxes:=by
 simp[Kn.has]
def Sub(s t:Kn):Prop:=(∀ k∈s.keys,k∈t.keys)/\∀ b∈s.boxes,b∈t.boxes
theorem Sub.refl(s:Kn):Sub s s:=⟨fun _ h=>h,fun _ h=>h⟩
theorem Sub.trans{s t u:Kn}(h1:Sub s t)(h2:Sub t u):Sub s u:=⟨fun k h=>h2.1 k (h1.1 k h),fun k h=>h2.2 k (h1.2 k h)⟩
theorem Sub.has{s t:Kn}(h:Sub s t){x:D0}(hx:s.has x=Zm):t.has x=Zm :=
 my.2 ⟨fun k hk=>h.1 k ((my.1 hx).1 k hk),fun k hk=>h.2 k ((my.1 hx).2 k hk)⟩
theorem Sub.done{s t:Kn}(h:Sub s t){b:Bytes}(hx:s.done b=Zm):t.done b=Zm:=by
 unfold Kn.done at hx ⊢;rw[Bool.or_eq_true] at hx ⊢;rcases hx with hx | hx
 ·exact .inl hx
 ·exact .inr (h.has hx)
theorem DM(s:Kn)(x:D0):Sub s (s.add x):=⟨fun k h=>kh.2 (.inl h),fun b h=>gH.2 (.inl h)⟩
theorem Ij(s:Kn)(x:D0):(s.add x).has x=Zm:=my.2 ⟨fun k h=>kh.2 (.inr h),fun b h=>gH.2 (.inr h)⟩
theorem pB{s:Kn}{b:Bytes}:s.opens b=Zm↔(aY b).err=0/\(aY b).box.key∈s.keys/\s.has (bY b)=Zu:=by
 simp[Kn.opens,and_assoc]
theorem GG{p q:Bytes->Bool}{b:Bytes}:∀ {l:List Bytes},(∀ x∈l,q x=Zm->p x=Zm)->b∈l->p b=Zm->q b=Zu->((l.filter q).map List.length).sum+b.length<=((l.filter p).map List.length).sum
 | [],_,h,_,_=>by cases h
 | a::l,h1,h2,h3,h4=>by
  have le:∀ {l:List Bytes},(∀ x∈l,q x=Zm->p x=Zm)->((l.filter q).map List.length).sum<=((l.filter p).map List.length).sum:=by
   intro l;induction l with
   | nil=>intro _;exact Zn _
   | cons c l ih =>
    intro hc;have:=ih fun x hx=>hc x (Zv _ hx);cases hq:q c with
    | true=>simp only[Zx,hq,hc c (by simp) hq,if_true,Zp,Zk];omega
    | false =>
     cases hp:p c with
     | true=>simp only[Zx,hq,hp,if_true,Zq,if_false,Zp,Zk];omega
     | false=>simpa only[Zx,hq,hp,Zq,if_false] using this
  rcases Zw.1 h2 with rfl | h2
  ·have:=le (l:=l) fun x hx=>h1 x (Zv _ hx);simp only[Zx,h3,h4,if_true,Zq,if_false,Zp,Zk];omega
  ·have:=GG (l:=l) (fun x hx=>h1 x (Zv _ hx)) h2 h3 h4;cases hq:q a with
   | true=>simp only[Zx,hq,h1 a (by simp) hq,if_true,Zp,Zk];omega
   | false =>
    cases hp:p a with
    | true=>simp only[Zx,hq,hp,if_true,Zq,if_false,Zp,Zk];omega
    | false=>simpa only[Zx,hq,hp,Zq,if_false] using this
theorem Sz{p:Bytes->Bool}{m:Nat}:∀ {l:List Bytes},l.length<=1->(∀ x∈l,x.length<=m)->((l.filter p).map List.length).sum<=m
 | [],_,_=>Zz _
 | [a],_,h=>by
  have:=h a (by simp);cases hp:p a<;>simp[hp]<;>omega
 | _::_::_,h,_=>by simp at h
theorem nX{s:Kn}{b:Bytes}(hb:b∈s.boxes)(ho:s.opens b=Zm):lT (s.add (bY b))<lT s:=by
 obtain⟨h1,h2,h3⟩:=pB.1 ho;have hl:=zR h1;have hi:=za b;obtain⟨N,e,hN,XR⟩:=ib (l:=(bY b).boxes) (B:=s.boxes);have hk:=uM (l:=(bY b).keys) (K:=s.keys);have hu:Av (s.add (bY b))+b.length<=Av s+(b.length-12):=by
  unfold Av;rw[show(s.add (bY b)).boxes=s.boxes++N from e,List.filter_append,List.map_append,List.sum_append];have a1:=GG (p:=fun b => !s.done b) (q:=fun x => !(s.add (bY b)).done x) (b:=b) (l:=s.boxes) (fun x _ hx=>by
   simp only[Bool.not_eq_true',Bool.not_eq_eq_eq_not,Bool.not_true] at hx ⊢;cases hd:s.done x with
   | false=>rfl
   | true=>rw[(DM s (bY b)).done hd] at hx;cases hx) hb (by simp[Kn.done,h1,h3]) (by simp[Kn.done,h1,Ij])
  have a2:=Sz (p:=fun x => !(s.add (bY b)).done x) (m:=b.length-12) (l:=N) (Zb hN hi.boxes) fun x hx=>hi.len x (XR x hx).1;omega
 have h4:(s.add (bY b)).boxes.length<=s.boxes.length+1:=by
  rw[show(s.add (bY b)).boxes=s.boxes++N from e,Zd];have:=hi.boxes;omega
 have h5:(s.add (bY b)).keys.length<=s.keys.length+1:=Zb hk (by have:=hi.keys;omega);unfold lT;omega
theorem pA{s:Kn}{b:Bytes}(h:s.next=some b):b∈s.boxes/\s.opens b=Zm:=⟨List.mem_of_find?_eq_some h,List.find?_some h⟩
theorem AO:∀ {n:Nat} {s:Kn},lT s<=n->oH n s=close s:=by
 intro n;induction n using Nat.strongRecOn with
 | _ n ih =>
  intro s h;have key:∀ m,lT s<=m->m<=n->oH m s=oH (lT s) s:=by
   intro m h1 h2;cases hn:s.next with
   | none =>
    have:∀ q,oH q s=s:=fun q=>by cases q with
     | zero=>rfl
     | succ q=>simp only[oH,hn]
    rw[this,this]
   | some b =>
    obtain⟨g1,g2⟩:=pA hn;have eY:=nX g1 g2;obtain⟨q,rfl⟩:∃ q,m=q+1:=⟨m-1,by omega⟩;obtain⟨r,hr⟩:∃ r,lT s=r+1:=⟨lT s-1,by omega⟩;rw[hr];simp only[oH,hn];rw[ih q (by omega) (s:=s.add (bY b)) (by omega),ih r (by omega) (s:=s.add (bY b)) (by omega)]
  exact key n h (Zn _)
theorem yx{s:Kn}{b:Bytes}(h:s.next=some b):close s=close (s.add (bY b)):=by
 obtain⟨g1,g2⟩:=pA h;have eY:=nX g1 g2;obtain⟨r,hr⟩:∃ r,lT s=r+1:=⟨lT s-1,by omega⟩;unfold close;rw[hr];simp only[oH,h];exact AO (by omega)
theorem tO{s:Kn}(h:s.next=none):close s=s:=by
 unfold close;cases lT s with
 | zero=>rfl
 | succ n=>simp only[oH,h]
theorem sH{P:Kn->Prop}(rH:∀ s b,P s->b∈s.boxes->s.opens b=Zm->P (s.add (bY b))):∀ s,P s->P (close s)/\(close s).next=none:=by
 have:∀ n s,lT s<=n->P s->P (close s)/\(close s).next=none:=by
  intro n;induction n with
  | zero =>
   intro s hm hp;cases hn:s.next with
   | none=>rw[tO hn];exact⟨hp,hn⟩
   | some b =>
    obtain⟨g1,g2⟩:=pA hn;have:=nX g1 g2;omega
  | succ n ih =>
   intro s hm hp;cases hn:s.next with
   | none=>rw[tO hn];exact⟨hp,hn⟩
   | some b =>
    obtain⟨g1,g2⟩:=pA hn;have:=nX g1 g2;rw[yx hn];exact ih _ (by omega) (rH s b hp g1 g2)
 exact fun s=>this _ s (Zn _)
end Kerb
/- Chapter 27: what is asked of knowledge that is handed over. -/
namespace Kerb
open Go Go.Abs
def kn(ks bs:List AV):Kn:=⟨la ks,qo bs⟩
def rM(bs:List AV):Bool:=uN bs&&bs.all (fun a=>decide ((DO a).length<=70368744177664))&&decide (bs.length<=100000000)
def wS(ks:List AV):Bool:=dL ks&&(la ks).all (fun k=>decide (0<=k)&&decide (k<18446744073709551616))&&decide (ks.length<=100000000)
def td(ks bs:List AV):Bool:=dL ks&&rM bs&&uP (la ks)&&decide (lT (kn ks bs)<=1000000)&&(qo bs).all fun b=>decide (b.length<=70368744170000)
structure eL (s:Kn):Prop where
 uP:uP s.keys=Zm
 len:∀ b∈s.boxes,b.length<=70368744170000
 lT:lT s<=1000000
theorem qB(s:Kn):kn (cZ s.keys) (cQ s.boxes)=s:=by unfold kn;rw[pM,s6]
theorem yb{l:List Bytes}:rM (cQ l)=Zm↔(∀ b∈l,b.length<=70368744177664)/\l.length<=100000000:=by
 unfold rM;rw[DQ,ec];simp[cQ,DO];intro _;exact⟨fun h b hb=>Qa3 (h b hb),fun h b hb=>Qa4 (h b hb)⟩
theorem I0{bs:List AV}(h:rM bs=Zm):∃ l,bs=cQ l/\(∀ b∈l,b.length<=70368744177664)/\l.length<=100000000:=by
 have h':=h;unfold rM at h;simp only[Zy] at h;obtain⟨l,rfl⟩:=R3 h.1.1;exact⟨l,rfl,yb.1 h'⟩
theorem IK{l:List Int}:wS (cZ l)=Zm↔(∀ k∈l,0<=k/\k<18446744073709551616)/\l.length<=100000000:=by
 unfold wS;rw[s7,ef,pM];simp
theorem Px{ks:List AV}(h:wS ks=Zm):∃ l,ks=cZ l/\(∀ k∈l,0<=k/\k<18446744073709551616)/\l.length<=100000000:=by
 have h':=h;unfold wS at h;simp only[Zy] at h;obtain⟨l,rfl⟩:=Dl h.1.1;exact⟨l,rfl,IK.1 h'⟩
theorem IM{s:Kn}:td (cZ s.keys) (cQ s.boxes)=Zm↔eL s:=by
 unfold td;rw[qB,s7,pM,s6];simp only[Zy,Qa2,yb,Qa8,Zf];constructor
 ·rintro⟨⟨⟨⟨h1,h2⟩,h3⟩,h4⟩,h5⟩;exact⟨h3,h5,h4⟩
 ·rintro⟨h1,h2,h3⟩;refine⟨⟨⟨⟨fun b hb=>Zb (h2 b hb) (by decide),?_⟩,h1⟩,h3⟩,h2⟩;have:s.boxes.length<=lT s:=by unfold lT;omega
  omega
theorem IZ{ks bs:List AV}(h:td ks bs=Zm):∃ s:Kn,ks=cZ s.keys/\bs=cQ s.boxes/\eL s:=by
 have h':=h;unfold td at h;simp only[Zy] at h;obtain⟨l,rfl⟩:=Dl h.1.1.1.1;obtain⟨m,rfl,_⟩:=I0 h.1.1.1.2;exact⟨⟨l,m⟩,rfl,rfl,IM (s:=⟨l,m⟩).1 h'⟩
theorem eL.E'{s:Kn}(h:eL s):s.keys.length<=1000000:=by have:=h.lT;unfold Kerb.lT at this;omega
theorem eL.wD{s:Kn}(h:eL s):s.boxes.length<=1000000:=by have:=h.lT;unfold Kerb.lT at this;omega
theorem eL.open{s:Kn}{b:Bytes}(h:eL s)(hb:b∈s.boxes)(ho:s.opens b=Zm):eL (s.add (bY b)) :=
 ⟨lY h.uP,fun x hx=>by
  rcases gH.1 hx with hx | hx
  ·exact h.len x hx
  ·have:=pj hx;have:=h.len b hb;omega,Nat.le_of_lt (Nat.lt_of_lt_of_le (nX hb ho) h.lT)⟩
theorem eL.close{s:Kn}(h:eL s):eL (Kerb.close s):=(sH (P:=eL) (fun s b hs hb ho=>hs.open hb ho) s h).1
theorem yB(b:Bytes):(bK b).val.iu.length<=b.length:=by
 unfold bK;split
 ·exact Zz _
 split
 ·exact Zz _
 ·exact jn _ _ _
theorem Fp(b:Bytes)(p m:Int)(li:Bool):(fH b p m li).val.length<=b.length:=by
 unfold fH;split
 ·exact Zz _
 ·exact jn _ _ _
theorem HI(b:Bytes):(io b).iu.length<=b.length:=by
 unfold io;split
 ·exact Zz _
 split
 ·exact Fp _ _ _ _
 ·exact Zz _
theorem PE(b:Bytes):(HH b).val.aN.length<=b.length/\(HH b).val.box.length<=b.length:=by
 unfold HH;dsimp only;cases ((fD b 1 2 Zu).val==2)
 ·exact⟨Zz _,mf _ _ _ _⟩
 ·exact⟨mf _ _ _ _,mf _ _ _ _⟩
theorem tQ(b:Bytes):(bu b).val.aN.length<=b.length/\(bu b).val.box.length<=b.length:=by
 unfold bu;split
 ·exact⟨Zz _,Zz _⟩
 ·exact iH (fun a:dY=>a.aN.length<=b.length/\a.box.length<=b.length) ⟨Zz _,Zz _⟩ (PE b)
theorem wF(b:Bytes):(dC b).val.box.length<=b.length:=by
 unfold dC;split
 ·exact Zz _
 ·exact iH (fun a:jS=>a.box.length<=b.length) (Zz _) (mf _ _ _ _)
theorem AR(b:Bytes):(fu b).val.box.length<=b.length:=by
 unfold fu;split
 ·exact Zz _
 ·exact iH (fun a:D2=>a.box.length<=b.length) (Zz _) (jn _ _ _)
theorem I':(0:Int)<=0/\(0:Int)<18446744073709551616:=by decide
theorem wG(b:Bytes):0<=(cC b).val.aG/\(cC b).val.aG<18446744073709551616:=by
 unfold cC;split
 ·exact⟨Zg _,by decide⟩
 ·exact iH (fun a:dz=>0<=a.aG/\a.aG<18446744073709551616) ⟨Zg _,by decide⟩ (l8 _)
theorem yz(b:Bytes)(li:Bool):0<=(ca b li).val.aG/\(ca b li).val.aG<18446744073709551616:=by
 unfold ca;split
 ·exact⟨Zg _,by decide⟩
 ·exact l8 _
theorem tR(b:Bytes):0<=(dR b).val.new/\(dR b).val.new<18446744073709551616 :=
 iH (fun a:fl=>0<=a.new/\a.new<18446744073709551616) ⟨Zg _,by decide⟩ (by
  unfold nB MQ;dsimp only;cases iQ (dw b 4 0 Zu).val
  ·exact yh _ _ _
  ·exact I')
theorem tP(b:Bytes):0<=(bJ b).val.aG/\(bJ b).val.aG<18446744073709551616 :=
 iH (fun a:gn=>0<=a.aG/\a.aG<18446744073709551616) ⟨Zg _,by decide⟩ (by
  unfold nz HG;dsimp only;cases dK (dw b 4 0 Zu).val
  ·exact I'
  ·exact yh _ _ _)
theorem yA(b:Bytes):0<=(dS b).val.aG/\(dS b).val.aG<18446744073709551616 :=
 iH (fun a:D4=>0<=a.aG/\a.aG<18446744073709551616) ⟨Zg _,by decide⟩ (xZ _ _ _)
theorem xO(b:Bytes):0<=(dp b).val.aG/\(dp b).val.aG<18446744073709551616 :=
 iH (fun a:uJ=>0<=a.aG/\a.aG<18446744073709551616) ⟨Zg _,by decide⟩ (xZ _ _ _)
theorem Mt{a:Bytes}(h:a.length<=70368744177664):rM [.bs a]=Zm:=(yb (l:=[a])).2 ⟨by simpa using h,by simp⟩
theorem BB{k:Int}(h:0<=k/\k<18446744073709551616):wS [.int .u64 k]=Zm:=(IK (l:=[k])).2 ⟨by simpa using h,by simp⟩
theorem oD(b:Bytes):(∀ x∈nZ b,x.length<=b.length+1012)/\(nZ b).length<=2:=by
 have h1:=yB b;have h2:=Et b;have h3:=CC b;have h4:=AQ b;have h5:=HI b;have h6:=tQ b;have h7:=wF b;have h8:=AR b;unfold nZ;repeat' split
 all_goals
  constructor
  ·simp only[Zw,List.not_mem_nil,or_false];intro x hx;first
    | (rcases hx with rfl | rfl<;>omega)
    | (subst hx;omega)
    | exact absurd hx (by simp)
  ·simp
theorem DE{b:Bytes}(h:b.length<=70368744170000):rM (cQ (nZ b))=Zm :=
 yb.2 ⟨fun x hx=>by have:=(oD b).1 x hx;omega,by have:=(oD b).2;omega⟩
theorem mS(b:Bytes):(∀ x∈partsOf b,x.length<=b.length+1012)/\(partsOf b).length<=2 :=
 ⟨fun x hx=>(oD b).1 x (q_ hx).1,Zb (List.length_filter_le _ _) (oD b).2⟩
theorem Aw{s t:Kn}(h:Sub s t)(l:List Bytes):((l.filter fun b => !t.done b).map List.length).sum<=((l.filter fun b => !s.done b).map List.length).sum:=by
 induction l with
 | nil=>exact Zn _
 | cons c l ih =>
  cases ht:t.done c with
  | true =>
   cases hs:s.done c<;>simp only[Zx,ht,hs,Bool.not_true,Bool.not_false,Zq,if_false,if_true,Zp,Zk]<;>omega
  | false =>
   have hs:s.done c=Zu:=by
    cases hs:s.done c with
    | false=>rfl
    | true=>rw[h.done hs] at ht;cases ht
   simp only[Zx,ht,hs,Bool.not_false,if_true,Zp,Zk];omega
theorem I7{p:Bytes->Bool}{m:Nat}:∀ {l:List Bytes},(∀ x∈l,x.length<=m)->((l.filter p).map List.length).sum<=l.length*m
 | [],_=>Zz _
 | a::l,h=>by
  have h1:=I7 (p:=p) (l:=l) fun x hx=>h x (Zv _ hx);have h2:=h a (by simp);rw[Zj,Nat.succ_mul];cases hp:p a with
  | true=>simp only[Zx,hp,if_true,Zp,Zk];omega
  | false=>simp only[Zx,hp,Zq,if_false];omega
theorem Cr(s:Kn)(x:D0){m:Nat}(h:∀ b∈x.boxes,b.length<=m):lT (s.add x)<=lT s+x.keys.length+x.boxes.length*(m+1):=by
 obtain⟨N,e,hN,XR⟩:=ib (l:=x.boxes) (B:=s.boxes);have hk:=uM (l:=x.keys) (K:=s.keys);have h1:=Aw (DM s x) s.boxes;have h2:=I7 (p:=fun b => !(s.add x).done b) (l:=N) (m:=m) fun b hb=>h b (XR b hb).1;have h3:N.length*m<=x.boxes.length*m:=Nat.mul_le_mul_right _ hN;unfold lT Av;rw[show(s.add x).boxes=s.boxes++N from e,List.filter_append,List.map_append,List.sum_append,Zd];rw[Nat.mul_add,Nat.mul_one];have:(s.add x).keys.length<=s.keys.length+x.keys.length:=hk;omega
theorem eL.add{s:Kn}(h:eL s){x:D0}{m:Nat}(h1:∀ b∈x.boxes,b.length<=m)(h2:Kerb.lT s+x.keys.length+x.boxes.length*(m+1)<=1000000)(h3:m<=70368744170000):eL (s.add x) :=
 ⟨lY h.uP,fun b hb=>by
  rcases gH.1 hb with hb | hb
  ·exact h.len b hb
  ·exact Zb (h1 b hb) h3,Zb (Cr s x h1) h2⟩
theorem eL.parts{s:Kn}(h:eL s){b:Bytes}(h1:Kerb.lT s+2*b.length+2100<=1000000):eL (s.add ⟨[],partsOf b⟩):=by
 have hp:=mS b;refine h.add (m:=b.length+1012) hp.1 ?_ (by omega);have:(partsOf b).length*(b.length+1012+1)<=2*(b.length+1012+1):=Nat.mul_le_mul_right _ hp.2;simp only[List.length_nil];omega
theorem eL.Mr{s:Kn}(h:eL s){k:Int}(h1:Kerb.lT s+1<=1000000):eL (s.add ⟨cr [k],[]⟩):=by
 have:=oG k;exact h.add (m:=0) (by simp) (by simp only[List.length_nil];omega) (by omega)
end Kerb
