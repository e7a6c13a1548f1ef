/- Clients that receive: lengths stay small. -/
import Derived.Test.YteafbgcimcpfiaaGreatKerbCli4
import Derived.KernelRfl
set_option linter.all false
open Nat renaming zero_le→Zz,le_trans→Zb,le_refl→Zn
open Bool renaming and_eq_true→Zy,false→Zu,false_eq_true→Zq,true→Zm
open List renaming filter_cons→Zx,mem_cons→Zw,mem_cons_of_mem→Zv,length_cons→Zj,sum_cons→Zk,map_cons→Zp,length_append→Zd,all_eq_true→Zf
open Int renaming le_refl→Zg
namespace Kerb
open Go.Abs Go
end Kerb
namespace Go.Abs
theorem D'{α β:Type}{x:Option α}{f:α->Option β}{r:Option β}(P:α->Prop)(h1:∃ a,x=some a/\P a)(h2:∀ a,P a->f a=r):x.bind f=r:=by
 obtain⟨a,rfl,h⟩:=h1;exact h2 a h
end Go.Abs
/- Chapter 20: a client that waits for an answer gets it. -/
namespace Kerb
open Go Go.Abs
theorem wD(m:GQ)(li:Bool):(eI m li).val.length<=16:=by
 unfold eI;split
 ·simp
 ·rw[sK];simp[af]
theorem AR(s:Bytes)(li:Bool):(dM s li).val.length<=2000:=by
 unfold dM;split
 ·simp
 ·simp[af,JF];omega
end Kerb
/- Chapter 23, plain: when a ticket is given; what the data of the statements says. -/
namespace Kerb
open Go Go.Abs
end Kerb
/- Chapter 17: authentication servers; the data of its statements. -/
namespace Kerb
open Go Go.Abs
def pF(r:mE)(p:gG)(k:Int):lW :=
 if (cW p r.aq).err≠0 then⟨[],(cW p r.aq).err⟩
 else if (fN 3 k (cW p r.aq).val).err≠0 then⟨[],(fN 3 k (cW p r.aq).val).err⟩
 else dV ⟨r.aq,r.client,r.time,r.d_,r.bP,(fN 3 k (cW p r.aq).val).val⟩
def Kt(msg:Bytes)(now:Int)(aq:Bool):Bytes :=
 if msg.length=0 then[] else if msg.getD 0 0=4 then[] else if (fB (msg.set 0 4)).err≠0 then[]
 else refuse (fB (msg.set 0 4)).val.client 4 now aq
structure sB where
 answer:Bytes
 iA:xe
 ok:Bool
def nI(c:fT)(v:WB)(cj now:Int):Int×Bool:=JB now (tP (tP cj c.lq) v.cj) ([c.d_,v.d_].filter fun n => !(n==0))
def D9(d:Db)(c:fT)(v:WB)(r:iZ)(now address:Int)(aq:Bool)(aG:Int):sB :=
 if (nI c v r.cj now).2=Zu then⟨refuse r.client 3 now aq,lv,Zu⟩
 else if gx aG≠2 then⟨refuse r.client 10 now aq,lv,Zu⟩
 else if (tg d.aJ r.client ⟨r.service,r.inst,d.aJ⟩ address aq now (nI c v r.cj now).1 aG c.key v.key v.bP).err≠0 then⟨[],lv,Zu⟩
 else if (pF ⟨aq,r.client,r.time,c.d_,c.bP,[]⟩ (tg d.aJ r.client ⟨r.service,r.inst,d.aJ⟩ address aq now (nI c v r.cj now).1 aG c.key v.key v.bP).part c.key).err≠0 then⟨[],lv,Zu⟩
 else⟨(pF ⟨aq,r.client,r.time,c.d_,c.bP,[]⟩ (tg d.aJ r.client ⟨r.service,r.inst,d.aJ⟩ address aq now (nI c v r.cj now).1 aG c.key v.key v.bP).part c.key).val,
  { (tg d.aJ r.client ⟨r.service,r.inst,d.aJ⟩ address aq now (nI c v r.cj now).1 aG c.key v.key v.bP).iA with kind:=1 },Zm⟩
def Ip(d:Db)(dI:List mD)(now address:Int)(aq:Bool)(aG:Int)(r:iZ):sB :=
 if r.client.aJ≠d.aJ then⟨refuse r.client 8 now aq,lv,Zu⟩
 else if (o0 d r.client.name r.client.inst now).2≠0 then⟨refuse r.client (o0 d r.client.name r.client.inst now).2 now aq,lv,Zu⟩
 else if (DL d dI r.service r.inst now).err≠0 then⟨refuse r.client (DL d dI r.service r.inst now).err now aq,lv,Zu⟩
 else D9 d (gU d (o0 d r.client.name r.client.inst now).1) (DL d dI r.service r.inst now) r now address aq aG
def pP(d:Db)(dI:List mD)(now address:Int)(aq:Bool)(aG:Int)(msg:Bytes):sB :=
 if !(within now 4294967295&&within address 4294967295) then⟨[],lv,Zu⟩
 else if (fB msg).err≠0 then⟨Kt msg now aq,lv,Zu⟩
 else Ip d dI now address aq aG (fB msg).val
def mD.ok(c:mD):Prop:=c.source.length<=9223372036854775807/\c.target.length<=9223372036854775807/\m9 c.bP=Zm/\Bw c.key=Zm
structure Je where
 client:UInt8
 service:UInt8
 peer:UInt8
 time:UInt8
 cj:UInt8
 dI:UInt8
 aq:Bool
 how:Int
def Je.want(a:Je):aY:=if a.service.toNat % 5=4 then V' (aJ 0) (aJ (mY a.peer)) else Kerb.service (mY a.service % 3)
def Je.base(a:Je):Bytes:=(oK ⟨a.aq,user (mY a.client % 5),mY a.time,mY a.cj,a.want.name,a.want.inst⟩).val
def Je.msg(a:Je):Bytes :=
 if a.how % 8=7 then qG a.base (a.how / 8)
 else if a.how % 8=6/\0<a.base.length then a.base.set 0 (UInt8.ofNat (Int.toNat (IntKind.wrap .u8 (a.how / 8)))) else a.base
end Kerb
/- Chapter 23, plain: how long a ticket lasts, and who can open the answer. -/
namespace Kerb
open Go Go.Abs
namespace KAsk
end KAsk
end Kerb
namespace Kerb
open Go Go.Abs
structure abL (a:KAsk) (d:Db) (ad se:Int) (o:SQ) (R:jS) (Y:gj) (k:Int):Prop where
 dec:dD o.answer=⟨R,0⟩
 len:o.answer.length<=1000000
 code:R.code=0
 opens:(jX R.box 8 k).2=Zm
 says:bJ (jX R.box 8 k).1=⟨Y,0⟩
 Y5:Y.aG=se
 aeE:o.iA.aG=se
 acX:o.iA.mi=k
 time:Y.time=1000+mY a.time+1
 start:Y.start=1100
 stop:Y.stop=o.iA.stop
 most:o.iA.stop<=1000+mY a.time+mY a.stop*50
 client:o.iA.client=user (mY a.user % 3)
 kind:(o.iA.kind=3/\k=(gU d (jU d.entries o.iA.client.name o.iA.client.inst).1).key/\0<=(jU d.entries o.iA.client.name o.iA.client.inst).1/\(jU d.entries o.iA.client.name o.iA.client.inst).1<d.entries.length) \/
  (o.iA.kind=4/\k=aG (mY a.aG % 4)/\o.iA.stop<=1000+mY a.cD+300*(mY a.cj % 40+1)/\mY a.address % 2=ad/\o.iA.pZ=k)
end Kerb
/- The data of the statements of chapters 18 and 19: cases, servers, keys. -/
namespace Kerb
open Go Go.Abs
structure Case where
 client:UInt8
 other:UInt8
 service:UInt8
 aJ:UInt8
 aq:Bool
 turned:Bool
 gA:Bool
 address:UInt8
 src:UInt8
 cD:UInt8
 time:UInt8
 tick:UInt8
 cj:UInt8
 cO:Int
 key:UInt8
 bP:UInt8
 aG:UInt8
 aM:Int
 fA:Int
def Case.av(c:Case):AV := .agg [.u8 c.client,.u8 c.other,.u8 c.service,.u8 c.aJ,.bool c.aq,.bool c.turned,.bool c.gA,.u8 c.address,.u8 c.src,.u8 c.cD,.u8 c.time,.u8 c.tick,.u8 c.cj,.int .u32 c.cO,.u8 c.key,.u8 c.bP,.u8 c.aG,.int .u16 c.aM,.int .u16 c.fA]
def Ui(n:Int):Bool:=decide (0<=n)&&decide (n<=4294967295)
def Mk(n:Int):Bool:=decide (0<=n)&&decide (n<=65535)
def Case.ok(c:Case):Prop:=Ui c.cO=Zm/\Mk c.aM=Zm/\Mk c.fA=Zm
namespace Case
def who(c:Case):aY:=Kerb.user (mY c.client % 6)
def me(c:Case):aY:=Kerb.service (mY c.service % 6)
def Y5(c:Case):Int:=Kerb.aG (mY c.aG % 4)
def Vr(c:Case)(m:aY):dA :=
 ⟨c.turned,c.who,mY c.address % 3,c.Y5,mY c.cj / 4,1000+mY c.cD*8,m.name,if c.service.toNat % 7=6 then[111,116,104,101,114] else m.inst⟩
def au(c:Case):lK:=⟨if c.other.toNat % 8=7 then Kerb.user (mY c.other % 6) else c.who,c.cO,mY c.tick % 3,1000+mY c.time*8⟩
def x(c:Case)(m:aY)(k:Int):Bytes:=(fz (c.Vr m) k).val
def y(c:Case):Bytes:=(M8 c.au c.aq c.Y5).val
def SM(c:Case)(m:aY)(k v:Int):cQ :=
  ⟨if c.fA % 16=14 then !c.aq else c.aq,c.gA,if c.bP.toNat % 16=15 then v+1 else v,if c.aJ.toNat % 16=15 then[67,65,77] else m.aJ,
   if c.aM % 16=15 then qG (c.x m k) (c.aM / 16) else c.x m k,if c.fA % 16=15 then qG c.y (c.fA / 16) else c.y⟩
def msg(c:Case)(m:aY)(k v:Int):Bytes:=(cI (c.SM m k v)).val
def server(c:Case)(size eK:UInt8):Server :=
 ⟨c.me,[⟨c.me,1,qN 1⟩,⟨c.me,2,qN 2⟩,⟨Kerb.user 0,1,qN 9⟩],⟨1+mY size % 40,0,[]⟩,mY eK*4⟩
end Case
end Kerb
/- The statements of chapter 18, plain: what is accepted. -/
namespace Kerb
open Go Go.Abs
structure P5 (r:nH) (m:Mark) (now eK:Int):Prop where
 err:r.err=0
 name:m.client.valid=Zm
 tick:0<=m.tick/\m.tick<=199
 A4:A4 m.time now eK=Zm
 floor:r.floor<=m.time
 new:m ∉ r.marks
 room:(nQ r now eK).length<r.size
 is:mq r m now eK=⟨⟨r.size,imax r.floor (now-eK),nQ r now eK++[m]⟩,0⟩
theorem EJ{l:List Mark}{m:Mark}:ve l m=Zm↔m∈l:=by
 unfold ve;rw[List.any_eq_true];constructor
 ·rintro⟨x,hx,he⟩;rw[<-Mark.oq.1 he];exact hx
 ·intro h;exact⟨m,h,Mark.oq.2 rfl⟩
theorem added{r:nH}{m:Mark}{now eK:Int}(h:(mq r m now eK).err=0):P5 r m now eK:=by
 unfold mq at h;by_cases h1:r.err=0;case neg=>rw[Qa1 h1] at h;cases h
 rw[Qa0 (by simpa using h1)] at h;by_cases h2:m.client.valid=Zm;case neg=>rw[Qa1 (by simpa using h2)] at h;cases h
 rw[Qa0 (by simp[h2])] at h;by_cases h3:within m.tick 199=Zm;case neg=>rw[Qa1 (by simpa using h3)] at h;cases h
 rw[Qa0 (by simp[h3])] at h;by_cases h4:A4 m.time now eK=Zu\/m.time<r.floor
 ·rw[Qa1 h4] at h;cases h
 rw[Qa0 h4] at h;by_cases h5:ve r.marks m=Zm
 ·rw[Qa1 h5] at h;cases h
 rw[Qa0 h5] at h;by_cases h6:r.size<=(nQ r now eK).length
 ·rw[Qa1 h6] at h;cases h
 refine⟨h1,h2,within_iff.1 h3,?_,by omega,fun hm=>h5 (EJ.2 hm),by omega,?_⟩
 ·cases hn:A4 m.time now eK
  ·exact absurd (.inl hn) h4
  ·rfl
 ·unfold mq;rw[Qa0 (by simpa using h1),Qa0 (by simp[h2]),Qa0 (by simp[h3]),Qa0 h4,Qa0 h5,Qa0 h6]
structure SR (s:Server) (r:cQ) (src now:Int) (t:dA) (a:lK):Prop where
 err:s.err=0
 aJ:r.aJ=s.me.aJ
 found:(jH s.keys s.me r.bP).2=Zm
 Vr:fw r.aM (jH s.keys s.me r.bP).1=⟨t,0⟩
 us:sT t s.me.aJ=s.me
 fA:rQ r.fA r.aq t.aG=⟨a,0⟩
 client:t.client=a.client
 from_:src=t.address
 A4:A4 a.time now s.eK=Zm
 state:GA t.cD t.cj now s.eK=0
 add:P5 s.replay (tX a) now s.eK
 is:verify s r src now=⟨⟨s.me,s.keys,(mq s.replay (tX a) now s.eK).val,s.eK⟩,⟨t.client,t.aG,t.address,a.cO,a.time,a.tick,t.cD,t.cj,r.aM,r.fA⟩,0⟩
theorem Iw{α:Type}(d:DU α)(h:d.err=0):d=⟨d.val,0⟩:=by cases d;simp at h;rw[h]
theorem taken{s:Server}{r:cQ}{src now:Int}(h:(verify s r src now).err=0):∃ t a,SR s r src now t a:=by
 have h0:=h;unfold verify at h;by_cases h1:s.err=0;case neg=>rw[Qa1 h1] at h;cases h
 rw[Qa0 (by simpa using h1)] at h;by_cases h2:(dh s r).err=0;case neg=>rw[Qa1 h2] at h;exact absurd h h2
 rw[Qa0 (by simpa using h2)] at h;by_cases h3:IM (dh s r).aM (dh s r).fA src now s.eK=0;case neg=>rw[Qa1 h3] at h;exact absurd h h3
 rw[Qa0 (by simpa using h3)] at h;by_cases h4:(mq s.replay (tX (dh s r).fA) now s.eK).err=0;case neg=>rw[Qa1 h4] at h;exact absurd h h4
 have hv:verify s r src now=⟨⟨s.me,s.keys,(mq s.replay (tX (dh s r).fA) now s.eK).val,s.eK⟩,⟨(dh s r).aM.client,(dh s r).aM.aG,(dh s r).aM.address,(dh s r).fA.cO,(dh s r).fA.time,(dh s r).fA.tick,(dh s r).aM.cD,(dh s r).aM.cj,r.aM,r.fA⟩,0⟩:=by
  unfold verify;rw[Qa0 (by simpa using h1),Qa0 (by simpa using h2),Qa0 (by simpa using h3),Qa0 (by simpa using h4)]
 have ho:∃ t a,r.aJ=s.me.aJ/\(jH s.keys s.me r.bP).2=Zm/\fw r.aM (jH s.keys s.me r.bP).1=⟨t,0⟩/\sT t s.me.aJ=s.me/\rQ r.fA r.aq t.aG=⟨a,0⟩/\dh s r=⟨t,a,0⟩:=by
  unfold dh at h2 ⊢;by_cases g1:r.aJ=s.me.aJ;case neg=>rw[Qa1 g1] at h2;cases h2
  rw[Qa0 (by simpa using g1)] at h2 ⊢;by_cases g2:(jH s.keys s.me r.bP).2=Zu
  ·rw[Qa1 g2] at h2;cases h2
  rw[Qa0 g2] at h2 ⊢;by_cases g3:(fw r.aM (jH s.keys s.me r.bP).1).err=7
  ·rw[Qa1 g3] at h2;cases h2
  rw[Qa0 g3] at h2 ⊢;by_cases g4:(fw r.aM (jH s.keys s.me r.bP).1).err=0;case neg=>rw[Qa1 g4] at h2;cases h2
  rw[Qa0 (by simpa using g4)] at h2 ⊢;by_cases g5:(sT (fw r.aM (jH s.keys s.me r.bP).1).val s.me.aJ).qt s.me=Zu
  ·rw[Qa1 g5] at h2;cases h2
  rw[Qa0 g5] at h2 ⊢;by_cases g6:(rQ r.fA r.aq (fw r.aM (jH s.keys s.me r.bP).1).val.aG).err=0;case neg=>rw[Qa1 g6] at h2;cases h2
  rw[Qa0 (by simpa using g6)];exact⟨_,_,g1,by simpa using g2,Iw _ g4,aY.oq.1 (by simpa using g5),Iw _ g6,rfl⟩
 obtain⟨t,a,o1,o2,o3,o4,o5,o6⟩:=ho;rw[o6] at h3 h4 hv;dsimp only at h3 h4 hv;unfold IM at h3;by_cases j1:t.client.qt a.client=Zu
 ·rw[Qa1 j1] at h3;cases h3
 rw[Qa0 j1] at h3;by_cases j2:src=t.address;case neg=>rw[Qa1 j2] at h3;cases h3
 rw[Qa0 (by simpa using j2)] at h3;by_cases j3:A4 a.time now s.eK=Zu
 ·rw[Qa1 j3] at h3;cases h3
 rw[Qa0 j3] at h3;exact⟨t,a,h1,o1,o2,o3,o4,o5,aY.oq.1 (by simpa using j1),j2,by simpa using j3,h3,added h4,hv⟩
namespace Case
end Case
theorem yB{a:lK}{l:Bool}:(gL a l).val.length<=150:=by
 unfold gL;split
 ·simp
 rename_i h;have hv:a.client.valid=Zm:=by
  unfold lK.check at h;cases hv:a.client.valid
  ·rw[hv,Qa1 (by rfl)] at h;simp at h
  ·rfl
 simp only[aY.valid,Zy,validName,bO,cY,Qa2] at hv;have:=sK (cZ (aS (cond l 1 0) 1 Zu) a.client++aS a.cO 4 l++aS a.tick 1 Zu++aS a.time 4 l);simp only[this,Zd,ai,af];omega
structure Reached (s:Server):Prop where
 err:s.err=0
 keys:∀ c∈s.keys,c.ok
 marks:∀ c∈s.replay.marks,c.ok
 name:s.me.name.length<=9223372036854775807/\s.me.inst.length<=9223372036854775807/\s.me.aJ.length<=9223372036854775807
 lens:s.keys.length<=1000000/\s.replay.marks.length<=1000000
theorem Lh(r:cQ):(cI r).val.length<=600:=by
 by_cases h:(cI r).err=0
 ·obtain⟨h1,⟨h2,_⟩,_,h3,h4⟩:=Lg h;have hh:(header (cond r.gA 4 3) r.aq).length=2:=by cases r.gA<;>cases r.aq<;>rfl
  rw[h1];simp only[Zd,Zj,List.length_nil,af,hh];omega
 ·unfold cI at h ⊢;split
  ·simp
  rename_i g1;rw[Qa0 g1] at h;split
  ·simp
  rename_i g2;rw[Qa0 g2] at h;split
  ·simp
  rename_i g3;rw[Qa0 g3] at h;exact absurd rfl h
structure Fits (s:Server) (V:D2) (r:cQ) (src now:Int):Prop where
 err:V.err=0
 t1:V.a.time-now<=s.eK
 t2:now-V.a.time<=s.eK
 t3:V.a.cD-s.eK<=now
 t4:now<=V.a.cD+300*(V.a.cj+1)+s.eK
 b1:0<=V.a.time/\V.a.time<=4294967295
 b2:0<=V.a.cD/\V.a.cD<=4294967295
 b3:0<=V.a.cj/\V.a.cj<=255
 b4:0<=s.eK/\s.eK<=4294967295
 b5:0<=now/\now<=4294967295
 src:V.a.address=src
 aM:V.a.aM=r.aM
 fA:V.a.fA=r.fA
 more:V.s.replay.marks.length<=s.replay.marks.length+1
 most:(V.s.replay.marks.length:Int)<=V.s.replay.size
 size:V.s.replay.size=s.replay.size
 ok:V.s.err=0
structure abV (s:Server):Prop where
 keys:∀ c∈s.keys,c.ok
 marks:∀ c∈s.replay.marks,c.ok
 name:s.me.name.length<=9223372036854775807/\s.me.inst.length<=9223372036854775807/\s.me.aJ.length<=9223372036854775807
 lens:s.keys.length<=1000000/\s.replay.marks.length<=1000000
end Kerb
/- The statements of chapter 17, plain. -/
namespace Kerb
open Go Go.Abs
def mD.LG(c:mD):Prop:=bp c.key=Zm/\within c.bP 255=Zm/\Bw c.key=Zm
structure QL (d:Db) (dI:List mD) (now address:Int) (aq:Bool) (se:Int) (msg:Bytes) (A:sB) (r:iZ) (i:Int) (L:Int):Prop where
 aeR:within now 4294967295=Zm
 adr:within address 4294967295=Zm
 SM:fB msg=⟨r,0⟩
 aJ:r.client.aJ=d.aJ
 client:o0 d r.client.name r.client.inst now=(i,0)
 aeZ:(DL d dI r.service r.inst now).err=0
 cj:nI (gU d i) (DL d dI r.service r.inst now) r.cj now=(L,Zm)
 WT:gx se=2
 gr:(tg d.aJ r.client ⟨r.service,r.inst,d.aJ⟩ address aq now L se (gU d i).key (DL d dI r.service r.inst now).key (DL d dI r.service r.inst now).bP).err=0
 sl:(pF ⟨aq,r.client,r.time,(gU d i).d_,(gU d i).bP,[]⟩ (tg d.aJ r.client ⟨r.service,r.inst,d.aJ⟩ address aq now L se (gU d i).key (DL d dI r.service r.inst now).key (DL d dI r.service r.inst now).bP).part (gU d i).key).err=0
 is:A=⟨(pF ⟨aq,r.client,r.time,(gU d i).d_,(gU d i).bP,[]⟩ (tg d.aJ r.client ⟨r.service,r.inst,d.aJ⟩ address aq now L se (gU d i).key (DL d dI r.service r.inst now).key (DL d dI r.service r.inst now).bP).part (gU d i).key).val,
  { (tg d.aJ r.client ⟨r.service,r.inst,d.aJ⟩ address aq now L se (gU d i).key (DL d dI r.service r.inst now).key (DL d dI r.service r.inst now).bP).iA with kind:=1 },Zm⟩
theorem cD{d:Db}{dI:List mD}{now address:Int}{aq:Bool}{se:Int}{msg:Bytes}(h:(pP d dI now address aq se msg).ok=Zm):∃ r i L,QL d dI now address aq se msg (pP d dI now address aq se msg) r i L:=by
 obtain⟨A,hA⟩:∃ A,pP d dI now address aq se msg=A:=⟨_,rfl⟩;rw[hA] at h ⊢;unfold pP at hA;by_cases h1:(within now 4294967295&&within address 4294967295)=Zm;case neg=>rw[Qa1 (by simp only[Bool.not_eq_true] at h1;rw[h1];rfl)] at hA;subst hA;cases h
 rw[Qa0 (by rw[h1];simp)] at hA;by_cases h2:(fB msg).err=0;case neg=>rw[Qa1 h2] at hA;subst hA;cases h
 rw[Qa0 (by simpa using h2)] at hA;obtain⟨r,hr⟩:∃ r,(fB msg).val=r:=⟨_,rfl⟩;have Yi:fB msg=⟨r,0⟩:=by cases hd:fB msg;rw[hd] at h2 hr;simp at h2 hr;rw[h2,hr]
 rw[hr] at hA;unfold Ip at hA;by_cases h3:r.client.aJ=d.aJ;case neg=>rw[Qa1 h3] at hA;subst hA;cases h
 rw[Qa0 (by simpa using h3)] at hA;obtain⟨⟨i,e⟩,hi⟩:∃ i,o0 d r.client.name r.client.inst now=i:=⟨_,rfl⟩;rw[hi] at hA;dsimp only at hA;by_cases h4:e=0;case neg=>rw[Qa1 h4] at hA;subst hA;cases h
 subst h4;rw[Qa0 (by simp)] at hA;by_cases h5:(DL d dI r.service r.inst now).err=0;case neg=>rw[Qa1 h5] at hA;subst hA;cases h
 rw[Qa0 (by simpa using h5)] at hA;unfold D9 at hA;obtain⟨⟨L,q⟩,hL⟩:∃ L,nI (gU d i) (DL d dI r.service r.inst now) r.cj now=L:=⟨_,rfl⟩;rw[hL] at hA;dsimp only at hA;cases q
 ·rw[Qa1 rfl] at hA;subst hA;cases h
 rw[Qa0 (by simp)] at hA;by_cases h6:gx se=2;case neg=>rw[Qa1 h6] at hA;subst hA;cases h
 rw[Qa0 (by simpa using h6)] at hA;by_cases h7:(tg d.aJ r.client ⟨r.service,r.inst,d.aJ⟩ address aq now L se (gU d i).key (DL d dI r.service r.inst now).key (DL d dI r.service r.inst now).bP).err=0;case neg=>rw[Qa1 h7] at hA;subst hA;cases h
 rw[Qa0 (by simpa using h7)] at hA;by_cases h8:(pF ⟨aq,r.client,r.time,(gU d i).d_,(gU d i).bP,[]⟩ (tg d.aJ r.client ⟨r.service,r.inst,d.aJ⟩ address aq now L se (gU d i).key (DL d dI r.service r.inst now).key (DL d dI r.service r.inst now).bP).part (gU d i).key).err=0;case neg=>rw[Qa1 h8] at hA;subst hA;cases h
 rw[Qa0 (by simpa using h8)] at hA;rw[Zy] at h1;exact⟨r,i,L,h1.1,h1.2,Yi,h3,hi,h5,hL,h6,h7,h8,hA.symm⟩
structure WA (d:Db) (now ad se:Int) (A:sB) (r:iZ) (i j:Int) (Y:mE) (body:Bytes) (P:gG) (T:dA):Prop where
 f1:jU d.entries r.client.name r.client.inst=(i,0)
 f2:jU d.entries r.service r.inst=(j,0)
 i0:0<=i/\i.toNat<d.entries.length
 j0:0<=j/\j.toNat<d.entries.length
 UH:bK A.answer=⟨Y,0⟩
 client:Y.client=r.client
 time:Y.time=r.time
 box:jX Y.io 3 (gU d i).key=(body,Zm)
 part:ca body Y.aq=⟨P,0⟩
 Vr:fw P.aM (gU d j).key=⟨T,0⟩
 text:P.aM=A.iA.text
 t1:T.client=r.client
 t2:T.aG=se
 t3:P.aG=se
 t4:A.iA.aG=se
 t5:T.address=ad
 t6:T.service=r.service
 t7:T.inst=r.inst
 t8:T.cD=now
 t9:A.iA.mi=(gU d i).key
 e1:(0<(gU d i).d_->A.iA.stop<=(gU d i).d_)/\T.cj<=(gU d i).lq
 e2:(0<(gU d j).d_->A.iA.stop<=(gU d j).d_)/\T.cj<=(gU d j).lq
 e3:T.cj<=r.cj
 e4:A.iA.stop=now+300*(T.cj+1)
 e5:0<=T.cj/\T.cj<=255
 lens:A.answer.length<=140737488355328/\Y.io.length<=140737488355328/\body.length<=140737488355328/\P.aM.length<=140737488355328
end Kerb
/- Chapter 19: ticket-granting servers. -/
namespace Kerb
open Go Go.Abs
def xv:ft:=⟨A5,0,0,[],[]⟩
def sO(b:Bytes)(li:Bool):ft :=
 let a:=lE b
 let t:=get b a.next 4 li
 let l:=get b t.next 1 Zu
 let s:=text b l.next
 ⟨a.val,t.val,l.val,s.val,(text b s.next).val⟩
def dr(b:Bytes):DU ft :=
 if (bc b [3]).2≠0 then⟨xv,(bc b [3]).2⟩ else iy xv dN (fun b=>(sO b (bc b [3]).1,Zu)) b
theorem OB{r:ft}(h:(dN r).err=0):(cI r.ap).err=0/\r.ap.gA=Zu/\(dN r).val=(cI r.ap).val++(aS r.time 4 r.ap.aq++(aS r.cj 1 Zu++(r.service++0::(r.inst++0::[])))) /\
  (0<=r.time/\r.time<=4294967295)/\(0<=r.cj/\r.cj<=255)/\(r.service.length<=39/\(0:UInt8) ∉ r.service)/\r.inst.length<=39/\(0:UInt8) ∉ r.inst:=by
 unfold dN at h ⊢;by_cases h0:r.ap.gA=Zm
 ·rw[Qa1 h0] at h;cases h
 rw[Qa0 h0] at h ⊢;by_cases h1:(cI r.ap).err=0;case neg=>rw[Qa1 h1] at h;exact absurd h h1
 rw[Qa0 (by simpa using h1)] at h ⊢;by_cases h2:(validName r.service&&bO r.inst)=Zm;case neg=>rw[Qa1 (by rw[Bool.not_eq_true] at h2;rw[h2];rfl)] at h;cases h
 rw[Qa0 (by simp[h2])] at h ⊢;by_cases h3:(within r.time 4294967295&&within r.cj 255)=Zm;case neg=>rw[Qa1 (by rw[Bool.not_eq_true] at h3;rw[h3];rfl)] at h;cases h
 rw[Qa0 (by simp[h3])];rw[Zy] at h2 h3;have ok:∀ {s:Bytes},bO s=Zm->s.length<=39/\(0:UInt8) ∉ s:=fun {s} h=>by
  simp only[bO,Zy,Qa2] at h;exact⟨h.1,fun hm=>by
   have:=h.2;simp only[dO,Zf] at this;exact absurd (this 0 hm) (by decide)⟩
 have hn:r.service.length<=39/\(0:UInt8) ∉ r.service:=by
  have h:=h2.1;simp only[validName,Zy,Qa2] at h;exact⟨by omega,fun hm=>by
   have:=h.2;simp only[dO,Zf] at this;exact absurd (this 0 hm) (by decide)⟩
 refine⟨h1,by simpa using h0,?_,within_iff.1 h3.1,within_iff.1 h3.2,hn,ok h2.2⟩;unfold bg;simp only[List.append_assoc,List.singleton_append,List.cons_append,List.nil_append,List.append_nil]
theorem zP(b:Bytes)(li:Bool):(sO b li).ap.aJ.length<=9223372036854775807/\(sO b li).service.length<=9223372036854775807/\(sO b li).inst.length<=9223372036854775807:=by
 have h:∀ q,(text b q).val.length<=9223372036854775807:=fun q=>by have:=jo b q;omega
 exact⟨h _,h _,h _⟩
theorem CA(b:Bytes):((dr b).val.ap.aJ.length<=9223372036854775807/\(dr b).val.service.length<=9223372036854775807/\(dr b).val.inst.length<=9223372036854775807)/\(dr b).val.ap.aM.length<=255/\(dr b).val.ap.fA.length<=255:=by
 have h0:(xv.ap.aJ.length<=9223372036854775807/\xv.service.length<=9223372036854775807/\xv.inst.length<=9223372036854775807)/\xv.ap.aM.length<=255/\xv.ap.fA.length<=255:=by decide
 unfold dr;split
 ·exact h0
 unfold iy;split
 ·exact h0
 ·rename_i h;have he:(dN (sO b (bc b [3]).1)).err=0:=Decidable.byContradiction fun q=>h (.inr (.inl q));obtain⟨_,_,_,h1,h2⟩:=Lg (OB he).1;exact⟨zP _ _,h1,h2⟩
structure WC where
 s:Server
 out:sB
namespace Case
def Su(c:Case)(m:aY)(k v time cj:Int)(sv:aY):ft:=⟨{ c.SM m k v with gA:=Zu },time,cj,sv.name,sv.inst⟩
def Ss(c:Case)(m:aY)(k v time cj:Int)(sv:aY):Bytes:=(dN (c.Su m k v time cj sv)).val
end Case
structure xL where
 jL:Case
 src:UInt8
 to:UInt8
 peer:UInt8
 cj:UInt8
 now:UInt8
 bP:UInt8
 how:Int
def xL.key(a:xL)(dI:List mD):n_ :=
 if a.src.toNat % 3=2/\0<dI.length then⟨⟨zj,aJ 0,(dI.getD (a.bP.toNat % dI.length) nj).source⟩,(dI.getD (a.bP.toNat % dI.length) nj).bP,(dI.getD (a.bP.toNat % dI.length) nj).key⟩
 else⟨⟨zj,aJ 0,aJ 0⟩,6,qN 3⟩
def xL.want(a:xL):aY:=if a.to.toNat % 5=4 then⟨zj,aJ (mY a.peer),aJ 0⟩ else Kerb.service (mY a.to % 3)
def xL.base(a:xL)(dI:List mD):Bytes:=a.jL.Ss (a.key dI).service (a.key dI).key (a.key dI).bP 5 (mY a.cj) a.want
def xL.msg(a:xL)(dI:List mD):Bytes:=if a.how % 8=7 then qG (a.base dI) (a.how / 8) else a.base dI
def xL.av(q:xL):AV := .agg [.u8 q.jL.client,.u8 q.jL.other,.u8 q.jL.service,.u8 q.jL.aJ,.bool q.jL.aq,.bool q.jL.turned,.bool q.jL.gA,.u8 q.jL.address,.u8 q.jL.src,.u8 q.jL.cD,.u8 q.jL.time,.u8 q.jL.tick,.u8 q.jL.cj,.int .u32 q.jL.cO,.u8 q.jL.key,.u8 q.jL.bP,.u8 q.jL.aG,.int .u16 q.jL.aM,.int .u16 q.jL.fA,.u8 q.src,.u8 q.to,.u8 q.peer,.u8 q.cj,.u8 q.now,.u8 q.bP,.int .u16 q.how]
def xL.ok(q:xL):Prop:=q.jL.ok/\Mk q.how=Zm
theorem Jw{r:ft}(h:(dN r).err≠0):(dN r).val=[]:=by grind [dN]
theorem P1(r:ft):(dN r).val.length<=800:=by
 by_cases h:(dN r).err=0
 ·obtain⟨h1,h2,h3,h4,h5,h6,h7⟩:=OB h;rw[h3];have:=Lh r.ap;simp only[Zd,Zj,List.length_nil,af];omega
 ·rw[Jw h];simp
end Kerb
/- Chapter 28: when two texts are the same ticket. -/
namespace Kerb
open Go Go.Abs
def ow(b:Bytes):Bool:=(a_ b).err==0&&(a_ b).n==(b.length:Int)
end Kerb
/- Chapter 27: what an adversary can know, in plain words. -/
namespace Kerb
open Go Go.Abs
def cV(l:List Int):List AV:=l.map (AV.int .u64)
def cF(l:List Bytes):List AV:=l.map AV.bs
def DM:AV->Bytes
 | .bs b=>b
 | _=>[]
def lH(els:List AV):List Bytes:=els.map DM
def Uh:AV->Bool
 | .bs _=>Zm
 | _=>Zu
def oY(els:List AV):Bool:=els.all Uh
theorem mV(l:List Int):iM (cV l)=l:=by simp[iM,cV,Function.comp_def]
theorem mn(l:List Bytes):lH (cF l)=l:=by simp[lH,cF,Function.comp_def,DM]
theorem qm(l:List Int):dB (cV l)=Zm:=by simp[dB,cV]
theorem yi(l:List Bytes):oY (cF l)=Zm:=by simp[oY,cF,Uh]
theorem ef(l:List Int):(cV l).length=l.length:=by simp[cV]
theorem c4(l:List Bytes):(cF l).length=l.length:=by simp[cF]
theorem Dj{els:List AV}(h:dB els=Zm):∃ ks,els=cV ks:=⟨iM els,by
 have:=D_ h;simpa [back,cE,cV] using this.symm⟩
theorem HE{els:List AV}(h:oY els=Zm):∃ bs,els=cF bs:=⟨lH els,by
 unfold lH cF;rw[List.map_map];conv=>lhs;rw[<-List.map_id els]
 apply List.map_congr_left;intro a ha;simp only[oY,Zf] at h;have:=h a ha;cases a<;>first | (cases this;done) | rfl⟩
theorem jZ{l:List Int}{i:Nat}(h:i<l.length):(cV l).getD i .undef = .int .u64 (l.getD i 0):=by
 simp[cV,List.getD,h]
theorem jY{l:List Bytes}{i:Nat}(h:i<l.length):(cF l).getD i .undef = .bs (l.getD i []):=by
 simp[cF,List.getD,h]
def sW:List Int->Bool
 | x::y::r=>decide (x<y)&&sW (y::r)
 | _=>Zm
def mJ:List Int->Int->List Int
 | [],k=>[k]
 | x::r,k=>bif decide (x<k) then x::mJ r k else bif x==k then x::r else k::x::r
theorem zc{k y:Int}:∀ {l:List Int},y∈mJ l k↔y=k\/y∈l
 | []=>by simp[mJ]
 | x::r=>by
  unfold mJ;cases h1:decide (x<k) with
  | true=>simp only[Qa5,Zw,zc (l:=r)];exact or_left_comm
  | false =>
   cases h2:x==k with
   | true =>
    have e:=Qa9 h2;subst e;simp only[Qa6,Qa5,Zw];exact⟨fun h => .inr h,fun h=>h.elim .inl id⟩
   | false=>simp only[Qa6,Zw]
theorem uI{x:Int}{l:List Int}(h:sW (x::l)=Zm):sW l=Zm:=by
 cases l with
 | nil=>rfl
 | cons y r=>simp only[sW,Zy] at h;exact h.2
theorem mH{x:Int}:∀ {l:List Int},sW (x::l)=Zm->∀ y∈l,x<y
 | [],_,y,hy=>by cases hy
 | z::r,h,y,hy=>by
  simp only[sW,Zy,Qa2] at h;rcases Zw.1 hy with rfl | hy
  ·exact h.1
  ·have:=mH h.2 y hy;omega
theorem D8{x:Int}{l:List Int}(h:sW l=Zm)(hx:∀ y∈l,x<y):sW (x::l)=Zm:=by
 cases l with
 | nil=>rfl
 | cons y r=>simp only[sW,Zy,Qa2];exact⟨hx y (by simp),h⟩
theorem uH{k:Int}:∀ {l:List Int},sW l=Zm->sW (mJ l k)=Zm
 | [],_=>rfl
 | x::r,h=>by
  unfold mJ;cases h1:decide (x<k) with
  | true =>
   simp only[Qa5];have hx:x<k:=Qa3 h1;refine D8 (uH (uI h)) fun y hy=> ?_;rcases zc.1 hy with rfl | hy
   ·exact hx
   ·exact mH h y hy
  | false =>
   cases h2:x==k with
   | true=>exact h
   | false =>
    simp only[Qa6];have hx:¬ x<k:=of_decide_eq_false h1;have hk:k<x:=by
     have:x≠k:=by intro e;subst e;simp at h2
     omega
    refine D8 h fun y hy=> ?_;rcases Zw.1 hy with rfl | hy
    ·exact hk
    ·have:=mH h y hy;omega
theorem wK{k:Int}:∀ {l:List Int},k ∉ l->(mJ l k).Perm (l++[k])
 | [],_ => .refl _
 | x::r,h=>by
  unfold mJ;cases h1:decide (x<k) with
  | true =>
   simp only[Qa5,List.cons_append];exact List.Perm.cons _ (wK fun hm=>h (Zv _ hm))
  | false =>
   cases h2:x==k with
   | true=>exact absurd (by rw[Qa9 h2];simp) h
   | false =>
    simp only[Qa6];exact(List.perm_append_singleton k (x::r)).symm
theorem E1{k:Int}{l:List Int}(h:k ∉ l):(mJ l k).length=l.length+1:=by
 rw[(wK h).length_eq];simp
theorem Cq:∀ {l:List Int},sW l=Zm->∀ {i j:Nat},i<j->(hj:j<l.length)->l[i]! < l[j]!
 | [],_,i,j,_,hj=>by simp at hj
 | x::r,h,i,j,OQ,hj=>by
  cases j with
  | zero=>omega
  | succ j =>
   have GM:j<r.length:=by simpa using hj
   cases i with
   | zero =>
    have:=mH h (r[j]!) (by rw[getElem!_pos r j GM];exact List.getElem_mem GM);simpa using this
   | succ i =>
    have:=Cq (uI h) (i:=i) (j:=j) (by omega) GM;simpa using this
theorem Lb{l:List Int}{k:Int}(h:sW l=Zm)(hk:k ∉ l):AH (cV l) k=cV (mJ l k):=by
 unfold AH xG back cV;congr 1;have e0:cE (l.map (AV.int .u64)++[.int .u64 k])=(l++[k]).toArray:=by simp[cE,iM,Function.comp_def]
 rw[e0,Go.Sort.sortInt (l++[k])];have hu:=Go.Sort.sorted_unique_holds Go.Sort.swo_ltInt (fun x y h1 h2=>by simp only[Go.Sort.ltInt,decide_eq_false_iff_not] at h1 h2;omega) (l++[k]).toArray (mJ l k).toArray;have hp:=wK hk;have hl:=E1 hk;have:=hu ⟨by simp[hl],fun i hi=>by
   have h1:¬ i<(mJ l k).length:=by rw[hl];simp at hi;omega
   have h2:¬ i<(l++[k]).length:=by simp at hi ⊢;omega
   simp[Array.getElem!_eq_getD,Array.getD,h1,h2];intro hh;simp at h2;omega,by
   have g1:(mJ l k).toArray.extract 0 (l++[k]).toArray.size=(mJ l k).toArray:=by apply Array.extract_eq_self_of_le;simp[hl]
   have g2:(l++[k]).toArray.extract 0 (l++[k]).toArray.size=(l++[k]).toArray:=by apply Array.extract_eq_self_of_le;simp
   rw[g1,g2];exact hp⟩ (fun i j _ OQ hj=>by
   simp only[Go.Sort.ltInt,decide_eq_false_iff_not];have GM:j<(mJ l k).length:=by rw[hl];simpa using hj
   have:=Cq (uH (k:=k) h) OQ GM;simp only[List.getElem!_toArray];omega)
 rw[show(mJ l k)=(mJ l k).toArray.toList from rfl,this];simp only[Go.Sort.ltInt];congr 1;funext x y;by_cases V3:x<=y
 ·have h':¬ y<x:=by omega
  simp[V3,h']
 ·have h':y<x:=by omega
  simp[V3,h']
theorem Li{l:List Int}(h:sW l=Zm):Jj (cV l)=Zm:=by
 simp only[Jj,Zf,List.mem_range,ef,Qa2];intro i hi;have e:=Cq h (i:=i) (j:=i+1) (by omega) (by omega);have h1:i<l.length:=by omega
 have h2:i+1<l.length:=by omega
 simp only[num,jZ h1,jZ h2];simpa [List.getD,h1,h2,getElem!_pos] using e
end Kerb
/- Chapter 27: the boxes of a message, what is in a box, the closure of knowledge. -/
namespace Kerb
open Go Go.Abs
def gH(l:List Bytes):List Bytes:=l.filter ow
def cq(l:List Int):List Int:=l.filter bp
def n6(b:Bytes):List Bytes :=
 if (bK b).err=0 then[(bK b).val.io]
 else if (fU b).err=0 then[(fU b).val.aM,(fU b).val.fA]
 else if (dr b).err=0 then[(dr b).val.ap.aM,(dr b).val.ap.fA]
 else if (ju b).err=0 then[(ju b).val]
 else if (im b).err=0 then[(im b).io]
 else if (bu b).err=0 then[(bu b).val.aM,(bu b).val.box]
 else if (dD b).err=0 then[(dD b).val.box]
 else if (fu b).err=0 then[(fu b).val.box] else[]
def partsOf(b:Bytes):List Bytes:=gH (n6 b)
structure DX where
 keys:List Int
 boxes:List Bytes
def Bv(b:Bytes)(li:Bool):DX:=⟨cq [(ca b li).val.aG],gH [(ca b li).val.aM]⟩
def k9(x:VD):DX :=
 if x.kind=1 then(if (cA x.body).err=0 then⟨cq [(cA x.body).val.aG],[]⟩ else⟨[],[]⟩)
 else if x.kind=3 then(if (ca x.body Zu).err=0 then Bv x.body Zu else if (ca x.body Zm).err=0 then Bv x.body Zm else⟨[],[]⟩)
 else if x.kind=7 then(if (dS x.body).err=0 then⟨cq [(dS x.body).val.new],[]⟩ else⟨[],[]⟩)
 else if x.kind=8 then(if (bJ x.body).err=0 then⟨cq [(bJ x.body).val.aG],gH [(bJ x.body).val.aM]⟩ else⟨[],[]⟩)
 else if x.kind=9 then(if (dT x.body).err=0 then⟨cq [(dT x.body).val.aG],[]⟩ else⟨[],[]⟩)
 else if x.kind=10 then(if (dp x.body).err=0 then⟨cq [(dp x.body).val.aG],gH [(dp x.body).val.record]⟩ else⟨[],[]⟩)
 else⟨[],[]⟩
structure Kn where
 keys:List Int
 boxes:List Bytes
def gT(K:List Int)(l:List Int):List Int:=l.foldl (fun K k=>bif K.contains k then K else mJ K k) K
def eF(B:List Bytes)(l:List Bytes):List Bytes:=l.foldl (fun B b=>bif B.contains b then B else B++[b]) B
def Kn.add(s:Kn)(x:DX):Kn:=⟨gT s.keys x.keys,eF s.boxes x.boxes⟩
def Kn.has(s:Kn)(x:DX):Bool:=x.keys.all (fun k=>s.keys.contains k)&&x.boxes.all fun b=>s.boxes.contains b
def ci(b:Bytes):DX:=k9 (a_ b).box
def Kn.done(s:Kn)(b:Bytes):Bool := !((a_ b).err==0)||s.has (ci b)
def Kn.opens(s:Kn)(b:Bytes):Bool:=(a_ b).err==0&&s.keys.contains (a_ b).box.key && !s.has (ci b)
def Kn.next(s:Kn):Option Bytes:=s.boxes.find? s.opens
def oH:Nat->Kn->Kn
 | 0,s=>s
 | n+1,s=>match s.next with
  | some b=>oH n (s.add (ci b))
  | none=>s
def Ar(s:Kn):Nat:=((s.boxes.filter fun b => !s.done b).map List.length).sum
def lS(s:Kn):Nat:=s.keys.length+s.boxes.length+Ar s
def close(s:Kn):Kn:=oH (lS s) s
def learn(s:Kn)(m:Bytes):Kn:=close (s.add ⟨[],partsOf m⟩)
def leak(s:Kn)(k:Int):Kn:=close (s.add ⟨cq [k],[]⟩)
def jc:Nat->Kn->Bytes->Bool
 | 0,_,_=>Zu
 | n+1,s,b=>s.boxes.contains b||(ow b&&s.keys.contains (a_ b).box.key&&(ci b).keys.all (fun k=>s.keys.contains k)&&(ci b).boxes.all fun b=>jc n s b)
def dQ(s:Kn)(b:Bytes):Bool:=jc (b.length+1) s b
def Cu(s:Kn)(m:Bytes):Bool:=(partsOf m).all (dQ s)
theorem oF(k:Int):(cq [k]).length<=1:=List.length_filter_le _ _
theorem Ea(b:Bytes):(gH [b]).length<=1:=List.length_filter_le _ _
theorem qY{l:List Bytes}{b:Bytes}(h:b∈gH l):b∈l/\ow b=Zm:=List.mem_filter.1 h
theorem Eb{a b:Bytes}(h:b∈gH [a]):b=a:=by simpa using (qY h).1
theorem tb(b:Bytes)(li:Bool):(ca b li).val.aM.length<=b.length:=by
 unfold ca;split
 ·exact Zz _
 ·exact jt _ _ _
theorem iF{α:Type}{no:α}{enc:α->lW}{rd:Bytes->α×Bool}{b:Bytes}(P:α->Prop)(h1:P no)(h2:P (rd b).1):P (iy no enc rd b).val:=by
 unfold iy;split
 ·exact h1
 ·exact h2
theorem PI(b:Bytes):(HH b).val.aM.length<=b.length:=by
 unfold HH;dsimp only;cases dL (dw b 4 0 Zu).val
 ·exact Zz _
 ·exact mb _ _ _ _
theorem om(b:Bytes):(bJ b).val.aM.length<=b.length :=
 iF (fun a:gj=>a.aM.length<=b.length) (Zz _) (PI b)
theorem ri(b:Bytes):(dp b).val.record.length<=b.length :=
 iF (fun a:uC=>a.record.length<=b.length) (Zz _) (jt _ _ _)
theorem ns(b:Bytes):(a_ b).box.body.length+12<=b.length\/(a_ b).box=Fp:=by grind [cut,a_]
structure DY (x:DX) (n:Nat):Prop where
 keys:x.keys.length<=1
 boxes:x.boxes.length<=1
 len:∀ b∈x.boxes,b.length<=n
 kV:∀ b∈x.boxes,ow b=Zm
 valid:∀ k∈x.keys,bp k=Zm
theorem y_(n:Nat):DY ⟨[],[]⟩ n:=⟨by simp,by simp,by simp,by simp,by simp⟩
theorem JU(k:Int)(n:Nat):DY ⟨cq [k],[]⟩ n:=⟨oF k,by simp,by simp,by simp,fun k' h=>(List.mem_filter.1 h).2⟩
theorem tR(k:Int){b:Bytes}{n:Nat}(h:b.length<=n):DY ⟨cq [k],gH [b]⟩ n :=
 ⟨oF k,Ea b,fun b' hb=>by rw[Eb hb];exact h,fun b' hb=>(qY hb).2,fun k' h=>(List.mem_filter.1 h).2⟩
theorem zb(x:VD):DY (k9 x) x.body.length:=by
 unfold k9;repeat' split
 all_goals first
  | exact y_ _
  | exact JU _ _
  | exact tR _ (tb _ _)
  | exact tR _ (om _)
  | exact tR _ (ri _)
theorem za:k9 Fp=⟨[],[]⟩:=rfl
theorem yZ(b:Bytes):DY (ci b) (b.length-12):=by
 unfold ci;rcases ns b with h | h
 ·have h1:=zb (a_ b).box;exact⟨h1.keys,h1.boxes,fun b' hb=>by have:=h1.len b' hb;omega,h1.kV,h1.valid⟩
 ·rw[h,za];exact y_ _
theorem zO{b:Bytes}(h:(a_ b).err=0):12<=b.length:=by
 unfold a_ at h;split at h
 ·cases h
 ·omega
theorem pk{b b':Bytes}(h:b'∈(ci b).boxes):b'.length+12<=b.length:=by
 rcases ns b with h1 | h1
 ·have:=(zb (a_ b).box).len b' h;omega
 ·unfold ci at h;rw[h1,za] at h;cases h
theorem iE{y:Bytes}:∀ {l B:List Bytes},y∈eF B l↔y∈B\/y∈l
 | [],B=>by simp[eF]
 | b::l,B=>by
  have e:eF B (b::l)=eF (bif B.contains b then B else B++[b]) l:=rfl;rw[e,iE (l:=l)];cases h:B.contains b with
  | true =>
   have hb:b∈B:=by simpa using h
   simp only[Qa5,Zw];constructor
   ·rintro(h | h)
    ·exact .inl h
    ·exact .inr (.inr h)
   ·rintro(h | rfl | h)
    ·exact .inl h
    ·exact .inl hb
    ·exact .inr h
  | false=>simp only[Qa6,List.mem_append,Zw,List.not_mem_nil,or_false];exact or_assoc
theorem kg{y:Int}:∀ {l K:List Int},y∈gT K l↔y∈K\/y∈l
 | [],K=>by simp[gT]
 | k::l,K=>by
  have e:gT K (k::l)=gT (bif K.contains k then K else mJ K k) l:=rfl;rw[e,kg (l:=l)];cases h:K.contains k with
  | true =>
   have hb:k∈K:=by simpa using h
   simp only[Qa5,Zw];constructor
   ·rintro(h | h)
    ·exact .inl h
    ·exact .inr (.inr h)
   ·rintro(h | rfl | h)
    ·exact .inl h
    ·exact .inl hb
    ·exact .inr h
  | false =>
   simp only[Qa6,zc,Zw];constructor
   ·rintro((h | h) | h)
    ·exact .inr (.inl h)
    ·exact .inl h
    ·exact .inr (.inr h)
   ·rintro(h | h | h)
    ·exact .inl (.inr h)
    ·exact .inl (.inl h)
    ·exact .inr h
theorem lX:∀ {l K:List Int},sW K=Zm->sW (gT K l)=Zm
 | [],K,h=>h
 | k::l,K,h=>by
  have e:gT K (k::l)=gT (bif K.contains k then K else mJ K k) l:=rfl;rw[e];cases K.contains k with
  | true=>exact lX h
  | false=>exact lX (uH h)
theorem uF:∀ {l K:List Int},(gT K l).length<=K.length+l.length
 | [],K=>Zn _
 | k::l,K=>by
  have e:gT K (k::l)=gT (bif K.contains k then K else mJ K k) l:=rfl;rw[e];have h1:=uF (l:=l) (K:=bif K.contains k then K else mJ K k);cases h:K.contains k with
  | true=>rw[h] at h1;simp only[Qa5,Zj] at h1 ⊢;omega
  | false =>
   rw[h] at h1;have:=E1 (k:=k) (l:=K) (by simpa using h);simp only[Qa6,Zj] at h1 ⊢;omega
theorem h_:∀ {l B:List Bytes},∃ N,eF B l=B++N/\N.length<=l.length/\(∀ b∈N,b∈l/\b ∉ B)
 | [],B=>⟨[],by simp[eF],Zn _,by simp⟩
 | b::l,B=>by
  have e:eF B (b::l)=eF (bif B.contains b then B else B++[b]) l:=rfl;rw[e];cases h:B.contains b with
  | true =>
   obtain⟨N,h1,h2,h3⟩:=h_ (l:=l) (B:=B);exact⟨N,h1,by simp only[Zj];omega,fun x hx=>⟨Zv _ (h3 x hx).1,(h3 x hx).2⟩⟩
  | false =>
   obtain⟨N,h1,h2,h3⟩:=h_ (l:=l) (B:=B++[b]);refine⟨b::N,by simp only[Qa6];rw[h1];simp,by simp only[Zj];omega,fun x hx=> ?_⟩;rcases Zw.1 hx with rfl | hx
   ·exact⟨by simp,by simpa using h⟩
   ·obtain⟨g1,g2⟩:=h3 x hx;exact⟨Zv _ g1,fun hm=>g2 (by simp[hm])⟩
theorem ot{s:Kn}{x:DX}:s.has x=Zm↔(∀ k∈x.keys,k∈s.keys)/\∀ b∈x.boxes,b∈s.boxes:=by
 simp[Kn.has]
def Sub(s t:Kn):Prop:=(∀ k∈s.keys,k∈t.keys)/\∀ b∈s.boxes,b∈t.boxes
theorem Sub.refl(s:Kn):Sub s s:=⟨fun _ h=>h,fun _ h=>h⟩
theorem Sub.trans{s t u:Kn}(h1:Sub s t)(h2:Sub t u):Sub s u:=⟨fun k h=>h2.1 k (h1.1 k h),fun k h=>h2.2 k (h1.2 k h)⟩
theorem Sub.has{s t:Kn}(h:Sub s t){x:DX}(hx:s.has x=Zm):t.has x=Zm :=
 ot.2 ⟨fun k hk=>h.1 k ((ot.1 hx).1 k hk),fun k hk=>h.2 k ((ot.1 hx).2 k hk)⟩
theorem Sub.done{s t:Kn}(h:Sub s t){b:Bytes}(hx:s.done b=Zm):t.done b=Zm:=by
 unfold Kn.done at hx ⊢;rw[Bool.or_eq_true] at hx ⊢;rcases hx with hx | hx
 ·exact .inl hx
 ·exact .inr (h.has hx)
theorem DK(s:Kn)(x:DX):Sub s (s.add x):=⟨fun k h=>kg.2 (.inl h),fun b h=>iE.2 (.inl h)⟩
theorem Il(s:Kn)(x:DX):(s.add x).has x=Zm:=ot.2 ⟨fun k h=>kg.2 (.inr h),fun b h=>iE.2 (.inr h)⟩
theorem sJ{s:Kn}{b:Bytes}:s.opens b=Zm↔(a_ b).err=0/\(a_ b).box.key∈s.keys/\s.has (ci b)=Zu:=by
 simp[Kn.opens,and_assoc]
theorem GD{p q:Bytes->Bool}{b:Bytes}:∀ {l:List Bytes},(∀ x∈l,q x=Zm->p x=Zm)->b∈l->p b=Zm->q b=Zu->((l.filter q).map List.length).sum+b.length<=((l.filter p).map List.length).sum
 | [],_,h,_,_=>by cases h
 | a::l,h1,h2,h3,h4=>by
  have le:∀ {l:List Bytes},(∀ x∈l,q x=Zm->p x=Zm)->((l.filter q).map List.length).sum<=((l.filter p).map List.length).sum:=by
   intro l;induction l with
   | nil=>intro _;exact Zn _
   | cons c l ih =>
    intro hc;have:=ih fun x hx=>hc x (Zv _ hx);cases hq:q c with
    | true=>simp only[Zx,hq,hc c (by simp) hq,if_true,Zp,Zk];omega
    | false =>
     cases hp:p c with
     | true=>simp only[Zx,hq,hp,if_true,Zq,if_false,Zp,Zk];omega
     | false=>simpa only[Zx,hq,hp,Zq,if_false] using this
  rcases Zw.1 h2 with rfl | h2
  ·have:=le (l:=l) fun x hx=>h1 x (Zv _ hx);simp only[Zx,h3,h4,if_true,Zq,if_false,Zp,Zk];omega
  ·have:=GD (l:=l) (fun x hx=>h1 x (Zv _ hx)) h2 h3 h4;cases hq:q a with
   | true=>simp only[Zx,hq,h1 a (by simp) hq,if_true,Zp,Zk];omega
   | false =>
    cases hp:p a with
    | true=>simp only[Zx,hq,hp,if_true,Zq,if_false,Zp,Zk];omega
    | false=>simpa only[Zx,hq,hp,Zq,if_false] using this
theorem Sn{p:Bytes->Bool}{m:Nat}:∀ {l:List Bytes},l.length<=1->(∀ x∈l,x.length<=m)->((l.filter p).map List.length).sum<=m
 | [],_,_=>Zz _
 | [a],_,h=>by
  have:=h a (by simp);cases hp:p a<;>simp[hp]<;>omega
 | _::_::_,h,_=>by simp at h
theorem nZ{s:Kn}{b:Bytes}(hb:b∈s.boxes)(ho:s.opens b=Zm):lS (s.add (ci b))<lS s:=by
 obtain⟨h1,h2,h3⟩:=sJ.1 ho;have hl:=zO h1;have hi:=yZ b;obtain⟨N,e,hN,Xc⟩:=h_ (l:=(ci b).boxes) (B:=s.boxes);have hk:=uF (l:=(ci b).keys) (K:=s.keys);have hu:Ar (s.add (ci b))+b.length<=Ar s+(b.length-12):=by
  unfold Ar;rw[show(s.add (ci b)).boxes=s.boxes++N from e,List.filter_append,List.map_append,List.sum_append];have a1:=GD (p:=fun b => !s.done b) (q:=fun x => !(s.add (ci b)).done x) (b:=b) (l:=s.boxes) (fun x _ hx=>by
   simp only[Bool.not_eq_true',Bool.not_eq_eq_eq_not,Bool.not_true] at hx ⊢;cases hd:s.done x with
   | false=>rfl
   | true=>rw[(DK s (ci b)).done hd] at hx;cases hx) hb (by simp[Kn.done,h1,h3]) (by simp[Kn.done,h1,Il])
  have a2:=Sn (p:=fun x => !(s.add (ci b)).done x) (m:=b.length-12) (l:=N) (Zb hN hi.boxes) fun x hx=>hi.len x (Xc x hx).1;omega
 have h4:(s.add (ci b)).boxes.length<=s.boxes.length+1:=by
  rw[show(s.add (ci b)).boxes=s.boxes++N from e,Zd];have:=hi.boxes;omega
 have h5:(s.add (ci b)).keys.length<=s.keys.length+1:=Zb hk (by have:=hi.keys;omega);unfold lS;omega
theorem pA{s:Kn}{b:Bytes}(h:s.next=some b):b∈s.boxes/\s.opens b=Zm:=⟨List.mem_of_find?_eq_some h,List.find?_some h⟩
theorem AM:∀ {n:Nat} {s:Kn},lS s<=n->oH n s=close s:=by
 intro n;induction n using Nat.strongRecOn with
 | _ n ih =>
  intro s h;have key:∀ m,lS s<=m->m<=n->oH m s=oH (lS s) s:=by
   intro m h1 h2;cases hn:s.next with
   | none =>
    have:∀ q,oH q s=s:=fun q=>by cases q with
     | zero=>rfl
     | succ q=>simp only[oH,hn]
    rw[this,this]
   | some b =>
    obtain⟨g1,g2⟩:=pA hn;have eY:=nZ g1 g2;obtain⟨q,rfl⟩:∃ q,m=q+1:=⟨m-1,by omega⟩;obtain⟨r,hr⟩:∃ r,lS s=r+1:=⟨lS s-1,by omega⟩;rw[hr];simp only[oH,hn];rw[ih q (by omega) (s:=s.add (ci b)) (by omega),ih r (by omega) (s:=s.add (ci b)) (by omega)]
  exact key n h (Zn _)
theorem yu{s:Kn}{b:Bytes}(h:s.next=some b):close s=close (s.add (ci b)):=by
 obtain⟨g1,g2⟩:=pA h;have eY:=nZ g1 g2;obtain⟨r,hr⟩:∃ r,lS s=r+1:=⟨lS s-1,by omega⟩;unfold close;rw[hr];simp only[oH,h];exact AM (by omega)
theorem pU{s:Kn}(h:s.next=none):close s=s:=by
 unfold close;cases lS s with
 | zero=>rfl
 | succ n=>simp only[oH,h]
theorem wx{P:Kn->Prop}(rF:∀ s b,P s->b∈s.boxes->s.opens b=Zm->P (s.add (ci b))):∀ s,P s->P (close s)/\(close s).next=none:=by
 have:∀ n s,lS s<=n->P s->P (close s)/\(close s).next=none:=by
  intro n;induction n with
  | zero =>
   intro s hm hp;cases hn:s.next with
   | none=>rw[pU hn];exact⟨hp,hn⟩
   | some b =>
    obtain⟨g1,g2⟩:=pA hn;have:=nZ g1 g2;omega
  | succ n ih =>
   intro s hm hp;cases hn:s.next with
   | none=>rw[pU hn];exact⟨hp,hn⟩
   | some b =>
    obtain⟨g1,g2⟩:=pA hn;have:=nZ g1 g2;rw[yu hn];exact ih _ (by omega) (rF s b hp g1 g2)
 exact fun s=>this _ s (Zn _)
end Kerb
/- Chapter 27: what is asked of knowledge that is handed over. -/
namespace Kerb
open Go Go.Abs
def kn(ks bs:List AV):Kn:=⟨iM ks,lH bs⟩
def rK(bs:List AV):Bool:=oY bs&&bs.all (fun a=>decide ((DM a).length<=70368744177664))&&decide (bs.length<=100000000)
def wL(ks:List AV):Bool:=dB ks&&(iM ks).all (fun k=>decide (0<=k)&&decide (k<18446744073709551616))&&decide (ks.length<=100000000)
def tT(ks bs:List AV):Bool:=dB ks&&rK bs&&sW (iM ks)&&decide (lS (kn ks bs)<=1000000)&&(lH bs).all fun b=>decide (b.length<=70368744170000)
structure eL (s:Kn):Prop where
 sW:sW s.keys=Zm
 len:∀ b∈s.boxes,b.length<=70368744170000
 lS:lS s<=1000000
theorem vr(s:Kn):kn (cV s.keys) (cF s.boxes)=s:=by unfold kn;rw[mV,mn]
theorem x9{l:List Bytes}:rK (cF l)=Zm↔(∀ b∈l,b.length<=70368744177664)/\l.length<=100000000:=by
 unfold rK;rw[yi,c4];simp[cF,DM];intro _;exact⟨fun h b hb=>Qa3 (h b hb),fun h b hb=>Qa4 (h b hb)⟩
theorem I3{bs:List AV}(h:rK bs=Zm):∃ l,bs=cF l/\(∀ b∈l,b.length<=70368744177664)/\l.length<=100000000:=by
 have h':=h;unfold rK at h;simp only[Zy] at h;obtain⟨l,rfl⟩:=HE h.1.1;exact⟨l,rfl,x9.1 h'⟩
theorem IP{l:List Int}:wL (cV l)=Zm↔(∀ k∈l,0<=k/\k<18446744073709551616)/\l.length<=100000000:=by
 unfold wL;rw[qm,ef,mV];simp
theorem PD{ks:List AV}(h:wL ks=Zm):∃ l,ks=cV l/\(∀ k∈l,0<=k/\k<18446744073709551616)/\l.length<=100000000:=by
 have h':=h;unfold wL at h;simp only[Zy] at h;obtain⟨l,rfl⟩:=Dj h.1.1;exact⟨l,rfl,IP.1 h'⟩
theorem IU{s:Kn}:tT (cV s.keys) (cF s.boxes)=Zm↔eL s:=by
 unfold tT;rw[vr,qm,mV,mn];simp only[Zy,Qa2,x9,Qa8,Zf];constructor
 ·rintro⟨⟨⟨⟨h1,h2⟩,h3⟩,h4⟩,h5⟩;exact⟨h3,h5,h4⟩
 ·rintro⟨h1,h2,h3⟩;refine⟨⟨⟨⟨fun b hb=>Zb (h2 b hb) (by decide),?_⟩,h1⟩,h3⟩,h2⟩;have:s.boxes.length<=lS s:=by unfold lS;omega
  omega
theorem I2{ks bs:List AV}(h:tT ks bs=Zm):∃ s:Kn,ks=cV s.keys/\bs=cF s.boxes/\eL s:=by
 have h':=h;unfold tT at h;simp only[Zy] at h;obtain⟨l,rfl⟩:=Dj h.1.1.1.1;obtain⟨m,rfl,_⟩:=I3 h.1.1.1.2;exact⟨⟨l,m⟩,rfl,rfl,IU (s:=⟨l,m⟩).1 h'⟩
theorem eL.E7{s:Kn}(h:eL s):s.keys.length<=1000000:=by have:=h.lS;unfold Kerb.lS at this;omega
theorem eL.wv{s:Kn}(h:eL s):s.boxes.length<=1000000:=by have:=h.lS;unfold Kerb.lS at this;omega
theorem eL.open{s:Kn}{b:Bytes}(h:eL s)(hb:b∈s.boxes)(ho:s.opens b=Zm):eL (s.add (ci b)) :=
 ⟨lX h.sW,fun x hx=>by
  rcases iE.1 hx with hx | hx
  ·exact h.len x hx
  ·have:=pk hx;have:=h.len b hb;omega,Nat.le_of_lt (Nat.lt_of_lt_of_le (nZ hb ho) h.lS)⟩
theorem eL.close{s:Kn}(h:eL s):eL (Kerb.close s):=(wx (P:=eL) (fun s b hs hb ho=>hs.open hb ho) s h).1
theorem yy(b:Bytes):(bK b).val.io.length<=b.length:=by
 unfold bK;split
 ·exact Zz _
 split
 ·exact Zz _
 ·exact jt _ _ _
theorem Fl(b:Bytes)(p m:Int)(li:Bool):(fH b p m li).val.length<=b.length:=by
 unfold fH;split
 ·exact Zz _
 ·exact jt _ _ _
theorem HJ(b:Bytes):(im b).io.length<=b.length:=by
 unfold im;split
 ·exact Zz _
 split
 ·exact Fl _ _ _ _
 ·exact Zz _
theorem PK(b:Bytes):(HI b).val.aM.length<=b.length/\(HI b).val.box.length<=b.length:=by
 unfold HI;dsimp only;cases ((fD b 1 2 Zu).val==2)
 ·exact⟨Zz _,mb _ _ _ _⟩
 ·exact⟨mb _ _ _ _,mb _ _ _ _⟩
theorem tH(b:Bytes):(bu b).val.aM.length<=b.length/\(bu b).val.box.length<=b.length:=by
 unfold bu;split
 ·exact⟨Zz _,Zz _⟩
 ·exact iF (fun a:dZ=>a.aM.length<=b.length/\a.box.length<=b.length) ⟨Zz _,Zz _⟩ (PK b)
theorem wy(b:Bytes):(dD b).val.box.length<=b.length:=by
 unfold dD;split
 ·exact Zz _
 ·exact iF (fun a:jS=>a.box.length<=b.length) (Zz _) (mb _ _ _ _)
theorem AP(b:Bytes):(fu b).val.box.length<=b.length:=by
 unfold fu;split
 ·exact Zz _
 ·exact iF (fun a:DZ=>a.box.length<=b.length) (Zz _) (jt _ _ _)
theorem Jd:(0:Int)<=0/\(0:Int)<18446744073709551616:=by decide
theorem wz(b:Bytes):0<=(cA b).val.aG/\(cA b).val.aG<18446744073709551616:=by
 unfold cA;split
 ·exact⟨Zg _,by decide⟩
 ·exact iF (fun a:dA=>0<=a.aG/\a.aG<18446744073709551616) ⟨Zg _,by decide⟩ (l6 _)
theorem yw(b:Bytes)(li:Bool):0<=(ca b li).val.aG/\(ca b li).val.aG<18446744073709551616:=by
 unfold ca;split
 ·exact⟨Zg _,by decide⟩
 ·exact l6 _
theorem tI(b:Bytes):0<=(dS b).val.new/\(dS b).val.new<18446744073709551616 :=
 iF (fun a:fh=>0<=a.new/\a.new<18446744073709551616) ⟨Zg _,by decide⟩ (by
  unfold nD MV;dsimp only;cases iR (dw b 4 0 Zu).val
  ·exact ye _ _ _
  ·exact Jd)
theorem tG(b:Bytes):0<=(bJ b).val.aG/\(bJ b).val.aG<18446744073709551616 :=
 iF (fun a:gj=>0<=a.aG/\a.aG<18446744073709551616) ⟨Zg _,by decide⟩ (by
  unfold nB HH;dsimp only;cases dL (dw b 4 0 Zu).val
  ·exact Jd
  ·exact ye _ _ _)
theorem yx(b:Bytes):0<=(dT b).val.aG/\(dT b).val.aG<18446744073709551616 :=
 iF (fun a:D1=>0<=a.aG/\a.aG<18446744073709551616) ⟨Zg _,by decide⟩ (xX _ _ _)
theorem xM(b:Bytes):0<=(dp b).val.aG/\(dp b).val.aG<18446744073709551616 :=
 iF (fun a:uC=>0<=a.aG/\a.aG<18446744073709551616) ⟨Zg _,by decide⟩ (xX _ _ _)
theorem My{a:Bytes}(h:a.length<=70368744177664):rK [.bs a]=Zm:=(x9 (l:=[a])).2 ⟨by simpa using h,by simp⟩
theorem Bz{k:Int}(h:0<=k/\k<18446744073709551616):wL [.int .u64 k]=Zm:=(IP (l:=[k])).2 ⟨by simpa using h,by simp⟩
theorem oC(b:Bytes):(∀ x∈n6 b,x.length<=b.length+1012)/\(n6 b).length<=2:=by
 have h1:=yy b;have h2:=Eo b;have h3:=CA b;have h4:=AO b;have h5:=HJ b;have h6:=tH b;have h7:=wy b;have h8:=AP b;unfold n6;repeat' split
 all_goals
  constructor
  ·simp only[Zw,List.not_mem_nil,or_false];intro x hx;first
    | (rcases hx with rfl | rfl<;>omega)
    | (subst hx;omega)
    | exact absurd hx (by simp)
  ·simp
theorem DB{b:Bytes}(h:b.length<=70368744170000):rK (cF (n6 b))=Zm :=
 x9.2 ⟨fun x hx=>by have:=(oC b).1 x hx;omega,by have:=(oC b).2;omega⟩
theorem mS(b:Bytes):(∀ x∈partsOf b,x.length<=b.length+1012)/\(partsOf b).length<=2 :=
 ⟨fun x hx=>(oC b).1 x (qY hx).1,Zb (List.length_filter_le _ _) (oC b).2⟩
theorem As{s t:Kn}(h:Sub s t)(l:List Bytes):((l.filter fun b => !t.done b).map List.length).sum<=((l.filter fun b => !s.done b).map List.length).sum:=by
 induction l with
 | nil=>exact Zn _
 | cons c l ih =>
  cases ht:t.done c with
  | true =>
   cases hs:s.done c<;>simp only[Zx,ht,hs,Bool.not_true,Bool.not_false,Zq,if_false,if_true,Zp,Zk]<;>omega
  | false =>
   have hs:s.done c=Zu:=by
    cases hs:s.done c with
    | false=>rfl
    | true=>rw[h.done hs] at ht;cases ht
   simp only[Zx,ht,hs,Bool.not_false,if_true,Zp,Zk];omega
theorem I'{p:Bytes->Bool}{m:Nat}:∀ {l:List Bytes},(∀ x∈l,x.length<=m)->((l.filter p).map List.length).sum<=l.length*m
 | [],_=>Zz _
 | a::l,h=>by
  have h1:=I' (p:=p) (l:=l) fun x hx=>h x (Zv _ hx);have h2:=h a (by simp);rw[Zj,Nat.succ_mul];cases hp:p a with
  | true=>simp only[Zx,hp,if_true,Zp,Zk];omega
  | false=>simp only[Zx,hp,Zq,if_false];omega
theorem Co(s:Kn)(x:DX){m:Nat}(h:∀ b∈x.boxes,b.length<=m):lS (s.add x)<=lS s+x.keys.length+x.boxes.length*(m+1):=by
 obtain⟨N,e,hN,Xc⟩:=h_ (l:=x.boxes) (B:=s.boxes);have hk:=uF (l:=x.keys) (K:=s.keys);have h1:=As (DK s x) s.boxes;have h2:=I' (p:=fun b => !(s.add x).done b) (l:=N) (m:=m) fun b hb=>h b (Xc b hb).1;have h3:N.length*m<=x.boxes.length*m:=Nat.mul_le_mul_right _ hN;unfold lS Ar;rw[show(s.add x).boxes=s.boxes++N from e,List.filter_append,List.map_append,List.sum_append,Zd];rw[Nat.mul_add,Nat.mul_one];have:(s.add x).keys.length<=s.keys.length+x.keys.length:=hk;omega
theorem eL.add{s:Kn}(h:eL s){x:DX}{m:Nat}(h1:∀ b∈x.boxes,b.length<=m)(h2:Kerb.lS s+x.keys.length+x.boxes.length*(m+1)<=1000000)(h3:m<=70368744170000):eL (s.add x) :=
 ⟨lX h.sW,fun b hb=>by
  rcases iE.1 hb with hb | hb
  ·exact h.len b hb
  ·exact Zb (h1 b hb) h3,Zb (Co s x h1) h2⟩
theorem eL.parts{s:Kn}(h:eL s){b:Bytes}(h1:Kerb.lS s+2*b.length+2100<=1000000):eL (s.add ⟨[],partsOf b⟩):=by
 have hp:=mS b;refine h.add (m:=b.length+1012) hp.1 ?_ (by omega);have:(partsOf b).length*(b.length+1012+1)<=2*(b.length+1012+1):=Nat.mul_le_mul_right _ hp.2;simp only[List.length_nil];omega
theorem eL.Mw{s:Kn}(h:eL s){k:Int}(h1:Kerb.lS s+1<=1000000):eL (s.add ⟨cq [k],[]⟩):=by
 have:=oF k;exact h.add (m:=0) (by simp) (by simp only[List.length_nil];omega) (by omega)
end Kerb
