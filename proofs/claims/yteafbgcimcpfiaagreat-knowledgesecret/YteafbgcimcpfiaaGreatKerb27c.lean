/- Clients that receive: lengths stay small. -/
import Derived.Test.YteafbgcimcpfiaaGreatKerbCli4
import Derived.KernelRfl
set_option linter.all false
open Nat renaming zero_le→Zz,le_trans→Zb,le_refl→Zn
open Bool renaming and_eq_true→Zy,false→Zu,false_eq_true→Zq,true→Zm
open List renaming filter_cons→Zx,mem_cons→Zw,mem_cons_of_mem→Zv,length_cons→Zj,sum_cons→Zk,map_cons→Zp,length_append→Zd,all_eq_true→Zf
open Int renaming le_refl→Zg
namespace Kerb
open Go.Abs Go
end Kerb
namespace Go.Abs
theorem vS{α β:Type}{x:Option α}{f:α->Option β}{r:Option β}(P:α->Prop)(h1:∃ a,x=some a/\P a)(h2:∀ a,P a->f a=r):x.bind f=r:=by
 obtain⟨a,rfl,h⟩:=h1;exact h2 a h
end Go.Abs
/- Chapter 20: a client that waits for an answer gets it. -/
namespace Kerb
open Go Go.Abs
theorem xW(m:Iz)(li:Bool):(dG m li).val.length<=16:=by
 unfold dG;split
 ·simp
 ·rw[qT];simp[af]
theorem Ch(s:Bytes)(li:Bool):(dN s li).val.length<=2000:=by
 unfold dN;split
 ·simp
 ·simp[af,LD];omega
end Kerb
/- Chapter 23, plain: when a ticket is given; what the data of the statements says. -/
namespace Kerb
open Go Go.Abs
end Kerb
/- Chapter 17: authentication servers; the data of its statements. -/
namespace Kerb
open Go Go.Abs
def qf(r:m7)(p:gF)(k:Int):ll :=
 if (bR p r.aq).err≠0 then⟨[],(bR p r.aq).err⟩
 else if (fo 3 k (bR p r.aq).val).err≠0 then⟨[],(fo 3 k (bR p r.aq).val).err⟩
 else dQ ⟨r.aq,r.client,r.time,r.eu,r.bO,(fo 3 k (bR p r.aq).val).val⟩
def Mz(msg:Bytes)(now:Int)(aq:Bool):Bytes :=
 if msg.length=0 then[] else if msg.getD 0 0=4 then[] else if (fV (msg.set 0 4)).err≠0 then[]
 else refuse (fV (msg.set 0 4)).val.client 4 now aq
structure tG where
 answer:Bytes
 iS:yy
 ok:Bool
def n8(c:gp)(v:Svc)(cl now:Int):Int×Bool:=Lz now (u5 (u5 cl c.lS) v.cl) ([c.eu,v.eu].filter fun n => !(n==0))
def FI(d:Db)(c:gp)(v:Svc)(r:jn)(now address:Int)(aq:Bool)(aB:Int):tG :=
 if (n8 c v r.cl now).2=Zu then⟨refuse r.client 3 now aq,lU,Zu⟩
 else if gR aB≠2 then⟨refuse r.client 10 now aq,lU,Zu⟩
 else if (uA d.aJ r.client ⟨r.service,r.inst,d.aJ⟩ address aq now (n8 c v r.cl now).1 aB c.key v.key v.bO).err≠0 then⟨[],lU,Zu⟩
 else if (qf ⟨aq,r.client,r.time,c.eu,c.bO,[]⟩ (uA d.aJ r.client ⟨r.service,r.inst,d.aJ⟩ address aq now (n8 c v r.cl now).1 aB c.key v.key v.bO).part c.key).err≠0 then⟨[],lU,Zu⟩
 else⟨(qf ⟨aq,r.client,r.time,c.eu,c.bO,[]⟩ (uA d.aJ r.client ⟨r.service,r.inst,d.aJ⟩ address aq now (n8 c v r.cl now).1 aB c.key v.key v.bO).part c.key).val,
  { (uA d.aJ r.client ⟨r.service,r.inst,d.aJ⟩ address aq now (n8 c v r.cl now).1 aB c.key v.key v.bO).iS with kind:=1 },Zm⟩
def Kb(d:Db)(dU:List m6)(now address:Int)(aq:Bool)(aB:Int)(r:jn):tG :=
 if r.client.aJ≠d.aJ then⟨refuse r.client 8 now aq,lU,Zu⟩
 else if (pJ d r.client.name r.client.inst now).2≠0 then⟨refuse r.client (pJ d r.client.name r.client.inst now).2 now aq,lU,Zu⟩
 else if (Fh d dU r.service r.inst now).err≠0 then⟨refuse r.client (Fh d dU r.service r.inst now).err now aq,lU,Zu⟩
 else FI d (ic d (pJ d r.client.name r.client.inst now).1) (Fh d dU r.service r.inst now) r now address aq aB
def qv(d:Db)(dU:List m6)(now address:Int)(aq:Bool)(aB:Int)(msg:Bytes):tG :=
 if !(within now 4294967295&&within address 4294967295) then⟨[],lU,Zu⟩
 else if (fV msg).err≠0 then⟨Mz msg now aq,lU,Zu⟩
 else Kb d dU now address aq aB (fV msg).val
def m6.ok(c:m6):Prop:=c.source.length<=9223372036854775807/\c.target.length<=9223372036854775807/\nC c.bO=Zm/\CW c.key=Zm
structure K_ where
 client:UInt8
 service:UInt8
 peer:UInt8
 time:UInt8
 cl:UInt8
 dU:UInt8
 aq:Bool
 how:Int
def K_.want(a:K_):bf:=if a.service.toNat % 5=4 then tgs (aJ 0) (aJ (nt a.peer)) else Kerb.service (nt a.service % 3)
def K_.base(a:K_):Bytes:=(po ⟨a.aq,user (nt a.client % 5),nt a.time,nt a.cl,a.want.name,a.want.inst⟩).val
def K_.msg(a:K_):Bytes :=
 if a.how % 8=7 then oJ a.base (a.how / 8)
 else if a.how % 8=6/\0<a.base.length then a.base.set 0 (UInt8.ofNat (Int.toNat (IntKind.wrap .u8 (a.how / 8)))) else a.base
end Kerb
/- Chapter 23, plain: how long a ticket lasts, and who can open the answer. -/
namespace Kerb
open Go Go.Abs
namespace KAsk
theorem E7(s:fe):(aR s).val.length % 8=0:=by grind [qT,aR]
end KAsk
end Kerb
namespace Kerb
open Go Go.Abs
structure afd (a:KAsk) (d:Db) (ad se:Int) (o:V3) (R:jE) (Y:gq) (k:Int):Prop where
 dec:dd o.answer=⟨R,0⟩
 len:o.answer.length<=1000000
 code:R.code=0
 opens:(kE R.box 8 k).2=Zm
 says:br (kE R.box 8 k).1=⟨Y,0⟩
 ses:Y.aB=se
 ah':o.iS.aB=se
 agp:o.iS.mK=k
 time:Y.time=1000+nt a.time+1
 start:Y.start=1100
 stop:Y.stop=o.iS.stop
 most:o.iS.stop<=1000+nt a.time+nt a.stop*50
 client:o.iS.client=user (nt a.user % 3)
 kind:(o.iS.kind=3/\k=(ic d (ku d.entries o.iS.client.name o.iS.client.inst).1).key/\0<=(ku d.entries o.iS.client.name o.iS.client.inst).1/\(ku d.entries o.iS.client.name o.iS.client.inst).1<d.entries.length) \/
  (o.iS.kind=4/\k=aB (nt a.aB % 4)/\o.iS.stop<=1000+nt a.cE+300*(nt a.cl % 40+1)/\nt a.address % 2=ad/\o.iS.qG=k)
end Kerb
/- The data of the statements of chapters 18 and 19: cases, servers, keys. -/
namespace Kerb
open Go Go.Abs
structure Case where
 client:UInt8
 other:UInt8
 service:UInt8
 aJ:UInt8
 aq:Bool
 turned:Bool
 gS:Bool
 address:UInt8
 src:UInt8
 cE:UInt8
 time:UInt8
 tick:UInt8
 cl:UInt8
 cX:Int
 key:UInt8
 bO:UInt8
 aB:UInt8
 aI:Int
 fg:Int
def Case.av(c:Case):AV := .agg [.u8 c.client,.u8 c.other,.u8 c.service,.u8 c.aJ,.bool c.aq,.bool c.turned,.bool c.gS,.u8 c.address,.u8 c.src,.u8 c.cE,.u8 c.time,.u8 c.tick,.u8 c.cl,.int .u32 c.cX,.u8 c.key,.u8 c.bO,.u8 c.aB,.int .u16 c.aI,.int .u16 c.fg]
def X5(n:Int):Bool:=decide (0<=n)&&decide (n<=4294967295)
def Oy(n:Int):Bool:=decide (0<=n)&&decide (n<=65535)
def Case.ok(c:Case):Prop:=X5 c.cX=Zm/\Oy c.aI=Zm/\Oy c.fg=Zm
namespace Case
def who(c:Case):bf:=Kerb.user (nt c.client % 6)
def me(c:Case):bf:=Kerb.service (nt c.service % 6)
def ses(c:Case):Int:=Kerb.aB (nt c.aB % 4)
def ZH(c:Case)(m:bf):dF :=
 ⟨c.turned,c.who,nt c.address % 3,c.ses,nt c.cl / 4,1000+nt c.cE*8,m.name,if c.service.toNat % 7=6 then[111,116,104,101,114] else m.inst⟩
def au(c:Case):ma:=⟨if c.other.toNat % 8=7 then Kerb.user (nt c.other % 6) else c.who,c.cX,nt c.tick % 3,1000+nt c.time*8⟩
def x(c:Case)(m:bf)(k:Int):Bytes:=(eI (c.ZH m) k).val
def y(c:Case):Bytes:=(Pr c.au c.aq c.ses).val
def VZ(c:Case)(m:bf)(k v:Int):cP :=
  ⟨if c.fg % 16=14 then !c.aq else c.aq,c.gS,if c.bO.toNat % 16=15 then v+1 else v,if c.aJ.toNat % 16=15 then[67,65,77] else m.aJ,
   if c.aI % 16=15 then oJ (c.x m k) (c.aI / 16) else c.x m k,if c.fg % 16=15 then oJ c.y (c.fg / 16) else c.y⟩
def msg(c:Case)(m:bf)(k v:Int):Bytes:=(bZ (c.VZ m k v)).val
def server(c:Case)(size eU:UInt8):Server :=
 ⟨c.me,[⟨c.me,1,ou 1⟩,⟨c.me,2,ou 2⟩,⟨Kerb.user 0,1,ou 9⟩],⟨1+nt size % 40,0,[]⟩,nt eU*4⟩
end Case
end Kerb
/- The statements of chapter 18, plain: what is accepted. -/
namespace Kerb
open Go Go.Abs
structure So (r:n7) (m:Mark) (now eU:Int):Prop where
 err:r.err=0
 name:m.client.valid=Zm
 tick:0<=m.tick/\m.tick<=199
 Cq:Cq m.time now eU=Zm
 floor:r.floor<=m.time
 new:m ∉ r.marks
 room:(ol r now eU).length<r.size
 is:mP r m now eU=⟨⟨r.size,imax r.floor (now-eU),ol r now eU++[m]⟩,0⟩
theorem Gk{l:List Mark}{m:Mark}:ww l m=Zm↔m∈l:=by
 unfold ww;rw[List.any_eq_true];constructor
 ·rintro⟨x,hx,he⟩;rw[<-Mark.oY.1 he];exact hx
 ·intro h;exact⟨m,h,Mark.oY.2 rfl⟩
theorem added{r:n7}{m:Mark}{now eU:Int}(h:(mP r m now eU).err=0):So r m now eU:=by
 unfold mP at h;by_cases h1:r.err=0;case neg=>rw[Qa1 h1] at h;cases h
 rw[Qa0 (by simpa using h1)] at h;by_cases h2:m.client.valid=Zm;case neg=>rw[Qa1 (by simpa using h2)] at h;cases h
 rw[Qa0 (by simp[h2])] at h;by_cases h3:within m.tick 199=Zm;case neg=>rw[Qa1 (by simpa using h3)] at h;cases h
 rw[Qa0 (by simp[h3])] at h;by_cases h4:Cq m.time now eU=Zu\/m.time<r.floor
 ·rw[Qa1 h4] at h;cases h
 rw[Qa0 h4] at h;by_cases h5:ww r.marks m=Zm
 ·rw[Qa1 h5] at h;cases h
 rw[Qa0 h5] at h;by_cases h6:r.size<=(ol r now eU).length
 ·rw[Qa1 h6] at h;cases h
 refine⟨h1,h2,within_iff.1 h3,?_,by omega,fun hm=>h5 (Gk.2 hm),by omega,?_⟩
 ·cases hn:Cq m.time now eU
  ·exact absurd (.inl hn) h4
  ·rfl
 ·unfold mP;rw[Qa0 (by simpa using h1),Qa0 (by simp[h2]),Qa0 (by simp[h3]),Qa0 h4,Qa0 h5,Qa0 h6]
structure V4 (s:Server) (r:cP) (src now:Int) (t:dF) (a:ma):Prop where
 err:s.err=0
 aJ:r.aJ=s.me.aJ
 found:(jX s.keys s.me r.bO).2=Zm
 ZH:fP r.aI (jX s.keys s.me r.bO).1=⟨t,0⟩
 us:ua t s.me.aJ=s.me
 fg:sY r.fg r.aq t.aB=⟨a,0⟩
 client:t.client=a.client
 from_:src=t.address
 Cq:Cq a.time now s.eU=Zm
 state:Ii t.cE t.cl now s.eU=0
 add:So s.replay (vj a) now s.eU
 is:verify s r src now=⟨⟨s.me,s.keys,(mP s.replay (vj a) now s.eU).val,s.eU⟩,⟨t.client,t.aB,t.address,a.cX,a.time,a.tick,t.cE,t.cl,r.aI,r.fg⟩,0⟩
theorem Kk{α:Type}(d:Fv α)(h:d.err=0):d=⟨d.val,0⟩:=by cases d;simp at h;rw[h]
theorem taken{s:Server}{r:cP}{src now:Int}(h:(verify s r src now).err=0):∃ t a,V4 s r src now t a:=by
 have h0:=h;unfold verify at h;by_cases h1:s.err=0;case neg=>rw[Qa1 h1] at h;cases h
 rw[Qa0 (by simpa using h1)] at h;by_cases h2:(dx s r).err=0;case neg=>rw[Qa1 h2] at h;exact absurd h h2
 rw[Qa0 (by simpa using h2)] at h;by_cases h3:KD (dx s r).aI (dx s r).fg src now s.eU=0;case neg=>rw[Qa1 h3] at h;exact absurd h h3
 rw[Qa0 (by simpa using h3)] at h;by_cases h4:(mP s.replay (vj (dx s r).fg) now s.eU).err=0;case neg=>rw[Qa1 h4] at h;exact absurd h h4
 have hv:verify s r src now=⟨⟨s.me,s.keys,(mP s.replay (vj (dx s r).fg) now s.eU).val,s.eU⟩,⟨(dx s r).aI.client,(dx s r).aI.aB,(dx s r).aI.address,(dx s r).fg.cX,(dx s r).fg.time,(dx s r).fg.tick,(dx s r).aI.cE,(dx s r).aI.cl,r.aI,r.fg⟩,0⟩:=by
  unfold verify;rw[Qa0 (by simpa using h1),Qa0 (by simpa using h2),Qa0 (by simpa using h3),Qa0 (by simpa using h4)]
 have ho:∃ t a,r.aJ=s.me.aJ/\(jX s.keys s.me r.bO).2=Zm/\fP r.aI (jX s.keys s.me r.bO).1=⟨t,0⟩/\ua t s.me.aJ=s.me/\sY r.fg r.aq t.aB=⟨a,0⟩/\dx s r=⟨t,a,0⟩:=by
  unfold dx at h2 ⊢;by_cases g1:r.aJ=s.me.aJ;case neg=>rw[Qa1 g1] at h2;cases h2
  rw[Qa0 (by simpa using g1)] at h2 ⊢;by_cases g2:(jX s.keys s.me r.bO).2=Zu
  ·rw[Qa1 g2] at h2;cases h2
  rw[Qa0 g2] at h2 ⊢;by_cases g3:(fP r.aI (jX s.keys s.me r.bO).1).err=7
  ·rw[Qa1 g3] at h2;cases h2
  rw[Qa0 g3] at h2 ⊢;by_cases g4:(fP r.aI (jX s.keys s.me r.bO).1).err=0;case neg=>rw[Qa1 g4] at h2;cases h2
  rw[Qa0 (by simpa using g4)] at h2 ⊢;by_cases g5:(ua (fP r.aI (jX s.keys s.me r.bO).1).val s.me.aJ).rm s.me=Zu
  ·rw[Qa1 g5] at h2;cases h2
  rw[Qa0 g5] at h2 ⊢;by_cases g6:(sY r.fg r.aq (fP r.aI (jX s.keys s.me r.bO).1).val.aB).err=0;case neg=>rw[Qa1 g6] at h2;cases h2
  rw[Qa0 (by simpa using g6)];exact⟨_,_,g1,by simpa using g2,Kk _ g4,bf.oY.1 (by simpa using g5),Kk _ g6,rfl⟩
 obtain⟨t,a,o1,o2,o3,o4,o5,o6⟩:=ho;rw[o6] at h3 h4 hv;dsimp only at h3 h4 hv;unfold KD at h3;by_cases j1:t.client.rm a.client=Zu
 ·rw[Qa1 j1] at h3;cases h3
 rw[Qa0 j1] at h3;by_cases j2:src=t.address;case neg=>rw[Qa1 j2] at h3;cases h3
 rw[Qa0 (by simpa using j2)] at h3;by_cases j3:Cq a.time now s.eU=Zu
 ·rw[Qa1 j3] at h3;cases h3
 rw[Qa0 j3] at h3;exact⟨t,a,h1,o1,o2,o3,o4,o5,bf.oY.1 (by simpa using j1),j2,by simpa using j3,h3,added h4,hv⟩
namespace Case
end Case
theorem z7{a:ma}{l:Bool}:(fM a l).val.length<=150:=by
 unfold fM;split
 ·simp
 rename_i h;have hv:a.client.valid=Zm:=by
  unfold ma.check at h;cases hv:a.client.valid
  ·rw[hv,Qa1 (by rfl)] at h;simp at h
  ·rfl
 simp only[bf.valid,Zy,validName,bS,cJ,Qa2] at hv;have:=qT (cC (aN (cond l 1 0) 1 Zu) a.client++aN a.cX 4 l++aN a.tick 1 Zu++aN a.time 4 l);simp only[this,Zd,ai,af];omega
structure Reached (s:Server):Prop where
 err:s.err=0
 keys:∀ c∈s.keys,c.ok
 marks:∀ c∈s.replay.marks,c.ok
 name:s.me.name.length<=9223372036854775807/\s.me.inst.length<=9223372036854775807/\s.me.aJ.length<=9223372036854775807
 lens:s.keys.length<=1000000/\s.replay.marks.length<=1000000
theorem Ns(r:cP):(bZ r).val.length<=600:=by
 by_cases h:(bZ r).err=0
 ·obtain⟨h1,⟨h2,_⟩,_,h3,h4⟩:=Nr h;have hh:(header (cond r.gS 4 3) r.aq).length=2:=by cases r.gS<;>cases r.aq<;>rfl
  rw[h1];simp only[Zd,Zj,List.length_nil,af,hh];omega
 ·unfold bZ at h ⊢;split
  ·simp
  rename_i g1;rw[Qa0 g1] at h;split
  ·simp
  rename_i g2;rw[Qa0 g2] at h;split
  ·simp
  rename_i g3;rw[Qa0 g3] at h;exact absurd rfl h
structure Fits (s:Server) (V:FB) (r:cP) (src now:Int):Prop where
 err:V.err=0
 t1:V.a.time-now<=s.eU
 t2:now-V.a.time<=s.eU
 t3:V.a.cE-s.eU<=now
 t4:now<=V.a.cE+300*(V.a.cl+1)+s.eU
 b1:0<=V.a.time/\V.a.time<=4294967295
 b2:0<=V.a.cE/\V.a.cE<=4294967295
 b3:0<=V.a.cl/\V.a.cl<=255
 b4:0<=s.eU/\s.eU<=4294967295
 b5:0<=now/\now<=4294967295
 src:V.a.address=src
 aI:V.a.aI=r.aI
 fg:V.a.fg=r.fg
 more:V.s.replay.marks.length<=s.replay.marks.length+1
 most:(V.s.replay.marks.length:Int)<=V.s.replay.size
 size:V.s.replay.size=s.replay.size
 ok:V.s.err=0
structure afm (s:Server):Prop where
 keys:∀ c∈s.keys,c.ok
 marks:∀ c∈s.replay.marks,c.ok
 name:s.me.name.length<=9223372036854775807/\s.me.inst.length<=9223372036854775807/\s.me.aJ.length<=9223372036854775807
 lens:s.keys.length<=1000000/\s.replay.marks.length<=1000000
end Kerb
/- The statements of chapter 17, plain. -/
namespace Kerb
open Go Go.Abs
def m6.NT(c:m6):Prop:=bm c.key=Zm/\within c.bO 255=Zm/\CW c.key=Zm
structure Ti (d:Db) (dU:List m6) (now address:Int) (aq:Bool) (se:Int) (msg:Bytes) (A:tG) (r:jn) (i:Int) (L:Int):Prop where
 aiy:within now 4294967295=Zm
 adr:within address 4294967295=Zm
 VZ:fV msg=⟨r,0⟩
 aJ:r.client.aJ=d.aJ
 client:pJ d r.client.name r.client.inst now=(i,0)
 aiK:(Fh d dU r.service r.inst now).err=0
 cl:n8 (ic d i) (Fh d dU r.service r.inst now) r.cl now=(L,Zm)
 aa2:gR se=2
 gr:(uA d.aJ r.client ⟨r.service,r.inst,d.aJ⟩ address aq now L se (ic d i).key (Fh d dU r.service r.inst now).key (Fh d dU r.service r.inst now).bO).err=0
 sl:(qf ⟨aq,r.client,r.time,(ic d i).eu,(ic d i).bO,[]⟩ (uA d.aJ r.client ⟨r.service,r.inst,d.aJ⟩ address aq now L se (ic d i).key (Fh d dU r.service r.inst now).key (Fh d dU r.service r.inst now).bO).part (ic d i).key).err=0
 is:A=⟨(qf ⟨aq,r.client,r.time,(ic d i).eu,(ic d i).bO,[]⟩ (uA d.aJ r.client ⟨r.service,r.inst,d.aJ⟩ address aq now L se (ic d i).key (Fh d dU r.service r.inst now).key (Fh d dU r.service r.inst now).bO).part (ic d i).key).val,
  { (uA d.aJ r.client ⟨r.service,r.inst,d.aJ⟩ address aq now L se (ic d i).key (Fh d dU r.service r.inst now).key (Fh d dU r.service r.inst now).bO).iS with kind:=1 },Zm⟩
theorem cE{d:Db}{dU:List m6}{now address:Int}{aq:Bool}{se:Int}{msg:Bytes}(h:(qv d dU now address aq se msg).ok=Zm):∃ r i L,Ti d dU now address aq se msg (qv d dU now address aq se msg) r i L:=by
 obtain⟨A,hA⟩:∃ A,qv d dU now address aq se msg=A:=⟨_,rfl⟩;rw[hA] at h ⊢;unfold qv at hA;by_cases h1:(within now 4294967295&&within address 4294967295)=Zm;case neg=>rw[Qa1 (by simp only[Bool.not_eq_true] at h1;rw[h1];rfl)] at hA;subst hA;cases h
 rw[Qa0 (by rw[h1];simp)] at hA;by_cases h2:(fV msg).err=0;case neg=>rw[Qa1 h2] at hA;subst hA;cases h
 rw[Qa0 (by simpa using h2)] at hA;obtain⟨r,hr⟩:∃ r,(fV msg).val=r:=⟨_,rfl⟩;have ab_:fV msg=⟨r,0⟩:=by cases hd:fV msg;rw[hd] at h2 hr;simp at h2 hr;rw[h2,hr]
 rw[hr] at hA;unfold Kb at hA;by_cases h3:r.client.aJ=d.aJ;case neg=>rw[Qa1 h3] at hA;subst hA;cases h
 rw[Qa0 (by simpa using h3)] at hA;obtain⟨⟨i,e⟩,hi⟩:∃ i,pJ d r.client.name r.client.inst now=i:=⟨_,rfl⟩;rw[hi] at hA;dsimp only at hA;by_cases h4:e=0;case neg=>rw[Qa1 h4] at hA;subst hA;cases h
 subst h4;rw[Qa0 (by simp)] at hA;by_cases h5:(Fh d dU r.service r.inst now).err=0;case neg=>rw[Qa1 h5] at hA;subst hA;cases h
 rw[Qa0 (by simpa using h5)] at hA;unfold FI at hA;obtain⟨⟨L,q⟩,hL⟩:∃ L,n8 (ic d i) (Fh d dU r.service r.inst now) r.cl now=L:=⟨_,rfl⟩;rw[hL] at hA;dsimp only at hA;cases q
 ·rw[Qa1 rfl] at hA;subst hA;cases h
 rw[Qa0 (by simp)] at hA;by_cases h6:gR se=2;case neg=>rw[Qa1 h6] at hA;subst hA;cases h
 rw[Qa0 (by simpa using h6)] at hA;by_cases h7:(uA d.aJ r.client ⟨r.service,r.inst,d.aJ⟩ address aq now L se (ic d i).key (Fh d dU r.service r.inst now).key (Fh d dU r.service r.inst now).bO).err=0;case neg=>rw[Qa1 h7] at hA;subst hA;cases h
 rw[Qa0 (by simpa using h7)] at hA;by_cases h8:(qf ⟨aq,r.client,r.time,(ic d i).eu,(ic d i).bO,[]⟩ (uA d.aJ r.client ⟨r.service,r.inst,d.aJ⟩ address aq now L se (ic d i).key (Fh d dU r.service r.inst now).key (Fh d dU r.service r.inst now).bO).part (ic d i).key).err=0;case neg=>rw[Qa1 h8] at hA;subst hA;cases h
 rw[Qa0 (by simpa using h8)] at hA;rw[Zy] at h1;exact⟨r,i,L,h1.1,h1.2,ab_,h3,hi,h5,hL,h6,h7,h8,hA.symm⟩
structure aaw (d:Db) (now ad se:Int) (A:tG) (r:jn) (i j:Int) (Y:m7) (body:Bytes) (P:gF) (T:dF):Prop where
 f1:ku d.entries r.client.name r.client.inst=(i,0)
 f2:ku d.entries r.service r.inst=(j,0)
 i0:0<=i/\i.toNat<d.entries.length
 j0:0<=j/\j.toNat<d.entries.length
 YJ:bJ A.answer=⟨Y,0⟩
 client:Y.client=r.client
 time:Y.time=r.time
 box:kE Y.ia 3 (ic d i).key=(body,Zm)
 part:bA body Y.aq=⟨P,0⟩
 ZH:fP P.aI (ic d j).key=⟨T,0⟩
 text:P.aI=A.iS.text
 t1:T.client=r.client
 t2:T.aB=se
 t3:P.aB=se
 t4:A.iS.aB=se
 t5:T.address=ad
 t6:T.service=r.service
 t7:T.inst=r.inst
 t8:T.cE=now
 t9:A.iS.mK=(ic d i).key
 e1:(0<(ic d i).eu->A.iS.stop<=(ic d i).eu)/\T.cl<=(ic d i).lS
 e2:(0<(ic d j).eu->A.iS.stop<=(ic d j).eu)/\T.cl<=(ic d j).lS
 e3:T.cl<=r.cl
 e4:A.iS.stop=now+300*(T.cl+1)
 e5:0<=T.cl/\T.cl<=255
 lens:A.answer.length<=140737488355328/\Y.ia.length<=140737488355328/\body.length<=140737488355328/\P.aI.length<=140737488355328
end Kerb
/- Chapter 19: ticket-granting servers. -/
namespace Kerb
open Go Go.Abs
def yM:ff:=⟨Cr,0,0,[],[]⟩
def tV(b:Bytes)(li:Bool):ff :=
 let a:=jV b
 let t:=get b a.next 4 li
 let l:=get b t.next 1 Zu
 let s:=text b l.next
 ⟨a.val,t.val,l.val,s.val,(text b s.next).val⟩
def c6(b:Bytes):Fv ff :=
 if (bh b [3]).2≠0 then⟨yM,(bh b [3]).2⟩ else fU yM dO (fun b=>(tV b (bh b [3]).1,Zu)) b
theorem QO{r:ff}(h:(dO r).err=0):(bZ r.ap).err=0/\r.ap.gS=Zu/\(dO r).val=(bZ r.ap).val++(aN r.time 4 r.ap.aq++(aN r.cl 1 Zu++(r.service++0::(r.inst++0::[])))) /\
  (0<=r.time/\r.time<=4294967295)/\(0<=r.cl/\r.cl<=255)/\(r.service.length<=39/\(0:UInt8) ∉ r.service)/\r.inst.length<=39/\(0:UInt8) ∉ r.inst:=by
 unfold dO at h ⊢;by_cases h0:r.ap.gS=Zm
 ·rw[Qa1 h0] at h;cases h
 rw[Qa0 h0] at h ⊢;by_cases h1:(bZ r.ap).err=0;case neg=>rw[Qa1 h1] at h;exact absurd h h1
 rw[Qa0 (by simpa using h1)] at h ⊢;by_cases h2:(validName r.service&&bS r.inst)=Zm;case neg=>rw[Qa1 (by rw[Bool.not_eq_true] at h2;rw[h2];rfl)] at h;cases h
 rw[Qa0 (by simp[h2])] at h ⊢;by_cases h3:(within r.time 4294967295&&within r.cl 255)=Zm;case neg=>rw[Qa1 (by rw[Bool.not_eq_true] at h3;rw[h3];rfl)] at h;cases h
 rw[Qa0 (by simp[h3])];rw[Zy] at h2 h3;have ok:∀ {s:Bytes},bS s=Zm->s.length<=39/\(0:UInt8) ∉ s:=fun {s} h=>by
  simp only[bS,Zy,Qa2] at h;exact⟨h.1,fun hm=>by
   have:=h.2;simp only[dE,Zf] at this;exact absurd (this 0 hm) (by decide)⟩
 have hn:r.service.length<=39/\(0:UInt8) ∉ r.service:=by
  have h:=h2.1;simp only[validName,Zy,Qa2] at h;exact⟨by omega,fun hm=>by
   have:=h.2;simp only[dE,Zf] at this;exact absurd (this 0 hm) (by decide)⟩
 refine⟨h1,by simpa using h0,?_,within_iff.1 h3.1,within_iff.1 h3.2,hn,ok h2.2⟩;unfold a_;simp only[List.append_assoc,List.singleton_append,List.cons_append,List.nil_append,List.append_nil]
theorem Bg(b:Bytes)(li:Bool):(tV b li).ap.aJ.length<=9223372036854775807/\(tV b li).service.length<=9223372036854775807/\(tV b li).inst.length<=9223372036854775807:=by
 have h:∀ q,(text b q).val.length<=9223372036854775807:=fun q=>by have:=jC b q;omega
 exact⟨h _,h _,h _⟩
theorem D4(b:Bytes):((c6 b).val.ap.aJ.length<=9223372036854775807/\(c6 b).val.service.length<=9223372036854775807/\(c6 b).val.inst.length<=9223372036854775807)/\(c6 b).val.ap.aI.length<=255/\(c6 b).val.ap.fg.length<=255:=by
 have h0:(yM.ap.aJ.length<=9223372036854775807/\yM.service.length<=9223372036854775807/\yM.inst.length<=9223372036854775807)/\yM.ap.aI.length<=255/\yM.ap.fg.length<=255:=by decide
 unfold c6;split
 ·exact h0
 unfold fU;split
 ·exact h0
 ·rename_i h;have he:(dO (tV b (bh b [3]).1)).err=0:=Decidable.byContradiction fun q=>h (.inr (.inl q));obtain⟨_,_,_,h1,h2⟩:=Nr (QO he).1;exact⟨Bg _ _,h1,h2⟩
structure aay where
 s:Server
 out:tG
namespace Case
def VD(c:Case)(m:bf)(k v time cl:Int)(sv:bf):ff:=⟨{ c.VZ m k v with gS:=Zu },time,cl,sv.name,sv.inst⟩
def VC(c:Case)(m:bf)(k v time cl:Int)(sv:bf):Bytes:=(dO (c.VD m k v time cl sv)).val
end Case
structure yZ where
 j7:Case
 src:UInt8
 to:UInt8
 peer:UInt8
 cl:UInt8
 now:UInt8
 bO:UInt8
 how:Int
def yZ.key(a:yZ)(dU:List m6):oM :=
 if a.src.toNat % 3=2/\0<dU.length then⟨⟨AL,aJ 0,(dU.getD (a.bO.toNat % dU.length) nL).source⟩,(dU.getD (a.bO.toNat % dU.length) nL).bO,(dU.getD (a.bO.toNat % dU.length) nL).key⟩
 else⟨⟨AL,aJ 0,aJ 0⟩,6,ou 3⟩
def yZ.want(a:yZ):bf:=if a.to.toNat % 5=4 then⟨AL,aJ (nt a.peer),aJ 0⟩ else Kerb.service (nt a.to % 3)
def yZ.base(a:yZ)(dU:List m6):Bytes:=a.j7.VC (a.key dU).service (a.key dU).key (a.key dU).bO 5 (nt a.cl) a.want
def yZ.msg(a:yZ)(dU:List m6):Bytes:=if a.how % 8=7 then oJ (a.base dU) (a.how / 8) else a.base dU
def yZ.av(q:yZ):AV := .agg [.u8 q.j7.client,.u8 q.j7.other,.u8 q.j7.service,.u8 q.j7.aJ,.bool q.j7.aq,.bool q.j7.turned,.bool q.j7.gS,.u8 q.j7.address,.u8 q.j7.src,.u8 q.j7.cE,.u8 q.j7.time,.u8 q.j7.tick,.u8 q.j7.cl,.int .u32 q.j7.cX,.u8 q.j7.key,.u8 q.j7.bO,.u8 q.j7.aB,.int .u16 q.j7.aI,.int .u16 q.j7.fg,.u8 q.src,.u8 q.to,.u8 q.peer,.u8 q.cl,.u8 q.now,.u8 q.bO,.int .u16 q.how]
def yZ.ok(q:yZ):Prop:=q.j7.ok/\Oy q.how=Zm
theorem Lu{r:ff}(h:(dO r).err≠0):(dO r).val=[]:=by grind [dO]
theorem Sj(r:ff):(dO r).val.length<=800:=by
 by_cases h:(dO r).err=0
 ·obtain⟨h1,h2,h3,h4,h5,h6,h7⟩:=QO h;rw[h3];have:=Ns r.ap;simp only[Zd,Zj,List.length_nil,af];omega
 ·rw[Lu h];simp
end Kerb
/- Chapter 28: when two texts are the same ticket. -/
namespace Kerb
open Go Go.Abs
def o0(b:Bytes):Bool:=(aW b).err==0&&(aW b).n==(b.length:Int)
end Kerb
/- Chapter 27: what an adversary can know, in plain words. -/
namespace Kerb
open Go Go.Abs
def dy(l:List Int):List AV:=l.map (AV.int .u64)
def c8(l:List Bytes):List AV:=l.map AV.bs
def Fi:AV->Bytes
 | .bs b=>b
 | _=>[]
def rf(els:List AV):List Bytes:=els.map Fi
def X4:AV->Bool
 | .bs _=>Zm
 | _=>Zu
def vK(els:List AV):Bool:=els.all X4
theorem xx(l:List Int):ny (dy l)=l:=by simp[ny,dy,Function.comp_def]
theorem ub(l:List Bytes):rf (c8 l)=l:=by simp[rf,c8,Function.comp_def,Fi]
theorem xw(l:List Int):ep (dy l)=Zm:=by simp[ep,dy]
theorem Fk(l:List Bytes):vK (c8 l)=Zm:=by simp[vK,c8,X4]
theorem fv(l:List Int):(dy l).length=l.length:=by simp[dy]
theorem eM(l:List Bytes):(c8 l).length=l.length:=by simp[c8]
theorem O7{els:List AV}(h:ep els=Zm):∃ ks,els=dy ks:=⟨ny els,by
 have:=FJ h;simpa [back,cM,dy] using this.symm⟩
theorem UN{els:List AV}(h:vK els=Zm):∃ bs,els=c8 bs:=⟨rf els,by
 unfold rf c8;rw[List.map_map];conv=>lhs;rw[<-List.map_id els]
 apply List.map_congr_left;intro a ha;simp only[vK,Zf] at h;have:=h a ha;cases a<;>first | (cases this;done) | rfl⟩
theorem kG{l:List Int}{i:Nat}(h:i<l.length):(dy l).getD i .undef = .int .u64 (l.getD i 0):=by
 simp[dy,List.getD,h]
theorem kF{l:List Bytes}{i:Nat}(h:i<l.length):(c8 l).getD i .undef = .bs (l.getD i []):=by
 simp[c8,List.getD,h]
def vM:List Int->Bool
 | x::y::r=>decide (x<y)&&vM (y::r)
 | _=>Zm
def nw:List Int->Int->List Int
 | [],k=>[k]
 | x::r,k=>bif decide (x<k) then x::nw r k else bif x==k then x::r else k::x::r
theorem AE{k y:Int}:∀ {l:List Int},y∈nw l k↔y=k\/y∈l
 | []=>by simp[nw]
 | x::r=>by
  unfold nw;cases h1:decide (x<k) with
  | true=>simp only[Qa5,Zw,AE (l:=r)];exact or_left_comm
  | false =>
   cases h2:x==k with
   | true =>
    have e:=Qa9 h2;subst e;simp only[Qa6,Qa5,Zw];exact⟨fun h => .inr h,fun h=>h.elim .inl id⟩
   | false=>simp only[Qa6,Zw]
theorem FH{x:Int}{l:List Int}(h:vM (x::l)=Zm):vM l=Zm:=by
 cases l with
 | nil=>rfl
 | cons y r=>simp only[vM,Zy] at h;exact h.2
theorem vN{x:Int}:∀ {l:List Int},vM (x::l)=Zm->∀ y∈l,x<y
 | [],_,y,hy=>by cases hy
 | z::r,h,y,hy=>by
  simp only[vM,Zy,Qa2] at h;rcases Zw.1 hy with rfl | hy
  ·exact h.1
  ·have:=vN h.2 y hy;omega
theorem FG{x:Int}{l:List Int}(h:vM l=Zm)(hx:∀ y∈l,x<y):vM (x::l)=Zm:=by
 cases l with
 | nil=>rfl
 | cons y r=>simp only[vM,Zy,Qa2];exact⟨hx y (by simp),h⟩
theorem vO{k:Int}:∀ {l:List Int},vM l=Zm->vM (nw l k)=Zm
 | [],_=>rfl
 | x::r,h=>by
  unfold nw;cases h1:decide (x<k) with
  | true =>
   simp only[Qa5];have hx:x<k:=Qa3 h1;refine FG (vO (FH h)) fun y hy=> ?_;rcases AE.1 hy with rfl | hy
   ·exact hx
   ·exact vN h y hy
  | false =>
   cases h2:x==k with
   | true=>exact h
   | false =>
    simp only[Qa6];have hx:¬ x<k:=of_decide_eq_false h1;have hk:k<x:=by
     have:x≠k:=by intro e;subst e;simp at h2
     omega
    refine FG h fun y hy=> ?_;rcases Zw.1 hy with rfl | hy
    ·exact hk
    ·have:=vN h y hy;omega
theorem x9{k:Int}:∀ {l:List Int},k ∉ l->(nw l k).Perm (l++[k])
 | [],_ => .refl _
 | x::r,h=>by
  unfold nw;cases h1:decide (x<k) with
  | true =>
   simp only[Qa5,List.cons_append];exact List.Perm.cons _ (x9 fun hm=>h (Zv _ hm))
  | false =>
   cases h2:x==k with
   | true=>exact absurd (by rw[Qa9 h2];simp) h
   | false =>
    simp only[Qa6];exact(List.perm_append_singleton k (x::r)).symm
theorem GG{k:Int}{l:List Int}(h:k ∉ l):(nw l k).length=l.length+1:=by
 rw[(x9 h).length_eq];simp
theorem DU:∀ {l:List Int},vM l=Zm->∀ {i j:Nat},i<j->(hj:j<l.length)->l[i]! < l[j]!
 | [],_,i,j,_,hj=>by simp at hj
 | x::r,h,i,j,Q1,hj=>by
  cases j with
  | zero=>omega
  | succ j =>
   have Iw:j<r.length:=by simpa using hj
   cases i with
   | zero =>
    have:=vN h (r[j]!) (by rw[getElem!_pos r j Iw];exact List.getElem_mem Iw);simpa using this
   | succ i =>
    have:=DU (FH h) (i:=i) (j:=j) (by omega) Iw;simpa using this
theorem Nl{l:List Int}{k:Int}(h:vM l=Zm)(hk:k ∉ l):B9 (dy l) k=dy (nw l k):=by
 unfold B9 yV back dy;congr 1;have e0:cM (l.map (AV.int .u64)++[.int .u64 k])=(l++[k]).toArray:=by simp[cM,ny,Function.comp_def]
 rw[e0,Go.Sort.sortInt (l++[k])];have hu:=Go.Sort.sorted_unique_holds Go.Sort.swo_ltInt (fun x y h1 h2=>by simp only[Go.Sort.ltInt,decide_eq_false_iff_not] at h1 h2;omega) (l++[k]).toArray (nw l k).toArray;have hp:=x9 hk;have hl:=GG hk;have:=hu ⟨by simp[hl],fun i hi=>by
   have h1:¬ i<(nw l k).length:=by rw[hl];simp at hi;omega
   have h2:¬ i<(l++[k]).length:=by simp at hi ⊢;omega
   simp[Array.getElem!_eq_getD,Array.getD,h1,h2];intro hh;simp at h2;omega,by
   have g1:(nw l k).toArray.extract 0 (l++[k]).toArray.size=(nw l k).toArray:=by apply Array.extract_eq_self_of_le;simp[hl]
   have g2:(l++[k]).toArray.extract 0 (l++[k]).toArray.size=(l++[k]).toArray:=by apply Array.extract_eq_self_of_le;simp
   rw[g1,g2];exact hp⟩ (fun i j _ Q1 hj=>by
   simp only[Go.Sort.ltInt,decide_eq_false_iff_not];have Iw:j<(nw l k).length:=by rw[hl];simpa using hj
   have:=DU (vO (k:=k) h) Q1 Iw;simp only[List.getElem!_toArray];omega)
 rw[show(nw l k)=(nw l k).toArray.toList from rfl,this];simp only[Go.Sort.ltInt];congr 1;funext x y;by_cases hxy:x<=y
 ·have h':¬ y<x:=by omega
  simp[hxy,h']
 ·have h':y<x:=by omega
  simp[hxy,h']
theorem Nt{l:List Int}(h:vM l=Zm):Ld (dy l)=Zm:=by
 simp only[Ld,Zf,List.mem_range,fv,Qa2];intro i hi;have e:=DU h (i:=i) (j:=i+1) (by omega) (by omega);have h1:i<l.length:=by omega
 have h2:i+1<l.length:=by omega
 simp only[num,kG h1,kG h2];simpa [List.getD,h1,h2,getElem!_pos] using e
end Kerb
/- Chapter 27: the boxes of a message, what is in a box, the closure of knowledge. -/
namespace Kerb
open Go Go.Abs
def gZ(l:List Bytes):List Bytes:=l.filter o0
def bQ(l:List Int):List Int:=l.filter bm
def l7(b:Bytes):List Bytes :=
 if (bJ b).err=0 then[(bJ b).val.ia]
 else if (fl b).err=0 then[(fl b).val.aI,(fl b).val.fg]
 else if (c6 b).err=0 then[(c6 b).val.ap.aI,(c6 b).val.ap.fg]
 else if (ig b).err=0 then[(ig b).val]
 else if (g9 b).err=0 then[(g9 b).ia]
 else if (bn b).err=0 then[(bn b).val.aI,(bn b).val.box]
 else if (dd b).err=0 then[(dd b).val.box]
 else if (eW b).err=0 then[(eW b).val.box] else[]
def partsOf(b:Bytes):List Bytes:=gZ (l7 b)
structure Is where
 keys:List Int
 boxes:List Bytes
def x8(b:Bytes)(li:Bool):Is:=⟨bQ [(bA b li).val.aB],gZ [(bA b li).val.aI]⟩
def iJ(x:VG):Is :=
 if x.kind=1 then(if (bY x.body).err=0 then⟨bQ [(bY x.body).val.aB],[]⟩ else⟨[],[]⟩)
 else if x.kind=3 then(if (bA x.body Zu).err=0 then x8 x.body Zu else if (bA x.body Zm).err=0 then x8 x.body Zm else⟨[],[]⟩)
 else if x.kind=7 then(if (cR x.body).err=0 then⟨bQ [(cR x.body).val.new],[]⟩ else⟨[],[]⟩)
 else if x.kind=8 then(if (br x.body).err=0 then⟨bQ [(br x.body).val.aB],gZ [(br x.body).val.aI]⟩ else⟨[],[]⟩)
 else if x.kind=9 then(if (df x.body).err=0 then⟨bQ [(df x.body).val.aB],[]⟩ else⟨[],[]⟩)
 else if x.kind=10 then(if (cF x.body).err=0 then⟨bQ [(cF x.body).val.aB],gZ [(cF x.body).val.record]⟩ else⟨[],[]⟩)
 else⟨[],[]⟩
structure Kn where
 keys:List Int
 boxes:List Bytes
def iQ(K:List Int)(l:List Int):List Int:=l.foldl (fun K k=>bif K.contains k then K else nw K k) K
def fb(B:List Bytes)(l:List Bytes):List Bytes:=l.foldl (fun B b=>bif B.contains b then B else B++[b]) B
def Kn.add(s:Kn)(x:Is):Kn:=⟨iQ s.keys x.keys,fb s.boxes x.boxes⟩
def Kn.has(s:Kn)(x:Is):Bool:=x.keys.all (fun k=>s.keys.contains k)&&x.boxes.all fun b=>s.boxes.contains b
def cj(b:Bytes):Is:=iJ (aW b).box
def Kn.done(s:Kn)(b:Bytes):Bool := !((aW b).err==0)||s.has (cj b)
def Kn.opens(s:Kn)(b:Bytes):Bool:=(aW b).err==0&&s.keys.contains (aW b).box.key && !s.has (cj b)
def Kn.next(s:Kn):Option Bytes:=s.boxes.find? s.opens
def pk:Nat->Kn->Kn
 | 0,s=>s
 | n+1,s=>match s.next with
  | some b=>pk n (s.add (cj b))
  | none=>s
def BQ(s:Kn):Nat:=((s.boxes.filter fun b => !s.done b).map List.length).sum
def ml(s:Kn):Nat:=s.keys.length+s.boxes.length+BQ s
def close(s:Kn):Kn:=pk (ml s) s
def learn(s:Kn)(m:Bytes):Kn:=close (s.add ⟨[],partsOf m⟩)
def leak(s:Kn)(k:Int):Kn:=close (s.add ⟨bQ [k],[]⟩)
def jr:Nat->Kn->Bytes->Bool
 | 0,_,_=>Zu
 | n+1,s,b=>s.boxes.contains b||(o0 b&&s.keys.contains (aW b).box.key&&(cj b).keys.all (fun k=>s.keys.contains k)&&(cj b).boxes.all fun b=>jr n s b)
def d_(s:Kn)(b:Bytes):Bool:=jr (b.length+1) s b
def DY(s:Kn)(m:Bytes):Bool:=(partsOf m).all (d_ s)
theorem pj(k:Int):(bQ [k]).length<=1:=List.length_filter_le _ _
theorem FK(b:Bytes):(gZ [b]).length<=1:=List.length_filter_le _ _
theorem oT{l:List Bytes}{b:Bytes}(h:b∈gZ l):b∈l/\o0 b=Zm:=List.mem_filter.1 h
theorem yz{a b:Bytes}(h:b∈gZ [a]):b=a:=by simpa using (oT h).1
theorem uq(b:Bytes)(li:Bool):(bA b li).val.aI.length<=b.length:=by
 unfold bA;split
 ·exact Zz _
 ·exact jG _ _ _
theorem iY{α:Type}{no:α}{enc:α->ll}{rd:Bytes->α×Bool}{b:Bytes}(P:α->Prop)(h1:P no)(h2:P (rd b).1):P (fU no enc rd b).val:=by
 unfold fU;split
 ·exact h1
 ·exact h2
theorem RW(b:Bytes):(Hi b).val.aI.length<=b.length:=by
 unfold Hi;dsimp only;cases dD (dj b 4 0 Zu).val
 ·exact Zz _
 ·exact mE _ _ _ _
theorem oW(b:Bytes):(br b).val.aI.length<=b.length :=
 iY (fun a:gq=>a.aI.length<=b.length) (Zz _) (RW b)
theorem sf(b:Bytes):(cF b).val.record.length<=b.length :=
 iY (fun a:uj=>a.record.length<=b.length) (Zz _) (jG _ _ _)
theorem nR(b:Bytes):(aW b).box.body.length+12<=b.length\/(aW b).box=G7:=by grind [cut,aW]
structure Fy (x:Is) (n:Nat):Prop where
 keys:x.keys.length<=1
 boxes:x.boxes.length<=1
 len:∀ b∈x.boxes,b.length<=n
 lE:∀ b∈x.boxes,o0 b=Zm
 valid:∀ k∈x.keys,bm k=Zm
theorem AB(n:Nat):Fy ⟨[],[]⟩ n:=⟨by simp,by simp,by simp,by simp,by simp⟩
theorem LV(k:Int)(n:Nat):Fy ⟨bQ [k],[]⟩ n:=⟨pj k,by simp,by simp,by simp,fun k' h=>(List.mem_filter.1 h).2⟩
theorem u9(k:Int){b:Bytes}{n:Nat}(h:b.length<=n):Fy ⟨bQ [k],gZ [b]⟩ n :=
 ⟨pj k,FK b,fun b' hb=>by rw[yz hb];exact h,fun b' hb=>(oT hb).2,fun k' h=>(List.mem_filter.1 h).2⟩
theorem AD(x:VG):Fy (iJ x) x.body.length:=by
 unfold iJ;repeat' split
 all_goals first
  | exact AB _
  | exact LV _ _
  | exact u9 _ (uq _ _)
  | exact u9 _ (oW _)
  | exact u9 _ (sf _)
theorem AC:iJ G7=⟨[],[]⟩:=rfl
theorem Az(b:Bytes):Fy (cj b) (b.length-12):=by
 unfold cj;rcases nR b with h | h
 ·have h1:=AD (aW b).box;exact⟨h1.keys,h1.boxes,fun b' hb=>by have:=h1.len b' hb;omega,h1.lE,h1.valid⟩
 ·rw[h,AC];exact AB _
theorem Be{b:Bytes}(h:(aW b).err=0):12<=b.length:=by
 unfold aW at h;split at h
 ·cases h
 ·omega
theorem pX{b b':Bytes}(h:b'∈(cj b).boxes):b'.length+12<=b.length:=by
 rcases nR b with h1 | h1
 ·have:=(AD (aW b).box).len b' h;omega
 ·unfold cj at h;rw[h1,AC] at h;cases h
theorem iX{y:Bytes}:∀ {l B:List Bytes},y∈fb B l↔y∈B\/y∈l
 | [],B=>by simp[fb]
 | b::l,B=>by
  have e:fb B (b::l)=fb (bif B.contains b then B else B++[b]) l:=rfl;rw[e,iX (l:=l)];cases h:B.contains b with
  | true =>
   have hb:b∈B:=by simpa using h
   simp only[Qa5,Zw];constructor
   ·rintro(h | h)
    ·exact .inl h
    ·exact .inr (.inr h)
   ·rintro(h | rfl | h)
    ·exact .inl h
    ·exact .inl hb
    ·exact .inr h
  | false=>simp only[Qa6,List.mem_append,Zw,List.not_mem_nil,or_false];exact or_assoc
theorem kR{y:Int}:∀ {l K:List Int},y∈iQ K l↔y∈K\/y∈l
 | [],K=>by simp[iQ]
 | k::l,K=>by
  have e:iQ K (k::l)=iQ (bif K.contains k then K else nw K k) l:=rfl;rw[e,kR (l:=l)];cases h:K.contains k with
  | true =>
   have hb:k∈K:=by simpa using h
   simp only[Qa5,Zw];constructor
   ·rintro(h | h)
    ·exact .inl h
    ·exact .inr (.inr h)
   ·rintro(h | rfl | h)
    ·exact .inl h
    ·exact .inl hb
    ·exact .inr h
  | false =>
   simp only[Qa6,AE,Zw];constructor
   ·rintro((h | h) | h)
    ·exact .inr (.inl h)
    ·exact .inl h
    ·exact .inr (.inr h)
   ·rintro(h | h | h)
    ·exact .inl (.inr h)
    ·exact .inl (.inl h)
    ·exact .inr h
theorem mr:∀ {l K:List Int},vM K=Zm->vM (iQ K l)=Zm
 | [],K,h=>h
 | k::l,K,h=>by
  have e:iQ K (k::l)=iQ (bif K.contains k then K else nw K k) l:=rfl;rw[e];cases K.contains k with
  | true=>exact mr h
  | false=>exact mr (vO h)
theorem vJ:∀ {l K:List Int},(iQ K l).length<=K.length+l.length
 | [],K=>Zn _
 | k::l,K=>by
  have e:iQ K (k::l)=iQ (bif K.contains k then K else nw K k) l:=rfl;rw[e];have h1:=vJ (l:=l) (K:=bif K.contains k then K else nw K k);cases h:K.contains k with
  | true=>rw[h] at h1;simp only[Qa5,Zj] at h1 ⊢;omega
  | false =>
   rw[h] at h1;have:=GG (k:=k) (l:=K) (by simpa using h);simp only[Qa6,Zj] at h1 ⊢;omega
theorem iC:∀ {l B:List Bytes},∃ N,fb B l=B++N/\N.length<=l.length/\(∀ b∈N,b∈l/\b ∉ B)
 | [],B=>⟨[],by simp[fb],Zn _,by simp⟩
 | b::l,B=>by
  have e:fb B (b::l)=fb (bif B.contains b then B else B++[b]) l:=rfl;rw[e];cases h:B.contains b with
  | true =>
   obtain⟨N,h1,h2,h3⟩:=iC (l:=l) (B:=B);exact⟨N,h1,by simp only[Zj];omega,fun x hx=>⟨Zv _ (h3 x hx).1,(h3 x hx).2⟩⟩
  | false =>
   obtain⟨N,h1,h2,h3⟩:=iC (l:=l) (B:=B++[b]);refine⟨b::N,by simp only[Qa6];rw[h1];simp,by simp only[Zj];omega,fun x hx=> ?_⟩;rcases Zw.1 hx with rfl | hx
   ·exact⟨by simp,by simpa using h⟩
   ·obtain⟨g1,g2⟩:=h3 x hx;exact⟨Zv _ g1,fun hm=>g2 (by simp[hm])⟩
theorem tK{s:Kn}{x:Is}:s.has x=Zm↔(∀ k∈x.keys,k∈s.keys)/\∀ b∈x.boxes,b∈s.boxes:=by
 simp[Kn.has]
def Sub(s t:Kn):Prop:=(∀ k∈s.keys,k∈t.keys)/\∀ b∈s.boxes,b∈t.boxes
theorem Sub.refl(s:Kn):Sub s s:=⟨fun _ h=>h,fun _ h=>h⟩
theorem Sub.trans{s t u:Kn}(h1:Sub s t)(h2:Sub t u):Sub s u:=⟨fun k h=>h2.1 k (h1.1 k h),fun k h=>h2.2 k (h1.2 k h)⟩
theorem Sub.has{s t:Kn}(h:Sub s t){x:Is}(hx:s.has x=Zm):t.has x=Zm :=
 tK.2 ⟨fun k hk=>h.1 k ((tK.1 hx).1 k hk),fun k hk=>h.2 k ((tK.1 hx).2 k hk)⟩
theorem Sub.done{s t:Kn}(h:Sub s t){b:Bytes}(hx:s.done b=Zm):t.done b=Zm:=by
 unfold Kn.done at hx ⊢;rw[Bool.or_eq_true] at hx ⊢;rcases hx with hx | hx
 ·exact .inl hx
 ·exact .inr (h.has hx)
theorem Fg(s:Kn)(x:Is):Sub s (s.add x):=⟨fun k h=>kR.2 (.inl h),fun b h=>iX.2 (.inl h)⟩
theorem J'(s:Kn)(x:Is):(s.add x).has x=Zm:=tK.2 ⟨fun k h=>kR.2 (.inr h),fun b h=>iX.2 (.inr h)⟩
theorem tR{s:Kn}{b:Bytes}:s.opens b=Zm↔(aW b).err=0/\(aW b).box.key∈s.keys/\s.has (cj b)=Zu:=by
 simp[Kn.opens,and_assoc]
theorem Il{p q:Bytes->Bool}{b:Bytes}:∀ {l:List Bytes},(∀ x∈l,q x=Zm->p x=Zm)->b∈l->p b=Zm->q b=Zu->((l.filter q).map List.length).sum+b.length<=((l.filter p).map List.length).sum
 | [],_,h,_,_=>by cases h
 | a::l,h1,h2,h3,h4=>by
  have le:∀ {l:List Bytes},(∀ x∈l,q x=Zm->p x=Zm)->((l.filter q).map List.length).sum<=((l.filter p).map List.length).sum:=by
   intro l;induction l with
   | nil=>intro _;exact Zn _
   | cons c l ih =>
    intro hc;have:=ih fun x hx=>hc x (Zv _ hx);cases hq:q c with
    | true=>simp only[Zx,hq,hc c (by simp) hq,if_true,Zp,Zk];omega
    | false =>
     cases hp:p c with
     | true=>simp only[Zx,hq,hp,if_true,Zq,if_false,Zp,Zk];omega
     | false=>simpa only[Zx,hq,hp,Zq,if_false] using this
  rcases Zw.1 h2 with rfl | h2
  ·have:=le (l:=l) fun x hx=>h1 x (Zv _ hx);simp only[Zx,h3,h4,if_true,Zq,if_false,Zp,Zk];omega
  ·have:=Il (l:=l) (fun x hx=>h1 x (Zv _ hx)) h2 h3 h4;cases hq:q a with
   | true=>simp only[Zx,hq,h1 a (by simp) hq,if_true,Zp,Zk];omega
   | false =>
    cases hp:p a with
    | true=>simp only[Zx,hq,hp,if_true,Zq,if_false,Zp,Zk];omega
    | false=>simpa only[Zx,hq,hp,Zq,if_false] using this
theorem Vs{p:Bytes->Bool}{m:Nat}:∀ {l:List Bytes},l.length<=1->(∀ x∈l,x.length<=m)->((l.filter p).map List.length).sum<=m
 | [],_,_=>Zz _
 | [a],_,h=>by
  have:=h a (by simp);cases hp:p a<;>simp[hp]<;>omega
 | _::_::_,h,_=>by simp at h
theorem oC{s:Kn}{b:Bytes}(hb:b∈s.boxes)(ho:s.opens b=Zm):ml (s.add (cj b))<ml s:=by
 obtain⟨h1,h2,h3⟩:=tR.1 ho;have hl:=Be h1;have hi:=Az b;obtain⟨N,e,hN,hN2⟩:=iC (l:=(cj b).boxes) (B:=s.boxes);have hk:=vJ (l:=(cj b).keys) (K:=s.keys);have hu:BQ (s.add (cj b))+b.length<=BQ s+(b.length-12):=by
  unfold BQ;rw[show(s.add (cj b)).boxes=s.boxes++N from e,List.filter_append,List.map_append,List.sum_append];have a1:=Il (p:=fun b => !s.done b) (q:=fun x => !(s.add (cj b)).done x) (b:=b) (l:=s.boxes) (fun x _ hx=>by
   simp only[Bool.not_eq_true',Bool.not_eq_eq_eq_not,Bool.not_true] at hx ⊢;cases hd:s.done x with
   | false=>rfl
   | true=>rw[(Fg s (cj b)).done hd] at hx;cases hx) hb (by simp[Kn.done,h1,h3]) (by simp[Kn.done,h1,J'])
  have a2:=Vs (p:=fun x => !(s.add (cj b)).done x) (m:=b.length-12) (l:=N) (Zb hN hi.boxes) fun x hx=>hi.len x (hN2 x hx).1;omega
 have h4:(s.add (cj b)).boxes.length<=s.boxes.length+1:=by
  rw[show(s.add (cj b)).boxes=s.boxes++N from e,Zd];have:=hi.boxes;omega
 have h5:(s.add (cj b)).keys.length<=s.keys.length+1:=Zb hk (by have:=hi.keys;omega);unfold ml;omega
theorem qa{s:Kn}{b:Bytes}(h:s.next=some b):b∈s.boxes/\s.opens b=Zm:=⟨List.mem_of_find?_eq_some h,List.find?_some h⟩
theorem Cc:∀ {n:Nat} {s:Kn},ml s<=n->pk n s=close s:=by
 intro n;induction n using Nat.strongRecOn with
 | _ n ih =>
  intro s h;have key:∀ m,ml s<=m->m<=n->pk m s=pk (ml s) s:=by
   intro m h1 h2;cases hn:s.next with
   | none =>
    have:∀ q,pk q s=s:=fun q=>by cases q with
     | zero=>rfl
     | succ q=>simp only[pk,hn]
    rw[this,this]
   | some b =>
    obtain⟨g1,g2⟩:=qa hn;have fz:=oC g1 g2;obtain⟨q,rfl⟩:∃ q,m=q+1:=⟨m-1,by omega⟩;obtain⟨r,hr⟩:∃ r,ml s=r+1:=⟨ml s-1,by omega⟩;rw[hr];simp only[pk,hn];rw[ih q (by omega) (s:=s.add (cj b)) (by omega),ih r (by omega) (s:=s.add (cj b)) (by omega)]
  exact key n h (Zn _)
theorem zX{s:Kn}{b:Bytes}(h:s.next=some b):close s=close (s.add (cj b)):=by
 obtain⟨g1,g2⟩:=qa h;have fz:=oC g1 g2;obtain⟨r,hr⟩:∃ r,ml s=r+1:=⟨ml s-1,by omega⟩;unfold close;rw[hr];simp only[pk,h];exact Cc (by omega)
theorem uR{s:Kn}(h:s.next=none):close s=s:=by
 unfold close;cases ml s with
 | zero=>rfl
 | succ n=>simp only[pk,h]
theorem xQ{P:Kn->Prop}(sG:∀ s b,P s->b∈s.boxes->s.opens b=Zm->P (s.add (cj b))):∀ s,P s->P (close s)/\(close s).next=none:=by
 have:∀ n s,ml s<=n->P s->P (close s)/\(close s).next=none:=by
  intro n;induction n with
  | zero =>
   intro s hm hp;cases hn:s.next with
   | none=>rw[uR hn];exact⟨hp,hn⟩
   | some b =>
    obtain⟨g1,g2⟩:=qa hn;have:=oC g1 g2;omega
  | succ n ih =>
   intro s hm hp;cases hn:s.next with
   | none=>rw[uR hn];exact⟨hp,hn⟩
   | some b =>
    obtain⟨g1,g2⟩:=qa hn;have:=oC g1 g2;rw[zX hn];exact ih _ (by omega) (sG s b hp g1 g2)
 exact fun s=>this _ s (Zn _)
end Kerb
/- Chapter 27: what is asked of knowledge that is handed over. -/
namespace Kerb
open Go Go.Abs
def kn(ks bs:List AV):Kn:=⟨ny ks,rf bs⟩
def sO(bs:List AV):Bool:=vK bs&&bs.all (fun a=>decide ((Fi a).length<=70368744177664))&&decide (bs.length<=100000000)
def x_(ks:List AV):Bool:=ep ks&&(ny ks).all (fun k=>decide (0<=k)&&decide (k<18446744073709551616))&&decide (ks.length<=100000000)
def vd(ks bs:List AV):Bool:=ep ks&&sO bs&&vM (ny ks)&&decide (ml (kn ks bs)<=1000000)&&(rf bs).all fun b=>decide (b.length<=70368744170000)
structure eV (s:Kn):Prop where
 vM:vM s.keys=Zm
 len:∀ b∈s.boxes,b.length<=70368744170000
 ml:ml s<=1000000
theorem uE(s:Kn):kn (dy s.keys) (c8 s.boxes)=s:=by unfold kn;rw[xx,ub]
theorem zu{l:List Bytes}:sO (c8 l)=Zm↔(∀ b∈l,b.length<=70368744177664)/\l.length<=100000000:=by
 unfold sO;rw[Fk,eM];simp[c8,Fi];intro _;exact⟨fun h b hb=>Qa3 (h b hb),fun h b hb=>Qa4 (h b hb)⟩
theorem KR{bs:List AV}(h:sO bs=Zm):∃ l,bs=c8 l/\(∀ b∈l,b.length<=70368744177664)/\l.length<=100000000:=by
 have h':=h;unfold sO at h;simp only[Zy] at h;obtain⟨l,rfl⟩:=UN h.1.1;exact⟨l,rfl,zu.1 h'⟩
theorem KE{l:List Int}:x_ (dy l)=Zm↔(∀ k∈l,0<=k/\k<18446744073709551616)/\l.length<=100000000:=by
 unfold x_;rw[xw,fv,xx];simp
theorem RQ{ks:List AV}(h:x_ ks=Zm):∃ l,ks=dy l/\(∀ k∈l,0<=k/\k<18446744073709551616)/\l.length<=100000000:=by
 have h':=h;unfold x_ at h;simp only[Zy] at h;obtain⟨l,rfl⟩:=O7 h.1.1;exact⟨l,rfl,KE.1 h'⟩
theorem KG{s:Kn}:vd (dy s.keys) (c8 s.boxes)=Zm↔eV s:=by
 unfold vd;rw[uE,xw,xx,ub];simp only[Zy,Qa2,zu,Qa8,Zf];constructor
 ·rintro⟨⟨⟨⟨h1,h2⟩,h3⟩,h4⟩,h5⟩;exact⟨h3,h5,h4⟩
 ·rintro⟨h1,h2,h3⟩;refine⟨⟨⟨⟨fun b hb=>Zb (h2 b hb) (by decide),?_⟩,h1⟩,h3⟩,h2⟩;have:s.boxes.length<=ml s:=by unfold ml;omega
  omega
theorem KQ{ks bs:List AV}(h:vd ks bs=Zm):∃ s:Kn,ks=dy s.keys/\bs=c8 s.boxes/\eV s:=by
 have h':=h;unfold vd at h;simp only[Zy] at h;obtain⟨l,rfl⟩:=O7 h.1.1.1.1;obtain⟨m,rfl,_⟩:=KR h.1.1.1.2;exact⟨⟨l,m⟩,rfl,rfl,KG (s:=⟨l,m⟩).1 h'⟩
theorem eV.GN{s:Kn}(h:eV s):s.keys.length<=1000000:=by have:=h.ml;unfold Kerb.ml at this;omega
theorem eV.xO{s:Kn}(h:eV s):s.boxes.length<=1000000:=by have:=h.ml;unfold Kerb.ml at this;omega
theorem eV.open{s:Kn}{b:Bytes}(h:eV s)(hb:b∈s.boxes)(ho:s.opens b=Zm):eV (s.add (cj b)) :=
 ⟨mr h.vM,fun x hx=>by
  rcases iX.1 hx with hx | hx
  ·exact h.len x hx
  ·have:=pX hx;have:=h.len b hb;omega,Nat.le_of_lt (Nat.lt_of_lt_of_le (oC hb ho) h.ml)⟩
theorem eV.close{s:Kn}(h:eV s):eV (Kerb.close s):=(xQ (P:=eV) (fun s b hs hb ho=>hs.open hb ho) s h).1
theorem z3(b:Bytes):(bJ b).val.ia.length<=b.length:=by
 unfold bJ;split
 ·exact Zz _
 split
 ·exact Zz _
 ·exact jG _ _ _
theorem G4(b:Bytes)(p m:Int)(li:Bool):(fu b p m li).val.length<=b.length:=by
 unfold fu;split
 ·exact Zz _
 ·exact jG _ _ _
theorem Jv(b:Bytes):(g9 b).ia.length<=b.length:=by
 unfold g9;split
 ·exact Zz _
 split
 ·exact G4 _ _ _ _
 ·exact Zz _
theorem RY(b:Bytes):(Hj b).val.aI.length<=b.length/\(Hj b).val.box.length<=b.length:=by
 unfold Hj;dsimp only;cases ((fQ b 1 2 Zu).val==2)
 ·exact⟨Zz _,mE _ _ _ _⟩
 ·exact⟨mE _ _ _ _,mE _ _ _ _⟩
theorem uT(b:Bytes):(bn b).val.aI.length<=b.length/\(bn b).val.box.length<=b.length:=by
 unfold bn;split
 ·exact⟨Zz _,Zz _⟩
 ·exact iY (fun a:dX=>a.aI.length<=b.length/\a.box.length<=b.length) ⟨Zz _,Zz _⟩ (RY b)
theorem xR(b:Bytes):(dd b).val.box.length<=b.length:=by
 unfold dd;split
 ·exact Zz _
 ·exact iY (fun a:jE=>a.box.length<=b.length) (Zz _) (mE _ _ _ _)
theorem Cf(b:Bytes):(eW b).val.box.length<=b.length:=by
 unfold eW;split
 ·exact Zz _
 ·exact iY (fun a:DP=>a.box.length<=b.length) (Zz _) (jG _ _ _)
theorem K9:(0:Int)<=0/\(0:Int)<18446744073709551616:=by decide
theorem xS(b:Bytes):0<=(bY b).val.aB/\(bY b).val.aB<18446744073709551616:=by
 unfold bY;split
 ·exact⟨Zg _,by decide⟩
 ·exact iY (fun a:dF=>0<=a.aB/\a.aB<18446744073709551616) ⟨Zg _,by decide⟩ (my _)
theorem zZ(b:Bytes)(li:Bool):0<=(bA b li).val.aB/\(bA b li).val.aB<18446744073709551616:=by
 unfold bA;split
 ·exact⟨Zg _,by decide⟩
 ·exact my _
theorem uU(b:Bytes):0<=(cR b).val.new/\(cR b).val.new<18446744073709551616 :=
 iY (fun a:fe=>0<=a.new/\a.new<18446744073709551616) ⟨Zg _,by decide⟩ (by
  unfold mH O_;dsimp only;cases jf (dj b 4 0 Zu).val
  ·exact zB _ _ _
  ·exact K9)
theorem uS(b:Bytes):0<=(br b).val.aB/\(br b).val.aB<18446744073709551616 :=
 iY (fun a:gq=>0<=a.aB/\a.aB<18446744073709551616) ⟨Zg _,by decide⟩ (by
  unfold k9 Hi;dsimp only;cases dD (dj b 4 0 Zu).val
  ·exact K9
  ·exact zB _ _ _)
theorem z0(b:Bytes):0<=(df b).val.aB/\(df b).val.aB<18446744073709551616 :=
 iY (fun a:FA=>0<=a.aB/\a.aB<18446744073709551616) ⟨Zg _,by decide⟩ (zl _ _ _)
theorem y_(b:Bytes):0<=(cF b).val.aB/\(cF b).val.aB<18446744073709551616 :=
 iY (fun a:uj=>0<=a.aB/\a.aB<18446744073709551616) ⟨Zg _,by decide⟩ (zl _ _ _)
theorem ON{a:Bytes}(h:a.length<=70368744177664):sO [.bs a]=Zm:=(zu (l:=[a])).2 ⟨by simpa using h,by simp⟩
theorem CY{k:Int}(h:0<=k/\k<18446744073709551616):x_ [.int .u64 k]=Zm:=(KE (l:=[k])).2 ⟨by simpa using h,by simp⟩
theorem pf(b:Bytes):(∀ x∈l7 b,x.length<=b.length+1012)/\(l7 b).length<=2:=by
 have h1:=z3 b;have h2:=FZ b;have h3:=D4 b;have h4:=Ce b;have h5:=Jv b;have h6:=uT b;have h7:=xR b;have h8:=Cf b;unfold l7;repeat' split
 all_goals
  constructor
  ·simp only[Zw,List.not_mem_nil,or_false];intro x hx;first
    | (rcases hx with rfl | rfl<;>omega)
    | (subst hx;omega)
    | exact absurd hx (by simp)
  ·simp
theorem E6{b:Bytes}(h:b.length<=70368744170000):sO (c8 (l7 b))=Zm :=
 zu.2 ⟨fun x hx=>by have:=(pf b).1 x hx;omega,by have:=(pf b).2;omega⟩
theorem nl(b:Bytes):(∀ x∈partsOf b,x.length<=b.length+1012)/\(partsOf b).length<=2 :=
 ⟨fun x hx=>(pf b).1 x (oT hx).1,Zb (List.length_filter_le _ _) (pf b).2⟩
theorem BR{s t:Kn}(h:Sub s t)(l:List Bytes):((l.filter fun b => !t.done b).map List.length).sum<=((l.filter fun b => !s.done b).map List.length).sum:=by
 induction l with
 | nil=>exact Zn _
 | cons c l ih =>
  cases ht:t.done c with
  | true =>
   cases hs:s.done c<;>simp only[Zx,ht,hs,Bool.not_true,Bool.not_false,Zq,if_false,if_true,Zp,Zk]<;>omega
  | false =>
   have hs:s.done c=Zu:=by
    cases hs:s.done c with
    | false=>rfl
    | true=>rw[h.done hs] at ht;cases ht
   simp only[Zx,ht,hs,Bool.not_false,if_true,Zp,Zk];omega
theorem K4{p:Bytes->Bool}{m:Nat}:∀ {l:List Bytes},(∀ x∈l,x.length<=m)->((l.filter p).map List.length).sum<=l.length*m
 | [],_=>Zz _
 | a::l,h=>by
  have h1:=K4 (p:=p) (l:=l) fun x hx=>h x (Zv _ hx);have h2:=h a (by simp);rw[Zj,Nat.succ_mul];cases hp:p a with
  | true=>simp only[Zx,hp,if_true,Zp,Zk];omega
  | false=>simp only[Zx,hp,Zq,if_false];omega
theorem DS(s:Kn)(x:Is){m:Nat}(h:∀ b∈x.boxes,b.length<=m):ml (s.add x)<=ml s+x.keys.length+x.boxes.length*(m+1):=by
 obtain⟨N,e,hN,hN2⟩:=iC (l:=x.boxes) (B:=s.boxes);have hk:=vJ (l:=x.keys) (K:=s.keys);have h1:=BR (Fg s x) s.boxes;have h2:=K4 (p:=fun b => !(s.add x).done b) (l:=N) (m:=m) fun b hb=>h b (hN2 b hb).1;have h3:N.length*m<=x.boxes.length*m:=Nat.mul_le_mul_right _ hN;unfold ml BQ;rw[show(s.add x).boxes=s.boxes++N from e,List.filter_append,List.map_append,List.sum_append,Zd];rw[Nat.mul_add,Nat.mul_one];have:(s.add x).keys.length<=s.keys.length+x.keys.length:=hk;omega
theorem eV.add{s:Kn}(h:eV s){x:Is}{m:Nat}(h1:∀ b∈x.boxes,b.length<=m)(h2:Kerb.ml s+x.keys.length+x.boxes.length*(m+1)<=1000000)(h3:m<=70368744170000):eV (s.add x) :=
 ⟨mr h.vM,fun b hb=>by
  rcases iX.1 hb with hb | hb
  ·exact h.len b hb
  ·exact Zb (h1 b hb) h3,Zb (DS s x h1) h2⟩
theorem eV.parts{s:Kn}(h:eV s){b:Bytes}(h1:Kerb.ml s+2*b.length+2100<=1000000):eV (s.add ⟨[],partsOf b⟩):=by
 have hp:=nl b;refine h.add (m:=b.length+1012) hp.1 ?_ (by omega);have:(partsOf b).length*(b.length+1012+1)<=2*(b.length+1012+1):=Nat.mul_le_mul_right _ hp.2;simp only[List.length_nil];omega
theorem eV.OL{s:Kn}(h:eV s){k:Int}(h1:Kerb.ml s+1<=1000000):eV (s.add ⟨bQ [k],[]⟩):=by
 have:=pj k;exact h.add (m:=0) (by simp) (by simp only[List.length_nil];omega) (by omega)
end Kerb
