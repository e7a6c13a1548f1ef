/- Clients that receive: lengths stay small. -/
import Derived.Test.YteafbgcimcpfiaaGreatKerbCli4
import Derived.KernelRfl
set_option linter.all false
open Go.IntKind renaming u64->AT
open Nat renaming zero_le->Zz,le_trans->Zb,le_refl->Zn
open Bool renaming and_eq_true->Zy,false->Zw,false_eq_true->Zq,true->Zm
open List renaming filter_cons->Zx,mem_cons->Zv,mem_cons_of_mem->Zu,length_cons->Zj,sum_cons->Zk,map_cons->Zp,length_append->Zd,all_eq_true->Zf
open Int renaming le_refl->Zg
namespace Kerb
open Go.Abs Go
end Kerb
namespace Go.Abs
theorem ru{O J:Type}{x:Option O}{f:O->Option J}{r:Option J}(P:O->Prop)(h1:∃ a,x=some a/\P a)(h2:∀ a,P a->f a=r):x.bind f=r:=by
 obtain⟨a,rfl,h⟩:=h1;exact h2 a h
end Go.Abs
/- Chapter 20: a client that waits for an answer gets it. -/
namespace Kerb
open Go Go.Abs
theorem zi(m:JT)(li:Bool):(fN m li).val.length<=16:=by
 unfold fN;split
 .simp
 .rw[vy];simp[ai]
theorem Dn(s:Bytes)(li:Bool):(cj s li).val.length<=2000:=by
 unfold cj;split
 .simp
 .simp[ai,D0];omega
end Kerb
/- Chapter 23, plain: when a ticket is given; what the data of the statements says. -/
namespace Kerb
open Go Go.Abs
end Kerb
/- Chapter 17: authentication servers; the data of its statements. -/
namespace Kerb
open Go Go.Abs
def rY(r:jN)(p:fU)(k:Int):ll :=
 if (bp p r.By).err≠0 then⟨[],(bp p r.By).err⟩
 else if (g_ 3 k (bp p r.By).val).err≠0 then⟨[],(g_ 3 k (bp p r.By).val).err⟩
 else bg ⟨r.By,r.BY,r.time,r.cJ,r.bt,(g_ 3 k (bp p r.By).val).val⟩
def NZ(msg:Bytes)(now:Int)(By:Bool):Bytes :=
 if msg.length=0 then[] else if msg.getD 0 0=4 then[] else if (gT (msg.set 0 4)).err≠0 then[]
 else refuse (gT (msg.set 0 4)).val.BY 4 now By
structure vm where
 answer:Bytes
 jQ:zS
 ok:Bool
def pI(c:ia)(v:Svc)(bS now:Int):Int×Bool:=MZ now (FE (FE bS c.nj) v.bS) ([c.cJ,v.cJ].filter λn => !(n==0))
def GV(d:Db)(c:ia)(v:Svc)(r:kF)(now address:Int)(By:Bool)(ax:Int):vm :=
 if (pI c v r.bS now).2=Zw then⟨refuse r.BY 3 now By,nl,Zw⟩
 else if iJ ax≠2 then⟨refuse r.BY 10 now By,nl,Zw⟩
 else if (vZ d.aK r.BY ⟨r.service,r.inst,d.aK⟩ address By now (pI c v r.bS now).1 ax c.key v.key v.bt).err≠0 then⟨[],nl,Zw⟩
 else if (rY ⟨By,r.BY,r.time,c.cJ,c.bt,[]⟩ (vZ d.aK r.BY ⟨r.service,r.inst,d.aK⟩ address By now (pI c v r.bS now).1 ax c.key v.key v.bt).part c.key).err≠0 then⟨[],nl,Zw⟩
 else⟨(rY ⟨By,r.BY,r.time,c.cJ,c.bt,[]⟩ (vZ d.aK r.BY ⟨r.service,r.inst,d.aK⟩ address By now (pI c v r.bS now).1 ax c.key v.key v.bt).part c.key).val,
  { (vZ d.aK r.BY ⟨r.service,r.inst,d.aK⟩ address By now (pI c v r.bS now).1 ax c.key v.key v.bt).jQ with kind:=1 },Zm⟩
def LH(d:Db)(eS:List oA)(now address:Int)(By:Bool)(ax:Int)(r:kF):vm :=
 if r.BY.aK≠d.aK then⟨refuse r.BY 8 now By,nl,Zw⟩
 else if (ry d r.BY.name r.BY.inst now).2≠0 then⟨refuse r.BY (ry d r.BY.name r.BY.inst now).2 now By,nl,Zw⟩
 else if (Gv d eS r.service r.inst now).err≠0 then⟨refuse r.BY (Gv d eS r.service r.inst now).err now By,nl,Zw⟩
 else GV d (jj d (ry d r.BY.name r.BY.inst now).1) (Gv d eS r.service r.inst now) r now address By ax
def so(d:Db)(eS:List oA)(now address:Int)(By:Bool)(ax:Int)(msg:Bytes):vm :=
 if !(within now 4294967295&&within address 4294967295) then⟨[],nl,Zw⟩
 else if (gT msg).err≠0 then⟨NZ msg now By,nl,Zw⟩
 else LH d eS now address By ax (gT msg).val
def oA.ok(c:oA):Prop:=c.source.length<=9223372036854775807/\c.target.length<=9223372036854775807/\oY c.bt=Zm/\D8 c.key=Zm
structure My where
 BY:UInt8
 service:UInt8
 peer:UInt8
 time:UInt8
 bS:UInt8
 eS:UInt8
 By:Bool
 how:Int
def My.want(a:My):bn:=if a.service.toNat % 5=4 then tgs (aK 0) (aK (oR a.peer)) else Kerb.service (oR a.service % 3)
def My.base(a:My):Bytes:=(qV ⟨a.By,user (oR a.BY % 5),oR a.time,oR a.bS,a.want.name,a.want.inst⟩).val
def My.msg(a:My):Bytes :=
 if a.how % 8=7 then tD a.base (a.how / 8)
 else if a.how % 8=6/\0<a.base.length then a.base.set 0 (UInt8.ofNat (Int.toNat (IntKind.wrap .u8 (a.how / 8)))) else a.base
end Kerb
/- Chapter 23, plain: how long a ticket lasts, and who can open the answer. -/
namespace Kerb
open Go Go.Abs
namespace KAsk
end KAsk
end Kerb
namespace Kerb
open Go Go.Abs
structure agY (a:KAsk) (d:Db) (ad se:Int) (o:XT) (R:iI) (Y:fT) (k:Int):Prop where
 dec:cD o.answer=⟨R,0⟩
 len:o.answer.length<=1000000
 code:R.code=0
 opens:(mj R.box 8 k).2=Zm
 says:bc (mj R.box 8 k).1=⟨Y,0⟩
 ses:Y.ax=se
 ajQ:o.jQ.ax=se
 ah0:o.jQ.og=k
 time:Y.time=1000+oR a.time+1
 start:Y.start=1100
 stop:Y.stop=o.jQ.stop
 most:o.jQ.stop<=1000+oR a.time+oR a.stop*50
 BY:o.jQ.BY=user (oR a.user % 3)
 kind:(o.jQ.kind=3/\k=(jj d (mc d.entries o.jQ.BY.name o.jQ.BY.inst).1).key/\0<=(mc d.entries o.jQ.BY.name o.jQ.BY.inst).1/\(mc d.entries o.jQ.BY.name o.jQ.BY.inst).1<d.entries.length) \/
  (o.jQ.kind=4/\k=ax (oR a.ax % 4)/\o.jQ.stop<=1000+oR a.cL+300*(oR a.bS % 40+1)/\oR a.address % 2=ad/\o.jQ.sJ=k)
end Kerb
/- The data of the statements of chapters 18 and 19: cases, servers, keys. -/
namespace Kerb
open Go Go.Abs
structure Case where
 BY:UInt8
 other:UInt8
 service:UInt8
 aK:UInt8
 By:Bool
 turned:Bool
 c7:Bool
 address:UInt8
 src:UInt8
 cL:UInt8
 time:UInt8
 tick:UInt8
 bS:UInt8
 dB:Int
 key:UInt8
 bt:UInt8
 ax:UInt8
 aG:Int
 ft:Int
def Case.av(c:Case):AV := .agg [.u8 c.BY,.u8 c.other,.u8 c.service,.u8 c.aK,.bool c.By,.bool c.turned,.bool c.c7,.u8 c.address,.u8 c.src,.u8 c.cL,.u8 c.time,.u8 c.tick,.u8 c.bS,.int .u32 c.dB,.u8 c.key,.u8 c.bt,.u8 c.ax,.int .u16 c.aG,.int .u16 c.ft]
def ZY(n:Int):Bool:=decide (0<=n)&&decide (n<=4294967295)
def PQ(n:Int):Bool:=decide (0<=n)&&decide (n<=65535)
def Case.ok(c:Case):Prop:=ZY c.dB=Zm/\PQ c.aG=Zm/\PQ c.ft=Zm
namespace Case
def who(c:Case):bn:=Kerb.user (oR c.BY % 6)
def me(c:Case):bn:=Kerb.service (oR c.service % 6)
def ses(c:Case):Int:=Kerb.ax (oR c.ax % 4)
def tkt(c:Case)(m:bn):dU :=
 ⟨c.turned,c.who,oR c.address % 3,c.ses,oR c.bS / 4,1000+oR c.cL*8,m.name,if c.service.toNat % 7=6 then[111,116,104,101,114] else m.inst⟩
def au(c:Case):nJ:=⟨if c.other.toNat % 8=7 then Kerb.user (oR c.other % 6) else c.who,c.dB,oR c.tick % 3,1000+oR c.time*8⟩
def x(c:Case)(m:bn)(k:Int):Bytes:=(gS (c.tkt m) k).val
def y(c:Case):Bytes:=(QD c.au c.By c.ses).val
def XM(c:Case)(m:bn)(k v:Int):cN :=
  ⟨if c.ft % 16=14 then !c.By else c.By,c.c7,if c.bt.toNat % 16=15 then v+1 else v,if c.aK.toNat % 16=15 then[67,65,77] else m.aK,
   if c.aG % 16=15 then tD (c.x m k) (c.aG / 16) else c.x m k,if c.ft % 16=15 then tD c.y (c.ft / 16) else c.y⟩
def msg(c:Case)(m:bn)(k v:Int):Bytes:=(bh (c.XM m k v)).val
def server(c:Case)(size fQ:UInt8):Server :=
 ⟨c.me,[⟨c.me,1,tL 1⟩,⟨c.me,2,tL 2⟩,⟨Kerb.user 0,1,tL 9⟩],⟨1+oR size % 40,0,[]⟩,oR fQ*4⟩
end Case
end Kerb
/- The statements of chapter 18, plain: what is accepted. -/
namespace Kerb
open Go Go.Abs
structure TU (r:pH) (m:Mark) (now fQ:Int):Prop where
 err:r.err=0
 name:m.BY.valid=Zm
 tick:0<=m.tick/\m.tick<=199
 Dz:Dz m.time now fQ=Zm
 floor:r.floor<=m.time
 new:m ∉ r.marks
 room:(pW r now fQ).length<r.size
 is:oo r m now fQ=⟨⟨r.size,imax r.floor (now-fQ),pW r now fQ++[m]⟩,0⟩
theorem Hz{l:List Mark}{m:Mark}:xZ l m=Zm↔m∈l:=by
 unfold xZ;rw[List.any_eq_true];constructor
 .rintro⟨x,hx,he⟩;rw[<-Mark.qC.1 he];exact hx
 .intro h;exact⟨m,h,Mark.qC.2 rfl⟩
theorem added{r:pH}{m:Mark}{now fQ:Int}(h:(oo r m now fQ).err=0):TU r m now fQ:=by
 unfold oo at h;by_cases h1:r.err=0;case neg=>rw[Qa1 h1] at h;cases h
 rw[Qa0 (by simpa using h1)] at h;by_cases h2:m.BY.valid=Zm;case neg=>rw[Qa1 (by simpa using h2)] at h;cases h
 rw[Qa0 (by simp[h2])] at h;by_cases h3:within m.tick 199=Zm;case neg=>rw[Qa1 (by simpa using h3)] at h;cases h
 rw[Qa0 (by simp[h3])] at h;by_cases h4:Dz m.time now fQ=Zw\/m.time<r.floor
 .rw[Qa1 h4] at h;cases h
 rw[Qa0 h4] at h;by_cases h5:xZ r.marks m=Zm
 .rw[Qa1 h5] at h;cases h
 rw[Qa0 h5] at h;by_cases h6:r.size<=(pW r now fQ).length
 .rw[Qa1 h6] at h;cases h
 refine⟨h1,h2,within_iff.1 h3,?_,by omega,λhm=>h5 (Hz.2 hm),by omega,?_⟩
 .cases hn:Dz m.time now fQ
  .exact absurd (.inl hn) h4
  .rfl
 .unfold oo;rw[Qa0 (by simpa using h1),Qa0 (by simp[h2]),Qa0 (by simp[h3]),Qa0 h4,Qa0 h5,Qa0 h6]
structure XU (s:Server) (r:cN) (src now:Int) (t:dU) (a:nJ):Prop where
 err:s.err=0
 aK:r.aK=s.me.aK
 found:(lT s.keys s.me r.bt).2=Zm
 tkt:gQ r.aG (lT s.keys s.me r.bt).1=⟨t,0⟩
 us:vH t s.me.aK=s.me
 ft:uO r.ft r.By t.ax=⟨a,0⟩
 BY:t.BY=a.BY
 from_:src=t.address
 Dz:Dz a.time now s.fQ=Zm
 state:JF t.cL t.bS now s.fQ=0
 add:TU s.replay (wM a) now s.fQ
 is:verify s r src now=⟨⟨s.me,s.keys,(oo s.replay (wM a) now s.fQ).val,s.fQ⟩,⟨t.BY,t.ax,t.address,a.dB,a.time,a.tick,t.cL,t.bS,r.aG,r.ft⟩,0⟩
theorem LO{O:Type}(d:GG O)(h:d.err=0):d=⟨d.val,0⟩:=by cases d;simp at h;rw[h]
theorem taken{s:Server}{r:cN}{src now:Int}(h:(verify s r src now).err=0):∃ t a,XU s r src now t a:=by
 have h0:=h;unfold verify at h;by_cases h1:s.err=0;case neg=>rw[Qa1 h1] at h;cases h
 rw[Qa0 (by simpa using h1)] at h;by_cases h2:(ea s r).err=0;case neg=>rw[Qa1 h2] at h;exact absurd h h2
 rw[Qa0 (by simpa using h2)] at h;by_cases h3:Mb (ea s r).aG (ea s r).ft src now s.fQ=0;case neg=>rw[Qa1 h3] at h;exact absurd h h3
 rw[Qa0 (by simpa using h3)] at h;by_cases h4:(oo s.replay (wM (ea s r).ft) now s.fQ).err=0;case neg=>rw[Qa1 h4] at h;exact absurd h h4
 have hv:verify s r src now=⟨⟨s.me,s.keys,(oo s.replay (wM (ea s r).ft) now s.fQ).val,s.fQ⟩,⟨(ea s r).aG.BY,(ea s r).aG.ax,(ea s r).aG.address,(ea s r).ft.dB,(ea s r).ft.time,(ea s r).ft.tick,(ea s r).aG.cL,(ea s r).aG.bS,r.aG,r.ft⟩,0⟩:=by
  unfold verify;rw[Qa0 (by simpa using h1),Qa0 (by simpa using h2),Qa0 (by simpa using h3),Qa0 (by simpa using h4)]
 have ho:∃ t a,r.aK=s.me.aK/\(lT s.keys s.me r.bt).2=Zm/\gQ r.aG (lT s.keys s.me r.bt).1=⟨t,0⟩/\vH t s.me.aK=s.me/\uO r.ft r.By t.ax=⟨a,0⟩/\ea s r=⟨t,a,0⟩:=by
  unfold ea at h2 ⊢;by_cases g1:r.aK=s.me.aK;case neg=>rw[Qa1 g1] at h2;cases h2
  rw[Qa0 (by simpa using g1)] at h2 ⊢;by_cases g2:(lT s.keys s.me r.bt).2=Zw
  .rw[Qa1 g2] at h2;cases h2
  rw[Qa0 g2] at h2 ⊢;by_cases g3:(gQ r.aG (lT s.keys s.me r.bt).1).err=7
  .rw[Qa1 g3] at h2;cases h2
  rw[Qa0 g3] at h2 ⊢;by_cases g4:(gQ r.aG (lT s.keys s.me r.bt).1).err=0;case neg=>rw[Qa1 g4] at h2;cases h2
  rw[Qa0 (by simpa using g4)] at h2 ⊢;by_cases g5:(vH (gQ r.aG (lT s.keys s.me r.bt).1).val s.me.aK).tf s.me=Zw
  .rw[Qa1 g5] at h2;cases h2
  rw[Qa0 g5] at h2 ⊢;by_cases g6:(uO r.ft r.By (gQ r.aG (lT s.keys s.me r.bt).1).val.ax).err=0;case neg=>rw[Qa1 g6] at h2;cases h2
  rw[Qa0 (by simpa using g6)];exact⟨_,_,g1,by simpa using g2,LO _ g4,bn.qC.1 (by simpa using g5),LO _ g6,rfl⟩
 obtain⟨t,a,o1,o2,o3,o4,o5,o6⟩:=ho;rw[o6] at h3 h4 hv;dsimp only at h3 h4 hv;unfold Mb at h3;by_cases j1:t.BY.tf a.BY=Zw
 .rw[Qa1 j1] at h3;cases h3
 rw[Qa0 j1] at h3;by_cases j2:src=t.address;case neg=>rw[Qa1 j2] at h3;cases h3
 rw[Qa0 (by simpa using j2)] at h3;by_cases j3:Dz a.time now s.fQ=Zw
 .rw[Qa1 j3] at h3;cases h3
 rw[Qa0 j3] at h3;exact⟨t,a,h1,o1,o2,o3,o4,o5,bn.qC.1 (by simpa using j1),j2,by simpa using j3,h3,added h4,hv⟩
namespace Case
end Case
theorem Bh{a:nJ}{l:Bool}:(je a l).val.length<=150:=by
 unfold je;split
 .simp
 rename_i h;have hv:a.BY.valid=Zm:=by
  unfold nJ.check at h;cases hv:a.BY.valid
  .rw[hv,Qa1 (by rfl)] at h;simp at h
  .rfl
 simp only[bn.valid,Zy,validName,cA,dO,Qa2] at hv;have:=vy (cW (aJ (cond l 1 0) 1 Zw) a.BY++aJ a.dB 4 l++aJ a.tick 1 Zw++aJ a.time 4 l);simp only[this,Zd,ar,ai];omega
structure Reached (s:Server):Prop where
 err:s.err=0
 keys:∀ c∈s.keys,c.ok
 marks:∀ c∈s.replay.marks,c.ok
 name:s.me.name.length<=9223372036854775807/\s.me.inst.length<=9223372036854775807/\s.me.aK.length<=9223372036854775807
 lens:s.keys.length<=1000000/\s.replay.marks.length<=1000000
theorem OV(r:cN):(bh r).val.length<=600:=by
 by_cases h:(bh r).err=0
 .obtain⟨h1,⟨h2,_⟩,_,h3,h4⟩:=zT h;have hh:(header (cond r.c7 4 3) r.By).length=2:=by cases r.c7<;>cases r.By<;>rfl
  rw[h1];simp only[Zd,Zj,List.length_nil,ai,hh];omega
 .unfold bh at h ⊢;split
  .simp
  rename_i g1;rw[Qa0 g1] at h;split
  .simp
  rename_i g2;rw[Qa0 g2] at h;split
  .simp
  rename_i g3;rw[Qa0 g3] at h;exact absurd rfl h
structure Fits (s:Server) (V:GM) (r:cN) (src now:Int):Prop where
 err:V.err=0
 t1:V.a.time-now<=s.fQ
 t2:now-V.a.time<=s.fQ
 t3:V.a.cL-s.fQ<=now
 t4:now<=V.a.cL+300*(V.a.bS+1)+s.fQ
 b1:0<=V.a.time/\V.a.time<=4294967295
 b2:0<=V.a.cL/\V.a.cL<=4294967295
 b3:0<=V.a.bS/\V.a.bS<=255
 b4:0<=s.fQ/\s.fQ<=4294967295
 b5:0<=now/\now<=4294967295
 src:V.a.address=src
 aG:V.a.aG=r.aG
 ft:V.a.ft=r.ft
 more:V.s.replay.marks.length<=s.replay.marks.length+1
 most:(V.s.replay.marks.length:Int)<=V.s.replay.size
 size:V.s.replay.size=s.replay.size
 ok:V.s.err=0
structure ag3 (s:Server):Prop where
 keys:∀ c∈s.keys,c.ok
 marks:∀ c∈s.replay.marks,c.ok
 name:s.me.name.length<=9223372036854775807/\s.me.inst.length<=9223372036854775807/\s.me.aK.length<=9223372036854775807
 lens:s.keys.length<=1000000/\s.replay.marks.length<=1000000
end Kerb
/- The statements of chapter 17, plain. -/
namespace Kerb
open Go Go.Abs
def oA.MV(c:oA):Prop:=bB c.key=Zm/\within c.bt 255=Zm/\D8 c.key=Zm
structure Uz (d:Db) (eS:List oA) (now address:Int) (By:Bool) (se:Int) (msg:Bytes) (A:vm) (r:kF) (i:Int) (L:Int):Prop where
 aj3:within now 4294967295=Zm
 adr:within address 4294967295=Zm
 XM:gT msg=⟨r,0⟩
 aK:r.BY.aK=d.aK
 BY:ry d r.BY.name r.BY.inst now=(i,0)
 aj':(Gv d eS r.service r.inst now).err=0
 bS:pI (jj d i) (Gv d eS r.service r.inst now) r.bS now=(L,Zm)
 acm:iJ se=2
 gr:(vZ d.aK r.BY ⟨r.service,r.inst,d.aK⟩ address By now L se (jj d i).key (Gv d eS r.service r.inst now).key (Gv d eS r.service r.inst now).bt).err=0
 sl:(rY ⟨By,r.BY,r.time,(jj d i).cJ,(jj d i).bt,[]⟩ (vZ d.aK r.BY ⟨r.service,r.inst,d.aK⟩ address By now L se (jj d i).key (Gv d eS r.service r.inst now).key (Gv d eS r.service r.inst now).bt).part (jj d i).key).err=0
 is:A=⟨(rY ⟨By,r.BY,r.time,(jj d i).cJ,(jj d i).bt,[]⟩ (vZ d.aK r.BY ⟨r.service,r.inst,d.aK⟩ address By now L se (jj d i).key (Gv d eS r.service r.inst now).key (Gv d eS r.service r.inst now).bt).part (jj d i).key).val,
  { (vZ d.aK r.BY ⟨r.service,r.inst,d.aK⟩ address By now L se (jj d i).key (Gv d eS r.service r.inst now).key (Gv d eS r.service r.inst now).bt).jQ with kind:=1 },Zm⟩
theorem cL{d:Db}{eS:List oA}{now address:Int}{By:Bool}{se:Int}{msg:Bytes}(h:(so d eS now address By se msg).ok=Zm):∃ r i L,Uz d eS now address By se msg (so d eS now address By se msg) r i L:=by
 obtain⟨A,hA⟩:∃ A,so d eS now address By se msg=A:=⟨_,rfl⟩;rw[hA] at h ⊢;unfold so at hA;by_cases h1:(within now 4294967295&&within address 4294967295)=Zm;case neg=>rw[Qa1 (by simp only[Bool.not_eq_true] at h1;rw[h1];rfl)] at hA;subst hA;cases h
 rw[Qa0 (by rw[h1];simp)] at hA;by_cases h2:(gT msg).err=0;case neg=>rw[Qa1 h2] at hA;subst hA;cases h
 rw[Qa0 (by simpa using h2)] at hA;obtain⟨r,hr⟩:∃ r,(gT msg).val=r:=⟨_,rfl⟩;have adA:gT msg=⟨r,0⟩:=by cases hd:gT msg;rw[hd] at h2 hr;simp at h2 hr;rw[h2,hr]
 rw[hr] at hA;unfold LH at hA;by_cases h3:r.BY.aK=d.aK;case neg=>rw[Qa1 h3] at hA;subst hA;cases h
 rw[Qa0 (by simpa using h3)] at hA;obtain⟨⟨i,e⟩,hi⟩:∃ i,ry d r.BY.name r.BY.inst now=i:=⟨_,rfl⟩;rw[hi] at hA;dsimp only at hA;by_cases h4:e=0;case neg=>rw[Qa1 h4] at hA;subst hA;cases h
 subst h4;rw[Qa0 (by simp)] at hA;by_cases h5:(Gv d eS r.service r.inst now).err=0;case neg=>rw[Qa1 h5] at hA;subst hA;cases h
 rw[Qa0 (by simpa using h5)] at hA;unfold GV at hA;obtain⟨⟨L,q⟩,hL⟩:∃ L,pI (jj d i) (Gv d eS r.service r.inst now) r.bS now=L:=⟨_,rfl⟩;rw[hL] at hA;dsimp only at hA;cases q
 .rw[Qa1 rfl] at hA;subst hA;cases h
 rw[Qa0 (by simp)] at hA;by_cases h6:iJ se=2;case neg=>rw[Qa1 h6] at hA;subst hA;cases h
 rw[Qa0 (by simpa using h6)] at hA;by_cases h7:(vZ d.aK r.BY ⟨r.service,r.inst,d.aK⟩ address By now L se (jj d i).key (Gv d eS r.service r.inst now).key (Gv d eS r.service r.inst now).bt).err=0;case neg=>rw[Qa1 h7] at hA;subst hA;cases h
 rw[Qa0 (by simpa using h7)] at hA;by_cases h8:(rY ⟨By,r.BY,r.time,(jj d i).cJ,(jj d i).bt,[]⟩ (vZ d.aK r.BY ⟨r.service,r.inst,d.aK⟩ address By now L se (jj d i).key (Gv d eS r.service r.inst now).key (Gv d eS r.service r.inst now).bt).part (jj d i).key).err=0;case neg=>rw[Qa1 h8] at hA;subst hA;cases h
 rw[Qa0 (by simpa using h8)] at hA;rw[Zy] at h1;exact⟨r,i,L,h1.1,h1.2,adA,h3,hi,h5,hL,h6,h7,h8,hA.symm⟩
structure abN (d:Db) (now ad se:Int) (A:vm) (r:kF) (i j:Int) (Y:jN) (body:Bytes) (P:fU) (T:dU):Prop where
 f1:mc d.entries r.BY.name r.BY.inst=(i,0)
 f2:mc d.entries r.service r.inst=(j,0)
 i0:0<=i/\i.toNat<d.entries.length
 j0:0<=j/\j.toNat<d.entries.length
 aam:bm A.answer=⟨Y,0⟩
 BY:Y.BY=r.BY
 time:Y.time=r.time
 box:mj Y.cI 3 (jj d i).key=(body,Zm)
 part:bu body Y.By=⟨P,0⟩
 tkt:gQ P.aG (jj d j).key=⟨T,0⟩
 text:P.aG=A.jQ.text
 t1:T.BY=r.BY
 t2:T.ax=se
 t3:P.ax=se
 t4:A.jQ.ax=se
 t5:T.address=ad
 t6:T.service=r.service
 t7:T.inst=r.inst
 t8:T.cL=now
 t9:A.jQ.og=(jj d i).key
 e1:(0<(jj d i).cJ->A.jQ.stop<=(jj d i).cJ)/\T.bS<=(jj d i).nj
 e2:(0<(jj d j).cJ->A.jQ.stop<=(jj d j).cJ)/\T.bS<=(jj d j).nj
 e3:T.bS<=r.bS
 e4:A.jQ.stop=now+300*(T.bS+1)
 e5:0<=T.bS/\T.bS<=255
 lens:A.answer.length<=140737488355328/\Y.cI.length<=140737488355328/\body.length<=140737488355328/\P.aG.length<=140737488355328
end Kerb
/- Chapter 19: ticket-granting servers. -/
namespace Kerb
open Go Go.Abs
def uL:fy:=⟨zC,0,0,[],[]⟩
def pu(b:Bytes)(li:Bool):fy :=
 let a:=ke b
 let t:=get b a.next 4 li
 let l:=get b t.next 1 Zw
 let s:=text b l.next
 ⟨a.val,t.val,l.val,s.val,(text b s.next).val⟩
def ch(b:Bytes):GG fy :=
 if (aM b [3]).2≠0 then⟨uL,(aM b [3]).2⟩ else eN uL cZ (λb=>(pu b (aM b [3]).1,Zw)) b
theorem Gx{r:fy}(h:(cZ r).err=0):(bh r.ap).err=0/\r.ap.c7=Zw/\(cZ r).val=(bh r.ap).val++(aJ r.time 4 r.ap.By++(aJ r.bS 1 Zw++(r.service++0::(r.inst++0::[])))) /\
  (0<=r.time/\r.time<=4294967295)/\(0<=r.bS/\r.bS<=255)/\(r.service.length<=39/\(0:UInt8) ∉ r.service)/\r.inst.length<=39/\(0:UInt8) ∉ r.inst:=by
 unfold cZ at h ⊢;by_cases h0:r.ap.c7=Zm
 .rw[Qa1 h0] at h;cases h
 rw[Qa0 h0] at h ⊢;by_cases h1:(bh r.ap).err=0;case neg=>rw[Qa1 h1] at h;exact absurd h h1
 rw[Qa0 (by simpa using h1)] at h ⊢;by_cases h2:(validName r.service&&cA r.inst)=Zm;case neg=>rw[Qa1 (by rw[Bool.not_eq_true] at h2;rw[h2];rfl)] at h;cases h
 rw[Qa0 (by simp[h2])] at h ⊢;by_cases h3:(within r.time 4294967295&&within r.bS 255)=Zm;case neg=>rw[Qa1 (by rw[Bool.not_eq_true] at h3;rw[h3];rfl)] at h;cases h
 rw[Qa0 (by simp[h3])];rw[Zy] at h2 h3;have ok:∀ {s:Bytes},cA s=Zm->s.length<=39/\(0:UInt8) ∉ s:=λ{s} h=>by
  simp only[cA,Zy,Qa2] at h;exact⟨h.1,λhm=>by
   have:=h.2;simp only[eW,Zf] at this;exact absurd (this 0 hm) (by decide)⟩
 have hn:r.service.length<=39/\(0:UInt8) ∉ r.service:=by
  have h:=h2.1;simp only[validName,Zy,Qa2] at h;exact⟨by omega,λhm=>by
   have:=h.2;simp only[eW,Zf] at this;exact absurd (this 0 hm) (by decide)⟩
 refine⟨h1,by simpa using h0,?_,within_iff.1 h3.1,within_iff.1 h3.2,hn,ok h2.2⟩;unfold bz;simp only[List.append_assoc,List.singleton_append,List.cons_append,List.nil_append,List.append_nil]
theorem GQ{r:cN}(z:Bytes)(h:(bh r).err=0):∃ q1 q2 q3 q4 q5 q6:Int,get ((bh r).val++z) 2 1 Zw=⟨r.bt,q1,0⟩/\text ((bh r).val++z) q1=⟨r.aK,q2,0⟩/\get ((bh r).val++z) q2 1 Zw=⟨r.aG.length,q3,0⟩/\get ((bh r).val++z) q3 1 Zw=⟨r.ft.length,q4,0⟩ /\
  bytes ((bh r).val++z) q4 r.aG.length=⟨r.aG,q5,0⟩/\bytes ((bh r).val++z) q5 r.ft.length=⟨r.ft,q6,0⟩/\At ((bh r).val++z) q6 z:=by
 obtain⟨hz,⟨n0,n1⟩,⟨a0,a1⟩,t1,u1⟩:=zT h;have L7:(bh r).val++z=header (cond r.c7 4 3) r.By++(aJ r.bt 1 Zw++(r.aK++0::(aJ r.aG.length 1 Zw++(aJ r.ft.length 1 Zw++(r.aG++(r.ft++z)))))):=by
  rw[hz];simp only[List.append_assoc,List.cons_append,List.append_nil,List.nil_append]
 have p0:=(At.start ((bh r).val++z)).as L7;have p1:=p0.skip;rw[show(header (cond r.c7 4 3) r.By).length=2 by cases r.c7<;>cases r.By<;>rfl] at p1;obtain⟨e1,p2⟩:=p1.mW a0 a1;obtain⟨e2,p3⟩:=p2.text n0 n1;obtain⟨e3,p4⟩:=p3.mW (by omega) (by omega);obtain⟨e4,p5⟩:=p4.mW (by omega) (by omega);obtain⟨e5,p6⟩:=p5.bytes (n:=r.aG.length) rfl;obtain⟨e6,p7⟩:=p6.bytes (n:=r.ft.length) rfl;exact⟨_,_,_,_,_,_,e1,e2,e3,e4,e5,e6,p7⟩
theorem OU{r:cN}(z:Bytes)(h:(bh r).err=0):bj ((bh r).val++z)=⟨cond r.c7 4 3,r.By,0⟩:=by
 rw[(zT h).1,List.append_assoc];exact E2 _
theorem M3{b:Bytes}{k:Int}{li:Bool}(h:bj b=⟨k,li,0⟩):aM b [k]=(li,0):=by
 unfold aM;rw[h];simp
theorem yy{r:fy}(h:(cZ r).err=0):aM (cZ r).val [3]=(r.ap.By,0)/\pu (cZ r).val r.ap.By=r:=by
 obtain⟨h1,h2,h3,⟨t0,t1⟩,⟨l0,l1⟩,⟨s0,s1⟩,i0,i1⟩:=Gx h;rw[h3];obtain⟨z,hz⟩:∃ z,aJ r.time 4 r.ap.By++(aJ r.bS 1 Zw++(r.service++0::(r.inst++0::[])))=z:=⟨_,rfl⟩;obtain⟨q1,q2,q3,q4,q5,q6,e1,e2,e3,e4,e5,e6,p⟩:=GQ z h1;have hh:=OU z h1;rw[h2] at hh;rw[<-hz] at p;rw[hz] at p ⊢;have p1:=p.as hz.symm;obtain⟨e7,p2⟩:=p1.nY (li:=r.ap.By) t0 t1;obtain⟨e8,p3⟩:=p2.mW l0 l1;obtain⟨e9,p4⟩:=p3.text s0 s1;obtain⟨e10,p5⟩:=p4.text i0 i1;refine⟨M3 hh,?_⟩;unfold pu ke;simp only[e1,e2,e3,e4,e5,e6,e7,e8,e9,e10,hh];have:((cond Zw 4 3:Int)==4)=r.ap.c7:=by rw[h2];rfl
 rw[this]
theorem Cn(b:Bytes)(li:Bool):(pu b li).ap.aK.length<=9223372036854775807/\(pu b li).service.length<=9223372036854775807/\(pu b li).inst.length<=9223372036854775807:=by
 have h:∀ q,(text b q).val.length<=9223372036854775807:=λq=>by have:=fX b q;omega
 exact⟨h _,h _,h _⟩
theorem xE(b:Bytes):((ch b).val.ap.aK.length<=9223372036854775807/\(ch b).val.service.length<=9223372036854775807/\(ch b).val.inst.length<=9223372036854775807)/\(ch b).val.ap.aG.length<=255/\(ch b).val.ap.ft.length<=255:=by
 have h0:(uL.ap.aK.length<=9223372036854775807/\uL.service.length<=9223372036854775807/\uL.inst.length<=9223372036854775807)/\uL.ap.aG.length<=255/\uL.ap.ft.length<=255:=by decide
 unfold ch;split
 .exact h0
 unfold eN;split
 .exact h0
 .rename_i h;have he:(cZ (pu b (aM b [3]).1)).err=0:=Decidable.byContradiction λq=>h (.inr (.inl q));obtain⟨_,_,_,h1,h2⟩:=zT (Gx he).1;exact⟨Cn _ _,h1,h2⟩
structure abP where
 s:Server
 out:vm
namespace Case
def W5(c:Case)(m:bn)(k v time bS:Int)(sv:bn):fy:=⟨{ c.XM m k v with c7:=Zw },time,bS,sv.name,sv.inst⟩
def W4(c:Case)(m:bn)(k v time bS:Int)(sv:bn):Bytes:=(cZ (c.W5 m k v time bS sv)).val
end Case
structure Au where
 lV:Case
 src:UInt8
 to:UInt8
 peer:UInt8
 bS:UInt8
 now:UInt8
 bt:UInt8
 how:Int
def Au.key(a:Au)(eS:List oA):qp :=
 if a.src.toNat % 3=2/\0<eS.length then⟨⟨BQ,aK 0,(eS.getD (a.bt.toNat % eS.length) pg).source⟩,(eS.getD (a.bt.toNat % eS.length) pg).bt,(eS.getD (a.bt.toNat % eS.length) pg).key⟩
 else⟨⟨BQ,aK 0,aK 0⟩,6,tL 3⟩
def Au.want(a:Au):bn:=if a.to.toNat % 5=4 then⟨BQ,aK (oR a.peer),aK 0⟩ else Kerb.service (oR a.to % 3)
def Au.base(a:Au)(eS:List oA):Bytes:=a.lV.W4 (a.key eS).service (a.key eS).key (a.key eS).bt 5 (oR a.bS) a.want
def Au.msg(a:Au)(eS:List oA):Bytes:=if a.how % 8=7 then tD (a.base eS) (a.how / 8) else a.base eS
def Au.av(q:Au):AV := .agg [.u8 q.lV.BY,.u8 q.lV.other,.u8 q.lV.service,.u8 q.lV.aK,.bool q.lV.By,.bool q.lV.turned,.bool q.lV.c7,.u8 q.lV.address,.u8 q.lV.src,.u8 q.lV.cL,.u8 q.lV.time,.u8 q.lV.tick,.u8 q.lV.bS,.int .u32 q.lV.dB,.u8 q.lV.key,.u8 q.lV.bt,.u8 q.lV.ax,.int .u16 q.lV.aG,.int .u16 q.lV.ft,.u8 q.src,.u8 q.to,.u8 q.peer,.u8 q.bS,.u8 q.now,.u8 q.bt,.int .u16 q.how]
def Au.ok(q:Au):Prop:=q.lV.ok/\PQ q.how=Zm
theorem MT{r:fy}(h:(cZ r).err≠0):(cZ r).val=[]:=by grind [cZ]
theorem TQ(r:fy):(cZ r).val.length<=800:=by
 by_cases h:(cZ r).err=0
 .obtain⟨h1,h2,h3,h4,h5,h6,h7⟩:=Gx h;rw[h3];have:=OV r.ap;simp only[Zd,Zj,List.length_nil,ai];omega
 .rw[MT h];simp
end Kerb
/- Chapter 28: when two texts are the same ticket. -/
namespace Kerb
open Go Go.Abs
def oF(b:Bytes):Bool:=(aU b).err==0&&(aU b).n==(b.length:Int)
end Kerb
/- Chapter 27: what an adversary can know, in plain words. -/
namespace Kerb
open Go Go.Abs
def bK(l:List Int):List AV:=l.map (AV.int AT)
def bF(l:List Bytes):List AV:=l.map AV.bs
def Gw:AV->Bytes
 | .bs b=>b
 | _=>[]
def eY(els:List AV):List Bytes:=els.map Gw
def ZX:AV->Bool
 | .bs _=>Zm
 | _=>Zw
def oW(els:List AV):Bool:=els.all ZX
theorem gX(l:List Int):eJ (bK l)=l:=by simp[eJ,bK,Function.comp_def]
theorem hJ(l:List Bytes):eY (bF l)=l:=by simp[eY,bF,Function.comp_def,Gw]
theorem lG(l:List Int):dl (bK l)=Zm:=by simp[dl,bK]
theorem qS(l:List Bytes):oW (bF l)=Zm:=by simp[oW,bF,ZX]
theorem cU(l:List Int):(bK l).length=l.length:=by simp[bK]
theorem cG(l:List Bytes):(bF l).length=l.length:=by simp[bF]
theorem wR{els:List AV}(h:dl els=Zm):∃ ks,els=bK ks:=⟨eJ els,by
 have:=GZ h;simpa [back,df,bK] using this.symm⟩
theorem F5{els:List AV}(h:oW els=Zm):∃ bs,els=bF bs:=⟨eY els,by
 unfold eY bF;rw[List.map_map];conv=>lhs;rw[<-List.map_id els]
 apply List.map_congr_left;intro a ha;simp only[oW,Zf] at h;have:=h a ha;cases a<;>first | (cases this;done) | rfl⟩
theorem jL{l:List Int}{i:Nat}(h:i<l.length):(bK l).getD i .undef = .int AT (l.getD i 0):=by
 simp[bK,List.getD,h]
theorem gF{l:List Bytes}{i:Nat}(h:i<l.length):(bF l).getD i .undef = .bs (l.getD i []):=by
 simp[bF,List.getD,h]
def xt:List Int->Bool
 | x::y::r=>decide (x<y)&&xt (y::r)
 | _=>Zm
def lK:List Int->Int->List Int
 | [],k=>[k]
 | x::r,k=>bif decide (x<k) then x::lK r k else bif x==k then x::r else k::x::r
theorem BI{k y:Int}:∀ {l:List Int},y∈lK l k↔y=k\/y∈l
 | []=>by simp[lK]
 | x::r=>by
  unfold lK;cases h1:decide (x<k) with
  | true=>simp only[Qa6,Zv,BI (l:=r)];exact or_left_comm
  | false =>
   cases h2:x==k with
   | true =>
    have e:=Qb0 h2;subst e;simp only[Qa7,Qa6,Zv];exact⟨λh => .inr h,λh=>h.elim .inl id⟩
   | false=>simp only[Qa7,Zv]
theorem GU{x:Int}{l:List Int}(h:xt (x::l)=Zm):xt l=Zm:=by
 cases l with
 | nil=>rfl
 | cons y r=>simp only[xt,Zy] at h;exact h.2
theorem xu{x:Int}:∀ {l:List Int},xt (x::l)=Zm->∀ y∈l,x<y
 | [],_,y,hy=>by cases hy
 | z::r,h,y,hy=>by
  simp only[xt,Zy,Qa2] at h;rcases Zv.1 hy with rfl | hy
  .exact h.1
  .have:=xu h.2 y hy;omega
theorem GS{x:Int}{l:List Int}(h:xt l=Zm)(hx:∀ y∈l,x<y):xt (x::l)=Zm:=by
 cases l with
 | nil=>rfl
 | cons y r=>simp only[xt,Zy,Qa2];exact⟨hx y (by simp),h⟩
theorem xv{k:Int}:∀ {l:List Int},xt l=Zm->xt (lK l k)=Zm
 | [],_=>rfl
 | x::r,h=>by
  unfold lK;cases h1:decide (x<k) with
  | true =>
   simp only[Qa6];have hx:x<k:=Qa3 h1;refine GS (xv (GU h)) λy hy=> ?_;rcases BI.1 hy with rfl | hy
   .exact hx
   .exact xu h y hy
  | false =>
   cases h2:x==k with
   | true=>exact h
   | false =>
    simp only[Qa7];have hx:¬ x<k:=of_decide_eq_false h1;have hk:k<x:=by
     have:x≠k:=by intro e;subst e;simp at h2
     omega
    refine GS h λy hy=> ?_;rcases Zv.1 hy with rfl | hy
    .exact hk
    .have:=xu h y hy;omega
theorem zr{k:Int}:∀ {l:List Int},k ∉ l->(lK l k).Perm (l++[k])
 | [],_ => .refl _
 | x::r,h=>by
  unfold lK;cases h1:decide (x<k) with
  | true =>
   simp only[Qa6,List.cons_append];exact List.Perm.cons _ (zr λhm=>h (Zu _ hm))
  | false =>
   cases h2:x==k with
   | true=>exact absurd (by rw[Qb0 h2];simp) h
   | false =>
    simp only[Qa7];exact(List.perm_append_singleton k (x::r)).symm
theorem HT{k:Int}{l:List Int}(h:k ∉ l):(lK l k).length=l.length+1:=by
 rw[(zr h).length_eq];simp
theorem E4:∀ {l:List Int},xt l=Zm->∀ {i j:Nat},i<j->(hj:j<l.length)->l[i]! < l[j]!
 | [],_,i,j,_,hj=>by simp at hj
 | x::r,h,i,j,Su,hj=>by
  cases j with
  | zero=>omega
  | succ j =>
   have HF:j<r.length:=by simpa using hj
   cases i with
   | zero =>
    have:=xu h (r[j]!) (by rw[getElem!_pos r j HF];exact List.getElem_mem HF);simpa using this
   | succ i =>
    have:=E4 (GU h) (i:=i) (j:=j) (by omega) HF;simpa using this
theorem OP{l:List Int}{k:Int}(h:xt l=Zm)(hk:k ∉ l):Dc (bK l) k=bK (lK l k):=by
 unfold Dc Ao back bK;congr 1;have e0:df (l.map (AV.int AT)++[.int AT k])=(l++[k]).toArray:=by simp[df,eJ,Function.comp_def]
 rw[e0,Go.Sort.sortInt (l++[k])];have hu:=Go.Sort.sorted_unique_holds Go.Sort.swo_ltInt (λx y h1 h2=>by simp only[Go.Sort.ltInt,decide_eq_false_iff_not] at h1 h2;omega) (l++[k]).toArray (lK l k).toArray;have hp:=zr hk;have hl:=HT hk;have:=hu ⟨by simp[hl],λi hi=>by
   have h1:¬ i<(lK l k).length:=by rw[hl];simp at hi;omega
   have h2:¬ i<(l++[k]).length:=by simp at hi ⊢;omega
   simp[Array.getElem!_eq_getD,Array.getD,h1,h2];intro hh;simp at h2;omega,by
   have g1:(lK l k).toArray.extract 0 (l++[k]).toArray.size=(lK l k).toArray:=by apply Array.extract_eq_self_of_le;simp[hl]
   have g2:(l++[k]).toArray.extract 0 (l++[k]).toArray.size=(l++[k]).toArray:=by apply Array.extract_eq_self_of_le;simp
   rw[g1,g2];exact hp⟩ (λi j _ Su hj=>by
   simp only[Go.Sort.ltInt,decide_eq_false_iff_not];have HF:j<(lK l k).length:=by rw[hl];simpa using hj
   have:=E4 (xv (k:=k) h) Su HF;simp only[List.getElem!_toArray];omega)
 rw[show(lK l k)=(lK l k).toArray.toList from rfl,this];simp only[Go.Sort.ltInt];congr 1;funext x y;by_cases hxy:x<=y
 .have h':¬ y<x:=by omega
  simp[hxy,h']
 .have h':y<x:=by omega
  simp[hxy,h']
theorem OW{l:List Int}(h:xt l=Zm):MD (bK l)=Zm:=by
 simp only[MD,Zf,List.mem_range,cU,Qa2];intro i hi;have e:=E4 h (i:=i) (j:=i+1) (by omega) (by omega);have h1:i<l.length:=by omega
 have h2:i+1<l.length:=by omega
 simp only[num,jL h1,jL h2];simpa [List.getD,h1,h2,getElem!_pos] using e
end Kerb
/- Chapter 27: the boxes of a message, what is in a box, the closure of knowledge. -/
namespace Kerb
open Go Go.Abs
def gC(l:List Bytes):List Bytes:=l.filter oF
def ec(l:List Int):List Int:=l.filter bB
def oO(b:Bytes):List Bytes :=
 if (bm b).err=0 then[(bm b).val.cI]
 else if (eI b).err=0 then[(eI b).val.aG,(eI b).val.ft]
 else if (ch b).err=0 then[(ch b).val.ap.aG,(ch b).val.ap.ft]
 else if (g9 b).err=0 then[(g9 b).val]
 else if (gE b).err=0 then[(gE b).cI]
 else if (aV b).err=0 then[(aV b).val.aG,(aV b).val.box]
 else if (cD b).err=0 then[(cD b).val.box]
 else if (dD b).err=0 then[(dD b).val.box] else[]
def partsOf(b:Bytes):List Bytes:=gC (oO b)
structure AD where
 keys:List Int
 boxes:List Bytes
def D6(b:Bytes)(li:Bool):AD:=⟨ec [(bu b li).val.ax],gC [(bu b li).val.aG]⟩
def ij(x:Box):AD :=
 if x.kind=1 then(if (bG x.body).err=0 then⟨ec [(bG x.body).val.ax],[]⟩ else⟨[],[]⟩)
 else if x.kind=3 then(if (bu x.body Zw).err=0 then D6 x.body Zw else if (bu x.body Zm).err=0 then D6 x.body Zm else⟨[],[]⟩)
 else if x.kind=7 then(if (cE x.body).err=0 then⟨ec [(cE x.body).val.new],[]⟩ else⟨[],[]⟩)
 else if x.kind=8 then(if (bc x.body).err=0 then⟨ec [(bc x.body).val.ax],gC [(bc x.body).val.aG]⟩ else⟨[],[]⟩)
 else if x.kind=9 then(if (cq x.body).err=0 then⟨ec [(cq x.body).val.ax],[]⟩ else⟨[],[]⟩)
 else if x.kind=10 then(if (cc x.body).err=0 then⟨ec [(cc x.body).val.ax],gC [(cc x.body).val.record]⟩ else⟨[],[]⟩)
 else⟨[],[]⟩
structure Kn where
 keys:List Int
 boxes:List Bytes
def eZ(K:List Int)(l:List Int):List Int:=l.foldl (λK k=>bif K.contains k then K else lK K k) K
def eH(B:List Bytes)(l:List Bytes):List Bytes:=l.foldl (λB b=>bif B.contains b then B else B++[b]) B
def Kn.add(s:Kn)(x:AD):Kn:=⟨eZ s.keys x.keys,eH s.boxes x.boxes⟩
def Kn.has(s:Kn)(x:AD):Bool:=x.keys.all (λk=>s.keys.contains k)&&x.boxes.all λb=>s.boxes.contains b
def br(b:Bytes):AD:=ij (aU b).box
def Kn.done(s:Kn)(b:Bytes):Bool := !((aU b).err==0)||s.has (br b)
def Kn.opens(s:Kn)(b:Bytes):Bool:=(aU b).err==0&&s.keys.contains (aU b).box.key && !s.has (br b)
def Kn.next(s:Kn):Option Bytes:=s.boxes.find? s.opens
def qT:Nat->Kn->Kn
 | 0,s=>s
 | n+1,s=>match s.next with
  | some b=>qT n (s.add (br b))
  | none=>s
def CZ(s:Kn):Nat:=((s.boxes.filter λb => !s.done b).map List.length).sum
def mi(s:Kn):Nat:=s.keys.length+s.boxes.length+CZ s
def close(s:Kn):Kn:=qT (mi s) s
def learn(s:Kn)(m:Bytes):Kn:=close (s.add ⟨[],partsOf m⟩)
def leak(s:Kn)(k:Int):Kn:=close (s.add ⟨ec [k],[]⟩)
def kM:Nat->Kn->Bytes->Bool
 | 0,_,_=>Zw
 | n+1,s,b=>s.boxes.contains b||(oF b&&s.keys.contains (aU b).box.key&&(br b).keys.all (λk=>s.keys.contains k)&&(br b).boxes.all λb=>kM n s b)
def bZ(s:Kn)(b:Bytes):Bool:=kM (b.length+1) s b
def vn(s:Kn)(m:Bytes):Bool:=(partsOf m).all (bZ s)
theorem oQ(k:Int):(ec [k]).length<=1:=List.length_filter_le _ _
theorem G0(b:Bytes):(gC [b]).length<=1:=List.length_filter_le _ _
theorem tW{l:List Bytes}{b:Bytes}(h:b∈gC l):b∈l/\oF b=Zm:=List.mem_filter.1 h
theorem G1{a b:Bytes}(h:b∈gC [a]):b=a:=by simpa using (tW h).1
theorem qU(b:Bytes)(li:Bool):(bu b li).val.aG.length<=b.length:=by
 unfold bu;split
 .exact Zz _
 .exact gN _ _ _
theorem jW{O:Type}{no:O}{enc:O->ll}{rd:Bytes->O×Bool}{b:Bytes}(P:O->Prop)(h1:P no)(h2:P (rd b).1):P (eN no enc rd b).val:=by
 unfold eN;split
 .exact h1
 .exact h2
theorem Tw(b:Bytes):(DA b).val.aG.length<=b.length:=by
 unfold DA;dsimp only;cases ez (dM b 4 0 Zw).val
 .exact Zz _
 .exact od _ _ _ _
theorem mR(b:Bytes):(bc b).val.aG.length<=b.length :=
 jW (λa:fT=>a.aG.length<=b.length) (Zz _) (Tw b)
theorem pS(b:Bytes):(cc b).val.record.length<=b.length :=
 jW (λa:ta=>a.record.length<=b.length) (Zz _) (gN _ _ _)
theorem pr(b:Bytes):(aU b).box.body.length+12<=b.length\/(aU b).box=Ek:=by grind [cut,aU]
structure GJ (x:AD) (n:Nat):Prop where
 keys:x.keys.length<=1
 boxes:x.boxes.length<=1
 len:∀ b∈x.boxes,b.length<=n
 mX:∀ b∈x.boxes,oF b=Zm
 valid:∀ k∈x.keys,bB k=Zm
theorem BF(n:Nat):GJ ⟨[],[]⟩ n:=⟨by simp,by simp,by simp,by simp,by simp⟩
theorem Ni(k:Int)(n:Nat):GJ ⟨ec [k],[]⟩ n:=⟨oQ k,by simp,by simp,by simp,λk' h=>(List.mem_filter.1 h).2⟩
theorem wH(k:Int){b:Bytes}{n:Nat}(h:b.length<=n):GJ ⟨ec [k],gC [b]⟩ n :=
 ⟨oQ k,G0 b,λb' hb=>by rw[G1 hb];exact h,λb' hb=>(tW hb).2,λk' h=>(List.mem_filter.1 h).2⟩
theorem BH(x:Box):GJ (ij x) x.body.length:=by
 unfold ij;repeat' split
 all_goals first
  | exact BF _
  | exact Ni _ _
  | exact wH _ (qU _ _)
  | exact wH _ (mR _)
  | exact wH _ (pS _)
theorem BG:ij Ek=⟨[],[]⟩:=rfl
theorem uG(b:Bytes):GJ (br b) (b.length-12):=by
 unfold br;rcases pr b with h | h
 .have h1:=BH (aU b).box;exact⟨h1.keys,h1.boxes,λb' hb=>by have:=h1.len b' hb;omega,h1.mX,h1.valid⟩
 .rw[h,BG];exact BF _
theorem wZ{b:Bytes}(h:(aU b).err=0):12<=b.length:=by
 unfold aU at h;split at h
 .cases h
 .omega
theorem rK{b b':Bytes}(h:b'∈(br b).boxes):b'.length+12<=b.length:=by
 rcases pr b with h1 | h1
 .have:=(BH (aU b).box).len b' h;omega
 .unfold br at h;rw[h1,BG] at h;cases h
theorem iW{y:Bytes}:∀ {l B:List Bytes},y∈eH B l↔y∈B\/y∈l
 | [],B=>by simp[eH]
 | b::l,B=>by
  have e:eH B (b::l)=eH (bif B.contains b then B else B++[b]) l:=rfl;rw[e,iW (l:=l)];cases h:B.contains b with
  | true =>
   have hb:b∈B:=by simpa using h
   simp only[Qa6,Zv];constructor
   .rintro(h | h)
    .exact .inl h
    .exact .inr (.inr h)
   .rintro(h | rfl | h)
    .exact .inl h
    .exact .inl hb
    .exact .inr h
  | false=>simp only[Qa7,List.mem_append,Zv,List.not_mem_nil,or_false];exact or_assoc
theorem jV{y:Int}:∀ {l K:List Int},y∈eZ K l↔y∈K\/y∈l
 | [],K=>by simp[eZ]
 | k::l,K=>by
  have e:eZ K (k::l)=eZ (bif K.contains k then K else lK K k) l:=rfl;rw[e,jV (l:=l)];cases h:K.contains k with
  | true =>
   have hb:k∈K:=by simpa using h
   simp only[Qa6,Zv];constructor
   .rintro(h | h)
    .exact .inl h
    .exact .inr (.inr h)
   .rintro(h | rfl | h)
    .exact .inl h
    .exact .inl hb
    .exact .inr h
  | false =>
   simp only[Qa7,BI,Zv];constructor
   .rintro((h | h) | h)
    .exact .inr (.inl h)
    .exact .inl h
    .exact .inr (.inr h)
   .rintro(h | h | h)
    .exact .inl (.inr h)
    .exact .inl (.inl h)
    .exact .inr h
theorem nV:∀ {l K:List Int},xt K=Zm->xt (eZ K l)=Zm
 | [],K,h=>h
 | k::l,K,h=>by
  have e:eZ K (k::l)=eZ (bif K.contains k then K else lK K k) l:=rfl;rw[e];cases K.contains k with
  | true=>exact nV h
  | false=>exact nV (xv h)
theorem tR:∀ {l K:List Int},(eZ K l).length<=K.length+l.length
 | [],K=>Zn _
 | k::l,K=>by
  have e:eZ K (k::l)=eZ (bif K.contains k then K else lK K k) l:=rfl;rw[e];have h1:=tR (l:=l) (K:=bif K.contains k then K else lK K k);cases h:K.contains k with
  | true=>rw[h] at h1;simp only[Qa6,Zj] at h1 ⊢;omega
  | false =>
   rw[h] at h1;have:=HT (k:=k) (l:=K) (by simpa using h);simp only[Qa7,Zj] at h1 ⊢;omega
theorem jB:∀ {l B:List Bytes},∃ N,eH B l=B++N/\N.length<=l.length/\(∀ b∈N,b∈l/\b ∉ B)
 | [],B=>⟨[],by simp[eH],Zn _,by simp⟩
 | b::l,B=>by
  have e:eH B (b::l)=eH (bif B.contains b then B else B++[b]) l:=rfl;rw[e];cases h:B.contains b with
  | true =>
   obtain⟨N,h1,h2,h3⟩:=jB (l:=l) (B:=B);exact⟨N,h1,by simp only[Zj];omega,λx hx=>⟨Zu _ (h3 x hx).1,(h3 x hx).2⟩⟩
  | false =>
   obtain⟨N,h1,h2,h3⟩:=jB (l:=l) (B:=B++[b]);refine⟨b::N,by simp only[Qa7];rw[h1];simp,by simp only[Zj];omega,λx hx=> ?_⟩;rcases Zv.1 hx with rfl | hx
   .exact⟨by simp,by simpa using h⟩
   .obtain⟨g1,g2⟩:=h3 x hx;exact⟨Zu _ g1,λhm=>g2 (by simp[hm])⟩
theorem vr{s:Kn}{x:AD}:s.has x=Zm↔(∀ k∈x.keys,k∈s.keys)/\∀ b∈x.boxes,b∈s.boxes:=by
 simp[Kn.has]
def Sub(s t:Kn):Prop:=(∀ k∈s.keys,k∈t.keys)/\∀ b∈s.boxes,b∈t.boxes
theorem Sub.refl(s:Kn):Sub s s:=⟨λ_ h=>h,λ_ h=>h⟩
theorem Sub.trans{s t u:Kn}(h1:Sub s t)(h2:Sub t u):Sub s u:=⟨λk h=>h2.1 k (h1.1 k h),λk h=>h2.2 k (h1.2 k h)⟩
theorem Sub.has{s t:Kn}(h:Sub s t){x:AD}(hx:s.has x=Zm):t.has x=Zm :=
 vr.2 ⟨λk hk=>h.1 k ((vr.1 hx).1 k hk),λk hk=>h.2 k ((vr.1 hx).2 k hk)⟩
theorem Sub.done{s t:Kn}(h:Sub s t){b:Bytes}(hx:s.done b=Zm):t.done b=Zm:=by
 unfold Kn.done at hx ⊢;rw[Bool.or_eq_true] at hx ⊢;rcases hx with hx | hx
 .exact .inl hx
 .exact .inr (h.has hx)
theorem Gu(s:Kn)(x:AD):Sub s (s.add x):=⟨λk h=>jV.2 (.inl h),λb h=>iW.2 (.inl h)⟩
theorem LF(s:Kn)(x:AD):(s.add x).has x=Zm:=vr.2 ⟨λk h=>jV.2 (.inr h),λb h=>iW.2 (.inr h)⟩
theorem vw{s:Kn}{b:Bytes}:s.opens b=Zm↔(aU b).err=0/\(aU b).box.key∈s.keys/\s.has (br b)=Zw:=by
 simp[Kn.opens,and_assoc]
theorem JI{p q:Bytes->Bool}{b:Bytes}:∀ {l:List Bytes},(∀ x∈l,q x=Zm->p x=Zm)->b∈l->p b=Zm->q b=Zw->((l.filter q).map List.length).sum+b.length<=((l.filter p).map List.length).sum
 | [],_,h,_,_=>by cases h
 | a::l,h1,h2,h3,h4=>by
  have le:∀ {l:List Bytes},(∀ x∈l,q x=Zm->p x=Zm)->((l.filter q).map List.length).sum<=((l.filter p).map List.length).sum:=by
   intro l;induction l with
   | nil=>intro _;exact Zn _
   | cons c l ih =>
    intro hc;have:=ih λx hx=>hc x (Zu _ hx);cases hq:q c with
    | true=>simp only[Zx,hq,hc c (by simp) hq,if_true,Zp,Zk];omega
    | false =>
     cases hp:p c with
     | true=>simp only[Zx,hq,hp,if_true,Zq,if_false,Zp,Zk];omega
     | false=>simpa only[Zx,hq,hp,Zq,if_false] using this
  rcases Zv.1 h2 with rfl | h2
  .have:=le (l:=l) λx hx=>h1 x (Zu _ hx);simp only[Zx,h3,h4,if_true,Zq,if_false,Zp,Zk];omega
  .have:=JI (l:=l) (λx hx=>h1 x (Zu _ hx)) h2 h3 h4;cases hq:q a with
   | true=>simp only[Zx,hq,h1 a (by simp) hq,if_true,Zp,Zk];omega
   | false =>
    cases hp:p a with
    | true=>simp only[Zx,hq,hp,if_true,Zq,if_false,Zp,Zk];omega
    | false=>simpa only[Zx,hq,hp,Zq,if_false] using this
theorem W0{p:Bytes->Bool}{m:Nat}:∀ {l:List Bytes},l.length<=1->(∀ x∈l,x.length<=m)->((l.filter p).map List.length).sum<=m
 | [],_,_=>Zz _
 | [a],_,h=>by
  have:=h a (by simp);cases hp:p a<;>simp[hp]<;>omega
 | _::_::_,h,_=>by simp at h
theorem oM{s:Kn}{b:Bytes}(hb:b∈s.boxes)(ho:s.opens b=Zm):mi (s.add (br b))<mi s:=by
 obtain⟨h1,h2,h3⟩:=vw.1 ho;have hl:=wZ h1;have hi:=uG b;obtain⟨N,e,hN,hN2⟩:=jB (l:=(br b).boxes) (B:=s.boxes);have hk:=tR (l:=(br b).keys) (K:=s.keys);have hu:CZ (s.add (br b))+b.length<=CZ s+(b.length-12):=by
  unfold CZ;rw[show(s.add (br b)).boxes=s.boxes++N from e,List.filter_append,List.map_append,List.sum_append];have a1:=JI (p:=λb => !s.done b) (q:=λx => !(s.add (br b)).done x) (b:=b) (l:=s.boxes) (λx _ hx=>by
   simp only[Bool.not_eq_true',Bool.not_eq_eq_eq_not,Bool.not_true] at hx ⊢;cases hd:s.done x with
   | false=>rfl
   | true=>rw[(Gu s (br b)).done hd] at hx;cases hx) hb (by simp[Kn.done,h1,h3]) (by simp[Kn.done,h1,LF])
  have a2:=W0 (p:=λx => !(s.add (br b)).done x) (m:=b.length-12) (l:=N) (Zb hN hi.boxes) λx hx=>hi.len x (hN2 x hx).1;omega
 have h4:(s.add (br b)).boxes.length<=s.boxes.length+1:=by
  rw[show(s.add (br b)).boxes=s.boxes++N from e,Zd];have:=hi.boxes;omega
 have h5:(s.add (br b)).keys.length<=s.keys.length+1:=Zb hk (by have:=hi.keys;omega);unfold mi;omega
theorem rS{s:Kn}{b:Bytes}(h:s.next=some b):b∈s.boxes/\s.opens b=Zm:=⟨List.mem_of_find?_eq_some h,List.find?_some h⟩
theorem Dj:∀ {n:Nat} {s:Kn},mi s<=n->qT n s=close s:=by
 intro n;induction n using Nat.strongRecOn with
 | _ n ih =>
  intro s h;have key:∀ m,mi s<=m->m<=n->qT m s=qT (mi s) s:=by
   intro m h1 h2;cases hn:s.next with
   | none =>
    have:∀ q,qT q s=s:=λq=>by cases q with
     | zero=>rfl
     | succ q=>simp only[qT,hn]
    rw[this,this]
   | some b =>
    obtain⟨g1,g2⟩:=rS hn;have fY:=oM g1 g2;obtain⟨q,rfl⟩:∃ q,m=q+1:=⟨m-1,by omega⟩;obtain⟨r,hr⟩:∃ r,mi s=r+1:=⟨mi s-1,by omega⟩;rw[hr];simp only[qT,hn];rw[ih q (by omega) (s:=s.add (br b)) (by omega),ih r (by omega) (s:=s.add (br b)) (by omega)]
  exact key n h (Zn _)
theorem wy{s:Kn}{b:Bytes}(h:s.next=some b):close s=close (s.add (br b)):=by
 obtain⟨g1,g2⟩:=rS h;have fY:=oM g1 g2;obtain⟨r,hr⟩:∃ r,mi s=r+1:=⟨mi s-1,by omega⟩;unfold close;rw[hr];simp only[qT,h];exact Dj (by omega)
theorem sD{s:Kn}(h:s.next=none):close s=s:=by
 unfold close;cases mi s with
 | zero=>rfl
 | succ n=>simp only[qT,h]
theorem zd{P:Kn->Prop}(uF:∀ s b,P s->b∈s.boxes->s.opens b=Zm->P (s.add (br b))):∀ s,P s->P (close s)/\(close s).next=none:=by
 have:∀ n s,mi s<=n->P s->P (close s)/\(close s).next=none:=by
  intro n;induction n with
  | zero =>
   intro s hm hp;cases hn:s.next with
   | none=>rw[sD hn];exact⟨hp,hn⟩
   | some b =>
    obtain⟨g1,g2⟩:=rS hn;have:=oM g1 g2;omega
  | succ n ih =>
   intro s hm hp;cases hn:s.next with
   | none=>rw[sD hn];exact⟨hp,hn⟩
   | some b =>
    obtain⟨g1,g2⟩:=rS hn;have:=oM g1 g2;rw[wy hn];exact ih _ (by omega) (uF s b hp g1 g2)
 exact λs=>this _ s (Zn _)
end Kerb
/- Chapter 27: what is asked of knowledge that is handed over. -/
namespace Kerb
open Go Go.Abs
def kn(ks bs:List AV):Kn:=⟨eJ ks,eY bs⟩
def q_(bs:List AV):Bool:=oW bs&&bs.all (λa=>decide ((Gw a).length<=70368744177664))&&decide (bs.length<=100000000)
def zs(ks:List AV):Bool:=dl ks&&(eJ ks).all (λk=>decide (0<=k)&&decide (k<18446744073709551616))&&decide (ks.length<=100000000)
def lZ(ks bs:List AV):Bool:=dl ks&&q_ bs&&xt (eJ ks)&&decide (mi (kn ks bs)<=1000000)&&(eY bs).all λb=>decide (b.length<=70368744170000)
structure eA (s:Kn):Prop where
 xt:xt s.keys=Zm
 len:∀ b∈s.boxes,b.length<=70368744170000
 mi:mi s<=1000000
theorem kW(s:Kn):kn (bK s.keys) (bF s.boxes)=s:=by unfold kn;rw[gX,hJ]
theorem yg{l:List Bytes}:q_ (bF l)=Zm↔(∀ b∈l,b.length<=70368744177664)/\l.length<=100000000:=by
 unfold q_;rw[qS,cG];simp[bF,Gw];intro _;exact⟨λh b hb=>Qa3 (h b hb),λh b hb=>Qa4 (h b hb)⟩
theorem F4{bs:List AV}(h:q_ bs=Zm):∃ l,bs=bF l/\(∀ b∈l,b.length<=70368744177664)/\l.length<=100000000:=by
 have h':=h;unfold q_ at h;simp only[Zy] at h;obtain⟨l,rfl⟩:=F5 h.1.1;exact⟨l,rfl,yg.1 h'⟩
theorem Mc{l:List Int}:zs (bK l)=Zm↔(∀ k∈l,0<=k/\k<18446744073709551616)/\l.length<=100000000:=by
 unfold zs;rw[lG,cU,gX];simp
theorem Tr{ks:List AV}(h:zs ks=Zm):∃ l,ks=bK l/\(∀ k∈l,0<=k/\k<18446744073709551616)/\l.length<=100000000:=by
 have h':=h;unfold zs at h;simp only[Zy] at h;obtain⟨l,rfl⟩:=wR h.1.1;exact⟨l,rfl,Mc.1 h'⟩
theorem wb{s:Kn}:lZ (bK s.keys) (bF s.boxes)=Zm↔eA s:=by
 unfold lZ;rw[kW,lG,gX,hJ];simp only[Zy,Qa2,yg,Qa9,Zf];constructor
 .rintro⟨⟨⟨⟨h1,h2⟩,h3⟩,h4⟩,h5⟩;exact⟨h3,h5,h4⟩
 .rintro⟨h1,h2,h3⟩;refine⟨⟨⟨⟨λb hb=>Zb (h2 b hb) (by decide),?_⟩,h1⟩,h3⟩,h2⟩;have:s.boxes.length<=mi s:=by unfold mi;omega
  omega
theorem wg{ks bs:List AV}(h:lZ ks bs=Zm):∃ s:Kn,ks=bK s.keys/\bs=bF s.boxes/\eA s:=by
 have h':=h;unfold lZ at h;simp only[Zy] at h;obtain⟨l,rfl⟩:=wR h.1.1.1.1;obtain⟨m,rfl,_⟩:=F4 h.1.1.1.2;exact⟨⟨l,m⟩,rfl,rfl,wb (s:=⟨l,m⟩).1 h'⟩
theorem eA.z_{s:Kn}(h:eA s):s.keys.length<=1000000:=by have:=h.mi;unfold Kerb.mi at this;omega
theorem eA.sA{s:Kn}(h:eA s):s.boxes.length<=1000000:=by have:=h.mi;unfold Kerb.mi at this;omega
theorem eA.open{s:Kn}{b:Bytes}(h:eA s)(hb:b∈s.boxes)(ho:s.opens b=Zm):eA (s.add (br b)) :=
 ⟨nV h.xt,λx hx=>by
  rcases iW.1 hx with hx | hx
  .exact h.len x hx
  .have:=rK hx;have:=h.len b hb;omega,Nat.le_of_lt (Nat.lt_of_lt_of_le (oM hb ho) h.mi)⟩
theorem eA.close{s:Kn}(h:eA s):eA (Kerb.close s):=(zd (P:=eA) (λs b hs hb ho=>hs.open hb ho) s h).1
def Ck(b:Bytes):Rd fy :=
 let a:=Ga b (aM b [3]).1 Zw
 let t:=dK b 4 (aM b [3]).1 a.pos a.bad
 let l:=dK b 1 Zw t.pos t.bad
 let s:=nE b l.pos l.bad
 let i:=nE b s.pos s.bad
 ⟨⟨a.val,t.val,l.val,s.val,i.val⟩,i.pos,i.bad⟩
theorem Cl{r:fy}(h:(cZ r).err=0):(Ck (cZ r).val).val=r/\(Ck (cZ r).val).bad=Zw:=by
 have hd:=(yy h).1;obtain⟨h1,h2,h3,⟨t0,t1⟩,⟨l0,l1⟩,⟨s0,s1⟩,i0,i1⟩:=Gx h;rw[h3] at hd ⊢;obtain⟨z,hz⟩:∃ z,aJ r.time 4 r.ap.By++(aJ r.bS 1 Zw++(r.service++0::(r.inst++0::[])))=z:=⟨_,rfl⟩;obtain⟨q1,q2,q3,q4,q5,q6,e1,e2,e3,e4,e5,e6,p⟩:=GQ z h1;rw[<-hz] at p;rw[hz] at p hd ⊢;have p1:=p.as hz.symm;obtain⟨e7,p2⟩:=p1.nY (li:=r.ap.By) t0 t1;obtain⟨e8,p3⟩:=p2.mW l0 l1;obtain⟨e9,p4⟩:=p3.text s0 s1;obtain⟨e10,p5⟩:=p4.text i0 i1;unfold Ck Ga dK nE dw;simp only[hd,e1,e2,e3,e4,e5,e6,e7,e8,e9,e10,BEq.rfl,Bool.not_true,Bool.or_false,Qa7,Qa8];rw[<-h2]
theorem Kb(b:Bytes):eN uL cZ (λb=>(pu b (aM b [3]).1,Zw)) b=eN uL cZ (λb=>((Ck b).val,(Ck b).bad)) b :=
 iG (P:=λ_=>True) (λr _ h=>by
  obtain⟨h1,h2⟩:=yy h;rw[h1];exact Qb5 (λq=>(q,Zw)) h2) (λr _ h=>Prod.ext (Cl h).1 (Cl h).2) (λ_=>trivial) (λ_=>trivial) b
theorem ue(b:Bytes):(bm b).val.cI.length<=b.length:=by
 unfold bm;split
 .exact Zz _
 split
 .exact Zz _
 .exact gN _ _ _
theorem Ia(b:Bytes)(p m:Int)(li:Bool):(ew b p m li).val.length<=b.length:=by
 unfold ew;split
 .exact Zz _
 .exact gN _ _ _
theorem Cd(b:Bytes):(gE b).cI.length<=b.length:=by
 unfold gE;split
 .exact Zz _
 split
 .exact Ia _ _ _ _
 .exact Zz _
theorem Ty(b:Bytes):(F8 b).val.aG.length<=b.length/\(F8 b).val.box.length<=b.length:=by
 unfold F8;dsimp only;cases ((gL b 1 2 Zw).val==2)
 .exact⟨Zz _,od _ _ _ _⟩
 .exact⟨od _ _ _ _,od _ _ _ _⟩
theorem pQ(b:Bytes):(aV b).val.aG.length<=b.length/\(aV b).val.box.length<=b.length:=by
 unfold aV;split
 .exact⟨Zz _,Zz _⟩
 .exact jW (λa:dk=>a.aG.length<=b.length/\a.box.length<=b.length) ⟨Zz _,Zz _⟩ (Ty b)
theorem rz(b:Bytes):(cD b).val.box.length<=b.length:=by
 unfold cD;split
 .exact Zz _
 .exact jW (λa:iI=>a.box.length<=b.length) (Zz _) (od _ _ _ _)
theorem vV(b:Bytes):(dD b).val.box.length<=b.length:=by
 unfold dD;split
 .exact Zz _
 .exact jW (λa:A3=>a.box.length<=b.length) (Zz _) (gN _ _ _)
theorem Mx:(0:Int)<=0/\(0:Int)<18446744073709551616:=by decide
theorem rA(b:Bytes):0<=(bG b).val.ax/\(bG b).val.ax<18446744073709551616:=by
 unfold bG;split
 .exact⟨Zg _,by decide⟩
 .exact jW (λa:dU=>0<=a.ax/\a.ax<18446744073709551616) ⟨Zg _,by decide⟩ (dV _)
theorem uc(b:Bytes)(li:Bool):0<=(bu b li).val.ax/\(bu b li).val.ax<18446744073709551616:=by
 unfold bu;split
 .exact⟨Zg _,by decide⟩
 .exact dV _
theorem pR(b:Bytes):0<=(cE b).val.new/\(cE b).val.new<18446744073709551616 :=
 jW (λa:eQ=>0<=a.new/\a.new<18446744073709551616) ⟨Zg _,by decide⟩ (by
  unfold iY Ir;dsimp only;cases jG (dM b 4 0 Zw).val
  .exact vx _ _ _
  .exact Mx)
theorem pP(b:Bytes):0<=(bc b).val.ax/\(bc b).val.ax<18446744073709551616 :=
 jW (λa:fT=>0<=a.ax/\a.ax<18446744073709551616) ⟨Zg _,by decide⟩ (by
  unfold iX DA;dsimp only;cases ez (dM b 4 0 Zw).val
  .exact Mx
  .exact vx _ _ _)
theorem ud(b:Bytes):0<=(cq b).val.ax/\(cq b).val.ax<18446744073709551616 :=
 jW (λa:A4=>0<=a.ax/\a.ax<18446744073709551616) ⟨Zg _,by decide⟩ (vp _ _ _)
theorem te(b:Bytes):0<=(cc b).val.ax/\(cc b).val.ax<18446744073709551616 :=
 jW (λa:ta=>0<=a.ax/\a.ax<18446744073709551616) ⟨Zg _,by decide⟩ (vp _ _ _)
theorem uJ{a:Bytes}(h:a.length<=70368744177664):q_ [.bs a]=Zm:=(yg (l:=[a])).2 ⟨by simpa using h,by simp⟩
theorem P3{a b:Bytes}(h:a.length<=70368744177664)(h2:b.length<=70368744177664):q_ [.bs a,.bs b]=Zm:=(yg (l:=[a,b])).2 ⟨by simp[h,h2],by simp⟩
theorem D_{k:Int}(h:0<=k/\k<18446744073709551616):zs [.int AT k]=Zm:=(Mc (l:=[k])).2 ⟨by simpa using h,by simp⟩
theorem qP(b:Bytes):(∀ x∈oO b,x.length<=b.length+1012)/\(oO b).length<=2:=by
 have h1:=ue b;have h2:=zV b;have h3:=xE b;have h4:=vU b;have h5:=Cd b;have h6:=pQ b;have h7:=rz b;have h8:=vV b;unfold oO;repeat' split
 all_goals
  constructor
  .simp only[Zv,List.not_mem_nil,or_false];intro x hx;first
    | (rcases hx with rfl | rfl<;>omega)
    | (subst hx;omega)
    | exact absurd hx (by simp)
  .simp
theorem Gl{b:Bytes}(h:b.length<=70368744170000):q_ (bF (oO b))=Zm :=
 yg.2 ⟨λx hx=>by have:=(qP b).1 x hx;omega,by have:=(qP b).2;omega⟩
theorem kZ(b:Bytes):(∀ x∈partsOf b,x.length<=b.length+1012)/\(partsOf b).length<=2 :=
 ⟨λx hx=>(qP b).1 x (tW hx).1,Zb (List.length_filter_le _ _) (qP b).2⟩
theorem C0{s t:Kn}(h:Sub s t)(l:List Bytes):((l.filter λb => !t.done b).map List.length).sum<=((l.filter λb => !s.done b).map List.length).sum:=by
 induction l with
 | nil=>exact Zn _
 | cons c l ih =>
  cases ht:t.done c with
  | true =>
   cases hs:s.done c<;>simp only[Zx,ht,hs,Bool.not_true,Bool.not_false,Zq,if_false,if_true,Zp,Zk]<;>omega
  | false =>
   have hs:s.done c=Zw:=by
    cases hs:s.done c with
    | false=>rfl
    | true=>rw[h.done hs] at ht;cases ht
   simp only[Zx,ht,hs,Bool.not_false,if_true,Zp,Zk];omega
theorem Mu{p:Bytes->Bool}{m:Nat}:∀ {l:List Bytes},(∀ x∈l,x.length<=m)->((l.filter p).map List.length).sum<=l.length*m
 | [],_=>Zz _
 | a::l,h=>by
  have h1:=Mu (p:=p) (l:=l) λx hx=>h x (Zu _ hx);have h2:=h a (by simp);rw[Zj,Nat.succ_mul];cases hp:p a with
  | true=>simp only[Zx,hp,if_true,Zp,Zk];omega
  | false=>simp only[Zx,hp,Zq,if_false];omega
theorem E1(s:Kn)(x:AD){m:Nat}(h:∀ b∈x.boxes,b.length<=m):mi (s.add x)<=mi s+x.keys.length+x.boxes.length*(m+1):=by
 obtain⟨N,e,hN,hN2⟩:=jB (l:=x.boxes) (B:=s.boxes);have hk:=tR (l:=x.keys) (K:=s.keys);have h1:=C0 (Gu s x) s.boxes;have h2:=Mu (p:=λb => !(s.add x).done b) (l:=N) (m:=m) λb hb=>h b (hN2 b hb).1;have h3:N.length*m<=x.boxes.length*m:=Nat.mul_le_mul_right _ hN;unfold mi CZ;rw[show(s.add x).boxes=s.boxes++N from e,List.filter_append,List.map_append,List.sum_append,Zd];rw[Nat.mul_add,Nat.mul_one];have:(s.add x).keys.length<=s.keys.length+x.keys.length:=hk;omega
theorem eA.add{s:Kn}(h:eA s){x:AD}{m:Nat}(h1:∀ b∈x.boxes,b.length<=m)(h2:Kerb.mi s+x.keys.length+x.boxes.length*(m+1)<=1000000)(h3:m<=70368744170000):eA (s.add x) :=
 ⟨nV h.xt,λb hb=>by
  rcases iW.1 hb with hb | hb
  .exact h.len b hb
  .exact Zb (h1 b hb) h3,Zb (E1 s x h1) h2⟩
theorem eA.parts{s:Kn}(h:eA s){b:Bytes}(h1:Kerb.mi s+2*b.length+2100<=1000000):eA (s.add ⟨[],partsOf b⟩):=by
 have hp:=kZ b;refine h.add (m:=b.length+1012) hp.1 ?_ (by omega);have:(partsOf b).length*(b.length+1012+1)<=2*(b.length+1012+1):=Nat.mul_le_mul_right _ hp.2;simp only[List.length_nil];omega
theorem eA.KA{s:Kn}(h:eA s){k:Int}(h1:Kerb.mi s+1<=1000000):eA (s.add ⟨ec [k],[]⟩):=by
 have:=oQ k;exact h.add (m:=0) (by simp) (by simp only[List.length_nil];omega) (by omega)
end Kerb
