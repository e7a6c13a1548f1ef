/- Clients that receive: lengths stay small. -/
import Derived.Test.YteafbgcimcpfiaaGreatKerbCli4
import Derived.KernelRfl
set_option linter.all false
open Nat renaming zero_le→Zz,le_trans→Zb,le_refl→Zn
open Bool renaming and_eq_true→Zy,false→Zw,false_eq_true→Zq,true→Zm
open List renaming filter_cons→Zx,mem_cons→Zv,mem_cons_of_mem→Zu,length_cons→Zj,sum_cons→Zk,map_cons→Zp,length_append→Zd,all_eq_true→Zf
open Int renaming le_refl→Zg
namespace Kerb
open Go.Abs Go
end Kerb
namespace Go.Abs
theorem Gb{α β:Type}{x:Option α}{f:α->Option β}{r:Option β}(P:α->Prop)(h1:∃ a,x=some a/\P a)(h2:∀ a,P a->f a=r):x.bind f=r:=by
 obtain⟨a,rfl,h⟩:=h1;exact h2 a h
end Go.Abs
/- Chapter 20: a client that waits for an answer gets it. -/
namespace Kerb
open Go Go.Abs
theorem yK(m:I2)(li:Bool):(fG m li).val.length<=16:=by
 unfold fG;split
 ·simp
 ·rw[uZ];simp[ah]
theorem CK(s:Bytes)(li:Bool):(b_ s li).val.length<=2000:=by
 unfold b_;split
 ·simp
 ·simp[ah,Dp];omega
end Kerb
/- Chapter 23, plain: when a ticket is given; what the data of the statements says. -/
namespace Kerb
open Go Go.Abs
end Kerb
/- Chapter 17: authentication servers; the data of its statements. -/
namespace Kerb
open Go Go.Abs
def rF(r:jy)(p:fO)(k:Int):kP :=
 if (bp p r.little).err≠0 then⟨[],(bp p r.little).err⟩
 else if (gX 3 k (bp p r.little).val).err≠0 then⟨[],(gX 3 k (bp p r.little).val).err⟩
 else bc ⟨r.little,r.client,r.time,r.cE,r.br,(gX 3 k (bp p r.little).val).val⟩
def MR(msg:Bytes)(now:Int)(little:Bool):Bytes :=
 if msg.length=0 then[] else if msg.getD 0 0=4 then[] else if (gO (msg.set 0 4)).err≠0 then[]
 else refuse (gO (msg.set 0 4)).val.client 4 now little
structure uQ where
 answer:Bytes
 jC:zn
 ok:Bool
def pk(c:g_)(v:ZL)(bL now:Int):Int×Bool:=LN now (EZ (EZ bL c.mY) v.bL) ([c.cE,v.cE].filter fun n => !(n==0))
def F'(d:Db)(c:g_)(v:ZL)(r:j7)(now address:Int)(little:Bool)(ay:Int):uQ :=
 if (pk c v r.bL now).2=Zw then⟨refuse r.client 3 now little,m4,Zw⟩
 else if iD ay≠2 then⟨refuse r.client 10 now little,m4,Zw⟩
 else if (vz d.aL r.client ⟨r.service,r.inst,d.aL⟩ address little now (pk c v r.bL now).1 ay c.key v.key v.br).err≠0 then⟨[],m4,Zw⟩
 else if (rF ⟨little,r.client,r.time,c.cE,c.br,[]⟩ (vz d.aL r.client ⟨r.service,r.inst,d.aL⟩ address little now (pk c v r.bL now).1 ay c.key v.key v.br).part c.key).err≠0 then⟨[],m4,Zw⟩
 else⟨(rF ⟨little,r.client,r.time,c.cE,c.br,[]⟩ (vz d.aL r.client ⟨r.service,r.inst,d.aL⟩ address little now (pk c v r.bL now).1 ay c.key v.key v.br).part c.key).val,
  { (vz d.aL r.client ⟨r.service,r.inst,d.aL⟩ address little now (pk c v r.bL now).1 ay c.key v.key v.br).jC with kind:=1 },Zm⟩
def KG(d:Db)(eN:List oe)(now address:Int)(little:Bool)(ay:Int)(r:j7):uQ :=
 if r.client.aL≠d.aL then⟨refuse r.client 8 now little,m4,Zw⟩
 else if (qS d r.client.name r.client.inst now).2≠0 then⟨refuse r.client (qS d r.client.name r.client.inst now).2 now little,m4,Zw⟩
 else if (FM d eN r.service r.inst now).err≠0 then⟨refuse r.client (FM d eN r.service r.inst now).err now little,m4,Zw⟩
 else F' d (iY d (qS d r.client.name r.client.inst now).1) (FM d eN r.service r.inst now) r now address little ay
def rP(d:Db)(eN:List oe)(now address:Int)(little:Bool)(ay:Int)(msg:Bytes):uQ :=
 if !(within now 4294967295&&within address 4294967295) then⟨[],m4,Zw⟩
 else if (gO msg).err≠0 then⟨MR msg now little,m4,Zw⟩
 else KG d eN now address little ay (gO msg).val
def oe.ok(c:oe):Prop:=c.source.length<=9223372036854775807/\c.target.length<=9223372036854775807/\oH c.br=Zm/\Dw c.key=Zm
structure Lp where
 client:UInt8
 service:UInt8
 peer:UInt8
 time:UInt8
 bL:UInt8
 eN:UInt8
 little:Bool
 how:Int
def Lp.want(a:Lp):bn:=if a.service.toNat % 5=4 then ZC (aL 0) (aL (oB a.peer)) else Kerb.service (oB a.service % 3)
def Lp.base(a:Lp):Bytes:=(qB ⟨a.little,user (oB a.client % 5),oB a.time,oB a.bL,a.want.name,a.want.inst⟩).val
def Lp.msg(a:Lp):Bytes :=
 if a.how % 8=7 then sY a.base (a.how / 8)
 else if a.how % 8=6/\0<a.base.length then a.base.set 0 (UInt8.ofNat (Int.toNat (IntKind.wrap .u8 (a.how / 8)))) else a.base
end Kerb
/- Chapter 23, plain: how long a ticket lasts, and who can open the answer. -/
namespace Kerb
open Go Go.Abs
namespace KAsk
end KAsk
end Kerb
namespace Kerb
open Go Go.Abs
structure aeC (a:KAsk) (d:Db) (ad se:Int) (o:Vt) (R:iC) (Y:fN) (k:Int):Prop where
 dec:cp o.answer=⟨R,0⟩
 len:o.answer.length<=1000000
 code:R.code=0
 opens:(lL R.box 8 k).2=Zm
 says:a_ (lL R.box 8 k).1=⟨Y,0⟩
 ses:Y.ay=se
 ahq:o.jC.ay=se
 afF:o.jC.nT=k
 time:Y.time=1000+oB a.time+1
 start:Y.start=1100
 stop:Y.stop=o.jC.stop
 most:o.jC.stop<=1000+oB a.time+oB a.stop*50
 client:o.jC.client=user (oB a.user % 3)
 kind:(o.jC.kind=3/\k=(iY d (lI d.entries o.jC.client.name o.jC.client.inst).1).key/\0<=(lI d.entries o.jC.client.name o.jC.client.inst).1/\(lI d.entries o.jC.client.name o.jC.client.inst).1<d.entries.length) \/
  (o.jC.kind=4/\k=ay (oB a.ay % 4)/\o.jC.stop<=1000+oB a.cG+300*(oB a.bL % 40+1)/\oB a.address % 2=ad/\o.jC.rY=k)
end Kerb
/- The data of the statements of chapters 18 and 19: cases, servers, keys. -/
namespace Kerb
open Go Go.Abs
structure Case where
 client:UInt8
 other:UInt8
 service:UInt8
 aL:UInt8
 little:Bool
 turned:Bool
 cW:Bool
 address:UInt8
 src:UInt8
 cG:UInt8
 time:UInt8
 tick:UInt8
 bL:UInt8
 dp:Int
 key:UInt8
 br:UInt8
 ay:UInt8
 aH:Int
 fm:Int
def Case.av(c:Case):AV := .agg [.u8 c.client,.u8 c.other,.u8 c.service,.u8 c.aL,.bool c.little,.bool c.turned,.bool c.cW,.u8 c.address,.u8 c.src,.u8 c.cG,.u8 c.time,.u8 c.tick,.u8 c.bL,.int .u32 c.dp,.u8 c.key,.u8 c.br,.u8 c.ay,.int .u16 c.aH,.int .u16 c.fm]
def Xo(n:Int):Bool:=decide (0<=n)&&decide (n<=4294967295)
def OE(n:Int):Bool:=decide (0<=n)&&decide (n<=65535)
def Case.ok(c:Case):Prop:=Xo c.dp=Zm/\OE c.aH=Zm/\OE c.fm=Zm
namespace Case
def who(c:Case):bn:=Kerb.user (oB c.client % 6)
def me(c:Case):bn:=Kerb.service (oB c.service % 6)
def ses(c:Case):Int:=Kerb.ay (oB c.ay % 4)
def YK(c:Case)(m:bn):dQ :=
 ⟨c.turned,c.who,oB c.address % 3,c.ses,oB c.bL / 4,1000+oB c.cG*8,m.name,if c.service.toNat % 7=6 then[111,116,104,101,114] else m.inst⟩
def au(c:Case):nt:=⟨if c.other.toNat % 8=7 then Kerb.user (oB c.other % 6) else c.who,c.dp,oB c.tick % 3,1000+oB c.time*8⟩
def x(c:Case)(m:bn)(k:Int):Bytes:=(gN (c.YK m) k).val
def y(c:Case):Bytes:=(Ps c.au c.little c.ses).val
def Vi(c:Case)(m:bn)(k v:Int):cI :=
  ⟨if c.fm % 16=14 then !c.little else c.little,c.cW,if c.br.toNat % 16=15 then v+1 else v,if c.aL.toNat % 16=15 then[67,65,77] else m.aL,
   if c.aH % 16=15 then sY (c.x m k) (c.aH / 16) else c.x m k,if c.fm % 16=15 then sY c.y (c.fm / 16) else c.y⟩
def msg(c:Case)(m:bn)(k v:Int):Bytes:=(bf (c.Vi m k v)).val
def server(c:Case)(size fK:UInt8):Server :=
 ⟨c.me,[⟨c.me,1,tb 1⟩,⟨c.me,2,tb 2⟩,⟨Kerb.user 0,1,tb 9⟩],⟨1+oB size % 40,0,[]⟩,oB fK*4⟩
end Case
end Kerb
/- The statements of chapter 18, plain: what is accepted. -/
namespace Kerb
open Go Go.Abs
structure Sl (r:pj) (m:Mark) (now fK:Int):Prop where
 err:r.err=0
 name:m.client.valid=Zm
 tick:0<=m.tick/\m.tick<=199
 CX:CX m.time now fK=Zm
 floor:r.floor<=m.time
 new:m ∉ r.marks
 room:(pE r now fK).length<r.size
 is:nX r m now fK=⟨⟨r.size,imax r.floor (now-fK),pE r now fK++[m]⟩,0⟩
theorem GL{l:List Mark}{m:Mark}:xv l m=Zm↔m∈l:=by
 unfold xv;rw[List.any_eq_true];constructor
 ·rintro⟨x,hx,he⟩;rw[<-Mark.qi.1 he];exact hx
 ·intro h;exact⟨m,h,Mark.qi.2 rfl⟩
theorem added{r:pj}{m:Mark}{now fK:Int}(h:(nX r m now fK).err=0):Sl r m now fK:=by
 unfold nX at h;by_cases h1:r.err=0;case neg=>rw[Qa1 h1] at h;cases h
 rw[Qa0 (by simpa using h1)] at h;by_cases h2:m.client.valid=Zm;case neg=>rw[Qa1 (by simpa using h2)] at h;cases h
 rw[Qa0 (by simp[h2])] at h;by_cases h3:within m.tick 199=Zm;case neg=>rw[Qa1 (by simpa using h3)] at h;cases h
 rw[Qa0 (by simp[h3])] at h;by_cases h4:CX m.time now fK=Zw\/m.time<r.floor
 ·rw[Qa1 h4] at h;cases h
 rw[Qa0 h4] at h;by_cases h5:xv r.marks m=Zm
 ·rw[Qa1 h5] at h;cases h
 rw[Qa0 h5] at h;by_cases h6:r.size<=(pE r now fK).length
 ·rw[Qa1 h6] at h;cases h
 refine⟨h1,h2,within_iff.1 h3,?_,by omega,fun hm=>h5 (GL.2 hm),by omega,?_⟩
 ·cases hn:CX m.time now fK
  ·exact absurd (.inl hn) h4
  ·rfl
 ·unfold nX;rw[Qa0 (by simpa using h1),Qa0 (by simp[h2]),Qa0 (by simp[h3]),Qa0 h4,Qa0 h5,Qa0 h6]
structure VA (s:Server) (r:cI) (src now:Int) (t:dQ) (a:nt):Prop where
 err:s.err=0
 aL:r.aL=s.me.aL
 found:(lu s.keys s.me r.br).2=Zm
 YK:gL r.aH (lu s.keys s.me r.br).1=⟨t,0⟩
 us:vf t s.me.aL=s.me
 fm:ug r.fm r.little t.ay=⟨a,0⟩
 client:t.client=a.client
 from_:src=t.address
 CX:CX a.time now s.fK=Zm
 state:IJ t.cG t.bL now s.fK=0
 add:Sl s.replay (wc a) now s.fK
 is:verify s r src now=⟨⟨s.me,s.keys,(nX s.replay (wc a) now s.fK).val,s.fK⟩,⟨t.client,t.ay,t.address,a.dp,a.time,a.tick,t.cG,t.bL,r.aH,r.fm⟩,0⟩
theorem KM{α:Type}(d:FY α)(h:d.err=0):d=⟨d.val,0⟩:=by cases d;simp at h;rw[h]
theorem taken{s:Server}{r:cI}{src now:Int}(h:(verify s r src now).err=0):∃ t a,VA s r src now t a:=by
 have h0:=h;unfold verify at h;by_cases h1:s.err=0;case neg=>rw[Qa1 h1] at h;cases h
 rw[Qa0 (by simpa using h1)] at h;by_cases h2:(dZ s r).err=0;case neg=>rw[Qa1 h2] at h;exact absurd h h2
 rw[Qa0 (by simpa using h2)] at h;by_cases h3:K5 (dZ s r).aH (dZ s r).fm src now s.fK=0;case neg=>rw[Qa1 h3] at h;exact absurd h h3
 rw[Qa0 (by simpa using h3)] at h;by_cases h4:(nX s.replay (wc (dZ s r).fm) now s.fK).err=0;case neg=>rw[Qa1 h4] at h;exact absurd h h4
 have hv:verify s r src now=⟨⟨s.me,s.keys,(nX s.replay (wc (dZ s r).fm) now s.fK).val,s.fK⟩,⟨(dZ s r).aH.client,(dZ s r).aH.ay,(dZ s r).aH.address,(dZ s r).fm.dp,(dZ s r).fm.time,(dZ s r).fm.tick,(dZ s r).aH.cG,(dZ s r).aH.bL,r.aH,r.fm⟩,0⟩:=by
  unfold verify;rw[Qa0 (by simpa using h1),Qa0 (by simpa using h2),Qa0 (by simpa using h3),Qa0 (by simpa using h4)]
 have ho:∃ t a,r.aL=s.me.aL/\(lu s.keys s.me r.br).2=Zm/\gL r.aH (lu s.keys s.me r.br).1=⟨t,0⟩/\vf t s.me.aL=s.me/\ug r.fm r.little t.ay=⟨a,0⟩/\dZ s r=⟨t,a,0⟩:=by
  unfold dZ at h2 ⊢;by_cases g1:r.aL=s.me.aL;case neg=>rw[Qa1 g1] at h2;cases h2
  rw[Qa0 (by simpa using g1)] at h2 ⊢;by_cases g2:(lu s.keys s.me r.br).2=Zw
  ·rw[Qa1 g2] at h2;cases h2
  rw[Qa0 g2] at h2 ⊢;by_cases g3:(gL r.aH (lu s.keys s.me r.br).1).err=7
  ·rw[Qa1 g3] at h2;cases h2
  rw[Qa0 g3] at h2 ⊢;by_cases g4:(gL r.aH (lu s.keys s.me r.br).1).err=0;case neg=>rw[Qa1 g4] at h2;cases h2
  rw[Qa0 (by simpa using g4)] at h2 ⊢;by_cases g5:(vf (gL r.aH (lu s.keys s.me r.br).1).val s.me.aL).sK s.me=Zw
  ·rw[Qa1 g5] at h2;cases h2
  rw[Qa0 g5] at h2 ⊢;by_cases g6:(ug r.fm r.little (gL r.aH (lu s.keys s.me r.br).1).val.ay).err=0;case neg=>rw[Qa1 g6] at h2;cases h2
  rw[Qa0 (by simpa using g6)];exact⟨_,_,g1,by simpa using g2,KM _ g4,bn.qi.1 (by simpa using g5),KM _ g6,rfl⟩
 obtain⟨t,a,o1,o2,o3,o4,o5,o6⟩:=ho;rw[o6] at h3 h4 hv;dsimp only at h3 h4 hv;unfold K5 at h3;by_cases j1:t.client.sK a.client=Zw
 ·rw[Qa1 j1] at h3;cases h3
 rw[Qa0 j1] at h3;by_cases j2:src=t.address;case neg=>rw[Qa1 j2] at h3;cases h3
 rw[Qa0 (by simpa using j2)] at h3;by_cases j3:CX a.time now s.fK=Zw
 ·rw[Qa1 j3] at h3;cases h3
 rw[Qa0 j3] at h3;exact⟨t,a,h1,o1,o2,o3,o4,o5,bn.qi.1 (by simpa using j1),j2,by simpa using j3,h3,added h4,hv⟩
namespace Case
end Case
theorem AH{a:nt}{l:Bool}:(iT a l).val.length<=150:=by
 unfold iT;split
 ·simp
 rename_i h;have hv:a.client.valid=Zm:=by
  unfold nt.check at h;cases hv:a.client.valid
  ·rw[hv,Qa1 (by rfl)] at h;simp at h
  ·rfl
 simp only[bn.valid,Zy,validName,cl,dI,Qa2] at hv;have:=uZ (cO (aK (cond l 1 0) 1 Zw) a.client++aK a.dp 4 l++aK a.tick 1 Zw++aK a.time 4 l);simp only[this,Zd,aq,ah];omega
structure Reached (s:Server):Prop where
 err:s.err=0
 keys:∀ c∈s.keys,c.ok
 marks:∀ c∈s.replay.marks,c.ok
 name:s.me.name.length<=9223372036854775807/\s.me.inst.length<=9223372036854775807/\s.me.aL.length<=9223372036854775807
 lens:s.keys.length<=1000000/\s.replay.marks.length<=1000000
theorem NF(r:cI):(bf r).val.length<=600:=by
 by_cases h:(bf r).err=0
 ·obtain⟨h1,⟨h2,_⟩,_,h3,h4⟩:=zo h;have hh:(header (cond r.cW 4 3) r.little).length=2:=by cases r.cW<;>cases r.little<;>rfl
  rw[h1];simp only[Zd,Zj,List.length_nil,ah,hh];omega
 ·unfold bf at h ⊢;split
  ·simp
  rename_i g1;rw[Qa0 g1] at h;split
  ·simp
  rename_i g2;rw[Qa0 g2] at h;split
  ·simp
  rename_i g3;rw[Qa0 g3] at h;exact absurd rfl h
structure Fits (s:Server) (V:F3) (r:cI) (src now:Int):Prop where
 err:V.err=0
 t1:V.a.time-now<=s.fK
 t2:now-V.a.time<=s.fK
 t3:V.a.cG-s.fK<=now
 t4:now<=V.a.cG+300*(V.a.bL+1)+s.fK
 b1:0<=V.a.time/\V.a.time<=4294967295
 b2:0<=V.a.cG/\V.a.cG<=4294967295
 b3:0<=V.a.bL/\V.a.bL<=255
 b4:0<=s.fK/\s.fK<=4294967295
 b5:0<=now/\now<=4294967295
 src:V.a.address=src
 aH:V.a.aH=r.aH
 fm:V.a.fm=r.fm
 more:V.s.replay.marks.length<=s.replay.marks.length+1
 most:(V.s.replay.marks.length:Int)<=V.s.replay.size
 size:V.s.replay.size=s.replay.size
 ok:V.s.err=0
structure aeI (s:Server):Prop where
 keys:∀ c∈s.keys,c.ok
 marks:∀ c∈s.replay.marks,c.ok
 name:s.me.name.length<=9223372036854775807/\s.me.inst.length<=9223372036854775807/\s.me.aL.length<=9223372036854775807
 lens:s.keys.length<=1000000/\s.replay.marks.length<=1000000
end Kerb
/- The statements of chapter 17, plain. -/
namespace Kerb
open Go Go.Abs
def oe.Rz(c:oe):Prop:=bA c.key=Zm/\within c.br 255=Zm/\Dw c.key=Zm
structure S4 (d:Db) (eN:List oe) (now address:Int) (little:Bool) (se:Int) (msg:Bytes) (A:uQ) (r:j7) (i:Int) (L:Int):Prop where
 ahD:within now 4294967295=Zm
 adr:within address 4294967295=Zm
 Vi:gO msg=⟨r,0⟩
 aL:r.client.aL=d.aL
 client:qS d r.client.name r.client.inst now=(i,0)
 ahL:(FM d eN r.service r.inst now).err=0
 bL:pk (iY d i) (FM d eN r.service r.inst now) r.bL now=(L,Zm)
 Z3:iD se=2
 gr:(vz d.aL r.client ⟨r.service,r.inst,d.aL⟩ address little now L se (iY d i).key (FM d eN r.service r.inst now).key (FM d eN r.service r.inst now).br).err=0
 sl:(rF ⟨little,r.client,r.time,(iY d i).cE,(iY d i).br,[]⟩ (vz d.aL r.client ⟨r.service,r.inst,d.aL⟩ address little now L se (iY d i).key (FM d eN r.service r.inst now).key (FM d eN r.service r.inst now).br).part (iY d i).key).err=0
 is:A=⟨(rF ⟨little,r.client,r.time,(iY d i).cE,(iY d i).br,[]⟩ (vz d.aL r.client ⟨r.service,r.inst,d.aL⟩ address little now L se (iY d i).key (FM d eN r.service r.inst now).key (FM d eN r.service r.inst now).br).part (iY d i).key).val,
  { (vz d.aL r.client ⟨r.service,r.inst,d.aL⟩ address little now L se (iY d i).key (FM d eN r.service r.inst now).key (FM d eN r.service r.inst now).br).jC with kind:=1 },Zm⟩
theorem cG{d:Db}{eN:List oe}{now address:Int}{little:Bool}{se:Int}{msg:Bytes}(h:(rP d eN now address little se msg).ok=Zm):∃ r i L,S4 d eN now address little se msg (rP d eN now address little se msg) r i L:=by
 obtain⟨A,hA⟩:∃ A,rP d eN now address little se msg=A:=⟨_,rfl⟩;rw[hA] at h ⊢;unfold rP at hA;by_cases h1:(within now 4294967295&&within address 4294967295)=Zm;case neg=>rw[Qa1 (by simp only[Bool.not_eq_true] at h1;rw[h1];rfl)] at hA;subst hA;cases h
 rw[Qa0 (by rw[h1];simp)] at hA;by_cases h2:(gO msg).err=0;case neg=>rw[Qa1 h2] at hA;subst hA;cases h
 rw[Qa0 (by simpa using h2)] at hA;obtain⟨r,hr⟩:∃ r,(gO msg).val=r:=⟨_,rfl⟩;have aa_:gO msg=⟨r,0⟩:=by cases hd:gO msg;rw[hd] at h2 hr;simp at h2 hr;rw[h2,hr]
 rw[hr] at hA;unfold KG at hA;by_cases h3:r.client.aL=d.aL;case neg=>rw[Qa1 h3] at hA;subst hA;cases h
 rw[Qa0 (by simpa using h3)] at hA;obtain⟨⟨i,e⟩,hi⟩:∃ i,qS d r.client.name r.client.inst now=i:=⟨_,rfl⟩;rw[hi] at hA;dsimp only at hA;by_cases h4:e=0;case neg=>rw[Qa1 h4] at hA;subst hA;cases h
 subst h4;rw[Qa0 (by simp)] at hA;by_cases h5:(FM d eN r.service r.inst now).err=0;case neg=>rw[Qa1 h5] at hA;subst hA;cases h
 rw[Qa0 (by simpa using h5)] at hA;unfold F' at hA;obtain⟨⟨L,q⟩,hL⟩:∃ L,pk (iY d i) (FM d eN r.service r.inst now) r.bL now=L:=⟨_,rfl⟩;rw[hL] at hA;dsimp only at hA;cases q
 ·rw[Qa1 rfl] at hA;subst hA;cases h
 rw[Qa0 (by simp)] at hA;by_cases h6:iD se=2;case neg=>rw[Qa1 h6] at hA;subst hA;cases h
 rw[Qa0 (by simpa using h6)] at hA;by_cases h7:(vz d.aL r.client ⟨r.service,r.inst,d.aL⟩ address little now L se (iY d i).key (FM d eN r.service r.inst now).key (FM d eN r.service r.inst now).br).err=0;case neg=>rw[Qa1 h7] at hA;subst hA;cases h
 rw[Qa0 (by simpa using h7)] at hA;by_cases h8:(rF ⟨little,r.client,r.time,(iY d i).cE,(iY d i).br,[]⟩ (vz d.aL r.client ⟨r.service,r.inst,d.aL⟩ address little now L se (iY d i).key (FM d eN r.service r.inst now).key (FM d eN r.service r.inst now).br).part (iY d i).key).err=0;case neg=>rw[Qa1 h8] at hA;subst hA;cases h
 rw[Qa0 (by simpa using h8)] at hA;rw[Zy] at h1;exact⟨r,i,L,h1.1,h1.2,aa_,h3,hi,h5,hL,h6,h7,h8,hA.symm⟩
structure ZK (d:Db) (now ad se:Int) (A:uQ) (r:j7) (i j:Int) (Y:jy) (body:Bytes) (P:fO) (T:dQ):Prop where
 f1:lI d.entries r.client.name r.client.inst=(i,0)
 f2:lI d.entries r.service r.inst=(j,0)
 i0:0<=i/\i.toNat<d.entries.length
 j0:0<=j/\j.toNat<d.entries.length
 XU:bj A.answer=⟨Y,0⟩
 client:Y.client=r.client
 time:Y.time=r.time
 box:lL Y.cD 3 (iY d i).key=(body,Zm)
 part:bt body Y.little=⟨P,0⟩
 YK:gL P.aH (iY d j).key=⟨T,0⟩
 text:P.aH=A.jC.text
 t1:T.client=r.client
 t2:T.ay=se
 t3:P.ay=se
 t4:A.jC.ay=se
 t5:T.address=ad
 t6:T.service=r.service
 t7:T.inst=r.inst
 t8:T.cG=now
 t9:A.jC.nT=(iY d i).key
 e1:(0<(iY d i).cE->A.jC.stop<=(iY d i).cE)/\T.bL<=(iY d i).mY
 e2:(0<(iY d j).cE->A.jC.stop<=(iY d j).cE)/\T.bL<=(iY d j).mY
 e3:T.bL<=r.bL
 e4:A.jC.stop=now+300*(T.bL+1)
 e5:0<=T.bL/\T.bL<=255
 lens:A.answer.length<=140737488355328/\Y.cD.length<=140737488355328/\body.length<=140737488355328/\P.aH.length<=140737488355328
end Kerb
/- Chapter 19: ticket-granting servers. -/
namespace Kerb
open Go Go.Abs
def ud:fu:=⟨yZ,0,0,[],[]⟩
def o0(b:Bytes)(li:Bool):fu :=
 let a:=jP b
 let t:=get b a.next 4 li
 let l:=get b t.next 1 Zw
 let s:=text b l.next
 ⟨a.val,t.val,l.val,s.val,(text b s.next).val⟩
def bZ(b:Bytes):FY fu :=
 if (aN b [3]).2≠0 then⟨ud,(aN b [3]).2⟩ else eG ud cS (fun b=>(o0 b (aN b [3]).1,Zw)) b
theorem FO{r:fu}(h:(cS r).err=0):(bf r.ap).err=0/\r.ap.cW=Zw/\(cS r).val=(bf r.ap).val++(aK r.time 4 r.ap.little++(aK r.bL 1 Zw++(r.service++0::(r.inst++0::[])))) /\
  (0<=r.time/\r.time<=4294967295)/\(0<=r.bL/\r.bL<=255)/\(r.service.length<=39/\(0:UInt8) ∉ r.service)/\r.inst.length<=39/\(0:UInt8) ∉ r.inst:=by
 unfold cS at h ⊢;by_cases h0:r.ap.cW=Zm
 ·rw[Qa1 h0] at h;cases h
 rw[Qa0 h0] at h ⊢;by_cases h1:(bf r.ap).err=0;case neg=>rw[Qa1 h1] at h;exact absurd h h1
 rw[Qa0 (by simpa using h1)] at h ⊢;by_cases h2:(validName r.service&&cl r.inst)=Zm;case neg=>rw[Qa1 (by rw[Bool.not_eq_true] at h2;rw[h2];rfl)] at h;cases h
 rw[Qa0 (by simp[h2])] at h ⊢;by_cases h3:(within r.time 4294967295&&within r.bL 255)=Zm;case neg=>rw[Qa1 (by rw[Bool.not_eq_true] at h3;rw[h3];rfl)] at h;cases h
 rw[Qa0 (by simp[h3])];rw[Zy] at h2 h3;have ok:∀ {s:Bytes},cl s=Zm->s.length<=39/\(0:UInt8) ∉ s:=fun {s} h=>by
  simp only[cl,Zy,Qa2] at h;exact⟨h.1,fun hm=>by
   have:=h.2;simp only[eR,Zf] at this;exact absurd (this 0 hm) (by decide)⟩
 have hn:r.service.length<=39/\(0:UInt8) ∉ r.service:=by
  have h:=h2.1;simp only[validName,Zy,Qa2] at h;exact⟨by omega,fun hm=>by
   have:=h.2;simp only[eR,Zf] at this;exact absurd (this 0 hm) (by decide)⟩
 refine⟨h1,by simpa using h0,?_,within_iff.1 h3.1,within_iff.1 h3.2,hn,ok h2.2⟩;unfold bw;simp only[List.append_assoc,List.singleton_append,List.cons_append,List.nil_append,List.append_nil]
theorem F7{r:cI}(z:Bytes)(h:(bf r).err=0):∃ q1 q2 q3 q4 q5 q6:Int,get ((bf r).val++z) 2 1 Zw=⟨r.br,q1,0⟩/\text ((bf r).val++z) q1=⟨r.aL,q2,0⟩/\get ((bf r).val++z) q2 1 Zw=⟨r.aH.length,q3,0⟩/\get ((bf r).val++z) q3 1 Zw=⟨r.fm.length,q4,0⟩ /\
  bytes ((bf r).val++z) q4 r.aH.length=⟨r.aH,q5,0⟩/\bytes ((bf r).val++z) q5 r.fm.length=⟨r.fm,q6,0⟩/\At ((bf r).val++z) q6 z:=by
 obtain⟨hz,⟨n0,n1⟩,⟨a0,a1⟩,t1,u1⟩:=zo h;have K2:(bf r).val++z=header (cond r.cW 4 3) r.little++(aK r.br 1 Zw++(r.aL++0::(aK r.aH.length 1 Zw++(aK r.fm.length 1 Zw++(r.aH++(r.fm++z)))))):=by
  rw[hz];simp only[List.append_assoc,List.cons_append,List.append_nil,List.nil_append]
 have p0:=(At.start ((bf r).val++z)).as K2;have p1:=p0.skip;rw[show(header (cond r.cW 4 3) r.little).length=2 by cases r.cW<;>cases r.little<;>rfl] at p1;obtain⟨e1,p2⟩:=p1.mI a0 a1;obtain⟨e2,p3⟩:=p2.text n0 n1;obtain⟨e3,p4⟩:=p3.mI (by omega) (by omega);obtain⟨e4,p5⟩:=p4.mI (by omega) (by omega);obtain⟨e5,p6⟩:=p5.bytes (n:=r.aH.length) rfl;obtain⟨e6,p7⟩:=p6.bytes (n:=r.fm.length) rfl;exact⟨_,_,_,_,_,_,e1,e2,e3,e4,e5,e6,p7⟩
theorem NE{r:cI}(z:Bytes)(h:(bf r).err=0):bg ((bf r).val++z)=⟨cond r.cW 4 3,r.little,0⟩:=by
 rw[(zo h).1,List.append_assoc];exact En _
theorem LR{b:Bytes}{k:Int}{li:Bool}(h:bg b=⟨k,li,0⟩):aN b [k]=(li,0):=by
 unfold aN;rw[h];simp
theorem x8{r:fu}(h:(cS r).err=0):aN (cS r).val [3]=(r.ap.little,0)/\o0 (cS r).val r.ap.little=r:=by
 obtain⟨h1,h2,h3,⟨t0,t1⟩,⟨l0,l1⟩,⟨s0,s1⟩,i0,i1⟩:=FO h;rw[h3];obtain⟨z,hz⟩:∃ z,aK r.time 4 r.ap.little++(aK r.bL 1 Zw++(r.service++0::(r.inst++0::[])))=z:=⟨_,rfl⟩;obtain⟨q1,q2,q3,q4,q5,q6,e1,e2,e3,e4,e5,e6,p⟩:=F7 z h1;have hh:=NE z h1;rw[h2] at hh;rw[<-hz] at p;rw[hz] at p ⊢;have p1:=p.as hz.symm;obtain⟨e7,p2⟩:=p1.nG (li:=r.ap.little) t0 t1;obtain⟨e8,p3⟩:=p2.mI l0 l1;obtain⟨e9,p4⟩:=p3.text s0 s1;obtain⟨Z4,p5⟩:=p4.text i0 i1;refine⟨LR hh,?_⟩;unfold o0 jP;simp only[e1,e2,e3,e4,e5,e6,e7,e8,e9,Z4,hh];have:((cond Zw 4 3:Int)==4)=r.ap.cW:=by rw[h2];rfl
 rw[this]
theorem BN(b:Bytes)(li:Bool):(o0 b li).ap.aL.length<=9223372036854775807/\(o0 b li).service.length<=9223372036854775807/\(o0 b li).inst.length<=9223372036854775807:=by
 have h:∀ q,(text b q).val.length<=9223372036854775807:=fun q=>by have:=fS b q;omega
 exact⟨h _,h _,h _⟩
theorem wW(b:Bytes):((bZ b).val.ap.aL.length<=9223372036854775807/\(bZ b).val.service.length<=9223372036854775807/\(bZ b).val.inst.length<=9223372036854775807)/\(bZ b).val.ap.aH.length<=255/\(bZ b).val.ap.fm.length<=255:=by
 have h0:(ud.ap.aL.length<=9223372036854775807/\ud.service.length<=9223372036854775807/\ud.inst.length<=9223372036854775807)/\ud.ap.aH.length<=255/\ud.ap.fm.length<=255:=by decide
 unfold bZ;split
 ·exact h0
 unfold eG;split
 ·exact h0
 ·rename_i h;have he:(cS (o0 b (aN b [3]).1)).err=0:=Decidable.byContradiction fun q=>h (.inr (.inl q));obtain⟨_,_,_,h1,h2⟩:=zo (FO he).1;exact⟨BN _ _,h1,h2⟩
structure ZM where
 s:Server
 out:uQ
namespace Case
def UR(c:Case)(m:bn)(k v time bL:Int)(sv:bn):fu:=⟨{ c.Vi m k v with cW:=Zw },time,bL,sv.name,sv.inst⟩
def UQ(c:Case)(m:bn)(k v time bL:Int)(sv:bn):Bytes:=(cS (c.UR m k v time bL sv)).val
end Case
structure zW where
 lz:Case
 src:UInt8
 to:UInt8
 peer:UInt8
 bL:UInt8
 now:UInt8
 br:UInt8
 how:Int
def zW.key(a:zW)(eN:List oe):p8 :=
 if a.src.toNat % 3=2/\0<eN.length then⟨⟨Bg,aL 0,(eN.getD (a.br.toNat % eN.length) oT).source⟩,(eN.getD (a.br.toNat % eN.length) oT).br,(eN.getD (a.br.toNat % eN.length) oT).key⟩
 else⟨⟨Bg,aL 0,aL 0⟩,6,tb 3⟩
def zW.want(a:zW):bn:=if a.to.toNat % 5=4 then⟨Bg,aL (oB a.peer),aL 0⟩ else Kerb.service (oB a.to % 3)
def zW.base(a:zW)(eN:List oe):Bytes:=a.lz.UQ (a.key eN).service (a.key eN).key (a.key eN).br 5 (oB a.bL) a.want
def zW.msg(a:zW)(eN:List oe):Bytes:=if a.how % 8=7 then sY (a.base eN) (a.how / 8) else a.base eN
def zW.av(q:zW):AV := .agg [.u8 q.lz.client,.u8 q.lz.other,.u8 q.lz.service,.u8 q.lz.aL,.bool q.lz.little,.bool q.lz.turned,.bool q.lz.cW,.u8 q.lz.address,.u8 q.lz.src,.u8 q.lz.cG,.u8 q.lz.time,.u8 q.lz.tick,.u8 q.lz.bL,.int .u32 q.lz.dp,.u8 q.lz.key,.u8 q.lz.br,.u8 q.lz.ay,.int .u16 q.lz.aH,.int .u16 q.lz.fm,.u8 q.src,.u8 q.to,.u8 q.peer,.u8 q.bL,.u8 q.now,.u8 q.br,.int .u16 q.how]
def zW.ok(q:zW):Prop:=q.lz.ok/\OE q.how=Zm
theorem LI{r:fu}(h:(cS r).err≠0):(cS r).val=[]:=by grind [cS]
theorem Sh(r:fu):(cS r).val.length<=800:=by
 by_cases h:(cS r).err=0
 ·obtain⟨h1,h2,h3,h4,h5,h6,h7⟩:=FO h;rw[h3];have:=NF r.ap;simp only[Zd,Zj,List.length_nil,ah];omega
 ·rw[LI h];simp
end Kerb
/- Chapter 28: when two texts are the same ticket. -/
namespace Kerb
open Go Go.Abs
def ol(b:Bytes):Bool:=(bm b).err==0&&(bm b).n==(b.length:Int)
end Kerb
/- Chapter 27: what an adversary can know, in plain words. -/
namespace Kerb
open Go Go.Abs
def dP(l:List Int):List AV:=l.map (AV.int .u64)
def dl(l:List Bytes):List AV:=l.map AV.bs
def FN:AV->Bytes
 | .bs b=>b
 | _=>[]
def od(els:List AV):List Bytes:=els.map FN
def Xl:AV->Bool
 | .bs _=>Zm
 | _=>Zw
def tr(els:List AV):Bool:=els.all Xl
theorem pX(l:List Int):mQ (dP l)=l:=by simp[mQ,dP,Function.comp_def]
theorem k9(l:List Bytes):od (dl l)=l:=by simp[od,dl,Function.comp_def,FN]
theorem vg(l:List Int):eQ (dP l)=Zm:=by simp[eQ,dP]
theorem yp(l:List Bytes):tr (dl l)=Zm:=by simp[tr,dl,Xl]
theorem ff(l:List Int):(dP l).length=l.length:=by simp[dP]
theorem d_(l:List Bytes):(dl l).length=l.length:=by simp[dl]
theorem Fj{els:List AV}(h:eQ els=Zm):∃ ks,els=dP ks:=⟨mQ els,by
 have:=Ga h;simpa [back,c4,dP] using this.symm⟩
theorem JP{els:List AV}(h:tr els=Zm):∃ bs,els=dl bs:=⟨od els,by
 unfold od dl;rw[List.map_map];conv=>lhs;rw[<-List.map_id els]
 apply List.map_congr_left;intro a ha;simp only[tr,Zf] at h;have:=h a ha;cases a<;>first | (cases this;done) | rfl⟩
theorem lN{l:List Int}{i:Nat}(h:i<l.length):(dP l).getD i .undef = .int .u64 (l.getD i 0):=by
 simp[dP,List.getD,h]
theorem lM{l:List Bytes}{i:Nat}(h:i<l.length):(dl l).getD i .undef = .bs (l.getD i []):=by
 simp[dl,List.getD,h]
def wM:List Int->Bool
 | x::y::r=>decide (x<y)&&wM (y::r)
 | _=>Zm
def oE:List Int->Int->List Int
 | [],k=>[k]
 | x::r,k=>bif decide (x<k) then x::oE r k else bif x==k then x::r else k::x::r
theorem A_{k y:Int}:∀ {l:List Int},y∈oE l k↔y=k\/y∈l
 | []=>by simp[oE]
 | x::r=>by
  unfold oE;cases h1:decide (x<k) with
  | true=>simp only[Qa6,Zv,A_ (l:=r)];exact or_left_comm
  | false =>
   cases h2:x==k with
   | true =>
    have e:=Qb0 h2;subst e;simp only[Qa7,Qa6,Zv];exact⟨fun h => .inr h,fun h=>h.elim .inl id⟩
   | false=>simp only[Qa7,Zv]
theorem F_{x:Int}{l:List Int}(h:wM (x::l)=Zm):wM l=Zm:=by
 cases l with
 | nil=>rfl
 | cons y r=>simp only[wM,Zy] at h;exact h.2
theorem wN{x:Int}:∀ {l:List Int},wM (x::l)=Zm->∀ y∈l,x<y
 | [],_,y,hy=>by cases hy
 | z::r,h,y,hy=>by
  simp only[wM,Zy,Qa2] at h;rcases Zv.1 hy with rfl | hy
  ·exact h.1
  ·have:=wN h.2 y hy;omega
theorem F9{x:Int}{l:List Int}(h:wM l=Zm)(hx:∀ y∈l,x<y):wM (x::l)=Zm:=by
 cases l with
 | nil=>rfl
 | cons y r=>simp only[wM,Zy,Qa2];exact⟨hx y (by simp),h⟩
theorem wO{k:Int}:∀ {l:List Int},wM l=Zm->wM (oE l k)=Zm
 | [],_=>rfl
 | x::r,h=>by
  unfold oE;cases h1:decide (x<k) with
  | true =>
   simp only[Qa6];have hx:x<k:=Qa3 h1;refine F9 (wO (F_ h)) fun y hy=> ?_;rcases A_.1 hy with rfl | hy
   ·exact hx
   ·exact wN h y hy
  | false =>
   cases h2:x==k with
   | true=>exact h
   | false =>
    simp only[Qa7];have hx:¬ x<k:=of_decide_eq_false h1;have hk:k<x:=by
     have:x≠k:=by intro e;subst e;simp at h2
     omega
    refine F9 h fun y hy=> ?_;rcases Zv.1 hy with rfl | hy
    ·exact hk
    ·have:=wN h y hy;omega
theorem yS{k:Int}:∀ {l:List Int},k ∉ l->(oE l k).Perm (l++[k])
 | [],_ => .refl _
 | x::r,h=>by
  unfold oE;cases h1:decide (x<k) with
  | true =>
   simp only[Qa6,List.cons_append];exact List.Perm.cons _ (yS fun hm=>h (Zu _ hm))
  | false =>
   cases h2:x==k with
   | true=>exact absurd (by rw[Qb0 h2];simp) h
   | false =>
    simp only[Qa7];exact(List.perm_append_singleton k (x::r)).symm
theorem G5{k:Int}{l:List Int}(h:k ∉ l):(oE l k).length=l.length+1:=by
 rw[(yS h).length_eq];simp
theorem Ep:∀ {l:List Int},wM l=Zm->∀ {i j:Nat},i<j->(hj:j<l.length)->l[i]! < l[j]!
 | [],_,i,j,_,hj=>by simp at hj
 | x::r,h,i,j,Q8,hj=>by
  cases j with
  | zero=>omega
  | succ j =>
   have IZ:j<r.length:=by simpa using hj
   cases i with
   | zero =>
    have:=wN h (r[j]!) (by rw[getElem!_pos r j IZ];exact List.getElem_mem IZ);simpa using this
   | succ i =>
    have:=Ep (F_ h) (i:=i) (j:=j) (by omega) IZ;simpa using this
theorem Nz{l:List Int}{k:Int}(h:wM l=Zm)(hk:k ∉ l):CE (dP l) k=dP (oE l k):=by
 unfold CE zS back dP;congr 1;have e0:c4 (l.map (AV.int .u64)++[.int .u64 k])=(l++[k]).toArray:=by simp[c4,mQ,Function.comp_def]
 rw[e0,Go.Sort.sortInt (l++[k])];have hu:=Go.Sort.sorted_unique_holds Go.Sort.swo_ltInt (fun x y h1 h2=>by simp only[Go.Sort.ltInt,decide_eq_false_iff_not] at h1 h2;omega) (l++[k]).toArray (oE l k).toArray;have hp:=yS hk;have hl:=G5 hk;have:=hu ⟨by simp[hl],fun i hi=>by
   have h1:¬ i<(oE l k).length:=by rw[hl];simp at hi;omega
   have h2:¬ i<(l++[k]).length:=by simp at hi ⊢;omega
   simp[Array.getElem!_eq_getD,Array.getD,h1,h2];intro hh;simp at h2;omega,by
   have g1:(oE l k).toArray.extract 0 (l++[k]).toArray.size=(oE l k).toArray:=by apply Array.extract_eq_self_of_le;simp[hl]
   have g2:(l++[k]).toArray.extract 0 (l++[k]).toArray.size=(l++[k]).toArray:=by apply Array.extract_eq_self_of_le;simp
   rw[g1,g2];exact hp⟩ (fun i j _ Q8 hj=>by
   simp only[Go.Sort.ltInt,decide_eq_false_iff_not];have IZ:j<(oE l k).length:=by rw[hl];simpa using hj
   have:=Ep (wO (k:=k) h) Q8 IZ;simp only[List.getElem!_toArray];omega)
 rw[show(oE l k)=(oE l k).toArray.toList from rfl,this];simp only[Go.Sort.ltInt];congr 1;funext x y;by_cases hxy:x<=y
 ·have h':¬ y<x:=by omega
  simp[hxy,h']
 ·have h':y<x:=by omega
  simp[hxy,h']
theorem NG{l:List Int}(h:wM l=Zm):Lu (dP l)=Zm:=by
 simp only[Lu,Zf,List.mem_range,ff,Qa2];intro i hi;have e:=Ep h (i:=i) (j:=i+1) (by omega) (by omega);have h1:i<l.length:=by omega
 have h2:i+1<l.length:=by omega
 simp only[num,lN h1,lN h2];simpa [List.getD,h1,h2,getElem!_pos] using e
end Kerb
/- Chapter 27: the boxes of a message, what is in a box, the closure of knowledge. -/
namespace Kerb
open Go Go.Abs
def gx(l:List Bytes):List Bytes:=l.filter ol
def ez(l:List Int):List Int:=l.filter bA
def oy(b:Bytes):List Bytes :=
 if (bj b).err=0 then[(bj b).val.cD]
 else if (eC b).err=0 then[(eC b).val.aH,(eC b).val.fm]
 else if (bZ b).err=0 then[(bZ b).val.ap.aH,(bZ b).val.ap.fm]
 else if (gV b).err=0 then[(gV b).val]
 else if (gA b).err=0 then[(gA b).cD]
 else if (aU b).err=0 then[(aU b).val.aH,(aU b).val.box]
 else if (cp b).err=0 then[(cp b).val.box]
 else if (dv b).err=0 then[(dv b).val.box] else[]
def partsOf(b:Bytes):List Bytes:=gx (oy b)
structure IV where
 keys:List Int
 boxes:List Bytes
def Dv(b:Bytes)(li:Bool):IV:=⟨ez [(bt b li).val.ay],gx [(bt b li).val.aH]⟩
def jd(x:UU):IV :=
 if x.kind=1 then(if (bD x.body).err=0 then⟨ez [(bD x.body).val.ay],[]⟩ else⟨[],[]⟩)
 else if x.kind=3 then(if (bt x.body Zw).err=0 then Dv x.body Zw else if (bt x.body Zm).err=0 then Dv x.body Zm else⟨[],[]⟩)
 else if x.kind=7 then(if (cq x.body).err=0 then⟨ez [(cq x.body).val.new],[]⟩ else⟨[],[]⟩)
 else if x.kind=8 then(if (a_ x.body).err=0 then⟨ez [(a_ x.body).val.ay],gx [(a_ x.body).val.aH]⟩ else⟨[],[]⟩)
 else if x.kind=9 then(if (ch x.body).err=0 then⟨ez [(ch x.body).val.ay],[]⟩ else⟨[],[]⟩)
 else if x.kind=10 then(if (bV x.body).err=0 then⟨ez [(bV x.body).val.ay],gx [(bV x.body).val.record]⟩ else⟨[],[]⟩)
 else⟨[],[]⟩
structure Kn where
 keys:List Int
 boxes:List Bytes
def jA(K:List Int)(l:List Int):List Int:=l.foldl (fun K k=>bif K.contains k then K else oE K k) K
def fU(B:List Bytes)(l:List Bytes):List Bytes:=l.foldl (fun B b=>bif B.contains b then B else B++[b]) B
def Kn.add(s:Kn)(x:IV):Kn:=⟨jA s.keys x.keys,fU s.boxes x.boxes⟩
def Kn.has(s:Kn)(x:IV):Bool:=x.keys.all (fun k=>s.keys.contains k)&&x.boxes.all fun b=>s.boxes.contains b
def cP(b:Bytes):IV:=jd (bm b).box
def Kn.done(s:Kn)(b:Bytes):Bool := !((bm b).err==0)||s.has (cP b)
def Kn.opens(s:Kn)(b:Bytes):Bool:=(bm b).err==0&&s.keys.contains (bm b).box.key && !s.has (cP b)
def Kn.next(s:Kn):Option Bytes:=s.boxes.find? s.opens
def qz:Nat->Kn->Kn
 | 0,s=>s
 | n+1,s=>match s.next with
  | some b=>qz n (s.add (cP b))
  | none=>s
def Cp(s:Kn):Nat:=((s.boxes.filter fun b => !s.done b).map List.length).sum
def nK(s:Kn):Nat:=s.keys.length+s.boxes.length+Cp s
def close(s:Kn):Kn:=qz (nK s) s
def learn(s:Kn)(m:Bytes):Kn:=close (s.add ⟨[],partsOf m⟩)
def leak(s:Kn)(k:Int):Kn:=close (s.add ⟨ez [k],[]⟩)
def kf:Nat->Kn->Bytes->Bool
 | 0,_,_=>Zw
 | n+1,s,b=>s.boxes.contains b||(ol b&&s.keys.contains (bm b).box.key&&(cP b).keys.all (fun k=>s.keys.contains k)&&(cP b).boxes.all fun b=>kf n s b)
def eW(s:Kn)(b:Bytes):Bool:=kf (b.length+1) s b
def Eu(s:Kn)(m:Bytes):Bool:=(partsOf m).all (eW s)
theorem qy(k:Int):(ez [k]).length<=1:=List.length_filter_le _ _
theorem Gc(b:Bytes):(gx [b]).length<=1:=List.length_filter_le _ _
theorem tz{l:List Bytes}{b:Bytes}(h:b∈gx l):b∈l/\ol b=Zm:=List.mem_filter.1 h
theorem Gd{a b:Bytes}(h:b∈gx [a]):b=a:=by simpa using (tz h).1
theorem qA(b:Bytes)(li:Bool):(bt b li).val.aH.length<=b.length:=by
 unfold bt;split
 ·exact Zz _
 ·exact gI _ _ _
theorem jI{α:Type}{no:α}{enc:α->kP}{rd:Bytes->α×Bool}{b:Bytes}(P:α->Prop)(h1:P no)(h2:P (rd b).1):P (eG no enc rd b).val:=by
 unfold eG;split
 ·exact h1
 ·exact h2
theorem R3(b:Bytes):(CY b).val.aH.length<=b.length:=by
 unfold CY;dsimp only;cases ep (dG b 4 0 Zw).val
 ·exact Zz _
 ·exact nR _ _ _ _
theorem mD(b:Bytes):(a_ b).val.aH.length<=b.length :=
 jI (fun a:fN=>a.aH.length<=b.length) (Zz _) (R3 b)
theorem pA(b:Bytes):(bV b).val.record.length<=b.length :=
 jI (fun a:sF=>a.record.length<=b.length) (Zz _) (gI _ _ _)
theorem np(b:Bytes):(bm b).box.body.length+12<=b.length\/(bm b).box=vD:=by grind [cut,bm]
structure F1 (x:IV) (n:Nat):Prop where
 keys:x.keys.length<=1
 boxes:x.boxes.length<=1
 len:∀ b∈x.boxes,b.length<=n
 mJ:∀ b∈x.boxes,ol b=Zm
 valid:∀ k∈x.keys,bA k=Zm
theorem A8(n:Nat):F1 ⟨[],[]⟩ n:=⟨by simp,by simp,by simp,by simp,by simp⟩
theorem Ma(k:Int)(n:Nat):F1 ⟨ez [k],[]⟩ n:=⟨qy k,by simp,by simp,by simp,fun k' h=>(List.mem_filter.1 h).2⟩
theorem vX(k:Int){b:Bytes}{n:Nat}(h:b.length<=n):F1 ⟨ez [k],gx [b]⟩ n :=
 ⟨qy k,Gc b,fun b' hb=>by rw[Gd hb];exact h,fun b' hb=>(tz hb).2,fun k' h=>(List.mem_filter.1 h).2⟩
theorem sb(x:UU):F1 (jd x) x.body.length:=by
 unfold jd;repeat' split
 all_goals first
  | exact A8 _
  | exact Ma _ _
  | exact vX _ (qA _ _)
  | exact vX _ (mD _)
  | exact vX _ (pA _)
theorem A9:jd vD=⟨[],[]⟩:=rfl
theorem A6(b:Bytes):F1 (cP b) (b.length-12):=by
 unfold cP;rcases np b with h | h
 ·have h1:=sb (bm b).box;exact⟨h1.keys,h1.boxes,fun b' hb=>by have:=h1.len b' hb;omega,h1.mJ,h1.valid⟩
 ·rw[h,A9];exact A8 _
theorem BM{b:Bytes}(h:(bm b).err=0):12<=b.length:=by
 unfold bm at h;split at h
 ·cases h
 ·omega
theorem rh{b b':Bytes}(h:b'∈(cP b).boxes):b'.length+12<=b.length:=by
 rcases np b with h1 | h1
 ·have:=(sb (bm b).box).len b' h;omega
 ·unfold cP at h;rw[h1,A9] at h;cases h
theorem jH{y:Bytes}:∀ {l B:List Bytes},y∈fU B l↔y∈B\/y∈l
 | [],B=>by simp[fU]
 | b::l,B=>by
  have e:fU B (b::l)=fU (bif B.contains b then B else B++[b]) l:=rfl;rw[e,jH (l:=l)];cases h:B.contains b with
  | true =>
   have hb:b∈B:=by simpa using h
   simp only[Qa6,Zv];constructor
   ·rintro(h | h)
    ·exact .inl h
    ·exact .inr (.inr h)
   ·rintro(h | rfl | h)
    ·exact .inl h
    ·exact .inl hb
    ·exact .inr h
  | false=>simp only[Qa7,List.mem_append,Zv,List.not_mem_nil,or_false];exact or_assoc
theorem lY{y:Int}:∀ {l K:List Int},y∈jA K l↔y∈K\/y∈l
 | [],K=>by simp[jA]
 | k::l,K=>by
  have e:jA K (k::l)=jA (bif K.contains k then K else oE K k) l:=rfl;rw[e,lY (l:=l)];cases h:K.contains k with
  | true =>
   have hb:k∈K:=by simpa using h
   simp only[Qa6,Zv];constructor
   ·rintro(h | h)
    ·exact .inl h
    ·exact .inr (.inr h)
   ·rintro(h | rfl | h)
    ·exact .inl h
    ·exact .inl hb
    ·exact .inr h
  | false =>
   simp only[Qa7,A_,Zv];constructor
   ·rintro((h | h) | h)
    ·exact .inr (.inl h)
    ·exact .inl h
    ·exact .inr (.inr h)
   ·rintro(h | h | h)
    ·exact .inl (.inr h)
    ·exact .inl (.inl h)
    ·exact .inr h
theorem nE:∀ {l K:List Int},wM K=Zm->wM (jA K l)=Zm
 | [],K,h=>h
 | k::l,K,h=>by
  have e:jA K (k::l)=jA (bif K.contains k then K else oE K k) l:=rfl;rw[e];cases K.contains k with
  | true=>exact nE h
  | false=>exact nE (wO h)
theorem wK:∀ {l K:List Int},(jA K l).length<=K.length+l.length
 | [],K=>Zn _
 | k::l,K=>by
  have e:jA K (k::l)=jA (bif K.contains k then K else oE K k) l:=rfl;rw[e];have h1:=wK (l:=l) (K:=bif K.contains k then K else oE K k);cases h:K.contains k with
  | true=>rw[h] at h1;simp only[Qa6,Zj] at h1 ⊢;omega
  | false =>
   rw[h] at h1;have:=G5 (k:=k) (l:=K) (by simpa using h);simp only[Qa7,Zj] at h1 ⊢;omega
theorem jn:∀ {l B:List Bytes},∃ N,fU B l=B++N/\N.length<=l.length/\(∀ b∈N,b∈l/\b ∉ B)
 | [],B=>⟨[],by simp[fU],Zn _,by simp⟩
 | b::l,B=>by
  have e:fU B (b::l)=fU (bif B.contains b then B else B++[b]) l:=rfl;rw[e];cases h:B.contains b with
  | true =>
   obtain⟨N,h1,h2,h3⟩:=jn (l:=l) (B:=B);exact⟨N,h1,by simp only[Zj];omega,fun x hx=>⟨Zu _ (h3 x hx).1,(h3 x hx).2⟩⟩
  | false =>
   obtain⟨N,h1,h2,h3⟩:=jn (l:=l) (B:=B++[b]);refine⟨b::N,by simp only[Qa7];rw[h1];simp,by simp only[Zj];omega,fun x hx=> ?_⟩;rcases Zv.1 hx with rfl | hx
   ·exact⟨by simp,by simpa using h⟩
   ·obtain⟨g1,g2⟩:=h3 x hx;exact⟨Zu _ g1,fun hm=>g2 (by simp[hm])⟩
theorem uT{s:Kn}{x:IV}:s.has x=Zm↔(∀ k∈x.keys,k∈s.keys)/\∀ b∈x.boxes,b∈s.boxes:=by
 simp[Kn.has]
def Sub(s t:Kn):Prop:=(∀ k∈s.keys,k∈t.keys)/\∀ b∈s.boxes,b∈t.boxes
theorem Sub.refl(s:Kn):Sub s s:=⟨fun _ h=>h,fun _ h=>h⟩
theorem Sub.trans{s t u:Kn}(h1:Sub s t)(h2:Sub t u):Sub s u:=⟨fun k h=>h2.1 k (h1.1 k h),fun k h=>h2.2 k (h1.2 k h)⟩
theorem Sub.has{s t:Kn}(h:Sub s t){x:IV}(hx:s.has x=Zm):t.has x=Zm :=
 uT.2 ⟨fun k hk=>h.1 k ((uT.1 hx).1 k hk),fun k hk=>h.2 k ((uT.1 hx).2 k hk)⟩
theorem Sub.done{s t:Kn}(h:Sub s t){b:Bytes}(hx:s.done b=Zm):t.done b=Zm:=by
 unfold Kn.done at hx ⊢;rw[Bool.or_eq_true] at hx ⊢;rcases hx with hx | hx
 ·exact .inl hx
 ·exact .inr (h.has hx)
theorem FL(s:Kn)(x:IV):Sub s (s.add x):=⟨fun k h=>lY.2 (.inl h),fun b h=>jH.2 (.inl h)⟩
theorem KD(s:Kn)(x:IV):(s.add x).has x=Zm:=uT.2 ⟨fun k h=>lY.2 (.inr h),fun b h=>jH.2 (.inr h)⟩
theorem uX{s:Kn}{b:Bytes}:s.opens b=Zm↔(bm b).err=0/\(bm b).box.key∈s.keys/\s.has (cP b)=Zw:=by
 simp[Kn.opens,and_assoc]
theorem IM{p q:Bytes->Bool}{b:Bytes}:∀ {l:List Bytes},(∀ x∈l,q x=Zm->p x=Zm)->b∈l->p b=Zm->q b=Zw->((l.filter q).map List.length).sum+b.length<=((l.filter p).map List.length).sum
 | [],_,h,_,_=>by cases h
 | a::l,h1,h2,h3,h4=>by
  have le:∀ {l:List Bytes},(∀ x∈l,q x=Zm->p x=Zm)->((l.filter q).map List.length).sum<=((l.filter p).map List.length).sum:=by
   intro l;induction l with
   | nil=>intro _;exact Zn _
   | cons c l ih =>
    intro hc;have:=ih fun x hx=>hc x (Zu _ hx);cases hq:q c with
    | true=>simp only[Zx,hq,hc c (by simp) hq,if_true,Zp,Zk];omega
    | false =>
     cases hp:p c with
     | true=>simp only[Zx,hq,hp,if_true,Zq,if_false,Zp,Zk];omega
     | false=>simpa only[Zx,hq,hp,Zq,if_false] using this
  rcases Zv.1 h2 with rfl | h2
  ·have:=le (l:=l) fun x hx=>h1 x (Zu _ hx);simp only[Zx,h3,h4,if_true,Zq,if_false,Zp,Zk];omega
  ·have:=IM (l:=l) (fun x hx=>h1 x (Zu _ hx)) h2 h3 h4;cases hq:q a with
   | true=>simp only[Zx,hq,h1 a (by simp) hq,if_true,Zp,Zk];omega
   | false =>
    cases hp:p a with
    | true=>simp only[Zx,hq,hp,if_true,Zq,if_false,Zp,Zk];omega
    | false=>simpa only[Zx,hq,hp,Zq,if_false] using this
theorem UM{p:Bytes->Bool}{m:Nat}:∀ {l:List Bytes},l.length<=1->(∀ x∈l,x.length<=m)->((l.filter p).map List.length).sum<=m
 | [],_,_=>Zz _
 | [a],_,h=>by
  have:=h a (by simp);cases hp:p a<;>simp[hp]<;>omega
 | _::_::_,h,_=>by simp at h
theorem pP{s:Kn}{b:Bytes}(hb:b∈s.boxes)(ho:s.opens b=Zm):nK (s.add (cP b))<nK s:=by
 obtain⟨h1,h2,h3⟩:=uX.1 ho;have hl:=BM h1;have hi:=A6 b;obtain⟨N,e,hN,hN2⟩:=jn (l:=(cP b).boxes) (B:=s.boxes);have hk:=wK (l:=(cP b).keys) (K:=s.keys);have hu:Cp (s.add (cP b))+b.length<=Cp s+(b.length-12):=by
  unfold Cp;rw[show(s.add (cP b)).boxes=s.boxes++N from e,List.filter_append,List.map_append,List.sum_append];have a1:=IM (p:=fun b => !s.done b) (q:=fun x => !(s.add (cP b)).done x) (b:=b) (l:=s.boxes) (fun x _ hx=>by
   simp only[Bool.not_eq_true',Bool.not_eq_eq_eq_not,Bool.not_true] at hx ⊢;cases hd:s.done x with
   | false=>rfl
   | true=>rw[(FL s (cP b)).done hd] at hx;cases hx) hb (by simp[Kn.done,h1,h3]) (by simp[Kn.done,h1,KD])
  have a2:=UM (p:=fun x => !(s.add (cP b)).done x) (m:=b.length-12) (l:=N) (Zb hN hi.boxes) fun x hx=>hi.len x (hN2 x hx).1;omega
 have h4:(s.add (cP b)).boxes.length<=s.boxes.length+1:=by
  rw[show(s.add (cP b)).boxes=s.boxes++N from e,Zd];have:=hi.boxes;omega
 have h5:(s.add (cP b)).keys.length<=s.keys.length+1:=Zb hk (by have:=hi.keys;omega);unfold nK;omega
theorem rA{s:Kn}{b:Bytes}(h:s.next=some b):b∈s.boxes/\s.opens b=Zm:=⟨List.mem_of_find?_eq_some h,List.find?_some h⟩
theorem CG:∀ {n:Nat} {s:Kn},nK s<=n->qz n s=close s:=by
 intro n;induction n using Nat.strongRecOn with
 | _ n ih =>
  intro s h;have key:∀ m,nK s<=m->m<=n->qz m s=qz (nK s) s:=by
   intro m h1 h2;cases hn:s.next with
   | none =>
    have:∀ q,qz q s=s:=fun q=>by cases q with
     | zero=>rfl
     | succ q=>simp only[qz,hn]
    rw[this,this]
   | some b =>
    obtain⟨g1,g2⟩:=rA hn;have fY:=pP g1 g2;obtain⟨q,rfl⟩:∃ q,m=q+1:=⟨m-1,by omega⟩;obtain⟨r,hr⟩:∃ r,nK s=r+1:=⟨nK s-1,by omega⟩;rw[hr];simp only[qz,hn];rw[ih q (by omega) (s:=s.add (cP b)) (by omega),ih r (by omega) (s:=s.add (cP b)) (by omega)]
  exact key n h (Zn _)
theorem AD{s:Kn}{b:Bytes}(h:s.next=some b):close s=close (s.add (cP b)):=by
 obtain⟨g1,g2⟩:=rA h;have fY:=pP g1 g2;obtain⟨r,hr⟩:∃ r,nK s=r+1:=⟨nK s-1,by omega⟩;unfold close;rw[hr];simp only[qz,h];exact CG (by omega)
theorem vP{s:Kn}(h:s.next=none):close s=s:=by
 unfold close;cases nK s with
 | zero=>rfl
 | succ n=>simp only[qz,h]
theorem yG{P:Kn->Prop}(tZ:∀ s b,P s->b∈s.boxes->s.opens b=Zm->P (s.add (cP b))):∀ s,P s->P (close s)/\(close s).next=none:=by
 have:∀ n s,nK s<=n->P s->P (close s)/\(close s).next=none:=by
  intro n;induction n with
  | zero =>
   intro s hm hp;cases hn:s.next with
   | none=>rw[vP hn];exact⟨hp,hn⟩
   | some b =>
    obtain⟨g1,g2⟩:=rA hn;have:=pP g1 g2;omega
  | succ n ih =>
   intro s hm hp;cases hn:s.next with
   | none=>rw[vP hn];exact⟨hp,hn⟩
   | some b =>
    obtain⟨g1,g2⟩:=rA hn;have:=pP g1 g2;rw[AD hn];exact ih _ (by omega) (tZ s b hp g1 g2)
 exact fun s=>this _ s (Zn _)
end Kerb
/- Chapter 27: what is asked of knowledge that is handed over. -/
namespace Kerb
open Go Go.Abs
def kn(ks bs:List AV):Kn:=⟨mQ ks,od bs⟩
def qG(bs:List AV):Bool:=tr bs&&bs.all (fun a=>decide ((FN a).length<=70368744177664))&&decide (bs.length<=100000000)
def yT(ks:List AV):Bool:=eQ ks&&(mQ ks).all (fun k=>decide (0<=k)&&decide (k<18446744073709551616))&&decide (ks.length<=100000000)
def vZ(ks bs:List AV):Bool:=eQ ks&&qG bs&&wM (mQ ks)&&decide (nK (kn ks bs)<=1000000)&&(od bs).all fun b=>decide (b.length<=70368744170000)
structure fL (s:Kn):Prop where
 wM:wM s.keys=Zm
 len:∀ b∈s.boxes,b.length<=70368744170000
 nK:nK s<=1000000
theorem DA(s:Kn):kn (dP s.keys) (dl s.boxes)=s:=by unfold kn;rw[pX,k9]
theorem xN{l:List Bytes}:qG (dl l)=Zm↔(∀ b∈l,b.length<=70368744177664)/\l.length<=100000000:=by
 unfold qG;rw[yp,d_];simp[dl,FN];intro _;exact⟨fun h b hb=>Qa3 (h b hb),fun h b hb=>Qa4 (h b hb)⟩
theorem Fi{bs:List AV}(h:qG bs=Zm):∃ l,bs=dl l/\(∀ b∈l,b.length<=70368744177664)/\l.length<=100000000:=by
 have h':=h;unfold qG at h;simp only[Zy] at h;obtain⟨l,rfl⟩:=JP h.1.1;exact⟨l,rfl,xN.1 h'⟩
theorem K6{l:List Int}:yT (dP l)=Zm↔(∀ k∈l,0<=k/\k<18446744073709551616)/\l.length<=100000000:=by
 unfold yT;rw[vg,ff,pX];simp
theorem RW{ks:List AV}(h:yT ks=Zm):∃ l,ks=dP l/\(∀ k∈l,0<=k/\k<18446744073709551616)/\l.length<=100000000:=by
 have h':=h;unfold yT at h;simp only[Zy] at h;obtain⟨l,rfl⟩:=Fj h.1.1;exact⟨l,rfl,K6.1 h'⟩
theorem K8{s:Kn}:vZ (dP s.keys) (dl s.boxes)=Zm↔fL s:=by
 unfold vZ;rw[DA,vg,pX,k9];simp only[Zy,Qa2,xN,Qa9,Zf];constructor
 ·rintro⟨⟨⟨⟨h1,h2⟩,h3⟩,h4⟩,h5⟩;exact⟨h3,h5,h4⟩
 ·rintro⟨h1,h2,h3⟩;refine⟨⟨⟨⟨fun b hb=>Zb (h2 b hb) (by decide),?_⟩,h1⟩,h3⟩,h2⟩;have:s.boxes.length<=nK s:=by unfold nK;omega
  omega
theorem Lc{ks bs:List AV}(h:vZ ks bs=Zm):∃ s:Kn,ks=dP s.keys/\bs=dl s.boxes/\fL s:=by
 have h':=h;unfold vZ at h;simp only[Zy] at h;obtain⟨l,rfl⟩:=Fj h.1.1.1.1;obtain⟨m,rfl,_⟩:=Fi h.1.1.1.2;exact⟨⟨l,m⟩,rfl,rfl,K8 (s:=⟨l,m⟩).1 h'⟩
theorem fL.G9{s:Kn}(h:fL s):s.keys.length<=1000000:=by have:=h.nK;unfold Kerb.nK at this;omega
theorem fL.yE{s:Kn}(h:fL s):s.boxes.length<=1000000:=by have:=h.nK;unfold Kerb.nK at this;omega
theorem fL.open{s:Kn}{b:Bytes}(h:fL s)(hb:b∈s.boxes)(ho:s.opens b=Zm):fL (s.add (cP b)) :=
 ⟨nE h.wM,fun x hx=>by
  rcases jH.1 hx with hx | hx
  ·exact h.len x hx
  ·have:=rh hx;have:=h.len b hb;omega,Nat.le_of_lt (Nat.lt_of_lt_of_le (pP hb ho) h.nK)⟩
theorem fL.close{s:Kn}(h:fL s):fL (Kerb.close s):=(yG (P:=fL) (fun s b hs hb ho=>hs.open hb ho) s h).1
def BJ(b:Bytes):Rd fu :=
 let a:=Fs b (aN b [3]).1 Zw
 let t:=dE b 4 (aN b [3]).1 a.pos a.bad
 let l:=dE b 1 Zw t.pos t.bad
 let s:=nk b l.pos l.bad
 let i:=nk b s.pos s.bad
 ⟨⟨a.val,t.val,l.val,s.val,i.val⟩,i.pos,i.bad⟩
theorem BK{r:fu}(h:(cS r).err=0):(BJ (cS r).val).val=r/\(BJ (cS r).val).bad=Zw:=by
 have hd:=(x8 h).1;obtain⟨h1,h2,h3,⟨t0,t1⟩,⟨l0,l1⟩,⟨s0,s1⟩,i0,i1⟩:=FO h;rw[h3] at hd ⊢;obtain⟨z,hz⟩:∃ z,aK r.time 4 r.ap.little++(aK r.bL 1 Zw++(r.service++0::(r.inst++0::[])))=z:=⟨_,rfl⟩;obtain⟨q1,q2,q3,q4,q5,q6,e1,e2,e3,e4,e5,e6,p⟩:=F7 z h1;rw[<-hz] at p;rw[hz] at p hd ⊢;have p1:=p.as hz.symm;obtain⟨e7,p2⟩:=p1.nG (li:=r.ap.little) t0 t1;obtain⟨e8,p3⟩:=p2.mI l0 l1;obtain⟨e9,p4⟩:=p3.text s0 s1;obtain⟨Z4,p5⟩:=p4.text i0 i1;unfold BJ Fs dE nk df;simp only[hd,e1,e2,e3,e4,e5,e6,e7,e8,e9,Z4,BEq.rfl,Bool.not_true,Bool.or_false,Qa7,Qa8];rw[<-h2]
theorem Jg(b:Bytes):eG ud cS (fun b=>(o0 b (aN b [3]).1,Zw)) b=eG ud cS (fun b=>((BJ b).val,(BJ b).bad)) b :=
 io (P:=fun _=>True) (fun r _ h=>by
  obtain⟨h1,h2⟩:=x8 h;rw[h1];exact Qb5 (fun q=>(q,Zw)) h2) (fun r _ h=>Prod.ext (BK h).1 (BK h).2) (fun _=>trivial) (fun _=>trivial) b
theorem tI(b:Bytes):(bj b).val.cD.length<=b.length:=by
 unfold bj;split
 ·exact Zz _
 split
 ·exact Zz _
 ·exact gI _ _ _
theorem Hn(b:Bytes)(p m:Int)(li:Bool):(eo b p m li).val.length<=b.length:=by
 unfold eo;split
 ·exact Zz _
 ·exact gI _ _ _
theorem BC(b:Bytes):(gA b).cD.length<=b.length:=by
 unfold gA;split
 ·exact Zz _
 split
 ·exact Hn _ _ _ _
 ·exact Zz _
theorem R5(b:Bytes):(Fm b).val.aH.length<=b.length/\(Fm b).val.box.length<=b.length:=by
 unfold Fm;dsimp only;cases ((gE b 1 2 Zw).val==2)
 ·exact⟨Zz _,nR _ _ _ _⟩
 ·exact⟨nR _ _ _ _,nR _ _ _ _⟩
theorem py(b:Bytes):(aU b).val.aH.length<=b.length/\(aU b).val.box.length<=b.length:=by
 unfold aU;split
 ·exact⟨Zz _,Zz _⟩
 ·exact jI (fun a:c6=>a.aH.length<=b.length/\a.box.length<=b.length) ⟨Zz _,Zz _⟩ (R5 b)
theorem qT(b:Bytes):(cp b).val.box.length<=b.length:=by
 unfold cp;split
 ·exact Zz _
 ·exact jI (fun a:iC=>a.box.length<=b.length) (Zz _) (nR _ _ _ _)
theorem vv(b:Bytes):(dv b).val.box.length<=b.length:=by
 unfold dv;split
 ·exact Zz _
 ·exact jI (fun a:Au=>a.box.length<=b.length) (Zz _) (gI _ _ _)
theorem Lo:(0:Int)<=0/\(0:Int)<18446744073709551616:=by decide
theorem qU(b:Bytes):0<=(bD b).val.ay/\(bD b).val.ay<18446744073709551616:=by
 unfold bD;split
 ·exact⟨Zg _,by decide⟩
 ·exact jI (fun a:dQ=>0<=a.ay/\a.ay<18446744073709551616) ⟨Zg _,by decide⟩ (dR _)
theorem tG(b:Bytes)(li:Bool):0<=(bt b li).val.ay/\(bt b li).val.ay<18446744073709551616:=by
 unfold bt;split
 ·exact⟨Zg _,by decide⟩
 ·exact dR _
theorem pz(b:Bytes):0<=(cq b).val.new/\(cq b).val.new<18446744073709551616 :=
 jI (fun a:eK=>0<=a.new/\a.new<18446744073709551616) ⟨Zg _,by decide⟩ (by
  unfold iM HB;dsimp only;cases jr (dG b 4 0 Zw).val
  ·exact uY _ _ _
  ·exact Lo)
theorem px(b:Bytes):0<=(a_ b).val.ay/\(a_ b).val.ay<18446744073709551616 :=
 jI (fun a:fN=>0<=a.ay/\a.ay<18446744073709551616) ⟨Zg _,by decide⟩ (by
  unfold iL CY;dsimp only;cases ep (dG b 4 0 Zw).val
  ·exact Lo
  ·exact uY _ _ _)
theorem tH(b:Bytes):0<=(ch b).val.ay/\(ch b).val.ay<18446744073709551616 :=
 jI (fun a:Av=>0<=a.ay/\a.ay<18446744073709551616) ⟨Zg _,by decide⟩ (uS _ _ _)
theorem sJ(b:Bytes):0<=(bV b).val.ay/\(bV b).val.ay<18446744073709551616 :=
 jI (fun a:sF=>0<=a.ay/\a.ay<18446744073709551616) ⟨Zg _,by decide⟩ (uS _ _ _)
theorem ub{a:Bytes}(h:a.length<=70368744177664):qG [.bs a]=Zm:=(xN (l:=[a])).2 ⟨by simpa using h,by simp⟩
theorem OS{a b:Bytes}(h:a.length<=70368744177664)(h2:b.length<=70368744177664):qG [.bs a,.bs b]=Zm:=(xN (l:=[a,b])).2 ⟨by simp[h,h2],by simp⟩
theorem Dy{k:Int}(h:0<=k/\k<18446744073709551616):yT [.int .u64 k]=Zm:=(K6 (l:=[k])).2 ⟨by simpa using h,by simp⟩
theorem qv(b:Bytes):(∀ x∈oy b,x.length<=b.length+1012)/\(oy b).length<=2:=by
 have h1:=tI b;have h2:=zq b;have h3:=wW b;have h4:=vu b;have h5:=BC b;have h6:=py b;have h7:=qT b;have h8:=vv b;unfold oy;repeat' split
 all_goals
  constructor
  ·simp only[Zv,List.not_mem_nil,or_false];intro x hx;first
    | (rcases hx with rfl | rfl<;>omega)
    | (subst hx;omega)
    | exact absurd hx (by simp)
  ·simp
theorem FD{b:Bytes}(h:b.length<=70368744170000):qG (dl (oy b))=Zm :=
 xN.2 ⟨fun x hx=>by have:=(qv b).1 x hx;omega,by have:=(qv b).2;omega⟩
theorem mh(b:Bytes):(∀ x∈partsOf b,x.length<=b.length+1012)/\(partsOf b).length<=2 :=
 ⟨fun x hx=>(qv b).1 x (tz hx).1,Zb (List.length_filter_le _ _) (qv b).2⟩
theorem Cq{s t:Kn}(h:Sub s t)(l:List Bytes):((l.filter fun b => !t.done b).map List.length).sum<=((l.filter fun b => !s.done b).map List.length).sum:=by
 induction l with
 | nil=>exact Zn _
 | cons c l ih =>
  cases ht:t.done c with
  | true =>
   cases hs:s.done c<;>simp only[Zx,ht,hs,Bool.not_true,Bool.not_false,Zq,if_false,if_true,Zp,Zk]<;>omega
  | false =>
   have hs:s.done c=Zw:=by
    cases hs:s.done c with
    | false=>rfl
    | true=>rw[h.done hs] at ht;cases ht
   simp only[Zx,ht,hs,Bool.not_false,if_true,Zp,Zk];omega
theorem Ll{p:Bytes->Bool}{m:Nat}:∀ {l:List Bytes},(∀ x∈l,x.length<=m)->((l.filter p).map List.length).sum<=l.length*m
 | [],_=>Zz _
 | a::l,h=>by
  have h1:=Ll (p:=p) (l:=l) fun x hx=>h x (Zu _ hx);have h2:=h a (by simp);rw[Zj,Nat.succ_mul];cases hp:p a with
  | true=>simp only[Zx,hp,if_true,Zp,Zk];omega
  | false=>simp only[Zx,hp,Zq,if_false];omega
theorem Em(s:Kn)(x:IV){m:Nat}(h:∀ b∈x.boxes,b.length<=m):nK (s.add x)<=nK s+x.keys.length+x.boxes.length*(m+1):=by
 obtain⟨N,e,hN,hN2⟩:=jn (l:=x.boxes) (B:=s.boxes);have hk:=wK (l:=x.keys) (K:=s.keys);have h1:=Cq (FL s x) s.boxes;have h2:=Ll (p:=fun b => !(s.add x).done b) (l:=N) (m:=m) fun b hb=>h b (hN2 b hb).1;have h3:N.length*m<=x.boxes.length*m:=Nat.mul_le_mul_right _ hN;unfold nK Cp;rw[show(s.add x).boxes=s.boxes++N from e,List.filter_append,List.map_append,List.sum_append,Zd];rw[Nat.mul_add,Nat.mul_one];have:(s.add x).keys.length<=s.keys.length+x.keys.length:=hk;omega
theorem fL.add{s:Kn}(h:fL s){x:IV}{m:Nat}(h1:∀ b∈x.boxes,b.length<=m)(h2:Kerb.nK s+x.keys.length+x.boxes.length*(m+1)<=1000000)(h3:m<=70368744170000):fL (s.add x) :=
 ⟨nE h.wM,fun b hb=>by
  rcases jH.1 hb with hb | hb
  ·exact h.len b hb
  ·exact Zb (h1 b hb) h3,Zb (Em s x h1) h2⟩
theorem fL.parts{s:Kn}(h:fL s){b:Bytes}(h1:Kerb.nK s+2*b.length+2100<=1000000):fL (s.add ⟨[],partsOf b⟩):=by
 have hp:=mh b;refine h.add (m:=b.length+1012) hp.1 ?_ (by omega);have:(partsOf b).length*(b.length+1012+1)<=2*(b.length+1012+1):=Nat.mul_le_mul_right _ hp.2;simp only[List.length_nil];omega
theorem fL.OR{s:Kn}(h:fL s){k:Int}(h1:Kerb.nK s+1<=1000000):fL (s.add ⟨ez [k],[]⟩):=by
 have:=qy k;exact h.add (m:=0) (by simp) (by simp only[List.length_nil];omega) (by omega)
end Kerb
