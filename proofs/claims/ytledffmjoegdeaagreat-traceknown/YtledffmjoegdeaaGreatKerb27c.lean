/- Chapter 23, plain: when a ticket is given; what the data of the statements says. -/
import Derived.Test.YtledffmjoegdeaaGreatKerbSrvL
import Derived.KernelRfl
set_option linter.all false
open Go.IntKind renaming u64->AT
open Nat renaming zero_le->Zz,le_trans->Zp,le_refl->Zd
open Bool renaming and_eq_true->Zy,false->Zx,false_eq_true->Zq,true->Zn
open List renaming filter_cons->Zw,length_append->Zv,mem_cons_of_mem->Zu,all_eq_true->Zj,sum_cons->Zf,mem_cons->Zg,map_cons->Zb
open Int renaming le_refl->Zk
namespace Kerb
open Go Go.Abs
end Kerb
/- Chapter 17: authentication servers; the data of its statements. -/
namespace Kerb
open Go Go.Abs
def om(r:jx)(p:fL)(k:Int):rF :=
 if (bt p r.By).err≠0 then⟨[],(bt p r.By).err⟩
 else if (jf 3 k (bt p r.By).val).err≠0 then⟨[],(jf 3 k (bt p r.By).val).err⟩
 else bc ⟨r.By,r.BY,r.time,r.b_,r.bj,(jf 3 k (bt p r.By).val).val⟩
def Qr(msg:Bytes)(now:Int)(By:Bool):Bytes :=
 if msg.length=0 then[] else if msg.getD 0 0=4 then[] else if (gF (msg.set 0 4)).err≠0 then[]
 else refuse (gF (msg.set 0 4)).val.BY 4 now By
structure vW where
 answer:Bytes
 hJ:AY
 ok:Bool
def qj(c:g9)(v:VT)(a now:Int):Int×Bool:=E5 now (CQ (CQ a c.nk) v.bK) ([c.b_,v.b_].filter λn => !(n==0))
def Iz(d:Db)(c:g9)(v:VT)(r:kW)(now address:Int)(By:Bool)(ah:Int):vW :=
 if (qj c v r.bK now).2=Zx then⟨refuse r.BY 3 now By,np,Zx⟩
 else if hY ah≠2 then⟨refuse r.BY 10 now By,np,Zx⟩
 else if (ri d.aA r.BY ⟨r.service,r.inst,d.aA⟩ address By now (qj c v r.bK now).1 ah c.key v.key v.bj).err≠0 then⟨[],np,Zx⟩
 else if (om ⟨By,r.BY,r.time,c.b_,c.bj,[]⟩ (ri d.aA r.BY ⟨r.service,r.inst,d.aA⟩ address By now (qj c v r.bK now).1 ah c.key v.key v.bj).part c.key).err≠0 then⟨[],np,Zx⟩
 else⟨(om ⟨By,r.BY,r.time,c.b_,c.bj,[]⟩ (ri d.aA r.BY ⟨r.service,r.inst,d.aA⟩ address By now (qj c v r.bK now).1 ah c.key v.key v.bj).part c.key).val,
  { (ri d.aA r.BY ⟨r.service,r.inst,d.aA⟩ address By now (qj c v r.bK now).1 ah c.key v.key v.bj).hJ with kind:=1 },Zn⟩
def Nx(d:Db)(a:List lL)(now address:Int)(By:Bool)(ah:Int)(r:kW):vW :=
 if r.BY.aA≠d.aA then⟨refuse r.BY 8 now By,np,Zx⟩
 else if (rZ d r.BY.name r.BY.inst now).2≠0 then⟨refuse r.BY (rZ d r.BY.name r.BY.inst now).2 now By,np,Zx⟩
 else if (zT d a r.service r.inst now).err≠0 then⟨refuse r.BY (zT d a r.service r.inst now).err now By,np,Zx⟩
 else Iz d (iJ d (rZ d r.BY.name r.BY.inst now).1) (zT d a r.service r.inst now) r now address By ah
def tc(d:Db)(a:List lL)(now address:Int)(By:Bool)(ah:Int)(msg:Bytes):vW :=
 if !(within now 4294967295&&within address 4294967295) then⟨[],np,Zx⟩
 else if (gF msg).err≠0 then⟨Qr msg now By,np,Zx⟩
 else Nx d a now address By ah (gF msg).val
def lL.ok(c:lL):Prop:=c.source.length<=9223372036854775807/\c.target.length<=9223372036854775807/\pq c.bj=Zn/\Ff c.key=Zn
structure OX where
 BY:UInt8
 service:UInt8
 peer:UInt8
 time:UInt8
 bK:UInt8
 da:UInt8
 By:Bool
 how:Int
def OX.want(a:OX):bQ:=if a.service.toNat % 5=4 then F1 (aA 0) (aA (ou a.peer)) else Kerb.service (ou a.service % 3)
def OX.base(a:OX):Bytes:=(rJ ⟨a.By,user (ou a.BY % 5),ou a.time,ou a.bK,a.want.name,a.want.inst⟩).val
def OX.msg(a:OX):Bytes :=
 if a.how % 8=7 then xv a.base (a.how / 8)
 else if a.how % 8=6/\0<a.base.length then a.base.set 0 (UInt8.ofNat (Int.toNat (IntKind.wrap .u8 (a.how / 8)))) else a.base
end Kerb
/- Chapter 23, plain: how long a ticket lasts, and who can open the answer. -/
namespace Kerb
open Go Go.Abs
namespace KAsk
end KAsk
end Kerb
namespace Kerb
open Go Go.Abs
structure aon (a:KAsk) (d:Db) (ad se:Int) (o:adD) (R:lu) (Y:eW) (k:Int):Prop where
 dec:dc o.answer=⟨R,0⟩
 len:o.answer.length<=1000000
 code:R.code=0
 opens:(jV R.box 8 k).2=Zn
 says:aV (jV R.box 8 k).1=⟨Y,0⟩
 IK:Y.ah=se
 arY:o.hJ.ah=se
 apD:o.hJ.nD=k
 time:Y.time=1000+ou a.time+1
 start:Y.start=1100
 stop:Y.stop=o.hJ.stop
 most:o.hJ.stop<=1000+ou a.time+ou a.stop*50
 BY:o.hJ.BY=user (ou a.user % 3)
 kind:(o.hJ.kind=3/\k=(iJ d (jv d.entries o.hJ.BY.name o.hJ.BY.inst).1).key/\0<=(jv d.entries o.hJ.BY.name o.hJ.BY.inst).1/\(jv d.entries o.hJ.BY.name o.hJ.BY.inst).1<d.entries.length) \/
  (o.hJ.kind=4/\k=ah (ou a.ah % 4)/\o.hJ.stop<=1000+ou a.cf+300*(ou a.bK % 40+1)/\ou a.address % 2=ad/\o.hJ.pI=k)
end Kerb
/- The data of the statements of chapters 18 and 19: cases, servers, keys. -/
namespace Kerb
open Go Go.Abs
structure Case where
 BY:UInt8
 other:UInt8
 service:UInt8
 aA:UInt8
 By:Bool
 turned:Bool
 c5:Bool
 address:UInt8
 src:UInt8
 cf:UInt8
 time:UInt8
 tick:UInt8
 bK:UInt8
 cP:Int
 key:UInt8
 bj:UInt8
 ah:UInt8
 aB:Int
 eQ:Int
def Case.av(c:Case):AV := .agg [.u8 c.BY,.u8 c.other,.u8 c.service,.u8 c.aA,.bool c.By,.bool c.turned,.bool c.c5,.u8 c.address,.u8 c.src,.u8 c.cf,.u8 c.time,.u8 c.tick,.u8 c.bK,.int .u32 c.cP,.u8 c.key,.u8 c.bj,.u8 c.ah,.int .u16 c.aB,.int .u16 c.eQ]
def aft(n:Int):Bool:=decide (0<=n)&&decide (n<=4294967295)
def SM(n:Int):Bool:=decide (0<=n)&&decide (n<=65535)
def Case.ok(c:Case):Prop:=aft c.cP=Zn/\SM c.aB=Zn/\SM c.eQ=Zn
namespace Case
def who(c:Case):bQ:=Kerb.user (ou c.BY % 6)
def me(c:Case):bQ:=Kerb.service (ou c.service % 6)
def IK(c:Case):Int:=Kerb.ah (ou c.ah % 4)
def IP(c:Case)(m:bQ):dZ :=
 ⟨c.turned,c.who,ou c.address % 3,c.IK,ou c.bK / 4,1000+ou c.cf*8,m.name,if c.service.toNat % 7=6 then[111,116,104,101,114] else m.inst⟩
def au(c:Case):qg:=⟨if c.other.toNat % 8=7 then Kerb.user (ou c.other % 6) else c.who,c.cP,ou c.tick % 3,1000+ou c.time*8⟩
def x(c:Case)(m:bQ)(k:Int):Bytes:=(lm (c.IP m) k).val
def y(c:Case):Bytes:=(jC c.au c.By c.IK).val
def EL(c:Case)(m:bQ)(k v:Int):cC :=
  ⟨if c.eQ % 16=14 then !c.By else c.By,c.c5,if c.bj.toNat % 16=15 then v+1 else v,if c.aA.toNat % 16=15 then[67,65,77] else m.aA,
   if c.aB % 16=15 then xv (c.x m k) (c.aB / 16) else c.x m k,if c.eQ % 16=15 then xv c.y (c.eQ / 16) else c.y⟩
def msg(c:Case)(m:bQ)(k v:Int):Bytes:=(aZ (c.EL m k v)).val
def server(c:Case)(size a:UInt8):Server :=
 ⟨c.me,[⟨c.me,1,tM 1⟩,⟨c.me,2,tM 2⟩,⟨Kerb.user 0,1,tM 9⟩],⟨1+ou size % 40,0,[]⟩,ou a*4⟩
end Case
end Kerb
/- The statements of chapter 18, plain: what is accepted. -/
namespace Kerb
open Go Go.Abs
structure X0 (r:qi) (m:Mark) (now fI:Int):Prop where
 err:r.err=0
 name:m.BY.valid=Zn
 tick:0<=m.tick/\m.tick<=199
 Hu:Hu m.time now fI=Zn
 floor:r.floor<=m.time
 new:m ∉ r.marks
 room:(qw r now fI).length<r.size
 is:mP r m now fI=⟨⟨r.size,imax r.floor (now-fI),qw r now fI++[m]⟩,0⟩
theorem Jh{l:List Mark}{m:Mark}:yZ l m=Zn↔m∈l:=by
 unfold yZ;rw[List.any_eq_true];constructor
 .rintro⟨x,a,he⟩;rw[<-Mark.pG.1 he];exact a
 .intro h;exact⟨m,h,Mark.pG.2 rfl⟩
theorem added{r:qi}{m:Mark}{now fI:Int}(h:(mP r m now fI).err=0):X0 r m now fI:=by
 unfold mP at h;by_cases c:r.err=0;case neg=>rw[Qa1 c] at h;cases h
 rw[Qa0 (by simpa using c)] at h;by_cases b:m.BY.valid=Zn;case neg=>rw[Qa1 (by simpa using b)] at h;cases h
 rw[Qa0 (by simp[b])] at h;by_cases a:within m.tick 199=Zn;case neg=>rw[Qa1 (by simpa using a)] at h;cases h
 rw[Qa0 (by simp[a])] at h;by_cases e:Hu m.time now fI=Zx\/m.time<r.floor
 .grind
 rw[Qa0 e] at h;by_cases d:yZ r.marks m=Zn
 .grind
 rw[Qa0 d] at h;by_cases h6:r.size<=(qw r now fI).length
 .grind
 refine⟨c,b,within_iff.1 a,?_,by omega,λhm=>d (Jh.2 hm),by omega,?_⟩
 .grind
 .unfold mP
  grind
structure X2 (s:Server) (r:cC) (src now:Int) (t:dZ) (a:qg):Prop where
 err:s.err=0
 aA:r.aA=s.me.aA
 found:(lU s.keys s.me r.bj).2=Zn
 IP:gA r.aB (lU s.keys s.me r.bj).1=⟨t,0⟩
 us:wz t s.me.aA=s.me
 eQ:oX r.eQ r.By t.ah=⟨a,0⟩
 BY:t.BY=a.BY
 from_:src=t.address
 Hu:Hu a.time now s.fI=Zn
 state:K3 t.cf t.bK now s.fI=0
 add:X0 s.replay (vA a) now s.fI
 is:verify s r src now=⟨⟨s.me,s.keys,(mP s.replay (vA a) now s.fI).val,s.fI⟩,⟨t.BY,t.ah,t.address,a.cP,a.time,a.tick,t.cf,t.bK,r.aB,r.eQ⟩,0⟩
theorem NF{α:Type}(d:Ii α)(h:d.err=0):d=⟨d.val,0⟩:=by cases d;simp at h;rw[h]
theorem taken{s:Server}{r:cC}{src now:Int}(h:(verify s r src now).err=0):∃ t a,X2 s r src now t a:=by
 have A:=h;unfold verify at h;by_cases g:s.err=0;case neg=>rw[Qa1 g] at h;cases h
 rw[Qa0 (by simpa using g)] at h;by_cases b:(dY s r).err=0;case neg=>rw[Qa1 b] at h;exact absurd h b
 rw[Qa0 (by simpa using b)] at h;by_cases c:N1 (dY s r).aB (dY s r).eQ src now s.fI=0;case neg=>rw[Qa1 c] at h;exact absurd h c
 rw[Qa0 (by simpa using c)] at h;by_cases d:(mP s.replay (vA (dY s r).eQ) now s.fI).err=0;case neg=>rw[Qa1 d] at h;exact absurd h d
 have f:verify s r src now=⟨⟨s.me,s.keys,(mP s.replay (vA (dY s r).eQ) now s.fI).val,s.fI⟩,⟨(dY s r).aB.BY,(dY s r).aB.ah,(dY s r).aB.address,(dY s r).eQ.cP,(dY s r).eQ.time,(dY s r).eQ.tick,(dY s r).aB.cf,(dY s r).aB.bK,r.aB,r.eQ⟩,0⟩:=by
  unfold verify
  grind
 have y:∃ t a,r.aA=s.me.aA/\(lU s.keys s.me r.bj).2=Zn/\gA r.aB (lU s.keys s.me r.bj).1=⟨t,0⟩/\wz t s.me.aA=s.me/\oX r.eQ r.By t.ah=⟨a,0⟩/\dY s r=⟨t,a,0⟩:=by
  unfold dY at b ⊢;by_cases k:r.aA=s.me.aA;case neg=>rw[Qa1 k] at b;cases b
  rw[Qa0 (by simpa using k)] at b ⊢;by_cases o:(lU s.keys s.me r.bj).2=Zx
  .grind
  rw[Qa0 o] at b ⊢;by_cases z:(gA r.aB (lU s.keys s.me r.bj).1).err=7
  .grind
  rw[Qa0 z] at b ⊢;by_cases j:(gA r.aB (lU s.keys s.me r.bj).1).err=0;case neg=>rw[Qa1 j] at b;cases b
  rw[Qa0 (by simpa using j)] at b ⊢;by_cases n:(wz (gA r.aB (lU s.keys s.me r.bj).1).val s.me.aA).tz s.me=Zx
  .grind
  rw[Qa0 n] at b ⊢;by_cases i:(oX r.eQ r.By (gA r.aB (lU s.keys s.me r.bj).1).val.ah).err=0;case neg=>rw[Qa1 i] at b;cases b
  rw[Qa0 (by simpa using i)];exact⟨_,_,k,by simpa using o,NF _ j,bQ.pG.1 (by simpa using n),NF _ i,rfl⟩
 obtain⟨t,a,x,w,v,u,q,p⟩:=y;rw[p] at c d f;dsimp only at c d f;unfold N1 at c;by_cases m:t.BY.tz a.BY=Zx
 .grind
 rw[Qa0 m] at c;by_cases e:src=t.address;case neg=>rw[Qa1 e] at c;cases c
 rw[Qa0 (by simpa using e)] at c;by_cases l:Hu a.time now s.fI=Zx
 .grind
 rw[Qa0 l] at c;exact⟨t,a,g,x,w,v,u,q,bQ.pG.1 (by simpa using m),e,by simpa using l,c,added d,f⟩
namespace Case
end Case
theorem Cv{a:qg}{l:Bool}:(fb a l).val.length<=150:=by
 unfold fb;split
 .simp
 rename_i h;have b:a.BY.valid=Zn:=by
  unfold qg.check at h
  grind
 simp only[bQ.valid,Zy,validName,cO,dG,Qa2] at b;have:=rz (cV (aD (cond l 1 0) 1 Zx) a.BY++aD a.cP 4 l++aD a.tick 1 Zx++aD a.time 4 l);simp only[this,Zv,gM,aP];omega
theorem HN(a:qg)(l:Bool)(k:Int):(jC a l k).val.length<=162:=by
 unfold jC;split
 .simp
 .have:=JU 2 k (fb a l).val;have:=Cv (a:=a) (l:=l);omega
structure Reached (s:Server):Prop where
 err:s.err=0
 keys:∀ c∈s.keys,c.ok
 marks:∀ c∈s.replay.marks,c.ok
 name:s.me.name.length<=9223372036854775807/\s.me.inst.length<=9223372036854775807/\s.me.aA.length<=9223372036854775807
 lens:s.keys.length<=1000000/\s.replay.marks.length<=1000000
theorem Rp(r:cC):(aZ r).val.length<=600:=by
 by_cases h:(aZ r).err=0
 .obtain⟨b,⟨e,_⟩,_,d,c⟩:=yr h;have a:(header (cond r.c5 4 3) r.By).length=2:=by cases r.c5<;>cases r.By<;>rfl
  rw[b];simp only[Zv,List.length_cons,List.length_nil,aP,a];omega
 .unfold aZ at h ⊢
  grind
structure Fits (s:Server) (V:Iq) (r:cC) (src now:Int):Prop where
 err:V.err=0
 t1:V.a.time-now<=s.fI
 t2:now-V.a.time<=s.fI
 t3:V.a.cf-s.fI<=now
 t4:now<=V.a.cf+300*(V.a.bK+1)+s.fI
 b1:0<=V.a.time/\V.a.time<=4294967295
 b2:0<=V.a.cf/\V.a.cf<=4294967295
 b3:0<=V.a.bK/\V.a.bK<=255
 b4:0<=s.fI/\s.fI<=4294967295
 b5:0<=now/\now<=4294967295
 src:V.a.address=src
 aB:V.a.aB=r.aB
 eQ:V.a.eQ=r.eQ
 more:V.s.replay.marks.length<=s.replay.marks.length+1
 most:(V.s.replay.marks.length:Int)<=V.s.replay.size
 size:V.s.replay.size=s.replay.size
 ok:V.s.err=0
structure aos (s:Server):Prop where
 keys:∀ c∈s.keys,c.ok
 marks:∀ c∈s.replay.marks,c.ok
 name:s.me.name.length<=9223372036854775807/\s.me.inst.length<=9223372036854775807/\s.me.aA.length<=9223372036854775807
 lens:s.keys.length<=1000000/\s.replay.marks.length<=1000000
end Kerb
/- The statements of chapter 17, plain. -/
namespace Kerb
open Go Go.Abs
def lL.xH(c:lL):Prop:=bf c.key=Zn/\within c.bj 255=Zn/\Ff c.key=Zn
structure aaj (d:Db) (da:List lL) (now address:Int) (By:Bool) (se:Int) (msg:Bytes) (A:vW) (r:kW) (i:Int) (L:Int):Prop where
 akH:within now 4294967295=Zn
 adr:within address 4294967295=Zn
 EL:gF msg=⟨r,0⟩
 aA:r.BY.aA=d.aA
 BY:rZ d r.BY.name r.BY.inst now=(i,0)
 asq:(zT d da r.service r.inst now).err=0
 bK:qj (iJ d i) (zT d da r.service r.inst now) r.bK now=(L,Zn)
 aaB:hY se=2
 gr:(ri d.aA r.BY ⟨r.service,r.inst,d.aA⟩ address By now L se (iJ d i).key (zT d da r.service r.inst now).key (zT d da r.service r.inst now).bj).err=0
 sl:(om ⟨By,r.BY,r.time,(iJ d i).b_,(iJ d i).bj,[]⟩ (ri d.aA r.BY ⟨r.service,r.inst,d.aA⟩ address By now L se (iJ d i).key (zT d da r.service r.inst now).key (zT d da r.service r.inst now).bj).part (iJ d i).key).err=0
 is:A=⟨(om ⟨By,r.BY,r.time,(iJ d i).b_,(iJ d i).bj,[]⟩ (ri d.aA r.BY ⟨r.service,r.inst,d.aA⟩ address By now L se (iJ d i).key (zT d da r.service r.inst now).key (zT d da r.service r.inst now).bj).part (iJ d i).key).val,
  { (ri d.aA r.BY ⟨r.service,r.inst,d.aA⟩ address By now L se (iJ d i).key (zT d da r.service r.inst now).key (zT d da r.service r.inst now).bj).hJ with kind:=1 },Zn⟩
theorem cf{d:Db}{a:List lL}{now address:Int}{By:Bool}{b:Int}{msg:Bytes}(h:(tc d a now address By b msg).ok=Zn):∃ r i L,aaj d a now address By b msg (tc d a now address By b msg) r i L:=by
 obtain⟨A,hA⟩:∃ A,tc d a now address By b msg=A:=⟨_,rfl⟩;rw[hA] at h ⊢;unfold tc at hA;by_cases c:(within now 4294967295&&within address 4294967295)=Zn;case neg=>rw[Qa1 (by simp only[Bool.not_eq_true] at c;rw[c];rfl)] at hA;subst hA;cases h
 rw[Qa0 (by rw[c];simp)] at hA;by_cases f:(gF msg).err=0;case neg=>rw[Qa1 f] at hA;subst hA;cases h
 rw[Qa0 (by simpa using f)] at hA;obtain⟨r,g⟩:∃ r,(gF msg).val=r:=⟨_,rfl⟩;have n:gF msg=⟨r,0⟩:=by cases hd:gF msg;rw[hd] at f g;simp at f g;rw[f,g]
 rw[g] at hA;unfold Nx at hA;by_cases m:r.BY.aA=d.aA;case neg=>rw[Qa1 m] at hA;subst hA;cases h
 rw[Qa0 (by simpa using m)] at hA;obtain⟨⟨i,e⟩,o⟩:∃ i,rZ d r.BY.name r.BY.inst now=i:=⟨_,rfl⟩;rw[o] at hA;dsimp only at hA;by_cases s:e=0;case neg=>rw[Qa1 s] at hA;subst hA;cases h
 subst s;rw[Qa0 (by simp)] at hA;by_cases l:(zT d a r.service r.inst now).err=0;case neg=>rw[Qa1 l] at hA;subst hA;cases h
 rw[Qa0 (by simpa using l)] at hA;unfold Iz at hA;obtain⟨⟨L,q⟩,p⟩:∃ L,qj (iJ d i) (zT d a r.service r.inst now) r.bK now=L:=⟨_,rfl⟩;rw[p] at hA;dsimp only at hA;cases q
 .grind
 rw[Qa0 (by simp)] at hA;by_cases h6:hY b=2;case neg=>rw[Qa1 h6] at hA;subst hA;cases h
 rw[Qa0 (by simpa using h6)] at hA;by_cases k:(ri d.aA r.BY ⟨r.service,r.inst,d.aA⟩ address By now L b (iJ d i).key (zT d a r.service r.inst now).key (zT d a r.service r.inst now).bj).err=0;case neg=>rw[Qa1 k] at hA;subst hA;cases h
 rw[Qa0 (by simpa using k)] at hA;by_cases j:(om ⟨By,r.BY,r.time,(iJ d i).b_,(iJ d i).bj,[]⟩ (ri d.aA r.BY ⟨r.service,r.inst,d.aA⟩ address By now L b (iJ d i).key (zT d a r.service r.inst now).key (zT d a r.service r.inst now).bj).part (iJ d i).key).err=0;case neg=>rw[Qa1 j] at hA;subst hA;cases h
 rw[Qa0 (by simpa using j)] at hA;rw[Zy] at c;exact⟨r,i,L,c.1,c.2,n,m,o,l,p,h6,k,j,hA.symm⟩
theorem yM(r:jx):(bc r).val.length<=2000:=by
 unfold bc;split
 .simp
 rename_i b;split
 .simp
 split
 .simp
 .have a:r.BY.valid=Zn:=by simpa using b
  have a:=fZ a;have c:=lg 2 r.By;simp only[Zv,gM,aP];omega
structure ah8 (d:Db) (now ad se:Int) (A:vW) (r:kW) (i j:Int) (Y:jx) (body:Bytes) (P:fL) (T:dZ):Prop where
 f1:jv d.entries r.BY.name r.BY.inst=(i,0)
 f2:jv d.entries r.service r.inst=(j,0)
 i0:0<=i/\i.toNat<d.entries.length
 j0:0<=j/\j.toNat<d.entries.length
 YL:aQ A.answer=⟨Y,0⟩
 BY:Y.BY=r.BY
 time:Y.time=r.time
 box:jV Y.cw 3 (iJ d i).key=(body,Zn)
 part:aX body Y.By=⟨P,0⟩
 IP:gA P.aB (iJ d j).key=⟨T,0⟩
 text:P.aB=A.hJ.text
 t1:T.BY=r.BY
 t2:T.ah=se
 t3:P.ah=se
 t4:A.hJ.ah=se
 t5:T.address=ad
 t6:T.service=r.service
 t7:T.inst=r.inst
 t8:T.cf=now
 t9:A.hJ.nD=(iJ d i).key
 e1:(0<(iJ d i).b_->A.hJ.stop<=(iJ d i).b_)/\T.bK<=(iJ d i).nk
 e2:(0<(iJ d j).b_->A.hJ.stop<=(iJ d j).b_)/\T.bK<=(iJ d j).nk
 e3:T.bK<=r.bK
 e4:A.hJ.stop=now+300*(T.bK+1)
 e5:0<=T.bK/\T.bK<=255
 lens:A.answer.length<=140737488355328/\Y.cw.length<=140737488355328/\body.length<=140737488355328/\P.aB.length<=140737488355328
end Kerb
/- Chapter 19: ticket-granting servers. -/
namespace Kerb
open Go Go.Abs
def Sv(d:Db):List oL :=
 if (jv d.entries qC d.aA).2=0/\bf (iJ d (jv d.entries qC d.aA).1).key=Zn then
  [⟨F1 d.aA d.aA,(iJ d (jv d.entries qC d.aA).1).bj,(iJ d (jv d.entries qC d.aA).1).key⟩] else[]
def RJ(r:Bytes)(c:lL):oL:=⟨F1 c.source r,c.bj,c.key⟩
def O'(r:Bytes)(l:List lL):List oL:=(l.filter λc=>c.target==r).map (RJ r)
def Po(d:Db)(a:List lL):List oL:=Sv d++O' d.aA a
def ru:eM:=⟨qF,0,0,[],[]⟩
def nA(b:Bytes)(li:Bool):eM :=
 let a:=jB b
 let t:=get b a.next 4 li
 let l:=get b t.next 1 Zx
 let s:=text b l.next
 ⟨a.val,t.val,l.val,s.val,(text b s.next).val⟩
def bH(b:Bytes):Ii eM :=
 if (aR b [3]).2≠0 then⟨ru,(aR b [3]).2⟩ else dU ru dj (λb=>(nA b (aR b [3]).1,Zx)) b
theorem H'{r:eM}(h:(dj r).err=0):(aZ r.ap).err=0/\r.ap.c5=Zx/\(dj r).val=(aZ r.ap).val++(aD r.time 4 r.ap.By++(aD r.bK 1 Zx++(r.service++0::(r.inst++0::[])))) /\
  (0<=r.time/\r.time<=4294967295)/\(0<=r.bK/\r.bK<=255)/\(r.service.length<=39/\(0:UInt8) ∉ r.service)/\r.inst.length<=39/\(0:UInt8) ∉ r.inst:=by
 unfold dj at h ⊢;by_cases d:r.ap.c5=Zn
 .grind
 rw[Qa0 d] at h ⊢;by_cases c:(aZ r.ap).err=0;case neg=>rw[Qa1 c] at h;exact absurd h c
 rw[Qa0 (by simpa using c)] at h ⊢;by_cases b:(validName r.service&&cO r.inst)=Zn;case neg=>rw[Qa1 (by rw[Bool.not_eq_true] at b;rw[b];rfl)] at h;cases h
 rw[Qa0 (by simp[b])] at h ⊢;by_cases a:(within r.time 4294967295&&within r.bK 255)=Zn;case neg=>rw[Qa1 (by rw[Bool.not_eq_true] at a;rw[a];rfl)] at h;cases h
 rw[Qa0 (by simp[a])];rw[Zy] at b a;have ok:∀ {s:Bytes},cO s=Zn->s.length<=39/\(0:UInt8) ∉ s:=λ{s} h=>by
  simp only[cO,Zy,Qa2] at h;exact⟨h.1,λhm=>by
   have:=h.2;simp only[dO,Zj] at this;exact absurd (this 0 hm) (by decide)⟩
 have e:r.service.length<=39/\(0:UInt8) ∉ r.service:=by
  have h:=b.1;simp only[validName,Zy,Qa2] at h;exact⟨by omega,λhm=>by
   have:=h.2;simp only[dO,Zj] at this;exact absurd (this 0 hm) (by decide)⟩
 refine⟨c,by simpa using d,?_,within_iff.1 a.1,within_iff.1 a.2,e,ok b.2⟩;unfold cX
 grind
theorem Iv{r:cC}(z:Bytes)(h:(aZ r).err=0):∃ f e d c b a:Int,get ((aZ r).val++z) 2 1 Zx=⟨r.bj,f,0⟩/\text ((aZ r).val++z) f=⟨r.aA,e,0⟩/\get ((aZ r).val++z) e 1 Zx=⟨r.aB.length,d,0⟩/\get ((aZ r).val++z) d 1 Zx=⟨r.eQ.length,c,0⟩ /\
  bytes ((aZ r).val++z) c r.aB.length=⟨r.aB,b,0⟩/\bytes ((aZ r).val++z) b r.eQ.length=⟨r.eQ,a,0⟩/\At ((aZ r).val++z) a z:=by
 obtain⟨x,⟨q,p⟩,⟨t,s⟩,t1,v⟩:=yr h;have u:(aZ r).val++z=header (cond r.c5 4 3) r.By++(aD r.bj 1 Zx++(r.aA++0::(aD r.aB.length 1 Zx++(aD r.eQ.length 1 Zx++(r.aB++(r.eQ++z)))))):=by
  grind
 have o:=(At.start ((aZ r).val++z)).as u;have g:=o.skip;rw[show(header (cond r.c5 4 3) r.By).length=2 by cases r.c5<;>cases r.By<;>rfl] at g;obtain⟨E,m⟩:=g.mK t s;obtain⟨D,l⟩:=m.text q p;obtain⟨C,k⟩:=l.mK (by omega) (by omega);obtain⟨B,j⟩:=k.mK (by omega) (by omega);obtain⟨A,i⟩:=j.bytes (n:=r.aB.length) rfl;obtain⟨y,w⟩:=i.bytes (n:=r.eQ.length) rfl
 grind
theorem Ro{r:cC}(z:Bytes)(h:(aZ r).err=0):bm ((aZ r).val++z)=⟨cond r.c5 4 3,r.By,0⟩:=by
 rw[(yr h).1,List.append_assoc];exact BK _
theorem Pr{b:Bytes}{k:Int}{li:Bool}(h:bm b=⟨k,li,0⟩):aR b [k]=(li,0):=by
 unfold aR;rw[h];simp
theorem zI{r:eM}(h:(dj r).err=0):aR (dj r).val [3]=(r.ap.By,0)/\nA (dj r).val r.ap.By=r:=by
 obtain⟨d,c,m,⟨t0,t1⟩,⟨l,k⟩,⟨e,s1⟩,i0,i1⟩:=H' h;rw[m];obtain⟨z,a⟩:∃ z,aD r.time 4 r.ap.By++(aD r.bK 1 Zx++(r.service++0::(r.inst++0::[])))=z:=⟨_,rfl⟩;obtain⟨F,E,D,C,B,A,x,w,v,u,t,s,p⟩:=Iv z d;have b:=Ro z d;rw[c] at b;rw[<-a] at p;rw[a] at p ⊢;have j:=p.as a.symm;obtain⟨q,i⟩:=j.mX (li:=r.ap.By) t0 t1;obtain⟨o,g⟩:=i.mK l k;obtain⟨n,f⟩:=g.text e s1;obtain⟨y,G⟩:=f.text i0 i1;refine⟨Pr b,?_⟩;unfold nA jB;simp only[x,w,v,u,t,s,q,o,n,y,b];have:((cond Zx 4 3:Int)==4)=r.ap.c5:=by rw[c];rfl
 rw[this]
theorem MJ(b:Bytes)(li:Bool):(nA b li).ap.aA.length<=9223372036854775807/\(nA b li).service.length<=9223372036854775807/\(nA b li).inst.length<=9223372036854775807:=by
 have h:∀ q,(text b q).val.length<=9223372036854775807:=λq=>by have:=ez b q;omega
 exact⟨h _,h _,h _⟩
theorem pC(b:Bytes):((bH b).val.ap.aA.length<=9223372036854775807/\(bH b).val.service.length<=9223372036854775807/\(bH b).val.inst.length<=9223372036854775807)/\(bH b).val.ap.aB.length<=255/\(bH b).val.ap.eQ.length<=255:=by
 have a:(ru.ap.aA.length<=9223372036854775807/\ru.service.length<=9223372036854775807/\ru.inst.length<=9223372036854775807)/\ru.ap.aB.length<=255/\ru.ap.eQ.length<=255:=by decide
 unfold bH;split
 .exact a
 unfold dU;split
 .exact a
 .rename_i h;have he:(dj (nA b (aR b [3]).1)).err=0:=Decidable.byContradiction λq=>h (.inr (.inl q));obtain⟨_,_,_,d,c⟩:=yr (H' he).1;exact⟨MJ _ _,d,c⟩
def XO(a cf b:Int):List Int:=XL cf b::(if a=0 then[] else[a])
def XP(now want most a cf b:Int):Int×Bool:=E5 now (CQ want most) (XO a cf b)
structure Q9 where
 s:Server
 out:vW
def QL(d:Db)(a:List lL)(s:Server)(r:eM):Server:=⟨F1 r.ap.aA d.aA,Po d a,s.replay,s.fI⟩
namespace Case
def ac4(c:Case)(m:bQ)(k v time b:Int)(a:bQ):eM:=⟨{ c.EL m k v with c5:=Zx },time,b,a.name,a.inst⟩
def ac3(c:Case)(m:bQ)(k v time b:Int)(a:bQ):Bytes:=(dj (c.ac4 m k v time b a)).val
end Case
structure z8 where
 iE:Case
 src:UInt8
 to:UInt8
 peer:UInt8
 bK:UInt8
 now:UInt8
 bj:UInt8
 how:Int
def z8.key(a:z8)(b:List lL):oL :=
 if a.src.toNat % 3=2/\0<b.length then⟨⟨qC,aA 0,(b.getD (a.bj.toNat % b.length) pL).source⟩,(b.getD (a.bj.toNat % b.length) pL).bj,(b.getD (a.bj.toNat % b.length) pL).key⟩
 else⟨⟨qC,aA 0,aA 0⟩,6,tM 3⟩
def z8.want(a:z8):bQ:=if a.to.toNat % 5=4 then⟨qC,aA (ou a.peer),aA 0⟩ else Kerb.service (ou a.to % 3)
def z8.base(a:z8)(b:List lL):Bytes:=a.iE.ac3 (a.key b).service (a.key b).key (a.key b).bj 5 (ou a.bK) a.want
def z8.msg(a:z8)(b:List lL):Bytes:=if a.how % 8=7 then xv (a.base b) (a.how / 8) else a.base b
def z8.av(q:z8):AV := .agg [.u8 q.iE.BY,.u8 q.iE.other,.u8 q.iE.service,.u8 q.iE.aA,.bool q.iE.By,.bool q.iE.turned,.bool q.iE.c5,.u8 q.iE.address,.u8 q.iE.src,.u8 q.iE.cf,.u8 q.iE.time,.u8 q.iE.tick,.u8 q.iE.bK,.int .u32 q.iE.cP,.u8 q.iE.key,.u8 q.iE.bj,.u8 q.iE.ah,.int .u16 q.iE.aB,.int .u16 q.iE.eQ,.u8 q.src,.u8 q.to,.u8 q.peer,.u8 q.bK,.u8 q.now,.u8 q.bj,.int .u16 q.how]
def z8.ok(q:z8):Prop:=q.iE.ok/\SM q.how=Zn
theorem Pg{r:eM}(h:(dj r).err≠0):(dj r).val=[]:=by grind [dj]
theorem OR(r:eM):(dj r).val.length<=800:=by
 by_cases h:(dj r).err=0
 .obtain⟨f,e,a,d,c,h6,b⟩:=H' h;rw[a];have:=Rp r.ap;simp only[Zv,List.length_cons,List.length_nil,aP];omega
 .rw[Pg h];simp
end Kerb
/- Chapter 28: when two texts are the same ticket. -/
namespace Kerb
open Go Go.Abs
def oO(b:Bytes):Bool:=(aN b).err==0&&(aN b).n==(b.length:Int)
def qP(b:Bytes):F3×Bool:=if oO b&&(aN b).box.kind==1 then((aN b).box,Zn) else(sM,Zx)
def zL(a b:Bytes):Bool:=a==b||((qP a).2&&(qP b).2&&(qP a).1.body==(qP b).1.body)
end Kerb
/- Chapter 27: what an adversary can know, in plain words. -/
namespace Kerb
open Go Go.Abs
variable {els:List AV}{l:List Int}{i:Nat}{k:Int}
def toK(l:List Int):List AV:=l.map (AV.int AT)
def toB(l:List Bytes):List AV:=l.map AV.bs
def H_:AV->Bytes
 | .bs b=>b
 | _=>[]
def fO(els:List AV):List Bytes:=els.map H_
def afs:AV->Bool
 | .bs _=>Zn
 | _=>Zx
def ua(els:List AV):Bool:=els.all afs
theorem jE(l:List Int):cu (toK l)=l:=by simp[cu,toK,Function.comp_def]
theorem lK(l:List Bytes):fO (toB l)=l:=by simp[fO,toB,Function.comp_def,H_]
theorem pY(l:List Int):cM (toK l)=Zn:=by simp[cM,toK]
theorem zW(l:List Bytes):ua (toB l)=Zn:=by simp[ua,toB,afs]
theorem dp(l:List Int):(toK l).length=l.length:=by simp[toK]
theorem c6(l:List Bytes):(toB l).length=l.length:=by simp[toB]
theorem xW(h:cM els=Zn):∃ ks,els=toK ks:=⟨cu els,by
 have:=IB h;simpa [back,c8,toK] using this.symm⟩
theorem Tk(h:ua els=Zn):∃ bs,els=toB bs:=⟨fO els,by
 unfold fO toB;rw[List.map_map];conv=>lhs;rw[<-List.map_id els]
 apply List.map_congr_left;intro a b;simp only[ua,Zj] at h;have:=h a b;cases a<;>first | (cases this;done) | rfl⟩
theorem nE(h:i<l.length):(toK l).getD i .undef = .int AT (l.getD i 0):=by
 simp[toK,List.getD,h]
theorem iP{l:List Bytes}(h:i<l.length):(toB l).getD i .undef = .bs (l.getD i []):=by
 simp[toB,List.getD,h]
def xA:List Int->Bool
 | x::y::r=>decide (x<y)&&xA (y::r)
 | _=>Zn
def jH:List Int->Int->List Int
 | [],k=>[k]
 | x::r,k=>bif decide (x<k) then x::jH r k else bif x==k then x::r else k::x::r
theorem ze{k y:Int}:∀ {l:List Int},y∈jH l k↔y=k\/y∈l
 | []=>by simp[jH]
 | x::r=>by
  unfold jH;cases a:decide (x<k) with
  | true=>simp only[Qa6,Zg,ze (l:=r)];exact or_left_comm
  | false =>
   grind
theorem Iy{x:Int}(h:xA (x::l)=Zn):xA l=Zn:=by
 cases l with
 | nil=>rfl
 | cons y r=>simp only[xA,Zy] at h;exact h.2
theorem yt{x:Int}:∀ {l:List Int},xA (x::l)=Zn->∀ y∈l,x<y
 | [],_,y,hy=>by cases hy
 | z::r,h,y,hy=>by
  simp only[xA,Zy,Qa2] at h;rcases Zg.1 hy with rfl | hy
  .exact h.1
  .have:=yt h.2 y hy;omega
theorem Ix{x:Int}(h:xA l=Zn)(a:∀ y∈l,x<y):xA (x::l)=Zn:=by
 cases l with
 | nil=>rfl
 | cons y r=>simp only[xA,Zy,Qa2];exact⟨a y (by simp),h⟩
theorem yu{k:Int}:∀ {l:List Int},xA l=Zn->xA (jH l k)=Zn
 | [],_=>rfl
 | x::r,h=>by
  unfold jH;cases b:decide (x<k) with
  | true =>
   simp only[Qa6];have a:x<k:=Qa3 b;refine Ix (yu (Iy h)) λy hy=> ?_;rcases ze.1 hy with rfl | hy
   .exact a
   .exact yt h y hy
  | false =>
   cases d:x==k with
   | true=>exact h
   | false =>
    simp only[Qa7];have a:¬ x<k:=Qb5 b;have c:k<x:=by
     have:x≠k:=by intro e;subst e;simp at d
     omega
    refine Ix h λy hy=> ?_;rcases Zg.1 hy with rfl | hy
    .exact c
    .have:=yt h y hy;omega
theorem Ar{k:Int}:∀ {l:List Int},k ∉ l->(jH l k).Perm (l++[k])
 | [],_ => .refl _
 | x::r,h=>by
  unfold jH;cases a:decide (x<k) with
  | true =>
   simp only[Qa6,List.cons_append];exact List.Perm.cons _ (Ar λhm=>h (Zu _ hm))
  | false =>
   grind
theorem JD(h:k ∉ l):(jH l k).length=l.length+1:=by
 rw[(Ar h).length_eq];simp
theorem Gv:∀ {l:List Int},xA l=Zn->∀ {i j:Nat},i<j->(a:j<l.length)->l[i]! < l[j]!
 | [],_,i,j,_,a=>by simp at a
 | x::r,h,i,j,c,a=>by
  cases j with
  | zero=>omega
  | succ j =>
   have b:j<r.length:=by simpa using a
   cases i with
   | zero =>
    have:=yt h (r[j]!) (by rw[getElem!_pos r j b];exact List.getElem_mem b);simpa using this
   | succ i =>
    have:=Gv (Iy h) (i:=i) (j:=j) (by omega) b;simpa using this
theorem Rf(h:xA l=Zn)(e:k ∉ l):Ej (toK l) k=toK (jH l k):=by
 unfold Ej Bo back toK;congr 1;have p:c8 (l.map (AV.int AT)++[.int AT k])=(l++[k]).toArray:=by simp[c8,cu,Function.comp_def]
 rw[p,Go.Sort.sortInt (l++[k])];have hu:=Go.Sort.sorted_unique_holds Go.Sort.swo_ltInt (λx y c b=>by simp only[Go.Sort.ltInt,decide_eq_false_iff_not] at c b;omega) (l++[k]).toArray (jH l k).toArray;have g:=Ar e;have hl:=JD e;have:=hu ⟨by simp[hl],λi f=>by
   have c:¬ i<(jH l k).length:=by rw[hl];simp at f;omega
   have b:¬ i<(l++[k]).length:=by simp at f ⊢;omega
   simp[Array.getElem!_eq_getD,Array.getD,c,b];intro s;simp at b;omega,by
   have o:(jH l k).toArray.extract 0 (l++[k]).toArray.size=(jH l k).toArray:=by apply Array.extract_eq_self_of_le;simp[hl]
   have n:(l++[k]).toArray.extract 0 (l++[k]).toArray.size=(l++[k]).toArray:=by apply Array.extract_eq_self_of_le;simp
   rw[o,n];exact g⟩ (λi j _ q m=>by
   simp only[Go.Sort.ltInt,decide_eq_false_iff_not];have r:j<(jH l k).length:=by rw[hl];simpa using m
   have:=Gv (yu (k:=k) h) q r;simp only[List.getElem!_toArray];omega)
 rw[show(jH l k)=(jH l k).toArray.toList from rfl,this];simp only[Go.Sort.ltInt];congr 1;funext x y;by_cases a:x<=y
 .have d:¬ y<x:=by omega
  simp[a,d]
 .have d:y<x:=by omega
  simp[a,d]
theorem Rr(h:xA l=Zn):O3 (toK l)=Zn:=by
 simp only[O3,Zj,List.mem_range,dp,Qa2];intro i c;have e:=Gv h (i:=i) (j:=i+1) (by omega) (by omega);have b:i<l.length:=by omega
 have a:i+1<l.length:=by omega
 simp only[num,nE b,nE a]
 grind
end Kerb
/- Chapter 27: the boxes of a message, what is in a box, the closure of knowledge. -/
namespace Kerb
open Go Go.Abs
variable {b:Bytes}
def gj(l:List Bytes):List Bytes:=l.filter oO
def dK(l:List Int):List Int:=l.filter bf
def o7(b:Bytes):List Bytes :=
 if (aQ b).err=0 then[(aQ b).val.cw]
 else if (c7 b).err=0 then[(c7 b).val.aB,(c7 b).val.eQ]
 else if (bH b).err=0 then[(bH b).val.ap.aB,(bH b).val.ap.eQ]
 else if (gQ b).err=0 then[(gQ b).val]
 else if (fW b).err=0 then[(fW b).cw]
 else if (aG b).err=0 then[(aG b).val.aB,(aG b).val.box]
 else if (dc b).err=0 then[(dc b).val.box]
 else if (cT b).err=0 then[(cT b).val.box] else[]
def partsOf(b:Bytes):List Bytes:=gj (o7 b)
structure Bv where
 keys:List Int
 boxes:List Bytes
def Aq(b:Bytes)(li:Bool):Bv:=⟨dK [(aX b li).val.ah],gj [(aX b li).val.aB]⟩
def h_(x:F3):Bv :=
 if x.kind=1 then(if (aW x.body).err=0 then⟨dK [(aW x.body).val.ah],[]⟩ else⟨[],[]⟩)
 else if x.kind=3 then(if (aX x.body Zx).err=0 then Aq x.body Zx else if (aX x.body Zn).err=0 then Aq x.body Zn else⟨[],[]⟩)
 else if x.kind=7 then(if (ck x.body).err=0 then⟨dK [(ck x.body).val.new],[]⟩ else⟨[],[]⟩)
 else if x.kind=8 then(if (aV x.body).err=0 then⟨dK [(aV x.body).val.ah],gj [(aV x.body).val.aB]⟩ else⟨[],[]⟩)
 else if x.kind=9 then(if (bz x.body).err=0 then⟨dK [(bz x.body).val.ah],[]⟩ else⟨[],[]⟩)
 else if x.kind=10 then(if (bA x.body).err=0 then⟨dK [(bA x.body).val.ah],gj [(bA x.body).val.record]⟩ else⟨[],[]⟩)
 else⟨[],[]⟩
structure Kn where
 keys:List Int
 boxes:List Bytes
def eX(K:List Int)(l:List Int):List Int:=l.foldl (λK k=>bif K.contains k then K else jH K k) K
def eE(B:List Bytes)(l:List Bytes):List Bytes:=l.foldl (λB b=>bif B.contains b then B else B++[b]) B
def Kn.add(s:Kn)(x:Bv):Kn:=⟨eX s.keys x.keys,eE s.boxes x.boxes⟩
def Kn.has(s:Kn)(x:Bv):Bool:=x.keys.all (λk=>s.keys.contains k)&&x.boxes.all λb=>s.boxes.contains b
def bC(b:Bytes):Bv:=h_ (aN b).box
def Kn.done(s:Kn)(b:Bytes):Bool := !((aN b).err==0)||s.has (bC b)
def Kn.opens(s:Kn)(b:Bytes):Bool:=(aN b).err==0&&s.keys.contains (aN b).box.key && !s.has (bC b)
def Kn.next(s:Kn):Option Bytes:=s.boxes.find? s.opens
def rH:Nat->Kn->Kn
 | 0,s=>s
 | n+1,s=>match s.next with
  | some b=>rH n (s.add (bC b))
  | none=>s
def D_(s:Kn):Nat:=((s.boxes.filter λb => !s.done b).map List.length).sum
def dz(s:Kn):Nat:=s.keys.length+s.boxes.length+D_ s
def close(s:Kn):Kn:=rH (dz s) s
def learn(s:Kn)(m:Bytes):Kn:=close (s.add ⟨[],partsOf m⟩)
def leak(s:Kn)(k:Int):Kn:=close (s.add ⟨dK [k],[]⟩)
def k8:Nat->Kn->Bytes->Bool
 | 0,_,_=>Zx
 | n+1,s,b=>s.boxes.contains b||(oO b&&s.keys.contains (aN b).box.key&&(bC b).keys.all (λk=>s.keys.contains k)&&(bC b).boxes.all λb=>k8 n s b)
def eN(s:Kn)(b:Bytes):Bool:=k8 (b.length+1) s b
def BM(s:Kn)(m:Bytes):Bool:=(partsOf m).all (eN s)
theorem o_(k:Int):(dK [k]).length<=1:=List.length_filter_le _ _
theorem ID(b:Bytes):(gj [b]).length<=1:=List.length_filter_le _ _
theorem uZ{l:List Bytes}(h:b∈gj l):b∈l/\oO b=Zn:=List.mem_filter.1 h
theorem IE{a:Bytes}(h:b∈gj [a]):b=a:=by simpa using (uZ h).1
theorem lW(b:Bytes)(li:Bool):(aX b li).val.aB.length<=b.length:=by
 unfold aX;split
 .exact Zz _
 .exact iu _ _ _
theorem ko{α:Type}{no:α}{enc:α->rF}{rd:Bytes->α×Bool}(P:α->Prop)(c:P no)(a:P (rd b).1):P (dU no enc rd b).val:=by
 unfold dU
 grind
theorem W0(b:Bytes):(EC b).val.aB.length<=b.length:=by
 unfold EC;dsimp only;cases fh (eH b 4 0 Zx).val
 .exact Zz _
 .exact od _ _ _ _
theorem jb(b:Bytes):(aV b).val.aB.length<=b.length :=
 ko (λa:eW=>a.aB.length<=b.length) (Zz _) (W0 b)
theorem k9(b:Bytes):(bA b).val.record.length<=b.length :=
 ko (λa:rW=>a.record.length<=b.length) (Zz _) (iu _ _ _)
theorem pT(b:Bytes):(aN b).box.body.length+12<=b.length\/(aN b).box=sM:=by grind [cut,aN]
structure Im (x:Bv) (n:Nat):Prop where
 keys:x.keys.length<=1
 boxes:x.boxes.length<=1
 len:∀ b∈x.boxes,b.length<=n
 mL:∀ b∈x.boxes,oO b=Zn
 valid:∀ k∈x.keys,bf k=Zn
theorem CV(n:Nat):Im ⟨[],[]⟩ n:=⟨by simp,by simp,by simp,by simp,by simp⟩
theorem PG(k:Int)(n:Nat):Im ⟨dK [k],[]⟩ n:=⟨o_ k,by simp,by simp,by simp,λk' h=>(List.mem_filter.1 h).2⟩
theorem xO(k:Int){n:Nat}(h:b.length<=n):Im ⟨dK [k],gj [b]⟩ n :=
 ⟨o_ k,ID b,λc a=>by rw[IE a];exact h,λc a=>(uZ a).2,λk' h=>(List.mem_filter.1 h).2⟩
theorem CX(x:F3):Im (h_ x) x.body.length:=by
 unfold h_;repeat' split
 all_goals first
  | exact CV _
  | exact PG _ _
  | exact xO _ (lW _ _)
  | exact xO _ (jb _)
  | exact xO _ (k9 _)
theorem CW:h_ sM=⟨[],[]⟩:=rfl
theorem zd(b:Bytes):Im (bC b) (b.length-12):=by
 unfold bC;rcases pT b with h | h
 .have a:=CX (aN b).box;exact⟨a.keys,a.boxes,λd c=>by have:=a.len d c;omega,a.mL,a.valid⟩
 .rw[h,CW];exact CV _
theorem DC(h:(aN b).err=0):12<=b.length:=by
 unfold aN at h
 grind
theorem p9{b':Bytes}(h:b'∈(bC b).boxes):b'.length+12<=b.length:=by
 rcases pT b with a | a
 .have:=(CX (aN b).box).len b' h;omega
 .unfold bC at h;rw[a,CW] at h;cases h
theorem io{y:Bytes}:∀ {l B:List Bytes},y∈eE B l↔y∈B\/y∈l
 | [],B=>by simp[eE]
 | b::l,B=>by
  have e:eE B (b::l)=eE (bif B.contains b then B else B++[b]) l:=rfl;rw[e,io (l:=l)]
  grind
theorem jy{y:Int}:∀ {l K:List Int},y∈eX K l↔y∈K\/y∈l
 | [],K=>by simp[eX]
 | k::l,K=>by
  have e:eX K (k::l)=eX (bif K.contains k then K else jH K k) l:=rfl;rw[e,jy (l:=l)];cases h:K.contains k with
  | true =>
   grind
  | false =>
   simp only[Qa7,ze,Zg]
   grind
theorem nS:∀ {l K:List Int},xA K=Zn->xA (eX K l)=Zn
 | [],K,h=>h
 | k::l,K,h=>by
  have e:eX K (k::l)=eX (bif K.contains k then K else jH K k) l:=rfl;rw[e];cases K.contains k with
  | true=>exact nS h
  | false=>exact nS (yu h)
theorem uS:∀ {l K:List Int},(eX K l).length<=K.length+l.length
 | [],K=>Zd _
 | k::l,K=>by
  have e:eX K (k::l)=eX (bif K.contains k then K else jH K k) l:=rfl;rw[e];have a:=uS (l:=l) (K:=bif K.contains k then K else jH K k);cases h:K.contains k with
  | true=>rw[h] at a;simp only[Qa6,List.length_cons] at a ⊢;omega
  | false =>
   rw[h] at a;have:=JD (k:=k) (l:=K) (by simpa using h)
   grind
theorem jJ:∀ {l B:List Bytes},∃ N,eE B l=B++N/\N.length<=l.length/\(∀ b∈N,b∈l/\b ∉ B)
 | [],B=>⟨[],by simp[eE],Zd _,by simp⟩
 | b::l,B=>by
  have e:eE B (b::l)=eE (bif B.contains b then B else B++[b]) l:=rfl;rw[e];cases h:B.contains b with
  | true =>
   obtain⟨N,d,c,a⟩:=jJ (l:=l) (B:=B)
   grind
  | false =>
   obtain⟨N,d,c,a⟩:=jJ (l:=l) (B:=B++[b])
   grind
variable {s:Kn}
theorem wb{x:Bv}:s.has x=Zn↔(∀ k∈x.keys,k∈s.keys)/\∀ b∈x.boxes,b∈s.boxes:=by
 simp[Kn.has]
def Sub(s t:Kn):Prop:=(∀ k∈s.keys,k∈t.keys)/\∀ b∈s.boxes,b∈t.boxes
theorem Sub.refl(s:Kn):Sub s s:=⟨λ_ h=>h,λ_ h=>h⟩
theorem Sub.trans{s t u:Kn}(b:Sub s t)(a:Sub t u):Sub s u:=⟨λk h=>a.1 k (b.1 k h),λk h=>a.2 k (b.2 k h)⟩
theorem Sub.has{s t:Kn}(h:Sub s t){x:Bv}(b:s.has x=Zn):t.has x=Zn :=
 wb.2 ⟨λk a=>h.1 k ((wb.1 b).1 k a),λk a=>h.2 k ((wb.1 b).2 k a)⟩
theorem Sub.done{s t:Kn}(h:Sub s t){b:Bytes}(a:s.done b=Zn):t.done b=Zn:=by
 unfold Kn.done at a ⊢;rw[Bool.or_eq_true] at a ⊢;rcases a with a | a
 .exact .inl a
 .exact .inr (h.has a)
theorem HX(s:Kn)(x:Bv):Sub s (s.add x):=⟨λk h=>jy.2 (.inl h),λb h=>io.2 (.inl h)⟩
theorem Nv(s:Kn)(x:Bv):(s.add x).has x=Zn:=wb.2 ⟨λk h=>jy.2 (.inr h),λb h=>io.2 (.inr h)⟩
theorem wl:s.opens b=Zn↔(aN b).err=0/\(aN b).box.key∈s.keys/\s.has (bC b)=Zx:=by
 simp[Kn.opens,and_assoc]
theorem K6{p q:Bytes->Bool}{b:Bytes}:∀ {l:List Bytes},(∀ x∈l,q x=Zn->p x=Zn)->b∈l->p b=Zn->q b=Zx->((l.filter q).map List.length).sum+b.length<=((l.filter p).map List.length).sum
 | [],_,h,_,_=>by cases h
 | a::l,i,g,k,j=>by
  have le:∀ {l:List Bytes},(∀ x∈l,q x=Zn->p x=Zn)->((l.filter q).map List.length).sum<=((l.filter p).map List.length).sum:=by
   intro l;induction l with
   | nil=>intro _;exact Zd _
   | cons c l ih =>
    intro hc;have:=ih λx e=>hc x (Zu _ e);cases d:q c with
    | true=>simp only[Zw,d,hc c (by simp) d,if_true,Zb,Zf];omega
    | false =>
     cases f:p c with
     | true=>simp only[Zw,d,f,if_true,Zq,if_false,Zb,Zf];omega
     | false=>simpa only[Zw,d,f,Zq,if_false] using this
  rcases Zg.1 g with rfl | g
  .have:=le (l:=l) λx e=>i x (Zu _ e);simp only[Zw,k,j,if_true,Zq,if_false,Zb,Zf];omega
  .have:=K6 (l:=l) (λx e=>i x (Zu _ e)) g k j;cases d:q a with
   | true=>simp only[Zw,d,i a (by simp) d,if_true,Zb,Zf];omega
   | false =>
    cases f:p a with
    | true=>simp only[Zw,d,f,if_true,Zq,if_false,Zb,Zf];omega
    | false=>simpa only[Zw,d,f,Zq,if_false] using this
theorem acI{p:Bytes->Bool}{m:Nat}:∀ {l:List Bytes},l.length<=1->(∀ x∈l,x.length<=m)->((l.filter p).map List.length).sum<=m
 | [],_,_=>Zz _
 | [a],_,h=>by
  grind
 | _::_::_,h,_=>by simp at h
theorem oY(h:b∈s.boxes)(f:s.opens b=Zn):dz (s.add (bC b))<dz s:=by
 obtain⟨d,r,j⟩:=wl.1 f;have hl:=DC d;have c:=zd b;obtain⟨N,e,i,k⟩:=jJ (l:=(bC b).boxes) (B:=s.boxes);have g:=uS (l:=(bC b).keys) (K:=s.keys);have hu:D_ (s.add (bC b))+b.length<=D_ s+(b.length-12):=by
  unfold D_;rw[show(s.add (bC b)).boxes=s.boxes++N from e,List.filter_append,List.map_append,List.sum_append];have t:=K6 (p:=λb => !s.done b) (q:=λx => !(s.add (bC b)).done x) (b:=b) (l:=s.boxes) (λx _ a=>by
   simp only[Bool.not_eq_true',Bool.not_eq_eq_eq_not,Bool.not_true] at a ⊢;cases hd:s.done x with
   | false=>rfl
   | true=>rw[(HX s (bC b)).done hd] at a;cases a) h (by simp[Kn.done,d,j]) (by simp[Kn.done,d,Nv])
  have a2:=acI (p:=λx => !(s.add (bC b)).done x) (m:=b.length-12) (l:=N) (Zp i c.boxes) λx a=>c.len x (k x a).1;omega
 have o:(s.add (bC b)).boxes.length<=s.boxes.length+1:=by
  rw[show(s.add (bC b)).boxes=s.boxes++N from e,Zv];have:=c.boxes;omega
 have n:(s.add (bC b)).keys.length<=s.keys.length+1:=Zp g (by have:=c.keys;omega);unfold dz;omega
theorem sI(h:s.next=some b):b∈s.boxes/\s.opens b=Zn:=⟨List.mem_of_find?_eq_some h,List.find?_some h⟩
theorem El:∀ {n:Nat} {s:Kn},dz s<=n->rH n s=close s:=by
 intro n;induction n using Nat.strongRecOn with
 | _ n ih =>
  intro s h;have key:∀ m,dz s<=m->m<=n->rH m s=rH (dz s) s:=by
   intro m g f;cases a:s.next with
   | none =>
    have:∀ q,rH q s=s:=λq=>by cases q with
     | zero=>rfl
     | succ q=>simp only[rH,a]
    rw[this,this]
   | some b =>
    obtain⟨e,d⟩:=sI a;have i:=oY e d;obtain⟨q,rfl⟩:∃ q,m=q+1:=⟨m-1,by omega⟩;obtain⟨r,c⟩:∃ r,dz s=r+1:=⟨dz s-1,by omega⟩;rw[c];simp only[rH,a]
    grind
  exact key n h (Zd _)
theorem xC(h:s.next=some b):close s=close (s.add (bC b)):=by
 obtain⟨d,c⟩:=sI h;have e:=oY d c;obtain⟨r,a⟩:∃ r,dz s=r+1:=⟨dz s-1,by omega⟩;unfold close;rw[a];simp only[rH,h];exact El (by omega)
theorem tt(h:s.next=none):close s=s:=by
 unfold close;cases dz s with
 | zero=>rfl
 | succ n=>simp only[rH,h]
theorem vZ{P:Kn->Prop}(f:∀ s b,P s->b∈s.boxes->s.opens b=Zn->P (s.add (bC b))):∀ s,P s->P (close s)/\(close s).next=none:=by
 have:∀ n s,dz s<=n->P s->P (close s)/\(close s).next=none:=by
  intro n;induction n with
  | zero =>
   intro s hm c;cases a:s.next with
   | none=>rw[tt a];exact⟨c,a⟩
   | some b =>
    obtain⟨e,d⟩:=sI a;have:=oY e d;omega
  | succ n ih =>
   intro s hm c;cases a:s.next with
   | none=>rw[tt a];exact⟨c,a⟩
   | some b =>
    obtain⟨e,d⟩:=sI a;have:=oY e d;rw[xC a]
    grind
 exact λs=>this _ s (Zd _)
end Kerb
/- Chapter 27: what is asked of knowledge that is handed over. -/
namespace Kerb
open Go Go.Abs
variable {ks:List AV}{s:Kn}{b:Bytes}{a:Bytes}{k:Int}
def kn(ks bs:List AV):Kn:=⟨cu ks,fO bs⟩
def rL(bs:List AV):Bool:=ua bs&&bs.all (λa=>decide ((H_ a).length<=70368744177664))&&decide (bs.length<=100000000)
def Au(ks:List AV):Bool:=cM ks&&(cu ks).all (λk=>decide (0<=k)&&decide (k<18446744073709551616))&&decide (ks.length<=100000000)
def cK(ks bs:List AV):Bool:=cM ks&&rL bs&&xA (cu ks)&&decide (dz (kn ks bs)<=1000000)&&(fO bs).all λb=>decide (b.length<=70368744170000)
structure eJ (s:Kn):Prop where
 xA:xA s.keys=Zn
 len:∀ b∈s.boxes,b.length<=70368744170000
 dz:dz s<=1000000
theorem gS(s:Kn):kn (toK s.keys) (toB s.boxes)=s:=by unfold kn;rw[jE,lK]
theorem zq{l:List Bytes}:rL (toB l)=Zn↔(∀ b∈l,b.length<=70368744177664)/\l.length<=100000000:=by
 unfold rL;rw[zW,c6];simp[toB,H_]
 grind
theorem Hx{bs:List AV}(h:rL bs=Zn):∃ l,bs=toB l/\(∀ b∈l,b.length<=70368744177664)/\l.length<=100000000:=by
 have a:=h;unfold rL at h;simp only[Zy] at h;obtain⟨l,rfl⟩:=Tk h.1.1;exact⟨l,rfl,zq.1 a⟩
theorem N2{l:List Int}:Au (toK l)=Zn↔(∀ k∈l,0<=k/\k<18446744073709551616)/\l.length<=100000000:=by
 unfold Au;rw[pY,dp,jE];simp
theorem WT(h:Au ks=Zn):∃ l,ks=toK l/\(∀ k∈l,0<=k/\k<18446744073709551616)/\l.length<=100000000:=by
 have a:=h;unfold Au at h;simp only[Zy] at h;obtain⟨l,rfl⟩:=xW h.1.1;exact⟨l,rfl,N2.1 a⟩
theorem zl:cK (toK s.keys) (toB s.boxes)=Zn↔eJ s:=by
 unfold cK;rw[gS,pY,jE,lK];simp only[Zy,Qa2,zq,Qa9,Zj];constructor
 .rintro⟨⟨⟨⟨d,c⟩,a⟩,g⟩,f⟩;exact⟨a,f,g⟩
 .rintro⟨d,c,a⟩;refine⟨⟨⟨⟨λb e=>Zp (c b e) (by decide),?_⟩,d⟩,a⟩,c⟩;have:s.boxes.length<=dz s:=by unfold dz;omega
  omega
theorem xg{bs:List AV}(h:cK ks bs=Zn):∃ s:Kn,ks=toK s.keys/\bs=toB s.boxes/\eJ s:=by
 have a:=h;unfold cK at h;simp only[Zy] at h;obtain⟨l,rfl⟩:=xW h.1.1.1.1;obtain⟨m,rfl,_⟩:=Hx h.1.1.1.2;exact⟨⟨l,m⟩,rfl,rfl,zl (s:=⟨l,m⟩).1 a⟩
theorem eJ.Bb(h:eJ s):s.keys.length<=1000000:=by have:=h.dz;unfold Kerb.dz at this;omega
theorem eJ.tg(h:eJ s):s.boxes.length<=1000000:=by have:=h.dz;unfold Kerb.dz at this;omega
theorem eJ.open(h:eJ s)(c:b∈s.boxes)(d:s.opens b=Zn):eJ (s.add (bC b)) :=
 ⟨nS h.xA,λx a=>by
  rcases io.1 a with a | a
  .exact h.len x a
  .have:=p9 a;have:=h.len b c;omega,Nat.le_of_lt (Nat.lt_of_lt_of_le (oY c d) h.dz)⟩
theorem eJ.close{s:Kn}(h:eJ s):eJ (Kerb.close s):=(vZ (P:=eJ) (λs b a d c=>a.open d c) s h).1
def FN(b:Bytes):Rd eM :=
 let a:=EE b (aR b [3]).1 Zx
 let t:=bV b 4 (aR b [3]).1 a.pos a.bad
 let l:=bV b 1 Zx t.pos t.bad
 let s:=gi b l.pos l.bad
 let i:=gi b s.pos s.bad
 ⟨⟨a.val,t.val,l.val,s.val,i.val⟩,i.pos,i.bad⟩
theorem DA{r:eM}(h:(dj r).err=0):(FN (dj r).val).val=r/\(FN (dj r).val).bad=Zx:=by
 have hd:=(zI h).1;obtain⟨l,k,j,⟨t0,t1⟩,⟨i,g⟩,⟨b,s1⟩,i0,i1⟩:=H' h;rw[j] at hd ⊢;obtain⟨z,a⟩:∃ z,aD r.time 4 r.ap.By++(aD r.bK 1 Zx++(r.service++0::(r.inst++0::[])))=z:=⟨_,rfl⟩;obtain⟨E,D,C,B,A,y,w,v,u,t,s,q,p⟩:=Iv z l;rw[<-a] at p;rw[a] at p hd ⊢;have f:=p.as a.symm;obtain⟨o,e⟩:=f.mX (li:=r.ap.By) t0 t1;obtain⟨n,d⟩:=e.mK i g;obtain⟨m,c⟩:=d.text b s1;obtain⟨x,F⟩:=c.text i0 i1;unfold FN EE bV gi cq;simp only[hd,w,v,u,t,s,q,o,n,m,x,BEq.rfl,Bool.not_true,Bool.or_false,Qa7,Qa8];rw[<-k]
theorem LO(b:Bytes):dU ru dj (λb=>(nA b (aR b [3]).1,Zx)) b=dU ru dj (λb=>((FN b).val,(FN b).bad)) b :=
 iG (P:=λ_=>True) (λr _ h=>by
  obtain⟨c,a⟩:=zI h;rw[c];exact Qb4 (λq=>(q,Zx)) a) (λr _ h=>Prod.ext (DA h).1 (DA h).2) (λ_=>trivial) (λ_=>trivial) b
theorem mU(b:Bytes):(aQ b).val.cw.length<=b.length:=by
 unfold aQ;split
 .exact Zz _
 split
 .exact Zz _
 .exact iu _ _ _
theorem JY(b:Bytes)(p m:Int)(li:Bool):(fz b p m li).val.length<=b.length:=by
 unfold fz;split
 .exact Zz _
 .exact iu _ _ _
theorem Ds(b:Bytes):(fW b).cw.length<=b.length:=by
 unfold fW;split
 .exact Zz _
 split
 .exact JY _ _ _ _
 .exact Zz _
theorem W2(b:Bytes):(Dn b).val.aB.length<=b.length/\(Dn b).val.box.length<=b.length:=by
 unfold Dn;dsimp only;cases ((fV b 1 2 Zx).val==2)
 .exact⟨Zz _,od _ _ _ _⟩
 .exact⟨od _ _ _ _,od _ _ _ _⟩
theorem jO(b:Bytes):(aG b).val.aB.length<=b.length/\(aG b).val.box.length<=b.length:=by
 unfold aG;split
 .exact⟨Zz _,Zz _⟩
 .exact ko (λa:df=>a.aB.length<=b.length/\a.box.length<=b.length) ⟨Zz _,Zz _⟩ (W2 b)
theorem ly(b:Bytes):(dc b).val.box.length<=b.length:=by
 unfold dc;split
 .exact Zz _
 .exact ko (λa:lu=>a.box.length<=b.length) (Zz _) (od _ _ _ _)
theorem oC(b:Bytes):(cT b).val.box.length<=b.length:=by
 unfold cT;split
 .exact Zz _
 .exact ko (λa:Bw=>a.box.length<=b.length) (Zz _) (iu _ _ _)
theorem OW:(0:Int)<=0/\(0:Int)<18446744073709551616:=by decide
theorem iw(b:Bytes):0<=(aW b).val.ah/\(aW b).val.ah<18446744073709551616:=by
 unfold aW;split
 .exact⟨Zk _,by decide⟩
 .exact ko (λa:dZ=>0<=a.ah/\a.ah<18446744073709551616) ⟨Zk _,by decide⟩ (dN _)
theorem k_(b:Bytes)(li:Bool):0<=(aX b li).val.ah/\(aX b li).val.ah<18446744073709551616:=by
 unfold aX;split
 .exact⟨Zk _,by decide⟩
 .exact dN _
theorem gx(b:Bytes):0<=(ck b).val.new/\(ck b).val.new<18446744073709551616 :=
 ko (λa:fU=>0<=a.new/\a.new<18446744073709551616) ⟨Zk _,by decide⟩ (by
  unfold kC Ka;dsimp only;cases lQ (eH b 4 0 Zx).val
  .exact tT _ _ _
  .exact OW)
theorem iH(b:Bytes):0<=(aV b).val.ah/\(aV b).val.ah<18446744073709551616 :=
 ko (λa:eW=>0<=a.ah/\a.ah<18446744073709551616) ⟨Zk _,by decide⟩ (by
  unfold iX EC;dsimp only;cases fh (eH b 4 0 Zx).val
  .exact OW
  .exact tT _ _ _)
theorem vf(b:Bytes):0<=(bz b).val.ah/\(bz b).val.ah<18446744073709551616 :=
 ko (λa:Bx=>0<=a.ah/\a.ah<18446744073709551616) ⟨Zk _,by decide⟩ (wa _ _ _)
theorem ud(b:Bytes):0<=(bA b).val.ah/\(bA b).val.ah<18446744073709551616 :=
 ko (λa:rW=>0<=a.ah/\a.ah<18446744073709551616) ⟨Zk _,by decide⟩ (wa _ _ _)
theorem vy(h:a.length<=70368744177664):rL [.bs a]=Zn:=(zq (l:=[a])).2 ⟨by simpa using h,by simp⟩
theorem S5(h:a.length<=70368744177664)(c:b.length<=70368744177664):rL [.bs a,.bs b]=Zn:=(zq (l:=[a,b])).2 ⟨by simp[h,c],by simp⟩
theorem Fi(h:0<=k/\k<18446744073709551616):Au [.int AT k]=Zn:=(N2 (l:=[k])).2 ⟨by simpa using h,by simp⟩
theorem rD(b:Bytes):(∀ x∈o7 b,x.length<=b.length+1012)/\(o7 b).length<=2:=by
 have h:=mU b;have g:=rf b;have f:=pC b;have e:=oB b;have d:=Ds b;have h6:=jO b;have c:=ly b;have a:=oC b;unfold o7
 grind
theorem HO(h:b.length<=70368744170000):rL (toB (o7 b))=Zn :=
 zq.2 ⟨λx a=>by have:=(rD b).1 x a;omega,by have:=(rD b).2;omega⟩
theorem lh(b:Bytes):(∀ x∈partsOf b,x.length<=b.length+1012)/\(partsOf b).length<=2 :=
 ⟨λx a=>(rD b).1 x (uZ a).1,Zp (List.length_filter_le _ _) (rD b).2⟩
theorem D'{t:Kn}(h:Sub s t)(l:List Bytes):((l.filter λb => !t.done b).map List.length).sum<=((l.filter λb => !s.done b).map List.length).sum:=by
 induction l with
 | nil=>exact Zd _
 | cons c l ih =>
  cases a:t.done c with
  | true =>
   grind
  | false =>
   have d:s.done c=Zx:=by
    cases d:s.done c with
    | false=>rfl
    | true=>rw[h.done d] at a;cases a
   grind
theorem OQ{p:Bytes->Bool}{m:Nat}:∀ {l:List Bytes},(∀ x∈l,x.length<=m)->((l.filter p).map List.length).sum<=l.length*m
 | [],_=>Zz _
 | a::l,h=>by
  have d:=OQ (p:=p) (l:=l) λx b=>h x (Zu _ b);have c:=h a (by simp);rw[List.length_cons,Nat.succ_mul]
  grind
theorem Gp(s:Kn)(x:Bv){m:Nat}(h:∀ b∈x.boxes,b.length<=m):dz (s.add x)<=dz s+x.keys.length+x.boxes.length*(m+1):=by
 obtain⟨N,e,d,f⟩:=jJ (l:=x.boxes) (B:=s.boxes);have a:=uS (l:=x.keys) (K:=s.keys);have j:=D' (HX s x) s.boxes;have i:=OQ (p:=λb => !(s.add x).done b) (l:=N) (m:=m) λb c=>h b (f b c).1;have g:N.length*m<=x.boxes.length*m:=Nat.mul_le_mul_right _ d;unfold dz D_;rw[show(s.add x).boxes=s.boxes++N from e,List.filter_append,List.map_append,List.sum_append,Zv];rw[Nat.mul_add,Nat.mul_one];have:(s.add x).keys.length<=s.keys.length+x.keys.length:=a;omega
theorem eJ.add{s:Kn}(h:eJ s){x:Bv}{m:Nat}(c:∀ b∈x.boxes,b.length<=m)(e:Kerb.dz s+x.keys.length+x.boxes.length*(m+1)<=1000000)(d:m<=70368744170000):eJ (s.add x) :=
 ⟨nS h.xA,λb a=>by
  rcases io.1 a with a | a
  .exact h.len b a
  .exact Zp (c b a) d,Zp (Gp s x c) e⟩
theorem eJ.parts(h:eJ s)(c:Kerb.dz s+2*b.length+2100<=1000000):eJ (s.add ⟨[],partsOf b⟩):=by
 have a:=lh b;refine h.add (m:=b.length+1012) a.1 ?_ (by omega);have:(partsOf b).length*(b.length+1012+1)<=2*(b.length+1012+1):=Nat.mul_le_mul_right _ a.2
 grind
theorem eJ.Mh(h:eJ s)(a:Kerb.dz s+1<=1000000):eJ (s.add ⟨dK [k],[]⟩):=by
 have:=o_ k;exact h.add (m:=0) (by simp) (by simp only[List.length_nil];omega) (by omega)
end Kerb
