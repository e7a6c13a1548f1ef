/- Chapter 27: the statements' messages. -/
import Derived.Test.YtledffmjoegdeaaGreatAbsTot
set_option linter.all false
open Go.IntKind renaming i64->AI,u64->AT
open List renaming getD_eq_getElem?_getD->Zz,length_append->Zx,eq_nil_of_length_eq_zero->Zw,getElem?_eq_getElem->Zv
open Bool renaming false->Zy,true->Zu
open Decidable renaming decide->Zq
namespace Kerb
open Go Go.Abs
structure X3 where
 kd:UInt8
 bx:UInt8
 se:UInt8
 inn:UInt8
 de:UInt8
 li:Bool
 hw:Int
theorem A5(r:Bx):(eB r).val.length<=400:=by
 by_cases h:(eB r).err=0
 .obtain⟨h1,h2,_,_,_,_,z,hz,hl⟩:=A4 h;have l1:=fZ h1;have l2:=fZ h2;rw[hz];simp[aP,bu];omega
 .unfold eB at h ⊢
  grind
theorem yL(r:rW):(dB r).val.length<=600:=by
 by_cases h:(dB r).err=0
 .obtain⟨_,h2,_,_,_,z,hz,hl⟩:=yK h;have l2:=fZ h2;rw[hz];simp[aP,bu];omega
 .unfold dB at h ⊢
  grind
theorem A3(r:Bw):(dL r).val.length<=2000:=by
 by_cases h:(dL r).err=0
 .obtain⟨_,h2,h3,hz⟩:=A2 h;have l2:=fZ h2;have hh:(header 10 Zy).length=2:=rfl;rw[hz];simp only[Zx,List.length_cons,List.length_nil,aP,hh];omega
 .unfold dL at h ⊢
  grind
end Kerb
namespace Kerb
open Go Go.Abs
end Kerb
/- Chapter 27: sequences of messages and leaked keys. -/
namespace Kerb
open Go Go.Abs
end Kerb
/- Chapter 27: the statements about sequences of messages, in plain words. -/
namespace Kerb
open Go Go.Abs
variable {s:Kn}{n:Nat}
theorem EZ(s:Kn):dz (close s)<=dz s :=
 (vZ (P:=λt=>dz t<=dz s) (λt b h gb go=>Nat.le_trans (Nat.le_of_lt (oY gb go)) h) s (Nat.le_refl _)).1
theorem Fk(s:Kn)(b:Bytes):dz (learn s b)<=dz s+2*b.length+2026:=by
 have h1:=EZ (s.add ⟨[],partsOf b⟩);have hp:=lh b;have h2:=Gp s ⟨[],partsOf b⟩ (m:=b.length+1012) hp.1;have h3:(partsOf b).length*(b.length+1012+1)<=2*(b.length+1012+1):=Nat.mul_le_mul_right _ hp.2;unfold learn
 grind
theorem S2(s:Kn)(k:Int):dz (leak s k)<=dz s+1:=by
 have h1:=EZ (s.add ⟨dK [k],[]⟩);have hp:=o_ k;have h2:=Gp s ⟨dK [k],[]⟩ (m:=0) (by simp);unfold leak
 grind
structure Fit (s:Kn) (n:Nat):Prop where
 xH:eJ s
 dz:dz s<=n
theorem Fit.learn{s:Kn}{n:Nat}(h:Fit s n){b:Bytes}(hb:b.length<=6001)(hn:n<=900000):Fit (learn s b) (n+14028):=by
 have h1:=Fk s b;have h2:=h.dz;exact⟨(h.xH.parts (by omega)).close,by omega⟩
theorem Fit.leak{s:Kn}{n:Nat}(h:Fit s n){k:Int}(hn:n<=900000):Fit (leak s k) (n+1):=by
 have h1:=S2 s k;have h2:=h.dz;exact⟨(h.xH.Mh (by omega)).close,by omega⟩
theorem turned{p:Nat->Prop}{N:Nat}(n:Nat):(∃ i,i<N/\p ((i+n) % N))↔∃ i,i<N/\p i:=by
 constructor
 .rintro⟨i,hi,hp⟩;exact⟨(i+n) % N,Nat.mod_lt _ (by omega),hp⟩
 .rintro⟨i,hi,hp⟩;refine⟨(i+(N-n % N)) % N,Nat.mod_lt _ (by omega),?_⟩;have fR:n % N<N:=Nat.mod_lt _ (by omega);have:((i+(N-n % N)) % N+n) % N=i:=by
   rw[Nat.add_mod,Nat.mod_mod,<-Nat.add_mod];have e:i+(N-n % N)+n=i+N*(n / N+1):=by
    have:=Nat.div_add_mod n N
    grind
   rw[e,Nat.add_mul_mod_self_left,Nat.mod_eq_of_lt hi]
  rw[this];exact hp
def X3.av(t:X3):AV := .agg [.u8 t.kd,.u8 t.bx,.u8 t.se,.u8 t.inn,.u8 t.de,.bool t.li,.int .u16 t.hw]
theorem Fit.kn(h:Fit s n):cK (toK s.keys) (toB s.boxes)=Zu:=zl.2 h.xH
theorem Fit.pre(h:Fit s n)(hn:n<=900000){b:Bytes}(hb:b.length<=6001):Zq (Kerb.dz s+2*b.length+2100<=1000000)=Zu:=by
 exact Qa4 (by have:=h.dz;omega)
theorem Fit.acb(h:Fit s n)(hn:n<=900000):Zq (Kerb.dz s+1<=1000000)=Zu:=by
 exact Qa4 (by have:=h.dz;omega)
theorem Fit.kl(h:Fit s n)(hn:n<=900000):s.keys.length<=900000:=by have:=h.dz;unfold Kerb.dz at this;omega
theorem Fit.bl(h:Fit s n)(hn:n<=900000):s.boxes.length<=900000:=by have:=h.dz;unfold Kerb.dz at this;omega
end Kerb
namespace Kerb
end Kerb
namespace Kerb
open Go Go.Abs
theorem Fit.lb{s:Kn}{n:Nat}(h:Fit s n)(hn:n<=900000):Zq ((toB s.boxes).length<=1000000000)=Zu:=by rw[c6];exact Qa4 (by have:=h.bl hn;omega)
end Kerb
/- Chapter 27: texts by their shape; a pattern that no spoilt text of a shape holds. -/
namespace Kerb
open Go Go.Abs
inductive Sy where
 | any
 | one (b:UInt8)
 | of (l:List UInt8)
def Sy.has:Sy->UInt8->Bool
 | .any,_=>Zu
 | .one b,c=>c==b
 | .of l,c=>l.contains c
def shM:List Sy->Bytes->Bool
 | [],[]=>Zu
 | s::ss,c::cs=>s.has c&&shM ss cs
 | _,_=>Zy
def QZ(l1 l2:List (List Sy)):List (List Sy):=l1.flatMap λa=>l2.map (a ++ ·)
def Bn(n:Nat):List Sy:=List.replicate n (.one 0)
def HA(s:List Sy):List Sy:=s++Bn ((8-s.length % 8) % 8)
def fxB(j:Nat)(c:UInt8):UInt8:=UInt8.ofNat (Int.toNat (IntKind.wrap .u8 ((BitVec.ofInt (IntKind.bits .u8) (c.toNat:Int) ^^^ BitVec.ofInt (IntKind.bits .u8) ((UInt8.ofNat (Int.toNat (IntKind.wrap .u8 (((1:UInt8).toNat:Int)*(2:Int) ^ min j 8)))).toNat:Int)).toNat:Int)))
inductive Fl:Bytes->Bytes->Prop
 | here {c:UInt8} {y:Bytes} {j:Nat}:j<7->Fl (c::y) (fxB j c::y)
 | there {c:UInt8} {b b':Bytes}:Fl b b'->Fl (c::b) (c::b')
inductive De:Bytes->Bytes->Prop
 | here {c:UInt8} {y:Bytes}:De (c::y) y
 | there {c:UInt8} {b b':Bytes}:De b b'->De (c::b) (c::b')
def Ed(b b':Bytes):Prop:=b'=b\/(∃ c:UInt8,c.toNat % 4=2/\b'=b++[c])\/Fl b b'\/De b b'
theorem Fl.pre{b b':Bytes}(h:Fl b b'):∀ a:Bytes,Fl (a++b) (a++b')
 | []=>h
 | c::a => .there (Fl.pre h a)
theorem De.pre{b b':Bytes}(h:De b b'):∀ a:Bytes,De (a++b) (a++b')
 | []=>h
 | c::a => .there (De.pre h a)
theorem Ed.pre{b b':Bytes}(h:Ed b b')(a:Bytes):Ed (a++b) (a++b'):=by
 rcases h with rfl | ⟨c,hc,rfl⟩ | h | h
 .exact .inl rfl
 .exact .inr (.inl ⟨c,hc,by simp⟩)
 .exact .inr (.inr (.inl (h.pre a)))
 .exact .inr (.inr (.inr (h.pre a)))
inductive Pe where
 | any
 | pr
 | is (b:UInt8)
 | le (b:UInt8)
def Pe.ok:Pe->UInt8->Bool
 | .any,_=>Zu
 | .pr,c=>Zq (33<=c.toNat)&&Zq (c.toNat<=126)
 | .is b,c=>c==b
 | .le b,c=>Zq (1<=c.toNat)&&Zq (c.toNat<=b.toNat)
def aem:List Pe->Bytes->Bool
 | [],_=>Zu
 | p::ps,c::cs=>p.ok c&&aem ps cs
 | _::_,[]=>Zy
end Kerb
/- Chapter 27: the shapes of the statements' messages. -/
namespace Kerb
open Go Go.Abs
set_option maxRecDepth 100000
def sL(l:Bytes):List Sy:=l.map .one
def sK:List Sy := .of [1,2]::(Bn 6++[.of [1,2,3,4,5,6]])
def sU:List Sy:=[.of [97,98,99],.of [110,111,97],.of [110,98,116],.one 0,.one 0,.of [65,66,67],.of [84,79,65],.of [72,83,77],.one 0]
def sR:List Sy:=[.of [65,66,67],.of [84,79,65],.of [72,83,77],.one 0]
def sV:List (List Sy):=[sL [109,97,105,108,0,0]++sR,sL [110,102,115,0,104,111,109,101,0]++sR,sL [107,114,98,116,103,116,0,65,84,72,0]++sR]
def sB:List Sy:=[.of [0,1]]
def sQ(n:UInt8):List Sy:=[.of [0,n],.one 0,.one 0,.of [0,n]]
def sTk:List Sy:=HA (sB++(sU++(Bn 4++(sK++(Bn 1++(Bn 4++(sL [109,97,105,108,0]++[.one 0])))))))
def sLn:List Sy:=[.one 0,.any]
def sTb:List Sy:=sL [66,1]++(sK++(sLn++sTk))
def VY:List (List Sy):=[[],sL [66,1]++(sK++(sLn++[])),sTb]
def ZL:Sy := .of [0,12,52]
end Kerb
/- Chapter 27: the shapes of boxes and messages. -/
namespace Kerb
open Go Go.Abs
set_option maxRecDepth 100000
def a2:List (List Sy):=[HA (sB++(sU++(Bn 4++(Bn 1++Bn 4))))]
def a3:List (List Sy):=(QZ [sB++sK] (QZ sV (QZ [Bn 1++(Bn 1++[ZL])] (QZ VY [Bn 4])))).map HA
def a4:List (List Sy):=[HA (sB++(sQ 5++(Bn 1++Bn 4)))]
def a5:List (List Sy):=[HA (sB++(Bn 2++(Bn 1++(Bn 4++sQ 7))))]
def a7:List (List Sy):=[sL (aY ⟨zm,4,0,0,0⟩).val,HA (sL iO++(Bn 4++sK))]
def a8:List (List Sy):=sL (a_ ⟨oR,0,0,0,0,0,⟨[],[],[]⟩,[]⟩).val::(QZ [sL Hi++(Bn 4++(sK++(Bn 4++(Bn 4++Bn 1))))] (QZ sV (QZ [[ZL]] VY))).map HA
def a9:List (List Sy):=(QZ [sU] (QZ sV [sK++(Bn 4++(Bn 4++Bn 4))])).map HA
def U_:List (List Sy):=(QZ [sK] (QZ sV (QZ [Bn 4++(Bn 4++[.one 0,ZL])] VY))).map HA
theorem Fl.len{b b':Bytes}(h:Fl b b'):b'.length=b.length:=by
 induction h with
 | here _=>rfl
 | there _ ih=>simp[ih]
theorem De.len{b b':Bytes}(h:De b b'):b'.length<=b.length:=by
 induction h with
 | here=>simp
 | there _ ih=>simpa using ih
theorem Ed.len{b b':Bytes}(h:Ed b b'):b'.length<=b.length+1:=by
 rcases h with rfl | ⟨c,_,rfl⟩ | h | h
 .omega
 .simp
 .rw[h.len];omega
 .have:=h.len;omega
def hd(k:UInt8):List Sy:=[.one 4,.of [2*k,2*k+1]]
theorem QU(li:Bool):shM (hd 2) (header 2 li)=Zu:=by cases li<;>rfl
def s2(n:UInt8):List Sy:=[.of [0,n],.of [0,n]]
end Kerb
/- Chapter 27: no message of the statements holds the secret key or the key that seals it where it could be read. -/
namespace Kerb
open Go Go.Abs
set_option maxRecDepth 100000
theorem Fl.drop{b b':Bytes}(h:Fl b b'):∀ n,Fl (b.drop n) (b'.drop n)\/b.drop n=b'.drop n:=by
 induction h with
 | here hj =>
  intro n;cases n with
  | zero=>exact .inl (Fl.here hj)
  | succ n=>exact .inr rfl
 | there h ih =>
  intro n;cases n with
  | zero=>exact .inl (Fl.there h)
  | succ n=>exact ih n
theorem De.drop{b b':Bytes}(h:De b b'):∀ n,De (b.drop n) (b'.drop n)\/b.drop (n+1)=b'.drop n:=by
 induction h with
 | here=>intro n;exact .inr rfl
 | there h ih =>
  intro n;cases n with
  | zero=>exact .inl (De.there h)
  | succ n=>exact ih n
def h6:List Pe:=[.is 66,.le 10,.le 2,.is 0,.is 0,.is 0]
def kp(k:Int):List Pe:=(keyBytes k).map .is
def afD(k:Int):List (List Pe):=[kp k++[.pr],kp k++[.any,.any,.any,.any,.any,.pr],.pr :: .any :: .any :: .any :: .any::kp k,.pr :: .is 0::kp k]
end Kerb
/- Chapter 27: what can be read of a message stands in it. -/
namespace Kerb
open Go Go.Abs
def inf(c b:Bytes):Prop:=∃ x y,b=x++(c++y)
def seen(k:Int)(b:Bytes):Prop:=∃ u w p,b=u++w/\p∈afD k/\aem p w=Zu
end Kerb
/- Chapter 27: the secret stays, until the key is known that seals it. -/
namespace Kerb
open Go Go.Abs
set_option maxRecDepth 100000
end Kerb
/- Chapter 19: the plain laws. -/
namespace Kerb
open Go Go.Abs
structure aho (d:Db) (da:List lL) (s:Server) (now ad:Int) (li:Bool) (se:Int) (msg:Bytes) (O:Q9) (r:eM) (t:dZ) (a:qg) (L:Int):Prop where
 akH:within now 4294967295=Zu
 EL:bH msg=⟨r,0⟩
 taken:X2 (QL d da s r) r.ap ad now t a
 aA:t.BY.aA=r.ap.aA
 home:¬ (r.service=qC/\t.BY.aA≠d.aA)
 bK:XP now r.bK (zT d da r.service r.inst now).bK (zT d da r.service r.inst now).b_ t.cf t.bK=(L,Zu)
 aaB:hY se=2
 gr:(ri d.aA t.BY ⟨r.service,r.inst,d.aA⟩ t.address li now L se t.ah (zT d da r.service r.inst now).key (zT d da r.service r.inst now).bj).err=0
 sl:(om ⟨li,t.BY,r.time,0,0,[]⟩ (ri d.aA t.BY ⟨r.service,r.inst,d.aA⟩ t.address li now L se t.ah (zT d da r.service r.inst now).key (zT d da r.service r.inst now).bj).part t.ah).err=0
 is:O.out=⟨(om ⟨li,t.BY,r.time,0,0,[]⟩ (ri d.aA t.BY ⟨r.service,r.inst,d.aA⟩ t.address li now L se t.ah (zT d da r.service r.inst now).key (zT d da r.service r.inst now).bj).part t.ah).val,
  { (ri d.aA t.BY ⟨r.service,r.inst,d.aA⟩ t.address li now L se t.ah (zT d da r.service r.inst now).key (zT d da r.service r.inst now).bj).hJ with kind:=2,pI:=t.ah },Zu⟩
 s_:O.s={ s with replay:=(mP s.replay (vA a) now s.fI).val }
structure ahm (d:Db) (z:z8) (se:Int) (O:Q9) (Y:jx) (body:Bytes) (P:fL) (T:dZ):Prop where
 YL:aQ O.out.answer=⟨Y,0⟩
 box:jV Y.cw 3 z.iE.IK=(body,Zu)
 part:aX body Y.By=⟨P,0⟩
 s1:P.ah=se
 s2:O.out.hJ.pI=z.iE.IK
 s3:O.out.hJ.nD=z.iE.IK
 s4:O.out.hJ.ah=se
 stop:O.out.hJ.stop<=1000+ou z.iE.cf*8+300*(ou z.iE.bK / 4+1)
 BY:O.out.hJ.BY=z.iE.who
 yc:Y.BY=z.iE.who
 service:O.out.hJ.service=P.service
 home:P.service.name=qC->z.iE.who.aA=d.aA
 r1:(aN P.aB).err=0
 tk:aW (aN P.aB).box.body=⟨T,0⟩
 t1:T.address=ou z.iE.address % 3
 t2:T.BY=z.iE.who
 t3:T.ah=se
 t4:T.cf+300*(T.bK+1)=O.out.hJ.stop
 t5:(0<=T.cf/\T.cf<=4294967295)/\0<=T.bK/\T.bK<=255
 lens:Y.cw.length<=140737488355328/\body.length<=140737488355328/\P.aB.length<=140737488355328/\(aN P.aB).box.body.length<=140737488355328
end Kerb
/- Chapter 24: lengths and bounds. -/
namespace Kerb
open Go Go.Abs
def eW.ok(a:eW):Prop:=a.service.valid=Zu\/a.service=bN
def eW.xH(a:eW):Prop:=(0<=a.time/\a.time<=4294967295)/\(0<=a.start/\a.start<=4294967295)/\(0<=a.stop/\a.stop<=4294967295)/\a.aB.length<=255/\(0<=a.ah/\a.ah<18446744073709551616) /\
 (a.service.name.length<=39/\a.service.inst.length<=39/\a.service.aA.length<=39)
end Kerb
/- Chapter 20: what a client sends is decoded as what it was made of. -/
namespace Kerb
open Go Go.Abs
theorem LS{l:List jj}{s:bQ}(h:(mY l s).2=Zu):(mY l s).1.service=s:=by
 unfold mY at h ⊢;split at h
 .rename_i fR;rw[Qa1 fR];dsimp only;have:=List.findIdx_getElem (p:=λd:jj=>d.service.tz s) (xs:=l) (w:=fR);simp only[Zz];unfold LG at fR ⊢;rw[Zv fR];exact bQ.pG.1 this
 .cases h
theorem WO{l:List jj}{s:bQ}{now:Int}(h:(oT l s now).err=0):(oT l s now).val.service=s:=by
 unfold oT at h ⊢;split at h
 .cases h
 rename_i h1;rw[Qa0 h1];split at h
 .cases h
 rename_i h2;rw[Qa0 h2];exact LS (by simpa using h1)
theorem EO{a:qg}{l:Bool}{k:Int}(hk:0<=k/\k<18446744073709551616)(h:(jC a l k).err=0):oX (jC a l k).val l k=⟨a,0⟩:=by
 unfold jC at h ⊢;by_cases he:(fb a l).err=0;case neg=>rw[Qa1 he] at h;exact absurd h he
 rw[Qa0 (by simpa using he)] at h ⊢;unfold oX;rw[Hz hk.1 hk.2 h,BB he,Qa0 (by simp),Qa0 (by simp)]
structure Made (c:Client) (s:bQ) (m:Bool) (sum now tick:Int) (O:aal) (R:cC):Prop where
 dec:c7 O.msg=⟨R,0⟩
 opens:oX R.eQ R.By O.O_.ah=⟨⟨c.me,sum,tick,now⟩,0⟩
 DJ:R.c5=m
 aA:R.aA=s.aA
 bj:R.bj=O.O_.bj
 IP:R.aB=O.O_.aB
 eQ:R.eQ=O.eQ
 service:O.O_.service=s
 len:O.msg.length<=140737488355328/\R.eQ.length<=140737488355328
theorem makes{c:Client}{s:bQ}{m:Bool}{sum now tick:Int}(hc:c.mL)(h:(BZ c s m sum now tick).err=0):∃ R,Made c s m sum now tick (BZ c s m sum now tick) R:=by
 obtain⟨O,hO⟩:∃ O,BZ c s m sum now tick=O:=⟨_,rfl⟩;rw[hO] at h ⊢;unfold BZ at hO;by_cases h1:c.err=0;case neg=>rw[Qa1 h1] at hO;rw[<-hO] at h;cases h
 rw[Qa0 (by simpa using h1)] at hO;by_cases h2:s.valid=Zu;case neg=>rw[Qa1 (by simpa using h2)] at hO;rw[<-hO] at h;cases h
 rw[Qa0 (by simp[h2])] at hO;by_cases h3:(within now 4294967295&&within tick 199&&within sum 4294967295)=Zu;case neg=>rw[Qa1 (by rw[Bool.not_eq_true] at h3;rw[h3];rfl)] at hO;rw[<-hO] at h;cases h
 rw[Qa0 (by rw[h3];simp)] at hO;dsimp only at hO;by_cases h4:(oT c.cache.qn s now).err=0;case neg=>rw[Qa1 h4] at hO;rw[<-hO] at h;exact absurd h h4
 rw[Qa0 (by simpa using h4)] at hO;obtain⟨x,hx⟩:∃ x,(oT c.cache.qn s now).val=x:=⟨_,rfl⟩;have hs:=WO h4;have p8:=WQ hc.2.2.1 s now;rw[hx] at hO hs p8;by_cases h5:(jC ⟨c.me,sum,tick,now⟩ c.By x.ah).err=0;case neg =>
  have:Rn c x m ⟨c.me,sum,tick,now⟩=⟨qF,(jC ⟨c.me,sum,tick,now⟩ c.By x.ah).err⟩:=by unfold Rn;rw[Qa1 h5]
  rw[this,Qa1 h5] at hO;rw[<-hO] at h;exact absurd h h5
 have ha:Rn c x m ⟨c.me,sum,tick,now⟩=⟨⟨c.By,m,x.bj,x.service.aA,x.aB,(jC ⟨c.me,sum,tick,now⟩ c.By x.ah).val⟩,0⟩:=by unfold Rn;rw[Qa0 (by simpa using h5)]
 rw[ha,Qa0 (by simp)] at hO;dsimp only at hO;obtain⟨R,hR⟩:∃ R,cC.mk c.By m x.bj x.service.aA x.aB (jC ⟨c.me,sum,tick,now⟩ c.By x.ah).val=R:=⟨_,rfl⟩;have kF:=HN ⟨c.me,sum,tick,now⟩ c.By x.ah;have Ji:=EO ⟨p8.2.2.2.1,p8.2.2.2.2.1⟩ h5;rw[hR] at hO;by_cases h6:(aZ R).err=0;case neg=>rw[Qa1 h6] at hO;rw[<-hO] at h;exact absurd h h6
 rw[Qa0 (by simpa using h6)] at hO;have ll:=Rp R;refine⟨R,?_⟩;rw[<-hO];constructor
 .exact Eo h6
 .rw[<-hR];exact Ji
 .rw[<-hR]
 .rw[<-hR,<-hs]
 .rw[<-hR]
 .rw[<-hR]
 .rw[<-hR]
 .exact hs
 .have e:R.eQ.length<=162:=by rw[<-hR];exact kF
  dsimp only;omega
end Kerb
/- Bounds of what is decoded. -/
namespace Kerb
theorem nW{α:Type}{no:α}{enc:α->rF}{rd:Bytes->α×Bool}{b:Bytes}(P:α->Prop)(h0:P no)(h1:P (rd b).1):P (dU no enc rd b).val:=by
 unfold dU;split
 .exact h0
 .exact h1
abbrev fD(p:bQ):Prop:=p.name.length<=40/\p.inst.length<=40/\p.aA.length<=40
theorem sc(b:Bytes):fD (aW b).val.BY/\(aW b).val.service.length<=40/\(aW b).val.inst.length<=40:=by
 unfold aW;split
 .simp[fD,iL,bN]
 .exact nW (λt:dZ=>fD t.BY/\t.service.length<=40/\t.inst.length<=40) (by simp[fD,iL,bN]) ⟨gK _ _,ez _ _,ez _ _⟩
theorem yC(b:Bytes):(c7 b).val.aA.length<=40:=by
 unfold c7;split
 .simp[qF]
 .exact nW (λt:cC=>t.aA.length<=40) (by simp[qF]) (ez _ _)
theorem zH(b:Bytes):(aN b).box.body.length<=1000:=by grind [cut,aN,sM]
theorem ue(b:Bytes):fD (bA b).val.service/\0<=(bA b).val.ah/\(bA b).val.ah<18446744073709551616:=by
 unfold bA;exact nW (λt:rW=>fD t.service/\0<=t.ah/\t.ah<18446744073709551616) (by simp[fD,zx,bN]) ⟨gK _ _,dN _⟩
theorem vg(b:Bytes):(fD (bz b).val.BY/\fD (bz b).val.service)/\0<=(bz b).val.ah/\(bz b).val.ah<18446744073709551616:=by
 unfold bz;exact nW (λt:Bx=>(fD t.BY/\fD t.service)/\0<=t.ah/\t.ah<18446744073709551616) (by simp[fD,Dh,bN]) ⟨⟨gK _ _,gK _ _⟩,dN _⟩
theorem ve(b:Bytes):fD (cT b).val.name:=by
 unfold cT;split
 .simp[fD,tQ,bN]
 .exact nW (λt:Bw=>fD t.name) (by simp[fD,tQ,bN]) (gK _ _)
theorem pn(b:Bytes):fD (aG b).val.user/\(aG b).val.aA.length<=40/\(aG b).val.service.length<=40/\(aG b).val.inst.length<=40:=by
 unfold aG;split
 .simp[fD,lD,bN]
 .refine nW (λt:df=>fD t.user/\t.aA.length<=40/\t.service.length<=40/\t.inst.length<=40) (by simp[fD,lD,bN]) ?_;simp only[iY,Dn];cases h:((fV b 1 2 Zy).val==2)
  .simp[fD,bN,qc]
  .simp[fD,bN,AD]
theorem wS(b:Bytes):(bH b).val.ap.aA.length<=40/\(bH b).val.service.length<=40/\(bH b).val.inst.length<=40:=by
 unfold bH;split
 .simp[ru,qF]
 .exact nW (λt:eM=>t.ap.aA.length<=40/\t.service.length<=40/\t.inst.length<=40) (by simp[ru,qF]) ⟨ez _ _,ez _ _,ez _ _⟩
end Kerb
/- What becomes known stays in bounds (for worlds). -/
namespace Kerb
open Go Go.Abs
variable {k:Int}{s:Kn}{b:Bytes}{l:List Bytes}{N:Nat}{ks:List AV}
theorem Ld(h:bf k=Zu):0<=k/\k<=18446744073709551615:=by
 simp only[bf,dX,dI,dd,dk,Bool.and_eq_true,Bool.or_eq_true,Qa2,Qb0] at h;omega
theorem Ew(x:F3):∀ k∈(h_ x).keys,bf k=Zu:=by
 intro k hk;have hv:∀ l:List Int,k∈dK l->bf k=Zu:=λl h=>(List.mem_filter.1 h).2;unfold h_ Aq at hk
 grind
def Rv(s:Kn):Prop:=(∀ k∈s.keys,0<=k/\k<=18446744073709551615)/\∀ b∈s.boxes,b.length<=1000000
theorem Ly{x:Bv}(h:Rv s)(h1:∀ k∈x.keys,0<=k/\k<=18446744073709551615)(h2:∀ b∈x.boxes,b.length<=1000000):Rv (s.add x) :=
 ⟨λk hk=>(jy.1 hk).elim (h.1 k) (h1 k),λb hb=>(io.1 hb).elim (h.2 b) (h2 b)⟩
theorem IC(h:Rv s):Rv (close s) :=
 (vZ (P:=Rv) (λ_ _ g gb _=>Ly g (λk hk=>Ld (Ew _ k hk)) (λ_ hb=>Nat.le_trans (Nat.le_trans (Nat.le_add_right _ 12) (p9 hb)) (g.2 _ gb))) s h).1
theorem Ck(h:Rv s)(hb:b.length<=2000):Rv (learn s b) :=
 IC (Ly h (λ_ hk=>nomatch hk) λx hx=>by have:=(lh b).1 x hx;omega)
theorem Gw(h:Rv s):Rv (leak s k) :=
 IC (Ly h (λy hy=>Ld (List.mem_filter.1 hy).2) λ_ hx=>nomatch hx)
theorem Rk{l:List Int}(h:∀ k∈l,0<=k/\k<=18446744073709551615):Al (.i AT 0 18446744073709551615) (toK l):=λx hx D hD=>by
 obtain⟨k,hk,rfl⟩:=List.mem_map.1 hx;exact hD k (h k hk).1 (h k hk).2
theorem aaq(h:∀ b∈l,b.length<=1000000):Al (.y 1000000) (toB l):=λx hx D hD=>by
 obtain⟨b,hb,rfl⟩:=List.mem_map.1 hx;exact hD b (h b hb)
theorem UY{l:List Int}(h:Al (.i AT 0 18446744073709551615) (toK l)):∀ k∈l,0<=k/\k<=18446744073709551615:=λk hk =>
 h (.int AT k) (List.mem_map.2 ⟨k,hk,rfl⟩) (λx=>∀ n,x = .int AT n->0<=n/\n<=18446744073709551615) (λn h1 h2 m e=>by injection e with _ e;subst e;exact⟨h1,h2⟩) k rfl
theorem ac5(h:Al (.y 1000000) (toB l)):∀ b∈l,b.length<=1000000:=λb hb =>
 h (.bs b) (List.mem_map.2 ⟨b,hb,rfl⟩) (λx=>∀ n,x = .bs n->n.length<=1000000) (λn h1 m e=>by injection e with e;subst e;exact h1) b rfl
def Wk(N:Nat)(ks bs:List AV):Prop:=cK ks bs=Zu/\dz (kn ks bs)<=N
theorem Gj(h:Fit s N)(hN:N<=1000000)(g:Rv s):Wk N (toK s.keys) (toB s.boxes)/\((toK s.keys).length<=1000000/\Al (.i AT 0 18446744073709551615) (toK s.keys))/\(toB s.boxes).length<=1000000/\Al (.y 1000000) (toB s.boxes) :=
 ⟨⟨zl.2 h.xH,by rw[gS];exact h.dz⟩,⟨by rw[dp];exact h.xH.Bb,Rk g.1⟩,by rw[c6];exact h.xH.tg,aaq g.2⟩
theorem Gi{bs:List AV}(h:Wk N ks bs)(h1:Al (.i AT 0 18446744073709551615) ks)(h2:Al (.y 1000000) bs):∃ s:Kn,ks=toK s.keys/\bs=toB s.boxes/\Fit s N/\Rv s:=by
 obtain⟨s,rfl,rfl,hf⟩:=xg h.1;refine⟨s,rfl,rfl,⟨hf,?_⟩,UY h1,ac5 h2⟩;have:=h.2
 rwa [gS] at this
theorem Ai{n:Nat}(h:Fit s n)(hb:b.length<=2000)(hn:n<=900000):Fit (learn s b) (n+6026):=by
 have h1:=Fk s b;have h2:=h.dz;exact⟨(h.xH.parts (by omega)).close,by omega⟩
theorem N4{bs:List AV}(h:ks.length=0)(k:bs.length=0):cK ks bs=Zu/\dz (kn ks bs)=0:=by
 cases ks with
 | cons _ _=>simp at h
 | nil=>cases bs with
  | cons _ _=>simp at k
  | nil=>exact⟨rfl,rfl⟩
end Kerb
namespace Kerb
open Go Go.Abs
theorem WD(k:Int):∀ l:List Int,(jH l k).length<=l.length+1:=by
 intro l;induction l with
 | nil=>simp[jH]
 | cons x l ih=>grind [jH]
theorem adG{ks:List AV}{k:Int}(h:Al (.i AT 0 18446744073709551615) ks)(h0:0<=k)(h1:k<=18446744073709551615)(hl:ks.length<=1000000) :
  (cM ks&&Zq (ks.length<=1000000000))=Zu/\(toK (jH (cu ks) k)).length<=ks.length+1/\Al (.i AT 0 18446744073709551615) (toK (jH (cu ks) k)):=by
 have ha:cM ks=Zu:=by
  unfold cM;rw[List.all_eq_true];intro x hx;exact h x hx (λx=>(match x with | .int AT _=>Zu | _=>Zy)=Zu) λn _ _=>rfl
 obtain⟨l,rfl⟩:=xW ha;rw[jE];refine⟨by rw[ha,Qa4 (by omega)];rfl,?_,Rk λy hy=> ?_⟩
 .rw[dp,dp];exact WD k l
 .rcases ze.1 hy with rfl | hy
  .exact⟨h0,h1⟩
  .exact UY h y hy
end Kerb
namespace Kerb
open Go Go.Abs
def Cz:AV->Nat
 | .agg (_ :: .int _ k::_)=>bif k==1||k==2||k==9 then 1 else 0
 | _=>0
def jk:List AV->Nat
 | []=>0
 | x::l=>Cz x+jk l
theorem GH:jk []=0:=rfl
theorem r_(x:AV)(l:List AV):jk (x::l)=Cz x+jk l:=rfl
theorem GG(l m:List AV):jk (l++m)=jk l+jk m:=by
 induction l with
 | nil=>rw[List.nil_append,GH];omega
 | cons x l ih=>rw[List.cons_append,r_,r_,ih];omega
theorem aaE{l:List AV}{n:Nat}(h:jk l<=n):jk l<=n:=h
theorem adS{l:List AV}(h:l.length=0):((jk l:Nat):Int)<=0:=by
 cases l with
 | nil=>exact Int.le_refl 0
 | cons _ _=>simp at h
section
variable (a:AV) (k:IntKind) (r:List AV)
theorem aed:Cz (.agg (a :: .int k 1::r))=1:=rfl
theorem aee:Cz (.agg (a :: .int k 2::r))=1:=rfl
theorem aef:Cz (.agg (a :: .int k 3::r))=0:=rfl
theorem aeg:Cz (.agg (a :: .int k 4::r))=0:=rfl
theorem aeh:Cz (.agg (a :: .int k 5::r))=0:=rfl
theorem aei:Cz (.agg (a :: .int k 6::r))=0:=rfl
theorem aej:Cz (.agg (a :: .int k 7::r))=0:=rfl
theorem aek:Cz (.agg (a :: .int k 8::r))=0:=rfl
theorem ael:Cz (.agg (a :: .int k 9::r))=1:=rfl
end
end Kerb
namespace Kerb
def ZI(b k:Int):Prop:=k=5 -> -9223372036854775808<=b/\b<=9223372036854775807
theorem ph{b k:Int}(h:ZI b k)(e:k=5) : -9223372036854775808<=b/\b<=9223372036854775807:=h e
theorem Tv{b k:Int}(h:k=5 -> -9223372036854775808<=b/\b<=9223372036854775807):ZI b k:=h
end Kerb
/- Bounds of what is decoded, field by field. -/
namespace Kerb
variable {b:Bytes}
theorem gB{p:Prop}(h:p:=by grind [Kerb.lg,Kerb.sc,Kerb.wS,Kerb.pC,Kerb.yC,Kerb.rf,Kerb.zH,Kerb.ue,Kerb.vg,Kerb.ve,Kerb.pn,Kerb.ez,Kerb.jW,Kerb.lW,Kerb.jb,Kerb.k9,Kerb.mU,Kerb.jO,Kerb.ly,Kerb.oC,Kerb.oB]):p:=h
theorem RN(b:Bytes)(li:Bool):fD (aX b li).val.service:=by
 unfold aX;split
 .simp[fD,qG,bN]
 .exact gK b _
theorem LJ(b:Bytes):fD (aQ b).val.BY:=by
 unfold aQ;split
 .simp[fD,wg,bN]
 .split
  .simp[fD,wg,bN]
  .exact gK b _
theorem bd1(b:Bytes):(aQ b).val.BY.name.length<=1000:=by have:=LJ b;unfold fD at this;omega
theorem bd2(b:Bytes):(aQ b).val.BY.inst.length<=1000:=by have:=LJ b;unfold fD at this;omega
theorem bd3(b:Bytes):(aQ b).val.BY.aA.length<=1000:=by have:=LJ b;unfold fD at this;omega
theorem bd4(h:b.length<=1000000):(aQ b).val.cw.length<=1000000:=gB
theorem bd5(b:Bytes)(li:Bool):(aX b li).val.service.name.length<=1000:=by have:=RN b li;unfold fD at this;omega
theorem bd6(b:Bytes)(li:Bool):(aX b li).val.service.inst.length<=1000:=by have:=RN b li;unfold fD at this;omega
theorem bd7(b:Bytes)(li:Bool):(aX b li).val.service.aA.length<=1000:=by have:=RN b li;unfold fD at this;omega
theorem bd8{li:Bool}(h:b.length<=1000000):(aX b li).val.aB.length<=1000000:=gB
theorem bd9(b:Bytes):(aW b).val.BY.name.length<=1000:=gB
theorem aiq(b:Bytes):(aW b).val.BY.inst.length<=1000:=gB
theorem air(b:Bytes):(aW b).val.BY.aA.length<=1000:=gB
theorem ais(b:Bytes):(aW b).val.service.length<=1000:=gB
theorem ait(b:Bytes):(aW b).val.inst.length<=1000:=gB
theorem aiu(b:Bytes):(c7 b).val.aA.length<=1000:=gB
theorem aiv(h:b.length<=1000000):(c7 b).val.aB.length<=1000000:=gB
theorem aiw(h:b.length<=1000000):(c7 b).val.eQ.length<=1000000:=gB
theorem aix(b:Bytes):(bH b).val.ap.aA.length<=1000:=gB
theorem aiy(b:Bytes):(bH b).val.service.length<=1000:=gB
theorem aiz(b:Bytes):(bH b).val.inst.length<=1000:=gB
theorem aiA(h:b.length<=1000000):(bH b).val.ap.aB.length<=1000000:=gB
theorem aiB(h:b.length<=1000000):(bH b).val.ap.eQ.length<=1000000:=gB
theorem aiC(b:Bytes):(aG b).val.user.name.length<=1000:=gB
theorem aiD(b:Bytes):(aG b).val.user.inst.length<=1000:=gB
theorem aiE(b:Bytes):(aG b).val.user.aA.length<=1000:=gB
theorem aiF(b:Bytes):(aG b).val.aA.length<=1000:=gB
theorem aiG(b:Bytes):(aG b).val.service.length<=1000:=gB
theorem aiH(b:Bytes):(aG b).val.inst.length<=1000:=gB
theorem aiI(h:b.length<=1000000):(aG b).val.aB.length<=1000000:=gB
theorem aiJ(h:b.length<=1000000):(aG b).val.box.length<=1000000:=gB
theorem aiK(h:b.length<=1000000):(dc b).val.box.length<=1000000:=gB
theorem aiL(h:b.length<=1000000):(aV b).val.aB.length<=1000000:=gB
theorem aiM(b:Bytes):(cT b).val.name.name.length<=1000:=gB
theorem aiN(b:Bytes):(cT b).val.name.inst.length<=1000:=gB
theorem aiO(b:Bytes):(cT b).val.name.aA.length<=1000:=gB
theorem aiP(h:b.length<=1000000):(cT b).val.box.length<=1000000:=gB
theorem aiQ(b:Bytes):(bA b).val.service.name.length<=1000:=gB
theorem aiR(b:Bytes):(bA b).val.service.inst.length<=1000:=gB
theorem aiS(b:Bytes):(bA b).val.service.aA.length<=1000:=gB
theorem aiT(h:b.length<=1000000):(bA b).val.record.length<=1000000:=gB
theorem aiU(b:Bytes):(bz b).val.BY.name.length<=1000:=gB
theorem aiV(b:Bytes):(bz b).val.BY.inst.length<=1000:=gB
theorem aiW(b:Bytes):(bz b).val.BY.aA.length<=1000:=gB
theorem aiX(b:Bytes):(bz b).val.service.name.length<=1000:=gB
theorem aiY(b:Bytes):(bz b).val.service.inst.length<=1000:=gB
theorem aiZ(b:Bytes):(bz b).val.service.aA.length<=1000:=gB
theorem ai0(h:b.length<=1000000):(gQ b).val.length<=1000000:=gB
end Kerb
/- Chapter 30: what an audit says, of events as lists of cells. -/
namespace Kerb
open Go Go.Abs
variable {l:List AV}{k:Int}{s:Kn}{t:Kn}{ms:List AV}{ks:List AV}{m:Int}{n:Int}{w0:List AV}{w1:List AV}
def cI(x:AV)(j:Nat):Int:=match x.cells.getD j .undef with
 | .int _ n=>n
 | _=>0
def cS(x:AV)(j:Nat):Bytes:=match x.cells.getD j .undef with
 | .str s=>s
 | .bs s=>s
 | _=>[]
def upG(p:AV->Bool)(l:List AV):Nat->Nat->Int
 | 0,_ => -1
 | m+1,k=>bif p (l.getD k .undef) then k else upG p l m (k+1)
def uJ(p:AV->Bool)(l:List AV)(n k:Nat):Int:=upG p l (n-k) k
def uL(p:AV->Bool)(l:List AV):Nat->Int
 | 0 => -1
 | k+1=>bif p (l.getD k .undef) then k else uL p l k
def Dv(x y:AV):Bool:=Zq (cI x 1=6)&&(Zq (cS x 2=cS y 38)&&Zq (cS x 3=cS y 39)&&Zq (cS x 4=cS y 40))&&Zq (cI x 26=cI y 41)&&zL (cS x 30) (cS y 48)&&Zq (cI x 34=cI y 43)&&Zq (cI x 36=cI y 44)&&Zq (cI x 35=cI y 45)
def Cq(x y:AV):Bool:=Zq (cI x 1=7)&&(Zq (cS x 2=cS y 38)&&Zq (cS x 3=cS y 39)&&Zq (cS x 4=cS y 40))&&(Zq (cS x 38=cS y 2)&&Zq (cS x 39=cS y 3)&&Zq (cS x 40=cS y 4))&&Zq (cI x 41=cI y 41)&&Zq (cI x 43=cI y 43)&&Zq (cI x 44=cI y 44)&&Zq (cI x 45=cI y 45)
def As(t:Bytes)(x:AV):Bool:=Zq (cI x 1=4)&&Zq (cS x 20=t)
def zg(k:Int)(x:AV):Bool:=Zq (cI x 1=4)&&Zq (cI x 17=k)
def wK(l:List AV)(i k:Int):Bool:=Zq (0<=i)&&Zq (i<l.length)&&Zq (cI (l.getD i.toNat .undef) 1=k)
def NH(k:Int)(P:AV->AV->Bool)(l:List AV)(i:Int):Int:=bif wK l i k then uJ (λx=>P x (l.getD i.toNat .undef)) l i.toNat 0 else -1
abbrev vF(l:List AV)(i:Int):Int:=NH 7 Dv l i
theorem ox{v:Int}(h0:0<=v)(h1:v<1000000):IntKind.wrap AI (v+1)=v+1:=wrap_i64 (by omega) (by omega)
def kN(l:List AV)(i:Int):Int:=bif cI (l.getD i.toNat .undef) 19==0 then -1 else uL (zg (cI (l.getD i.toNat .undef) 19)) l i.toNat
def lv(l:List AV):Nat->Int->List AV
 | 0,_=>[]
 | n+1,i=>bif Zq (0<=i) then lv l n (kN l i)++[.int AI i] else[]
def fQ(l:List AV)(i:Int):List AV:=lv l (i+1).toNat i
def oq(l:List AV)(i:Int):Int:=uL (As (cS (l.getD i.toNat .undef) 48)) l i.toNat
def gU(l:List AV)(i:Int):List AV:=bif wK l i 7 then fQ l (oq l i) else[]
def Bz(L:List AV)(k:Nat)(m:List AV):Prop:=m.length=L.length/\∀ j,j<L.length->m.getD j .undef=bif Zq (j<k)||decide (L.length-k<=j) then L.getD (L.length-1-j) .undef else L.getD j .undef
def iD(s:Kn)(x:AV)(xf:List AV):Kn :=
 bif (Zq (cI x 1=1)||decide (cI x 1=2))&&Zq (0<=cI x 6)&&Zq (cI x 6<xf.length) then learn s (cS (xf.getD (cI x 6).toNat .undef) 2)
 else bif Zq (cI x 1=9) then leak s (cI x 50) else s
def knN(l xf:List AV):Nat->Kn
 | 0=>⟨[],[]⟩
 | k+1=>iD (knN l xf k) (l.getD k .undef) xf
def iI:AV->Int
 | .int _ n=>n
 | _=>0
def JG(s:Kn)(l:List AV)(j:AV):Bool:=s.keys.contains (cI (l.getD (iI j).toNat .undef) 17)||s.keys.contains (cI (l.getD (iI j).toNat .undef) 18)
def jt(s:Kn)(l:List AV)(y:Int)(c:List AV):Nat->Bool
 | 0=>s.keys.contains y
 | k+1=>jt s l y c k||JG s l (c.getD k .undef)
def kM(s:Kn)(l:List AV)(y:Int)(c:List AV):Bool:=jt s l y c c.length
def XY(l xf:List AV)(i:Nat):AV := .agg [.int AI i,.int AI (vF l i),.sl 1 (gU l i),.bool (kM (knN l xf i) l (cI (l.getD i .undef) 41) (gU l i))]
def kZ(l xf:List AV):Nat->List AV
 | 0=>[]
 | k+1=>kZ l xf k++bif Zq (cI (l.getD k .undef) 1=7) then[XY l xf k] else[]
theorem Em{k:Nat}(h:k<l.length):jk (l.take (k+1))=jk (l.take k)+Cz (l.getD k .undef):=by
 rw[List.take_add_one,GG,Zz,Zv h];simp only[Option.toList,r_,GH,Option.getD_some];omega
theorem IW(l:List AV)(k:Nat):jk (l.take k)<=jk l:=by
 have:=GG (l.take k) (l.drop k)
 simp_all
theorem aaY(x:AV):Cz x<=1:=by
 unfold Cz
 grind
theorem VO:∀ (l:List AV) (k:Nat) (x:AV),jk (l.set k x)<=jk l+1:=by
 intro l;induction l with
 | nil=>intro k x;exact Nat.zero_le _
 | cons y l ih =>
  intro k x;cases k with
  | zero=>have:=aaY x;simp only[List.set_cons_zero,r_];omega
  | succ k=>have:=ih k x;simp only[List.set_cons_succ,r_];omega
theorem adI{x:AV}{w:List AV}(hw:w=toK t.keys)(h:iD s x ms=t):w=toK (iD s x ms).keys:=by rw[h];exact hw
theorem adH{x:AV}{w:List AV}(hw:w=toB t.boxes)(h:iD s x ms=t):w=toB (iD s x ms).boxes:=by rw[h];exact hw
theorem N5{bs:List AV}(h:cK ks bs=Zu):ks=toK (kn ks bs).keys/\bs=toB (kn ks bs).boxes:=by
 obtain⟨s,rfl,rfl,hf⟩:=xg h;rw[gS];exact⟨rfl,rfl⟩
theorem aao{bs:List AV}{x:AV}(h:cK ks bs=Zu)(h2:iD (kn ks bs) x ms=kn ks bs):ks=toK (iD (kn ks bs) x ms).keys:=by rw[h2];exact(N5 h).1
theorem aan{bs:List AV}{x:AV}(h:cK ks bs=Zu)(h2:iD (kn ks bs) x ms=kn ks bs):bs=toB (iD (kn ks bs) x ms).boxes:=by rw[h2];exact(N5 h).2
theorem Rj{x:AV}{b:Bytes}{y:AV}(e1:cI x 1=k)(e6:cI x 6=m)(h1:k=1\/k=2)(h2:0<=m)(h3:m<ms.length)(hy:ms.getD m.toNat .undef=y)(hb:cS y 2=b):iD s x ms=learn s b:=by
 subst e1 e6 hy hb;unfold iD
 grind
theorem Ri{x:AV}{y:Int}(e1:cI x 1=k)(e50:cI x 50=y)(h:k=9):iD s x ms=leak s y:=by
 subst e1 e50;unfold iD;rw[h];rfl
theorem Rh{x:AV}(e1:cI x 1=k)(e6:cI x 6=m)(h:¬ ((k=1\/k=2)/\0<=m/\m<ms.length))(h2:¬ k=9):iD s x ms=s:=by
 subst e1 e6;unfold iD
 grind
theorem aaX{a:AV}{k:IntKind}{r:List AV}(h:n=1\/n=2\/n=9):Cz (.agg (a :: .int k n::r))=1:=by rcases h with rfl | rfl | rfl<;>rfl
theorem afz{w:List AV}{v:Int}{x:AV}(h0:0<=v)(h1:v<1000000)(hx:l.getD v.toNat .undef=x)(hw:w=toK (iD (kn w0 w1) x ms).keys)(g0:w0=toK (knN l ms v.toNat).keys)(g1:w1=toB (knN l ms v.toNat).boxes):w=toK (knN l ms (IntKind.wrap AI (v+1)).toNat).keys:=by
 rw[ox h0 h1,show(v+1).toNat=v.toNat+1 by omega,hw,g0,g1,gS,<-hx];rfl
theorem afy{w:List AV}{v:Int}{x:AV}(h0:0<=v)(h1:v<1000000)(hx:l.getD v.toNat .undef=x)(hw:w=toB (iD (kn w0 w1) x ms).boxes)(g0:w0=toK (knN l ms v.toNat).keys)(g1:w1=toB (knN l ms v.toNat).boxes):w=toB (knN l ms (IntKind.wrap AI (v+1)).toNat).boxes:=by
 rw[ox h0 h1,show(v+1).toNat=v.toNat+1 by omega,hw,g0,g1,gS,<-hx];rfl
theorem abW{w:List AV}{v:Int}(hw:w=toK (knN l ms v.toNat).keys)(h0:0<=v)(h1:v<=l.length)(h2:v<=n\/v=0)(h3:n<=v\/l.length<=v):w=toK (knN l ms (min n.toNat l.length)).keys:=by
 grind
theorem abV{w:List AV}{v:Int}(hw:w=toB (knN l ms v.toNat).boxes)(h0:0<=v)(h1:v<=l.length)(h2:v<=n\/v=0)(h3:n<=v\/l.length<=v):w=toB (knN l ms (min n.toNat l.length)).boxes:=by
 grind
theorem abT:[]=toK (knN l ms (0:Int).toNat).keys:=rfl
theorem abS:[]=toB (knN l ms (0:Int).toNat).boxes:=rfl
theorem abU{n:Nat}:dz (kn [] [])<=n:=by rw[(N4 (ks:=[]) (bs:=[]) rfl rfl).2];exact Nat.zero_le _
theorem abX:cK [] []=Zu:=(N4 (ks:=[]) (bs:=[]) rfl rfl).1
theorem RI{es:List AV}{k:Nat}{x:AV}(h:l=[]++es):jk (l.set k x)<=jk es+1:=by rw[h];exact VO es k x
theorem XU(n:Int):(user n).name.length<=1000:=by
 unfold user
 grind
theorem XV(n:Int):(user n).aA.length<=1000:=by
 show(aA (n / 3)).length<=1000;rw[AO];omega
end Kerb
/- What is known in a world is what its events tell. -/
namespace Kerb
open Go Go.Abs
variable {s:Kn}{ms:List AV}{r:List AV}{es:List AV}{ks:List AV}{k:Nat}{OJ:List AV}{X5:List AV}{b:Bytes}{n:Int}{l:List AV}{j:Nat}
def mlt(es ms:List AV):Prop:=∀ x∈es,(cI x 1=1\/cI x 1=2)->cI x 6<ms.length
@[irreducible] def KnI (es ms ks bs:List AV):Prop:=ks=toK (knN es ms es.length).keys/\bs=toB (knN es ms es.length).boxes/\mlt es ms
theorem ae'{x:AV}(h:(cI x 1=1\/cI x 1=2)->cI x 6<ms.length):iD s x (ms++r)=iD s x ms:=by
 unfold iD;by_cases h1:cI x 1=1\/cI x 1=2
 .have h2:=h h1;by_cases h0:0<=cI x 6
  .have e:(ms++r).getD (cI x 6).toNat .undef=ms.getD (cI x 6).toNat .undef:=by
    rw[Zz,Zz,List.getElem?_append_left (by omega)]
   rw[e,Qa4 h2,Qa4 (show cI x 6<((ms++r).length:Int) by rw[Zx];omega)]
  .rw[Qa5 h0];simp
 .have a:Zq (cI x 1=1)=Zy:=Qa5 λq=>h1 (.inl q);have b:Zq (cI x 1=2)=Zy:=Qa5 λq=>h1 (.inr q);rw[a,b];simp
theorem aqu:∀ k:Nat,k<=es.length->knN (es++r) ms k=knN es ms k:=by
 intro k;induction k with
 | zero=>intro _;rfl
 | succ k ih =>
  intro h;have e:(es++r).getD k .undef=es.getD k .undef:=by
   rw[Zz,Zz,List.getElem?_append_left (by omega)]
  simp only[knN];rw[ih (by omega),e]
theorem ao2(h:mlt es ms):∀ k:Nat,k<=es.length->knN es (ms++r) k=knN es ms k:=by
 intro k;induction k with
 | zero=>intro _;rfl
 | succ k ih =>
  intro hk;simp only[knN];rw[ih (by omega),ae'];have:es.getD k .undef∈es:=by
   rw[Zz,Zv (by omega)];exact List.getElem_mem ..
  exact h _ this
theorem adg{x:AV}:knN (es++[x]) ms (es++[x]).length=iD (knN es ms es.length) x ms:=by
 rw[show(es++[x]).length=es.length+1 by simp];simp only[knN];rw[aqu _ (Nat.le_refl _)];congr 1;rw[Zz];simp
theorem aqv:KnI [] ms [] []:=by unfold KnI;exact⟨rfl,rfl,λx h=>by cases h⟩
theorem abY{bs:List AV}(h:KnI es ms ks bs):ks=toK (knN es ms es.length).keys/\bs=toB (knN es ms es.length).boxes/\mlt es ms:=by unfold KnI at h;exact h
theorem aeD{bs:List AV}(h:ks=toK (knN es ms es.length).keys/\bs=toB (knN es ms es.length).boxes/\mlt es ms):KnI es ms ks bs:=by unfold KnI;exact h
theorem ea{bs:List AV}(h:KnI es ms ks bs):KnI es ms ks bs:=h
theorem afM{bs:List AV}(h:es.length=0)(h1:ks.length=0)(h2:bs.length=0):KnI es ms ks bs:=by
 rw[Zw h,Zw h1,Zw h2];exact aqv
theorem aey{bs:List AV}(h:KnI es ms ks bs):KnI ([]++es) ms ks bs:=by rw[List.nil_append];exact h
theorem aeC{bs:List AV}(h:KnI es ms ks bs):KnI es ([]++ms) ks bs:=by rw[List.nil_append];exact h
theorem afN{x:AV}(h:mlt es ms)(k:(cI x 1=1\/cI x 1=2)->cI x 6<ms.length):mlt (es++[x]) ms:=λy hy=>by
 rcases List.mem_append.1 hy with hy | hy
 .exact h y hy
 .rw[List.mem_singleton] at hy;subst hy;exact k
theorem aqz(h:mlt es ms):mlt es (ms++r):=λx hx k=>by have:=h x hx k;rw[Zx];omega
theorem afo{bs:List AV}{x:AV}{k:Int}(e:cI x 1=k)(h1:(Zq (k=1)||decide (k=2)||decide (k=9))=Zy)(h:KnI es ms ks bs):KnI (es++[x]) ms ks bs:=by
 obtain⟨g1,g2,g3⟩:=abY h;simp only[Bool.or_eq_false_iff,decide_eq_false_iff_not] at h1;have a:iD (knN es ms es.length) x ms=knN es ms es.length:=by
  unfold iD;rw[e,Qa5 h1.1.1,Qa5 h1.1.2,Qa5 h1.2];simp
 exact aeD ⟨by rw[adg,a];exact g1,by rw[adg,a];exact g2,afN g3 λq=>by rw[e] at q;omega⟩
theorem afE{bs:List AV}{x y:AV}{k:Int}(e:cI x 1=k)(h1:k=1\/k=2)(e6:cI x 6=IntKind.wrap AI (((ms++[y]).length:Int)-1))(hm:ms.length<=1000000)(eb:cS y 2=b)(hk:OJ=toK (learn (kn ks bs) b).keys)(hb:X5=toB (learn (kn ks bs) b).boxes)(h:KnI es ms ks bs):KnI (es++[x]) (ms++[y]) OJ X5:=by
 obtain⟨g1,g2,g3⟩:=abY h;have e7:cI x 6=ms.length:=by rw[e6,Zx,wrap_i64 (by simp) (by simp;omega)];simp
 have a:iD (knN es (ms++[y]) es.length) x (ms++[y])=learn (kn ks bs) b:=by
  rw[ao2 g3 _ (Nat.le_refl _),g1,g2,gS];refine Rj e e7 h1 (by omega) (by rw[Zx];simp;omega) (y:=y) ?_ eb;rw[Zz];simp
 refine aeD ⟨by rw[adg,a];exact hk,by rw[adg,a];exact hb,afN (aqz g3) λ_=> ?_⟩;rw[e7,Zx];simp;omega
theorem afC{bs:List AV}{x:AV}{k:Int}(e:cI x 1=k)(h1:k=9)(e5:cI x 50=n)(hk:OJ=toK (leak (kn ks bs) n).keys)(hb:X5=toB (leak (kn ks bs) n).boxes)(h:KnI es ms ks bs):KnI (es++[x]) ms OJ X5:=by
 obtain⟨g1,g2,g3⟩:=abY h;have a:iD (knN es ms es.length) x ms=leak (kn ks bs) n:=by
  rw[g1,g2,gS];exact Ri e e5 h1
 exact aeD ⟨by rw[adg,a];exact hk,by rw[adg,a];exact hb,afN g3 λq=>by rw[e,h1] at q;omega⟩
theorem aeO{bs:List AV}(h:KnI es ms ks bs):ks=toK (knN es ms (min ((es.length:Int)).toNat es.length)).keys/\bs=toB (knN es ms (min ((es.length:Int)).toNat es.length)).boxes:=by
 rw[show min ((es.length:Int)).toNat es.length=es.length by simp];exact⟨(abY h).1,(abY h).2.1⟩
theorem afu{bs w:List AV}(hw:w=toK (knN es ms (min n.toNat es.length)).keys)(hn:n=es.length)(h:KnI es ms ks bs):w=ks:=by subst hn;rw[hw,<-(aeO h).1]
theorem afp{bs w:List AV}(hw:w=toB (knN es ms (min n.toNat es.length)).boxes)(hn:n=es.length)(h:KnI es ms ks bs):w=bs:=by subst hn;rw[hw,<-(aeO h).2]
theorem ah3{α:Type}{a b t:α}(h:a=t)(k:b=t):a=b:=h.trans k.symm
theorem afi:∀ {l:List AV},Al (.y 1000000) l->ua l=Zu:=by
 intro l h;unfold ua;rw[List.all_eq_true];intro x hx;exact h x hx (λx=>(match x with | .bs _=>Zu | _=>Zy)=Zu) λ_ _=>rfl
theorem adf(h:Rv s)(hb:b.length<=4100):Rv (learn s b) :=
 IC (Ly h (λ_ hk=>nomatch hk) λx hx=>by have:=(lh b).1 x hx;omega)
theorem abR{n:Nat}(h:Fit s n)(hb:b.length<=4100)(hn:n<=900000):Fit (learn s b) (n+10226):=by
 have h1:=Fk s b;have h2:=h.dz;exact⟨(h.xH.parts (by omega)).close,by omega⟩
theorem afn(h:jk l<=73):10226*jk (l.take k)<=900000:=by have:=IW l k;omega
theorem aks{s:Nat}{x:AV}{n:Nat}(h:n<=s+10226)(hx:Cz x=1):n<=s+10226*Cz x:=by rw[hx];omega
theorem ahZ{s:Nat}{x:AV}:s<=s+10226*Cz x:=by omega
theorem ao1{v:Int}{x:AV}{n m:Nat}(h0:0<=v)(h1:v<1000000)(h2:v<l.length)(hx:l.getD v.toNat .undef=x)(hn:n<=m+10226*Cz x)(hm:m<=10226*jk (l.take v.toNat)):n<=10226*jk (l.take (IntKind.wrap AI (v+1)).toNat):=by
 rw[ox h0 h1,show(v+1).toNat=v.toNat+1 by omega,Em (by omega),hx,Nat.mul_add];omega
theorem ah2{x y:AV}(h:l=[]++es):jk ((l.set k x).set j y)<=jk es+2:=by
 rw[List.nil_append] at h;subst h;have:=VO (l.set k x) j y;have:=VO l k x;omega
theorem ah1{x:AV}(h:l=[]++es):jk (l.set k x)<=jk es+2:=by have:=RI (k:=k) (x:=x) h;omega
theorem afl(h:l=[]++es):jk l<=jk es+2:=by rw[h];show jk es<=_;omega
theorem ah0(h:l=[]++es)(hj:k<=j):jk (l.take k++l.drop j)<=jk es+2:=by
 rw[List.nil_append] at h;subst h;have h1:=GG (l.take k) (l.drop k);have h2:=GG ((l.drop k).take (j-k)) ((l.drop k).drop (j-k));rw[List.take_append_drop] at h1 h2;rw[List.drop_drop,show k+(j-k)=j by omega] at h2;rw[GG];omega
theorem aap{r:Int}(h0:0<=r)(h1:r<1000000):jk (l.take r.toNat++l.drop (IntKind.wrap AI (r+1)).toNat)<=jk l+2:=by
 rw[ox h0 h1];exact ah0 (List.nil_append _).symm (by omega)
end Kerb
namespace Go.Abs
variable {m:Nat}{l:List AV}{a:Int}{k:IntKind}{n:Nat}{b:Bool}{α:Type}{e:Option α}{rs:List AV}{ms:List AV}{cm:List AV}{sa:Int}{Q:α->Prop}{P:Prop}{N:Prop}{f:List AV->Option α}
theorem rE(n:Int) : -9223372036854775808<=n->n<=9223372036854775807->IntKind.wrap AI n=n:=wrap_i64
theorem zY(n:Int) : -9223372036854775808<=IntKind.wrap AI n/\IntKind.wrap AI n<=9223372036854775807:=by
 rw[IntKind.wrap_i64];omega
theorem Lg(n:Int):0<=IntKind.wrap AT n/\IntKind.wrap AT n<=18446744073709551615:=by
 simp[IntKind.wrap,IntKind.bits,IntKind.signed];omega
theorem OS(a b:Int):0<b->0<=a->0<=a.tmod b/\a.tmod b<b:=λh k=>by rw[Int.tmod_eq_emod_of_nonneg k];exact⟨Int.emod_nonneg _ (by omega),Int.emod_lt_of_pos _ h⟩
theorem UX(a b:Int):(0<=a->0<=a.tmod b/\a.tmod b<=a)/\(a<=0->a.tmod b<=0/\a<=a.tmod b):=by
 have h0:=Int.natAbs_tmod a b;have h1:a.natAbs % b.natAbs<=a.natAbs:=Nat.mod_le _ _;refine⟨λh=>⟨Int.tmod_nonneg b h,by omega⟩,λh=> ?_⟩;have h2:=Int.tmod_nonneg b (show 0 <= -a by omega);rw[Int.neg_tmod] at h2;exact⟨by omega,by omega⟩
theorem agp(a b:Int):0<=a->0<b->0<=a.tdiv b/\a.tdiv b<=a:=λh k=>by rw[Int.tdiv_eq_ediv_of_nonneg h];exact⟨Int.ediv_nonneg h (by omega),Int.ediv_le_self _ h⟩
theorem Gs{s:List UInt8}(h:s.length<=m)(k:Al (.s m) l):Al (.s m) (.str s::l):=pw (λD g=>g s h) k
theorem ahk(b:UInt8):IntKind.wrap AI (b.toNat:Int)=b.toNat:=wrap_i64 (by omega) (by have:=b.toNat_lt;omega)
theorem Th(a b:Int):0<b->0<=a % b/\a % b<b:=λh=>⟨Int.emod_nonneg _ (by omega),Int.emod_lt_of_pos _ h⟩
theorem ahh(x n:Int)(h:0<n)(h2:n<=1000000000):IntKind.wrap AI (n-1-x % n)=n-1-x % n:=by
 have:=Th x n h;exact rE _ (by omega) (by omega)
theorem wm(x n:Int)(h:0<n):0<=n-1-x % n/\n-1-x % n<n:=by
 have:=Th x n h;omega
theorem mkB(c n:Int):0<=(bif Kerb.dX c&&Kerb.dd n then c*72057594037927936+n else 0)/\(bif Kerb.dX c&&Kerb.dd n then c*72057594037927936+n else 0)<=18446744073709551615:=by
 cases h:(Kerb.dX c&&Kerb.dd n)
 .simp
 .simp only[Qa6];rw[Bool.and_eq_true] at h;have h1:=h.1;have h2:=h.2
  simp only[Kerb.dX,Kerb.dd,Bool.and_eq_true,Bool.or_eq_true,Qa2,Qb0] at h1 h2;omega
theorem EY:∀ {l:List AV},Al (.i AT 0 18446744073709551615) l->Kerb.cM l=Zu:=by
 intro l;induction l with
 | nil=>intro _;rfl
 | cons x l ih =>
  intro h;refine h x (List.mem_cons_self ..) (λx=>Kerb.cM (x::l)=Zu) λn h1 h2=> ?_;have:=ih λy hy=>h y (List.mem_cons_of_mem _ hy);simp only[Kerb.cM,List.all_cons,Bool.true_and] at this ⊢;exact this
theorem WS(h:a<18446744073709551616):a<=18446744073709551615:=by omega
theorem OV(n:Int):0<=IntKind.wrap .u16 n/\IntKind.wrap .u16 n<=65535:=by
 simp[IntKind.wrap,IntKind.bits,IntKind.signed];omega
theorem alb(n:Nat)(h:n<256):(UInt8.ofNat n).toNat=n:=by simp;omega
theorem ac6(b:UInt8):((UInt8.ofNat (((b.toNat:Int)).tmod ((UInt8.ofNat (Int.toNat 2)).toNat:Int)).toNat).toNat:Int)<((2:Nat):Int):=by
 have h:(UInt8.ofNat (Int.toNat 2)).toNat=2:=by decide
 rw[h,show((2:Nat):Int)=2 from rfl];have h2:=OS (b.toNat:Int) 2 (by omega) (by omega);rw[alb _ (by omega)];omega
theorem Gr{n:Int}(h:Al (.j k) l):Al (.j k) (.int k n::l):=pw (λD h=>h n) h
theorem UJ(h:0<n)(k:0<=a):(a.tmod (n:Int)).toNat<n:=by have:=OS a n (by omega) k;omega
theorem ak9(x b:Int):(IntKind.wrap AI x).tmod b<=9223372036854775807:=by
 have h:=zY x;have:=UX (IntKind.wrap AI x) b;omega
theorem ak8(x b:Int) : -9223372036854775808<=(IntKind.wrap AI x).tmod b:=by
 have h:=zY x;have:=UX (IntKind.wrap AI x) b;omega
theorem QM(k:0<=a):(a.tmod 3).toNat<3:=by have:=OS a 3 (by omega) k;omega
theorem ahj(h:n<=1000000000):0<=IntKind.wrap AI n:=by rw[wrap_i64 (by omega) (by omega)];omega
theorem yk{b:UInt8}:0<=IntKind.wrap AI b.toNat:=ahj (by have:=b.toNat_lt;omega)
theorem TB(n b:Nat):n<=1000000000->b<=100000->room n b=Zu:=by
 intro h1 h2;have:n*b<=1000000000*100000:=Nat.mul_le_mul h1 h2;simp only[room,Bool.and_eq_true,Nat.ble_eq];omega
theorem TL{e:Sh}{C:AV->Prop}(h:e.all C):e.all C:=h
theorem bP{l:List Sh}{C:List AV->Prop}(h:Sh.Ch l C):Sh.Ch l C:=h
class Bt (b:Bool) (P N:outParam Prop):Prop where
 t:P->b=Zu
 p:b=Zu->P
 n:b=Zy->N
instance (priority:=low) (b:Bool):Bt b (b=Zu) (b=Zy):=⟨id,id,id⟩
instance {p:Prop} [Decidable p]:Bt (decide p) p (¬ p):=⟨Qa4,Qa3,Qb5⟩
instance {a b:Bool} {P N P' N':Prop} [h:Bt a P N] [k:Bt b P' N']:Bt (a&&b) (P/\P') (N\/N'):=⟨λq=>by rw[h.t q.1,k.t q.2];rfl,λq=>⟨h.p (by cases a<;>simp_all),k.p (by cases a<;>simp_all)⟩,λq=>by cases ha:a with | false=>exact .inl (h.n ha) | true=>subst ha;exact .inr (k.n q)⟩
instance {a b:Bool} {P N P' N':Prop} [h:Bt a P N] [k:Bt b P' N']:Bt (a||b) (P\/P') (N/\N'):=⟨λq=>by cases q with | inl q=>rw[h.t q];rfl | inr q=>rw[k.t q];exact Bool.or_true a,λq=>by cases ha:a with | true=>exact .inl (h.p ha) | false=>subst ha;exact .inr (k.p q),λq=>⟨h.n (by cases a<;>simp_all),k.n (by cases a<;>simp_all)⟩⟩
instance {a:Bool} {P N:Prop} [h:Bt a P N]:Bt (!a) (a=Zy) P:=⟨λq=>by rw[q];rfl,λq=>by cases a<;>simp_all,λq=>h.p (by cases a<;>simp_all)⟩
instance {a b:Int}:Bt (a==b) (a=b) (a≠b):=⟨λh=>by simpa using h,λh=>by simpa using h,λh=>by simpa using h⟩
instance {a b:Nat}:Bt (Nat.beq a b) (a=b) (a≠b):=⟨λh=>by simpa using h,Nat.eq_of_beq_eq_true,λh e=>by rw[e] at h;simp at h⟩
instance {a b:Nat}:Bt (Nat.ble a b) (a<=b) (b<a):=⟨λh=>by simpa using h,λh=>by simpa using h,λh=>by cases Nat.lt_or_ge b a with | inl q=>exact q | inr q=>rw[show Nat.ble a b=Zu by simpa using q] at h;cases h⟩
instance {a b:Nat}:Bt (Nat.blt a b) (a<b) (b<=a):=⟨λh=>by simpa using h,λh=>by simpa using h,λh=>by cases Nat.lt_or_ge a b with | inl q=>rw[show Nat.blt a b=Zu by simpa using q] at h;cases h | inr q=>exact q⟩
instance {n b:Nat}:Bt (room n b) (n<=1000000000/\b<=100000\/room n b=Zu) (room n b=Zy):=⟨λh=>h.elim (λq=>TB n b q.1 q.2) id,.inr,id⟩
instance {a b c:List UInt8}:Bt (Kerb.bQ.valid ⟨a,b,c⟩) (Kerb.bQ.valid ⟨a,b,c⟩=Zu/\a.length<=39/\b.length<=39/\c.length<=39) (Kerb.bQ.valid ⟨a,b,c⟩=Zy):=⟨And.left,λh=>⟨h,Kerb.fZ h⟩,id⟩
instance {s:List UInt8}:Bt (Kerb.validName s) (Kerb.validName s=Zu/\s.length<=39) (Kerb.validName s=Zy):=⟨And.left,λh=>⟨h,Kerb.jr h⟩,id⟩
instance {s:List UInt8}:Bt (Kerb.cO s) (Kerb.cO s=Zu/\s.length<=39) (Kerb.cO s=Zy):=⟨And.left,λh=>⟨h,Kerb.il h⟩,id⟩
theorem D0{e:Sh}(_:Al e l)(b:Int):b<l.length\/(l.length:Int)<=b:=by omega
def cN(x:AV)(j:Nat):Int:=match x.cells.getD j .undef with
 | .int _ n=>n
 | _=>0
def K'(rs ms:List AV)(sa:Int)(m:Nat):Prop:=cN (rs.getD m .undef) 10=cN (ms.getD sa.toNat .undef) 1
theorem Nh{e e':Sh}(_:Al e rs)(_:Al e' ms)(sa:Int)(m:Nat):K' rs ms sa m\/¬ K' rs ms sa m:=Classical.em _
theorem ac'{cs:List AV}(h:K' rs ms sa m)(hx:rs.getD n .undef = .agg cs)(hm:ms.getD sa.toNat .undef = .agg cm)(hn:n=m):cN (.agg cs) 10=cN (.agg cm) 1:=by
 subst hn;rw[<-hx,<-hm];exact h
theorem P5{cs:List AV}(h:¬ K' rs ms sa m)(hx:rs.getD n .undef = .agg cs)(hm:ms.getD sa.toNat .undef = .agg cm)(hn:n=m):¬ cN (.agg cs) 10=cN (.agg cm) 1:=by
 subst hn;rw[<-hx,<-hm];exact h
theorem PK(h:n<=2):n=0\/n=1\/n=2:=by omega
theorem M8{f:Option α}[h:Bt b P N](k:P->Tt e Q)(l:N->Tt f Q):Tt (aK.match_1 (λ_=>Option α) b (λ_=>e) (λ_=>f)) Q:=M9 (λq=>k (h.p q)) (λq=>l (h.n q))
theorem Na{f:Option α}[h:Bt b P N](q:P)(k:Tt e Q):Tt (aK.match_1 (λ_=>Option α) b (λ_=>e) (λ_=>f)) Q:=M9 (λ_=>k) (λr=>absurd (h.t q) (by rw[r];exact Bool.false_ne_true))
theorem M_{f:Option α}[h:Bt b P N](q:¬ P)(l:Tt f Q):Tt (aK.match_1 (λ_=>Option α) b (λ_=>e) (λ_=>f)) Q:=M9 (λr=>absurd (h.p r) q) (λ_=>l)
theorem HY{a b:AV}(hn:n<2)(h:Tt (AV.dt a f) Q)(k:Tt (AV.dt b f) Q):Tt (AV.dt ([a,b].getD n .undef) f) Q:=by
 match n,hn with
 | 0,_=>exact h
 | 1,_=>exact k
theorem H3{a b c:AV}{f:Int->Option α}(hn:n<3)(h:Tt (AV.aw k a f) Q)(g:Tt (AV.aw k b f) Q)(i:Tt (AV.aw k c f) Q):Tt (AV.aw k ([a,b,c].getD n .undef) f) Q:=by
 match n,hn with
 | 0,_=>exact h
 | 1,_=>exact g
 | 2,_=>exact i
theorem U3(b:UInt8):(UInt8.ofNat (((b.toNat:Int)).tmod ((UInt8.ofNat (Int.toNat 2)).toNat:Int)).toNat).toNat<2:=by have:=ac6 b;omega
theorem RO{A:(α->Prop)->Prop}{x:α}(h:∀ D:α->Prop,A D->D x):∀ D:α->Prop,A D->D x:=h
theorem PU{v:Int}(h:v<2)(h0:0<=v)(a:v=0->P)(b:v=1->P):P:=by
 have:v=0\/v=1:=by omega
 exact this.elim a b
theorem PV{v:Int}(h:v<3)(h0:0<=v)(a:v=0->P)(b:v=1->P)(c:v=2->P):P:=by
 have:v=0\/v=1\/v=2:=by omega
 exact this.elim a λh=>h.elim b c
theorem Ho(n:Int):0<=Kerb.tM n/\Kerb.tM n<=18446744073709551615:=by unfold Kerb.tM;exact Lg _
theorem yg(n:Int):0<=Kerb.ah n/\Kerb.ah n<=18446744073709551615:=by unfold Kerb.ah;exact Lg _
theorem D3{j:Nat}{x:AV}(hj:j<l.length)(k:Tt (AV.dt x f) Q):Tt (AV.dt ((l.set j x).getD j .undef) f) Q:=by
 have:(l.set j x).getD j .undef=x:=by simp[List.getD,hj]
 rw[this];exact k
end Go.Abs
