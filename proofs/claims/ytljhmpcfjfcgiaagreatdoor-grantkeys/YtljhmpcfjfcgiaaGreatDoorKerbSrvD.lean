/- Data of the statements of chapter 23: databases, requests. -/
import Derived.Test.YtljhmpcfjfcgiaaGreatDoorKerbSrv
namespace Kerb
open Go Go.Abs
set_option linter.unusedVariables false
def simpleEnt (i:Int) (p:Prin) (life expires bad:UInt8):Entry :=
 ⟨p.name,p.inst,long i,3+i,if u8i bad % 16=8+i then 1000+u8i expires*100 else 0,u8i life,if u8i bad % 16=i then 1+u8i bad / 16 % 3 else 0,0,0⟩
def simpleDb (life expires bad:UInt8):Db :=
 ⟨[65,84,72],[simpleEnt 0 (user 0) life expires bad,simpleEnt 1 (user 1) life expires bad,simpleEnt 2 (user 2) life expires bad,simpleEnt 3 (service 2) life expires bad,simpleEnt 4 (service 0) life expires bad,simpleEnt 5 (service 1) life expires bad]⟩
def eq1 (l:Bytes) (p:Int):Int:=nextPos l p 3
def eq2 (l:Bytes) (p:Int):Int:=nextPos l (eq1 l p) 2
def eq3 (l:Bytes) (p:Int):Int:=cond (next l (eq1 l p) 2==1) (nextPos l (eq2 l p) 3) (eq2 l p)
def eq4 (l:Bytes) (p:Int):Int:=nextPos l (eq3 l p) 40
def eq5 (l:Bytes) (p:Int):Int:=nextPos l (eq4 l p) 256
def eq6 (l:Bytes) (p:Int):Int:=nextPos l (eq5 l p) 256
def eq7 (l:Bytes) (p:Int):Int:=nextPos l (eq6 l p) 5
def eq8 (l:Bytes) (p:Int):Int:=nextPos l (eq7 l p) 4
def eq9 (l:Bytes) (p:Int):Int:=nextPos l (eq8 l p) 21
def eq10 (l:Bytes) (p:Int):Int:=nextPos l (eq9 l p) 5
def eq11 (l:Bytes) (p:Int):Int:=cond (next l (eq9 l p) 5==4) (nextPos l (eq10 l p) 256) (eq10 l p)
def eq12 (l:Bytes) (p:Int):Int:=nextPos l (eq11 l p) 9
def eq13 (l:Bytes) (p:Int):Int:=nextPos l (eq12 l p) 9
def dataEntPos (l:Bytes) (p:Int):Int:=cond (next l (eq12 l p) 9==8) (nextPos l (eq13 l p) 256) (eq13 l p)
def dataEntPrin (l:Bytes) (p:Int):Prin:=cond (next l (eq1 l p) 2==1) (service (next l (eq2 l p) 3)) (user (next l p 3))
def dataEnt (l:Bytes) (p:Int):Entry :=
  ⟨(dataEntPrin l p).name,(dataEntPrin l p).inst,cond (next l (eq11 l p) 9==8) 0 (long (next l (eq3 l p) 40)),next l (eq4 l p) 256,cond (next l (eq9 l p) 5==4) (next l (eq10 l p) 256*200) 0,next l (eq5 l p) 256,
   next l (eq6 l p) 5 / 4*next l (eq7 l p) 4,next l (eq8 l p) 21,cond (next l (eq12 l p) 9==8) (next l (eq13 l p) 256*100) 0⟩
def Entry.leq (x e:Entry):Bool:=Op.bytesLess x.name e.name||(x.name==e.name&&(Op.bytesLess x.inst e.inst||x.inst==e.inst))
def spotOf (l:List Entry) (e:Entry):Nat:=l.findIdx fun x => !x.leq e
def insEnt (l:List Entry) (e:Entry):List Entry:=l.take (spotOf l e)++[e]++l.drop (spotOf l e)
def dataDbL (l:Bytes):Nat→Int→List Entry→List Entry
 | 0,_,es=>es
 | n+1,p,es=>if p<(l.length:Int)∧es.length<60 then dataDbL l n (dataEntPos l p) (insEnt es (dataEnt l p)) else es
def dataDb (l:Bytes) (r:Int):Db:=⟨realm r,dataDbL l (l.length+1) 0 []⟩
structure KAsk where
 op:UInt8
 user:UInt8
 service:UInt8
 session:UInt8
 new:UInt8
 time:UInt8
 stop:UInt8
 issued:UInt8
 life:UInt8
 address:UInt8
 wrong:UInt8
 old:UInt8
 how:Int
namespace KAsk
def kop (a:KAsk):Int:=1+u8i a.op % 3
def w (a:KAsk):Int:=u8i a.wrong % 16
def tm (a:KAsk):Int:=1000+u8i a.time
def pick3 (l0 l1 l2:Bytes) (n:Int):Bytes:=if n=0 then l0 else if n=1 then l1 else l2
def label (a:KAsk):Bytes:=if a.w=1 then pick3 lTicket lChange lGet (a.kop-1) else pick3 lGet lTicket lChange (a.kop-1)
def secret (a:KAsk):KaSecret :=
 if a.label=lChange then ⟨a.label,a.tm,0,0,if a.w=2 then Kerb.session 5 else long (30+u8i a.new % 3)⟩
 else ⟨a.label,a.tm,a.tm,a.tm+u8i a.stop*50,0⟩
def body (a:KAsk):Bytes:=if a.w=3 then (encodeKaSecret a.secret).val++[0] else (encodeKaSecret a.secret).val
def u (a:KAsk):Int:=u8i a.user % 3
def tkt (a:KAsk):Ticket :=
 ⟨false,if a.w=5 then Kerb.user (3+a.u) else Kerb.user a.u,u8i a.address % 2,Kerb.session (u8i a.session % 4),u8i a.life % 40,1000+u8i a.issued,krbtgt,if a.w=6 then [66,79,83] else [65,84,72]⟩
def sealed (a:KAsk):Bytes:=(sealTicket a.tkt (if a.w=8 then long 4 else long 3)).val
def want (a:KAsk):Prin:=if a.w=11 then tgs [65,84,72] [66,79,83] else Kerb.service (u8i a.service % 3)
def key (a:KAsk):Int :=
 if a.w=7 then long 99 else if a.kop=2 then Kerb.session (u8i a.session % 4) else if u8i a.old % 4=3 then long (30+u8i a.old / 4 % 3) else long a.u
def box (a:KAsk):Bytes:=(makeBox 7 a.key a.body).val
def req (a:KAsk):KaRequest :=
 if a.kop=2 then ⟨2,noPrin,if a.w=10 then 5 else 6,if a.w=9 then [66,79,83] else [65,84,72],a.sealed,a.want.name,a.want.inst,a.box⟩
 else ⟨a.kop,if a.w=4 then Kerb.user (3+u8i a.user % 6) else Kerb.user a.u,0,[],[],[],[],a.box⟩
def message (a:KAsk):Bytes:=if a.w=15 then spoil (encodeKaRequest a.req).val a.how else (encodeKaRequest a.req).val
end KAsk
theorem spot_le (l:List Entry) (e:Entry):spotOf l e≤l.length:=List.findIdx_le_length
theorem spot_next {l:List Entry} {e:Entry} {j:Nat} (h:j≤spotOf l e) (hj:j<l.length) (hl:(l.getD j noEntry).leq e=true):j+1≤spotOf l e:=by
 rcases Nat.lt_or_ge j (spotOf l e) with h1 | h1
 ·exact h1
 ·have he:j=spotOf l e:=by omega
  subst he
  have hp:=List.findIdx_getElem (p:=fun x => !Entry.leq x e) (xs:=l) (w:=hj)
  have hg:l.getD (spotOf l e) noEntry=l[spotOf l e]:=by
   rw [List.getD_eq_getElem?_getD,List.getElem?_eq_getElem hj];rfl
  rw [hg] at hl
  have hp2:(!Entry.leq l[spotOf l e] e)=true:=hp
  rw [hl] at hp2
  cases hp2
theorem spot_here {l:List Entry} {e:Entry} {j:Nat} (h:j≤spotOf l e) (hj:j<l.length) (hl:(l.getD j noEntry).leq e=false):spotOf l e=j:=by
 rcases Nat.lt_or_ge j (spotOf l e) with h1 | h1
 ·have hp:=List.not_of_lt_findIdx (p:=fun x => !Entry.leq x e) (xs:=l) h1
  have hg:l.getD j noEntry=l[j]:=by
   rw [List.getD_eq_getElem?_getD,List.getElem?_eq_getElem hj];rfl
  rw [hg] at hl
  simp [hl] at hp
 ·omega
theorem ins_len (l:List Entry) (e:Entry):(insEnt l e).length=l.length+1:=by
 have:=spot_le l e
 unfold insEnt
 simp
 omega
theorem dataEntPos_step {l:Bytes} {q:Int} (h:0≤q) (hq:q<l.length):q<dataEntPos l q:=by
 have h1:eq1 l q=q+1:=nextPos_step h hq (by omega)
 have g:=nextPos_ge l
 have h2:eq1 l q≤eq2 l q:=g _ _
 have h3:eq2 l q≤eq3 l q:=by
  unfold eq3
  cases (next l (eq1 l q) 2==1)
  ·exact Int.le_refl _
  ·exact g _ _
 have h4:eq3 l q≤eq4 l q:=g _ _
 have h5:eq4 l q≤eq5 l q:=g _ _
 have h6:eq5 l q≤eq6 l q:=g _ _
 have h7:eq6 l q≤eq7 l q:=g _ _
 have h8:eq7 l q≤eq8 l q:=g _ _
 have h9:eq8 l q≤eq9 l q:=g _ _
 have h10:eq9 l q≤eq10 l q:=g _ _
 have h11:eq10 l q≤eq11 l q:=by
  unfold eq11
  cases (next l (eq9 l q) 5==4)
  ·exact Int.le_refl _
  ·exact g _ _
 have h12:eq11 l q≤eq12 l q:=g _ _
 have h13:eq12 l q≤eq13 l q:=g _ _
 have h14:eq13 l q≤dataEntPos l q:=by
  unfold dataEntPos
  cases (next l (eq12 l q) 9==8)
  ·exact Int.le_refl _
  ·exact g _ _
 omega
namespace KAsk
end KAsk
end Kerb
