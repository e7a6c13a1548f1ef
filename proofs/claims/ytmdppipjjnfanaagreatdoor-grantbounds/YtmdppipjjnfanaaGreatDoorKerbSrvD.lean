/- Data of the statements of chapter 23: databases, requests. -/
import Derived.Test.YtmdppipjjnfanaaGreatDoorKerbSrv
namespace Kerb
open Go Go.Abs
set_option linter.unusedVariables false
def simpleEnt (i:Int) (p:Prin) (life expires bad:UInt8):Entry :=
 ⟨p.name,p.inst,long i,3+i,if u8i bad % 16=8+i then 1000+u8i expires*100 else 0,u8i life,if u8i bad % 16=i then 1+u8i bad / 16 % 3 else 0,0,0⟩
def simpleDb (life expires bad:UInt8):Db :=
 ⟨[65,84,72],[simpleEnt 0 (user 0) life expires bad,simpleEnt 1 (user 1) life expires bad,simpleEnt 2 (user 2) life expires bad,simpleEnt 3 (service 2) life expires bad,simpleEnt 4 (service 0) life expires bad,simpleEnt 5 (service 1) life expires bad]⟩
def Entry.leq (x e:Entry):Bool:=Op.bytesLess x.name e.name||(x.name==e.name&&(Op.bytesLess x.inst e.inst||x.inst==e.inst))
structure KAsk where
 op:UInt8
 user:UInt8
 service:UInt8
 session:UInt8
 new:UInt8
 time:UInt8
 stop:UInt8
 issued:UInt8
 life:UInt8
 address:UInt8
 wrong:UInt8
 old:UInt8
 how:Int
namespace KAsk
def kop (a:KAsk):Int:=1+u8i a.op % 3
def w (a:KAsk):Int:=u8i a.wrong % 16
def tm (a:KAsk):Int:=1000+u8i a.time
def pick3 (l0 l1 l2:Bytes) (n:Int):Bytes:=if n=0 then l0 else if n=1 then l1 else l2
def label (a:KAsk):Bytes:=if a.w=1 then pick3 lTicket lChange lGet (a.kop-1) else pick3 lGet lTicket lChange (a.kop-1)
def secret (a:KAsk):KaSecret :=
 if a.label=lChange then ⟨a.label,a.tm,0,0,if a.w=2 then Kerb.session 5 else long (30+u8i a.new % 3)⟩
 else ⟨a.label,a.tm,a.tm,a.tm+u8i a.stop*50,0⟩
def body (a:KAsk):Bytes:=if a.w=3 then (encodeKaSecret a.secret).val++[0] else (encodeKaSecret a.secret).val
def u (a:KAsk):Int:=u8i a.user % 3
def tkt (a:KAsk):Ticket :=
 ⟨false,if a.w=5 then Kerb.user (3+a.u) else Kerb.user a.u,u8i a.address % 2,Kerb.session (u8i a.session % 4),u8i a.life % 40,1000+u8i a.issued,krbtgt,if a.w=6 then [66,79,83] else [65,84,72]⟩
def sealed (a:KAsk):Bytes:=(sealTicket a.tkt (if a.w=8 then long 4 else long 3)).val
def want (a:KAsk):Prin:=if a.w=11 then tgs [65,84,72] [66,79,83] else Kerb.service (u8i a.service % 3)
def key (a:KAsk):Int :=
 if a.w=7 then long 99 else if a.kop=2 then Kerb.session (u8i a.session % 4) else if u8i a.old % 4=3 then long (30+u8i a.old / 4 % 3) else long a.u
def box (a:KAsk):Bytes:=(makeBox 7 a.key a.body).val
def req (a:KAsk):KaRequest :=
 if a.kop=2 then ⟨2,noPrin,if a.w=10 then 5 else 6,if a.w=9 then [66,79,83] else [65,84,72],a.sealed,a.want.name,a.want.inst,a.box⟩
 else ⟨a.kop,if a.w=4 then Kerb.user (3+u8i a.user % 6) else Kerb.user a.u,0,[],[],[],[],a.box⟩
def message (a:KAsk):Bytes:=if a.w=15 then spoil (encodeKaRequest a.req).val a.how else (encodeKaRequest a.req).val
end KAsk
namespace KAsk
end KAsk
end Kerb
